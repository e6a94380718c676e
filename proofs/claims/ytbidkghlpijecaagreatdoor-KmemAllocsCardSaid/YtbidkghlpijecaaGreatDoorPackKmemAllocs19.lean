/-
  Texts of the claim KmemAllocs, part 19: what its theorem leans on.
-/
import Derived.Test.YtbidkghlpijecaaGreatDoorPackKmemAllocs2
import Derived.Test.YtbidkghlpijecaaGreatDoorPackKmemAllocs16
import Derived.Test.YtbidkghlpijecaaGreatDoorPackKmemAllocs17
import Derived.Test.YtbidkghlpijecaaGreatDoorPackKmemAllocs18
set_option linter.unusedVariables false
set_option linter.unusedSimpArgs false
namespace Go.Proofs.YtbidkghlpijecaaGreatDoor
open Go.RowKit
section
variable {P:Program} {n:Nat} {ops:Array Oper} {Q:Exit→Act→World→Prop} {fin ef f:Nat} {S2:World→Prop} {listed:Array Bool} {L:Env} {w:World}
theorem SF.two (i k:Nat) {o o':Oper} (hi:ops[i]?=some o) (hk:ops[k]?=some o') (hr:Region.ready .any ops listed=[i,k]) (hw:(!Nat.beq i ef && !Nat.beq i fin)=true) (yv:(!Nat.beq k ef && !Nat.beq k fin)=true)
 (h:SW P n ops (.ff (EF P n ops Q fin ef S2 f (listed.setIfInBounds i true) w)) [o] L w) (h':SW P n ops (.ff (EF P n ops Q fin ef S2 f (listed.setIfInBounds k true) w)) [o'] L w) : SF P n ops Q fin ef S2 (f+1) listed L w :=
 ⟨fun a ha inv=>⟨by rw [hr];simp,fun j hj=>by
  have uM:=hj;rw [hr] at uM;simp only [List.mem_cons,List.not_mem_nil,or_false] at uM;rcases uM with rfl|rfl
  ·obtain ⟨n1,n2⟩:=EG hw;have cf:j<ops.size:=(Array.getElem?_eq_some_iff.1 hi).1
   refine ⟨cf,o6 (Q1:=EF P n ops Q fin ef S2 f (listed.setIfInBounds j true) w) hi (fun e a w ne h=>by cases e<;>first|exact h|exact absurd rfl ne) (fun h=>h) (fun a' w' hh=>⟨fun e=>absurd e n1,fun _ e=>absurd e n2,fun _ _=>⟨hh.1,lh f (fun FC Ez=>Ext.trans hh.1 Ez) _ _ _ (hh.2 (inv.set hj cf))⟩⟩) (h.out a ha)⟩
  ·obtain ⟨n1,n2⟩:=EG yv;have cf:j<ops.size:=(Array.getElem?_eq_some_iff.1 hk).1
   refine ⟨cf,o6 (Q1:=EF P n ops Q fin ef S2 f (listed.setIfInBounds j true) w) hk (fun e a w ne h=>by cases e<;>first|exact h|exact absurd rfl ne) (fun h=>h) (fun a' w' hh=>⟨fun e=>absurd e n1,fun _ e=>absurd e n2,fun _ _=>⟨hh.1,lh f (fun FC Ez=>Ext.trans hh.1 Ez) _ _ _ (hh.2 (inv.set hj cf))⟩⟩) (h'.out a ha)⟩⟩⟩
theorem SF.Jz (k:Nat) {o o':Oper} (hi:ops[fin]?=some o) (hk:ops[k]?=some o') (hr:Region.ready .any ops listed=[fin,k]) (hw:Nat.beq fin ef=false) (yv:(!Nat.beq k ef && !Nat.beq k fin)=true)
 (h:SW P n ops (.ff (Gu P n ops Q fin ef S2 f (listed.setIfInBounds fin true))) [o] L w) (h':SW P n ops (.ff (EF P n ops Q fin ef S2 f (listed.setIfInBounds k true) w)) [o'] L w) : SF P n ops Q fin ef S2 (f+1) listed L w :=
 ⟨fun a ha inv=>⟨by rw [hr];simp,fun j hj=>by
  have uM:=hj;rw [hr] at uM;simp only [List.mem_cons,List.not_mem_nil,or_false] at uM;rcases uM with iL|rfl
  ·have n1:j≠ef:=fun e=>by rw [← iL,e] at hw;simp at hw
   subst iL;have cf:j<ops.size:=(Array.getElem?_eq_some_iff.1 hi).1
   exact ⟨cf,o6 (Q1:=Gu P n ops Q j ef S2 f (listed.setIfInBounds j true)) hi (fun e a w ne h=>by cases e<;>first|exact h|exact absurd rfl ne) (fun h=>h) (fun a' w' hh=>⟨fun e=>absurd e n1,fun _ _=>⟨hh.1,hh.2 (inv.set hj cf)⟩,fun _ n2=>absurd rfl n2⟩) (h.out a ha)⟩
  ·obtain ⟨n1,n2⟩:=EG yv;have cf:j<ops.size:=(Array.getElem?_eq_some_iff.1 hk).1
   refine ⟨cf,o6 (Q1:=EF P n ops Q fin ef S2 f (listed.setIfInBounds j true) w) hk (fun e a w ne h=>by cases e<;>first|exact h|exact absurd rfl ne) (fun h=>h) (fun a' w' hh=>⟨fun e=>absurd e n1,fun _ e=>absurd e n2,fun _ _=>⟨hh.1,lh f (fun FC Ez=>Ext.trans hh.1 Ez) _ _ _ (hh.2 (inv.set hj cf))⟩⟩) (h'.out a ha)⟩⟩⟩
theorem SG.jI (i:Nat) {d:Nat} {op:Op} {T:TypeId} {pos:String} {af:Array Edge} {v:Value} (hB:Region.noSelect ops=true) (hi:ops[i]?=some ⟨some d,op,T,pos,af,none⟩) (hf:Region.free .any ops listed i=true) (hr:(Region.ready .any ops listed).contains i=true) (hw:(!Nat.beq i ef && !Nat.beq i fin)=true) (hs:S2 w)
 (h1:∀ w2,St P ⟨some d,op,T,pos,af,none⟩ L w2 v) (hn:Nat.blt d n=true) (h:SG P n ops Q fin ef S2 f (listed.setIfInBounds i true) ((d,v)::L) w) : SG P n ops Q fin ef S2 (f+1) listed L w :=
 ⟨fun a ha inv=>by
  obtain ⟨n1,n2⟩:=EG hw;have my:i∈Region.ready .any ops listed:=by simpa using hr
  have cf:i<ops.size:=(Array.getElem?_eq_some_iff.1 hi).1
  exact j5 (T:=fun _=>True) hi (Region.noSelect_spec hB) n1 n2 (fun _ _ _ h=>(h:False).elim) (.inl fun _=>trivial) (.inl fun _ _=>trivial) f (fun _ _=>trivial) listed a w inv (Region.free_spec hi hf) my (v:=v)
   (.inl ⟨by simp [Region.wanted],fun w' _=>(h1 w').out n a ha w' (Ext.refl w')⟩) hs (h.out _ (ha.put hn v) (inv.set my cf))⟩
end
open Go.RowKit
def Fq (G:Nat→Prop) (wb w0:World) (b:Nat) (r:dQ) (s:aE) (i:Nat) (c:bf) (cpu:Nat) (v:Value) (w':World) : Prop :=
 ∃ u,di s.Heap (cpu:Int) c.Order 0 u ∧
  ((u.2.2≠0∧v = .tuple #[.int .i64 0,.int .i64 u.2.2]∧Ext w0 w')∨(u.2.2=0 ∧ ¬ gj s.Words.length (16*u.2.1) c.bg c.cm∧v = .tuple #[.int .i64 0,.int .i64 1]∧Ext w0 w') ∨
   (u.2.2=0∧gj s.Words.length (16*u.2.1) c.bg c.cm∧v = .tuple #[.int .i64 (lI c u.2.1:Int),.int .i64 0]∧Ext wb w'∧(∀ j x,j≠b→aJ w0 j 44 x→aJ w' j 44 x)∧(∀ j x,aJ w0 j 156 x→aJ w' j 156 x)∧(∀ j x,aJ w0 j 3 x→aJ w' j 3 x) ∧
    ∃ X H cs',aJ w' b 44 (aR ⟨X,H,r.aa⟩)∧SX w' wb.heap.size ⟨X,H,r.aa⟩ (ct (iI s (jc s.Words (16*u.2.1) c.bg c.cm)) i (u.1,eI c u.2.1)) cs'∧SJ G w' wb.heap.size ⟨X,H,r.aa⟩ (ct (iI s (jc s.Words (16*u.2.1) c.bg c.cm)) i (u.1,eI c u.2.1)) cs'))
set_option maxHeartbeats 8000000 in
theorem ye (G:Nat→Prop) (wb w0:World) (b:Nat) (r:dQ) (s:aE) (cs:List dr) (i cpu:Nat) (hf:s.kh) (hi:i<s.aa.length) (hM:nX s s.aa[i]) (pK:nR w0)
 (hx:Ext wb w0) (hb:aJ w0 b 44 (aR r)) (Fs:wb.heap.size≤b) (hS:SX w0 wb.heap.size r s cs) (Ft:∀ g,G g→g<w0.heap.size ∧ ∀ u∈cs,aU u.au.A u.au.c≠some g) (El:(s.aa[i].ai.length+1)*24≤140737488355328) :
 gX Tryz.prog 243 [.pointer (some ⟨b,0,none⟩),.int .i64 (i:Int),.int .i64 (cpu:Int)] w0 (Fq G wb w0 b r s i s.aa[i] cpu):=by
 refine dB Tryz.func243 rfl Tryz.ntmps243 rfl ?_;have h1:=hf.jh;have hm:=hM.most;have Ia:=hM.words;have Fu:=hS.Ax;have fy:=hx.size;have e0:=oK hi;obtain ⟨e1,e2⟩:=hS.len;have jE:i<cs.length:=by omega
 have cf:i<r.aa.n:=by omega
 have LP:=hS.row.sl.base;have Ht:=hS.words.len;have hC:=hS.each.get i jE hi;have rz:=hC.order;have vo:=hC.size;have rJ:=hC.ji;have q1:=hC.aS.len;have E0:=iZ hM.lay;have hw:=Ext.refl w0;clear hC;refine Wz ?_;refine CW.iS 15 17 (fun _=>True) mixed (by kernel_rfl) fun w1 ab aG => ?_
 replace hw:=Ext.trans hw ab;replace hb:=hb.ext ab;replace hS:=hS.ext ab;clear ab;refine SF.take 0 [] [] aG rfl (by kernel_rfl) (by kernel_rfl) (by kernel_rfl) ?_;repeat (refine SW.pure rfl rfl ?_)
 refine SW.ah ?_;refine SF.take 1 [] [] aG rfl (by kernel_rfl) (by kernel_rfl) (by kernel_rfl) ?_;repeat ((show SW _ _ _ _ (⟨_,Op.nilCheck _,_,_,_,none⟩::_) _ _;refine SW.st (aK rfl) rfl ?_))
 refine SW.ah ?_;refine SF.take 2 [] [] aG rfl (by kernel_rfl) (by kernel_rfl) (by kernel_rfl) ?_;repeat ((show SW _ _ _ _ (⟨_,Op.fieldAddr _ _ _,_,_,_,none⟩::_) _ _;refine SW.st (aD rfl) rfl ?_))
 refine SW.ah ?_;refine SF.take 3 [] [] aG rfl (by kernel_rfl) (by kernel_rfl) (by kernel_rfl) ?_;repeat ((show SW _ _ _ _ (⟨_,Op.load _ _,_,_,_,none⟩::_) _ _;refine SW.st (aW rfl rfl ((fY hb))) rfl ?_))
 refine SW.ah ?_;refine SF.take 4 [] [] aG rfl (by kernel_rfl) (by kernel_rfl) (by kernel_rfl) ?_;repeat (refine SW.pure rfl rfl ?_)
 refine SW.ah ?_;refine SF.take 5 [] [] aG rfl (by kernel_rfl) (by kernel_rfl) (by kernel_rfl) ?_;repeat (refine SW.pure rfl rfl ?_)
 refine SW.ah ?_;refine SF.take 6 [] [] aG rfl (by kernel_rfl) (by kernel_rfl) (by kernel_rfl) ?_;repeat ((show SW _ _ _ _ (⟨_,Op.nilCheck _,_,_,_,none⟩::_) _ _;refine SW.st (aK rfl) rfl ?_))
 refine SW.ah ?_;refine SF.take 7 [] [] aG rfl (by kernel_rfl) (by kernel_rfl) (by kernel_rfl) ?_;repeat ((show SW _ _ _ _ (⟨_,Op.fieldAddr _ _ _,_,_,_,none⟩::_) _ _;refine SW.st (aD rfl) rfl ?_))
 refine SW.ah ?_;refine SF.take 8 [] [] aG rfl (by kernel_rfl) (by kernel_rfl) (by kernel_rfl) ?_;repeat ((show SW _ _ _ _ (⟨_,Op.load _ _,_,_,_,none⟩::_) _ _;refine SW.st (ao rfl (hS.row.sl.dA cf (j:=3) (u := .int .i64 cs[i].Order) rfl)) rfl ?_))
 refine SW.ah ?_;refine SF.two 9 14 rfl rfl (by kernel_rfl) rfl rfl ?_ ?_
 ·refine SW.call rfl rfl (qF r.Heap s.Heap (cpu:Int) cs[i].Order 0 _ hS.heap.rd h1.small h1.ve (pK.ext hw)) fun v w4 aj hv => ?_
  obtain ⟨u,hu,H,rfl,hH⟩:=hv;replace hH:=hH.low hw.size;obtain ⟨e,he⟩ : ∃ e,u.2.2=e:=⟨_,rfl⟩;obtain ⟨at',gh⟩ : ∃ a,u.2.1=a:=⟨_,rfl⟩;rw [he,gh];(replace hw:=Ext.trans hw aj;replace hb:=hb.ext aj;replace hS:=hS.ext aj);try replace bk:=bk.ext aj
  refine SW.nil (ae.sf aj ?_);refine SF.take 10 [] [] aG rfl (by kernel_rfl) (by kernel_rfl) (by kernel_rfl) ?_;repeat (refine SW.pure rfl rfl ?_)
  refine SW.ah ?_;refine SF.take 11 [] [] aG rfl (by kernel_rfl) (by kernel_rfl) (by kernel_rfl) ?_;repeat (refine SW.pure rfl rfl ?_)
  refine SW.ah ?_;refine SF.dK 12 [] aG rfl (by kernel_rfl) (by kernel_rfl) (by kernel_rfl) (ba rfl) (fun w2 hS=>ba rfl) rfl ?_;refine SF.dK 13 [] aG rfl (by kernel_rfl) (by kernel_rfl) (by kernel_rfl) (ba rfl) (fun w2 hS=>ba rfl) rfl ?_;refine SF.one 14 rfl (by kernel_rfl) rfl ?_;refine SW.alloc rfl fun b9 w4 aj ox bk => ?_
  have ry:w0.heap.size≤b9:=Nat.le_trans hw.size ox
  try replace hH:=hH.ext aj
  (replace hw:=Ext.trans hw aj;replace hb:=hb.ext aj;replace hS:=hS.ext aj);refine SW.nil (ae.sf aj ?_);refine SF.turn rfl (by kernel_rfl) rfl ?_;refine SW.ak bk rfl rfl rfl rfl (cn H) fun w5 gi hg => ?_
  have hG:=bk.gr hg;replace hw:=hw.own ry hg;(replace hb:=hb.ay hG rfl;replace hH:=hH.ay hG rfl;replace hS:=hS.ay hG rfl);replace bk:=gi;clear gi hg hG;have JA:=hS;have hS:True:=trivial
  refine SW.nil (ae.sg hS ?_);refine SG.one 16 rfl (by kernel_rfl) rfl ?_;repeat (refine SW.pure rfl rfl ?_)
  refine SW.nil (ae.sg hS ?_);refine SG.last rfl (by kernel_rfl) (by kernel_rfl) ?_;replace hS:=JA;clear JA;rw [rz] at hu;by_cases Fv:e=0
  ·subst Fv;have qO:=hu.at_ he;rw [gh] at qO;refine Wz ?_;all_goals try omega
   by_cases hc:gj s.Words.length (16*at') s.aa[i].bg s.aa[i].cm
   ·refine CW.any 19 mixed (cj (by kernel_rfl)) rfl fun w1 ab aG => ?_
    replace hw:=Ext.trans hw ab;replace hb:=hb.ext ab;replace bk:=bk.ext ab;replace hH:=hH.ext ab;replace hS:=hS.ext ab;clear ab;refine SA.take 0 aG rfl (by kernel_rfl) (by kernel_rfl) rfl ?_;repeat (refine SW.pure rfl rfl ?_)
    refine SW.ah ?_;refine SA.take 1 aG rfl (by kernel_rfl) (by kernel_rfl) rfl ?_;repeat ((show SW _ _ _ _ (⟨_,Op.nilCheck _,_,_,_,none⟩::_) _ _;refine SW.st (aK rfl) rfl ?_))
    refine SW.ah ?_;refine SA.take 2 aG rfl (by kernel_rfl) (by kernel_rfl) rfl ?_;repeat ((show SW _ _ _ _ (⟨_,Op.fieldAddr _ _ _,_,_,_,none⟩::_) _ _;refine SW.st (aD rfl) rfl ?_))
    refine SW.ah ?_;refine SA.take 3 aG rfl (by kernel_rfl) (by kernel_rfl) rfl ?_;repeat ((show SW _ _ _ _ (⟨_,Op.load _ _,_,_,_,none⟩::_) _ _;refine SW.st (ao rfl (hb.cell (i:=0) (v := .slice r.Words.A r.Words.n r.Words.c) rfl)) rfl ?_))
    refine SW.ah ?_;refine SA.take 4 aG rfl (by kernel_rfl) (by kernel_rfl) rfl ?_;repeat (refine SW.pure rfl rfl ?_)
    refine SW.ah ?_;refine SA.take 5 aG rfl (by kernel_rfl) (by kernel_rfl) rfl ?_;repeat ((show SW _ _ _ _ (⟨_,Op.binOp _ _ _ _ _,_,_,_,none⟩::_) _ _;refine SW.st (iQ rfl rfl (by omega) (by omega)) rfl ?_))
    refine SW.ah ?_;refine SA.take 6 aG rfl (by kernel_rfl) (by kernel_rfl) rfl ?_;repeat (refine SW.pure rfl rfl ?_)
    refine SW.ah ?_;refine SA.take 7 aG rfl (by kernel_rfl) (by kernel_rfl) rfl ?_;repeat ((show SW _ _ _ _ (⟨_,Op.nilCheck _,_,_,_,none⟩::_) _ _;refine SW.st (aK rfl) rfl ?_))
    refine SW.ah ?_;refine SA.take 8 aG rfl (by kernel_rfl) (by kernel_rfl) rfl ?_;repeat ((show SW _ _ _ _ (⟨_,Op.fieldAddr _ _ _,_,_,_,none⟩::_) _ _;refine SW.st (aD rfl) rfl ?_))
    refine SW.ah ?_;refine SA.take 9 aG rfl (by kernel_rfl) (by kernel_rfl) rfl ?_;repeat ((show SW _ _ _ _ (⟨_,Op.load _ _,_,_,_,none⟩::_) _ _;refine SW.st (ao rfl (hS.row.sl.dA cf (j:=1) (u := .int .i64 cs[i].bg) rfl)) rfl ?_))
    refine SW.ah ?_;refine SA.take 10 aG rfl (by kernel_rfl) (by kernel_rfl) rfl ?_;repeat (refine SW.pure rfl rfl ?_)
    refine SW.ah ?_;refine SA.take 11 aG rfl (by kernel_rfl) (by kernel_rfl) rfl ?_;repeat ((show SW _ _ _ _ (⟨_,Op.nilCheck _,_,_,_,none⟩::_) _ _;refine SW.st (aK rfl) rfl ?_))
    refine SW.ah ?_;refine SA.take 12 aG rfl (by kernel_rfl) (by kernel_rfl) rfl ?_;repeat ((show SW _ _ _ _ (⟨_,Op.fieldAddr _ _ _,_,_,_,none⟩::_) _ _;refine SW.st (aD rfl) rfl ?_))
    refine SW.ah ?_;refine SA.take 13 aG rfl (by kernel_rfl) (by kernel_rfl) rfl ?_;repeat ((show SW _ _ _ _ (⟨_,Op.load _ _,_,_,_,none⟩::_) _ _;refine SW.st (ao rfl (hS.row.sl.dA cf (j:=2) (u := .int .i64 cs[i].cm) rfl)) rfl ?_))
    refine SW.ah ?_;refine SA.one 14 rfl (by kernel_rfl) rfl ?_;refine SW.call rfl rfl (nK r.Words.A r.Words.n r.Words.c s.Words (at'*16) cs[i].bg cs[i].cm _ hS.words.sl (by omega)) fun v w6 aj hv => ?_
    have kb:=hc;unfold gj at kb;rw [ia,show at'*16=16*at' by omega,vo,rJ,if_pos (by rw [Ht] at kb;exact kb)] at hv;obtain ⟨XA,Xc,rfl,hX⟩:=hv;replace hX:=hX.low hw.size;(replace hw:=Ext.trans hw aj;replace hb:=hb.ext aj;replace bk:=bk.ext aj;replace hH:=hH.ext aj;replace hS:=hS.ext aj);refine SW.nil (ae.sa aj ?_);refine SA.take 15 aG rfl (by kernel_rfl) (by kernel_rfl) rfl ?_;repeat (refine SW.pure rfl rfl ?_)
    refine SW.ah ?_;refine SA.take 16 aG rfl (by kernel_rfl) (by kernel_rfl) rfl ?_;repeat (refine SW.pure rfl rfl ?_)
    refine SW.ah ?_;refine SA.take 17 aG rfl (by kernel_rfl) (by kernel_rfl) rfl ?_;repeat (refine SW.pure rfl rfl ?_)
    refine SW.ah ?_;refine SA.take 18 aG rfl (by kernel_rfl) (by kernel_rfl) rfl ?_;repeat (refine SW.pure rfl rfl ?_)
    refine SW.ah ?_;refine SA.done (by kernel_rfl) ?_;refine Wz ?_;refine SW.lJ 1 hb rfl rfl rfl (Nat.le_of_ble_eq_true rfl) (cn H) (aR ⟨r.Words,H,r.aa⟩) rfl fun w7 jJ hg => ?_
    have hG:=hb.gr hg;have re:∀ j x,j≠b→aJ w0 j 44 x→aJ w7 j 44 x:=fun j x hj h=>(h.ext hw).grown hg (by simpa using hj)
    have ul:∀ j x,aJ w0 j 156 x→aJ w7 j 156 x:=fun j x h=>(h.ext hw).ay hG rfl
    have rm:∀ j x,aJ w0 j 3 x→aJ w7 j 3 x:=fun j x h=>(h.ext hw).ay hG rfl
    replace hx:=(hx.trans hw).own Fs hg;(replace hH:=hH.ay hG rfl;replace hX:=hX.ay hG rfl;replace hS:=hS.ay hG rfl);refine Wz ?_;refine SW.bA (i:=0) jJ rfl rfl rfl rfl fun w8 DR hg => ?_
    have hG:=jJ.gr hg;replace re:∀ j x,j≠b→aJ w0 j 44 x→aJ w8 j 44 x:=fun j x hj h=>(re j x hj h).grown hg (by simpa using hj)
    replace ul:∀ j x,aJ w0 j 156 x→aJ w8 j 156 x:=fun j x h=>(ul j x h).ay hG rfl
    replace rm:∀ j x,aJ w0 j 3 x→aJ w8 j 3 x:=fun j x h=>(rm j x h).ay hG rfl
    replace hx:=hx.own Fs hg;(replace hH:=hH.ay hG rfl;replace hX:=hX.ay hG rfl;replace hS:=hS.ay hG rfl);replace hb:aJ w8 b 44 (aR ⟨⟨XA,r.Words.n,Xc⟩,H,r.aa⟩):=DR;rw [← e0] at hS;obtain ⟨jt,jR⟩:=nW.fresh (p:=(s.Heap,s.aa[i])) (X:=⟨XA,r.Words.n,Xc⟩) (H:=H) (h':=u.1) (m:=w0.heap.size) hS fy Fu Ft hX hH;clear hS hX hH hw hG hg jJ DR bk;have hw:=Ext.refl w8;refine Wz ?_
    refine CW.loop (fun k:Nat=>[(8,.pointer (some ((r.aa.A.getD default).add (i*6)))),(10,.int .i64 at'),(13,.int .i64 (k:Int))])
     (fun k w'=>w'=w8∧k≤cs[i].ai.n ∧ ∀ (j:Nat) (hj:j<s.aa[i].ai.length),j<k→s.aa[i].ai[j].At<at') (fun k=>cs[i].ai.n-k) 0
     ⟨rfl,rfl,rfl,trivial⟩ ⟨rfl,Nat.zero_le _,fun j hj h=>by omega⟩ ?_
    rintro k w' ⟨Jo,hk,de⟩
    subst Jo;have oN:=jt.get jE hi;simp only at oN;have Kq:=oN.aS.sl.base;by_cases cb:k<cs[i].ai.n
    ·have dk:k<s.aa[i].ai.length:=by omega
     obtain ⟨y,hy⟩ : ∃ y,s.aa[i].ai[k]=y:=⟨_,rfl⟩;have gA:=oN.aS.sl.dA cb (j:=0) (show (aY (s.aa[i].ai[k]'(by omega)))[0]?=some (Value.int .i64 y.At) by rw [hy];rfl);by_cases Gb:y.At<at'
     ·repeat' (first|refine Wz ?_|refine SW.st (ao rfl (jt.row.sl.dA cf (j:=4) (u := .slice cs[i].ai.A cs[i].ai.n cs[i].ai.c) rfl)) rfl ?_|refine SW.st (ao rfl gA) rfl ?_)
      all_goals try omega
      exact ae.again (k+1) ⟨rfl,rfl,rfl,trivial⟩ (by omega) ⟨rfl,by omega,fun j hj h=>by
       by_cases e:j=k
       ·subst e;rw [hy];exact Gb
       ·exact de j hj (by omega)⟩
     ·have uG:lI s.aa[i] at'=k:=nL (by omega) de (fun h=>by rw [hy];exact Gb)
      repeat' (first|refine Wz ?_|refine SW.st (ao rfl (jt.row.sl.dA cf (j:=4) (u := .slice cs[i].ai.A cs[i].ai.n cs[i].ai.c) rfl)) rfl ?_|refine SW.st (ao rfl gA) rfl ?_)
      all_goals try omega
      refine CW.iS 15 18 (fun _=>True) mixed (by kernel_rfl) fun w1 ab aG => ?_
      replace hw:=Ext.trans hw ab;replace hb:=hb.ext ab;replace jt:=jt.ext ab;replace jR:=jR.ext ab;clear ab;refine SF.dK 0 [] aG rfl (by kernel_rfl) (by kernel_rfl) (by kernel_rfl) (ba rfl) (fun w2 hS=>ba rfl) rfl ?_;refine SF.take 1 [4,3,2] [] aG rfl (by kernel_rfl) (by kernel_rfl) (by kernel_rfl) ?_;repeat (refine SW.pure rfl rfl ?_)
      refine SW.ah ?_;refine SF.take 2 [4,3] [] aG rfl (by kernel_rfl) (by kernel_rfl) (by kernel_rfl) ?_;repeat ((show SW _ _ _ _ (⟨_,Op.nilCheck _,_,_,_,none⟩::_) _ _;refine SW.st (aK rfl) rfl ?_))
      refine SW.ah ?_;refine SF.take 3 [4] [] aG rfl (by kernel_rfl) (by kernel_rfl) (by kernel_rfl) ?_;repeat ((show SW _ _ _ _ (⟨_,Op.fieldAddr _ _ _,_,_,_,none⟩::_) _ _;refine SW.st (aD rfl) rfl ?_))
      refine SW.ah ?_;refine SF.take 4 [] [] aG rfl (by kernel_rfl) (by kernel_rfl) (by kernel_rfl) ?_;repeat ((show SW _ _ _ _ (⟨_,Op.load _ _,_,_,_,none⟩::_) _ _;refine SW.st (ao rfl (jt.row.sl.dA cf (j:=4) (u := .slice cs[i].ai.A cs[i].ai.n cs[i].ai.c) rfl)) rfl ?_))
      refine SW.ah ?_;refine SF.take 5 [] [] aG rfl (by kernel_rfl) (by kernel_rfl) (by kernel_rfl) ?_;repeat (refine SW.pure rfl rfl ?_)
      refine SW.ah ?_;refine SF.take 6 [14,13] [] aG rfl (by kernel_rfl) (by kernel_rfl) (by kernel_rfl) ?_;repeat (refine SW.pure rfl rfl ?_)
      refine SW.ah ?_;refine SF.take 7 [14,13,10,9,8] [] aG rfl (by kernel_rfl) (by kernel_rfl) (by kernel_rfl) ?_;repeat (refine SW.pure rfl rfl ?_)
      refine SW.ah ?_;refine SF.take 8 [14,13,10,9] [] aG rfl (by kernel_rfl) (by kernel_rfl) (by kernel_rfl) ?_;repeat ((show SW _ _ _ _ (⟨_,Op.nilCheck _,_,_,_,none⟩::_) _ _;refine SW.st (aK rfl) rfl ?_))
      refine SW.ah ?_;refine SF.take 9 [14,13,10] [] aG rfl (by kernel_rfl) (by kernel_rfl) (by kernel_rfl) ?_;repeat ((show SW _ _ _ _ (⟨_,Op.fieldAddr _ _ _,_,_,_,none⟩::_) _ _;refine SW.st (aD rfl) rfl ?_))
      refine SW.ah ?_;refine SF.take 10 [14,13] [] aG rfl (by kernel_rfl) (by kernel_rfl) (by kernel_rfl) ?_;repeat ((show SW _ _ _ _ (⟨_,Op.load _ _,_,_,_,none⟩::_) _ _;refine SW.st (ao rfl (jt.row.sl.dA cf (j:=2) (u := .int .i64 cs[i].cm) rfl)) rfl ?_))
      refine SW.ah ?_;refine SF.take 11 [14,13,12] [] aG rfl (by kernel_rfl) (by kernel_rfl) (by kernel_rfl) ?_;repeat (refine SW.pure rfl rfl ?_)
      refine SW.ah ?_;refine SF.take 12 [14,13] [] aG rfl (by kernel_rfl) (by kernel_rfl) (by kernel_rfl) ?_;repeat ((show SW _ _ _ _ (⟨_,Op.binOp _ _ _ _ _,_,_,_,none⟩::_) _ _;refine SW.st (iQ rfl rfl (by omega) (by omega)) rfl ?_))
      refine SW.ah ?_;refine SF.take 13 [14] [] aG rfl (by kernel_rfl) (by kernel_rfl) (by kernel_rfl) ?_;repeat ((show SW _ _ _ _ (⟨_,Op.build _ _,_,_,_,none⟩::_) _ _;refine SW.st (fR rfl rfl) rfl ?_))
      refine SW.ah ?_;refine SF.one 14 rfl (by kernel_rfl) rfl ?_;refine SW.bK rfl rfl rfl rfl rfl fun bn w9 aj JB DS => ?_
      have m9:aU cs[i].ai.A cs[i].ai.c≠some bn:=fun e=>absurd ((jt.get jE hi).aS.lt_size _ e) (by omega)
      (replace hw:=Ext.trans hw aj;replace hb:=hb.ext aj;replace jt:=jt.ext aj;replace jR:=jR.ext aj);refine SW.nil (ae.sf aj ?_);refine SF.turn rfl (by kernel_rfl) rfl ?_;have oN:=jt.get jE hi;simp only at oN;refine SW.da rfl rfl (iJ _ _ _ wb.heap.size s.aa[i].ai _ oN.aS k (by omega) ⟨at',cs[i].cm,at'*16⟩ bn DS m9 (by omega) (Nat.le_trans hx.size hw.size)) fun v mw hv => ?_
      obtain ⟨A2,c2,rfl,gB,hg,Hu⟩:=hv;have hG:=oN.aS.gr hg;have DT:=jt.nI jE hi gB hg Hu;have zJ:=aF (hx.trans hw) hg (Nat.le_refl _) oN.aS.aM;have zK:∀ j x,j≠b→aJ w0 j 44 x→aJ mw j 44 x:=fun j x hj h=>((re j x hj h).ext hw).ay hG rfl
      have zL:∀ j x,aJ w0 j 156 x→aJ mw j 156 x:=fun j x h=>((ul j x h).ext hw).ay hG rfl
      have zM:∀ j x,aJ w0 j 3 x→aJ mw j 3 x:=fun j x h=>((rm j x h).ext hw).ay hG rfl
      (replace hb:=hb.ay hG rfl;replace jR:=jR.ay hG rfl);have hS:True:=trivial
      refine SW.nil (ae.sg hS ?_);refine SG.one 16 rfl (by kernel_rfl) rfl ?_;repeat ((show SW _ _ _ _ (⟨_,Op.nilCheck _,_,_,_,none⟩::_) _ _;refine SW.st (aK rfl) rfl ?_))
      refine SW.nil (ae.sg hS ?_);refine SG.one 17 rfl (by kernel_rfl) rfl ?_;repeat ((show SW _ _ _ _ (⟨_,Op.fieldAddr _ _ _,_,_,_,none⟩::_) _ _;refine SW.st (aD rfl) rfl ?_))
      refine SW.nil (ae.sg hS ?_);refine SG.last rfl (by kernel_rfl) (by kernel_rfl) ?_;have dw:=DT.row;refine SW.gR i 4 ⟨cs[i].Names,cs[i].bg,cs[i].cm,cs[i].Order,⟨A2,cs[i].ai.n+1,c2⟩,cs[i].au⟩ dw rfl rfl rfl cf (by decide) rfl rfl fun qG fL oO => ?_
      have kv:=dw.gr oO;have Hv:=DT.qB fL oO;replace zJ:=aF zJ oO (Nat.le_refl _) dw.aM;(replace hb:=hb.ay kv rfl;replace jR:=jR.ay kv rfl)
      have DU:=jR.rows (s':=ct (iI s (jc s.Words (16*at') s.aa[i].bg s.aa[i].cm)) i (u.1,eI s.aa[i] at')) (cs':=cs.set i ⟨cs[i].Names,cs[i].bg,cs[i].cm,cs[i].Order,⟨A2,cs[i].ai.n+1,c2⟩,cs[i].au⟩) rfl (fun u hu=>by
       rcases List.mem_or_eq_of_mem_set hu with hu|rfl
       ·exact ⟨u,hu,rfl⟩
       ·exact ⟨cs[i],List.getElem_mem jE,rfl⟩)
      have pR:eI s.aa[i] at'=⟨s.aa[i].Names,s.aa[i].bg,s.aa[i].cm,s.aa[i].Order,aV s.aa[i].ai k ⟨at',cs[i].cm,at'*16⟩,s.aa[i].au⟩:=by
       unfold eI;rw [uG,rJ,show at'*16=16*at' by omega]
      refine Wz ?_;refine ae.cx rfl rfl rfl ⟨_,rfl,u,hu,.inr (.inr ⟨he,by rw [gh];exact hc,by rw [gh,uG],zJ,fun j x hj h=>(zK j x hj h).ay kv rfl,fun j x h=>(zL j x h).ay kv rfl,fun j x h=>(zM j x h).ay kv rfl,⟨XA,r.Words.n,Xc⟩,H,_,hb,?_,by rw [gh];exact DU⟩)⟩;rw [gh,pR];exact Hv
    ·have wy:k=cs[i].ai.n:=by omega
     have uG:lI s.aa[i] at'=k:=nL (by omega) (fun j hj h=>de j hj (by omega)) (fun h=>by omega)
     repeat' (first|refine Wz ?_|refine SW.st (ao rfl (jt.row.sl.dA cf (j:=4) (u := .slice cs[i].ai.A cs[i].ai.n cs[i].ai.c) rfl)) rfl ?_)
     all_goals try omega
     refine CW.iS 15 18 (fun _=>True) mixed (by kernel_rfl) fun w1 ab aG => ?_
     replace hw:=Ext.trans hw ab;replace hb:=hb.ext ab;replace jt:=jt.ext ab;replace jR:=jR.ext ab;clear ab;refine SF.dK 0 [] aG rfl (by kernel_rfl) (by kernel_rfl) (by kernel_rfl) (ba rfl) (fun w2 hS=>ba rfl) rfl ?_;refine SF.take 1 [4,3,2] [] aG rfl (by kernel_rfl) (by kernel_rfl) (by kernel_rfl) ?_;repeat (refine SW.pure rfl rfl ?_)
     refine SW.ah ?_;refine SF.take 2 [4,3] [] aG rfl (by kernel_rfl) (by kernel_rfl) (by kernel_rfl) ?_;repeat ((show SW _ _ _ _ (⟨_,Op.nilCheck _,_,_,_,none⟩::_) _ _;refine SW.st (aK rfl) rfl ?_))
     refine SW.ah ?_;refine SF.take 3 [4] [] aG rfl (by kernel_rfl) (by kernel_rfl) (by kernel_rfl) ?_;repeat ((show SW _ _ _ _ (⟨_,Op.fieldAddr _ _ _,_,_,_,none⟩::_) _ _;refine SW.st (aD rfl) rfl ?_))
     refine SW.ah ?_;refine SF.take 4 [] [] aG rfl (by kernel_rfl) (by kernel_rfl) (by kernel_rfl) ?_;repeat ((show SW _ _ _ _ (⟨_,Op.load _ _,_,_,_,none⟩::_) _ _;refine SW.st (ao rfl (jt.row.sl.dA cf (j:=4) (u := .slice cs[i].ai.A cs[i].ai.n cs[i].ai.c) rfl)) rfl ?_))
     refine SW.ah ?_;refine SF.take 5 [] [] aG rfl (by kernel_rfl) (by kernel_rfl) (by kernel_rfl) ?_;repeat (refine SW.pure rfl rfl ?_)
     refine SW.ah ?_;refine SF.take 6 [14,13] [] aG rfl (by kernel_rfl) (by kernel_rfl) (by kernel_rfl) ?_;repeat (refine SW.pure rfl rfl ?_)
     refine SW.ah ?_;refine SF.take 7 [14,13,10,9,8] [] aG rfl (by kernel_rfl) (by kernel_rfl) (by kernel_rfl) ?_;repeat (refine SW.pure rfl rfl ?_)
     refine SW.ah ?_;refine SF.take 8 [14,13,10,9] [] aG rfl (by kernel_rfl) (by kernel_rfl) (by kernel_rfl) ?_;repeat ((show SW _ _ _ _ (⟨_,Op.nilCheck _,_,_,_,none⟩::_) _ _;refine SW.st (aK rfl) rfl ?_))
     refine SW.ah ?_;refine SF.take 9 [14,13,10] [] aG rfl (by kernel_rfl) (by kernel_rfl) (by kernel_rfl) ?_;repeat ((show SW _ _ _ _ (⟨_,Op.fieldAddr _ _ _,_,_,_,none⟩::_) _ _;refine SW.st (aD rfl) rfl ?_))
     refine SW.ah ?_;refine SF.take 10 [14,13] [] aG rfl (by kernel_rfl) (by kernel_rfl) (by kernel_rfl) ?_;repeat ((show SW _ _ _ _ (⟨_,Op.load _ _,_,_,_,none⟩::_) _ _;refine SW.st (ao rfl (jt.row.sl.dA cf (j:=2) (u := .int .i64 cs[i].cm) rfl)) rfl ?_))
     refine SW.ah ?_;refine SF.take 11 [14,13,12] [] aG rfl (by kernel_rfl) (by kernel_rfl) (by kernel_rfl) ?_;repeat (refine SW.pure rfl rfl ?_)
     refine SW.ah ?_;refine SF.take 12 [14,13] [] aG rfl (by kernel_rfl) (by kernel_rfl) (by kernel_rfl) ?_;repeat ((show SW _ _ _ _ (⟨_,Op.binOp _ _ _ _ _,_,_,_,none⟩::_) _ _;refine SW.st (iQ rfl rfl (by omega) (by omega)) rfl ?_))
     refine SW.ah ?_;refine SF.take 13 [14] [] aG rfl (by kernel_rfl) (by kernel_rfl) (by kernel_rfl) ?_;repeat ((show SW _ _ _ _ (⟨_,Op.build _ _,_,_,_,none⟩::_) _ _;refine SW.st (fR rfl rfl) rfl ?_))
     refine SW.ah ?_;refine SF.one 14 rfl (by kernel_rfl) rfl ?_;refine SW.bK rfl rfl rfl rfl rfl fun bn w9 aj JB DS => ?_
     have m9:aU cs[i].ai.A cs[i].ai.c≠some bn:=fun e=>absurd ((jt.get jE hi).aS.lt_size _ e) (by omega)
     (replace hw:=Ext.trans hw aj;replace hb:=hb.ext aj;replace jt:=jt.ext aj;replace jR:=jR.ext aj);refine SW.nil (ae.sf aj ?_);refine SF.turn rfl (by kernel_rfl) rfl ?_;have oN:=jt.get jE hi;simp only at oN;refine SW.da rfl rfl (iJ _ _ _ wb.heap.size s.aa[i].ai _ oN.aS k (by omega) ⟨at',cs[i].cm,at'*16⟩ bn DS m9 (by omega) (Nat.le_trans hx.size hw.size)) fun v mw hv => ?_
     obtain ⟨A2,c2,rfl,gB,hg,Hu⟩:=hv;have hG:=oN.aS.gr hg;have DT:=jt.nI jE hi gB hg Hu;have zJ:=aF (hx.trans hw) hg (Nat.le_refl _) oN.aS.aM;have zK:∀ j x,j≠b→aJ w0 j 44 x→aJ mw j 44 x:=fun j x hj h=>((re j x hj h).ext hw).ay hG rfl
     have zL:∀ j x,aJ w0 j 156 x→aJ mw j 156 x:=fun j x h=>((ul j x h).ext hw).ay hG rfl
     have zM:∀ j x,aJ w0 j 3 x→aJ mw j 3 x:=fun j x h=>((rm j x h).ext hw).ay hG rfl
     (replace hb:=hb.ay hG rfl;replace jR:=jR.ay hG rfl);have hS:True:=trivial
     refine SW.nil (ae.sg hS ?_);refine SG.one 16 rfl (by kernel_rfl) rfl ?_;repeat ((show SW _ _ _ _ (⟨_,Op.nilCheck _,_,_,_,none⟩::_) _ _;refine SW.st (aK rfl) rfl ?_))
     refine SW.nil (ae.sg hS ?_);refine SG.one 17 rfl (by kernel_rfl) rfl ?_;repeat ((show SW _ _ _ _ (⟨_,Op.fieldAddr _ _ _,_,_,_,none⟩::_) _ _;refine SW.st (aD rfl) rfl ?_))
     refine SW.nil (ae.sg hS ?_);refine SG.last rfl (by kernel_rfl) (by kernel_rfl) ?_;have dw:=DT.row;refine SW.gR i 4 ⟨cs[i].Names,cs[i].bg,cs[i].cm,cs[i].Order,⟨A2,cs[i].ai.n+1,c2⟩,cs[i].au⟩ dw rfl rfl rfl cf (by decide) rfl rfl fun qG fL oO => ?_
     have kv:=dw.gr oO;have Hv:=DT.qB fL oO;replace zJ:=aF zJ oO (Nat.le_refl _) dw.aM;(replace hb:=hb.ay kv rfl;replace jR:=jR.ay kv rfl)
     have DU:=jR.rows (s':=ct (iI s (jc s.Words (16*at') s.aa[i].bg s.aa[i].cm)) i (u.1,eI s.aa[i] at')) (cs':=cs.set i ⟨cs[i].Names,cs[i].bg,cs[i].cm,cs[i].Order,⟨A2,cs[i].ai.n+1,c2⟩,cs[i].au⟩) rfl (fun u hu=>by
      rcases List.mem_or_eq_of_mem_set hu with hu|rfl
      ·exact ⟨u,hu,rfl⟩
      ·exact ⟨cs[i],List.getElem_mem jE,rfl⟩)
     have pR:eI s.aa[i] at'=⟨s.aa[i].Names,s.aa[i].bg,s.aa[i].cm,s.aa[i].Order,aV s.aa[i].ai k ⟨at',cs[i].cm,at'*16⟩,s.aa[i].au⟩:=by
      unfold eI;rw [uG,rJ,show at'*16=16*at' by omega]
     refine Wz ?_;refine ae.cx rfl rfl rfl ⟨_,rfl,u,hu,.inr (.inr ⟨he,by rw [gh];exact hc,by rw [gh,uG],zJ,fun j x hj h=>(zK j x hj h).ay kv rfl,fun j x h=>(zL j x h).ay kv rfl,fun j x h=>(zM j x h).ay kv rfl,⟨XA,r.Words.n,Xc⟩,H,_,hb,?_,by rw [gh];exact DU⟩)⟩;rw [gh,pR];exact Hv
   ·refine CW.any 19 mixed (cj (by kernel_rfl)) rfl fun w1 ab aG => ?_
    replace hw:=Ext.trans hw ab;replace hb:=hb.ext ab;replace bk:=bk.ext ab;replace hH:=hH.ext ab;replace hS:=hS.ext ab;clear ab;refine SA.take 0 aG rfl (by kernel_rfl) (by kernel_rfl) rfl ?_;repeat (refine SW.pure rfl rfl ?_)
    refine SW.ah ?_;refine SA.take 1 aG rfl (by kernel_rfl) (by kernel_rfl) rfl ?_;repeat ((show SW _ _ _ _ (⟨_,Op.nilCheck _,_,_,_,none⟩::_) _ _;refine SW.st (aK rfl) rfl ?_))
    refine SW.ah ?_;refine SA.take 2 aG rfl (by kernel_rfl) (by kernel_rfl) rfl ?_;repeat ((show SW _ _ _ _ (⟨_,Op.fieldAddr _ _ _,_,_,_,none⟩::_) _ _;refine SW.st (aD rfl) rfl ?_))
    refine SW.ah ?_;refine SA.take 3 aG rfl (by kernel_rfl) (by kernel_rfl) rfl ?_;repeat ((show SW _ _ _ _ (⟨_,Op.load _ _,_,_,_,none⟩::_) _ _;refine SW.st (ao rfl (hb.cell (i:=0) (v := .slice r.Words.A r.Words.n r.Words.c) rfl)) rfl ?_))
    refine SW.ah ?_;refine SA.take 4 aG rfl (by kernel_rfl) (by kernel_rfl) rfl ?_;repeat (refine SW.pure rfl rfl ?_)
    refine SW.ah ?_;refine SA.take 5 aG rfl (by kernel_rfl) (by kernel_rfl) rfl ?_;repeat ((show SW _ _ _ _ (⟨_,Op.binOp _ _ _ _ _,_,_,_,none⟩::_) _ _;refine SW.st (iQ rfl rfl (by omega) (by omega)) rfl ?_))
    refine SW.ah ?_;refine SA.take 6 aG rfl (by kernel_rfl) (by kernel_rfl) rfl ?_;repeat (refine SW.pure rfl rfl ?_)
    refine SW.ah ?_;refine SA.take 7 aG rfl (by kernel_rfl) (by kernel_rfl) rfl ?_;repeat ((show SW _ _ _ _ (⟨_,Op.nilCheck _,_,_,_,none⟩::_) _ _;refine SW.st (aK rfl) rfl ?_))
    refine SW.ah ?_;refine SA.take 8 aG rfl (by kernel_rfl) (by kernel_rfl) rfl ?_;repeat ((show SW _ _ _ _ (⟨_,Op.fieldAddr _ _ _,_,_,_,none⟩::_) _ _;refine SW.st (aD rfl) rfl ?_))
    refine SW.ah ?_;refine SA.take 9 aG rfl (by kernel_rfl) (by kernel_rfl) rfl ?_;repeat ((show SW _ _ _ _ (⟨_,Op.load _ _,_,_,_,none⟩::_) _ _;refine SW.st (ao rfl (hS.row.sl.dA cf (j:=1) (u := .int .i64 cs[i].bg) rfl)) rfl ?_))
    refine SW.ah ?_;refine SA.take 10 aG rfl (by kernel_rfl) (by kernel_rfl) rfl ?_;repeat (refine SW.pure rfl rfl ?_)
    refine SW.ah ?_;refine SA.take 11 aG rfl (by kernel_rfl) (by kernel_rfl) rfl ?_;repeat ((show SW _ _ _ _ (⟨_,Op.nilCheck _,_,_,_,none⟩::_) _ _;refine SW.st (aK rfl) rfl ?_))
    refine SW.ah ?_;refine SA.take 12 aG rfl (by kernel_rfl) (by kernel_rfl) rfl ?_;repeat ((show SW _ _ _ _ (⟨_,Op.fieldAddr _ _ _,_,_,_,none⟩::_) _ _;refine SW.st (aD rfl) rfl ?_))
    refine SW.ah ?_;refine SA.take 13 aG rfl (by kernel_rfl) (by kernel_rfl) rfl ?_;repeat ((show SW _ _ _ _ (⟨_,Op.load _ _,_,_,_,none⟩::_) _ _;refine SW.st (ao rfl (hS.row.sl.dA cf (j:=2) (u := .int .i64 cs[i].cm) rfl)) rfl ?_))
    refine SW.ah ?_;refine SA.one 14 rfl (by kernel_rfl) rfl ?_;refine SW.call rfl rfl (nK r.Words.A r.Words.n r.Words.c s.Words (at'*16) cs[i].bg cs[i].cm _ hS.words.sl (by omega)) fun v w6 aj hv => ?_
    have kb:=hc;unfold gj at kb;rw [ia,show at'*16=16*at' by omega,vo,rJ,if_neg (by rw [Ht] at kb;exact kb)] at hv;subst hv;(replace hw:=Ext.trans hw aj;replace hb:=hb.ext aj;replace bk:=bk.ext aj;replace hH:=hH.ext aj;replace hS:=hS.ext aj);refine SW.nil (ae.sa aj ?_);refine SA.take 15 aG rfl (by kernel_rfl) (by kernel_rfl) rfl ?_;repeat (refine SW.pure rfl rfl ?_)
    refine SW.ah ?_;refine SA.take 16 aG rfl (by kernel_rfl) (by kernel_rfl) rfl ?_;repeat (refine SW.pure rfl rfl ?_)
    refine SW.ah ?_;refine SA.take 17 aG rfl (by kernel_rfl) (by kernel_rfl) rfl ?_;repeat (refine SW.pure rfl rfl ?_)
    refine SW.ah ?_;refine SA.take 18 aG rfl (by kernel_rfl) (by kernel_rfl) rfl ?_;repeat (refine SW.pure rfl rfl ?_)
    refine SW.ah ?_;refine SA.done (by kernel_rfl) ?_;refine Wz ?_;exact ae.cx rfl rfl rfl ⟨_,rfl,u,hu,.inr (.inl ⟨he,by rw [gh];exact hc,rfl,hw⟩)⟩
  ·refine Wz ?_;all_goals try omega
   exact ae.cx rfl rfl rfl ⟨_,rfl,u,hu,.inl ⟨by rw [he];exact Fv,by rw [he];rfl,hw⟩⟩
 ·refine SW.alloc rfl fun b9 w4 aj ox bk => ?_
  have ry:w0.heap.size≤b9:=Nat.le_trans hw.size ox
  try replace hH:=hH.ext aj
  (replace hw:=Ext.trans hw aj;replace hb:=hb.ext aj;replace hS:=hS.ext aj);refine SW.nil (ae.sf aj ?_);refine SF.one 9 rfl (by kernel_rfl) rfl ?_;refine SW.call rfl rfl (qF r.Heap s.Heap (cpu:Int) cs[i].Order 0 _ hS.heap.rd h1.small h1.ve (pK.ext hw)) fun v w4 aj hv => ?_
  obtain ⟨u,hu,H,rfl,hH⟩:=hv;replace hH:=hH.low hw.size;obtain ⟨e,he⟩ : ∃ e,u.2.2=e:=⟨_,rfl⟩;obtain ⟨at',gh⟩ : ∃ a,u.2.1=a:=⟨_,rfl⟩;rw [he,gh];(replace hw:=Ext.trans hw aj;replace hb:=hb.ext aj;replace hS:=hS.ext aj);try replace bk:=bk.ext aj
  refine SW.nil (ae.sf aj ?_);refine SF.take 10 [] [] aG rfl (by kernel_rfl) (by kernel_rfl) (by kernel_rfl) ?_;repeat (refine SW.pure rfl rfl ?_)
  refine SW.ah ?_;refine SF.take 11 [] [] aG rfl (by kernel_rfl) (by kernel_rfl) (by kernel_rfl) ?_;repeat (refine SW.pure rfl rfl ?_)
  refine SW.ah ?_;refine SF.dK 12 [] aG rfl (by kernel_rfl) (by kernel_rfl) (by kernel_rfl) (ba rfl) (fun w2 hS=>ba rfl) rfl ?_;refine SF.dK 13 [] aG rfl (by kernel_rfl) (by kernel_rfl) (by kernel_rfl) (ba rfl) (fun w2 hS=>ba rfl) rfl ?_;refine SF.turn rfl (by kernel_rfl) rfl ?_;refine SW.ak bk rfl rfl rfl rfl (cn H) fun w5 gi hg => ?_
  have hG:=bk.gr hg;replace hw:=hw.own ry hg;(replace hb:=hb.ay hG rfl;replace hH:=hH.ay hG rfl;replace hS:=hS.ay hG rfl);replace bk:=gi;clear gi hg hG;have JA:=hS;have hS:True:=trivial
  refine SW.nil (ae.sg hS ?_);refine SG.one 16 rfl (by kernel_rfl) rfl ?_;repeat (refine SW.pure rfl rfl ?_)
  refine SW.nil (ae.sg hS ?_);refine SG.last rfl (by kernel_rfl) (by kernel_rfl) ?_;replace hS:=JA;clear JA;rw [rz] at hu;by_cases Fv:e=0
  ·subst Fv;have qO:=hu.at_ he;rw [gh] at qO;refine Wz ?_;all_goals try omega
   by_cases hc:gj s.Words.length (16*at') s.aa[i].bg s.aa[i].cm
   ·refine CW.any 19 mixed (cj (by kernel_rfl)) rfl fun w1 ab aG => ?_
    replace hw:=Ext.trans hw ab;replace hb:=hb.ext ab;replace bk:=bk.ext ab;replace hH:=hH.ext ab;replace hS:=hS.ext ab;clear ab;refine SA.take 0 aG rfl (by kernel_rfl) (by kernel_rfl) rfl ?_;repeat (refine SW.pure rfl rfl ?_)
    refine SW.ah ?_;refine SA.take 1 aG rfl (by kernel_rfl) (by kernel_rfl) rfl ?_;repeat ((show SW _ _ _ _ (⟨_,Op.nilCheck _,_,_,_,none⟩::_) _ _;refine SW.st (aK rfl) rfl ?_))
    refine SW.ah ?_;refine SA.take 2 aG rfl (by kernel_rfl) (by kernel_rfl) rfl ?_;repeat ((show SW _ _ _ _ (⟨_,Op.fieldAddr _ _ _,_,_,_,none⟩::_) _ _;refine SW.st (aD rfl) rfl ?_))
    refine SW.ah ?_;refine SA.take 3 aG rfl (by kernel_rfl) (by kernel_rfl) rfl ?_;repeat ((show SW _ _ _ _ (⟨_,Op.load _ _,_,_,_,none⟩::_) _ _;refine SW.st (ao rfl (hb.cell (i:=0) (v := .slice r.Words.A r.Words.n r.Words.c) rfl)) rfl ?_))
    refine SW.ah ?_;refine SA.take 4 aG rfl (by kernel_rfl) (by kernel_rfl) rfl ?_;repeat (refine SW.pure rfl rfl ?_)
    refine SW.ah ?_;refine SA.take 5 aG rfl (by kernel_rfl) (by kernel_rfl) rfl ?_;repeat ((show SW _ _ _ _ (⟨_,Op.binOp _ _ _ _ _,_,_,_,none⟩::_) _ _;refine SW.st (iQ rfl rfl (by omega) (by omega)) rfl ?_))
    refine SW.ah ?_;refine SA.take 6 aG rfl (by kernel_rfl) (by kernel_rfl) rfl ?_;repeat (refine SW.pure rfl rfl ?_)
    refine SW.ah ?_;refine SA.take 7 aG rfl (by kernel_rfl) (by kernel_rfl) rfl ?_;repeat ((show SW _ _ _ _ (⟨_,Op.nilCheck _,_,_,_,none⟩::_) _ _;refine SW.st (aK rfl) rfl ?_))
    refine SW.ah ?_;refine SA.take 8 aG rfl (by kernel_rfl) (by kernel_rfl) rfl ?_;repeat ((show SW _ _ _ _ (⟨_,Op.fieldAddr _ _ _,_,_,_,none⟩::_) _ _;refine SW.st (aD rfl) rfl ?_))
    refine SW.ah ?_;refine SA.take 9 aG rfl (by kernel_rfl) (by kernel_rfl) rfl ?_;repeat ((show SW _ _ _ _ (⟨_,Op.load _ _,_,_,_,none⟩::_) _ _;refine SW.st (ao rfl (hS.row.sl.dA cf (j:=1) (u := .int .i64 cs[i].bg) rfl)) rfl ?_))
    refine SW.ah ?_;refine SA.take 10 aG rfl (by kernel_rfl) (by kernel_rfl) rfl ?_;repeat (refine SW.pure rfl rfl ?_)
    refine SW.ah ?_;refine SA.take 11 aG rfl (by kernel_rfl) (by kernel_rfl) rfl ?_;repeat ((show SW _ _ _ _ (⟨_,Op.nilCheck _,_,_,_,none⟩::_) _ _;refine SW.st (aK rfl) rfl ?_))
    refine SW.ah ?_;refine SA.take 12 aG rfl (by kernel_rfl) (by kernel_rfl) rfl ?_;repeat ((show SW _ _ _ _ (⟨_,Op.fieldAddr _ _ _,_,_,_,none⟩::_) _ _;refine SW.st (aD rfl) rfl ?_))
    refine SW.ah ?_;refine SA.take 13 aG rfl (by kernel_rfl) (by kernel_rfl) rfl ?_;repeat ((show SW _ _ _ _ (⟨_,Op.load _ _,_,_,_,none⟩::_) _ _;refine SW.st (ao rfl (hS.row.sl.dA cf (j:=2) (u := .int .i64 cs[i].cm) rfl)) rfl ?_))
    refine SW.ah ?_;refine SA.one 14 rfl (by kernel_rfl) rfl ?_;refine SW.call rfl rfl (nK r.Words.A r.Words.n r.Words.c s.Words (at'*16) cs[i].bg cs[i].cm _ hS.words.sl (by omega)) fun v w6 aj hv => ?_
    have kb:=hc;unfold gj at kb;rw [ia,show at'*16=16*at' by omega,vo,rJ,if_pos (by rw [Ht] at kb;exact kb)] at hv;obtain ⟨XA,Xc,rfl,hX⟩:=hv;replace hX:=hX.low hw.size;(replace hw:=Ext.trans hw aj;replace hb:=hb.ext aj;replace bk:=bk.ext aj;replace hH:=hH.ext aj;replace hS:=hS.ext aj);refine SW.nil (ae.sa aj ?_);refine SA.take 15 aG rfl (by kernel_rfl) (by kernel_rfl) rfl ?_;repeat (refine SW.pure rfl rfl ?_)
    refine SW.ah ?_;refine SA.take 16 aG rfl (by kernel_rfl) (by kernel_rfl) rfl ?_;repeat (refine SW.pure rfl rfl ?_)
    refine SW.ah ?_;refine SA.take 17 aG rfl (by kernel_rfl) (by kernel_rfl) rfl ?_;repeat (refine SW.pure rfl rfl ?_)
    refine SW.ah ?_;refine SA.take 18 aG rfl (by kernel_rfl) (by kernel_rfl) rfl ?_;repeat (refine SW.pure rfl rfl ?_)
    refine SW.ah ?_;refine SA.done (by kernel_rfl) ?_;refine Wz ?_;refine SW.lJ 1 hb rfl rfl rfl (Nat.le_of_ble_eq_true rfl) (cn H) (aR ⟨r.Words,H,r.aa⟩) rfl fun w7 jJ hg => ?_
    have hG:=hb.gr hg;have re:∀ j x,j≠b→aJ w0 j 44 x→aJ w7 j 44 x:=fun j x hj h=>(h.ext hw).grown hg (by simpa using hj)
    have ul:∀ j x,aJ w0 j 156 x→aJ w7 j 156 x:=fun j x h=>(h.ext hw).ay hG rfl
    have rm:∀ j x,aJ w0 j 3 x→aJ w7 j 3 x:=fun j x h=>(h.ext hw).ay hG rfl
    replace hx:=(hx.trans hw).own Fs hg;(replace hH:=hH.ay hG rfl;replace hX:=hX.ay hG rfl;replace hS:=hS.ay hG rfl);refine Wz ?_;refine SW.bA (i:=0) jJ rfl rfl rfl rfl fun w8 DR hg => ?_
    have hG:=jJ.gr hg;replace re:∀ j x,j≠b→aJ w0 j 44 x→aJ w8 j 44 x:=fun j x hj h=>(re j x hj h).grown hg (by simpa using hj)
    replace ul:∀ j x,aJ w0 j 156 x→aJ w8 j 156 x:=fun j x h=>(ul j x h).ay hG rfl
    replace rm:∀ j x,aJ w0 j 3 x→aJ w8 j 3 x:=fun j x h=>(rm j x h).ay hG rfl
    replace hx:=hx.own Fs hg;(replace hH:=hH.ay hG rfl;replace hX:=hX.ay hG rfl;replace hS:=hS.ay hG rfl);replace hb:aJ w8 b 44 (aR ⟨⟨XA,r.Words.n,Xc⟩,H,r.aa⟩):=DR;rw [← e0] at hS;obtain ⟨jt,jR⟩:=nW.fresh (p:=(s.Heap,s.aa[i])) (X:=⟨XA,r.Words.n,Xc⟩) (H:=H) (h':=u.1) (m:=w0.heap.size) hS fy Fu Ft hX hH;clear hS hX hH hw hG hg jJ DR bk;have hw:=Ext.refl w8;refine Wz ?_
    refine CW.loop (fun k:Nat=>[(8,.pointer (some ((r.aa.A.getD default).add (i*6)))),(10,.int .i64 at'),(13,.int .i64 (k:Int))])
     (fun k w'=>w'=w8∧k≤cs[i].ai.n ∧ ∀ (j:Nat) (hj:j<s.aa[i].ai.length),j<k→s.aa[i].ai[j].At<at') (fun k=>cs[i].ai.n-k) 0
     ⟨rfl,rfl,rfl,trivial⟩ ⟨rfl,Nat.zero_le _,fun j hj h=>by omega⟩ ?_
    rintro k w' ⟨Jo,hk,de⟩
    subst Jo;have oN:=jt.get jE hi;simp only at oN;have Kq:=oN.aS.sl.base;by_cases cb:k<cs[i].ai.n
    ·have dk:k<s.aa[i].ai.length:=by omega
     obtain ⟨y,hy⟩ : ∃ y,s.aa[i].ai[k]=y:=⟨_,rfl⟩;have gA:=oN.aS.sl.dA cb (j:=0) (show (aY (s.aa[i].ai[k]'(by omega)))[0]?=some (Value.int .i64 y.At) by rw [hy];rfl);by_cases Gb:y.At<at'
     ·repeat' (first|refine Wz ?_|refine SW.st (ao rfl (jt.row.sl.dA cf (j:=4) (u := .slice cs[i].ai.A cs[i].ai.n cs[i].ai.c) rfl)) rfl ?_|refine SW.st (ao rfl gA) rfl ?_)
      all_goals try omega
      exact ae.again (k+1) ⟨rfl,rfl,rfl,trivial⟩ (by omega) ⟨rfl,by omega,fun j hj h=>by
       by_cases e:j=k
       ·subst e;rw [hy];exact Gb
       ·exact de j hj (by omega)⟩
     ·have uG:lI s.aa[i] at'=k:=nL (by omega) de (fun h=>by rw [hy];exact Gb)
      repeat' (first|refine Wz ?_|refine SW.st (ao rfl (jt.row.sl.dA cf (j:=4) (u := .slice cs[i].ai.A cs[i].ai.n cs[i].ai.c) rfl)) rfl ?_|refine SW.st (ao rfl gA) rfl ?_)
      all_goals try omega
      refine CW.iS 15 18 (fun _=>True) mixed (by kernel_rfl) fun w1 ab aG => ?_
      replace hw:=Ext.trans hw ab;replace hb:=hb.ext ab;replace jt:=jt.ext ab;replace jR:=jR.ext ab;clear ab;refine SF.dK 0 [] aG rfl (by kernel_rfl) (by kernel_rfl) (by kernel_rfl) (ba rfl) (fun w2 hS=>ba rfl) rfl ?_;refine SF.take 1 [4,3,2] [] aG rfl (by kernel_rfl) (by kernel_rfl) (by kernel_rfl) ?_;repeat (refine SW.pure rfl rfl ?_)
      refine SW.ah ?_;refine SF.take 2 [4,3] [] aG rfl (by kernel_rfl) (by kernel_rfl) (by kernel_rfl) ?_;repeat ((show SW _ _ _ _ (⟨_,Op.nilCheck _,_,_,_,none⟩::_) _ _;refine SW.st (aK rfl) rfl ?_))
      refine SW.ah ?_;refine SF.take 3 [4] [] aG rfl (by kernel_rfl) (by kernel_rfl) (by kernel_rfl) ?_;repeat ((show SW _ _ _ _ (⟨_,Op.fieldAddr _ _ _,_,_,_,none⟩::_) _ _;refine SW.st (aD rfl) rfl ?_))
      refine SW.ah ?_;refine SF.take 4 [] [] aG rfl (by kernel_rfl) (by kernel_rfl) (by kernel_rfl) ?_;repeat ((show SW _ _ _ _ (⟨_,Op.load _ _,_,_,_,none⟩::_) _ _;refine SW.st (ao rfl (jt.row.sl.dA cf (j:=4) (u := .slice cs[i].ai.A cs[i].ai.n cs[i].ai.c) rfl)) rfl ?_))
      refine SW.ah ?_;refine SF.take 5 [] [] aG rfl (by kernel_rfl) (by kernel_rfl) (by kernel_rfl) ?_;repeat (refine SW.pure rfl rfl ?_)
      refine SW.ah ?_;refine SF.take 6 [14,13] [] aG rfl (by kernel_rfl) (by kernel_rfl) (by kernel_rfl) ?_;repeat (refine SW.pure rfl rfl ?_)
      refine SW.ah ?_;refine SF.take 7 [14,13,10,9,8] [] aG rfl (by kernel_rfl) (by kernel_rfl) (by kernel_rfl) ?_;repeat (refine SW.pure rfl rfl ?_)
      refine SW.ah ?_;refine SF.take 8 [14,13,10,9] [] aG rfl (by kernel_rfl) (by kernel_rfl) (by kernel_rfl) ?_;repeat ((show SW _ _ _ _ (⟨_,Op.nilCheck _,_,_,_,none⟩::_) _ _;refine SW.st (aK rfl) rfl ?_))
      refine SW.ah ?_;refine SF.take 9 [14,13,10] [] aG rfl (by kernel_rfl) (by kernel_rfl) (by kernel_rfl) ?_;repeat ((show SW _ _ _ _ (⟨_,Op.fieldAddr _ _ _,_,_,_,none⟩::_) _ _;refine SW.st (aD rfl) rfl ?_))
      refine SW.ah ?_;refine SF.take 10 [14,13] [] aG rfl (by kernel_rfl) (by kernel_rfl) (by kernel_rfl) ?_;repeat ((show SW _ _ _ _ (⟨_,Op.load _ _,_,_,_,none⟩::_) _ _;refine SW.st (ao rfl (jt.row.sl.dA cf (j:=2) (u := .int .i64 cs[i].cm) rfl)) rfl ?_))
      refine SW.ah ?_;refine SF.take 11 [14,13,12] [] aG rfl (by kernel_rfl) (by kernel_rfl) (by kernel_rfl) ?_;repeat (refine SW.pure rfl rfl ?_)
      refine SW.ah ?_;refine SF.take 12 [14,13] [] aG rfl (by kernel_rfl) (by kernel_rfl) (by kernel_rfl) ?_;repeat ((show SW _ _ _ _ (⟨_,Op.binOp _ _ _ _ _,_,_,_,none⟩::_) _ _;refine SW.st (iQ rfl rfl (by omega) (by omega)) rfl ?_))
      refine SW.ah ?_;refine SF.take 13 [14] [] aG rfl (by kernel_rfl) (by kernel_rfl) (by kernel_rfl) ?_;repeat ((show SW _ _ _ _ (⟨_,Op.build _ _,_,_,_,none⟩::_) _ _;refine SW.st (fR rfl rfl) rfl ?_))
      refine SW.ah ?_;refine SF.one 14 rfl (by kernel_rfl) rfl ?_;refine SW.bK rfl rfl rfl rfl rfl fun bn w9 aj JB DS => ?_
      have m9:aU cs[i].ai.A cs[i].ai.c≠some bn:=fun e=>absurd ((jt.get jE hi).aS.lt_size _ e) (by omega)
      (replace hw:=Ext.trans hw aj;replace hb:=hb.ext aj;replace jt:=jt.ext aj;replace jR:=jR.ext aj);refine SW.nil (ae.sf aj ?_);refine SF.turn rfl (by kernel_rfl) rfl ?_;have oN:=jt.get jE hi;simp only at oN;refine SW.da rfl rfl (iJ _ _ _ wb.heap.size s.aa[i].ai _ oN.aS k (by omega) ⟨at',cs[i].cm,at'*16⟩ bn DS m9 (by omega) (Nat.le_trans hx.size hw.size)) fun v mw hv => ?_
      obtain ⟨A2,c2,rfl,gB,hg,Hu⟩:=hv;have hG:=oN.aS.gr hg;have DT:=jt.nI jE hi gB hg Hu;have zJ:=aF (hx.trans hw) hg (Nat.le_refl _) oN.aS.aM;have zK:∀ j x,j≠b→aJ w0 j 44 x→aJ mw j 44 x:=fun j x hj h=>((re j x hj h).ext hw).ay hG rfl
      have zL:∀ j x,aJ w0 j 156 x→aJ mw j 156 x:=fun j x h=>((ul j x h).ext hw).ay hG rfl
      have zM:∀ j x,aJ w0 j 3 x→aJ mw j 3 x:=fun j x h=>((rm j x h).ext hw).ay hG rfl
      (replace hb:=hb.ay hG rfl;replace jR:=jR.ay hG rfl);have hS:True:=trivial
      refine SW.nil (ae.sg hS ?_);refine SG.one 16 rfl (by kernel_rfl) rfl ?_;repeat ((show SW _ _ _ _ (⟨_,Op.nilCheck _,_,_,_,none⟩::_) _ _;refine SW.st (aK rfl) rfl ?_))
      refine SW.nil (ae.sg hS ?_);refine SG.one 17 rfl (by kernel_rfl) rfl ?_;repeat ((show SW _ _ _ _ (⟨_,Op.fieldAddr _ _ _,_,_,_,none⟩::_) _ _;refine SW.st (aD rfl) rfl ?_))
      refine SW.nil (ae.sg hS ?_);refine SG.last rfl (by kernel_rfl) (by kernel_rfl) ?_;have dw:=DT.row;refine SW.gR i 4 ⟨cs[i].Names,cs[i].bg,cs[i].cm,cs[i].Order,⟨A2,cs[i].ai.n+1,c2⟩,cs[i].au⟩ dw rfl rfl rfl cf (by decide) rfl rfl fun qG fL oO => ?_
      have kv:=dw.gr oO;have Hv:=DT.qB fL oO;replace zJ:=aF zJ oO (Nat.le_refl _) dw.aM;(replace hb:=hb.ay kv rfl;replace jR:=jR.ay kv rfl)
      have DU:=jR.rows (s':=ct (iI s (jc s.Words (16*at') s.aa[i].bg s.aa[i].cm)) i (u.1,eI s.aa[i] at')) (cs':=cs.set i ⟨cs[i].Names,cs[i].bg,cs[i].cm,cs[i].Order,⟨A2,cs[i].ai.n+1,c2⟩,cs[i].au⟩) rfl (fun u hu=>by
       rcases List.mem_or_eq_of_mem_set hu with hu|rfl
       ·exact ⟨u,hu,rfl⟩
       ·exact ⟨cs[i],List.getElem_mem jE,rfl⟩)
      have pR:eI s.aa[i] at'=⟨s.aa[i].Names,s.aa[i].bg,s.aa[i].cm,s.aa[i].Order,aV s.aa[i].ai k ⟨at',cs[i].cm,at'*16⟩,s.aa[i].au⟩:=by
       unfold eI;rw [uG,rJ,show at'*16=16*at' by omega]
      refine Wz ?_;refine ae.cx rfl rfl rfl ⟨_,rfl,u,hu,.inr (.inr ⟨he,by rw [gh];exact hc,by rw [gh,uG],zJ,fun j x hj h=>(zK j x hj h).ay kv rfl,fun j x h=>(zL j x h).ay kv rfl,fun j x h=>(zM j x h).ay kv rfl,⟨XA,r.Words.n,Xc⟩,H,_,hb,?_,by rw [gh];exact DU⟩)⟩;rw [gh,pR];exact Hv
    ·have wy:k=cs[i].ai.n:=by omega
     have uG:lI s.aa[i] at'=k:=nL (by omega) (fun j hj h=>de j hj (by omega)) (fun h=>by omega)
     repeat' (first|refine Wz ?_|refine SW.st (ao rfl (jt.row.sl.dA cf (j:=4) (u := .slice cs[i].ai.A cs[i].ai.n cs[i].ai.c) rfl)) rfl ?_)
     all_goals try omega
     refine CW.iS 15 18 (fun _=>True) mixed (by kernel_rfl) fun w1 ab aG => ?_
     replace hw:=Ext.trans hw ab;replace hb:=hb.ext ab;replace jt:=jt.ext ab;replace jR:=jR.ext ab;clear ab;refine SF.dK 0 [] aG rfl (by kernel_rfl) (by kernel_rfl) (by kernel_rfl) (ba rfl) (fun w2 hS=>ba rfl) rfl ?_;refine SF.take 1 [4,3,2] [] aG rfl (by kernel_rfl) (by kernel_rfl) (by kernel_rfl) ?_;repeat (refine SW.pure rfl rfl ?_)
     refine SW.ah ?_;refine SF.take 2 [4,3] [] aG rfl (by kernel_rfl) (by kernel_rfl) (by kernel_rfl) ?_;repeat ((show SW _ _ _ _ (⟨_,Op.nilCheck _,_,_,_,none⟩::_) _ _;refine SW.st (aK rfl) rfl ?_))
     refine SW.ah ?_;refine SF.take 3 [4] [] aG rfl (by kernel_rfl) (by kernel_rfl) (by kernel_rfl) ?_;repeat ((show SW _ _ _ _ (⟨_,Op.fieldAddr _ _ _,_,_,_,none⟩::_) _ _;refine SW.st (aD rfl) rfl ?_))
     refine SW.ah ?_;refine SF.take 4 [] [] aG rfl (by kernel_rfl) (by kernel_rfl) (by kernel_rfl) ?_;repeat ((show SW _ _ _ _ (⟨_,Op.load _ _,_,_,_,none⟩::_) _ _;refine SW.st (ao rfl (jt.row.sl.dA cf (j:=4) (u := .slice cs[i].ai.A cs[i].ai.n cs[i].ai.c) rfl)) rfl ?_))
     refine SW.ah ?_;refine SF.take 5 [] [] aG rfl (by kernel_rfl) (by kernel_rfl) (by kernel_rfl) ?_;repeat (refine SW.pure rfl rfl ?_)
     refine SW.ah ?_;refine SF.take 6 [14,13] [] aG rfl (by kernel_rfl) (by kernel_rfl) (by kernel_rfl) ?_;repeat (refine SW.pure rfl rfl ?_)
     refine SW.ah ?_;refine SF.take 7 [14,13,10,9,8] [] aG rfl (by kernel_rfl) (by kernel_rfl) (by kernel_rfl) ?_;repeat (refine SW.pure rfl rfl ?_)
     refine SW.ah ?_;refine SF.take 8 [14,13,10,9] [] aG rfl (by kernel_rfl) (by kernel_rfl) (by kernel_rfl) ?_;repeat ((show SW _ _ _ _ (⟨_,Op.nilCheck _,_,_,_,none⟩::_) _ _;refine SW.st (aK rfl) rfl ?_))
     refine SW.ah ?_;refine SF.take 9 [14,13,10] [] aG rfl (by kernel_rfl) (by kernel_rfl) (by kernel_rfl) ?_;repeat ((show SW _ _ _ _ (⟨_,Op.fieldAddr _ _ _,_,_,_,none⟩::_) _ _;refine SW.st (aD rfl) rfl ?_))
     refine SW.ah ?_;refine SF.take 10 [14,13] [] aG rfl (by kernel_rfl) (by kernel_rfl) (by kernel_rfl) ?_;repeat ((show SW _ _ _ _ (⟨_,Op.load _ _,_,_,_,none⟩::_) _ _;refine SW.st (ao rfl (jt.row.sl.dA cf (j:=2) (u := .int .i64 cs[i].cm) rfl)) rfl ?_))
     refine SW.ah ?_;refine SF.take 11 [14,13,12] [] aG rfl (by kernel_rfl) (by kernel_rfl) (by kernel_rfl) ?_;repeat (refine SW.pure rfl rfl ?_)
     refine SW.ah ?_;refine SF.take 12 [14,13] [] aG rfl (by kernel_rfl) (by kernel_rfl) (by kernel_rfl) ?_;repeat ((show SW _ _ _ _ (⟨_,Op.binOp _ _ _ _ _,_,_,_,none⟩::_) _ _;refine SW.st (iQ rfl rfl (by omega) (by omega)) rfl ?_))
     refine SW.ah ?_;refine SF.take 13 [14] [] aG rfl (by kernel_rfl) (by kernel_rfl) (by kernel_rfl) ?_;repeat ((show SW _ _ _ _ (⟨_,Op.build _ _,_,_,_,none⟩::_) _ _;refine SW.st (fR rfl rfl) rfl ?_))
     refine SW.ah ?_;refine SF.one 14 rfl (by kernel_rfl) rfl ?_;refine SW.bK rfl rfl rfl rfl rfl fun bn w9 aj JB DS => ?_
     have m9:aU cs[i].ai.A cs[i].ai.c≠some bn:=fun e=>absurd ((jt.get jE hi).aS.lt_size _ e) (by omega)
     (replace hw:=Ext.trans hw aj;replace hb:=hb.ext aj;replace jt:=jt.ext aj;replace jR:=jR.ext aj);refine SW.nil (ae.sf aj ?_);refine SF.turn rfl (by kernel_rfl) rfl ?_;have oN:=jt.get jE hi;simp only at oN;refine SW.da rfl rfl (iJ _ _ _ wb.heap.size s.aa[i].ai _ oN.aS k (by omega) ⟨at',cs[i].cm,at'*16⟩ bn DS m9 (by omega) (Nat.le_trans hx.size hw.size)) fun v mw hv => ?_
     obtain ⟨A2,c2,rfl,gB,hg,Hu⟩:=hv;have hG:=oN.aS.gr hg;have DT:=jt.nI jE hi gB hg Hu;have zJ:=aF (hx.trans hw) hg (Nat.le_refl _) oN.aS.aM;have zK:∀ j x,j≠b→aJ w0 j 44 x→aJ mw j 44 x:=fun j x hj h=>((re j x hj h).ext hw).ay hG rfl
     have zL:∀ j x,aJ w0 j 156 x→aJ mw j 156 x:=fun j x h=>((ul j x h).ext hw).ay hG rfl
     have zM:∀ j x,aJ w0 j 3 x→aJ mw j 3 x:=fun j x h=>((rm j x h).ext hw).ay hG rfl
     (replace hb:=hb.ay hG rfl;replace jR:=jR.ay hG rfl);have hS:True:=trivial
     refine SW.nil (ae.sg hS ?_);refine SG.one 16 rfl (by kernel_rfl) rfl ?_;repeat ((show SW _ _ _ _ (⟨_,Op.nilCheck _,_,_,_,none⟩::_) _ _;refine SW.st (aK rfl) rfl ?_))
     refine SW.nil (ae.sg hS ?_);refine SG.one 17 rfl (by kernel_rfl) rfl ?_;repeat ((show SW _ _ _ _ (⟨_,Op.fieldAddr _ _ _,_,_,_,none⟩::_) _ _;refine SW.st (aD rfl) rfl ?_))
     refine SW.nil (ae.sg hS ?_);refine SG.last rfl (by kernel_rfl) (by kernel_rfl) ?_;have dw:=DT.row;refine SW.gR i 4 ⟨cs[i].Names,cs[i].bg,cs[i].cm,cs[i].Order,⟨A2,cs[i].ai.n+1,c2⟩,cs[i].au⟩ dw rfl rfl rfl cf (by decide) rfl rfl fun qG fL oO => ?_
     have kv:=dw.gr oO;have Hv:=DT.qB fL oO;replace zJ:=aF zJ oO (Nat.le_refl _) dw.aM;(replace hb:=hb.ay kv rfl;replace jR:=jR.ay kv rfl)
     have DU:=jR.rows (s':=ct (iI s (jc s.Words (16*at') s.aa[i].bg s.aa[i].cm)) i (u.1,eI s.aa[i] at')) (cs':=cs.set i ⟨cs[i].Names,cs[i].bg,cs[i].cm,cs[i].Order,⟨A2,cs[i].ai.n+1,c2⟩,cs[i].au⟩) rfl (fun u hu=>by
      rcases List.mem_or_eq_of_mem_set hu with hu|rfl
      ·exact ⟨u,hu,rfl⟩
      ·exact ⟨cs[i],List.getElem_mem jE,rfl⟩)
     have pR:eI s.aa[i] at'=⟨s.aa[i].Names,s.aa[i].bg,s.aa[i].cm,s.aa[i].Order,aV s.aa[i].ai k ⟨at',cs[i].cm,at'*16⟩,s.aa[i].au⟩:=by
      unfold eI;rw [uG,rJ,show at'*16=16*at' by omega]
     refine Wz ?_;refine ae.cx rfl rfl rfl ⟨_,rfl,u,hu,.inr (.inr ⟨he,by rw [gh];exact hc,by rw [gh,uG],zJ,fun j x hj h=>(zK j x hj h).ay kv rfl,fun j x h=>(zL j x h).ay kv rfl,fun j x h=>(zM j x h).ay kv rfl,⟨XA,r.Words.n,Xc⟩,H,_,hb,?_,by rw [gh];exact DU⟩)⟩;rw [gh,pR];exact Hv
   ·refine CW.any 19 mixed (cj (by kernel_rfl)) rfl fun w1 ab aG => ?_
    replace hw:=Ext.trans hw ab;replace hb:=hb.ext ab;replace bk:=bk.ext ab;replace hH:=hH.ext ab;replace hS:=hS.ext ab;clear ab;refine SA.take 0 aG rfl (by kernel_rfl) (by kernel_rfl) rfl ?_;repeat (refine SW.pure rfl rfl ?_)
    refine SW.ah ?_;refine SA.take 1 aG rfl (by kernel_rfl) (by kernel_rfl) rfl ?_;repeat ((show SW _ _ _ _ (⟨_,Op.nilCheck _,_,_,_,none⟩::_) _ _;refine SW.st (aK rfl) rfl ?_))
    refine SW.ah ?_;refine SA.take 2 aG rfl (by kernel_rfl) (by kernel_rfl) rfl ?_;repeat ((show SW _ _ _ _ (⟨_,Op.fieldAddr _ _ _,_,_,_,none⟩::_) _ _;refine SW.st (aD rfl) rfl ?_))
    refine SW.ah ?_;refine SA.take 3 aG rfl (by kernel_rfl) (by kernel_rfl) rfl ?_;repeat ((show SW _ _ _ _ (⟨_,Op.load _ _,_,_,_,none⟩::_) _ _;refine SW.st (ao rfl (hb.cell (i:=0) (v := .slice r.Words.A r.Words.n r.Words.c) rfl)) rfl ?_))
    refine SW.ah ?_;refine SA.take 4 aG rfl (by kernel_rfl) (by kernel_rfl) rfl ?_;repeat (refine SW.pure rfl rfl ?_)
    refine SW.ah ?_;refine SA.take 5 aG rfl (by kernel_rfl) (by kernel_rfl) rfl ?_;repeat ((show SW _ _ _ _ (⟨_,Op.binOp _ _ _ _ _,_,_,_,none⟩::_) _ _;refine SW.st (iQ rfl rfl (by omega) (by omega)) rfl ?_))
    refine SW.ah ?_;refine SA.take 6 aG rfl (by kernel_rfl) (by kernel_rfl) rfl ?_;repeat (refine SW.pure rfl rfl ?_)
    refine SW.ah ?_;refine SA.take 7 aG rfl (by kernel_rfl) (by kernel_rfl) rfl ?_;repeat ((show SW _ _ _ _ (⟨_,Op.nilCheck _,_,_,_,none⟩::_) _ _;refine SW.st (aK rfl) rfl ?_))
    refine SW.ah ?_;refine SA.take 8 aG rfl (by kernel_rfl) (by kernel_rfl) rfl ?_;repeat ((show SW _ _ _ _ (⟨_,Op.fieldAddr _ _ _,_,_,_,none⟩::_) _ _;refine SW.st (aD rfl) rfl ?_))
    refine SW.ah ?_;refine SA.take 9 aG rfl (by kernel_rfl) (by kernel_rfl) rfl ?_;repeat ((show SW _ _ _ _ (⟨_,Op.load _ _,_,_,_,none⟩::_) _ _;refine SW.st (ao rfl (hS.row.sl.dA cf (j:=1) (u := .int .i64 cs[i].bg) rfl)) rfl ?_))
    refine SW.ah ?_;refine SA.take 10 aG rfl (by kernel_rfl) (by kernel_rfl) rfl ?_;repeat (refine SW.pure rfl rfl ?_)
    refine SW.ah ?_;refine SA.take 11 aG rfl (by kernel_rfl) (by kernel_rfl) rfl ?_;repeat ((show SW _ _ _ _ (⟨_,Op.nilCheck _,_,_,_,none⟩::_) _ _;refine SW.st (aK rfl) rfl ?_))
    refine SW.ah ?_;refine SA.take 12 aG rfl (by kernel_rfl) (by kernel_rfl) rfl ?_;repeat ((show SW _ _ _ _ (⟨_,Op.fieldAddr _ _ _,_,_,_,none⟩::_) _ _;refine SW.st (aD rfl) rfl ?_))
    refine SW.ah ?_;refine SA.take 13 aG rfl (by kernel_rfl) (by kernel_rfl) rfl ?_;repeat ((show SW _ _ _ _ (⟨_,Op.load _ _,_,_,_,none⟩::_) _ _;refine SW.st (ao rfl (hS.row.sl.dA cf (j:=2) (u := .int .i64 cs[i].cm) rfl)) rfl ?_))
    refine SW.ah ?_;refine SA.one 14 rfl (by kernel_rfl) rfl ?_;refine SW.call rfl rfl (nK r.Words.A r.Words.n r.Words.c s.Words (at'*16) cs[i].bg cs[i].cm _ hS.words.sl (by omega)) fun v w6 aj hv => ?_
    have kb:=hc;unfold gj at kb;rw [ia,show at'*16=16*at' by omega,vo,rJ,if_neg (by rw [Ht] at kb;exact kb)] at hv;subst hv;(replace hw:=Ext.trans hw aj;replace hb:=hb.ext aj;replace bk:=bk.ext aj;replace hH:=hH.ext aj;replace hS:=hS.ext aj);refine SW.nil (ae.sa aj ?_);refine SA.take 15 aG rfl (by kernel_rfl) (by kernel_rfl) rfl ?_;repeat (refine SW.pure rfl rfl ?_)
    refine SW.ah ?_;refine SA.take 16 aG rfl (by kernel_rfl) (by kernel_rfl) rfl ?_;repeat (refine SW.pure rfl rfl ?_)
    refine SW.ah ?_;refine SA.take 17 aG rfl (by kernel_rfl) (by kernel_rfl) rfl ?_;repeat (refine SW.pure rfl rfl ?_)
    refine SW.ah ?_;refine SA.take 18 aG rfl (by kernel_rfl) (by kernel_rfl) rfl ?_;repeat (refine SW.pure rfl rfl ?_)
    refine SW.ah ?_;refine SA.done (by kernel_rfl) ?_;refine Wz ?_;exact ae.cx rfl rfl rfl ⟨_,rfl,u,hu,.inr (.inl ⟨he,by rw [gh];exact hc,rfl,hw⟩)⟩
  ·refine Wz ?_;all_goals try omega
   exact ae.cx rfl rfl rfl ⟨_,rfl,u,hu,.inl ⟨by rw [he];exact Fv,by rw [he];rfl,hw⟩⟩
end Go.Proofs.YtbidkghlpijecaaGreatDoor
