/-
  Texts of the claim SlabBulks, part 21: what its theorem leans on.
-/
import Derived.Test.YtjimadiidbkohaaGreatDoorPackSlabBulks10
import Derived.Test.YtjimadiidbkohaaGreatDoorPackSlabBulks2
import Derived.Test.YtjimadiidbkohaaGreatDoorPackSlabBulks15
import Derived.Test.YtjimadiidbkohaaGreatDoorPackSlabBulks16
set_option linter.unusedVariables false
set_option linter.unusedSimpArgs false
namespace Go.Proofs.YtjimadiidbkohaaGreatDoor
open Go.RowKit
set_option maxHeartbeats 4000000 in
theorem zF (r:dP) (s:aE) (w:World) (hr:rG w r s) (hs:s.small) :
 bt Tryz.prog 25 [.agg (aT r).toArray] w fun v w' => ∃ q zr,v = .agg (aT q).toArray∧SX w' w.heap.size q s zr∧SI w' w.heap.size q s zr:=by
 refine aM Tryz.func25 rfl Tryz.ntmps25 rfl ?_;refine CW.seq (CW.region (SW.box rfl rfl fun b1 w1 hw ik aB => ?_));refine SW.alloc rfl fun b2 w2 cJ im aK => ?_
 have pQ:w.heap.size≤b2:=Nat.le_trans hw.size im
 have yJ:b2≠b1:=by have:=aB.lt;omega
 (replace hw:=Ext.trans hw cJ;replace aB:=aB.ext cJ);obtain ⟨cs,hc⟩:=hr.dW;have HC:=hr.words.len;have s1:=hs.words;have s3:=hs.dW;obtain ⟨c1,c2⟩:=hc.len;refine Wz ?_
 obtain ⟨K,hK⟩ : ∃ K:Env→World→Prop,K=fun L' w' => ∃ X c1 G b3 m1 m2,eE L' [(1,.pointer (some ⟨b1,0,none⟩)),(2,.pointer (some ⟨b2,0,none⟩)),(3,.pointer (some ⟨b3,0,none⟩))]∧Ext w w'∧aI w' b1 30 (aT r)∧aI w' b2 30 (aT .zero) ∧
  aI w' b3 30 (aT ⟨⟨X,r.Words.n,c1⟩,G,.nil⟩)∧Own w' w.heap.size 3 1 bf X r.Words.n c1 s.Words∧fi w' m1 m2 G s.Heap∧(w.heap.size≤m1∧m1≤m2∧m2≤w'.heap.size ∧ ∀ g,aQ X c1=some g→g<m1)∧w.heap.size≤b3∧b1≠b3∧b2≠b3:=⟨_,rfl⟩
 refine CW.cut K ?_ ?_
 ·refine CW.any 8 mixed (cq (by kernel_rfl)) rfl fun w1 ab aG => ?_
  replace hw:=Ext.trans hw ab;replace aB:=aB.ext ab;replace aK:=aK.ext ab;clear ab;refine Wa ?_;refine SA.take 4 aG rfl (by kernel_rfl) (by kernel_rfl) rfl ?_;repeat ((show SW _ _ _ _ (⟨_,Op.load _ _,_,_,_,none⟩::_) _ _;refine SW.st (aY rfl rfl ((iq aB))) rfl ?_))
  refine SW.ai ?_;refine SA.two 2 7 rfl rfl (by kernel_rfl) rfl rfl ?_ ?_
  ·refine SW.call rfl rfl (eA _ _ _ _ _ (hr.words.ext hw) (by omega)) fun v w4 aj hv => ?_
   obtain ⟨X,c4,rfl,hX⟩:=hv;replace hX:=hX.low hw.size;replace hw:=Ext.trans hw aj;replace aB:=aB.ext aj;replace aK:=aK.ext aj;try replace ar:=ar.ext aj
   refine SW.nil (ae.sa aj ?_);refine SA.two 5 7 rfl rfl (by kernel_rfl) rfl rfl ?_ ?_
   ·refine SW.call rfl rfl (qb _ _ _ (hr.heap.ext hw) hs.heap) fun v w4 aj hv => ?_
    obtain ⟨G,rfl,hY⟩:=hv;have DJ:∃ m1 m2,w.heap.size≤m1∧m1≤m2∧m2≤w4.heap.size∧(∀ g,aQ X c4=some g→g<m1)∧fi w4 m1 m2 G s.Heap:=⟨_,_,hw.size,aj.size,Nat.le_refl _,hX.lt_size,hY.kO⟩
    clear hY;obtain ⟨m1,m2,qq,lf,pB,zG,hY⟩:=DJ;replace hX:=hX.ext aj;replace hw:=Ext.trans hw aj;replace aB:=aB.ext aj;replace aK:=aK.ext aj;try replace ar:=ar.ext aj
    refine SW.nil (ae.sa aj ?_);refine Wa ?_;refine SA.one 7 rfl (by kernel_rfl) rfl ?_;refine SW.alloc rfl fun b3 w4 aj bM ar => ?_
    have cr:w.heap.size≤b3:=Nat.le_trans hw.size bM
    try replace pB:=Nat.le_trans pB aj.size
    have ef:b1≠b3:=by have:=aB.lt;omega
    have ey:b2≠b3:=by have:=aK.lt;omega
    replace hw:=Ext.trans hw aj;replace aB:=aB.ext aj;replace aK:=aK.ext aj;try replace hX:=hX.ext aj
    try replace hY:=hY.ext aj
    refine SW.nil (ae.sa aj ?_);refine SA.done (by kernel_rfl) ?_;skip;refine SW.ap ar rfl rfl rfl rfl (dH ⟨⟨X,r.Words.n,c4⟩,G,.nil⟩) fun w5 bL hg => ?_
    have hG:=ar.gr hg;have wu:=Nat.le_trans pB hg.size;replace hw:=hw.own cr hg;(replace hX:=hX.ay hG rfl;replace hY:=hY.ay hG rfl);replace aB:=aB.grown hg (by simpa using ef);replace aK:=aK.grown hg (by simpa using ey);refine Wz ?_;exact ae.cut (K:=K) (by rw [hK];exact ⟨X,c4,G,b3,m1,m2,⟨rfl,rfl,rfl,trivial⟩,hw,aB,aK,bL,hX,hY,⟨qq,lf,wu,zG⟩,cr,ef,ey⟩)
   ·refine SW.alloc rfl fun b3 w4 aj bM ar => ?_
    have cr:w.heap.size≤b3:=Nat.le_trans hw.size bM
    try replace pB:=Nat.le_trans pB aj.size
    have ef:b1≠b3:=by have:=aB.lt;omega
    have ey:b2≠b3:=by have:=aK.lt;omega
    replace hw:=Ext.trans hw aj;replace aB:=aB.ext aj;replace aK:=aK.ext aj;try replace hX:=hX.ext aj
    try replace hY:=hY.ext aj
    refine SW.nil (ae.sa aj ?_);refine SA.one 5 rfl (by kernel_rfl) rfl ?_;refine SW.call rfl rfl (qb _ _ _ (hr.heap.ext hw) hs.heap) fun v w4 aj hv => ?_
    obtain ⟨G,rfl,hY⟩:=hv;have DJ:∃ m1 m2,w.heap.size≤m1∧m1≤m2∧m2≤w4.heap.size∧(∀ g,aQ X c4=some g→g<m1)∧fi w4 m1 m2 G s.Heap:=⟨_,_,hw.size,aj.size,Nat.le_refl _,hX.lt_size,hY.kO⟩
    clear hY;obtain ⟨m1,m2,qq,lf,pB,zG,hY⟩:=DJ;replace hX:=hX.ext aj;replace hw:=Ext.trans hw aj;replace aB:=aB.ext aj;replace aK:=aK.ext aj;try replace ar:=ar.ext aj
    refine SW.nil (ae.sa aj ?_);refine Wa ?_;refine SA.done (by kernel_rfl) ?_;skip;refine SW.ap ar rfl rfl rfl rfl (dH ⟨⟨X,r.Words.n,c4⟩,G,.nil⟩) fun w5 bL hg => ?_
    have hG:=ar.gr hg;have wu:=Nat.le_trans pB hg.size;replace hw:=hw.own cr hg;(replace hX:=hX.ay hG rfl;replace hY:=hY.ay hG rfl);replace aB:=aB.grown hg (by simpa using ef);replace aK:=aK.grown hg (by simpa using ey);refine Wz ?_;exact ae.cut (K:=K) (by rw [hK];exact ⟨X,c4,G,b3,m1,m2,⟨rfl,rfl,rfl,trivial⟩,hw,aB,aK,bL,hX,hY,⟨qq,lf,wu,zG⟩,cr,ef,ey⟩)
  ·refine SW.alloc rfl fun b3 w4 aj bM ar => ?_
   have cr:w.heap.size≤b3:=Nat.le_trans hw.size bM
   try replace pB:=Nat.le_trans pB aj.size
   have ef:b1≠b3:=by have:=aB.lt;omega
   have ey:b2≠b3:=by have:=aK.lt;omega
   replace hw:=Ext.trans hw aj;replace aB:=aB.ext aj;replace aK:=aK.ext aj;try replace hX:=hX.ext aj
   try replace hY:=hY.ext aj
   refine SW.nil (ae.sa aj ?_);refine SA.one 2 rfl (by kernel_rfl) rfl ?_;refine SW.call rfl rfl (eA _ _ _ _ _ (hr.words.ext hw) (by omega)) fun v w4 aj hv => ?_
   obtain ⟨X,c4,rfl,hX⟩:=hv;replace hX:=hX.low hw.size;replace hw:=Ext.trans hw aj;replace aB:=aB.ext aj;replace aK:=aK.ext aj;try replace ar:=ar.ext aj
   refine SW.nil (ae.sa aj ?_);refine SA.one 5 rfl (by kernel_rfl) rfl ?_;refine SW.call rfl rfl (qb _ _ _ (hr.heap.ext hw) hs.heap) fun v w4 aj hv => ?_
   obtain ⟨G,rfl,hY⟩:=hv;have DJ:∃ m1 m2,w.heap.size≤m1∧m1≤m2∧m2≤w4.heap.size∧(∀ g,aQ X c4=some g→g<m1)∧fi w4 m1 m2 G s.Heap:=⟨_,_,hw.size,aj.size,Nat.le_refl _,hX.lt_size,hY.kO⟩
   clear hY;obtain ⟨m1,m2,qq,lf,pB,zG,hY⟩:=DJ;replace hX:=hX.ext aj;replace hw:=Ext.trans hw aj;replace aB:=aB.ext aj;replace aK:=aK.ext aj;try replace ar:=ar.ext aj
   refine SW.nil (ae.sa aj ?_);refine Wa ?_;refine SA.done (by kernel_rfl) ?_;skip;refine SW.ap ar rfl rfl rfl rfl (dH ⟨⟨X,r.Words.n,c4⟩,G,.nil⟩) fun w5 bL hg => ?_
   have hG:=ar.gr hg;have wu:=Nat.le_trans pB hg.size;replace hw:=hw.own cr hg;(replace hX:=hX.ay hG rfl;replace hY:=hY.ay hG rfl);replace aB:=aB.grown hg (by simpa using ef);replace aK:=aK.grown hg (by simpa using ey);refine Wz ?_;exact ae.cut (K:=K) (by rw [hK];exact ⟨X,c4,G,b3,m1,m2,⟨rfl,rfl,rfl,trivial⟩,hw,aB,aK,bL,hX,hY,⟨qq,lf,wu,zG⟩,cr,ef,ey⟩)
 ·clear aB aK hw;subst hK;rintro L' w' ⟨X,c4,G,b3,m1,m2,fe,hw,aB,aK,ar,hX,hY,⟨qq,lf,wu,zG⟩,cr,ef,ey⟩
  refine ae.sub fe ?_;refine Wz ?_
  refine CW.loop (fun s:Nat×Option Addr×Nat×List de=>[(2,.pointer (some ⟨b2,0,none⟩)),(3,.pointer (some ⟨b3,0,none⟩)),(14,.slice r.aa.A r.aa.n r.aa.c),(15,.int .i64 (r.aa.n:Int)),(16,.int .i64 (s.1:Int))])
   (fun t w'=>t.1≤r.aa.n∧m2≤w'.heap.size∧Ext w w'∧aI w' b2 30 (aT .zero)∧aI w' b3 30 (aT ⟨⟨X,r.Words.n,c4⟩,G,⟨t.2.1,t.1,t.2.2.1⟩⟩)∧Own w' w.heap.size 3 1 bf X r.Words.n c4 s.Words∧fi w' m1 m2 G s.Heap ∧
     eR w' m2 ⟨t.2.1,t.1,t.2.2.1⟩ t.2.2.2 (s.aa.take t.1)∧vI ⟨X,r.Words.n,c4⟩ t.2.2.2) (fun t=>r.aa.n-t.1) (0,none,0,[]) ⟨rfl,rfl,rfl,rfl,rfl,trivial⟩ ⟨by omega,wu,hw,aK,ar,hX,hY,eR.nil _ _,vI.nil _⟩ ?_
  clear aB aK ar hX hY hw fe;rintro ⟨k,A,c,zr⟩ w' ⟨hk,wu,hw,aK,ar,hX,hY,hO,xi⟩
  simp only at hk ar hO xi ⊢;have hA:=hc.row.base;by_cases cb:k<r.aa.n
  ·have gu:=hc.each.get k (by omega) (by omega);have q:=hs.each _ (List.getElem_mem (show k<s.aa.length by omega));have q1:=gu.names.len;have q2:=gu.aR.len;have q3:=gu.ba.len;have q4:=q.names;have q5:=q.aR;have q6:=q.ba;have zH:=hO.row.lt_size;repeat' (first|refine Wz ?_|refine SW.st (aH hw rfl rfl ((hc.row.all cb))) rfl ?_)
   refine SW.alloc rfl fun b5 w1 ab iC cg => ?_
   skip;refine SW.ap cg rfl rfl rfl rfl (sB _) fun w2 gl hg => ?_
   have aj:=ab.own iC hg;have nP:w.heap.size≤b5:=Nat.le_trans hw.size iC
   replace hw:=Ext.trans hw aj;replace aK:=aK.ext aj;replace ar:=ar.ext aj;replace hX:=hX.ext aj;replace hY:=hY.ext aj;replace hO:=hO.ext aj;replace cg:=gl;clear gl ab hg aj;have DK:m2≤b5:=Nat.le_trans wu iC
   refine Wz ?_;refine CW.any 10 mixed (cq (by kernel_rfl)) rfl fun w1 ab aG => ?_
   replace hw:=Ext.trans hw ab;replace aK:=aK.ext ab;replace ar:=ar.ext ab;replace cg:=cg.ext ab;replace hX:=hX.ext ab;replace hY:=hY.ext ab;replace hO:=hO.ext ab;clear ab;refine Wa ?_;refine SA.one 2 rfl (by kernel_rfl) rfl ?_;refine SW.call rfl rfl (vH _ _ _ _ _ (gu.names.ext hw) (by omega)) fun v w4 aj hv => ?_
   obtain ⟨N,n4,rfl,hN⟩:=hv;have BY:=hO.L5 (b:=⟨N,cs[k].Names.n,n4⟩) hN.aL;replace hN:=hN.low (Nat.le_trans DK (Nat.le_of_lt cg.lt));(replace hw:=Ext.trans hw aj;replace aK:=aK.ext aj;replace ar:=ar.ext aj;replace cg:=cg.ext aj;replace hX:=hX.ext aj;replace hY:=hY.ext aj;replace hO:=hO.ext aj);refine SW.nil (ae.sa aj ?_);refine Wa ?_;refine SA.one 5 rfl (by kernel_rfl) rfl ?_;refine SW.call rfl rfl (ue _ _ _ _ _ (gu.aR.ext hw) (by omega)) fun v w4 aj hv => ?_
   obtain ⟨M,m4,rfl,hM⟩:=hv;have tO:=hO.L6 (b:=⟨M,cs[k].ah.n,m4⟩) hM.aL;replace hM:=hM.low (Nat.le_trans DK (Nat.le_of_lt cg.lt));(replace hw:=Ext.trans hw aj;replace aK:=aK.ext aj;replace ar:=ar.ext aj;replace cg:=cg.ext aj;replace hX:=hX.ext aj;replace hY:=hY.ext aj;replace hO:=hO.ext aj;replace hN:=hN.ext aj);refine SW.nil (ae.sa aj ?_);refine SA.one 8 rfl (by kernel_rfl) rfl ?_;refine SW.call rfl rfl (eA _ _ _ _ _ (gu.ba.ext hw) (by omega)) fun v w4 aj hv => ?_
   obtain ⟨Q,q7,rfl,hQ⟩:=hv;have qM:=hO.L7 (b:=⟨Q,cs[k].au.n,q7⟩) hQ.aL;have D9:=j5 (a:=⟨X,r.Words.n,c4⟩) (b:=⟨Q,cs[k].au.n,q7⟩) hX hQ.aL;replace hQ:=hQ.low (Nat.le_trans DK (Nat.le_of_lt cg.lt));(replace hw:=Ext.trans hw aj;replace aK:=aK.ext aj;replace ar:=ar.ext aj;replace cg:=cg.ext aj;replace hX:=hX.ext aj;replace hY:=hY.ext aj;replace hO:=hO.ext aj;replace hN:=hN.ext aj;replace hM:=hM.ext aj);refine SW.nil (ae.sa aj ?_);refine SA.done (by kernel_rfl) ?_;refine SW.bB (i:=0) cg rfl rfl rfl rfl fun w6 gl hg => ?_
   have hG:=cg.gr hg;replace hw:=hw.own nP hg;replace hO:=hO.cV cg hg zH iC;(replace aK:=aK.ay hG rfl;replace ar:=ar.ay hG rfl;replace hX:=hX.ay hG rfl;replace hY:=hY.ay hG rfl;replace hN:=hN.ay hG rfl;replace hM:=hM.ay hG rfl;replace hQ:=hQ.ay hG rfl);replace cg:=gl;clear gl hg hG;refine Wz ?_;refine SW.bB (i:=4) cg rfl rfl rfl rfl fun w6 gl hg => ?_
   have hG:=cg.gr hg;replace hw:=hw.own nP hg;replace hO:=hO.cV cg hg zH iC;(replace aK:=aK.ay hG rfl;replace ar:=ar.ay hG rfl;replace hX:=hX.ay hG rfl;replace hY:=hY.ay hG rfl;replace hN:=hN.ay hG rfl;replace hM:=hM.ay hG rfl;replace hQ:=hQ.ay hG rfl);replace cg:=gl;clear gl hg hG;refine Wz ?_;refine SW.bB (i:=5) cg rfl rfl rfl rfl fun w6 gl hg => ?_
   have hG:=cg.gr hg;replace hw:=hw.own nP hg;replace hO:=hO.cV cg hg zH iC;(replace aK:=aK.ay hG rfl;replace ar:=ar.ay hG rfl;replace hX:=hX.ay hG rfl;replace hY:=hY.ay hG rfl;replace hN:=hN.ay hG rfl;replace hM:=hM.ay hG rfl;replace hQ:=hQ.ay hG rfl);replace cg:=gl;clear gl hg hG;refine Wz ?_;refine SW.bD rfl rfl rfl rfl rfl fun b w6 aj hb hB => ?_
   (replace hw:=Ext.trans hw aj;replace aK:=aK.ext aj;replace ar:=ar.ext aj;replace hX:=hX.ext aj;replace hY:=hY.ext aj;replace hO:=hO.ext aj;replace hN:=hN.ext aj;replace hM:=hM.ext aj;replace hQ:=hQ.ext aj);refine SW.append hO.row (aI.lj (enc:=df) (x:=⟨⟨N,_,n4⟩,cs[k].bh,cs[k].cj,cs[k].Order,⟨M,_,m4⟩,⟨Q,_,q7⟩⟩) hB) (Nat.le_trans DK (Nat.le_trans (Nat.le_of_lt cg.lt) aj.size)) rfl rfl rfl (by simp only;omega) (by simp only;omega) fun A2 c2 w5 gi hg => ?_
   have hG:=hO.row.gr hg;have Ln:=Nat.le_trans (Nat.le_trans DK (Nat.le_trans (Nat.le_of_lt cg.lt) aj.size)) hg.size;replace hw:=aF hw hg (Nat.le_trans qq lf) hO.row.aL;(replace aK:=aK.ay hG rfl;replace ar:=ar.ay hG rfl;replace hX:=hX.ay hG rfl;replace hY:=hY.ay hG rfl;replace hN:=hN.ay hG rfl;replace hM:=hM.ay hG rfl;replace hQ:=hQ.ay hG rfl);have hE:=hO.each.mono fun _ _ h=>h.ay hG rfl
   refine Wz ?_;refine SW.bB (i:=6) ar rfl rfl rfl rfl fun w6 cU hg => ?_
   have hG:=ar.gr hg;replace hw:=hw.own cr hg;replace aK:=aK.grown hg (by simpa using ey);(replace hX:=hX.ay hG rfl;replace hY:=hY.ay hG rfl;replace hN:=hN.ay hG rfl;replace hM:=hM.ay hG rfl;replace hQ:=hQ.ay hG rfl;replace gi:=gi.ay hG rfl);replace hE:=hE.mono fun _ _ h=>h.ay hG rfl
   refine Wz ?_;refine ae.again (k+1,A2,c2,zr++[⟨⟨N,_,n4⟩,cs[k].bh,cs[k].cj,cs[k].Order,⟨M,_,m4⟩,⟨Q,_,q7⟩⟩]) ⟨rfl,rfl,rfl,rfl,rfl,trivial⟩ (by simp only;omega) ⟨by simp only;omega,Nat.le_trans Ln hg.size,hw,aK,cU,hX,hY,⟨gi,?_⟩,xi.snoc (fun u hu=>⟨BY u hu,tO u hu,qM u hu⟩) D9⟩;rw [List.take_succ_eq_append_getElem (by omega)];exact hE.snoc ⟨gu.size,gu.fk,gu.order,hN,hM,hQ⟩
  ·obtain rfl:k=r.aa.n:=by omega
   rw [List.take_of_length_le (by omega)] at hO;refine Wz ?_;refine SW.ap aK rfl rfl rfl rfl (dH _) fun w5 bL hg => ?_
   have hG:=aK.gr hg;replace hw:=hw.own pQ hg;(replace hX:=hX.ay hG rfl;replace hY:=hY.ay hG rfl;replace hO:=hO.ay hG rfl);refine Wz ?_;exact ae.mn rfl rfl bL rfl ⟨_,rfl,hw,⟨_,G,_⟩,zr,rfl,⟨hX,hY.own.low qq,hO.row.low (Nat.le_trans qq lf),hO.each.mono fun _ _ h=>h.low (Nat.le_trans qq lf),xi.pair⟩,⟨m1,m2,qq,lf,zG,hY,hO.each⟩⟩
open Go.RowKit
theorem rr (A:Option Addr) (n c:Nat) (l:List ByteArray) (x:ByteArray) (w:World) (hl:Sl w 1 encStr A n l) (hn:n≤9223372036854775807) :
 bt Tryz.prog 70 [.slice A n c,.string x] w fun v _ => ∃ i:Int,v = .int .i64 i∧decide (0≤i)=ul l x:=by
 refine aM Tryz.func70 rfl Tryz.ntmps70 rfl ?_;have hw:=Ext.refl w;have hA:=hl.base;have kB:=hl.len;refine Wz ?_
 refine CW.loop (fun k:Nat=>[(0,.slice A n c),(1,.string x),(7,.int .i64 (n:Int)),(8,.int .i64 (k:Int))]) (fun k w'=>k≤n∧Ext w w' ∧ ∀ (i:Nat) (h:i<l.length),i<k→l[i]≠x)
  (fun k=>n-k) 0 ⟨rfl,rfl,rfl,rfl,trivial⟩ ⟨by omega,hw,fun i h hi=>by omega⟩ ?_
 clear hw;rintro k w' ⟨hk,hw,hI⟩
 by_cases cb:k<n
 ·by_cases hx:x=l[k]
  ·repeat' (first|refine Wz ?_|refine SW.st (ao hw rfl (hl.one cb rfl)) rfl ?_|(refine SW.st ((iO rfl rfl).eq (congrArg Value.bool (decide_eq_true hx))) rfl ?_))
   refine ae.aO rfl rfl ⟨_,rfl,hw,_,rfl,?_⟩;rw [kn.2 (hx ▸ List.getElem_mem (hl.lt cb))];simp
  ·repeat' (first|refine Wz ?_|refine SW.st (ao hw rfl (hl.one cb rfl)) rfl ?_|(refine SW.st ((iO rfl rfl).eq (congrArg Value.bool (decide_eq_false hx))) rfl ?_))
   refine ae.again (k+1) ⟨rfl,rfl,rfl,rfl,trivial⟩ (by omega) ⟨by omega,hw,fun i h' hi => ?_⟩;by_cases zW:i=k
   ·subst zW;exact fun e=>hx e.symm
   ·exact hI i h' (by omega)
 ·refine Wz ?_;refine ae.aO rfl rfl ⟨_,rfl,hw,_,rfl,?_⟩
  have hx:ul l x=false:=by
   cases e:ul l x
   ·rfl
   ·obtain ⟨i,hi,e⟩:=List.getElem_of_mem (kn.1 e);exact absurd e (hI i hi (by omega))
  rw [hx];simp
theorem oF (A:Option Addr) (n c:Nat) (l:List ByteArray) (x:ByteArray) (w:World) (hl:Sl w 1 encStr A n l) (hn:n≤9223372036854775807) :
 bt Tryz.prog 41 [.slice A n c,.string x] w fun v _=>v = .bool (ul l x):=by
 refine aM Tryz.func41 rfl Tryz.ntmps41 rfl ?_;have hw:=Ext.refl w;refine Wz ?_;refine SW.call rfl rfl (rr _ _ _ _ _ _ (hl.ext hw) hn) fun v w1 ab hv => ?_
 obtain ⟨i,rfl,hi⟩:=hv;replace hw:=Ext.trans hw ab;refine Wz ?_;exact ae.aO rfl rfl ⟨_,rfl,hw,by rw [hi]⟩
theorem ye {α β:Type} {p : α → Bool} {q : β → Bool} {l:List α} {m:List β} (hl:l.length=m.length) (h:∀ (k:Nat) (h1:k<l.length) (h2:k<m.length),p l[k]=q m[k]) : idxOf p l=idxOf q m∧l.any p=m.any q:=by
 have e:l.map p=m.map q:=List.ext_getElem (by simp [hl]) fun k h1 h2=>by simpa using h k (by simpa using h1) (by simpa using h2)
 have a1:l.any p=m.any q:=by
  have x1:(l.map p).any id=l.any p:=by rw [List.any_map];rfl
  have x2:(m.map q).any id=m.any q:=by rw [List.any_map];rfl
  rw [← x1,← x2,e]
 have a2:l.findIdx p=m.findIdx q:=by
  have x1:(l.map p).findIdx id=l.findIdx p:=by rw [List.findIdx_map];rfl
  have x2:(m.map q).findIdx id=m.findIdx q:=by rw [List.findIdx_map];rfl
  rw [← x1,← x2,e]
 unfold idxOf;rw [a1,a2];exact ⟨rfl,rfl⟩
theorem zI {w:World} {A:Option Addr} {n:Nat} {l l':List ByteArray} (h:Sl w 1 encStr A n l) (h':Sl w 1 encStr A n l') : l=l':=by
 have e1:=h.len;have e2:=h'.len;refine List.ext_getElem (by omega) fun k h1 h2 => ?_
 have a:=h.one (i:=k) (by omega) (u := .string l[k]) rfl;have b:=h'.one (i:=k) (by omega) (u := .string l'[k]) rfl;rw [a] at b;simpa using b
theorem BK (w:World) (n:ByteArray) : ∃ p:de→Bool,∀ x c,B5 w x c→p x=iX n c:=by
 classical
 refine ⟨fun x=>decide (∃ c,B5 w x c∧iX n c=true),fun x c h => ?_⟩;cases e:iX n c
 ·refine decide_eq_false ?_;rintro ⟨c',h',e'⟩
  unfold iX at e e';rw [zI h'.names h.names,e] at e';cases e'
 ·exact decide_eq_true ⟨c,h,e⟩
theorem zJ (x:de) (c:bg) (b3:Nat) (n:ByteArray) (w:World) (h3:aI w b3 9 [.string n]) (hx:B5 w x c) (hn:x.Names.n≤9223372036854775807) :
 bt Tryz.prog 40 ([.agg (df x).toArray]++[.pointer (some ⟨b3,0,none⟩)]) w fun v _=>v = .bool (iX n c):=by
 refine aM Tryz.func40 rfl Tryz.ntmps40 rfl ?_;refine CW.seq (CW.region (SW.box rfl rfl fun b1 w1 hw ik aB => ?_));replace h3:=h3.ext hw;have IL:=h3.cell (i:=0) (v := .string n) rfl;rw [add_zero] at IL;repeat' (first|refine Wz ?_|refine SW.st (ak rfl IL) rfl ?_|(refine SW.call rfl rfl (oF _ _ _ _ _ _ (hx.names.ext hw) hn) ?_;intro v w1 ab hv;subst hv;replace hw:=Ext.trans hw ab;replace aB:=aB.ext ab;clear ab))
 exact ae.aO rfl rfl ⟨_,rfl,hw,rfl⟩
theorem BL (r:dP) (s:aE) (n:ByteArray) (w:World) (hr:rG w r s) (hs:s.small) :
 bt Tryz.prog 24 [.agg (aT r).toArray,.string n] w fun v _=>v = .tuple #[.int .i64 (idxOf (iX n) s.aa),.bool (s.aa.any (iX n))]:=by
 refine aM Tryz.func24 rfl Tryz.ntmps24 rfl ?_;obtain ⟨cs,hc⟩:=hr.dW;obtain ⟨z1,z2⟩:=hc.len;have m3:=hs.dW;obtain ⟨p,hp⟩:=BK w n;have I7:=ye (p:=p) (q:=iX n) (l:=cs) (m:=s.aa) (by omega) fun k h1 h2=>hp _ _ (hc.each.get k h1 h2)
 refine CW.seq (CW.region (SW.box rfl rfl fun b2 w1 hw im aK => ?_));refine SW.Ek rfl rfl rfl fun b3 w2 cJ bM ar => ?_
 (replace hw:=Ext.trans hw cJ;replace aK:=aK.ext cJ);repeat' (first|refine Wz ?_|(refine SW.st (iJ (vs:=[.pointer (some ⟨b3,0,none⟩)]) rfl) rfl ?_))
 refine SW.call rfl rfl (kP _ _ _ _ _ (hc.row.ext hw) _ [.pointer (some ⟨b3,0,none⟩)] p (fun x => .agg (df x).toArray) (fun x=>rfl) (fun x hx w1 kH=>by
  obtain ⟨k,hk,rfl⟩:=List.getElem_of_mem hx;have oV:k<s.aa.length:=by omega
  have gu:=hc.each.get k hk oV;have q1:=(hs.each _ (List.getElem_mem oV)).names;have q2:=gu.names.len;rw [hp _ _ gu];exact zJ _ _ b3 n w1 (ar.ext kH) (gu.ext (Ext.trans hw kH)) (by omega)) (by omega)) fun v w4 iS hv => ?_
 subst hv;rw [I7.1];replace hw:=Ext.trans hw iS;have yj:=iL (iX n) s.aa;refine Wz ?_;all_goals exact ae.cy rfl rfl rfl ⟨_,rfl,hw,by rw [yj]⟩
theorem qS (r:dP) (s:aE) (n:ByteArray) (w:World) (hr:rG w r s) (hs:s.small) :
 bt Tryz.prog 18 [.agg (aT r).toArray,.string n] w fun v _=>v = .int .i64 (idxOf (iX n) s.aa):=by
 refine aM Tryz.func18 rfl Tryz.ntmps18 rfl ?_;refine CW.seq (CW.region (SW.box rfl rfl fun b2 w1 hw im aK => ?_));obtain ⟨cs,hc⟩:=hr.dW;obtain ⟨z1,z2⟩:=hc.len;have m3:=hs.dW;repeat' (first|refine Wz ?_|(first|refine CW.gB rfl (fun h => ?_) (fun h => ?_)|refine CW.gC rfl (fun h => ?_) (fun h => ?_)|refine CW.bG rfl ?_|refine CW.bA rfl ?_|refine CW.cond rfl (fun h => ?_) (fun h => ?_))|refine SW.bZ rfl rfl rfl (fun h => ?_) (fun h => ?_)|refine SW.eG rfl rfl rfl (fun h => ?_) (fun h => ?_)|refine SW.want rfl rfl ?_|refine SW.skip rfl rfl rfl rfl ?_|refine SW.jQ rfl rfl rfl ?_|refine SW.split rfl rfl rfl (fun h => ?_) (fun h => ?_))
 refine CW.loop (fun k:Nat=>[(1,.string n),(2,.pointer (some ⟨b2,0,none⟩)),(5,.int .i64 (k:Int))])
  (fun k w'=>k≤r.aa.n∧Ext w w'∧aI w' b2 30 (aT r) ∧ ∀ (j:Nat) (hj:j<s.aa.length),j<k→iX n s.aa[j]=false) (fun k=>r.aa.n-k) 0
  ⟨rfl,rfl,rfl,trivial⟩ ⟨by omega,hw,aK,fun j hj h=>by omega⟩ ?_
 clear hw aK;rintro i w' ⟨hk,hw,aK,hI⟩
 have hA:=hc.row.base;by_cases ck:i<r.aa.n
 ·have jP:i<cs.length:=by omega
  have kM:i<s.aa.length:=by omega
  have gu:=hc.each.get i jP kM;have sm:=(hs.each _ (List.getElem_mem kM)).names;have q1:=gu.names.len;have g0:=hc.row.dA ck (j:=0) (u := .slice cs[i].Names.A cs[i].Names.n cs[i].Names.c) rfl;repeat' (first|refine Wz ?_|(first|refine CW.gB rfl (fun h => ?_) (fun h => ?_)|refine CW.gC rfl (fun h => ?_) (fun h => ?_)|refine CW.bG rfl ?_|refine CW.bA rfl ?_|refine CW.cond rfl (fun h => ?_) (fun h => ?_))|refine SW.bZ rfl rfl rfl (fun h => ?_) (fun h => ?_)|refine SW.eG rfl rfl rfl (fun h => ?_) (fun h => ?_)|refine SW.want rfl rfl ?_|refine SW.skip rfl rfl rfl rfl ?_|refine SW.jQ rfl rfl rfl ?_|refine SW.split rfl rfl rfl (fun h => ?_) (fun h => ?_)|refine SW.st (ao hw rfl (aK.cell (i:=6) (v := .slice r.aa.A r.aa.n r.aa.c) rfl)) rfl ?_)
  refine CW.loop (fun k:Nat=>[(1,.string n),(2,.pointer (some ⟨b2,0,none⟩)),(5,.int .i64 (i:Int)),(6,.int .i64 (k:Int))])
   (fun k w'=>k≤cs[i].Names.n∧Ext w w'∧aI w' b2 30 (aT r) ∧ ∀ (j:Nat) (hj:j<s.aa[i].Names.length),j<k→s.aa[i].Names[j]≠n) (fun k=>cs[i].Names.n-k) 0
   ⟨rfl,rfl,rfl,rfl,trivial⟩ ⟨by omega,hw,aK,fun j hj h=>by omega⟩ ?_
  clear hw aK;rintro k w' ⟨hk,hw,aK,hJ⟩
  have rN:=gu.names.base;by_cases cb:k<cs[i].Names.n
  ·have di:k<s.aa[i].Names.length:=by omega
   by_cases he:s.aa[i].Names[k]=n
   ·have hh:iX n s.aa[i]=true:=kn.2 (he ▸ List.getElem_mem di)
    repeat' (first|refine Wz ?_|(first|refine CW.gB rfl (fun h => ?_) (fun h => ?_)|refine CW.gC rfl (fun h => ?_) (fun h => ?_)|refine CW.bG rfl ?_|refine CW.bA rfl ?_|refine CW.cond rfl (fun h => ?_) (fun h => ?_))|refine SW.bZ rfl rfl rfl (fun h => ?_) (fun h => ?_)|refine SW.eG rfl rfl rfl (fun h => ?_) (fun h => ?_)|refine SW.want rfl rfl ?_|refine SW.skip rfl rfl rfl rfl ?_|refine SW.jQ rfl rfl rfl ?_|refine SW.split rfl rfl rfl (fun h => ?_) (fun h => ?_)|refine SW.st (aZ (i) rfl rfl (by assumption) (by omega) (by omega)) rfl ?_|refine SW.st (aZ (k) rfl rfl (by assumption) (by omega) (by omega)) rfl ?_|refine SW.st (ao hw rfl (aK.cell (i:=6) (v := .slice r.aa.A r.aa.n r.aa.c) rfl)) rfl ?_|refine SW.st (ak rfl g0) rfl ?_|refine SW.st (ao hw rfl g0) rfl ?_|refine SW.st (ak rfl (gu.names.one cb rfl)) rfl ?_|refine SW.st (ao hw rfl (gu.names.one cb rfl)) rfl ?_|(refine SW.st ((iO rfl rfl).eq (congrArg Value.bool (decide_eq_true he))) rfl ?_))
    exact ae.aO rfl rfl ⟨_,rfl,hw,by rw [iw kM hh hI]⟩
   ·repeat' (first|refine Wz ?_|(first|refine CW.gB rfl (fun h => ?_) (fun h => ?_)|refine CW.gC rfl (fun h => ?_) (fun h => ?_)|refine CW.bG rfl ?_|refine CW.bA rfl ?_|refine CW.cond rfl (fun h => ?_) (fun h => ?_))|refine SW.bZ rfl rfl rfl (fun h => ?_) (fun h => ?_)|refine SW.eG rfl rfl rfl (fun h => ?_) (fun h => ?_)|refine SW.want rfl rfl ?_|refine SW.skip rfl rfl rfl rfl ?_|refine SW.jQ rfl rfl rfl ?_|refine SW.split rfl rfl rfl (fun h => ?_) (fun h => ?_)|refine SW.st (aZ (i) rfl rfl (by assumption) (by omega) (by omega)) rfl ?_|refine SW.st (aZ (k) rfl rfl (by assumption) (by omega) (by omega)) rfl ?_|refine SW.st (ao hw rfl (aK.cell (i:=6) (v := .slice r.aa.A r.aa.n r.aa.c) rfl)) rfl ?_|refine SW.st (ak rfl g0) rfl ?_|refine SW.st (ao hw rfl g0) rfl ?_|refine SW.st (ak rfl (gu.names.one cb rfl)) rfl ?_|refine SW.st (ao hw rfl (gu.names.one cb rfl)) rfl ?_|(refine SW.st ((iO rfl rfl).eq (congrArg Value.bool (decide_eq_false he))) rfl ?_))
    exact ae.again (k+1) ⟨rfl,rfl,rfl,rfl,trivial⟩ (by omega) ⟨by omega,hw,aK,fun j hj h=>by
     by_cases e:j=k
     ·subst e;exact he
     ·exact hJ j hj (by omega)⟩
  ·have hh:iX n s.aa[i]=false:=by
    cases e:iX n s.aa[i]
    ·rfl
    ·obtain ⟨j,hj,e⟩:=List.getElem_of_mem (kn.1 e);exact absurd e (hJ j hj (by omega))
   repeat' (first|refine Wz ?_|(first|refine CW.gB rfl (fun h => ?_) (fun h => ?_)|refine CW.gC rfl (fun h => ?_) (fun h => ?_)|refine CW.bG rfl ?_|refine CW.bA rfl ?_|refine CW.cond rfl (fun h => ?_) (fun h => ?_))|refine SW.bZ rfl rfl rfl (fun h => ?_) (fun h => ?_)|refine SW.eG rfl rfl rfl (fun h => ?_) (fun h => ?_)|refine SW.want rfl rfl ?_|refine SW.skip rfl rfl rfl rfl ?_|refine SW.jQ rfl rfl rfl ?_|refine SW.split rfl rfl rfl (fun h => ?_) (fun h => ?_)|refine SW.st (aZ (i) rfl rfl (by assumption) (by omega) (by omega)) rfl ?_|refine SW.st (aZ (k) rfl rfl (by assumption) (by omega) (by omega)) rfl ?_|refine SW.st (ao hw rfl (aK.cell (i:=6) (v := .slice r.aa.A r.aa.n r.aa.c) rfl)) rfl ?_|refine SW.st (ak rfl g0) rfl ?_|refine SW.st (ao hw rfl g0) rfl ?_)
   exact ae.again (i+1) ⟨rfl,rfl,rfl,trivial⟩ (by omega) ⟨by omega,hw,aK,fun j hj h=>by
    by_cases e:j=i
    ·subst e;exact hh
    ·exact hI j hj (by omega)⟩
 ·repeat' (first|refine Wz ?_|(first|refine CW.gB rfl (fun h => ?_) (fun h => ?_)|refine CW.gC rfl (fun h => ?_) (fun h => ?_)|refine CW.bG rfl ?_|refine CW.bA rfl ?_|refine CW.cond rfl (fun h => ?_) (fun h => ?_))|refine SW.bZ rfl rfl rfl (fun h => ?_) (fun h => ?_)|refine SW.eG rfl rfl rfl (fun h => ?_) (fun h => ?_)|refine SW.want rfl rfl ?_|refine SW.skip rfl rfl rfl rfl ?_|refine SW.jQ rfl rfl rfl ?_|refine SW.split rfl rfl rfl (fun h => ?_) (fun h => ?_)|refine SW.st (ao hw rfl (aK.cell (i:=6) (v := .slice r.aa.A r.aa.n r.aa.c) rfl)) rfl ?_)
  exact ae.aO rfl rfl ⟨_,rfl,hw,by rw [(fA (fun j hj=>hI j hj (by omega))).1]⟩
open Go.RowKit
set_option maxHeartbeats 2000000 in
theorem E9 (r:dP) (s:aE) (n:ByteArray) (cpu:Int) (w:World) (hr:rG w r s) (hf:s.gL) (JU:n.size≤140737488351232) :
 bt Tryz.prog 14 [.agg (aT r).toArray,.string n,.int .i64 cpu] w (GV w.heap.size s n cpu):=by
 refine aM Tryz.func14 rfl Tryz.ntmps14 rfl ?_;have hs:=hf.small;refine CW.seq (CW.region (SW.box rfl rfl fun b3 w1 hw bM ar => ?_));refine SW.alloc rfl fun b6 w3 j2 fb ax => ?_
 have dr:w.heap.size≤b6:=Nat.le_trans hw.size fb
 (replace hw:=Ext.trans hw j2;replace ar:=ar.ext j2);obtain ⟨q,hq⟩ : ∃ q,kj s=q:=⟨_,rfl⟩
 have c1:∀ w',Ext w w'→bt Tryz.prog 23 [.agg (aT r).toArray] w' fun v _=>v = .int .i64 (if q then 0 else 8):=fun w' hx=>by
  have:=zn r s w' (hr.ext hx) hf
  rwa [hq] at this
 cases q
 ·simp only [Bool.false_eq_true,if_false] at c1;repeat' (first|refine Wz ?_|(refine SW.call rfl rfl (c1 _ hw) ?_;intro v w1 ab hv;subst hv;replace hw:=Ext.trans hw ab;replace ar:=ar.ext ab;replace ax:=ax.ext ab;clear ab))
  refine SW.ap ax rfl rfl rfl rfl (dH .zero) fun w5 bL hg => ?_
  replace hw:=hw.own dr hg;refine Wz ?_;exact ae.dB rfl rfl rfl rfl bL rfl ⟨_,rfl,hw,.inl ⟨by rw [zo hq];decide,by rw [zo hq];rfl⟩⟩
 ·simp only [if_true] at c1;obtain ⟨t,ht⟩ : ∃ t,s.aa.any (iX n)=t:=⟨_,rfl⟩;obtain ⟨ix,rE⟩ : ∃ ix,idxOf (iX n) s.aa=ix:=⟨_,rfl⟩
  have c3:∀ w',Ext w w'→bt Tryz.prog 24 [.agg (aT r).toArray,.string n] w' fun v _=>v = .tuple #[.int .i64 ix,.bool t]:=fun w' hx=>by
   have:=BL r s n w' (hr.ext hx) hs
   rwa [ht,rE] at this
  cases t
  ·repeat' (first|refine Wz ?_|(refine CW.bG rfl ?_)|((first|refine SW.call rfl rfl (c1 _ hw) ?_|refine SW.call rfl rfl (c3 _ hw) ?_);intro v w1 ab hv;subst hv;replace hw:=Ext.trans hw ab;replace ar:=ar.ext ab;replace ax:=ax.ext ab;clear ab))
   refine SW.ap ax rfl rfl rfl rfl (dH .zero) fun w5 bL hg => ?_
   replace hw:=hw.own dr hg;refine Wz ?_;exact ae.dB rfl rfl rfl rfl bL rfl ⟨_,rfl,hw,.inl ⟨by rw [zp hq ht];decide,by rw [zp hq ht];rfl⟩⟩
  ·have CG:=hr.heap.er;by_cases hc : 0≤cpu∧cpu<s.Heap.bX
   ·repeat' (first|refine Wz ?_|(refine CW.bA rfl ?_)|((first|refine SW.call rfl rfl (c1 _ hw) ?_|refine SW.call rfl rfl (c3 _ hw) ?_);intro v w1 ab hv;subst hv;replace hw:=Ext.trans hw ab;replace ar:=ar.ext ab;replace ax:=ax.ext ab;clear ab))
    all_goals try omega
    refine SW.call rfl rfl (zF r s _ (hr.ext hw) hs) fun v w6 aj hv => ?_
    obtain ⟨q,zr,rfl,hO,hI⟩:=hv;replace hO:=hO.low hw.size;replace hI:=hI.low hw.size;(replace hw:=Ext.trans hw aj;replace ax:=ax.ext aj);refine Wz ?_;refine SW.ap ax rfl rfl rfl rfl (dH q) fun w5 bL hg => ?_
    have hG:=ax.gr hg;replace hw:=hw.own dr hg;(replace hO:=hO.ay hG rfl;replace hI:=hI.ay hG rfl);refine Wz ?_;exact ae.dB rfl rfl rfl rfl bL rfl ⟨_,rfl,hw,.inr ⟨Dm hq ht hc,q,zr,by rw [rE];rfl,hO,hI⟩⟩
   ·rcases (show cpu<0∨(0≤cpu∧s.Heap.bX≤cpu) by omega) with g|g
    all_goals
     repeat' (first|refine Wz ?_|(refine CW.bA rfl ?_)|((first|refine SW.call rfl rfl (c1 _ hw) ?_|refine SW.call rfl rfl (c3 _ hw) ?_);intro v w1 ab hv;subst hv;replace hw:=Ext.trans hw ab;replace ar:=ar.ext ab;replace ax:=ax.ext ab;clear ab))
     all_goals try omega
     refine SW.ap ax rfl rfl rfl rfl (dH .zero) fun w5 bL hg => ?_
     replace hw:=hw.own dr hg;refine Wz ?_;exact ae.dB rfl rfl rfl rfl bL rfl ⟨_,rfl,hw,.inl ⟨by rw [zq hq ht hc];decide,by rw [zq hq ht hc];rfl⟩⟩
set_option maxHeartbeats 1000000 in
theorem wv (r:dP) (s:aE) (n:ByteArray) (cpu:Int) (w:World) (hr:rG w r s) (hf:s.gL) :
 bt Tryz.prog 16 [.agg (aT r).toArray,.string n,.int .i64 cpu] w fun v _=>v = .int .i64 (k9 s n cpu):=by
 refine aM Tryz.func16 rfl Tryz.ntmps16 rfl ?_;have hs:=hf.small;refine CW.seq (CW.region (SW.box rfl rfl fun b3 w1 hw bM ar => ?_));obtain ⟨q,hq⟩ : ∃ q,kj s=q:=⟨_,rfl⟩
 have c1:∀ w',Ext w w'→bt Tryz.prog 27 [.agg (aT r).toArray] w' fun v _=>v = .bool q:=fun w' hx=>by
  have:=Dn r s w' (hr.ext hx) hf
  rwa [hq] at this
 cases q
 ·repeat' (first|refine Wz ?_|(refine CW.bG rfl ?_)|(refine SW.call rfl rfl (c1 _ hw) ?_;intro v w1 ab hv;subst hv;replace hw:=Ext.trans hw ab;replace ar:=ar.ext ab;clear ab))
  exact ae.aO rfl rfl ⟨_,rfl,hw,by rw [zo hq]⟩
 ·have hM:=(xK.1 hq).heap.er;obtain ⟨ix,rE⟩ : ∃ ix,idxOf (iX n) s.aa=ix:=⟨_,rfl⟩;have yj:=iL (iX n) s.aa;rw [rE] at yj
  have c3:∀ w',Ext w w'→bt Tryz.prog 18 [.agg (aT r).toArray,.string n] w' fun v _=>v = .int .i64 ix:=fun w' hx=>by
   have:=qS r s n w' (hr.ext hx) hs
   rwa [rE] at this
  have eC:=hr.heap.er;by_cases I8 : 0≤ix
  ·have ht:s.aa.any (iX n)=true:=by rw [← yj];exact decide_eq_true I8
   by_cases hc : 0≤cpu∧cpu<s.Heap.bX
   ·repeat' (first|refine Wz ?_|(refine CW.bA rfl ?_)|((first|refine SW.call rfl rfl (c1 _ hw) ?_|refine SW.call rfl rfl (c3 _ hw) ?_|refine SW.call rfl rfl (bK _ _ _ _) ?_);intro v w1 ab hv;subst hv;replace hw:=Ext.trans hw ab;replace ar:=ar.ext ab;clear ab))
    all_goals try omega
    exact ae.aO rfl rfl ⟨_,rfl,hw,by rw [Dm hq ht hc]⟩
   ·repeat' (first|refine Wz ?_|(refine CW.bA rfl ?_)|((first|refine SW.call rfl rfl (c1 _ hw) ?_|refine SW.call rfl rfl (c3 _ hw) ?_|refine SW.call rfl rfl (bK _ _ _ _) ?_);intro v w1 ab hv;subst hv;replace hw:=Ext.trans hw ab;replace ar:=ar.ext ab;clear ab))
    all_goals try omega
    exact ae.aO rfl rfl ⟨_,rfl,hw,by rw [zq hq ht hc]⟩
  ·have ht:s.aa.any (iX n)=false:=by rw [← yj];exact decide_eq_false I8
   repeat' (first|refine Wz ?_|(refine CW.bA rfl ?_)|((first|refine SW.call rfl rfl (c1 _ hw) ?_|refine SW.call rfl rfl (c3 _ hw) ?_);intro v w1 ab hv;subst hv;replace hw:=Ext.trans hw ab;replace ar:=ar.ext ab;clear ab))
   all_goals try omega
   exact ae.aO rfl rfl ⟨_,rfl,hw,by rw [zp hq ht]⟩
end Go.Proofs.YtjimadiidbkohaaGreatDoor
