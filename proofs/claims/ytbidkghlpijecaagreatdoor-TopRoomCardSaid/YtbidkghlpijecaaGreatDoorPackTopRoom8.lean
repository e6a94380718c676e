/-
  Texts of the claim TopRoom, part 8: what its theorem leans on.
-/
import Derived.Test.YtbidkghlpijecaaGreatDoorPackTopRoom5
import Derived.Test.YtbidkghlpijecaaGreatDoorPackTopRoom2
import Derived.Test.YtbidkghlpijecaaGreatDoorPackTopRoom3
import Derived.Test.YtbidkghlpijecaaGreatDoorPackTopRoom7
import Derived.Test.YtbidkghlpijecaaGreatDoorPackTopRoom4
import Derived.Test.YtbidkghlpijecaaGreatDoorPackTopRoom6
set_option linter.unusedVariables false
set_option linter.unusedSimpArgs false
namespace Go.Proofs.YtbidkghlpijecaaGreatDoor
open Go.RowKit
theorem dt (r:gb) : ∀ v∈bW r,v.oneCell'=true:=fu.one (enc:=bW) r
theorem DJ (r:bO) : ∀ v∈bi r,v.oneCell'=true:=fu.one (enc:=bi) r
def zq (ls:List bO) : Prop := ∀ (i j:Nat) (hi:i<ls.length) (hj:j<ls.length),i≠j → ∀ g,aG ls[i].an.A ls[i].an.c=some g→aG ls[j].an.A ls[j].an.c≠some g
structure oW (m:fD) (zs:List bU) (ls:List bO) : Prop where
 cT:∀ (i:Nat) (hi:i<ls.length) (g:Nat),aG ls[i].an.A ls[i].an.c=some g→aG m.A m.c≠some g
 types:∀ (i:Nat) (hi:i<ls.length) (g:Nat),aG ls[i].an.A ls[i].an.c=some g → ∀ u∈zs,aG u.Types.A u.Types.c≠some g
 sep:zq ls
theorem oW.nil (m:fD) (zs:List bU) : oW m zs []:=⟨fun i hi=>by simp at hi,fun i hi=>by simp at hi,fun i j hi=>by simp at hi⟩
theorem oW.snoc {w:World} {lo:Nat} {m:fD} {zs:List bU} {ls:List bO} {s li:fD} {x:List Int} {zl:List ab} {L:List ap} {y:bO} (h:oW m zs ls) (hm:Own w lo 3 1 bB m.A m.n m.c x) (hz:gT w lo s zs zl) (hl:dE w lo li ls L) (hy:∀ g,aG y.an.A y.an.c=some g→w.heap.size≤g) : oW m zs (ls++[y]):=by
 have dg:∀ (i:Nat) (hi:i<ls.length) (g:Nat),aG ls[i].an.A ls[i].an.c=some g→g<w.heap.size:=fun i hi g e=>(hl.each.get i hi (by rw [← hl.each.len];exact hi)).cb.lt_size g e
 have key:∀ (i:Nat) (hi:i<(ls++[y]).length),(∃ h:i<ls.length,(ls++[y])[i]=ls[i])∨(i=ls.length∧(ls++[y])[i]=y):=fun i hi=>by
  by_cases e:i<ls.length
  ·exact .inl ⟨e,List.getElem_append_left e⟩
  ·have:i=ls.length:=by simp at hi;omega
   subst this;exact .inr ⟨rfl,by simp⟩
 refine ⟨fun i hi g e => ?_,fun i hi g e u hu => ?_,fun i j hi hj j1 g e e2 => ?_⟩
 ·rcases key i hi with ⟨h1,h2⟩|⟨h1,h2⟩
  ·rw [h2] at e;exact h.cT i h1 g e
  ·rw [h2] at e;intro e3;have:=hm.lt_size g e3;have:=hy g e;omega
 ·rcases key i hi with ⟨h1,h2⟩|⟨h1,h2⟩
  ·rw [h2] at e;exact h.types i h1 g e u hu
  ·rw [h2] at e;intro e3;obtain ⟨j,hj,rfl⟩:=List.getElem_of_mem hu;have:=(hz.each.get j hj (by rw [← hz.each.len];exact hj)).types.lt_size g e3
   have:=hy g e
   omega
 ·rcases key i hi with ⟨h1,h2⟩|⟨h1,h2⟩
  ·rw [h2] at e;rcases key j hj with ⟨h3,h4⟩|⟨h3,h4⟩
   ·rw [h4] at e2;exact h.sep i j h1 h3 j1 g e e2
   ·rw [h4] at e2;have:=dg i h1 g e;have:=hy g e2;omega
  ·rw [h2] at e;rcases key j hj with ⟨h3,h4⟩|⟨h3,h4⟩
   ·rw [h4] at e2;have:=dg j h3 g e2;have:=hy g e;omega
   ·omega
def rb (lv:fD) (zs:List bU) : Prop := ∀ u∈zs,∀ g,aG u.ag.A u.ag.c=some g→aG lv.A lv.c≠some g
theorem rb.nil (lv:fD) : rb lv []:=fun u hu=>by simp at hu
theorem rb.snoc {w:World} {lo:Nat} {lv:fD} {zs:List bU} {x:List Block} {u:bU} (h:rb lv zs) (hl:Own w lo 165 3 aA lv.A lv.n lv.c x) (hu:∀ g,aG u.ag.A u.ag.c=some g→w.heap.size≤g) : rb lv (zs++[u]):=fun y hy g e e2=>by
 rcases List.mem_append.1 hy with hy|hy
 ·exact h y hy g e e2
 ·simp at hy;subst hy;have:=hu g e
  have:=hl.lt_size g e2
  omega
structure DK (w:World) (lo:Nat) (r:gb) (h:Heap) : Prop where
 own:gq w lo r h
 all:∃ zs ls,gT w lo r.aL zs h.aL∧dE w lo r.aj ls h.aj∧oW r.bT zs ls∧rb r.Live zs
set_option maxHeartbeats 4000000 in
theorem oe (r:gb) (h:Heap) (w:World) (hr:AM w r h) (hs:h.small) :
 bl Tryz.prog 83 [.agg (bW r).toArray] w fun v w' => ∃ s,v = .agg (bW s).toArray∧DK w' w.heap.size s h:=by
 refine aD Tryz.func83 rfl Tryz.ntmps83 rfl ?_;refine CW.seq (CW.region (SW.box rfl rfl fun b1 w1 hw gX aB => ?_));refine SW.alloc rfl fun b2 w2 bo jg aC => ?_
 have oK:w.heap.size≤b2:=Nat.le_trans hw.size jg
 have BM:b2≠b1:=by have:=aB.lt;omega
 (replace hw:=Ext.trans hw bo;replace aB:=aB.ext bo);obtain ⟨zs,hz⟩:=hr.bz;obtain ⟨ls,hl⟩:=hr.lists;have Jb:=hr.cT.len;have Jc:=hr.live.len;have s1:=hs.cT;have s2:=hs.live;have s3:=hs.bz;have s4:=hs.lists;obtain ⟨z1,z2⟩:=hz.len;obtain ⟨l1,l2⟩:=hl.len;refine Wz ?_
 obtain ⟨K,hK⟩ : ∃ K:Env→World→Prop,K=fun L' w' => ∃ X c1 Y d1 b3,gH L' [(1,.pointer (some ⟨b1,0,none⟩)),(2,.pointer (some ⟨b2,0,none⟩)),(3,.pointer (some ⟨b3,0,none⟩))]∧Ext w w'∧aT w' b1 41 (bW r)∧aT w' b2 41 (bW .zero) ∧
  aT w' b3 41 (bW ⟨.nil,⟨X,r.bT.n,c1⟩,r.bt,.nil,⟨Y,r.Live.n,d1⟩⟩)∧Own w' w.heap.size 3 1 bB X r.bT.n c1 h.bT∧Own w' w.heap.size 165 3 aA Y r.Live.n d1 h.Live∧w.heap.size≤b3∧b1≠b3∧b2≠b3:=⟨_,rfl⟩
 refine CW.cut K ?_ ?_
 ·refine CW.any 10 mixed (dq (by kernel_rfl)) rfl fun w1 aa bm => ?_
  replace hw:=Ext.trans hw aa;replace aB:=aB.ext aa;replace aC:=aC.ext aa;clear aa;refine Wa ?_;refine SA.two 2 9 rfl rfl (by kernel_rfl) rfl rfl ?_ ?_
  ·refine SW.call rfl rfl (cX _ _ _ _ _ (hr.cT.ext hw) (by omega)) fun v w4 ao hv => ?_
   obtain ⟨X,c4,rfl,hX⟩:=hv;replace hX:=hX.low hw.size;replace hw:=Ext.trans hw ao;replace aB:=aB.ext ao;replace aC:=aC.ext ao;try replace aq:=aq.ext ao
   refine SW.nil (ae.sa ao ?_);refine SA.two 7 9 rfl rfl (by kernel_rfl) rfl rfl ?_ ?_
   ·refine SW.call rfl rfl (ia _ _ _ _ _ (hr.live.ext hw) (by omega)) fun v w4 ao hv => ?_
    obtain ⟨Y,d4,rfl,hY⟩:=hv;replace hY:=hY.low hw.size;replace hX:=hX.ext ao;replace hw:=Ext.trans hw ao;replace aB:=aB.ext ao;replace aC:=aC.ext ao;try replace aq:=aq.ext ao
    refine SW.nil (ae.sa ao ?_);refine Wa ?_;refine SA.one 9 rfl (by kernel_rfl) rfl ?_;refine SW.alloc rfl fun b3 w4 ao bL aq => ?_
    have cJ:w.heap.size≤b3:=Nat.le_trans hw.size bL
    have gY:b1≠b3:=by have:=aB.lt;omega
    have gl:b2≠b3:=by have:=aC.lt;omega
    replace hw:=Ext.trans hw ao;replace aB:=aB.ext ao;replace aC:=aC.ext ao;try replace hX:=hX.ext ao
    try replace hY:=hY.ext ao
    refine SW.nil (ae.sa ao ?_);refine SA.done (by kernel_rfl) ?_;skip;refine SW.ah aq rfl rfl rfl rfl (dt ⟨.nil,⟨X,r.bT.n,c4⟩,r.bt,.nil,⟨Y,r.Live.n,d4⟩⟩) fun w5 ct hg => ?_
    have hG:=aq.gr hg;replace hw:=hw.own cJ hg;(replace hX:=hX.au hG rfl;replace hY:=hY.au hG rfl);replace aB:=aB.grown hg (by simpa using gY);replace aC:=aC.grown hg (by simpa using gl);refine Wz ?_;exact ae.cut (K:=K) (by rw [hK];exact ⟨X,c4,Y,d4,b3,⟨rfl,rfl,rfl,trivial⟩,hw,aB,aC,ct,hX,hY,cJ,gY,gl⟩)
   ·refine SW.alloc rfl fun b3 w4 ao bL aq => ?_
    have cJ:w.heap.size≤b3:=Nat.le_trans hw.size bL
    have gY:b1≠b3:=by have:=aB.lt;omega
    have gl:b2≠b3:=by have:=aC.lt;omega
    replace hw:=Ext.trans hw ao;replace aB:=aB.ext ao;replace aC:=aC.ext ao;try replace hX:=hX.ext ao
    try replace hY:=hY.ext ao
    refine SW.nil (ae.sa ao ?_);refine SA.one 7 rfl (by kernel_rfl) rfl ?_;refine SW.call rfl rfl (ia _ _ _ _ _ (hr.live.ext hw) (by omega)) fun v w4 ao hv => ?_
    obtain ⟨Y,d4,rfl,hY⟩:=hv;replace hY:=hY.low hw.size;replace hX:=hX.ext ao;replace hw:=Ext.trans hw ao;replace aB:=aB.ext ao;replace aC:=aC.ext ao;try replace aq:=aq.ext ao
    refine SW.nil (ae.sa ao ?_);refine Wa ?_;refine SA.done (by kernel_rfl) ?_;skip;refine SW.ah aq rfl rfl rfl rfl (dt ⟨.nil,⟨X,r.bT.n,c4⟩,r.bt,.nil,⟨Y,r.Live.n,d4⟩⟩) fun w5 ct hg => ?_
    have hG:=aq.gr hg;replace hw:=hw.own cJ hg;(replace hX:=hX.au hG rfl;replace hY:=hY.au hG rfl);replace aB:=aB.grown hg (by simpa using gY);replace aC:=aC.grown hg (by simpa using gl);refine Wz ?_;exact ae.cut (K:=K) (by rw [hK];exact ⟨X,c4,Y,d4,b3,⟨rfl,rfl,rfl,trivial⟩,hw,aB,aC,ct,hX,hY,cJ,gY,gl⟩)
  ·refine SW.alloc rfl fun b3 w4 ao bL aq => ?_
   have cJ:w.heap.size≤b3:=Nat.le_trans hw.size bL
   have gY:b1≠b3:=by have:=aB.lt;omega
   have gl:b2≠b3:=by have:=aC.lt;omega
   replace hw:=Ext.trans hw ao;replace aB:=aB.ext ao;replace aC:=aC.ext ao;try replace hX:=hX.ext ao
   try replace hY:=hY.ext ao
   refine SW.nil (ae.sa ao ?_);refine SA.one 2 rfl (by kernel_rfl) rfl ?_;refine SW.call rfl rfl (cX _ _ _ _ _ (hr.cT.ext hw) (by omega)) fun v w4 ao hv => ?_
   obtain ⟨X,c4,rfl,hX⟩:=hv;replace hX:=hX.low hw.size;replace hw:=Ext.trans hw ao;replace aB:=aB.ext ao;replace aC:=aC.ext ao;try replace aq:=aq.ext ao
   refine SW.nil (ae.sa ao ?_);refine SA.one 7 rfl (by kernel_rfl) rfl ?_;refine SW.call rfl rfl (ia _ _ _ _ _ (hr.live.ext hw) (by omega)) fun v w4 ao hv => ?_
   obtain ⟨Y,d4,rfl,hY⟩:=hv;replace hY:=hY.low hw.size;replace hX:=hX.ext ao;replace hw:=Ext.trans hw ao;replace aB:=aB.ext ao;replace aC:=aC.ext ao;try replace aq:=aq.ext ao
   refine SW.nil (ae.sa ao ?_);refine Wa ?_;refine SA.done (by kernel_rfl) ?_;skip;refine SW.ah aq rfl rfl rfl rfl (dt ⟨.nil,⟨X,r.bT.n,c4⟩,r.bt,.nil,⟨Y,r.Live.n,d4⟩⟩) fun w5 ct hg => ?_
   have hG:=aq.gr hg;replace hw:=hw.own cJ hg;(replace hX:=hX.au hG rfl;replace hY:=hY.au hG rfl);replace aB:=aB.grown hg (by simpa using gY);replace aC:=aC.grown hg (by simpa using gl);refine Wz ?_;exact ae.cut (K:=K) (by rw [hK];exact ⟨X,c4,Y,d4,b3,⟨rfl,rfl,rfl,trivial⟩,hw,aB,aC,ct,hX,hY,cJ,gY,gl⟩)
 ·clear aB aC hw;subst hK;rintro L' w' ⟨X,c4,Y,d4,b3,nE,hw,aB,aC,aq,hX,hY,cJ,gY,gl⟩
  refine ae.sub nE ?_;refine Wz ?_
  refine CW.loop (fun s:Nat×Option Addr×Nat×List bU=>[(1,.pointer (some ⟨b1,0,none⟩)),(2,.pointer (some ⟨b2,0,none⟩)),(3,.pointer (some ⟨b3,0,none⟩)),(18,.slice r.aL.A r.aL.n r.aL.c),(19,.int .i64 (r.aL.n:Int)),(20,.int .i64 (s.1:Int))])
   (fun s w'=>s.1≤r.aL.n∧Ext w w'∧aT w' b1 41 (bW r)∧aT w' b2 41 (bW .zero)∧aT w' b3 41 (bW ⟨⟨s.2.1,s.1,s.2.2.1⟩,⟨X,r.bT.n,c4⟩,r.bt,.nil,⟨Y,r.Live.n,d4⟩⟩)∧Own w' w.heap.size 3 1 bB X r.bT.n c4 h.bT∧Own w' w.heap.size 165 3 aA Y r.Live.n d4 h.Live ∧
     gT w' w.heap.size ⟨s.2.1,s.1,s.2.2.1⟩ s.2.2.2 (h.aL.take s.1)∧rb ⟨Y,r.Live.n,d4⟩ s.2.2.2) (fun s=>r.aL.n-s.1) (0,none,0,[]) ⟨rfl,rfl,rfl,rfl,rfl,rfl,trivial⟩ ⟨by omega,hw,aB,aC,aq,hX,hY,gT.nil _ _,rb.nil _⟩ ?_
  clear aB aC aq hX hY hw nE;rintro ⟨k,A,c,zr⟩ w' ⟨hk,hw,aB,aC,aq,hX,hY,hO,Ff⟩
  simp only at hk aq hO Ff ⊢;have hA:=hz.row.base;by_cases ey:k<r.aL.n
  ·have JY:=hz.each.get k (by omega) (by omega);have gR:h.aL[k]'(by omega)∈h.aL:=List.getElem_mem _
   have q:=hs.free _ gR;have q1:=JY.free.len;have q2:=JY.types.len;repeat' (first|refine Wz ?_|refine SW.st (aN hw rfl rfl ((hz.row.all ey))) rfl ?_)
   refine SW.alloc rfl fun b5 w1 aa ig bw => ?_
   skip;refine SW.ah bw rfl rfl rfl rfl (cx _) fun w2 eQ hg => ?_
   have ao:=aa.own ig hg;have j2:w.heap.size≤b5:=Nat.le_trans hw.size ig
   replace hw:=Ext.trans hw ao;replace aB:=aB.ext ao;replace aC:=aC.ext ao;replace aq:=aq.ext ao;replace hX:=hX.ext ao;replace hY:=hY.ext ao;replace hO:=hO.ext ao;replace bw:=eQ;clear eQ aa hg ao;refine Wz ?_;refine CW.any 5 mixed (dq (by kernel_rfl)) rfl fun w1 aa bm => ?_
   replace hw:=Ext.trans hw aa;replace aB:=aB.ext aa;replace aC:=aC.ext aa;replace aq:=aq.ext aa;replace bw:=bw.ext aa;replace hX:=hX.ext aa;replace hY:=hY.ext aa;replace hO:=hO.ext aa;clear aa;refine Wa ?_;refine SA.one 3 rfl (by kernel_rfl) rfl ?_;refine SW.call rfl rfl (nk _ _ _ (JY.ext hw) (by omega) (by omega)) fun v w4 ao hv => ?_
   obtain ⟨s,rfl,jo,e1,e2⟩:=hv;have Mm:=Ff.snoc (u:=s) hY jo.free.ba;replace jo:=jo.low hw.size;(replace hw:=Ext.trans hw ao;replace aB:=aB.ext ao;replace aC:=aC.ext ao;replace aq:=aq.ext ao;replace bw:=bw.ext ao;replace hX:=hX.ext ao;replace hY:=hY.ext ao;replace hO:=hO.ext ao);refine SW.nil (ae.sa ao ?_);refine SA.one 4 rfl (by kernel_rfl) rfl ?_;refine SW.dJ rfl rfl rfl rfl rfl fun b w4 ao hb hB => ?_
   (replace hw:=Ext.trans hw ao;replace aB:=aB.ext ao;replace aC:=aC.ext ao;replace aq:=aq.ext ao;replace bw:=bw.ext ao;replace hX:=hX.ext ao;replace hY:=hY.ext ao;replace hO:=hO.ext ao;replace jo:=jo.ext ao);refine SW.nil (ae.sa ao ?_);refine SA.done (by kernel_rfl) ?_;refine SW.append hO.row (aT.wU (enc:=bG) hB) hw.size rfl rfl rfl (by simp only;omega) (by simp only;omega) fun A2 c2 w5 mn hg => ?_
   have hG:=hO.row.gr hg;replace hw:=aJ hw hg (Nat.le_refl _) hO.row.ba;(replace aB:=aB.au hG rfl;replace aC:=aC.au hG rfl;replace aq:=aq.au hG rfl;replace hX:=hX.au hG rfl;replace hY:=hY.au hG rfl;replace jo:=jo.au hG rfl);have hE:=hO.each.mono fun _ _ h=>h.au hG rfl
   refine Wz ?_;refine SW.bp (i:=0) aq rfl rfl rfl rfl fun w6 cS hg => ?_
   have hG:=aq.gr hg;replace hw:=hw.own cJ hg;replace aB:=aB.grown hg (by simpa using gY);replace aC:=aC.grown hg (by simpa using gl);(replace hX:=hX.au hG rfl;replace hY:=hY.au hG rfl;replace jo:=jo.au hG rfl;replace mn:=mn.au hG rfl);replace hE:=hE.mono fun _ _ h=>h.au hG rfl
   refine Wz ?_;refine ae.again (k+1,A2,c2,zr++[s]) ⟨rfl,rfl,rfl,rfl,rfl,rfl,trivial⟩ (by simp only;omega) ⟨by simp only;omega,hw,aB,aC,cS,hX,hY,⟨mn,?_⟩,Mm⟩;rw [List.take_succ_eq_append_getElem (by omega)];exact hE.snoc jo
  ·obtain rfl:k=r.aL.n:=by omega
   rw [List.take_of_length_le (by omega)] at hO;refine Wz ?_
   refine CW.loop (fun s:Nat×Option Addr×Nat×List bO=>[(2,.pointer (some ⟨b2,0,none⟩)),(3,.pointer (some ⟨b3,0,none⟩)),(33,.slice r.aj.A r.aj.n r.aj.c),(34,.int .i64 (r.aj.n:Int)),(35,.int .i64 (s.1:Int))])
    (fun s w'=>s.1≤r.aj.n∧Ext w w'∧aT w' b2 41 (bW .zero)∧aT w' b3 41 (bW ⟨⟨A,r.aL.n,c⟩,⟨X,r.bT.n,c4⟩,r.bt,⟨s.2.1,s.1,s.2.2.1⟩,⟨Y,r.Live.n,d4⟩⟩)∧Own w' w.heap.size 3 1 bB X r.bT.n c4 h.bT∧Own w' w.heap.size 165 3 aA Y r.Live.n d4 h.Live ∧
      gT w' w.heap.size ⟨A,r.aL.n,c⟩ zr h.aL∧dE w' w.heap.size ⟨s.2.1,s.1,s.2.2.1⟩ s.2.2.2 (h.aj.take s.1)∧oW ⟨X,r.bT.n,c4⟩ zr s.2.2.2) (fun s=>r.aj.n-s.1) (0,none,0,[]) ⟨rfl,rfl,rfl,rfl,rfl,trivial⟩ ⟨by omega,hw,aC,aq,hX,hY,hO,dE.nil _ _,oW.nil _ _⟩ ?_
   clear aB aC aq hX hY hw hO;rintro ⟨k,B,d,lr⟩ w' ⟨hk,hw,aC,aq,hX,hY,hO,hP,rc⟩
   simp only at hk aq hP rc ⊢;have hA:=hl.row.base;by_cases ey:k<r.aj.n
   ·have DL:=hl.each.get k (by omega) (by omega);have gR:h.aj[k]'(by omega)∈h.aj:=List.getElem_mem _
    have q:=hs.cb _ gR;have q1:=DL.cb.len;repeat' (first|refine Wz ?_|refine SW.st (aN hw rfl rfl ((hl.row.all ey))) rfl ?_)
    have Mn:=hP.row.lt_size;refine SW.alloc rfl fun b7 w1 aa iP bP => ?_
    skip;refine SW.ah bP rfl rfl rfl rfl (DJ _) fun w2 bu hg => ?_
    have ao:=aa.own iP hg;have jq:w.heap.size≤b7:=Nat.le_trans hw.size iP
    replace hw:=Ext.trans hw ao;replace aC:=aC.ext ao;replace aq:=aq.ext ao;replace hX:=hX.ext ao;replace hY:=hY.ext ao;replace hO:=hO.ext ao;replace hP:=hP.ext ao;replace bP:=bu;clear bu aa hg ao;refine Wz ?_;refine SW.call rfl rfl (cX _ _ _ _ _ (DL.cb.ext hw) (by omega)) fun v w4 ao hv => ?_
    obtain ⟨W,e4,rfl,hW⟩:=hv;replace rc:=rc.snoc (y:=⟨ls[k].eI,ls[k].ab,ls[k].Ty,⟨W,ls[k].an.n,e4⟩⟩) hX hO hP hW.ba;replace hW:=hW.low hw.size;(replace hw:=Ext.trans hw ao;replace aC:=aC.ext ao;replace aq:=aq.ext ao;replace bP:=bP.ext ao;replace hX:=hX.ext ao;replace hY:=hY.ext ao;replace hO:=hO.ext ao;replace hP:=hP.ext ao);refine Wz ?_;refine SW.bp (i:=3) bP rfl rfl rfl rfl fun w5 bu hg => ?_
    have hG:=bP.gr hg;replace hw:=hw.own jq hg;(replace aC:=aC.au hG rfl;replace aq:=aq.au hG rfl;replace hX:=hX.au hG rfl;replace hY:=hY.au hG rfl;replace hO:=hO.au hG rfl;replace hW:=hW.au hG rfl);replace hP:dE w5 w.heap.size ⟨B,k,d⟩ lr (h.aj.take k):=⟨hP.row.grown hg (.inr (fun e=>by have:=Mn _ e;omega)),hP.each.mono fun _ _ h=>h.au hG rfl⟩;refine Wz ?_;refine SW.dJ rfl rfl rfl rfl rfl fun b w6 ao hb hB => ?_
    (replace hw:=Ext.trans hw ao;replace aC:=aC.ext ao;replace aq:=aq.ext ao;replace hX:=hX.ext ao;replace hY:=hY.ext ao;replace hO:=hO.ext ao;replace hP:=hP.ext ao;replace hW:=hW.ext ao);refine SW.append hP.row (aT.wU (enc:=bi) (x:=⟨ls[k].eI,ls[k].ab,ls[k].Ty,⟨W,_,e4⟩⟩) hB) hw.size rfl rfl rfl (by simp only;omega) (by simp only;omega) fun A2 c2 w7 GQ hg => ?_
    have hG:=hP.row.gr hg;replace hw:=aJ hw hg (Nat.le_refl _) hP.row.ba;(replace aC:=aC.au hG rfl;replace aq:=aq.au hG rfl;replace hX:=hX.au hG rfl;replace hY:=hY.au hG rfl;replace hO:=hO.au hG rfl;replace hW:=hW.au hG rfl);have hE:=hP.each.mono fun _ _ h=>h.au hG rfl
    refine Wz ?_;refine SW.bp (i:=3) aq rfl rfl rfl rfl fun w8 cS hg => ?_
    have hG:=aq.gr hg;replace hw:=hw.own cJ hg;replace aC:=aC.grown hg (by simpa using gl);(replace hX:=hX.au hG rfl;replace hY:=hY.au hG rfl;replace hO:=hO.au hG rfl;replace GQ:=GQ.au hG rfl;replace hW:=hW.au hG rfl);replace hE:=hE.mono fun _ _ h=>h.au hG rfl
    refine Wz ?_;refine ae.again (k+1,A2,c2,lr++[⟨ls[k].eI,ls[k].ab,ls[k].Ty,⟨W,_,e4⟩⟩]) ⟨rfl,rfl,rfl,rfl,rfl,trivial⟩ (by simp only;omega) ⟨by simp only;omega,hw,aC,cS,hX,hY,hO,⟨GQ,?_⟩,rc⟩;rw [List.take_succ_eq_append_getElem (by omega)];exact hE.snoc ⟨DL.cpu,DL.gj,DL.ty,hW⟩
   ·obtain rfl:k=r.aj.n:=by omega
    rw [List.take_of_length_le (by omega)] at hP;refine Wz ?_;refine SW.ah aC rfl rfl rfl rfl (dt _) fun w5 ct hg => ?_
    have hG:=aC.gr hg;replace hw:=hw.own oK hg;(replace hX:=hX.au hG rfl;replace hY:=hY.au hG rfl;replace hO:=hO.au hG rfl;replace hP:=hP.au hG rfl);refine Wz ?_;exact ae.wY rfl rfl ct rfl ⟨_,rfl,hw,⟨⟨A,r.aL.n,c⟩,⟨X,r.bT.n,c4⟩,r.bt,⟨B,r.aj.n,d⟩,⟨Y,r.Live.n,d4⟩⟩,rfl,⟨hr.cpus,hX,hY,⟨zr,hO⟩,⟨lr,hP⟩⟩,zr,lr,hO,hP,rc,Ff⟩
theorem iD (r:gb) (h:Heap) (w:World) (hr:AM w r h) (hs:h.small) :
 bl Tryz.prog 83 [.agg (bW r).toArray] w fun v w' => ∃ s,v = .agg (bW s).toArray∧gq w' w.heap.size s h :=
 (oe r h w hr hs).mono fun _ _ _ ⟨s,hv,ho⟩=>⟨s,hv,ho.own⟩
open Go.RowKit
open Go.RowKit
theorem nV (A:Option Addr) (n c:Nat) (l:List Slab) (w:World) (hl:Sl w 3 fH A n l) (hn:n*24≤140737488355328) : bl Tryz.prog 85 [.slice A n c] w (vK w 91 3 fH n l):=by
 refine aD Tryz.func85 rfl Tryz.ntmps85 rfl ?_;have hw:=Ext.refl w;refine Wz ?_;refine SW.st (oE rfl rfl) rfl ?_;repeat' (first|refine Wz ?_|(refine CW.cond rfl (fun h => ?_) (fun h => ?_)))
 ·have FD:n=0:=by
   rcases Nat.eq_zero_or_pos n with h0|h0
   ·exact h0
   ·have:=hl.base h0;simp_all
  subst FD;have:l=[]:=List.eq_nil_of_length_eq_zero hl.len
  subst this;exact ae.aI rfl rfl ⟨_,rfl,hw,none,0,rfl,Own.fj _ _ _ _ _ _⟩
 ·refine SW.vC rfl fun b w1 aa hb => ?_
  replace hw:=Ext.trans hw aa;refine Wz ?_;refine SW.rC (Nat.zero_add n) (List.nil_append l) (Own.fj w1 w.heap.size _ _ fH (some ⟨b,0,none⟩)) (hl.ext hw) hw.size rfl rfl rfl (by omega) (by omega) fun A2 c2 w2 hO hg => ?_
  replace hw:=aJ hw hg (Nat.le_refl _) (by simp [aG]);refine Wz ?_;exact ae.aI rfl rfl ⟨_,rfl,hw,A2,c2,rfl,hO⟩
open Go.RowKit
structure aV where
 Names:List ByteArray
 aY:Int
 jm:Int
 Order:Int
 aK:List Slab
 a8:List Int
structure ak where
 Words:List Int
 Heap:Heap
 ai:List aV
def encStr (s:ByteArray) : List Value:=[.string s]
instance:fu encStr 1:=⟨fun _=>rfl,fun r u hu=>by simp [encStr] at hu;subst hu;rfl⟩
structure dL where
 Names:fD
 aY:Int
 jm:Int
 Order:Int
 aK:fD
 a8:fD
def fG (r:dL) : List Value:=[r.Names.v,.int .i64 r.aY,.int .i64 r.jm,.int .i64 r.Order,r.aK.v,r.a8.v]
instance:fu fG 6:=⟨fun _=>rfl,fun r u hu=>by simp [fG,fD.v] at hu;rcases hu with rfl|rfl|rfl|rfl|rfl|rfl<;>rfl⟩
structure ik where
 Words:fD
 Heap:gb
 ai:fD
def bq (r:ik) : List Value:=[r.Words.v,r.Heap.aL.v,r.Heap.bT.v,.int .i64 r.Heap.bt,r.Heap.aj.v,r.Heap.Live.v,r.ai.v]
instance:fu bq 7:=⟨fun _=>rfl,fun r u hu=>by simp [bq,fD.v] at hu;rcases hu with rfl|rfl|rfl|rfl|rfl|rfl|rfl<;>rfl⟩
def ik.zero:ik:=⟨.nil,.zero,.nil⟩
theorem AV (r:dL) : ∀ v∈fG r,v.oneCell'=true:=fu.one (enc:=fG) r
theorem cq (r:ik) : ∀ v∈bq r,v.oneCell'=true:=fu.one (enc:=bq) r
theorem mP {w:World} {b t:Nat} {r:ik} (h:aT w b t (bq r)) : ∀ j v,(bW r.Heap)[j]?=some v→w.cell? ((((⟨b,0,none⟩ : Addr)).add 1).add j)=some v:=fun j v hv=>by
 rw [add_add];refine h.cell (i:=1+j) ?_
 match j,hv with
 | 0,hv=>exact hv
 | 1,hv=>exact hv
 | 2,hv=>exact hv
 | 3,hv=>exact hv
 | 4,hv=>exact hv
 | j+5,hv=>simp [bW] at hv
theorem Own.DM {α:Type} {w:World} {lo:Nat} {e:TypeId} {sz:Nat} {enc : α → List Value} {A:Option Addr} {n c:Nat} {l:List α} (h:Own w lo e sz enc A n c l) : n≤c:=by
 rcases h.row with ⟨rfl,rfl⟩|⟨_,_,_,_,_,_,h,_⟩
 ·exact Nat.le_refl _
 ·exact h
structure CY (w:World) (r:dL) (c:aV) : Prop where
 size:r.aY=c.aY
 qI:r.jm=c.jm
 order:r.Order=c.Order
 names:Sl w 1 encStr r.Names.A r.Names.n c.Names
 bK:Sl w 3 fH r.aK.A r.aK.n c.aK
 dh:Sl w 1 bB r.a8.A r.a8.n c.a8
 cap:r.a8.n≤r.a8.c
structure nF (w:World) (lo:Nat) (r:dL) (c:aV) : Prop where
 size:r.aY=c.aY
 qI:r.jm=c.jm
 order:r.Order=c.Order
 names:Own w lo 9 1 encStr r.Names.A r.Names.n r.Names.c c.Names
 bK:Own w lo 91 3 fH r.aK.A r.aK.n r.aK.c c.aK
 dh:Own w lo 3 1 bB r.a8.A r.a8.n r.a8.c c.a8
section
variable {w w':World} {lo kA t:Nat} {r:dL} {c:aV}
theorem CY.ext (h:CY w r c) (hx:Ext w w') : CY w' r c:=⟨h.size,h.qI,h.order,h.names.ext hx,h.bK.ext hx,h.dh.ext hx,h.cap⟩
theorem nF.ext (h:nF w lo r c) (hx:Ext w w') : nF w' lo r c:=⟨h.size,h.qI,h.order,h.names.ext hx,h.bK.ext hx,h.dh.ext hx⟩
theorem nF.low (h:nF w lo r c) (hl:kA≤lo) : nF w kA r c:=⟨h.size,h.qI,h.order,h.names.low hl,h.bK.low hl,h.dh.low hl⟩
theorem nF.rd (h:nF w lo r c) : CY w r c:=⟨h.size,h.qI,h.order,h.names.sl,h.bK.sl,h.dh.sl,h.dh.DM⟩
theorem nF.au (h:nF w lo r c) (hG:tZ w w' t) (cr:(Nat.beq t 9 || (Nat.beq t 91 || Nat.beq t 3))=false) : nF w' lo r c:=by
 simp only [Bool.or_eq_false_iff] at cr;exact ⟨h.size,h.qI,h.order,h.names.au hG cr.1,h.bK.au hG cr.2.1,h.dh.au hG cr.2.2⟩
end
structure zt (w:World) (s:fD) (cs:List dL) (l:List aV) : Prop where
 row:Sl w 6 fG s.A s.n cs
 each:dV (CY w) cs l
 cap:s.n≤s.c
structure dB (w:World) (lo:Nat) (s:fD) (cs:List dL) (l:List aV) : Prop where
 row:Own w lo 89 6 fG s.A s.n s.c cs
 each:dV (nF w lo) cs l
section
variable {w w':World} {lo kA t:Nat} {s:fD} {cs:List dL} {l:List aV}
theorem zt.ext (h:zt w s cs l) (hx:Ext w w') : zt w' s cs l:=⟨h.row.ext hx,h.each.mono fun _ _ h=>h.ext hx,h.cap⟩
theorem dB.ext (h:dB w lo s cs l) (hx:Ext w w') : dB w' lo s cs l:=⟨h.row.ext hx,h.each.mono fun _ _ h=>h.ext hx⟩
theorem dB.low (h:dB w lo s cs l) (hl:kA≤lo) : dB w kA s cs l:=⟨h.row.low hl,h.each.mono fun _ _ h=>h.low hl⟩
theorem dB.rd (h:dB w lo s cs l) : zt w s cs l:=⟨h.row.sl,h.each.mono fun _ _ h=>h.rd,h.row.DM⟩
theorem dB.au (h:dB w lo s cs l) (hG:tZ w w' t) (cr:(Nat.beq t 89 || (Nat.beq t 9 || (Nat.beq t 91 || Nat.beq t 3)))=false) : dB w' lo s cs l:=by
 rw [Bool.or_eq_false_iff] at cr;exact ⟨h.row.au hG cr.1,h.each.mono fun _ _ h=>h.au hG cr.2⟩
theorem dB.nil (w:World) (lo:Nat) : dB w lo .nil [] []:=⟨Own.fj _ _ _ _ _ _,.nil⟩
theorem zt.len (h:zt w s cs l) : cs.length=s.n∧l.length=s.n:=⟨h.row.len,by rw [← h.each.len,h.row.len]⟩
theorem dB.cU {b:Nat} {vs:List Value} (h:dB w lo s cs l) (hB:aT w b 89 vs) (hg:w.grownBy w' (some b)) (dg:∀ k,aG s.A s.c=some k→k<kA) (hm:kA≤b) : dB w' lo s cs l :=
 ⟨h.row.grown hg (.inr (fun e=>by have:=dg _ e;omega)),h.each.mono fun _ _ h=>h.au (hB.gr hg) rfl⟩
end
structure DN (w:World) (r:ik) (s:ak) : Prop where
 words:Sl w 1 bB r.Words.A r.Words.n s.Words
 heap:AM w r.Heap s.Heap
 ck:∃ cs,zt w r.ai cs s.ai
structure km (w:World) (lo:Nat) (r:ik) (s:ak) : Prop where
 words:Own w lo 3 1 bB r.Words.A r.Words.n r.Words.c s.Words
 heap:gq w lo r.Heap s.Heap
 ck:∃ cs,dB w lo r.ai cs s.ai
section
variable {w w':World} {lo kA t:Nat} {r:ik} {s:ak}
theorem DN.ext (h:DN w r s) (hx:Ext w w') : DN w' r s:=by
 obtain ⟨cs,hc⟩:=h.ck;exact ⟨h.words.ext hx,h.heap.ext hx,⟨cs,hc.ext hx⟩⟩
theorem km.ext (h:km w lo r s) (hx:Ext w w') : km w' lo r s:=by
 obtain ⟨cs,hc⟩:=h.ck;exact ⟨h.words.ext hx,h.heap.ext hx,⟨cs,hc.ext hx⟩⟩
theorem km.low (h:km w lo r s) (hl:kA≤lo) : km w kA r s:=by
 obtain ⟨cs,hc⟩:=h.ck;exact ⟨h.words.low hl,h.heap.low hl,⟨cs,hc.low hl⟩⟩
theorem km.rd (h:km w lo r s) : DN w r s:=by
 obtain ⟨cs,hc⟩:=h.ck;exact ⟨h.words.sl,h.heap.rd,⟨cs,hc.rd⟩⟩
end
structure aV.small (c:aV) : Prop where
 names:c.Names.length*16≤140737488355328
 bK:c.aK.length*24≤140737488355328
 dh:c.a8.length*8≤140737488355328
structure ak.small (s:ak) : Prop where
 words:s.Words.length*8≤140737488355328
 heap:s.Heap.small
 ck:s.ai.length*96≤140737488355328
 each:∀ c∈s.ai,c.small
open Go.RowKit
instance:AT Tryz.prog 9:=⟨by kernel_rfl⟩
theorem HY:Tryz.prog.underlying 5=some (.int .u8):=by kernel_rfl
theorem og (A:Option Addr) (n c:Nat) (l:List UInt8) (w:World) (hl:Sl w 1 v7 A n l) (f:FuncId) (cap:List Value) [Body Tryz.prog f] (p:UInt8→Bool) (arg:UInt8→Value) (ln:∀ x,arg x=(if 1=1 then (v7 x)[0]?.getD undef else .agg (v7 x).toArray))
 (hf:∀ x∈l,∀ w',Ext w w'→bl Tryz.prog f ([arg x]++cap) w' fun v _=>v = .bool (p x)) (hn:n≤9223372036854775807) :
 bl Tryz.prog 232 [.slice A n c,.func (.func f) #[] cap.toArray] w fun v _=>v = .int .i64 (idxOf p l):=by
 refine aD Tryz.func232 rfl Tryz.ntmps232 rfl ?_;have hw:=Ext.refl w;have hA:=hl.base;refine Wz ?_;refine CW.loop (fun k:Nat=>[(0,.slice A n c),(1,.func (.func f) #[] cap.toArray),(7,.int .i64 (n:Int)),(8,.int .i64 (k:Int))]) (fun k w'=>k≤n∧Ext w w' ∧ ∀ j (hj:j<l.length),j<k→p l[j]=false) (fun k=>n-k) 0 ⟨rfl,rfl,rfl,rfl,trivial⟩ ⟨by omega,hw,fun j _ h=>by omega⟩ ?_;clear hw;rintro k w' ⟨kj,hw,hI⟩
 by_cases hk:k<n
 ·have hx:=ln (l[k]'(hl.lt hk));have qD:=hf (l[k]'(hl.lt hk)) (List.getElem_mem _);rw [hx] at qD;repeat' (first|refine Wz ?_|refine SW.st (aM hw rfl (hl.one hk rfl)) rfl ?_)
  refine SW.oG rfl rfl rfl (qD _ hw) fun v w1 aa hv => ?_
  subst hv;replace hw:=Ext.trans hw aa;cases hp:p (l[k]'(hl.lt hk))
  ·refine Wz ?_;refine ae.again (k+1) ⟨rfl,rfl,rfl,rfl,trivial⟩ (by omega) ⟨by omega,hw,fun j hj h => ?_⟩;by_cases kB:j=k
   ·subst kB;exact hp
   ·exact hI j hj (by omega)
  ·refine Wz ?_;exact ae.aI rfl rfl ⟨_,rfl,hw,by rw [kD (hl.lt hk) hp hI]⟩
 ·refine Wz ?_;exact ae.aI rfl rfl ⟨_,rfl,hw,by rw [(iB (fun j hj=>hI j hj (by have:=hl.len;omega))).1]⟩
theorem kb (A:Option Addr) (n c:Nat) (l:List Slab) (w:World) (hl:Sl w 3 fH A n l) (f:FuncId) (cap:List Value) [Body Tryz.prog f] (p:Slab→Bool) (arg:Slab→Value) (ln:∀ x,arg x=(if 3=1 then (fH x)[0]?.getD undef else .agg (fH x).toArray))
 (hf:∀ x∈l,∀ w',Ext w w'→bl Tryz.prog f ([arg x]++cap) w' fun v _=>v = .bool (p x)) (hn:n≤9223372036854775807) :
 bl Tryz.prog 190 [.slice A n c,.func (.func f) #[] cap.toArray] w fun v _=>v = .int .i64 (idxOf p l):=by
 refine aD Tryz.func190 rfl Tryz.ntmps190 rfl ?_;have hw:=Ext.refl w;have hA:=hl.base;refine Wz ?_;refine CW.loop (fun k:Nat=>[(0,.slice A n c),(1,.func (.func f) #[] cap.toArray),(7,.int .i64 (n:Int)),(8,.int .i64 (k:Int))]) (fun k w'=>k≤n∧Ext w w' ∧ ∀ j (hj:j<l.length),j<k→p l[j]=false) (fun k=>n-k) 0 ⟨rfl,rfl,rfl,rfl,trivial⟩ ⟨by omega,hw,fun j _ h=>by omega⟩ ?_;clear hw;rintro k w' ⟨kj,hw,hI⟩
 by_cases hk:k<n
 ·have hx:=ln (l[k]'(hl.lt hk));have qD:=hf (l[k]'(hl.lt hk)) (List.getElem_mem _);rw [hx] at qD;repeat' (first|refine Wz ?_|refine SW.st (aN hw rfl rfl ((hl.all hk))) rfl ?_)
  refine SW.oG rfl rfl rfl (qD _ hw) fun v w1 aa hv => ?_
  subst hv;replace hw:=Ext.trans hw aa;cases hp:p (l[k]'(hl.lt hk))
  ·refine Wz ?_;refine ae.again (k+1) ⟨rfl,rfl,rfl,rfl,trivial⟩ (by omega) ⟨by omega,hw,fun j hj h => ?_⟩;by_cases kB:j=k
   ·subst kB;exact hp
   ·exact hI j hj (by omega)
  ·refine Wz ?_;exact ae.aI rfl rfl ⟨_,rfl,hw,by rw [kD (hl.lt hk) hp hI]⟩
 ·refine Wz ?_;exact ae.aI rfl rfl ⟨_,rfl,hw,by rw [(iB (fun j hj=>hI j hj (by have:=hl.len;omega))).1]⟩
theorem il (A:Option Addr) (n c:Nat) (l:List dL) (w:World) (hl:Sl w 6 fG A n l) (f:FuncId) (cap:List Value) [Body Tryz.prog f] (p:dL→Bool) (arg:dL→Value) (ln:∀ x,arg x=(if 6=1 then (fG x)[0]?.getD undef else .agg (fG x).toArray))
 (hf:∀ x∈l,∀ w',Ext w w'→bl Tryz.prog f ([arg x]++cap) w' fun v _=>v = .bool (p x)) (hn:n≤9223372036854775807) :
 bl Tryz.prog 137 [.slice A n c,.func (.func f) #[] cap.toArray] w fun v _=>v = .int .i64 (idxOf p l):=by
 refine aD Tryz.func137 rfl Tryz.ntmps137 rfl ?_;have hw:=Ext.refl w;have hA:=hl.base;refine Wz ?_;refine CW.loop (fun k:Nat=>[(0,.slice A n c),(1,.func (.func f) #[] cap.toArray),(7,.int .i64 (n:Int)),(8,.int .i64 (k:Int))]) (fun k w'=>k≤n∧Ext w w' ∧ ∀ j (hj:j<l.length),j<k→p l[j]=false) (fun k=>n-k) 0 ⟨rfl,rfl,rfl,rfl,trivial⟩ ⟨by omega,hw,fun j _ h=>by omega⟩ ?_;clear hw;rintro k w' ⟨kj,hw,hI⟩
 by_cases hk:k<n
 ·have hx:=ln (l[k]'(hl.lt hk));have qD:=hf (l[k]'(hl.lt hk)) (List.getElem_mem _);rw [hx] at qD;repeat' (first|refine Wz ?_|refine SW.st (aN hw rfl rfl ((hl.all hk))) rfl ?_)
  refine SW.oG rfl rfl rfl (qD _ hw) fun v w1 aa hv => ?_
  subst hv;replace hw:=Ext.trans hw aa;cases hp:p (l[k]'(hl.lt hk))
  ·refine Wz ?_;refine ae.again (k+1) ⟨rfl,rfl,rfl,rfl,trivial⟩ (by omega) ⟨by omega,hw,fun j hj h => ?_⟩;by_cases kB:j=k
   ·subst kB;exact hp
   ·exact hI j hj (by omega)
  ·refine Wz ?_;exact ae.aI rfl rfl ⟨_,rfl,hw,by rw [kD (hl.lt hk) hp hI]⟩
 ·refine Wz ?_;exact ae.aI rfl rfl ⟨_,rfl,hw,by rw [(iB (fun j hj=>hI j hj (by have:=hl.len;omega))).1]⟩
theorem mh (A:Option Addr) (n c:Nat) (l:List UInt8) (w:World) (hl:Sl w 1 v7 A n l) (f:FuncId) (cap:List Value) [Body Tryz.prog f] (p:UInt8→Bool) (arg:UInt8→Value) (ln:∀ x,arg x=(if 1=1 then (v7 x)[0]?.getD undef else .agg (v7 x).toArray))
 (hf:∀ x∈l,∀ w',Ext w w'→bl Tryz.prog f ([arg x]++cap) w' fun v _=>v = .bool (p x)) (hn:n≤9223372036854775807) :
 bl Tryz.prog 182 [.slice A n c,.func (.func f) #[] cap.toArray] w fun v _=>v = .bool (l.any p):=by
 refine aD Tryz.func182 rfl Tryz.ntmps182 rfl ?_;have hw:=Ext.refl w;repeat' (first|refine Wz ?_|(refine SW.call rfl rfl (og _ _ _ _ _ (hl.ext hw) f cap p arg ln (fun x hx w1 h1=>hf x hx w1 (Ext.trans hw h1)) hn) ?_;intro v w1 aa hv;subst hv;replace hw:=Ext.trans hw aa;clear aa))
 exact ae.aI rfl rfl ⟨_,rfl,hw,by rw [jC]⟩
theorem iV (A:Option Addr) (n c:Nat) (l:List dL) (w:World) (hl:Sl w 6 fG A n l) (f:FuncId) (cap:List Value) [Body Tryz.prog f] (p:dL→Bool) (arg:dL→Value) (ln:∀ x,arg x=(if 6=1 then (fG x)[0]?.getD undef else .agg (fG x).toArray))
 (hf:∀ x∈l,∀ w',Ext w w'→bl Tryz.prog f ([arg x]++cap) w' fun v _=>v = .bool (p x)) (hn:n≤9223372036854775807) :
 bl Tryz.prog 90 [.slice A n c,.func (.func f) #[] cap.toArray] w fun v _=>v = .bool (l.any p):=by
 refine aD Tryz.func90 rfl Tryz.ntmps90 rfl ?_;have hw:=Ext.refl w;repeat' (first|refine Wz ?_|(refine SW.call rfl rfl (il _ _ _ _ _ (hl.ext hw) f cap p arg ln (fun x hx w1 h1=>hf x hx w1 (Ext.trans hw h1)) hn) ?_;intro v w1 aa hv;subst hv;replace hw:=Ext.trans hw aa;clear aa))
 exact ae.aI rfl rfl ⟨_,rfl,hw,by rw [jC]⟩
def nG (b:UInt8) : Bool:=(decide ((b.toNat:Int)<97) || decide (122<(b.toNat:Int))) && (decide ((b.toNat:Int)<48) || decide (57<(b.toNat:Int)))
def eR (s:ByteArray) : Bool:=decide (1≤(s.size:Int)∧(s.size:Int)≤8) && !(s.data.toList.any nG)
theorem FM {s:ByteArray} (h : 1≤s.size∧s.size≤8) (k:s.data.toList.any nG=false) : eR s=true:=by
 unfold eR;rw [k,decide_eq_true (by omega)]
 rfl
theorem zu {s:ByteArray} (h : ¬ (1≤s.size∧s.size≤8)) : eR s=false:=by
 unfold eR;rw [decide_eq_false (by omega)]
 rfl
theorem BO {s:ByteArray} (k:s.data.toList.any nG=true) : eR s=false:=by
 unfold eR;rw [k];simp
theorem DO (b:UInt8) (w:World) : bl Tryz.prog 183 ([.int .u8 b.toNat]++[]) w fun v _=>v = .bool (nG b):=by
 refine aD Tryz.func183 rfl Tryz.ntmps183 rfl ?_;have hw:=Ext.refl w;unfold nG;obtain ⟨z,hz⟩ : ∃ z:Int,(b.toNat:Int)=z:=⟨_,rfl⟩;rw [hz];by_cases a1:z<97
 ·by_cases a2:z<48
  ·refine Wz ?_;exact ae.aI rfl rfl ⟨_,rfl,hw,by simp [a1,a2]<;>omega⟩
  ·refine Wz ?_;exact ae.aI rfl rfl ⟨_,rfl,hw,by simp [a1,a2]<;>omega⟩
 ·by_cases a2 : 122<z
  ·refine Wz ?_;exact ae.aI rfl rfl ⟨_,rfl,hw,by simp [a1,a2]<;>omega⟩
  ·refine Wz ?_;exact ae.aI rfl rfl ⟨_,rfl,hw,by simp [a1,a2]<;>omega⟩
theorem xw (s:ByteArray) (w:World) (hs:s.size≤140737488351232) : bl Tryz.prog 92 [.string s] w fun v _=>v = .bool (eR s):=by
 refine aD Tryz.func92 rfl Tryz.ntmps92 rfl ?_;have hw:=Ext.refl w;by_cases h0:s=⟨#[]⟩
 ·subst h0;repeat' (first|refine Wz ?_|refine SW.en rfl rfl rfl (fun h => ?_) (fun h => ?_)|(refine SW.st (jI rfl rfl) rfl ?_))
  all_goals first|(exfalso;simp_all;done)|skip
  exact ae.aI rfl rfl ⟨_,rfl,hw,rfl⟩
 ·by_cases h8:s.size≤8
  ·have h1 : 1≤s.size:=by
    rcases Nat.eq_zero_or_pos s.size with h|h
    ·exact absurd (by cases s;simp [ByteArray.size] at h;subst h;rfl) h0
    ·exact h
   have cr:decide (s=⟨#[]⟩)=false:=decide_eq_false h0
   repeat' (first|refine Wz ?_|(refine SW.st ((jI rfl rfl).eq (congrArg Value.bool cr)) rfl ?_)|refine SW.st (AU rfl) rfl ?_)
   refine SW.BN (e:=5) HY rfl rfl fun b c w1 aa hb hS => ?_
   replace hw:=Ext.trans hw aa;refine SW.call rfl rfl (mh _ _ _ _ _ hS _ [] nG (fun x => .int .u8 x.toNat) (fun x=>rfl) (fun x _ w1 _=>DO x w1) (by omega)) fun v w2 bo hv => ?_
   subst hv;replace hw:=Ext.trans hw bo;refine Wz ?_;refine ae.aI rfl rfl ⟨_,rfl,hw,?_⟩;cases k:s.data.toList.any nG
   ·rw [FM ⟨h1,h8⟩ k];rfl
   ·rw [BO k];rfl
  ·have cr:decide (s=⟨#[]⟩)=false:=decide_eq_false h0
   rw [zu (by omega)];repeat' (first|refine Wz ?_|(refine SW.st ((jI rfl rfl).eq (congrArg Value.bool cr)) rfl ?_)|refine SW.st (AU rfl) rfl ?_)
   exact ae.aI rfl rfl ⟨_,rfl,hw,rfl⟩
open Go.RowKit
def dj (x:Int) : Int×Int×Int:=if 1≤x∧x≤64 then (if 4≤16 / x then (0,16 / x,0) else if 4≤32 / x then (1,32 / x,0) else (2,64 / x,0)) else (0,0,1)
def iK (x:Int) : Value := .tuple #[.int .i64 (dj x).1,.int .i64 (dj x).2.1,.int .i64 (dj x).2.2]
theorem FN (x:Int) (w:World) : bl Tryz.prog 150 [.int .i64 x] w fun v _=>v=iK x:=by
 refine aD Tryz.func150 rfl Tryz.ntmps150 rfl ?_;have hw:=Ext.refl w;repeat' (first|refine Wz ?_|(first|refine CW.nM rfl (fun h => ?_) (fun h => ?_)|refine CW.wS rfl (fun h => ?_) (fun h => ?_)|(apply CW.bg mixed;(· kernel_rfl);rotate_left;intro w1 aa;replace hw:=Ext.trans hw aa;clear aa;rotate_right))|(refine SW.call rfl rfl (gI _ _ _ _) ?_;intro v w1 aa hv;subst hv;replace hw:=Ext.trans hw aa;clear aa)|exact SW.du rfl)
 all_goals refine ae.Bu rfl rfl rfl rfl ⟨_,rfl,hw,?_⟩
 all_goals unfold iK dj
 ·rw [if_neg (by omega)]
 ·rw [if_pos (by omega),if_pos (by omega)]
 ·rw [if_pos (by omega),if_neg (by omega),if_pos (by omega)]
 ·rw [if_pos (by omega),if_neg (by omega),if_neg (by omega)]
theorem sE (x:Int) (w:World) : bl Tryz.prog 141 [.int .i64 x] w fun v _=>v=iK x:=by
 refine aD Tryz.func141 rfl Tryz.ntmps141 rfl ?_;have hw:=Ext.refl w;repeat' (first|refine Wz ?_|(refine CW.nM rfl (fun h => ?_) (fun h => ?_))|refine SW.en rfl rfl rfl (fun h => ?_) (fun h => ?_))
 ·refine ae.Bu rfl rfl rfl rfl ⟨_,rfl,hw,?_⟩;unfold iK dj;rw [if_neg (by omega)]
 ·refine ae.Bu rfl rfl rfl rfl ⟨_,rfl,hw,?_⟩;unfold iK dj;rw [if_neg (by omega)]
 ·have hx : 1≤x∧x≤64:=by omega
  refine CW.loop (fun k:Nat=>[(0,.int .i64 x),(5,.int .i64 (k:Int))]) (fun k w'=>k≤2∧Ext w w'∧(1≤k → ¬ 4≤16 / x)∧(2≤k → ¬ 4≤32 / x)) (fun k=>2-k) 0 ⟨rfl,rfl,trivial⟩ ⟨by omega,hw,by omega,by omega⟩ ?_;clear hw;rintro k w' ⟨hk,hw,h1,h2⟩
  obtain rfl|rfl|rfl:k=0∨k=1∨k=2:=by omega
  ·refine Wz ?_;refine SW.st (fE (r:=16) rfl rfl (by decide) (by decide) (by decide) (by decide) (by decide)) rfl ?_;repeat' (first|refine Wz ?_|refine SW.en rfl rfl rfl (fun h => ?_) (fun h => ?_))
   ·refine ae.Bu rfl rfl rfl rfl ⟨_,rfl,hw,?_⟩;unfold iK dj;rw [if_pos (by omega),if_pos (by omega)]
    rfl
   ·exact ae.again 1 ⟨rfl,rfl,trivial⟩ (by omega) ⟨by omega,hw,fun _=>by omega,fun h=>by omega⟩
  ·refine Wz ?_;refine SW.st (fE (r:=32) rfl rfl (by decide) (by decide) (by decide) (by decide) (by decide)) rfl ?_;repeat' (first|refine Wz ?_|refine SW.en rfl rfl rfl (fun h => ?_) (fun h => ?_))
   ·refine ae.Bu rfl rfl rfl rfl ⟨_,rfl,hw,?_⟩;have:=h1 (by omega)
    unfold iK dj;rw [if_pos (by omega),if_neg (by omega),if_pos (by omega)]
    rfl
   ·exact ae.again 2 ⟨rfl,rfl,trivial⟩ (by omega) ⟨by omega,hw,fun _=>h1 (by omega),fun _=>by omega⟩
  ·refine Wz ?_;refine SW.st (fE (r:=64) rfl rfl (by decide) (by decide) (by decide) (by decide) (by decide)) rfl ?_;have Mo:=h1 (by omega);have ml:=h2 (by omega);repeat' (first|refine Wz ?_|refine SW.en rfl rfl rfl (fun h => ?_) (fun h => ?_))
   all_goals refine ae.Bu rfl rfl rfl rfl ⟨_,rfl,hw,?_⟩
   all_goals unfold iK dj
   all_goals rw [if_pos (by omega),if_neg (by omega),if_neg (by omega)]
   all_goals rfl
open Go.RowKit
def oh (b:Bool) : List Value:=[.bool b]
instance:fu oh 1:=⟨fun _=>rfl,fun _ u hu=>by simp [oh] at hu;subst hu;rfl⟩
theorem v8 (A:Option Addr) (n c:Nat) (l:List Int) (x:Int) (w:World) (hl:Sl w 1 bB A n l) (hn:n≤9223372036854775807) :
 bl Tryz.prog 186 [.slice A n c,.int .i64 x] w fun v _ => ∃ i:Int,v = .int .i64 i∧(0≤i↔x∈l):=by
 refine aD Tryz.func186 rfl Tryz.ntmps186 rfl ?_;have hw:=Ext.refl w;have hA:=hl.base;have nP:=hl.len;refine Wz ?_
 refine CW.loop (fun k:Nat=>[(0,.slice A n c),(1,.int .i64 x),(7,.int .i64 (n:Int)),(8,.int .i64 (k:Int))]) (fun k w'=>k≤n∧Ext w w' ∧ ∀ (i:Nat) (h:i<l.length),i<k→l[i]≠x)
  (fun k=>n-k) 0 ⟨rfl,rfl,rfl,rfl,trivial⟩ ⟨by omega,hw,fun i h hi=>by omega⟩ ?_
 clear hw;rintro k w' ⟨hk,hw,hI⟩
 by_cases ey:k<n
 ·repeat' (first|refine Wz ?_|(refine CW.nM rfl (fun h => ?_) (fun h => ?_))|refine SW.st (aM hw rfl (hl.one ey rfl)) rfl ?_)
  ·refine ae.aI rfl rfl ⟨_,rfl,hw,_,rfl,?_⟩;have hx:x∈l:=by rw [h];exact List.getElem_mem _
   simp [hx]
  ·refine ae.again (k+1) ⟨rfl,rfl,rfl,rfl,trivial⟩ (by omega) ⟨by omega,hw,fun i h' hi => ?_⟩;by_cases uD:i=k
   ·subst uD;exact fun e=>h e.symm
   ·exact hI i h' (by omega)
 ·refine Wz ?_;refine ae.aI rfl rfl ⟨_,rfl,hw,_,rfl,?_⟩
  have hx : ¬ x∈l:=fun hm=>by
   obtain ⟨i,hi,e⟩:=List.getElem_of_mem hm;exact hI i hi (by omega) e
  simp [hx]
theorem ji (A:Option Addr) (n c:Nat) (l:List Int) (x:Int) (w:World) (hl:Sl w 1 bB A n l) (hn:n≤9223372036854775807) :
 bl Tryz.prog 95 [.slice A n c,.int .i64 x] w fun v _=>v = .bool (decide (x∈l)):=by
 refine aD Tryz.func95 rfl Tryz.ntmps95 rfl ?_;have hw:=Ext.refl w;refine Wz ?_;refine SW.call rfl rfl (v8 _ _ _ _ _ _ (hl.ext hw) hn) fun v w1 aa hv => ?_
 obtain ⟨i,rfl,hi⟩:=hv;replace hw:=Ext.trans hw aa;refine Wz ?_;refine ae.aI rfl rfl ⟨_,rfl,hw,?_⟩;congr 1
 rw [decide_eq_decide];exact hi
inductive gd (l:List Int) (most:Int) : Int→List Int→Option (List Int)→Prop where
 | done (out:List Int) : gd l most (-1) out (some out)
 | bad {x:Int} {out:List Int} (h:x ≠ -1) (hb:most≤out.length ∨ ¬ (0≤x∧x<l.length)∨x∈out) : gd l most x out none
 | step {k:Nat} {out:List Int} {r:Option (List Int)} (h1:out.length<most) (hk:k<l.length) (h3:(k:Int)∉out) (h:gd l most l[k] (out++[(k:Int)]) r) : gd l most k out r
theorem gd.mo {l:List Int} {most x:Int} {out:List Int} {r s:Option (List Int)} (h:gd l most x out r) : gd l most x out s→r=s:=by
 induction h with
 | done out=>intro h';generalize hx:(-1:Int)=y at h';cases h' with
   | done=>rfl
   | bad h hb=>exact absurd hx.symm h
   | step h1 hk h3 h=>omega
 | @bad x out h hb=>intro h';cases h' with
   | done=>exact absurd rfl h
   | bad=>rfl
   | @step k _ _ h1 hk h3 h'=>rcases hb with h0|h0|h0<;>first|omega|exact absurd h0 h3
 | @step k out r h1 hk h3 h ih=>intro h';generalize hx:(k:Int)=y at h';cases h' with
   | done=>omega
   | bad h hb=>subst hx;rcases hb with h0|h0|h0<;>first|omega|exact absurd h0 h3
   | @step k' _ _ Mo kj Rz h' =>
     have:k=k':=by omega
     subst this;exact ih h'
def pW (n:Nat) (out:List Int) : Nat:=((List.range n).filter fun i:Nat=>decide ((i:Int)∉out)).length
theorem BP {n k:Nat} {out:List Int} (hk:k<n) (h:(k:Int)∉out) : pW n (out++[(k:Int)])<pW n out:=by
 unfold pW
 have e:((List.range n).filter fun i:Nat=>decide ((i:Int)∉out++[(k:Int)]))=((List.range n).filter fun i:Nat=>decide ((i:Int)∉out)).filter fun i:Nat=>decide (i≠k):=by
  rw [List.filter_filter];apply List.filter_congr;intro i _;rw [← Bool.decide_and,decide_eq_decide];simp only [List.mem_append,List.mem_singleton,not_or];constructor
  ·rintro ⟨h1,h2⟩;exact ⟨fun e=>h2 (by rw [e]),h1⟩
  ·rintro ⟨h1,h2⟩;exact ⟨h2,fun e=>h1 (by omega)⟩
 rw [e];refine List.length_filter_lt_length_iff_exists.2 ⟨k,?_,by simp⟩;simp [hk,h]
open Go.RowKit
def FO (lo:Nat) (r:Option (List Int)) (v:Value) (w:World) : Prop:=match r with
 | none=>v = .tuple #[.slice none 0 0,.int .i64 8]
 | some out => ∃ A c,v = .tuple #[.slice A out.length c,.int .i64 0]∧Own w lo 3 1 bB A out.length c out∧out.length≤17592186044416
theorem zv (n:Nat) : pW n []≤n:=Nat.le_trans (List.length_filter_le _ _) (by simp)
theorem zw (A:Option Addr) (n c:Nat) (l:List Int) (x most:Int) (w:World) (hl:Sl w 1 bB A n l) (hn:n*8≤140737488355328) :
 bl Tryz.prog 184 [.slice A n c,.int .i64 x,.int .i64 most] w fun v w' => ∃ r,gd l most x [] r∧FO w.heap.size r v w':=by
 refine aD Tryz.func184 rfl Tryz.ntmps184 rfl ?_;have hw:=Ext.refl w;have DA:n≤2305843009213693952:=by omega
 have hA:=hl.base;have nP:=hl.len;refine Wz ?_
 refine CW.loop (fun s:List Int×Int×Option Addr×Nat=>[(0,.slice A n c),(1,.int .i64 s.2.1),(2,.int .i64 most),(8,.slice s.2.2.1 s.1.length s.2.2.2)])
  (fun s w'=>s.1.length+pW n s.1≤n∧(∀ r,gd l most s.2.1 s.1 r→gd l most x [] r)∧Ext w w'∧Own w' w.heap.size 3 1 bB s.2.2.1 s.1.length s.2.2.2 s.1) (fun s=>pW n s.1) ([],x,none,0) ⟨rfl,rfl,rfl,rfl,trivial⟩
  ⟨by simpa using zv n,fun _ h=>h,hw,Own.fj _ _ _ _ _ _⟩ ?_
 clear hw;rintro ⟨out,y,A1,c1⟩ w' ⟨hk,hF,hw,hO⟩
 simp only at hk hF hO ⊢;by_cases hy:y = -1
 ·refine Wz ?_;refine ae.dk rfl rfl rfl ⟨_,rfl,hw,some out,hF _ (by subst hy;exact .done _),A1,c1,rfl,hO,by omega⟩
 ·by_cases hm:most≤out.length
  ·refine Wz ?_;exact ae.dk rfl rfl rfl ⟨_,rfl,hw,none,hF _ (.bad hy (.inl hm)),rfl⟩
  ·by_cases hx : 0≤y∧y<n
   ·obtain ⟨k,rfl⟩:=Int.eq_ofNat_of_zero_le hx.1;have ey:k<n:=by omega
    by_cases j3:(k:Int)∈out
    ·repeat' (first|refine Wz ?_|(refine SW.call rfl rfl (y7 _ _ _ _ _ _ DA) ?_;intro v w1 aa hv;subst hv;replace hw:=Ext.trans hw aa;replace hO:=hO.ext aa;clear aa))
     refine SW.call rfl rfl (ji _ _ _ _ _ _ hO.sl (by omega)) fun v w1 aa hv => ?_
     rw [decide_eq_true j3] at hv;subst hv;replace hw:=Ext.trans hw aa;refine Wz ?_;exact ae.dk rfl rfl rfl ⟨_,rfl,hw,none,hF _ (.bad hy (.inr (.inr j3))),rfl⟩
    ·have hu:=BP ey j3;repeat' (first|refine Wz ?_|(refine SW.call rfl rfl (y7 _ _ _ _ _ _ DA) ?_;intro v w1 aa hv;subst hv;replace hw:=Ext.trans hw aa;replace hO:=hO.ext aa;clear aa))
     refine SW.call rfl rfl (ji _ _ _ _ _ _ hO.sl (by omega)) fun v w1 aa hv => ?_
     rw [decide_eq_false j3] at hv;subst hv;replace hw:=Ext.trans hw aa;replace hO:=hO.ext aa;refine Wz ?_;refine SW.dJ rfl rfl rfl rfl rfl fun b w1 aa hb hB => ?_
     replace hw:=Ext.trans hw aa;replace hO:=hO.ext aa;refine SW.append hO (aT.wU (enc:=bB) hB) hw.size rfl rfl rfl (by omega) (by omega) fun A2 c2 w2 mn hg => ?_
     replace hw:=aJ hw hg (Nat.le_refl _) hO.ba;repeat' (first|refine Wz ?_|refine SW.st (aM hw rfl (hl.one ey rfl)) rfl ?_)
     refine ae.again (out++[(k:Int)],l[k]'(hl.lt ey),A2,c2) ⟨rfl,rfl,rfl,by simp;rfl,trivial⟩ hu ⟨by simp only [List.length_append,List.length_singleton];omega,fun r h=>hF r (.step (by omega) (hl.lt ey) j3 h),hw,by simpa using mn⟩
   ·repeat' (first|refine Wz ?_|(refine SW.call rfl rfl (y7 _ _ _ _ _ _ DA) ?_;intro v w1 aa hv;subst hv;replace hw:=Ext.trans hw aa;replace hO:=hO.ext aa;clear aa))
    exact ae.dk rfl rfl rfl ⟨_,rfl,hw,none,hF _ (.bad hy (.inr (.inl (by omega)))),rfl⟩
def xy (l:List Block) : Prop:=l.Pairwise gJ
theorem lz {y o:Int} (h0 : 0≤o) (h4:o<4) (hm:y % pw o=0) : beside (beside y o) o=y∧(beside y o=y+pw o∨beside y o=y-pw o):=by
 unfold beside;have hp:=dl h0 (show o≤4 by omega);generalize pw o=q at *
 rcases hp with ⟨e,rfl⟩|⟨e,rfl⟩|⟨e,rfl⟩|⟨e,rfl⟩|⟨e,rfl⟩<;>(refine ⟨?_,?_⟩<;>split<;>(try split)<;>omega)
theorem xz {z:ab} (h:aU z) : xy z.ag:=by
 have hu:=kE h;unfold xy;rw [List.pairwise_iff_getElem];intro i j hi hj j1;by_cases e:j=i+1
 ·subst e;exact h.next i hj
 ·refine ⟨fI hu hj j1,fun hh => ?_⟩;obtain ⟨h1,h2,h3⟩:=hh;have g1:=fI hu (show i+1<z.ag.length by omega) (Nat.lt_succ_self i);have g2:=fI hu hj (show i+1<j by omega);have b1:=(h.cU (i+1) (by omega)).1;have b2:=(h.cU j hj).1;have p1:=bM b1.1 b1.2.1;have p2:=(lz b2.1 h1 b2.2.2.2.2).2;have p3:=bM b2.1 b2.2.1;rw [h2] at g1;omega
theorem BQ {a o:Int} (h0 : 0≤o) (h4:o<4) (hm:a % pw o=0) (t1 t2 t3:Int) (i:Nat) : kk ⟨min a (beside a o),o+1,t1⟩ i=(kk ⟨a,o,t2⟩ i || kk ⟨beside a o,o,t3⟩ i):=by
 have h1:=(lz h0 h4 hm).2;have h2:=iI h0 (show o≤4 by omega);have h3:=bM h0 (show o≤4 by omega);rw [Bool.eq_iff_iff];simp only [kk,Bool.and_eq_true,Bool.or_eq_true,decide_eq_true_eq];rw [h2];omega
theorem xA {l:List Block} {a o:Int} (h:l.any (sq a o)=true) (i:Nat) : cy l i=(cy (gC l a o) i || kk ⟨a,o,0⟩ i):=by
 rw [Bool.eq_iff_iff];simp only [Bool.or_eq_true,cy,List.any_eq_true,gC,List.mem_filter];constructor
 ·rintro ⟨x,hx,hi⟩
  by_cases e:sq a o x=true
  ·obtain ⟨e1,e2⟩:=fJ.1 e;right;rw [← hi,← e1,← e2];rfl
  ·left;exact ⟨x,⟨hx,by simp [e]⟩,hi⟩
 ·rintro (⟨x,⟨hx,_⟩,hi⟩|hi)
  ·exact ⟨x,hx,hi⟩
  ·obtain ⟨b,hb,hh⟩:=List.any_eq_true.1 h;obtain ⟨e1,e2⟩:=fJ.1 hh;exact ⟨b,hb,by rw [← hi,← e1,← e2];rfl⟩
structure Joined (f t:Int) (l:List Block) (a o:Int) (l':List Block) (a' o':Int) : Prop where
 ok:xf f t l' a' o'
 nx:xy l'
 zx:∀ i,(cy l' i || kk ⟨a',o',0⟩ i)=(cy l i || kk ⟨a,o,0⟩ i)
 fin:o'<4→l'.any (sq (beside a' o') o')=false
theorem oX {f t:Int} (h0 : 0≤f) : ∀ (k:Nat) {l:List Block} {a o:Int},4-o<k→xf f t l a o→xy l→Joined f t l a o (dr k l a o).1 (dr k l a o).2.1 (dr k l a o).2.2
 | 0,l,a,o,hk,h,hn=>by have:=h.fit.2.1;omega
 | k+1,l,a,o,hk,h,hn=>by
   simp only [dr];split
   ·rename_i ho;split
    ·rename_i ga;have ih:=oX h0 k (by omega) (h.step h0 ho ga) (hn.sublist List.filter_sublist);refine ⟨ih.ok,ih.nx,fun i => ?_,ih.fin⟩;rw [ih.zx i,BQ h.fit.1 ho h.fit.2.2.2.2 0 0 0,xA ga i];rw [Bool.or_assoc,Bool.or_comm (kk _ i) (kk _ i)]
    ·rename_i ga;exact ⟨h,hn,fun _=>rfl,fun _=>by simpa using ga⟩
   ·rename_i ho;exact ⟨h,hn,fun _=>rfl,fun h=>absurd h ho⟩
theorem FP {f t:Int} {l0:List Block} {a0 o0:Int} {l:List Block} {a o:Int} (h:Joined f t l0 a0 o0 l a o) (u:Int) : xy (aH l (aZ l a) ⟨a,o,u⟩):=by
 have hk:=h.ok;have hp:=bM hk.fit.1 hk.fit.2.1
 have HB:∀ x∈l.take (aZ l a),gJ x ⟨a,o,u⟩:=fun x hx=>by
  obtain ⟨j,hj,rfl⟩:=List.getElem_of_mem hx;simp only [List.length_take] at hj;rw [List.getElem_take];have h1:=kF (l:=l) (a:=a) (k:=j) (by omega);have h2:=hk.Dk _ (List.getElem_mem (show j<l.length by omega));refine ⟨by simp only;omega,fun hh => ?_⟩;obtain ⟨g1,g2,g3⟩:=hh;have:=h.fin g1
  rw [List.any_eq_false] at this;exact this _ (List.getElem_mem (show j<l.length by omega)) (fJ.2 ⟨g3,g2⟩)
 have JZ:∀ y∈l.drop (aZ l a),gJ ⟨a,o,u⟩ y:=fun y hy=>by
  obtain ⟨j,hj,rfl⟩:=List.getElem_of_mem hy;simp only [List.length_drop] at hj;rw [List.getElem_drop];have dg:aZ l a<l.length:=by omega
  have h1:=xg dg;have hm:=List.getElem_mem (show aZ l a+j<l.length by omega);have h2:=hk.Dk _ hm;have hb:=(hk.cU _ hm).1;have RA:=bM hb.1 hb.2.1
  have h3:(l[aZ l a]).At≤(l[aZ l a+j]'(by omega)).At:=by
   rcases Nat.eq_zero_or_pos j with e|e
   ·subst e;simp
   ·have:=fI hk.mE (show aZ l a+j<l.length by omega) (show aZ l a<aZ l a+j by omega)
    have J0:=(hk.cU _ (List.getElem_mem dg)).1;have:=bM J0.1 J0.2.1
    omega
  refine ⟨by simp only;omega,fun hh => ?_⟩;obtain ⟨g1,g2,g3⟩:=hh;simp only at g2 g3;have e:=(lz hb.1 g1 hb.2.2.2.2).1;rw [← g3,← g2] at e;have:=h.fin (by omega)
  rw [List.any_eq_false] at this;exact this _ hm (fJ.2 ⟨e.symm,g2.symm⟩)
 have eH:(l.take (aZ l a)++l.drop (aZ l a)).Pairwise gJ:=by rw [List.take_append_drop];exact h.nx
 rw [List.pairwise_append] at eH;unfold xy aH;rw [List.append_assoc,List.pairwise_append];refine ⟨eH.1,?_,fun x hx y hy => ?_⟩
 ·rw [List.singleton_append,List.pairwise_cons];exact ⟨JZ,eH.2.1⟩
 ·rw [List.singleton_append,List.mem_cons] at hy;rcases hy with rfl|hy
  ·exact HB x hx
  ·exact eH.2.2 x hx y hy
theorem BR (l:List Block) (i:Nat) (b:Block) (k:Nat) : cy (aH l i b) k=(cy l k || kk b k):=by
 have:cy l k=(cy (l.take i) k || cy (l.drop i) k):=by
  unfold cy;rw [← List.any_append,List.take_append_drop]
 rw [this];simp only [cy,aH,List.any_append,List.any_cons,List.any_nil,Bool.or_false];cases (l.take i).any fun b=>kk b k<;>cases kk b k<;>simp
theorem jy {l:List Block} {i:Nat} {b x:Block} (h:x∈aH l i b) : x=b∨x∈l:=by
 unfold aH at h;rw [List.mem_append,List.mem_append] at h;rcases h with (h|h)|h
 ·exact .inr (List.mem_of_mem_take h)
 ·exact .inl (by simpa using h)
 ·exact .inr (List.mem_of_mem_drop h)
structure Kept (z z':ab) (a o:Int) : Prop where
 may:aU z'
 from_:z'.aw=z.aw
 jA:z'.To=z.To
 types:z'.Types=z.Types
 zx:∀ i,cy z'.ag i=(cy z.ag i || kk ⟨a,o,0⟩ i)
theorem ol {z:ab} {a o:Int} (hz:aU z) (hf:dK z.aw z.To a o) (ho:eK z.ag a o=false) : (bV z a o).1=0∧Kept z (bV z a o).2 a o:=by
 have h0 : 0≤z.aw:=hz.ok.1
 have hJ:=oN (f:=0) (t:=0) hz hf ho;have hj:=oX h0 5 (by have:=hf.1;omega) hJ (xz hz);obtain ⟨⟨l,a',o'⟩,hq⟩ : ∃ u,dr 5 z.ag a o=u:=⟨_,rfl⟩;rw [hq] at hj;simp only at hj;obtain ⟨t,ht⟩ : ∃ t,z.Types.getD ((a'-z.aw) / 8).toNat 0=t:=⟨_,rfl⟩;rw [j8 (iJ hz) hf ho hq ht]
 have Mp:fR t:=by
  subst ht;rw [List.getD_eq_getElem?_getD];cases e:z.Types[((a'-z.aw) / 8).toNat]? with
  | none=>exact ⟨by decide,by decide⟩
  | some v =>
    obtain ⟨h,rfl⟩:=List.getElem?_eq_some_iff.1 e;exact hz.types _ (List.getElem_mem h)
 have hn:=FP hj t;refine ⟨rfl,⟨hz.ok,hz.len,hz.types,fun i hi => ?_,fun i hi => ?_⟩,rfl,rfl,rfl,fun i => ?_⟩
 ·rcases jy (List.getElem_mem hi) with e|e
  ·simp only at e ⊢;rw [e];exact ⟨hj.ok.fit,Mp⟩
  ·exact hj.ok.cU _ e
 ·unfold xy at hn;rw [List.pairwise_iff_getElem] at hn;exact hn i (i+1) (by simp only at hi;omega) hi (Nat.lt_succ_self i)
 ·rw [BR,← hj.zx i];rfl
noncomputable def ee (s:ab×ab) (b:Block) : ab×ab:=if b.At<s.1.To then ((bV s.1 b.At b.Order).2,s.2) else (s.1,(bV s.2 b.At b.Order).2)
noncomputable def bh (s:ab×ab) (l:List Block) : ab×ab:=l.foldl ee s
theorem jv (s:ab×ab) (l:List Block) (k:Nat) (h:k<l.length) : bh s (l.take (k+1))=ee (bh s (l.take k)) l[k]:=by
 unfold bh;rw [List.take_succ_eq_append_getElem h,List.foldl_append];rfl
theorem jJ (s:ab×ab) (l m:List Block) : bh s (l++m)=bh (bh s l) m:=List.foldl_append
structure lA (s:ab×ab) (bs:List Block) : Prop where
 gZ:aU s.1
 gL:aU s.2
 kc:s.1.aw=0
 v9:s.1.To=s.2.aw
 AW:s.2.To=256
 zx:∀ i,(cy s.1.ag i || cy s.2.ag i)=cy bs i
theorem fc (l m:List Block) (i:Nat) : cy (l++m) i=(cy l i || cy m i):=by simp [cy]
theorem gV {z:ab} (h:aU z) : ∀ b∈z.ag,0≤b.At∧1≤pw b.Order:=fun b hb=>by
 obtain ⟨i,hi,rfl⟩:=List.getElem_of_mem hb;have h1:=(h.cU i hi).1;have h2:=h.ok.1;have:=bM h1.1 h1.2.1
 obtain ⟨_,_,h3,_,_⟩:=h1;omega
structure kK (bs:List Block) (b:Block) : Prop where
 ord : 0≤b.Order∧b.Order≤4
 at_ : 0≤b.At∧b.At<256
 al:b.At % pw b.Order=0
 fits:qF bs b
 J1:∀ x∈bs,0≤x.At∧1≤pw x.Order
theorem lA.free {s:ab×ab} {bs:List Block} (h:lA s bs) {b:Block} (hb:kK bs b) : eK s.1.ag b.At b.Order=false∧eK s.2.ag b.At b.Order=false:=by
 have hp:=bM hb.ord.1 hb.ord.2;have hm:=(lq hb.J1 hp.1).2 hb.fits;obtain ⟨m1,m2,m3,m4⟩:=hm
 have key:∀ l:List Block,(∀ x∈l,0≤x.At∧1≤pw x.Order)→(∀ i,cy l i=true→cy bs i=true)→eK l b.At b.Order=false:=fun l hl hc =>
  ((lq hl hp.1).1 ⟨m1,m2,m3,fun i h1 h2=>by
   cases e:cy l i with
   | false=>rfl
   | true=>have:=hc i e;rw [m4 i h1 h2] at this;cases this⟩).2.2
 exact ⟨key _ (gV h.gZ) fun i hi=>by rw [← h.zx i,hi];rfl,key _ (gV h.gL) fun i hi=>by rw [← h.zx i,hi];simp⟩
theorem lA.low {s:ab×ab} {bs:List Block} (h:lA s bs) {b:Block} (hb:kK bs b) (hl:b.At<s.1.To) : dK s.1.aw s.1.To b.At b.Order:=⟨hb.ord.1,hb.ord.2,by rw [h.kc];exact hb.at_.1,hl,hb.al⟩
theorem lA.mi {s:ab×ab} {bs:List Block} (h:lA s bs) {b:Block} (hb:kK bs b) (hl : ¬ b.At<s.1.To) : dK s.2.aw s.2.To b.At b.Order:=⟨hb.ord.1,hb.ord.2,by rw [← h.v9];omega,by rw [h.AW];exact hb.at_.2,hb.al⟩
theorem sG (b:Block) (i:Nat) : cy [b] i=kk b i:=by simp [cy]
theorem lA.back {s:ab×ab} {bs:List Block} (h:lA s bs) {b:Block} (hb:kK bs b) : lA (ee s b) (bs++[b])∧(ee s b).1.To=s.1.To:=by
 obtain ⟨o0,o1⟩:=h.free hb;unfold ee;by_cases hl:b.At<s.1.To
 ·rw [if_pos hl];obtain ⟨_,k⟩:=ol h.gZ (h.low hb hl) o0;refine ⟨⟨k.may,h.gL,by rw [← h.kc];exact k.from_,by rw [← h.v9];exact k.jA,h.AW,fun i => ?_⟩,k.jA⟩;rw [fc,sG,← h.zx i];simp only;rw [k.zx i];have:kk ⟨b.At,b.Order,0⟩ i=kk b i:=rfl
  rw [this];cases cy s.1.ag i<;>cases cy s.2.ag i<;>cases kk b i<;>rfl
 ·rw [if_neg hl];obtain ⟨_,k⟩:=ol h.gL (h.mi hb hl) o1;refine ⟨⟨h.gZ,k.may,h.kc,by simp only;rw [k.from_];exact h.v9,by simp only;rw [k.jA];exact h.AW,fun i => ?_⟩,rfl⟩;rw [fc,sG,← h.zx i];simp only;rw [k.zx i];have:kk ⟨b.At,b.Order,0⟩ i=kk b i:=rfl
  rw [this,Bool.or_assoc]
theorem kd:∀ {l s t:List Block},aR (some s) l=some t→t=s++l
 | [],s,t,h=>by simp [aR] at h;simp [h]
 | b::l,s,t,h=>by
   have e:aR (some s) (b::l)=aR (iv (some s) b) l:=rfl
   rw [e] at h;cases e2:iv (some s) b with
   | none=>rw [e2,e8] at h;cases h
   | some u =>
     rw [e2] at h;obtain ⟨cs,nj,_,rfl⟩:=kI e2;cases nj
     rw [kd h];simp
theorem lB {l m:List Block} {b:Block} (h:(aR (some []) (l++b::m)).isSome=true) : qF l b:=by
 have h1:(aR (some []) (l++[b])).isSome=true:=fT (m:=m) (by simpa using h)
 rw [bQ] at h1;cases e:aR (some []) l with
 | none=>rw [e,e8] at h1;cases h1
 | some t =>
   have:=kd e
   rw [List.nil_append] at this;subst this;rw [e] at h1;cases e2:aR (some t) [b] with
   | none=>rw [e2] at h1;cases h1
   | some u =>
     have:iv (some t) b=some u:=e2
     obtain ⟨cs,nj,hf,_⟩:=kI this;cases nj
     exact hf
theorem xB {l:List Block} (h:(aR (some []) l).isSome=true) (hb:∀ b∈l,1≤pw b.Order) : ∀ x∈l,0≤x.At∧1≤pw x.Order:=by
 have hg:=gU (l:=l) uI hb;obtain ⟨t,ht⟩:=Option.isSome_iff_exists.1 h;have e:=kd ht;rw [List.nil_append] at e;subst e;exact hg _ ht
structure jK (h:Heap) (z0 z1:ab) : Prop where
 bz:h.aL=[z0,z1]
 gZ:aU z0
 gL:aU z1
 kc:z0.aw=0
 v9:z0.To=z1.aw
 AW:z1.To=256
 all:(aR (some []) (z0.ag++z1.ag++aF h.aj)).isSome=true
theorem xC {h:Heap} (hm:aW h) : ∃ z0 z1,jK h z0 z1:=by
 obtain ⟨z0,z1,h1,h2,h3,h4,h5,h6,_,h8⟩:=hm.bz;exact ⟨z0,z1,h1,h2,h3,h4,h5,h6,fT h8⟩
theorem sH {l:List ap}:∀ b∈aF l,b.Order=0:=fun b hb=>by
 unfold aF at hb;obtain ⟨x,_,hx⟩:=List.mem_flatMap.1 hb;obtain ⟨p,_,rfl⟩:=List.mem_map.1 hx
 rfl
theorem jK.start {h:Heap} {z0 z1:ab} (d:jK h z0 z1) : lA (z0,z1) (z0.ag++z1.ag):=⟨d.gZ,d.gL,d.kc,d.v9,d.AW,fun i=>by rw [fc]⟩
theorem jK.pw {h:Heap} {z0 z1:ab} (d:jK h z0 z1) : ∀ b∈z0.ag++z1.ag++aF h.aj,1≤pw b.Order:=fun b hb=>by
 rcases List.mem_append.1 hb with hb|hb
 ·rcases List.mem_append.1 hb with hb|hb
  ·exact (gV d.gZ b hb).2
  ·exact (gV d.gL b hb).2
 ·rw [sH b hb,fp];omega
theorem jK.next {h:Heap} {z0 z1:ab} (d:jK h z0 z1) {k:Nat} (hk:k<(aF h.aj).length) : kK (z0.ag++z1.ag++(aF h.aj).take k) (aF h.aj)[k]:=by
 have eH:=d.all;have e:z0.ag++z1.ag++aF h.aj=(z0.ag++z1.ag++(aF h.aj).take k)++(aF h.aj)[k]::(aF h.aj).drop (k+1):=by simp
 rw [e] at eH;have hf:=lB eH;have ho:=sH _ (List.getElem_mem hk)
 have hg:=xB (fT eH) (fun b hb=>d.pw b (by
  rcases List.mem_append.1 hb with hb|hb
  ·exact List.mem_append_left _ hb
  ·exact List.mem_append_right _ (List.mem_of_mem_take hb)))
 have hp:=fp;refine ⟨by rw [ho];decide,⟨hf.1,?_⟩,by rw [ho,hp];omega,hf,hg⟩;have:=hf.2.1
 rw [ho,hp] at this;omega
theorem jK.inv {h:Heap} {z0 z1:ab} (d:jK h z0 z1) : ∀ k,k≤(aF h.aj).length→lA (bh (z0,z1) ((aF h.aj).take k)) (z0.ag++z1.ag++(aF h.aj).take k)
 | 0,_=>by simpa [bh] using d.start
 | k+1,hk=>by
   have ih:=(d.inv k (by omega)).back (d.next (show k<_ by omega));rw [jv _ _ _ (by omega),List.take_succ_eq_append_getElem (by omega),← List.append_assoc];exact ih.1
def gm (l:List ap) (i:Nat) : Nat:=(aF (l.take i)).length
theorem sI {l:List ap} {i:Nat} (hi:i<l.length) : gm l (i+1)=gm l i+l[i].an.length:=by
 unfold gm;rw [mJ _ _ hi];simp
theorem zy (l:List ap) (i:Nat) : aF l=aF (l.take i)++aF (l.drop i):=by
 unfold aF;rw [← List.flatMap_append,List.take_append_drop]
theorem rI {l:List ap} {i j:Nat} (hi:i<l.length) (hj:j<l[i].an.length) : ∃ h:gm l i+j<(aF l).length,(aF l)[gm l i+j]=bj (l[i].an[j]):=by
 have e:=zy l i;have e2:l.drop i=l[i]::l.drop (i+1):=by simp
 have e3:aF (l.drop i)=l[i].an.map bj++aF (l.drop (i+1)):=by rw [e2];rfl
 have dg:gm l i+j<(aF l).length:=by rw [e,e3];simp [gm];omega
 refine ⟨dg,?_⟩
 have:(aF l)[gm l i+j]?=some (bj (l[i].an[j])):=by
  rw [e,List.getElem?_append_right (by unfold gm;omega)];have:gm l i+j-(aF (l.take i)).length=j:=by unfold gm;omega
  rw [this,e3,List.getElem?_append_left (by simpa using hj)];simp [hj]
 rw [List.getElem?_eq_getElem dg] at this;exact Option.some.inj this
theorem wa (l:List ap) : gm l l.length=(aF l).length:=by simp [gm]
noncomputable def ke (h:Heap) (z0 z1:ab) : Heap:=⟨[(bh (z0,z1) (aF h.aj)).1,(bh (z0,z1) (aF h.aj)).2],h.bT,h.bt,[],h.Live⟩
end Go.Proofs.YtbidkghlpijecaaGreatDoor
