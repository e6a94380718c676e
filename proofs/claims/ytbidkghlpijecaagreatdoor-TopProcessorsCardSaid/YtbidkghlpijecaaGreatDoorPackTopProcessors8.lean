/-
  Texts of the claim TopProcessors, part 8: what its theorem leans on.
-/
import Derived.Test.YtbidkghlpijecaaGreatDoorPackTopProcessors5
import Derived.Test.YtbidkghlpijecaaGreatDoorPackTopProcessors2
import Derived.Test.YtbidkghlpijecaaGreatDoorPackTopProcessors3
import Derived.Test.YtbidkghlpijecaaGreatDoorPackTopProcessors7
import Derived.Test.YtbidkghlpijecaaGreatDoorPackTopProcessors4
import Derived.Test.YtbidkghlpijecaaGreatDoorPackTopProcessors6
set_option linter.unusedVariables false
set_option linter.unusedSimpArgs false
namespace Go.Proofs.YtbidkghlpijecaaGreatDoor
open Go.RowKit
theorem dJ (r:gC) : ∀ v∈cV r,v.oneCell'=true:=fP.one (enc:=cV) r
theorem GX (r:cy) : ∀ v∈bI r,v.oneCell'=true:=fP.one (enc:=bI) r
def CE (ls:List cy) : Prop := ∀ (i j:Nat) (hi:i<ls.length) (hj:j<ls.length),i≠j → ∀ g,aM ls[i].av.A ls[i].av.c=some g→aM ls[j].av.A ls[j].av.c≠some g
structure rl (m:gg) (zs:List cU) (ls:List cy) : Prop where
 dA:∀ (i:Nat) (hi:i<ls.length) (g:Nat),aM ls[i].av.A ls[i].av.c=some g→aM m.A m.c≠some g
 types:∀ (i:Nat) (hi:i<ls.length) (g:Nat),aM ls[i].av.A ls[i].av.c=some g → ∀ u∈zs,aM u.Types.A u.Types.c≠some g
 sep:CE ls
theorem rl.nil (m:gg) (zs:List cU) : rl m zs []:=⟨fun i hi=>by simp at hi,fun i hi=>by simp at hi,fun i j hi=>by simp at hi⟩
theorem rl.snoc {w:World} {lo:Nat} {m:gg} {zs:List cU} {ls:List cy} {s li:gg} {x:List Int} {zl:List ao} {L:List ay} {y:cy} (h:rl m zs ls) (hm:Own w lo 3 1 bK m.A m.n m.c x) (hz:jo w lo s zs zl) (hl:eH w lo li ls L) (hy:∀ g,aM y.av.A y.av.c=some g→w.heap.size≤g) : rl m zs (ls++[y]):=by
 have dL:∀ (i:Nat) (hi:i<ls.length) (g:Nat),aM ls[i].av.A ls[i].av.c=some g→g<w.heap.size:=fun i hi g e=>(hl.each.get i hi (by rw [← hl.each.len];exact hi)).bM.lt_size g e
 have key:∀ (i:Nat) (hi:i<(ls++[y]).length),(∃ h:i<ls.length,(ls++[y])[i]=ls[i])∨(i=ls.length∧(ls++[y])[i]=y):=fun i hi=>by
  by_cases e:i<ls.length
  ·exact .inl ⟨e,List.getElem_append_left e⟩
  ·have:i=ls.length:=by simp at hi;omega
   subst this;exact .inr ⟨rfl,by simp⟩
 refine ⟨fun i hi g e => ?_,fun i hi g e u hu => ?_,fun i j hi hj lz g e e2 => ?_⟩
 ·rcases key i hi with ⟨h1,h2⟩|⟨h1,h2⟩
  ·rw [h2] at e;exact h.dA i h1 g e
  ·rw [h2] at e;intro e3;have:=hm.lt_size g e3;have:=hy g e;omega
 ·rcases key i hi with ⟨h1,h2⟩|⟨h1,h2⟩
  ·rw [h2] at e;exact h.types i h1 g e u hu
  ·rw [h2] at e;intro e3;obtain ⟨j,hj,rfl⟩:=List.getElem_of_mem hu;have:=(hz.each.get j hj (by rw [← hz.each.len];exact hj)).types.lt_size g e3
   have:=hy g e
   omega
 ·rcases key i hi with ⟨h1,h2⟩|⟨h1,h2⟩
  ·rw [h2] at e;rcases key j hj with ⟨h3,h4⟩|⟨h3,h4⟩
   ·rw [h4] at e2;exact h.sep i j h1 h3 lz g e e2
   ·rw [h4] at e2;have:=dL i h1 g e;have:=hy g e2;omega
  ·rw [h2] at e;rcases key j hj with ⟨h3,h4⟩|⟨h3,h4⟩
   ·rw [h4] at e2;have:=dL j h3 g e2;have:=hy g e;omega
   ·omega
def tX (lv:gg) (zs:List cU) : Prop := ∀ u∈zs,∀ g,aM u.aj.A u.aj.c=some g→aM lv.A lv.c≠some g
theorem tX.nil (lv:gg) : tX lv []:=fun u hu=>by simp at hu
theorem tX.snoc {w:World} {lo:Nat} {lv:gg} {zs:List cU} {x:List Block} {u:cU} (h:tX lv zs) (hl:Own w lo 165 3 aL lv.A lv.n lv.c x) (hu:∀ g,aM u.aj.A u.aj.c=some g→w.heap.size≤g) : tX lv (zs++[u]):=fun y hy g e e2=>by
 rcases List.mem_append.1 hy with hy|hy
 ·exact h y hy g e e2
 ·simp at hy;subst hy;have:=hu g e
  have:=hl.lt_size g e2
  omega
structure GY (w:World) (lo:Nat) (r:gC) (h:Heap) : Prop where
 own:gZ w lo r h
 all:∃ zs ls,jo w lo r.bf zs h.bf∧eH w lo r.au ls h.au∧rl r.dk zs ls∧tX r.Live zs
set_option maxHeartbeats 4000000 in
theorem qx (r:gC) (h:Heap) (w:World) (hr:DX w r h) (hs:h.small) :
 bq Tryz.prog 83 [.agg (cV r).toArray] w fun v w' => ∃ s,v = .agg (cV s).toArray∧GY w' w.heap.size s h:=by
 refine aG Tryz.func83 rfl Tryz.ntmps83 rfl ?_;refine CW.seq (CW.region (SW.box rfl rfl fun b1 w1 hw jh aI => ?_));refine SW.alloc rfl fun b2 w2 bF j0 aD => ?_
 have qZ:w.heap.size≤b2:=Nat.le_trans hw.size j0
 have E2:b2≠b1:=by have:=aI.lt;omega
 (replace hw:=Ext.trans hw bF;replace aI:=aI.ext bF);obtain ⟨zs,hz⟩:=hr.cj;obtain ⟨ls,hl⟩:=hr.lists;have P7:=hr.dA.len;have M3:=hr.live.len;have s1:=hs.dA;have s2:=hs.live;have s3:=hs.cj;have s4:=hs.lists;obtain ⟨z1,z2⟩:=hz.len;obtain ⟨l1,l2⟩:=hl.len;refine Wz ?_
 obtain ⟨K,hK⟩ : ∃ K:Env→World→Prop,K=fun L' w' => ∃ X c1 Y d1 b3,jd L' [(1,.pointer (some ⟨b1,0,none⟩)),(2,.pointer (some ⟨b2,0,none⟩)),(3,.pointer (some ⟨b3,0,none⟩))]∧Ext w w'∧aW w' b1 41 (cV r)∧aW w' b2 41 (cV .zero) ∧
  aW w' b3 41 (cV ⟨.nil,⟨X,r.dk.n,c1⟩,r.bw,.nil,⟨Y,r.Live.n,d1⟩⟩)∧Own w' w.heap.size 3 1 bK X r.dk.n c1 h.dk∧Own w' w.heap.size 165 3 aL Y r.Live.n d1 h.Live∧w.heap.size≤b3∧b1≠b3∧b2≠b3:=⟨_,rfl⟩
 refine CW.cut K ?_ ?_
 ·refine CW.any 10 mixed (da (by kernel_rfl)) rfl fun w1 ae aJ => ?_
  replace hw:=Ext.trans hw ae;replace aI:=aI.ext ae;replace aD:=aD.ext ae;clear ae;refine Wa ?_;refine SA.two 2 9 rfl rfl (by kernel_rfl) rfl rfl ?_ ?_
  ·refine SW.call rfl rfl (dw _ _ _ _ _ (hr.dA.ext hw) (by omega)) fun v w4 ap hv => ?_
   obtain ⟨X,c4,rfl,hX⟩:=hv;replace hX:=hX.low hw.size;replace hw:=Ext.trans hw ap;replace aI:=aI.ext ap;replace aD:=aD.ext ap;try replace ax:=ax.ext ap
   refine SW.nil (ah.sa ap ?_);refine SA.two 7 9 rfl rfl (by kernel_rfl) rfl rfl ?_ ?_
   ·refine SW.call rfl rfl (jE _ _ _ _ _ (hr.live.ext hw) (by omega)) fun v w4 ap hv => ?_
    obtain ⟨Y,d4,rfl,hY⟩:=hv;replace hY:=hY.low hw.size;replace hX:=hX.ext ap;replace hw:=Ext.trans hw ap;replace aI:=aI.ext ap;replace aD:=aD.ext ap;try replace ax:=ax.ext ap
    refine SW.nil (ah.sa ap ?_);refine Wa ?_;refine SA.one 9 rfl (by kernel_rfl) rfl ?_;refine SW.alloc rfl fun b3 w4 ap bQ ax => ?_
    have dB:w.heap.size≤b3:=Nat.le_trans hw.size bQ
    have jx:b1≠b3:=by have:=aI.lt;omega
    have iH:b2≠b3:=by have:=aD.lt;omega
    replace hw:=Ext.trans hw ap;replace aI:=aI.ext ap;replace aD:=aD.ext ap;try replace hX:=hX.ext ap
    try replace hY:=hY.ext ap
    refine SW.nil (ah.sa ap ?_);refine SA.done (by kernel_rfl) ?_;skip;refine SW.ak ax rfl rfl rfl rfl (dJ ⟨.nil,⟨X,r.dk.n,c4⟩,r.bw,.nil,⟨Y,r.Live.n,d4⟩⟩) fun w5 bU hg => ?_
    have hG:=ax.gr hg;replace hw:=hw.own dB hg;(replace hX:=hX.aw hG rfl;replace hY:=hY.aw hG rfl);replace aI:=aI.grown hg (by simpa using jx);replace aD:=aD.grown hg (by simpa using iH);refine Wz ?_;exact ah.cut (K:=K) (by rw [hK];exact ⟨X,c4,Y,d4,b3,⟨rfl,rfl,rfl,trivial⟩,hw,aI,aD,bU,hX,hY,dB,jx,iH⟩)
   ·refine SW.alloc rfl fun b3 w4 ap bQ ax => ?_
    have dB:w.heap.size≤b3:=Nat.le_trans hw.size bQ
    have jx:b1≠b3:=by have:=aI.lt;omega
    have iH:b2≠b3:=by have:=aD.lt;omega
    replace hw:=Ext.trans hw ap;replace aI:=aI.ext ap;replace aD:=aD.ext ap;try replace hX:=hX.ext ap
    try replace hY:=hY.ext ap
    refine SW.nil (ah.sa ap ?_);refine SA.one 7 rfl (by kernel_rfl) rfl ?_;refine SW.call rfl rfl (jE _ _ _ _ _ (hr.live.ext hw) (by omega)) fun v w4 ap hv => ?_
    obtain ⟨Y,d4,rfl,hY⟩:=hv;replace hY:=hY.low hw.size;replace hX:=hX.ext ap;replace hw:=Ext.trans hw ap;replace aI:=aI.ext ap;replace aD:=aD.ext ap;try replace ax:=ax.ext ap
    refine SW.nil (ah.sa ap ?_);refine Wa ?_;refine SA.done (by kernel_rfl) ?_;skip;refine SW.ak ax rfl rfl rfl rfl (dJ ⟨.nil,⟨X,r.dk.n,c4⟩,r.bw,.nil,⟨Y,r.Live.n,d4⟩⟩) fun w5 bU hg => ?_
    have hG:=ax.gr hg;replace hw:=hw.own dB hg;(replace hX:=hX.aw hG rfl;replace hY:=hY.aw hG rfl);replace aI:=aI.grown hg (by simpa using jx);replace aD:=aD.grown hg (by simpa using iH);refine Wz ?_;exact ah.cut (K:=K) (by rw [hK];exact ⟨X,c4,Y,d4,b3,⟨rfl,rfl,rfl,trivial⟩,hw,aI,aD,bU,hX,hY,dB,jx,iH⟩)
  ·refine SW.alloc rfl fun b3 w4 ap bQ ax => ?_
   have dB:w.heap.size≤b3:=Nat.le_trans hw.size bQ
   have jx:b1≠b3:=by have:=aI.lt;omega
   have iH:b2≠b3:=by have:=aD.lt;omega
   replace hw:=Ext.trans hw ap;replace aI:=aI.ext ap;replace aD:=aD.ext ap;try replace hX:=hX.ext ap
   try replace hY:=hY.ext ap
   refine SW.nil (ah.sa ap ?_);refine SA.one 2 rfl (by kernel_rfl) rfl ?_;refine SW.call rfl rfl (dw _ _ _ _ _ (hr.dA.ext hw) (by omega)) fun v w4 ap hv => ?_
   obtain ⟨X,c4,rfl,hX⟩:=hv;replace hX:=hX.low hw.size;replace hw:=Ext.trans hw ap;replace aI:=aI.ext ap;replace aD:=aD.ext ap;try replace ax:=ax.ext ap
   refine SW.nil (ah.sa ap ?_);refine SA.one 7 rfl (by kernel_rfl) rfl ?_;refine SW.call rfl rfl (jE _ _ _ _ _ (hr.live.ext hw) (by omega)) fun v w4 ap hv => ?_
   obtain ⟨Y,d4,rfl,hY⟩:=hv;replace hY:=hY.low hw.size;replace hX:=hX.ext ap;replace hw:=Ext.trans hw ap;replace aI:=aI.ext ap;replace aD:=aD.ext ap;try replace ax:=ax.ext ap
   refine SW.nil (ah.sa ap ?_);refine Wa ?_;refine SA.done (by kernel_rfl) ?_;skip;refine SW.ak ax rfl rfl rfl rfl (dJ ⟨.nil,⟨X,r.dk.n,c4⟩,r.bw,.nil,⟨Y,r.Live.n,d4⟩⟩) fun w5 bU hg => ?_
   have hG:=ax.gr hg;replace hw:=hw.own dB hg;(replace hX:=hX.aw hG rfl;replace hY:=hY.aw hG rfl);replace aI:=aI.grown hg (by simpa using jx);replace aD:=aD.grown hg (by simpa using iH);refine Wz ?_;exact ah.cut (K:=K) (by rw [hK];exact ⟨X,c4,Y,d4,b3,⟨rfl,rfl,rfl,trivial⟩,hw,aI,aD,bU,hX,hY,dB,jx,iH⟩)
 ·clear aI aD hw;subst hK;rintro L' w' ⟨X,c4,Y,d4,b3,lQ,hw,aI,aD,ax,hX,hY,dB,jx,iH⟩
  refine ah.sub lQ ?_;refine Wz ?_
  refine CW.loop (fun s:Nat×Option Addr×Nat×List cU=>[(1,.pointer (some ⟨b1,0,none⟩)),(2,.pointer (some ⟨b2,0,none⟩)),(3,.pointer (some ⟨b3,0,none⟩)),(18,.slice r.bf.A r.bf.n r.bf.c),(19,.int .i64 (r.bf.n:Int)),(20,.int .i64 (s.1:Int))])
   (fun s w'=>s.1≤r.bf.n∧Ext w w'∧aW w' b1 41 (cV r)∧aW w' b2 41 (cV .zero)∧aW w' b3 41 (cV ⟨⟨s.2.1,s.1,s.2.2.1⟩,⟨X,r.dk.n,c4⟩,r.bw,.nil,⟨Y,r.Live.n,d4⟩⟩)∧Own w' w.heap.size 3 1 bK X r.dk.n c4 h.dk∧Own w' w.heap.size 165 3 aL Y r.Live.n d4 h.Live ∧
     jo w' w.heap.size ⟨s.2.1,s.1,s.2.2.1⟩ s.2.2.2 (h.bf.take s.1)∧tX ⟨Y,r.Live.n,d4⟩ s.2.2.2) (fun s=>r.bf.n-s.1) (0,none,0,[]) ⟨rfl,rfl,rfl,rfl,rfl,rfl,trivial⟩ ⟨by omega,hw,aI,aD,ax,hX,hY,jo.nil _ _,tX.nil _⟩ ?_
  clear aI aD ax hX hY hw lQ;rintro ⟨k,A,c,zr⟩ w' ⟨hk,hw,aI,aD,ax,hX,hY,hO,IS⟩
  simp only at hk ax hO IS ⊢;have hA:=hz.row.base;by_cases dY:k<r.bf.n
  ·have P8:=hz.each.get k (by omega) (by omega);have df:h.bf[k]'(by omega)∈h.bf:=List.getElem_mem _
   have q:=hs.free _ df;have q1:=P8.free.len;have q2:=P8.types.len;repeat' (first|refine Wz ?_|refine SW.st (aU hw rfl rfl ((hz.row.all dY))) rfl ?_)
   refine SW.alloc rfl fun b5 w1 ae jj bC => ?_
   skip;refine SW.ak bC rfl rfl rfl rfl (dr _) fun w2 fg hg => ?_
   have ap:=ae.own jj hg;have kN:w.heap.size≤b5:=Nat.le_trans hw.size jj
   replace hw:=Ext.trans hw ap;replace aI:=aI.ext ap;replace aD:=aD.ext ap;replace ax:=ax.ext ap;replace hX:=hX.ext ap;replace hY:=hY.ext ap;replace hO:=hO.ext ap;replace bC:=fg;clear fg ae hg ap;refine Wz ?_;refine CW.any 5 mixed (da (by kernel_rfl)) rfl fun w1 ae aJ => ?_
   replace hw:=Ext.trans hw ae;replace aI:=aI.ext ae;replace aD:=aD.ext ae;replace ax:=ax.ext ae;replace bC:=bC.ext ae;replace hX:=hX.ext ae;replace hY:=hY.ext ae;replace hO:=hO.ext ae;clear ae;refine Wa ?_;refine SA.one 3 rfl (by kernel_rfl) rfl ?_;refine SW.call rfl rfl (pu _ _ _ (P8.ext hw) (by omega) (by omega)) fun v w4 ap hv => ?_
   obtain ⟨s,rfl,k8,e1,e2⟩:=hv;have P9:=IS.snoc (u:=s) hY k8.free.bc;replace k8:=k8.low hw.size;(replace hw:=Ext.trans hw ap;replace aI:=aI.ext ap;replace aD:=aD.ext ap;replace ax:=ax.ext ap;replace bC:=bC.ext ap;replace hX:=hX.ext ap;replace hY:=hY.ext ap;replace hO:=hO.ext ap);refine SW.nil (ah.sa ap ?_);refine SA.one 4 rfl (by kernel_rfl) rfl ?_;refine SW.dR rfl rfl rfl rfl rfl fun b w4 ap hb hB => ?_
   (replace hw:=Ext.trans hw ap;replace aI:=aI.ext ap;replace aD:=aD.ext ap;replace ax:=ax.ext ap;replace bC:=bC.ext ap;replace hX:=hX.ext ap;replace hY:=hY.ext ap;replace hO:=hO.ext ap;replace k8:=k8.ext ap);refine SW.nil (ah.sa ap ?_);refine SA.done (by kernel_rfl) ?_;refine SW.append hO.row (aW.z7 (enc:=bX) hB) hw.size rfl rfl rfl (by simp only;omega) (by simp only;omega) fun A2 c2 w5 n7 hg => ?_
   have hG:=hO.row.gr hg;replace hw:=aO hw hg (Nat.le_refl _) hO.row.bc;(replace aI:=aI.aw hG rfl;replace aD:=aD.aw hG rfl;replace ax:=ax.aw hG rfl;replace hX:=hX.aw hG rfl;replace hY:=hY.aw hG rfl;replace k8:=k8.aw hG rfl);have hE:=hO.each.mono fun _ _ h=>h.aw hG rfl
   refine Wz ?_;refine SW.bz (i:=0) ax rfl rfl rfl rfl fun w6 cW hg => ?_
   have hG:=ax.gr hg;replace hw:=hw.own dB hg;replace aI:=aI.grown hg (by simpa using jx);replace aD:=aD.grown hg (by simpa using iH);(replace hX:=hX.aw hG rfl;replace hY:=hY.aw hG rfl;replace k8:=k8.aw hG rfl;replace n7:=n7.aw hG rfl);replace hE:=hE.mono fun _ _ h=>h.aw hG rfl
   refine Wz ?_;refine ah.again (k+1,A2,c2,zr++[s]) ⟨rfl,rfl,rfl,rfl,rfl,rfl,trivial⟩ (by simp only;omega) ⟨by simp only;omega,hw,aI,aD,cW,hX,hY,⟨n7,?_⟩,P9⟩;rw [List.take_succ_eq_append_getElem (by omega)];exact hE.snoc k8
  ·obtain rfl:k=r.bf.n:=by omega
   rw [List.take_of_length_le (by omega)] at hO;refine Wz ?_
   refine CW.loop (fun s:Nat×Option Addr×Nat×List cy=>[(2,.pointer (some ⟨b2,0,none⟩)),(3,.pointer (some ⟨b3,0,none⟩)),(33,.slice r.au.A r.au.n r.au.c),(34,.int .i64 (r.au.n:Int)),(35,.int .i64 (s.1:Int))])
    (fun s w'=>s.1≤r.au.n∧Ext w w'∧aW w' b2 41 (cV .zero)∧aW w' b3 41 (cV ⟨⟨A,r.bf.n,c⟩,⟨X,r.dk.n,c4⟩,r.bw,⟨s.2.1,s.1,s.2.2.1⟩,⟨Y,r.Live.n,d4⟩⟩)∧Own w' w.heap.size 3 1 bK X r.dk.n c4 h.dk∧Own w' w.heap.size 165 3 aL Y r.Live.n d4 h.Live ∧
      jo w' w.heap.size ⟨A,r.bf.n,c⟩ zr h.bf∧eH w' w.heap.size ⟨s.2.1,s.1,s.2.2.1⟩ s.2.2.2 (h.au.take s.1)∧rl ⟨X,r.dk.n,c4⟩ zr s.2.2.2) (fun s=>r.au.n-s.1) (0,none,0,[]) ⟨rfl,rfl,rfl,rfl,rfl,trivial⟩ ⟨by omega,hw,aD,ax,hX,hY,hO,eH.nil _ _,rl.nil _ _⟩ ?_
   clear aI aD ax hX hY hw hO;rintro ⟨k,B,d,lr⟩ w' ⟨hk,hw,aD,ax,hX,hY,hO,hP,tY⟩
   simp only at hk ax hP tY ⊢;have hA:=hl.row.base;by_cases dY:k<r.au.n
   ·have E4:=hl.each.get k (by omega) (by omega);have df:h.au[k]'(by omega)∈h.au:=List.getElem_mem _
    have q:=hs.bM _ df;have q1:=E4.bM.len;repeat' (first|refine Wz ?_|refine SW.st (aU hw rfl rfl ((hl.row.all dY))) rfl ?_)
    have Qa:=hP.row.lt_size;refine SW.alloc rfl fun b7 w1 ae jG bO => ?_
    skip;refine SW.ak bO rfl rfl rfl rfl (GX _) fun w2 bB hg => ?_
    have ap:=ae.own jG hg;have jH:w.heap.size≤b7:=Nat.le_trans hw.size jG
    replace hw:=Ext.trans hw ap;replace aD:=aD.ext ap;replace ax:=ax.ext ap;replace hX:=hX.ext ap;replace hY:=hY.ext ap;replace hO:=hO.ext ap;replace hP:=hP.ext ap;replace bO:=bB;clear bB ae hg ap;refine Wz ?_;refine SW.call rfl rfl (dw _ _ _ _ _ (E4.bM.ext hw) (by omega)) fun v w4 ap hv => ?_
    obtain ⟨W,e4,rfl,hW⟩:=hv;replace tY:=tY.snoc (y:=⟨ls[k].fT,ls[k].ao,ls[k].Ty,⟨W,ls[k].av.n,e4⟩⟩) hX hO hP hW.bc;replace hW:=hW.low hw.size;(replace hw:=Ext.trans hw ap;replace aD:=aD.ext ap;replace ax:=ax.ext ap;replace bO:=bO.ext ap;replace hX:=hX.ext ap;replace hY:=hY.ext ap;replace hO:=hO.ext ap;replace hP:=hP.ext ap);refine Wz ?_;refine SW.bz (i:=3) bO rfl rfl rfl rfl fun w5 bB hg => ?_
    have hG:=bO.gr hg;replace hw:=hw.own jH hg;(replace aD:=aD.aw hG rfl;replace ax:=ax.aw hG rfl;replace hX:=hX.aw hG rfl;replace hY:=hY.aw hG rfl;replace hO:=hO.aw hG rfl;replace hW:=hW.aw hG rfl);replace hP:eH w5 w.heap.size ⟨B,k,d⟩ lr (h.au.take k):=⟨hP.row.grown hg (.inr (fun e=>by have:=Qa _ e;omega)),hP.each.mono fun _ _ h=>h.aw hG rfl⟩;refine Wz ?_;refine SW.dR rfl rfl rfl rfl rfl fun b w6 ap hb hB => ?_
    (replace hw:=Ext.trans hw ap;replace aD:=aD.ext ap;replace ax:=ax.ext ap;replace hX:=hX.ext ap;replace hY:=hY.ext ap;replace hO:=hO.ext ap;replace hP:=hP.ext ap;replace hW:=hW.ext ap);refine SW.append hP.row (aW.z7 (enc:=bI) (x:=⟨ls[k].fT,ls[k].ao,ls[k].Ty,⟨W,_,e4⟩⟩) hB) hw.size rfl rfl rfl (by simp only;omega) (by simp only;omega) fun A2 c2 w7 Kr hg => ?_
    have hG:=hP.row.gr hg;replace hw:=aO hw hg (Nat.le_refl _) hP.row.bc;(replace aD:=aD.aw hG rfl;replace ax:=ax.aw hG rfl;replace hX:=hX.aw hG rfl;replace hY:=hY.aw hG rfl;replace hO:=hO.aw hG rfl;replace hW:=hW.aw hG rfl);have hE:=hP.each.mono fun _ _ h=>h.aw hG rfl
    refine Wz ?_;refine SW.bz (i:=3) ax rfl rfl rfl rfl fun w8 cW hg => ?_
    have hG:=ax.gr hg;replace hw:=hw.own dB hg;replace aD:=aD.grown hg (by simpa using iH);(replace hX:=hX.aw hG rfl;replace hY:=hY.aw hG rfl;replace hO:=hO.aw hG rfl;replace Kr:=Kr.aw hG rfl;replace hW:=hW.aw hG rfl);replace hE:=hE.mono fun _ _ h=>h.aw hG rfl
    refine Wz ?_;refine ah.again (k+1,A2,c2,lr++[⟨ls[k].fT,ls[k].ao,ls[k].Ty,⟨W,_,e4⟩⟩]) ⟨rfl,rfl,rfl,rfl,rfl,trivial⟩ (by simp only;omega) ⟨by simp only;omega,hw,aD,cW,hX,hY,hO,⟨Kr,?_⟩,tY⟩;rw [List.take_succ_eq_append_getElem (by omega)];exact hE.snoc ⟨E4.cpu,E4.iG,E4.ty,hW⟩
   ·obtain rfl:k=r.au.n:=by omega
    rw [List.take_of_length_le (by omega)] at hP;refine Wz ?_;refine SW.ak aD rfl rfl rfl rfl (dJ _) fun w5 bU hg => ?_
    have hG:=aD.gr hg;replace hw:=hw.own qZ hg;(replace hX:=hX.aw hG rfl;replace hY:=hY.aw hG rfl;replace hO:=hO.aw hG rfl;replace hP:=hP.aw hG rfl);refine Wz ?_;exact ah.Al rfl rfl bU rfl ⟨_,rfl,hw,⟨⟨A,r.bf.n,c⟩,⟨X,r.dk.n,c4⟩,r.bw,⟨B,r.au.n,d⟩,⟨Y,r.Live.n,d4⟩⟩,rfl,⟨hr.cpus,hX,hY,⟨zr,hO⟩,⟨lr,hP⟩⟩,zr,lr,hO,hP,tY,IS⟩
theorem kd (r:gC) (h:Heap) (w:World) (hr:DX w r h) (hs:h.small) :
 bq Tryz.prog 83 [.agg (cV r).toArray] w fun v w' => ∃ s,v = .agg (cV s).toArray∧gZ w' w.heap.size s h :=
 (qx r h w hr hs).mono fun _ _ _ ⟨s,hv,ho⟩=>⟨s,hv,ho.own⟩
open Go.RowKit
open Go.RowKit
theorem qb (A:Option Addr) (n c:Nat) (l:List Slab) (w:World) (hl:Sl w 3 aX A n l) (hn:n*24≤140737488355328) : bq Tryz.prog 85 [.slice A n c] w (y7 w 91 3 aX n l):=by
 refine aG Tryz.func85 rfl Tryz.ntmps85 rfl ?_;have hw:=Ext.refl w;refine Wz ?_;refine SW.st (qR rfl rfl) rfl ?_;repeat' (first|refine Wz ?_|(refine CW.cond rfl (fun h => ?_) (fun h => ?_)))
 ·have Gx:n=0:=by
   rcases Nat.eq_zero_or_pos n with h0|h0
   ·exact h0
   ·have:=hl.base h0;simp_all
  subst Gx;have:l=[]:=List.eq_nil_of_length_eq_zero hl.len
  subst this;exact ah.aY rfl rfl ⟨_,rfl,hw,none,0,rfl,Own.gz _ _ _ _ _ _⟩
 ·refine SW.yV rfl fun b w1 ae hb => ?_
  replace hw:=Ext.trans hw ae;refine Wz ?_;refine SW.uy (Nat.zero_add n) (List.nil_append l) (Own.gz w1 w.heap.size _ _ aX (some ⟨b,0,none⟩)) (hl.ext hw) hw.size rfl rfl rfl (by omega) (by omega) fun A2 c2 w2 hO hg => ?_
  replace hw:=aO hw hg (Nat.le_refl _) (by simp [aM]);refine Wz ?_;exact ah.aY rfl rfl ⟨_,rfl,hw,A2,c2,rfl,hO⟩
open Go.RowKit
structure aF where
 Names:List ByteArray
 aE:Int
 bG:Int
 Order:Int
 ab:List Slab
 ar:List Int
structure ag where
 Words:List Int
 Heap:Heap
 aa:List aF
def encStr (s:ByteArray) : List Value:=[.string s]
instance:fP encStr 1:=⟨fun _=>rfl,fun r u hu=>by simp [encStr] at hu;subst hu;rfl⟩
structure dv where
 Names:gg
 aE:Int
 bG:Int
 Order:Int
 ab:gg
 ar:gg
def eA (r:dv) : List Value:=[r.Names.v,.int .i64 r.aE,.int .i64 r.bG,.int .i64 r.Order,r.ab.v,r.ar.v]
instance:fP eA 6:=⟨fun _=>rfl,fun r u hu=>by simp [eA,gg.v] at hu;rcases hu with rfl|rfl|rfl|rfl|rfl|rfl<;>rfl⟩
structure eQ where
 Words:gg
 Heap:gC
 aa:gg
def ba (r:eQ) : List Value:=[r.Words.v,r.Heap.bf.v,r.Heap.dk.v,.int .i64 r.Heap.bw,r.Heap.au.v,r.Heap.Live.v,r.aa.v]
instance:fP ba 7:=⟨fun _=>rfl,fun r u hu=>by simp [ba,gg.v] at hu;rcases hu with rfl|rfl|rfl|rfl|rfl|rfl|rfl<;>rfl⟩
def eQ.zero:eQ:=⟨.nil,.zero,.nil⟩
theorem AI (r:dv) : ∀ v∈eA r,v.oneCell'=true:=fP.one (enc:=eA) r
theorem bt (r:eQ) : ∀ v∈ba r,v.oneCell'=true:=fP.one (enc:=ba) r
theorem mq {w:World} {b t:Nat} {r:eQ} (h:aW w b t (ba r)) : ∀ j v,(cV r.Heap)[j]?=some v→w.cell? ((((⟨b,0,none⟩ : Addr)).add 1).add j)=some v:=fun j v hv=>by
 rw [add_add];refine h.cell (i:=1+j) ?_
 match j,hv with
 | 0,hv=>exact hv
 | 1,hv=>exact hv
 | 2,hv=>exact hv
 | 3,hv=>exact hv
 | 4,hv=>exact hv
 | j+5,hv=>simp [cV] at hv
theorem Own.Ks {α:Type} {w:World} {lo:Nat} {e:TypeId} {sz:Nat} {enc : α → List Value} {A:Option Addr} {n c:Nat} {l:List α} (h:Own w lo e sz enc A n c l) : n≤c:=by
 rcases h.row with ⟨rfl,rfl⟩|⟨_,_,_,_,_,_,h,_⟩
 ·exact Nat.le_refl _
 ·exact h
structure CF (w:World) (r:dv) (c:aF) : Prop where
 size:r.aE=c.aE
 g7:r.bG=c.bG
 order:r.Order=c.Order
 names:Sl w 1 encStr r.Names.A r.Names.n c.Names
 aH:Sl w 3 aX r.ab.A r.ab.n c.ab
 a8:Sl w 1 bK r.ar.A r.ar.n c.ar
 cap:r.ar.n≤r.ar.c
structure mJ (w:World) (lo:Nat) (r:dv) (c:aF) : Prop where
 size:r.aE=c.aE
 g7:r.bG=c.bG
 order:r.Order=c.Order
 names:Own w lo 9 1 encStr r.Names.A r.Names.n r.Names.c c.Names
 aH:Own w lo 91 3 aX r.ab.A r.ab.n r.ab.c c.ab
 a8:Own w lo 3 1 bK r.ar.A r.ar.n r.ar.c c.ar
section
variable {w w':World} {lo lj t:Nat} {r:dv} {c:aF}
theorem CF.ext (h:CF w r c) (hx:Ext w w') : CF w' r c:=⟨h.size,h.g7,h.order,h.names.ext hx,h.aH.ext hx,h.a8.ext hx,h.cap⟩
theorem mJ.ext (h:mJ w lo r c) (hx:Ext w w') : mJ w' lo r c:=⟨h.size,h.g7,h.order,h.names.ext hx,h.aH.ext hx,h.a8.ext hx⟩
theorem mJ.low (h:mJ w lo r c) (hl:lj≤lo) : mJ w lj r c:=⟨h.size,h.g7,h.order,h.names.low hl,h.aH.low hl,h.a8.low hl⟩
theorem mJ.rd (h:mJ w lo r c) : CF w r c:=⟨h.size,h.g7,h.order,h.names.sl,h.aH.sl,h.a8.sl,h.a8.Ks⟩
theorem mJ.aw (h:mJ w lo r c) (hG:r7 w w' t) (bW:(Nat.beq t 9 || (Nat.beq t 91 || Nat.beq t 3))=false) : mJ w' lo r c:=by
 simp only [Bool.or_eq_false_iff] at bW;exact ⟨h.size,h.g7,h.order,h.names.aw hG bW.1,h.aH.aw hG bW.2.1,h.a8.aw hG bW.2.2⟩
end
structure CG (w:World) (s:gg) (cs:List dv) (l:List aF) : Prop where
 row:Sl w 6 eA s.A s.n cs
 each:eK (CF w) cs l
 cap:s.n≤s.c
structure dV (w:World) (lo:Nat) (s:gg) (cs:List dv) (l:List aF) : Prop where
 row:Own w lo 89 6 eA s.A s.n s.c cs
 each:eK (mJ w lo) cs l
section
variable {w w':World} {lo lj t:Nat} {s:gg} {cs:List dv} {l:List aF}
theorem CG.ext (h:CG w s cs l) (hx:Ext w w') : CG w' s cs l:=⟨h.row.ext hx,h.each.mono fun _ _ h=>h.ext hx,h.cap⟩
theorem dV.ext (h:dV w lo s cs l) (hx:Ext w w') : dV w' lo s cs l:=⟨h.row.ext hx,h.each.mono fun _ _ h=>h.ext hx⟩
theorem dV.low (h:dV w lo s cs l) (hl:lj≤lo) : dV w lj s cs l:=⟨h.row.low hl,h.each.mono fun _ _ h=>h.low hl⟩
theorem dV.rd (h:dV w lo s cs l) : CG w s cs l:=⟨h.row.sl,h.each.mono fun _ _ h=>h.rd,h.row.Ks⟩
theorem dV.aw (h:dV w lo s cs l) (hG:r7 w w' t) (bW:(Nat.beq t 89 || (Nat.beq t 9 || (Nat.beq t 91 || Nat.beq t 3)))=false) : dV w' lo s cs l:=by
 rw [Bool.or_eq_false_iff] at bW;exact ⟨h.row.aw hG bW.1,h.each.mono fun _ _ h=>h.aw hG bW.2⟩
theorem dV.nil (w:World) (lo:Nat) : dV w lo .nil [] []:=⟨Own.gz _ _ _ _ _ _,.nil⟩
theorem CG.len (h:CG w s cs l) : cs.length=s.n∧l.length=s.n:=⟨h.row.len,by rw [← h.each.len,h.row.len]⟩
theorem dV.dD {b:Nat} {vs:List Value} (h:dV w lo s cs l) (hB:aW w b 89 vs) (hg:w.grownBy w' (some b)) (dL:∀ k,aM s.A s.c=some k→k<lj) (hm:lj≤b) : dV w' lo s cs l :=
 ⟨h.row.grown hg (.inr (fun e=>by have:=dL _ e;omega)),h.each.mono fun _ _ h=>h.aw (hB.gr hg) rfl⟩
end
structure Ab (w:World) (r:eQ) (s:ag) : Prop where
 words:Sl w 1 bK r.Words.A r.Words.n s.Words
 heap:DX w r.Heap s.Heap
 bR:∃ cs,CG w r.aa cs s.aa
structure lR (w:World) (lo:Nat) (r:eQ) (s:ag) : Prop where
 words:Own w lo 3 1 bK r.Words.A r.Words.n r.Words.c s.Words
 heap:gZ w lo r.Heap s.Heap
 bR:∃ cs,dV w lo r.aa cs s.aa
section
variable {w w':World} {lo lj t:Nat} {r:eQ} {s:ag}
theorem Ab.ext (h:Ab w r s) (hx:Ext w w') : Ab w' r s:=by
 obtain ⟨cs,hc⟩:=h.bR;exact ⟨h.words.ext hx,h.heap.ext hx,⟨cs,hc.ext hx⟩⟩
theorem lR.ext (h:lR w lo r s) (hx:Ext w w') : lR w' lo r s:=by
 obtain ⟨cs,hc⟩:=h.bR;exact ⟨h.words.ext hx,h.heap.ext hx,⟨cs,hc.ext hx⟩⟩
theorem lR.low (h:lR w lo r s) (hl:lj≤lo) : lR w lj r s:=by
 obtain ⟨cs,hc⟩:=h.bR;exact ⟨h.words.low hl,h.heap.low hl,⟨cs,hc.low hl⟩⟩
theorem lR.rd (h:lR w lo r s) : Ab w r s:=by
 obtain ⟨cs,hc⟩:=h.bR;exact ⟨h.words.sl,h.heap.rd,⟨cs,hc.rd⟩⟩
end
structure aF.small (c:aF) : Prop where
 names:c.Names.length*16≤140737488355328
 aH:c.ab.length*24≤140737488355328
 a8:c.ar.length*8≤140737488355328
structure ag.small (s:ag) : Prop where
 words:s.Words.length*8≤140737488355328
 heap:s.Heap.small
 bR:s.aa.length*96≤140737488355328
 each:∀ c∈s.aa,c.small
open Go.RowKit
instance:D8 Tryz.prog 9:=⟨by kernel_rfl⟩
theorem LN:Tryz.prog.underlying 5=some (.int .u8):=by kernel_rfl
theorem qy (A:Option Addr) (n c:Nat) (l:List UInt8) (w:World) (hl:Sl w 1 zq A n l) (f:FuncId) (cap:List Value) [Body Tryz.prog f] (p:UInt8→Bool) (arg:UInt8→Value) (nj:∀ x,arg x=(if 1=1 then (zq x)[0]?.getD undef else .agg (zq x).toArray))
 (hf:∀ x∈l,∀ w',Ext w w'→bq Tryz.prog f ([arg x]++cap) w' fun v _=>v = .bool (p x)) (hn:n≤9223372036854775807) :
 bq Tryz.prog 232 [.slice A n c,.func (.func f) #[] cap.toArray] w fun v _=>v = .int .i64 (idxOf p l):=by
 refine aG Tryz.func232 rfl Tryz.ntmps232 rfl ?_;have hw:=Ext.refl w;have hA:=hl.base;refine Wz ?_;refine CW.loop (fun k:Nat=>[(0,.slice A n c),(1,.func (.func f) #[] cap.toArray),(7,.int .i64 (n:Int)),(8,.int .i64 (k:Int))]) (fun k w'=>k≤n∧Ext w w' ∧ ∀ j (hj:j<l.length),j<k→p l[j]=false) (fun k=>n-k) 0 ⟨rfl,rfl,rfl,rfl,trivial⟩ ⟨by omega,hw,fun j _ h=>by omega⟩ ?_;clear hw;rintro k w' ⟨j6,hw,hI⟩
 by_cases hk:k<n
 ·have hx:=nj (l[k]'(hl.lt hk));have tv:=hf (l[k]'(hl.lt hk)) (List.getElem_mem _);rw [hx] at tv;repeat' (first|refine Wz ?_|refine SW.st (aT hw rfl (hl.one hk rfl)) rfl ?_)
  refine SW.qU rfl rfl rfl (tv _ hw) fun v w1 ae hv => ?_
  subst hv;replace hw:=Ext.trans hw ae;cases hp:p (l[k]'(hl.lt hk))
  ·refine Wz ?_;refine ah.again (k+1) ⟨rfl,rfl,rfl,rfl,trivial⟩ (by omega) ⟨by omega,hw,fun j hj h => ?_⟩;by_cases na:j=k
   ·subst na;exact hp
   ·exact hI j hj (by omega)
  ·refine Wz ?_;exact ah.aY rfl rfl ⟨_,rfl,hw,by rw [lm (hl.lt hk) hp hI]⟩
 ·refine Wz ?_;exact ah.aY rfl rfl ⟨_,rfl,hw,by rw [(jf (fun j hj=>hI j hj (by have:=hl.len;omega))).1]⟩
theorem gQ (A:Option Addr) (n c:Nat) (l:List Slab) (w:World) (hl:Sl w 3 aX A n l) (f:FuncId) (cap:List Value) [Body Tryz.prog f] (p:Slab→Bool) (arg:Slab→Value) (nj:∀ x,arg x=(if 3=1 then (aX x)[0]?.getD undef else .agg (aX x).toArray))
 (hf:∀ x∈l,∀ w',Ext w w'→bq Tryz.prog f ([arg x]++cap) w' fun v _=>v = .bool (p x)) (hn:n≤9223372036854775807) :
 bq Tryz.prog 190 [.slice A n c,.func (.func f) #[] cap.toArray] w fun v _=>v = .int .i64 (idxOf p l):=by
 refine aG Tryz.func190 rfl Tryz.ntmps190 rfl ?_;have hw:=Ext.refl w;have hA:=hl.base;refine Wz ?_;refine CW.loop (fun k:Nat=>[(0,.slice A n c),(1,.func (.func f) #[] cap.toArray),(7,.int .i64 (n:Int)),(8,.int .i64 (k:Int))]) (fun k w'=>k≤n∧Ext w w' ∧ ∀ j (hj:j<l.length),j<k→p l[j]=false) (fun k=>n-k) 0 ⟨rfl,rfl,rfl,rfl,trivial⟩ ⟨by omega,hw,fun j _ h=>by omega⟩ ?_;clear hw;rintro k w' ⟨j6,hw,hI⟩
 by_cases hk:k<n
 ·have hx:=nj (l[k]'(hl.lt hk));have tv:=hf (l[k]'(hl.lt hk)) (List.getElem_mem _);rw [hx] at tv;repeat' (first|refine Wz ?_|refine SW.st (aU hw rfl rfl ((hl.all hk))) rfl ?_)
  refine SW.qU rfl rfl rfl (tv _ hw) fun v w1 ae hv => ?_
  subst hv;replace hw:=Ext.trans hw ae;cases hp:p (l[k]'(hl.lt hk))
  ·refine Wz ?_;refine ah.again (k+1) ⟨rfl,rfl,rfl,rfl,trivial⟩ (by omega) ⟨by omega,hw,fun j hj h => ?_⟩;by_cases na:j=k
   ·subst na;exact hp
   ·exact hI j hj (by omega)
  ·refine Wz ?_;exact ah.aY rfl rfl ⟨_,rfl,hw,by rw [lm (hl.lt hk) hp hI]⟩
 ·refine Wz ?_;exact ah.aY rfl rfl ⟨_,rfl,hw,by rw [(jf (fun j hj=>hI j hj (by have:=hl.len;omega))).1]⟩
theorem jM (A:Option Addr) (n c:Nat) (l:List dv) (w:World) (hl:Sl w 6 eA A n l) (f:FuncId) (cap:List Value) [Body Tryz.prog f] (p:dv→Bool) (arg:dv→Value) (nj:∀ x,arg x=(if 6=1 then (eA x)[0]?.getD undef else .agg (eA x).toArray))
 (hf:∀ x∈l,∀ w',Ext w w'→bq Tryz.prog f ([arg x]++cap) w' fun v _=>v = .bool (p x)) (hn:n≤9223372036854775807) :
 bq Tryz.prog 137 [.slice A n c,.func (.func f) #[] cap.toArray] w fun v _=>v = .int .i64 (idxOf p l):=by
 refine aG Tryz.func137 rfl Tryz.ntmps137 rfl ?_;have hw:=Ext.refl w;have hA:=hl.base;refine Wz ?_;refine CW.loop (fun k:Nat=>[(0,.slice A n c),(1,.func (.func f) #[] cap.toArray),(7,.int .i64 (n:Int)),(8,.int .i64 (k:Int))]) (fun k w'=>k≤n∧Ext w w' ∧ ∀ j (hj:j<l.length),j<k→p l[j]=false) (fun k=>n-k) 0 ⟨rfl,rfl,rfl,rfl,trivial⟩ ⟨by omega,hw,fun j _ h=>by omega⟩ ?_;clear hw;rintro k w' ⟨j6,hw,hI⟩
 by_cases hk:k<n
 ·have hx:=nj (l[k]'(hl.lt hk));have tv:=hf (l[k]'(hl.lt hk)) (List.getElem_mem _);rw [hx] at tv;repeat' (first|refine Wz ?_|refine SW.st (aU hw rfl rfl ((hl.all hk))) rfl ?_)
  refine SW.qU rfl rfl rfl (tv _ hw) fun v w1 ae hv => ?_
  subst hv;replace hw:=Ext.trans hw ae;cases hp:p (l[k]'(hl.lt hk))
  ·refine Wz ?_;refine ah.again (k+1) ⟨rfl,rfl,rfl,rfl,trivial⟩ (by omega) ⟨by omega,hw,fun j hj h => ?_⟩;by_cases na:j=k
   ·subst na;exact hp
   ·exact hI j hj (by omega)
  ·refine Wz ?_;exact ah.aY rfl rfl ⟨_,rfl,hw,by rw [lm (hl.lt hk) hp hI]⟩
 ·refine Wz ?_;exact ah.aY rfl rfl ⟨_,rfl,hw,by rw [(jf (fun j hj=>hI j hj (by have:=hl.len;omega))).1]⟩
theorem oh (A:Option Addr) (n c:Nat) (l:List UInt8) (w:World) (hl:Sl w 1 zq A n l) (f:FuncId) (cap:List Value) [Body Tryz.prog f] (p:UInt8→Bool) (arg:UInt8→Value) (nj:∀ x,arg x=(if 1=1 then (zq x)[0]?.getD undef else .agg (zq x).toArray))
 (hf:∀ x∈l,∀ w',Ext w w'→bq Tryz.prog f ([arg x]++cap) w' fun v _=>v = .bool (p x)) (hn:n≤9223372036854775807) :
 bq Tryz.prog 182 [.slice A n c,.func (.func f) #[] cap.toArray] w fun v _=>v = .bool (l.any p):=by
 refine aG Tryz.func182 rfl Tryz.ntmps182 rfl ?_;have hw:=Ext.refl w;repeat' (first|refine Wz ?_|(refine SW.call rfl rfl (qy _ _ _ _ _ (hl.ext hw) f cap p arg nj (fun x hx w1 h1=>hf x hx w1 (Ext.trans hw h1)) hn) ?_;intro v w1 ae hv;subst hv;replace hw:=Ext.trans hw ae;clear ae))
 exact ah.aY rfl rfl ⟨_,rfl,hw,by rw [kz]⟩
theorem kE (A:Option Addr) (n c:Nat) (l:List dv) (w:World) (hl:Sl w 6 eA A n l) (f:FuncId) (cap:List Value) [Body Tryz.prog f] (p:dv→Bool) (arg:dv→Value) (nj:∀ x,arg x=(if 6=1 then (eA x)[0]?.getD undef else .agg (eA x).toArray))
 (hf:∀ x∈l,∀ w',Ext w w'→bq Tryz.prog f ([arg x]++cap) w' fun v _=>v = .bool (p x)) (hn:n≤9223372036854775807) :
 bq Tryz.prog 90 [.slice A n c,.func (.func f) #[] cap.toArray] w fun v _=>v = .bool (l.any p):=by
 refine aG Tryz.func90 rfl Tryz.ntmps90 rfl ?_;have hw:=Ext.refl w;repeat' (first|refine Wz ?_|(refine SW.call rfl rfl (jM _ _ _ _ _ (hl.ext hw) f cap p arg nj (fun x hx w1 h1=>hf x hx w1 (Ext.trans hw h1)) hn) ?_;intro v w1 ae hv;subst hv;replace hw:=Ext.trans hw ae;clear ae))
 exact ah.aY rfl rfl ⟨_,rfl,hw,by rw [kz]⟩
def pN (b:UInt8) : Bool:=(decide ((b.toNat:Int)<97) || decide (122<(b.toNat:Int))) && (decide ((b.toNat:Int)<48) || decide (57<(b.toNat:Int)))
def fy (s:ByteArray) : Bool:=decide (1≤(s.size:Int)∧(s.size:Int)≤8) && !(s.data.toList.any pN)
theorem Ji {s:ByteArray} (h : 1≤s.size∧s.size≤8) (k:s.data.toList.any pN=false) : fy s=true:=by
 unfold fy;rw [k,decide_eq_true (by omega)]
 rfl
theorem CH {s:ByteArray} (h : ¬ (1≤s.size∧s.size≤8)) : fy s=false:=by
 unfold fy;rw [decide_eq_false (by omega)]
 rfl
theorem E5 {s:ByteArray} (k:s.data.toList.any pN=true) : fy s=false:=by
 unfold fy;rw [k];simp
theorem GZ (b:UInt8) (w:World) : bq Tryz.prog 183 ([.int .u8 b.toNat]++[]) w fun v _=>v = .bool (pN b):=by
 refine aG Tryz.func183 rfl Tryz.ntmps183 rfl ?_;have hw:=Ext.refl w;unfold pN;obtain ⟨z,hz⟩ : ∃ z:Int,(b.toNat:Int)=z:=⟨_,rfl⟩;rw [hz];by_cases a1:z<97
 ·by_cases a2:z<48
  ·refine Wz ?_;exact ah.aY rfl rfl ⟨_,rfl,hw,by simp [a1,a2]<;>omega⟩
  ·refine Wz ?_;exact ah.aY rfl rfl ⟨_,rfl,hw,by simp [a1,a2]<;>omega⟩
 ·by_cases a2 : 122<z
  ·refine Wz ?_;exact ah.aY rfl rfl ⟨_,rfl,hw,by simp [a1,a2]<;>omega⟩
  ·refine Wz ?_;exact ah.aY rfl rfl ⟨_,rfl,hw,by simp [a1,a2]<;>omega⟩
theorem AJ (s:ByteArray) (w:World) (hs:s.size≤140737488351232) : bq Tryz.prog 92 [.string s] w fun v _=>v = .bool (fy s):=by
 refine aG Tryz.func92 rfl Tryz.ntmps92 rfl ?_;have hw:=Ext.refl w;by_cases h0:s=⟨#[]⟩
 ·subst h0;repeat' (first|refine Wz ?_|refine SW.cw rfl rfl rfl (fun h => ?_) (fun h => ?_)|(refine SW.st (lD rfl rfl) rfl ?_))
  all_goals first|(exfalso;simp_all;done)|skip
  exact ah.aY rfl rfl ⟨_,rfl,hw,rfl⟩
 ·by_cases h8:s.size≤8
  ·have h1 : 1≤s.size:=by
    rcases Nat.eq_zero_or_pos s.size with h|h
    ·exact absurd (by cases s;simp [ByteArray.size] at h;subst h;rfl) h0
    ·exact h
   have bW:decide (s=⟨#[]⟩)=false:=decide_eq_false h0
   repeat' (first|refine Wz ?_|(refine SW.st ((lD rfl rfl).eq (congrArg Value.bool bW)) rfl ?_)|refine SW.st (D9 rfl) rfl ?_)
   refine SW.E3 (e:=5) LN rfl rfl fun b c w1 ae hb hS => ?_
   replace hw:=Ext.trans hw ae;refine SW.call rfl rfl (oh _ _ _ _ _ hS _ [] pN (fun x => .int .u8 x.toNat) (fun x=>rfl) (fun x _ w1 _=>GZ x w1) (by omega)) fun v w2 bF hv => ?_
   subst hv;replace hw:=Ext.trans hw bF;refine Wz ?_;refine ah.aY rfl rfl ⟨_,rfl,hw,?_⟩;cases k:s.data.toList.any pN
   ·rw [Ji ⟨h1,h8⟩ k];rfl
   ·rw [E5 k];rfl
  ·have bW:decide (s=⟨#[]⟩)=false:=decide_eq_false h0
   rw [CH (by omega)];repeat' (first|refine Wz ?_|(refine SW.st ((lD rfl rfl).eq (congrArg Value.bool bW)) rfl ?_)|refine SW.st (D9 rfl) rfl ?_)
   exact ah.aY rfl rfl ⟨_,rfl,hw,rfl⟩
open Go.RowKit
def dy (x:Int) : Int×Int×Int:=if 1≤x∧x≤64 then (if 4≤16 / x then (0,16 / x,0) else if 4≤32 / x then (1,32 / x,0) else (2,64 / x,0)) else (0,0,1)
def l9 (x:Int) : Value := .tuple #[.int .i64 (dy x).1,.int .i64 (dy x).2.1,.int .i64 (dy x).2.2]
theorem vE (x:Int) (w:World) : bq Tryz.prog 141 [.int .i64 x] w fun v _=>v=l9 x:=by
 refine aG Tryz.func141 rfl Tryz.ntmps141 rfl ?_;have hw:=Ext.refl w;repeat' (first|refine Wz ?_|(refine CW.gG rfl (fun h => ?_) (fun h => ?_))|refine SW.cw rfl rfl rfl (fun h => ?_) (fun h => ?_))
 ·refine ah.yW rfl rfl rfl rfl ⟨_,rfl,hw,?_⟩;unfold l9 dy;rw [if_neg (by omega)]
 ·refine ah.yW rfl rfl rfl rfl ⟨_,rfl,hw,?_⟩;unfold l9 dy;rw [if_neg (by omega)]
 ·have hx : 1≤x∧x≤64:=by omega
  refine CW.loop (fun k:Nat=>[(0,.int .i64 x),(5,.int .i64 (k:Int))]) (fun k w'=>k≤2∧Ext w w'∧(1≤k → ¬ 4≤16 / x)∧(2≤k → ¬ 4≤32 / x)) (fun k=>2-k) 0 ⟨rfl,rfl,trivial⟩ ⟨by omega,hw,by omega,by omega⟩ ?_;clear hw;rintro k w' ⟨hk,hw,h1,h2⟩
  obtain rfl|rfl|rfl:k=0∨k=1∨k=2:=by omega
  ·refine Wz ?_;refine SW.st (fb (r:=16) rfl rfl (by decide) (by decide) (by decide) (by decide) (by decide)) rfl ?_;repeat' (first|refine Wz ?_|refine SW.cw rfl rfl rfl (fun h => ?_) (fun h => ?_))
   ·refine ah.yW rfl rfl rfl rfl ⟨_,rfl,hw,?_⟩;unfold l9 dy;rw [if_pos (by omega),if_pos (by omega)]
    rfl
   ·exact ah.again 1 ⟨rfl,rfl,trivial⟩ (by omega) ⟨by omega,hw,fun _=>by omega,fun h=>by omega⟩
  ·refine Wz ?_;refine SW.st (fb (r:=32) rfl rfl (by decide) (by decide) (by decide) (by decide) (by decide)) rfl ?_;repeat' (first|refine Wz ?_|refine SW.cw rfl rfl rfl (fun h => ?_) (fun h => ?_))
   ·refine ah.yW rfl rfl rfl rfl ⟨_,rfl,hw,?_⟩;have:=h1 (by omega)
    unfold l9 dy;rw [if_pos (by omega),if_neg (by omega),if_pos (by omega)]
    rfl
   ·exact ah.again 2 ⟨rfl,rfl,trivial⟩ (by omega) ⟨by omega,hw,fun _=>h1 (by omega),fun _=>by omega⟩
  ·refine Wz ?_;refine SW.st (fb (r:=64) rfl rfl (by decide) (by decide) (by decide) (by decide) (by decide)) rfl ?_;have Tj:=h1 (by omega);have lN:=h2 (by omega);repeat' (first|refine Wz ?_|refine SW.cw rfl rfl rfl (fun h => ?_) (fun h => ?_))
   all_goals refine ah.yW rfl rfl rfl rfl ⟨_,rfl,hw,?_⟩
   all_goals unfold l9 dy
   all_goals rw [if_pos (by omega),if_neg (by omega),if_neg (by omega)]
   all_goals rfl
open Go.RowKit
def qz (b:Bool) : List Value:=[.bool b]
instance:fP qz 1:=⟨fun _=>rfl,fun _ u hu=>by simp [qz] at hu;subst hu;rfl⟩
theorem zt (A:Option Addr) (n c:Nat) (l:List Int) (x:Int) (w:World) (hl:Sl w 1 bK A n l) (hn:n≤9223372036854775807) :
 bq Tryz.prog 186 [.slice A n c,.int .i64 x] w fun v _ => ∃ i:Int,v = .int .i64 i∧(0≤i↔x∈l):=by
 refine aG Tryz.func186 rfl Tryz.ntmps186 rfl ?_;have hw:=Ext.refl w;have hA:=hl.base;have pp:=hl.len;refine Wz ?_
 refine CW.loop (fun k:Nat=>[(0,.slice A n c),(1,.int .i64 x),(7,.int .i64 (n:Int)),(8,.int .i64 (k:Int))]) (fun k w'=>k≤n∧Ext w w' ∧ ∀ (i:Nat) (h:i<l.length),i<k→l[i]≠x)
  (fun k=>n-k) 0 ⟨rfl,rfl,rfl,rfl,trivial⟩ ⟨by omega,hw,fun i h hi=>by omega⟩ ?_
 clear hw;rintro k w' ⟨hk,hw,hI⟩
 by_cases dY:k<n
 ·repeat' (first|refine Wz ?_|(refine CW.gG rfl (fun h => ?_) (fun h => ?_))|refine SW.st (aT hw rfl (hl.one dY rfl)) rfl ?_)
  ·refine ah.aY rfl rfl ⟨_,rfl,hw,_,rfl,?_⟩;have hx:x∈l:=by rw [h];exact List.getElem_mem _
   simp [hx]
  ·refine ah.again (k+1) ⟨rfl,rfl,rfl,rfl,trivial⟩ (by omega) ⟨by omega,hw,fun i h' hi => ?_⟩;by_cases z9:i=k
   ·subst z9;exact fun e=>h e.symm
   ·exact hI i h' (by omega)
 ·refine Wz ?_;refine ah.aY rfl rfl ⟨_,rfl,hw,_,rfl,?_⟩
  have hx : ¬ x∈l:=fun hm=>by
   obtain ⟨i,hi,e⟩:=List.getElem_of_mem hm;exact hI i hi (by omega) e
  simp [hx]
theorem fi (A:Option Addr) (n c:Nat) (l:List Int) (x:Int) (w:World) (hl:Sl w 1 bK A n l) (hn:n≤9223372036854775807) :
 bq Tryz.prog 95 [.slice A n c,.int .i64 x] w fun v _=>v = .bool (decide (x∈l)):=by
 refine aG Tryz.func95 rfl Tryz.ntmps95 rfl ?_;have hw:=Ext.refl w;refine Wz ?_;refine SW.call rfl rfl (zt _ _ _ _ _ _ (hl.ext hw) hn) fun v w1 ae hv => ?_
 obtain ⟨i,rfl,hi⟩:=hv;replace hw:=Ext.trans hw ae;refine Wz ?_;refine ah.aY rfl rfl ⟨_,rfl,hw,?_⟩;congr 1
 rw [decide_eq_decide];exact hi
inductive ef (l:List Int) (most:Int) : Int→List Int→Option (List Int)→Prop where
 | done (out:List Int) : ef l most (-1) out (some out)
 | bad {x:Int} {out:List Int} (h:x ≠ -1) (hb:most≤out.length ∨ ¬ (0≤x∧x<l.length)∨x∈out) : ef l most x out none
 | step {k:Nat} {out:List Int} {r:Option (List Int)} (h1:out.length<most) (hk:k<l.length) (h3:(k:Int)∉out) (h:ef l most l[k] (out++[(k:Int)]) r) : ef l most k out r
theorem ef.ir {l:List Int} {most x:Int} {out:List Int} {r s:Option (List Int)} (h:ef l most x out r) : ef l most x out s→r=s:=by
 induction h with
 | done out=>intro h';generalize hx:(-1:Int)=y at h';cases h' with
   | done=>rfl
   | bad h hb=>exact absurd hx.symm h
   | step h1 hk h3 h=>omega
 | @bad x out h hb=>intro h';cases h' with
   | done=>exact absurd rfl h
   | bad=>rfl
   | @step k _ _ h1 hk h3 h'=>rcases hb with h0|h0|h0<;>first|omega|exact absurd h0 h3
 | @step k out r h1 hk h3 h ih=>intro h';generalize hx:(k:Int)=y at h';cases h' with
   | done=>omega
   | bad h hb=>subst hx;rcases hb with h0|h0|h0<;>first|omega|exact absurd h0 h3
   | @step k' _ _ Tj j6 Vn h' =>
     have:k=k':=by omega
     subst this;exact ih h'
def sA (n:Nat) (out:List Int) : Nat:=((List.range n).filter fun i:Nat=>decide ((i:Int)∉out)).length
theorem E6 {n k:Nat} {out:List Int} (hk:k<n) (h:(k:Int)∉out) : sA n (out++[(k:Int)])<sA n out:=by
 unfold sA
 have e:((List.range n).filter fun i:Nat=>decide ((i:Int)∉out++[(k:Int)]))=((List.range n).filter fun i:Nat=>decide ((i:Int)∉out)).filter fun i:Nat=>decide (i≠k):=by
  rw [List.filter_filter];apply List.filter_congr;intro i _;rw [← Bool.decide_and,decide_eq_decide];simp only [List.mem_append,List.mem_singleton,not_or];constructor
  ·rintro ⟨h1,h2⟩;exact ⟨fun e=>h2 (by rw [e]),h1⟩
  ·rintro ⟨h1,h2⟩;exact ⟨h2,fun e=>h1 (by omega)⟩
 rw [e];refine List.length_filter_lt_length_iff_exists.2 ⟨k,?_,by simp⟩;simp [hk,h]
open Go.RowKit
def Jj (lo:Nat) (r:Option (List Int)) (v:Value) (w:World) : Prop:=match r with
 | none=>v = .tuple #[.slice none 0 0,.int .i64 8]
 | some out => ∃ A c,v = .tuple #[.slice A out.length c,.int .i64 0]∧Own w lo 3 1 bK A out.length c out∧out.length≤17592186044416
theorem CI (n:Nat) : sA n []≤n:=Nat.le_trans (List.length_filter_le _ _) (by simp)
theorem CJ (A:Option Addr) (n c:Nat) (l:List Int) (x most:Int) (w:World) (hl:Sl w 1 bK A n l) (hn:n*8≤140737488355328) :
 bq Tryz.prog 184 [.slice A n c,.int .i64 x,.int .i64 most] w fun v w' => ∃ r,ef l most x [] r∧Jj w.heap.size r v w':=by
 refine aG Tryz.func184 rfl Tryz.ntmps184 rfl ?_;have hw:=Ext.refl w;have p7:n≤2305843009213693952:=by omega
 have hA:=hl.base;have pp:=hl.len;refine Wz ?_
 refine CW.loop (fun s:List Int×Int×Option Addr×Nat=>[(0,.slice A n c),(1,.int .i64 s.2.1),(2,.int .i64 most),(8,.slice s.2.2.1 s.1.length s.2.2.2)])
  (fun s w'=>s.1.length+sA n s.1≤n∧(∀ r,ef l most s.2.1 s.1 r→ef l most x [] r)∧Ext w w'∧Own w' w.heap.size 3 1 bK s.2.2.1 s.1.length s.2.2.2 s.1) (fun s=>sA n s.1) ([],x,none,0) ⟨rfl,rfl,rfl,rfl,trivial⟩
  ⟨by simpa using CI n,fun _ h=>h,hw,Own.gz _ _ _ _ _ _⟩ ?_
 clear hw;rintro ⟨out,y,A1,c1⟩ w' ⟨hk,hF,hw,hO⟩
 simp only at hk hF hO ⊢;by_cases hy:y = -1
 ·refine Wz ?_;refine ah.cb rfl rfl rfl ⟨_,rfl,hw,some out,hF _ (by subst hy;exact .done _),A1,c1,rfl,hO,by omega⟩
 ·by_cases hm:most≤out.length
  ·refine Wz ?_;exact ah.cb rfl rfl rfl ⟨_,rfl,hw,none,hF _ (.bad hy (.inl hm)),rfl⟩
  ·by_cases hx : 0≤y∧y<n
   ·obtain ⟨k,rfl⟩:=Int.eq_ofNat_of_zero_le hx.1;have dY:k<n:=by omega
    by_cases ke:(k:Int)∈out
    ·repeat' (first|refine Wz ?_|(refine SW.call rfl rfl (vp _ _ _ _ _ _ p7) ?_;intro v w1 ae hv;subst hv;replace hw:=Ext.trans hw ae;replace hO:=hO.ext ae;clear ae))
     refine SW.call rfl rfl (fi _ _ _ _ _ _ hO.sl (by omega)) fun v w1 ae hv => ?_
     rw [decide_eq_true ke] at hv;subst hv;replace hw:=Ext.trans hw ae;refine Wz ?_;exact ah.cb rfl rfl rfl ⟨_,rfl,hw,none,hF _ (.bad hy (.inr (.inr ke))),rfl⟩
    ·have hu:=E6 dY ke;repeat' (first|refine Wz ?_|(refine SW.call rfl rfl (vp _ _ _ _ _ _ p7) ?_;intro v w1 ae hv;subst hv;replace hw:=Ext.trans hw ae;replace hO:=hO.ext ae;clear ae))
     refine SW.call rfl rfl (fi _ _ _ _ _ _ hO.sl (by omega)) fun v w1 ae hv => ?_
     rw [decide_eq_false ke] at hv;subst hv;replace hw:=Ext.trans hw ae;replace hO:=hO.ext ae;refine Wz ?_;refine SW.dR rfl rfl rfl rfl rfl fun b w1 ae hb hB => ?_
     replace hw:=Ext.trans hw ae;replace hO:=hO.ext ae;refine SW.append hO (aW.z7 (enc:=bK) hB) hw.size rfl rfl rfl (by omega) (by omega) fun A2 c2 w2 n7 hg => ?_
     replace hw:=aO hw hg (Nat.le_refl _) hO.bc;repeat' (first|refine Wz ?_|refine SW.st (aT hw rfl (hl.one dY rfl)) rfl ?_)
     refine ah.again (out++[(k:Int)],l[k]'(hl.lt dY),A2,c2) ⟨rfl,rfl,rfl,by simp;rfl,trivial⟩ hu ⟨by simp only [List.length_append,List.length_singleton];omega,fun r h=>hF r (.step (by omega) (hl.lt dY) ke h),hw,by simpa using n7⟩
   ·repeat' (first|refine Wz ?_|(refine SW.call rfl rfl (vp _ _ _ _ _ _ p7) ?_;intro v w1 ae hv;subst hv;replace hw:=Ext.trans hw ae;replace hO:=hO.ext ae;clear ae))
    exact ah.cb rfl rfl rfl ⟨_,rfl,hw,none,hF _ (.bad hy (.inr (.inl (by omega)))),rfl⟩
def AK (l:List Block) : Prop:=l.Pairwise je
theorem nu {y o:Int} (h0 : 0≤o) (h4:o<4) (hm:y % pw o=0) : beside (beside y o) o=y∧(beside y o=y+pw o∨beside y o=y-pw o):=by
 unfold beside;have hp:=dU h0 (show o≤4 by omega);generalize pw o=q at *
 rcases hp with ⟨e,rfl⟩|⟨e,rfl⟩|⟨e,rfl⟩|⟨e,rfl⟩|⟨e,rfl⟩<;>(refine ⟨?_,?_⟩<;>split<;>(try split)<;>omega)
theorem AL {z:ao} (h:bD z) : AK z.aj:=by
 have hu:=mD h;unfold AK;rw [List.pairwise_iff_getElem];intro i j hi hj lz;by_cases e:j=i+1
 ·subst e;exact h.next i hj
 ·refine ⟨gL hu hj lz,fun hh => ?_⟩;obtain ⟨h1,h2,h3⟩:=hh;have g1:=gL hu (show i+1<z.aj.length by omega) (Nat.lt_succ_self i);have g2:=gL hu hj (show i+1<j by omega);have b1:=(h.dD (i+1) (by omega)).1;have b2:=(h.dD j hj).1;have p1:=bT b1.1 b1.2.1;have p2:=(nu b2.1 h1 b2.2.2.2.2).2;have p3:=bT b2.1 b2.2.1;rw [h2] at g1;omega
theorem E7 {a o:Int} (h0 : 0≤o) (h4:o<4) (hm:a % pw o=0) (t1 t2 t3:Int) (i:Nat) : nb ⟨min a (beside a o),o+1,t1⟩ i=(nb ⟨a,o,t2⟩ i || nb ⟨beside a o,o,t3⟩ i):=by
 have h1:=(nu h0 h4 hm).2;have h2:=ks h0 (show o≤4 by omega);have h3:=bT h0 (show o≤4 by omega);rw [Bool.eq_iff_iff];simp only [nb,Bool.and_eq_true,Bool.or_eq_true,decide_eq_true_eq];rw [h2];omega
theorem AM {l:List Block} {a o:Int} (h:l.any (xe a o)=true) (i:Nat) : dx l i=(dx (ku l a o) i || nb ⟨a,o,0⟩ i):=by
 rw [Bool.eq_iff_iff];simp only [Bool.or_eq_true,dx,List.any_eq_true,ku,List.mem_filter];constructor
 ·rintro ⟨x,hx,hi⟩
  by_cases e:xe a o x=true
  ·obtain ⟨e1,e2⟩:=iq.1 e;right;rw [← hi,← e1,← e2];rfl
  ·left;exact ⟨x,⟨hx,by simp [e]⟩,hi⟩
 ·rintro (⟨x,⟨hx,_⟩,hi⟩|hi)
  ·exact ⟨x,hx,hi⟩
  ·obtain ⟨b,hb,hh⟩:=List.any_eq_true.1 h;obtain ⟨e1,e2⟩:=iq.1 hh;exact ⟨b,hb,by rw [← hi,← e1,← e2];rfl⟩
structure Joined (f t:Int) (l:List Block) (a o:Int) (l':List Block) (a' o':Int) : Prop where
 ok:Ar f t l' a' o'
 nx:AK l'
 Ea:∀ i,(dx l' i || nb ⟨a',o',0⟩ i)=(dx l i || nb ⟨a,o,0⟩ i)
 fin:o'<4→l'.any (xe (beside a' o') o')=false
theorem rm {f t:Int} (h0 : 0≤f) : ∀ (k:Nat) {l:List Block} {a o:Int},4-o<k→Ar f t l a o→AK l→Joined f t l a o (fV k l a o).1 (fV k l a o).2.1 (fV k l a o).2.2
 | 0,l,a,o,hk,h,hn=>by have:=h.fit.2.1;omega
 | k+1,l,a,o,hk,h,hn=>by
   simp only [fV];split
   ·rename_i ho;split
    ·rename_i fJ;have ih:=rm h0 k (by omega) (h.step h0 ho fJ) (hn.sublist List.filter_sublist);refine ⟨ih.ok,ih.nx,fun i => ?_,ih.fin⟩;rw [ih.Ea i,E7 h.fit.1 ho h.fit.2.2.2.2 0 0 0,AM fJ i];rw [Bool.or_assoc,Bool.or_comm (nb _ i) (nb _ i)]
    ·rename_i fJ;exact ⟨h,hn,fun _=>rfl,fun _=>by simpa using fJ⟩
   ·rename_i ho;exact ⟨h,hn,fun _=>rfl,fun h=>absurd h ho⟩
theorem Jk {f t:Int} {l0:List Block} {a0 o0:Int} {l:List Block} {a o:Int} (h:Joined f t l0 a0 o0 l a o) (u:Int) : AK (aN l (bi l a) ⟨a,o,u⟩):=by
 have hk:=h.ok;have hp:=bT hk.fit.1 hk.fit.2.1
 have Ls:∀ x∈l.take (bi l a),je x ⟨a,o,u⟩:=fun x hx=>by
  obtain ⟨j,hj,rfl⟩:=List.getElem_of_mem hx;simp only [List.length_take] at hj;rw [List.getElem_take];have h1:=mE (l:=l) (a:=a) (k:=j) (by omega);have h2:=hk.GC _ (List.getElem_mem (show j<l.length by omega));refine ⟨by simp only;omega,fun hh => ?_⟩;obtain ⟨g1,g2,g3⟩:=hh;have:=h.fin g1
  rw [List.any_eq_false] at this;exact this _ (List.getElem_mem (show j<l.length by omega)) (iq.2 ⟨g3,g2⟩)
 have NN:∀ y∈l.drop (bi l a),je ⟨a,o,u⟩ y:=fun y hy=>by
  obtain ⟨j,hj,rfl⟩:=List.getElem_of_mem hy;simp only [List.length_drop] at hj;rw [List.getElem_drop];have dL:bi l a<l.length:=by omega
  have h1:=Au dL;have hm:=List.getElem_mem (show bi l a+j<l.length by omega);have h2:=hk.GC _ hm;have hb:=(hk.dD _ hm).1;have Vo:=bT hb.1 hb.2.1
  have h3:(l[bi l a]).At≤(l[bi l a+j]'(by omega)).At:=by
   rcases Nat.eq_zero_or_pos j with e|e
   ·subst e;simp
   ·have:=gL hk.oE (show bi l a+j<l.length by omega) (show bi l a<bi l a+j by omega)
    have IT:=(hk.dD _ (List.getElem_mem dL)).1;have:=bT IT.1 IT.2.1
    omega
  refine ⟨by simp only;omega,fun hh => ?_⟩;obtain ⟨g1,g2,g3⟩:=hh;simp only at g2 g3;have e:=(nu hb.1 g1 hb.2.2.2.2).1;rw [← g3,← g2] at e;have:=h.fin (by omega)
  rw [List.any_eq_false] at this;exact this _ hm (iq.2 ⟨e.symm,g2.symm⟩)
 have fk:(l.take (bi l a)++l.drop (bi l a)).Pairwise je:=by rw [List.take_append_drop];exact h.nx
 rw [List.pairwise_append] at fk;unfold AK aN;rw [List.append_assoc,List.pairwise_append];refine ⟨fk.1,?_,fun x hx y hy => ?_⟩
 ·rw [List.singleton_append,List.pairwise_cons];exact ⟨NN,fk.2.1⟩
 ·rw [List.singleton_append,List.mem_cons] at hy;rcases hy with rfl|hy
  ·exact Ls x hx
  ·exact fk.2.2 x hx y hy
theorem E8 (l:List Block) (i:Nat) (b:Block) (k:Nat) : dx (aN l i b) k=(dx l k || nb b k):=by
 have:dx l k=(dx (l.take i) k || dx (l.drop i) k):=by
  unfold dx;rw [← List.any_append,List.take_append_drop]
 rw [this];simp only [dx,aN,List.any_append,List.any_cons,List.any_nil,Bool.or_false];cases (l.take i).any fun b=>nb b k<;>cases nb b k<;>simp
theorem sB {l:List Block} {i:Nat} {b x:Block} (h:x∈aN l i b) : x=b∨x∈l:=by
 unfold aN at h;rw [List.mem_append,List.mem_append] at h;rcases h with (h|h)|h
 ·exact .inr (List.mem_of_mem_take h)
 ·exact .inl (by simpa using h)
 ·exact .inr (List.mem_of_mem_drop h)
structure Kept (z z':ao) (a o:Int) : Prop where
 may:bD z'
 from_:z'.aK=z.aK
 lV:z'.To=z.To
 types:z'.Types=z.Types
 Ea:∀ i,dx z'.aj i=(dx z.aj i || nb ⟨a,o,0⟩ i)
theorem vF {z:ao} {a o:Int} (hz:bD z) (hf:fU z.aK z.To a o) (ho:iC z.aj a o=false) : (ee z a o).1=0∧Kept z (ee z a o).2 a o:=by
 have h0 : 0≤z.aK:=hz.ok.1
 have hJ:=vw (f:=0) (t:=0) hz hf ho;have hj:=rm h0 5 (by have:=hf.1;omega) hJ (AL hz);obtain ⟨⟨l,a',o'⟩,hq⟩ : ∃ u,fV 5 z.aj a o=u:=⟨_,rfl⟩;rw [hq] at hj;simp only at hj;obtain ⟨t,ht⟩ : ∃ t,z.Types.getD ((a'-z.aK) / 8).toNat 0=t:=⟨_,rfl⟩;rw [uD (qX hz) hf ho hq ht]
 have Qb:ik t:=by
  subst ht;rw [List.getD_eq_getElem?_getD];cases e:z.Types[((a'-z.aK) / 8).toNat]? with
  | none=>exact ⟨by decide,by decide⟩
  | some v =>
    obtain ⟨h,rfl⟩:=List.getElem?_eq_some_iff.1 e;exact hz.types _ (List.getElem_mem h)
 have hn:=Jk hj t;refine ⟨rfl,⟨hz.ok,hz.len,hz.types,fun i hi => ?_,fun i hi => ?_⟩,rfl,rfl,rfl,fun i => ?_⟩
 ·rcases sB (List.getElem_mem hi) with e|e
  ·simp only at e ⊢;rw [e];exact ⟨hj.ok.fit,Qb⟩
  ·exact hj.ok.dD _ e
 ·unfold AK at hn;rw [List.pairwise_iff_getElem] at hn;exact hn i (i+1) (by simp only at hi;omega) hi (Nat.lt_succ_self i)
 ·rw [E8,← hj.Ea i];rfl
noncomputable def eR (s:ao×ao) (b:Block) : ao×ao:=if b.At<s.1.To then ((ee s.1 b.At b.Order).2,s.2) else (s.1,(ee s.2 b.At b.Order).2)
noncomputable def bE (s:ao×ao) (l:List Block) : ao×ao:=l.foldl eR s
theorem ld (s:ao×ao) (l:List Block) (k:Nat) (h:k<l.length) : bE s (l.take (k+1))=eR (bE s (l.take k)) l[k]:=by
 unfold bE;rw [List.take_succ_eq_append_getElem h,List.foldl_append];rfl
theorem lE (s:ao×ao) (l m:List Block) : bE s (l++m)=bE (bE s l) m:=List.foldl_append
structure nv (s:ao×ao) (bs:List Block) : Prop where
 kf:bD s.1
 j3:bD s.2
 mK:s.1.aK=0
 Ac:s.1.To=s.2.aK
 E9:s.2.To=256
 Ea:∀ i,(dx s.1.aj i || dx s.2.aj i)=dx bs i
theorem fY (l m:List Block) (i:Nat) : dx (l++m) i=(dx l i || dx m i):=by simp [dx]
theorem js {z:ao} (h:bD z) : ∀ b∈z.aj,0≤b.At∧1≤pw b.Order:=fun b hb=>by
 obtain ⟨i,hi,rfl⟩:=List.getElem_of_mem hb;have h1:=(h.dD i hi).1;have h2:=h.ok.1;have:=bT h1.1 h1.2.1
 obtain ⟨_,_,h3,_,_⟩:=h1;omega
structure mL (bs:List Block) (b:Block) : Prop where
 ord : 0≤b.Order∧b.Order≤4
 at_ : 0≤b.At∧b.At<256
 al:b.At % pw b.Order=0
 fits:tx bs b
 NO:∀ x∈bs,0≤x.At∧1≤pw x.Order
theorem nv.free {s:ao×ao} {bs:List Block} (h:nv s bs) {b:Block} (hb:mL bs b) : iC s.1.aj b.At b.Order=false∧iC s.2.aj b.At b.Order=false:=by
 have hp:=bT hb.ord.1 hb.ord.2;have hm:=(pB hb.NO hp.1).2 hb.fits;obtain ⟨m1,m2,m3,m4⟩:=hm
 have key:∀ l:List Block,(∀ x∈l,0≤x.At∧1≤pw x.Order)→(∀ i,dx l i=true→dx bs i=true)→iC l b.At b.Order=false:=fun l hl hc =>
  ((pB hl hp.1).1 ⟨m1,m2,m3,fun i h1 h2=>by
   cases e:dx l i with
   | false=>rfl
   | true=>have:=hc i e;rw [m4 i h1 h2] at this;cases this⟩).2.2
 exact ⟨key _ (js h.kf) fun i hi=>by rw [← h.Ea i,hi];rfl,key _ (js h.j3) fun i hi=>by rw [← h.Ea i,hi];simp⟩
theorem nv.low {s:ao×ao} {bs:List Block} (h:nv s bs) {b:Block} (hb:mL bs b) (hl:b.At<s.1.To) : fU s.1.aK s.1.To b.At b.Order:=⟨hb.ord.1,hb.ord.2,by rw [h.mK];exact hb.at_.1,hl,hb.al⟩
theorem nv.tZ {s:ao×ao} {bs:List Block} (h:nv s bs) {b:Block} (hb:mL bs b) (hl : ¬ b.At<s.1.To) : fU s.2.aK s.2.To b.At b.Order:=⟨hb.ord.1,hb.ord.2,by rw [← h.Ac];omega,by rw [h.E9];exact hb.at_.2,hb.al⟩
theorem vG (b:Block) (i:Nat) : dx [b] i=nb b i:=by simp [dx]
theorem nv.back {s:ao×ao} {bs:List Block} (h:nv s bs) {b:Block} (hb:mL bs b) : nv (eR s b) (bs++[b])∧(eR s b).1.To=s.1.To:=by
 obtain ⟨o0,o1⟩:=h.free hb;unfold eR;by_cases hl:b.At<s.1.To
 ·rw [if_pos hl];obtain ⟨_,k⟩:=vF h.kf (h.low hb hl) o0;refine ⟨⟨k.may,h.j3,by rw [← h.mK];exact k.from_,by rw [← h.Ac];exact k.lV,h.E9,fun i => ?_⟩,k.lV⟩;rw [fY,vG,← h.Ea i];simp only;rw [k.Ea i];have:nb ⟨b.At,b.Order,0⟩ i=nb b i:=rfl
  rw [this];cases dx s.1.aj i<;>cases dx s.2.aj i<;>cases nb b i<;>rfl
 ·rw [if_neg hl];obtain ⟨_,k⟩:=vF h.j3 (h.tZ hb hl) o1;refine ⟨⟨h.kf,k.may,h.mK,by simp only;rw [k.from_];exact h.Ac,by simp only;rw [k.lV];exact h.E9,fun i => ?_⟩,rfl⟩;rw [fY,vG,← h.Ea i];simp only;rw [k.Ea i];have:nb ⟨b.At,b.Order,0⟩ i=nb b i:=rfl
  rw [this,Bool.or_assoc]
theorem me:∀ {l s t:List Block},bh (some s) l=some t→t=s++l
 | [],s,t,h=>by simp [bh] at h;simp [h]
 | b::l,s,t,h=>by
   have e:bh (some s) (b::l)=bh (j1 (some s) b) l:=rfl
   rw [e] at h;cases e2:j1 (some s) b with
   | none=>rw [e2,fW] at h;cases h
   | some u =>
     rw [e2] at h;obtain ⟨cs,m7,_,rfl⟩:=mH e2;cases m7
     rw [me h];simp
theorem nw {l m:List Block} {b:Block} (h:(bh (some []) (l++b::m)).isSome=true) : tx l b:=by
 have h1:(bh (some []) (l++[b])).isSome=true:=hU (m:=m) (by simpa using h)
 rw [cA] at h1;cases e:bh (some []) l with
 | none=>rw [e,fW] at h1;cases h1
 | some t =>
   have:=me e
   rw [List.nil_append] at this;subst this;rw [e] at h1;cases e2:bh (some t) [b] with
   | none=>rw [e2] at h1;cases h1
   | some u =>
     have:j1 (some t) b=some u:=e2
     obtain ⟨cs,m7,hf,_⟩:=mH this;cases m7
     exact hf
theorem AN {l:List Block} (h:(bh (some []) l).isSome=true) (hb:∀ b∈l,1≤pw b.Order) : ∀ x∈l,0≤x.At∧1≤pw x.Order:=by
 have hg:=jq (l:=l) xK hb;obtain ⟨t,ht⟩:=Option.isSome_iff_exists.1 h;have e:=me ht;rw [List.nil_append] at e;subst e;exact hg _ ht
structure lF (h:Heap) (z0 z1:ao) : Prop where
 cj:h.bf=[z0,z1]
 kf:bD z0
 j3:bD z1
 mK:z0.aK=0
 Ac:z0.To=z1.aK
 E9:z1.To=256
 all:(bh (some []) (z0.aj++z1.aj++aR h.au)).isSome=true
theorem AO {h:Heap} (hm:bp h) : ∃ z0 z1,lF h z0 z1:=by
 obtain ⟨z0,z1,h1,h2,h3,h4,h5,h6,_,h8⟩:=hm.cj;exact ⟨z0,z1,h1,h2,h3,h4,h5,h6,hU h8⟩
theorem vH {l:List ay}:∀ b∈aR l,b.Order=0:=fun b hb=>by
 unfold aR at hb;obtain ⟨x,_,hx⟩:=List.mem_flatMap.1 hb;obtain ⟨p,_,rfl⟩:=List.mem_map.1 hx
 rfl
theorem lF.start {h:Heap} {z0 z1:ao} (d:lF h z0 z1) : nv (z0,z1) (z0.aj++z1.aj):=⟨d.kf,d.j3,d.mK,d.Ac,d.E9,fun i=>by rw [fY]⟩
theorem lF.pw {h:Heap} {z0 z1:ao} (d:lF h z0 z1) : ∀ b∈z0.aj++z1.aj++aR h.au,1≤pw b.Order:=fun b hb=>by
 rcases List.mem_append.1 hb with hb|hb
 ·rcases List.mem_append.1 hb with hb|hb
  ·exact (js d.kf b hb).2
  ·exact (js d.j3 b hb).2
 ·rw [vH b hb,gM];omega
theorem lF.next {h:Heap} {z0 z1:ao} (d:lF h z0 z1) {k:Nat} (hk:k<(aR h.au).length) : mL (z0.aj++z1.aj++(aR h.au).take k) (aR h.au)[k]:=by
 have fk:=d.all;have e:z0.aj++z1.aj++aR h.au=(z0.aj++z1.aj++(aR h.au).take k)++(aR h.au)[k]::(aR h.au).drop (k+1):=by simp
 rw [e] at fk;have hf:=nw fk;have ho:=vH _ (List.getElem_mem hk)
 have hg:=AN (hU fk) (fun b hb=>d.pw b (by
  rcases List.mem_append.1 hb with hb|hb
  ·exact List.mem_append_left _ hb
  ·exact List.mem_append_right _ (List.mem_of_mem_take hb)))
 have hp:=gM;refine ⟨by rw [ho];decide,⟨hf.1,?_⟩,by rw [ho,hp];omega,hf,hg⟩;have:=hf.2.1
 rw [ho,hp] at this;omega
theorem lF.inv {h:Heap} {z0 z1:ao} (d:lF h z0 z1) : ∀ k,k≤(aR h.au).length→nv (bE (z0,z1) ((aR h.au).take k)) (z0.aj++z1.aj++(aR h.au).take k)
 | 0,_=>by simpa [bE] using d.start
 | k+1,hk=>by
   have ih:=(d.inv k (by omega)).back (d.next (show k<_ by omega));rw [ld _ _ _ (by omega),List.take_succ_eq_append_getElem (by omega),← List.append_assoc];exact ih.1
def iI (l:List ay) (i:Nat) : Nat:=(aR (l.take i)).length
theorem vI {l:List ay} {i:Nat} (hi:i<l.length) : iI l (i+1)=iI l i+l[i].av.length:=by
 unfold iI;rw [oH _ _ hi];simp
theorem CK (l:List ay) (i:Nat) : aR l=aR (l.take i)++aR (l.drop i):=by
 unfold aR;rw [← List.flatMap_append,List.take_append_drop]
theorem uG {l:List ay} {i j:Nat} (hi:i<l.length) (hj:j<l[i].av.length) : ∃ h:iI l i+j<(aR l).length,(aR l)[iI l i+j]=bL (l[i].av[j]):=by
 have e:=CK l i;have e2:l.drop i=l[i]::l.drop (i+1):=by simp
 have e3:aR (l.drop i)=l[i].av.map bL++aR (l.drop (i+1)):=by rw [e2];rfl
 have dL:iI l i+j<(aR l).length:=by rw [e,e3];simp [iI];omega
 refine ⟨dL,?_⟩
 have:(aR l)[iI l i+j]?=some (bL (l[i].av[j])):=by
  rw [e,List.getElem?_append_right (by unfold iI;omega)];have:iI l i+j-(aR (l.take i)).length=j:=by unfold iI;omega
  rw [this,e3,List.getElem?_append_left (by simpa using hj)];simp [hj]
 rw [List.getElem?_eq_getElem dL] at this;exact Option.some.inj this
theorem zu (l:List ay) : iI l l.length=(aR l).length:=by simp [iI]
noncomputable def mf (h:Heap) (z0 z1:ao) : Heap:=⟨[(bE (z0,z1) (aR h.au)).1,(bE (z0,z1) (aR h.au)).2],h.dk,h.bw,[],h.Live⟩
end Go.Proofs.YtbidkghlpijecaaGreatDoor
