/-
  Texts of the claim KmemFrees, part 4: what its theorem leans on.
-/
import Derived.Test.YtbidkghlpijecaaGreatDoorPackKmemFrees3
import Derived.Test.YtbidkghlpijecaaGreatDoorPackKmemFrees2
set_option linter.unusedVariables false
set_option linter.unusedSimpArgs false
namespace Go.Proofs.YtbidkghlpijecaaGreatDoor
open Go.RowKit
theorem cV (r:eu) : ∀ v∈bl r,v.oneCell'=true:=fM.one (enc:=bl) r
theorem qM (r:bP) : ∀ v∈bg r,v.oneCell'=true:=fM.one (enc:=bg) r
def vV (ls:List bP) : Prop := ∀ (i j:Nat) (hi:i<ls.length) (hj:j<ls.length),i≠j → ∀ g,aX ls[i].aw.A ls[i].aw.c=some g→aX ls[j].aw.A ls[j].aw.c≠some g
structure rH (m:fe) (zs:List cJ) (ls:List bP) : Prop where
 di:∀ (i:Nat) (hi:i<ls.length) (g:Nat),aX ls[i].aw.A ls[i].aw.c=some g→aX m.A m.c≠some g
 types:∀ (i:Nat) (hi:i<ls.length) (g:Nat),aX ls[i].aw.A ls[i].aw.c=some g → ∀ u∈zs,aX u.Types.A u.Types.c≠some g
 sep:vV ls
theorem rH.nil (m:fe) (zs:List cJ) : rH m zs []:=⟨fun i hi=>by simp at hi,fun i hi=>by simp at hi,fun i j hi=>by simp at hi⟩
theorem rH.snoc {w:World} {lo:Nat} {m:fe} {zs:List cJ} {ls:List bP} {s li:fe} {x:List Int} {zl:List ay} {L:List aJ} {y:bP} (h:rH m zs ls) (hm:Own w lo 3 1 bm m.A m.n m.c x) (hz:fb w lo s zs zl) (hl:c8 w lo li ls L) (hy:∀ g,aX y.aw.A y.aw.c=some g→w.heap.size≤g) : rH m zs (ls++[y]):=by
 have dH:∀ (i:Nat) (hi:i<ls.length) (g:Nat),aX ls[i].aw.A ls[i].aw.c=some g→g<w.heap.size:=fun i hi g e=>(hl.each.get i hi (by rw [← hl.each.len];exact hi)).cw.lt_size g e
 have key:∀ (i:Nat) (hi:i<(ls++[y]).length),(∃ h:i<ls.length,(ls++[y])[i]=ls[i])∨(i=ls.length∧(ls++[y])[i]=y):=fun i hi=>by
  by_cases e:i<ls.length
  ·exact .inl ⟨e,List.getElem_append_left e⟩
  ·have:i=ls.length:=by simp at hi;omega
   subst this;exact .inr ⟨rfl,by simp⟩
 refine ⟨fun i hi g e => ?_,fun i hi g e u hu => ?_,fun i j hi hj jN g e e2 => ?_⟩
 ·rcases key i hi with ⟨h1,h2⟩|⟨h1,h2⟩
  ·rw [h2] at e;exact h.di i h1 g e
  ·rw [h2] at e;intro e3;have:=hm.lt_size g e3;have:=hy g e;omega
 ·rcases key i hi with ⟨h1,h2⟩|⟨h1,h2⟩
  ·rw [h2] at e;exact h.types i h1 g e u hu
  ·rw [h2] at e;intro e3;obtain ⟨j,hj,rfl⟩:=List.getElem_of_mem hu;have:=(hz.each.get j hj (by rw [← hz.each.len];exact hj)).types.lt_size g e3
   have:=hy g e
   omega
 ·rcases key i hi with ⟨h1,h2⟩|⟨h1,h2⟩
  ·rw [h2] at e;rcases key j hj with ⟨h3,h4⟩|⟨h3,h4⟩
   ·rw [h4] at e2;exact h.sep i j h1 h3 jN g e e2
   ·rw [h4] at e2;have:=dH i h1 g e;have:=hy g e2;omega
  ·rw [h2] at e;rcases key j hj with ⟨h3,h4⟩|⟨h3,h4⟩
   ·rw [h4] at e2;have:=dH j h3 g e2;have:=hy g e;omega
   ·omega
def qi (lv:fe) (zs:List cJ) : Prop := ∀ u∈zs,∀ g,aX u.ao.A u.ao.c=some g→aX lv.A lv.c≠some g
theorem qi.nil (lv:fe) : qi lv []:=fun u hu=>by simp at hu
theorem qi.snoc {w:World} {lo:Nat} {lv:fe} {zs:List cJ} {x:List Block} {u:cJ} (h:qi lv zs) (hl:Own w lo 165 3 aE lv.A lv.n lv.c x) (hu:∀ g,aX u.ao.A u.ao.c=some g→w.heap.size≤g) : qi lv (zs++[u]):=fun y hy g e e2=>by
 rcases List.mem_append.1 hy with hy|hy
 ·exact h y hy g e e2
 ·simp at hy;subst hy;have:=hu g e
  have:=hl.lt_size g e2
  omega
structure xT (w:World) (lo:Nat) (r:eu) (h:Heap) : Prop where
 own:gl w lo r h
 all:∃ zs ls,fb w lo r.aI zs h.aI∧c8 w lo r.ak ls h.ak∧rH r.bE zs ls∧qi r.Live zs
set_option maxHeartbeats 4000000 in
theorem oV (r:eu) (h:Heap) (w:World) (hr:sC w r h) (hs:h.small) :
 a9 Tryz.prog 83 [.agg (bl r).toArray] w fun v w' => ∃ s,v = .agg (bl s).toArray∧xT w' w.heap.size s h:=by
 refine aC Tryz.func83 rfl Tryz.ntmps83 rfl ?_;refine CW.seq (CW.region (SW.box rfl rfl fun b1 w1 hw gI au => ?_));refine SW.alloc rfl fun b2 w2 cg ff ax => ?_
 have oT:w.heap.size≤b2:=Nat.le_trans hw.size ff
 have Bc:b2≠b1:=by have:=au.lt;omega
 (replace hw:=Ext.trans hw cg;replace au:=au.ext cg);obtain ⟨zs,hz⟩:=hr.bU;obtain ⟨ls,hl⟩:=hr.lists;have CO:=hr.di.len;have CP:=hr.live.len;have s1:=hs.di;have s2:=hs.live;have s3:=hs.bU;have s4:=hs.lists;obtain ⟨z1,z2⟩:=hz.len;obtain ⟨l1,l2⟩:=hl.len;refine Wz ?_
 obtain ⟨K,hK⟩ : ∃ K:Env→World→Prop,K=fun L' w' => ∃ X c1 Y d1 b3,gj L' [(1,.pointer (some ⟨b1,0,none⟩)),(2,.pointer (some ⟨b2,0,none⟩)),(3,.pointer (some ⟨b3,0,none⟩))]∧Ext w w'∧aU w' b1 41 (bl r)∧aU w' b2 41 (bl .zero) ∧
  aU w' b3 41 (bl ⟨.nil,⟨X,r.bE.n,c1⟩,r.bt,.nil,⟨Y,r.Live.n,d1⟩⟩)∧Own w' w.heap.size 3 1 bm X r.bE.n c1 h.bE∧Own w' w.heap.size 165 3 aE Y r.Live.n d1 h.Live∧w.heap.size≤b3∧b1≠b3∧b2≠b3:=⟨_,rfl⟩
 refine CW.cut K ?_ ?_
 ·refine CW.any 10 mixed (bZ (by kernel_rfl)) rfl fun w1 ab bd => ?_
  replace hw:=Ext.trans hw ab;replace au:=au.ext ab;replace ax:=ax.ext ab;clear ab;refine Wa ?_;refine SA.two 2 9 rfl rfl (by kernel_rfl) rfl rfl ?_ ?_
  ·refine SW.call rfl rfl (dC _ _ _ _ _ (hr.di.ext hw) (by omega)) fun v w4 ai hv => ?_
   obtain ⟨X,c4,rfl,hX⟩:=hv;replace hX:=hX.low hw.size;replace hw:=Ext.trans hw ai;replace au:=au.ext ai;replace ax:=ax.ext ai;try replace ap:=ap.ext ai
   refine SW.nil (ae.sa ai ?_);refine SA.two 7 9 rfl rfl (by kernel_rfl) rfl rfl ?_ ?_
   ·refine SW.call rfl rfl (fW _ _ _ _ _ (hr.live.ext hw) (by omega)) fun v w4 ai hv => ?_
    obtain ⟨Y,d4,rfl,hY⟩:=hv;replace hY:=hY.low hw.size;replace hX:=hX.ext ai;replace hw:=Ext.trans hw ai;replace au:=au.ext ai;replace ax:=ax.ext ai;try replace ap:=ap.ext ai
    refine SW.nil (ae.sa ai ?_);refine Wa ?_;refine SA.one 9 rfl (by kernel_rfl) rfl ?_;refine SW.alloc rfl fun b3 w4 ai bM ap => ?_
    have bO:w.heap.size≤b3:=Nat.le_trans hw.size bM
    have dD:b1≠b3:=by have:=au.lt;omega
    have dw:b2≠b3:=by have:=ax.lt;omega
    replace hw:=Ext.trans hw ai;replace au:=au.ext ai;replace ax:=ax.ext ai;try replace hX:=hX.ext ai
    try replace hY:=hY.ext ai
    refine SW.nil (ae.sa ai ?_);refine SA.done (by kernel_rfl) ?_;skip;refine SW.aj ap rfl rfl rfl rfl (cV ⟨.nil,⟨X,r.bE.n,c4⟩,r.bt,.nil,⟨Y,r.Live.n,d4⟩⟩) fun w5 bV hg => ?_
    have hG:=ap.gr hg;replace hw:=hw.own bO hg;(replace hX:=hX.aD hG rfl;replace hY:=hY.aD hG rfl);replace au:=au.grown hg (by simpa using dD);replace ax:=ax.grown hg (by simpa using dw);refine Wz ?_;exact ae.cut (K:=K) (by rw [hK];exact ⟨X,c4,Y,d4,b3,⟨rfl,rfl,rfl,trivial⟩,hw,au,ax,bV,hX,hY,bO,dD,dw⟩)
   ·refine SW.alloc rfl fun b3 w4 ai bM ap => ?_
    have bO:w.heap.size≤b3:=Nat.le_trans hw.size bM
    have dD:b1≠b3:=by have:=au.lt;omega
    have dw:b2≠b3:=by have:=ax.lt;omega
    replace hw:=Ext.trans hw ai;replace au:=au.ext ai;replace ax:=ax.ext ai;try replace hX:=hX.ext ai
    try replace hY:=hY.ext ai
    refine SW.nil (ae.sa ai ?_);refine SA.one 7 rfl (by kernel_rfl) rfl ?_;refine SW.call rfl rfl (fW _ _ _ _ _ (hr.live.ext hw) (by omega)) fun v w4 ai hv => ?_
    obtain ⟨Y,d4,rfl,hY⟩:=hv;replace hY:=hY.low hw.size;replace hX:=hX.ext ai;replace hw:=Ext.trans hw ai;replace au:=au.ext ai;replace ax:=ax.ext ai;try replace ap:=ap.ext ai
    refine SW.nil (ae.sa ai ?_);refine Wa ?_;refine SA.done (by kernel_rfl) ?_;skip;refine SW.aj ap rfl rfl rfl rfl (cV ⟨.nil,⟨X,r.bE.n,c4⟩,r.bt,.nil,⟨Y,r.Live.n,d4⟩⟩) fun w5 bV hg => ?_
    have hG:=ap.gr hg;replace hw:=hw.own bO hg;(replace hX:=hX.aD hG rfl;replace hY:=hY.aD hG rfl);replace au:=au.grown hg (by simpa using dD);replace ax:=ax.grown hg (by simpa using dw);refine Wz ?_;exact ae.cut (K:=K) (by rw [hK];exact ⟨X,c4,Y,d4,b3,⟨rfl,rfl,rfl,trivial⟩,hw,au,ax,bV,hX,hY,bO,dD,dw⟩)
  ·refine SW.alloc rfl fun b3 w4 ai bM ap => ?_
   have bO:w.heap.size≤b3:=Nat.le_trans hw.size bM
   have dD:b1≠b3:=by have:=au.lt;omega
   have dw:b2≠b3:=by have:=ax.lt;omega
   replace hw:=Ext.trans hw ai;replace au:=au.ext ai;replace ax:=ax.ext ai;try replace hX:=hX.ext ai
   try replace hY:=hY.ext ai
   refine SW.nil (ae.sa ai ?_);refine SA.one 2 rfl (by kernel_rfl) rfl ?_;refine SW.call rfl rfl (dC _ _ _ _ _ (hr.di.ext hw) (by omega)) fun v w4 ai hv => ?_
   obtain ⟨X,c4,rfl,hX⟩:=hv;replace hX:=hX.low hw.size;replace hw:=Ext.trans hw ai;replace au:=au.ext ai;replace ax:=ax.ext ai;try replace ap:=ap.ext ai
   refine SW.nil (ae.sa ai ?_);refine SA.one 7 rfl (by kernel_rfl) rfl ?_;refine SW.call rfl rfl (fW _ _ _ _ _ (hr.live.ext hw) (by omega)) fun v w4 ai hv => ?_
   obtain ⟨Y,d4,rfl,hY⟩:=hv;replace hY:=hY.low hw.size;replace hX:=hX.ext ai;replace hw:=Ext.trans hw ai;replace au:=au.ext ai;replace ax:=ax.ext ai;try replace ap:=ap.ext ai
   refine SW.nil (ae.sa ai ?_);refine Wa ?_;refine SA.done (by kernel_rfl) ?_;skip;refine SW.aj ap rfl rfl rfl rfl (cV ⟨.nil,⟨X,r.bE.n,c4⟩,r.bt,.nil,⟨Y,r.Live.n,d4⟩⟩) fun w5 bV hg => ?_
   have hG:=ap.gr hg;replace hw:=hw.own bO hg;(replace hX:=hX.aD hG rfl;replace hY:=hY.aD hG rfl);replace au:=au.grown hg (by simpa using dD);replace ax:=ax.grown hg (by simpa using dw);refine Wz ?_;exact ae.cut (K:=K) (by rw [hK];exact ⟨X,c4,Y,d4,b3,⟨rfl,rfl,rfl,trivial⟩,hw,au,ax,bV,hX,hY,bO,dD,dw⟩)
 ·clear au ax hw;subst hK;rintro L' w' ⟨X,c4,Y,d4,b3,lC,hw,au,ax,ap,hX,hY,bO,dD,dw⟩
  refine ae.sub lC ?_;refine Wz ?_
  refine CW.loop (fun s:Nat×Option Addr×Nat×List cJ=>[(1,.pointer (some ⟨b1,0,none⟩)),(2,.pointer (some ⟨b2,0,none⟩)),(3,.pointer (some ⟨b3,0,none⟩)),(18,.slice r.aI.A r.aI.n r.aI.c),(19,.int .i64 (r.aI.n:Int)),(20,.int .i64 (s.1:Int))])
   (fun s w'=>s.1≤r.aI.n∧Ext w w'∧aU w' b1 41 (bl r)∧aU w' b2 41 (bl .zero)∧aU w' b3 41 (bl ⟨⟨s.2.1,s.1,s.2.2.1⟩,⟨X,r.bE.n,c4⟩,r.bt,.nil,⟨Y,r.Live.n,d4⟩⟩)∧Own w' w.heap.size 3 1 bm X r.bE.n c4 h.bE∧Own w' w.heap.size 165 3 aE Y r.Live.n d4 h.Live ∧
     fb w' w.heap.size ⟨s.2.1,s.1,s.2.2.1⟩ s.2.2.2 (h.aI.take s.1)∧qi ⟨Y,r.Live.n,d4⟩ s.2.2.2) (fun s=>r.aI.n-s.1) (0,none,0,[]) ⟨rfl,rfl,rfl,rfl,rfl,rfl,trivial⟩ ⟨by omega,hw,au,ax,ap,hX,hY,fb.nil _ _,qi.nil _⟩ ?_
  clear au ax ap hX hY hw lC;rintro ⟨k,A,c,zr⟩ w' ⟨hk,hw,au,ax,ap,hX,hY,hO,Cm⟩
  simp only at hk ap hO Cm ⊢;have hA:=hz.row.base;by_cases cc:k<r.aI.n
  ·have ug:=hz.each.get k (by omega) (by omega);have cy:h.aI[k]'(by omega)∈h.aI:=List.getElem_mem _
   have q:=hs.free _ cy;have q1:=ug.free.len;have q2:=ug.types.len;repeat' (first|refine Wz ?_|refine SW.st (aA hw rfl rfl ((hz.row.all cc))) rfl ?_)
   refine SW.alloc rfl fun b5 w1 ab gm bY => ?_
   skip;refine SW.aj bY rfl rfl rfl rfl (dh _) fun w2 fg hg => ?_
   have ai:=ab.own gm hg;have mh:w.heap.size≤b5:=Nat.le_trans hw.size gm
   replace hw:=Ext.trans hw ai;replace au:=au.ext ai;replace ax:=ax.ext ai;replace ap:=ap.ext ai;replace hX:=hX.ext ai;replace hY:=hY.ext ai;replace hO:=hO.ext ai;replace bY:=fg;clear fg ab hg ai;refine Wz ?_;refine CW.any 5 mixed (bZ (by kernel_rfl)) rfl fun w1 ab bd => ?_
   replace hw:=Ext.trans hw ab;replace au:=au.ext ab;replace ax:=ax.ext ab;replace ap:=ap.ext ab;replace bY:=bY.ext ab;replace hX:=hX.ext ab;replace hY:=hY.ext ab;replace hO:=hO.ext ab;clear ab;refine Wa ?_;refine SA.one 3 rfl (by kernel_rfl) rfl ?_;refine SW.call rfl rfl (qL _ _ _ (ug.ext hw) (by omega) (by omega)) fun v w4 ai hv => ?_
   obtain ⟨s,rfl,gV,e1,e2⟩:=hv;have ED:=Cm.snoc (u:=s) hY gV.free.aN;replace gV:=gV.low hw.size;(replace hw:=Ext.trans hw ai;replace au:=au.ext ai;replace ax:=ax.ext ai;replace ap:=ap.ext ai;replace bY:=bY.ext ai;replace hX:=hX.ext ai;replace hY:=hY.ext ai;replace hO:=hO.ext ai);refine SW.nil (ae.sa ai ?_);refine SA.one 4 rfl (by kernel_rfl) rfl ?_;refine SW.bW rfl rfl rfl rfl rfl fun b w4 ai hb hB => ?_
   (replace hw:=Ext.trans hw ai;replace au:=au.ext ai;replace ax:=ax.ext ai;replace ap:=ap.ext ai;replace bY:=bY.ext ai;replace hX:=hX.ext ai;replace hY:=hY.ext ai;replace hO:=hO.ext ai;replace gV:=gV.ext ai);refine SW.nil (ae.sa ai ?_);refine SA.done (by kernel_rfl) ?_;refine SW.append hO.row (aU.kf (enc:=cd) hB) hw.size rfl rfl rfl (by simp only;omega) (by simp only;omega) fun A2 c2 w5 e8 hg => ?_
   have hG:=hO.row.gr hg;replace hw:=aK hw hg (Nat.le_refl _) hO.row.aN;(replace au:=au.aD hG rfl;replace ax:=ax.aD hG rfl;replace ap:=ap.aD hG rfl;replace hX:=hX.aD hG rfl;replace hY:=hY.aD hG rfl;replace gV:=gV.aD hG rfl);have hE:=hO.each.mono fun _ _ h=>h.aD hG rfl
   refine Wz ?_;refine SW.bT (i:=0) ap rfl rfl rfl rfl fun w6 de hg => ?_
   have hG:=ap.gr hg;replace hw:=hw.own bO hg;replace au:=au.grown hg (by simpa using dD);replace ax:=ax.grown hg (by simpa using dw);(replace hX:=hX.aD hG rfl;replace hY:=hY.aD hG rfl;replace gV:=gV.aD hG rfl;replace e8:=e8.aD hG rfl);replace hE:=hE.mono fun _ _ h=>h.aD hG rfl
   refine Wz ?_;refine ae.again (k+1,A2,c2,zr++[s]) ⟨rfl,rfl,rfl,rfl,rfl,rfl,trivial⟩ (by simp only;omega) ⟨by simp only;omega,hw,au,ax,de,hX,hY,⟨e8,?_⟩,ED⟩;rw [List.take_succ_eq_append_getElem (by omega)];exact hE.snoc gV
  ·obtain rfl:k=r.aI.n:=by omega
   rw [List.take_of_length_le (by omega)] at hO;refine Wz ?_
   refine CW.loop (fun s:Nat×Option Addr×Nat×List bP=>[(2,.pointer (some ⟨b2,0,none⟩)),(3,.pointer (some ⟨b3,0,none⟩)),(33,.slice r.ak.A r.ak.n r.ak.c),(34,.int .i64 (r.ak.n:Int)),(35,.int .i64 (s.1:Int))])
    (fun s w'=>s.1≤r.ak.n∧Ext w w'∧aU w' b2 41 (bl .zero)∧aU w' b3 41 (bl ⟨⟨A,r.aI.n,c⟩,⟨X,r.bE.n,c4⟩,r.bt,⟨s.2.1,s.1,s.2.2.1⟩,⟨Y,r.Live.n,d4⟩⟩)∧Own w' w.heap.size 3 1 bm X r.bE.n c4 h.bE∧Own w' w.heap.size 165 3 aE Y r.Live.n d4 h.Live ∧
      fb w' w.heap.size ⟨A,r.aI.n,c⟩ zr h.aI∧c8 w' w.heap.size ⟨s.2.1,s.1,s.2.2.1⟩ s.2.2.2 (h.ak.take s.1)∧rH ⟨X,r.bE.n,c4⟩ zr s.2.2.2) (fun s=>r.ak.n-s.1) (0,none,0,[]) ⟨rfl,rfl,rfl,rfl,rfl,trivial⟩ ⟨by omega,hw,ax,ap,hX,hY,hO,c8.nil _ _,rH.nil _ _⟩ ?_
   clear au ax ap hX hY hw hO;rintro ⟨k,B,d,lr⟩ w' ⟨hk,hw,ax,ap,hX,hY,hO,hP,rI⟩
   simp only at hk ap hP rI ⊢;have hA:=hl.row.base;by_cases cc:k<r.ak.n
   ·have oW:=hl.each.get k (by omega) (by omega);have cy:h.ak[k]'(by omega)∈h.ak:=List.getElem_mem _
    have q:=hs.cw _ cy;have q1:=oW.cw.len;repeat' (first|refine Wz ?_|refine SW.st (aA hw rfl rfl ((hl.row.all cc))) rfl ?_)
    have Bd:=hP.row.lt_size;refine SW.alloc rfl fun b7 w1 ab j5 iV => ?_
    skip;refine SW.aj iV rfl rfl rfl rfl (qM _) fun w2 cY hg => ?_
    have ai:=ab.own j5 hg;have qj:w.heap.size≤b7:=Nat.le_trans hw.size j5
    replace hw:=Ext.trans hw ai;replace ax:=ax.ext ai;replace ap:=ap.ext ai;replace hX:=hX.ext ai;replace hY:=hY.ext ai;replace hO:=hO.ext ai;replace hP:=hP.ext ai;replace iV:=cY;clear cY ab hg ai;refine Wz ?_;refine SW.call rfl rfl (dC _ _ _ _ _ (oW.cw.ext hw) (by omega)) fun v w4 ai hv => ?_
    obtain ⟨W,e4,rfl,hW⟩:=hv;replace rI:=rI.snoc (y:=⟨ls[k].dq,ls[k].ay,ls[k].Ty,⟨W,ls[k].aw.n,e4⟩⟩) hX hO hP hW.aN;replace hW:=hW.low hw.size;(replace hw:=Ext.trans hw ai;replace ax:=ax.ext ai;replace ap:=ap.ext ai;replace iV:=iV.ext ai;replace hX:=hX.ext ai;replace hY:=hY.ext ai;replace hO:=hO.ext ai;replace hP:=hP.ext ai);refine Wz ?_;refine SW.bT (i:=3) iV rfl rfl rfl rfl fun w5 cY hg => ?_
    have hG:=iV.gr hg;replace hw:=hw.own qj hg;(replace ax:=ax.aD hG rfl;replace ap:=ap.aD hG rfl;replace hX:=hX.aD hG rfl;replace hY:=hY.aD hG rfl;replace hO:=hO.aD hG rfl;replace hW:=hW.aD hG rfl);replace hP:c8 w5 w.heap.size ⟨B,k,d⟩ lr (h.ak.take k):=⟨hP.row.grown hg (.inr (fun e=>by have:=Bd _ e;omega)),hP.each.mono fun _ _ h=>h.aD hG rfl⟩;refine Wz ?_;refine SW.bW rfl rfl rfl rfl rfl fun b w6 ai hb hB => ?_
    (replace hw:=Ext.trans hw ai;replace ax:=ax.ext ai;replace ap:=ap.ext ai;replace hX:=hX.ext ai;replace hY:=hY.ext ai;replace hO:=hO.ext ai;replace hP:=hP.ext ai;replace hW:=hW.ext ai);refine SW.append hP.row (aU.kf (enc:=bg) (x:=⟨ls[k].dq,ls[k].ay,ls[k].Ty,⟨W,_,e4⟩⟩) hB) hw.size rfl rfl rfl (by simp only;omega) (by simp only;omega) fun A2 c2 w7 xv hg => ?_
    have hG:=hP.row.gr hg;replace hw:=aK hw hg (Nat.le_refl _) hP.row.aN;(replace ax:=ax.aD hG rfl;replace ap:=ap.aD hG rfl;replace hX:=hX.aD hG rfl;replace hY:=hY.aD hG rfl;replace hO:=hO.aD hG rfl;replace hW:=hW.aD hG rfl);have hE:=hP.each.mono fun _ _ h=>h.aD hG rfl
    refine Wz ?_;refine SW.bT (i:=3) ap rfl rfl rfl rfl fun w8 de hg => ?_
    have hG:=ap.gr hg;replace hw:=hw.own bO hg;replace ax:=ax.grown hg (by simpa using dw);(replace hX:=hX.aD hG rfl;replace hY:=hY.aD hG rfl;replace hO:=hO.aD hG rfl;replace xv:=xv.aD hG rfl;replace hW:=hW.aD hG rfl);replace hE:=hE.mono fun _ _ h=>h.aD hG rfl
    refine Wz ?_;refine ae.again (k+1,A2,c2,lr++[⟨ls[k].dq,ls[k].ay,ls[k].Ty,⟨W,_,e4⟩⟩]) ⟨rfl,rfl,rfl,rfl,rfl,trivial⟩ (by simp only;omega) ⟨by simp only;omega,hw,ax,de,hX,hY,hO,⟨xv,?_⟩,rI⟩;rw [List.take_succ_eq_append_getElem (by omega)];exact hE.snoc ⟨oW.cpu,oW.fL,oW.ty,hW⟩
   ·obtain rfl:k=r.ak.n:=by omega
    rw [List.take_of_length_le (by omega)] at hP;refine Wz ?_;refine SW.aj ax rfl rfl rfl rfl (cV _) fun w5 bV hg => ?_
    have hG:=ax.gr hg;replace hw:=hw.own oT hg;(replace hX:=hX.aD hG rfl;replace hY:=hY.aD hG rfl;replace hO:=hO.aD hG rfl;replace hP:=hP.aD hG rfl);refine Wz ?_;exact ae.jY rfl rfl bV rfl ⟨_,rfl,hw,⟨⟨A,r.aI.n,c⟩,⟨X,r.bE.n,c4⟩,r.bt,⟨B,r.ak.n,d⟩,⟨Y,r.Live.n,d4⟩⟩,rfl,⟨hr.dc,hX,hY,⟨zr,hO⟩,⟨lr,hP⟩⟩,zr,lr,hO,hP,rI,Cm⟩
theorem mV (r:eu) (h:Heap) (w:World) (hr:sC w r h) (hs:h.small) :
 a9 Tryz.prog 83 [.agg (bl r).toArray] w fun v w' => ∃ s,v = .agg (bl s).toArray∧gl w' w.heap.size s h :=
 (oV r h w hr hs).mono fun _ _ _ ⟨s,hv,ho⟩=>⟨s,hv,ho.own⟩
open Go.RowKit
set_option maxHeartbeats 4000000 in
theorem rJ (r s:eu) (h:Heap) (w:World) (ha:sC w r h) (hb:sC w s h) (hs:h.small) :
 a9 Tryz.prog 54 [.agg (bl r).toArray,.agg (bl s).toArray] w fun v _=>v = .bool true:=by
 refine aC Tryz.func54 rfl Tryz.ntmps54 rfl ?_;refine CW.seq (CW.region (SW.box rfl rfl fun b2 w1 hw ff ax => ?_));refine SW.box rfl rfl fun b3 w2 cg bM ap => ?_
 (replace hw:=Ext.trans hw cg;replace ax:=ax.ext cg);obtain ⟨zs,hz⟩:=ha.bU;obtain ⟨ls,hl⟩:=ha.lists;obtain ⟨F2,xM⟩:=hb.bU;obtain ⟨zm,um⟩:=hb.lists;obtain ⟨z1,z2⟩:=hz.len;obtain ⟨l1,l2⟩:=hl.len;obtain ⟨z3,z4⟩:=xM.len;obtain ⟨l3,l4⟩:=um.len;have s1:=hs.di;have s2:=hs.live;have s3:=hs.bU;have s4:=hs.lists;have m1:=ha.di.len;have m2:=ha.live.len;have e1:=ha.dc;have e2:=hb.dc
 have cM:∀ w',Ext w w'→a9 Tryz.prog 53 [.slice r.bE.A r.bE.n r.bE.c,.slice s.bE.A s.bE.n s.bE.c] w' fun v _=>v = .bool true:=fun w' hx=>by
  have:=fV _ _ _ _ r.bE.c s.bE.c _ _ w' (ha.di.ext hx) (hb.di.ext hx) (by omega)
  simpa using this
 have cL:∀ w',Ext w w'→a9 Tryz.prog 129 [.slice r.Live.A r.Live.n r.Live.c,.slice s.Live.A s.Live.n s.Live.c] w' fun v _=>v = .bool true:=fun w' hx=>by
  have:=kg _ _ _ _ r.Live.c s.Live.c _ _ w' (ha.live.ext hx) (hb.live.ext hx) (by omega)
  simpa using this
 repeat' (first|refine Wz ?_|(refine CW.cj rfl ?_)|refine SW.want rfl rfl ?_|((first|refine SW.call rfl rfl (cM _ hw) ?_|refine SW.call rfl rfl (cL _ hw) ?_);intro v w1 ab hv;subst hv;replace hw:=Ext.trans hw ab;replace ax:=ax.ext ab;replace ap:=ap.ext ab;clear ab))
 all_goals try omega
 refine CW.loop (fun k:Nat=>[(2,.pointer (some ⟨b2,0,none⟩)),(3,.pointer (some ⟨b3,0,none⟩)),(5,.int .i64 (k:Int))]) (fun k w'=>k≤r.aI.n∧Ext w w'∧aU w' b2 41 (bl r)∧aU w' b3 41 (bl s)) (fun k=>r.aI.n-k) 0
  ⟨rfl,rfl,rfl,trivial⟩ ⟨by omega,hw,ax,ap⟩ ?_
 clear hw ax ap;rintro k w' ⟨hk,hw,ax,ap⟩
 have hA:=hz.row.base;have hB:=xM.row.base;by_cases cc:k<r.aI.n
 ·have xU:k<s.aI.n:=by omega
  have ug:=hz.each.get k (by omega) (by omega);have EE:=xM.each.get k (by omega) (by omega);have q:=hs.free _ (List.getElem_mem (show k<h.aI.length by omega));have q1:=ug.free.len;have q2:=ug.types.len
  have cZ:∀ w',Ext w w'→a9 Tryz.prog 130 [.agg (cd zs[k]).toArray,.agg (cd F2[k]).toArray] w' fun v _=>v = .bool true:=fun w' hx=>by
   have:=rF zs[k] F2[k] _ _ w' (ug.ext hx) (EE.ext hx) (by omega) (by omega)
   simpa using this
  repeat' (first|refine Wz ?_|(first|refine CW.cj rfl ?_|(apply CW.aM mixed;(· kernel_rfl);rotate_left;intro w1 ab;replace hw:=Ext.trans hw ab;replace ax:=ax.ext ab;replace ap:=ap.ext ab;clear ab;rotate_right))|refine SW.st (aA hw rfl rfl ((hz.row.all cc))) rfl ?_|refine SW.st (aA hw rfl rfl ((xM.row.all xU))) rfl ?_|refine SW.bf rfl rfl (fun w1 ab=>(cZ _ (Ext.trans hw ab))) ?_|exact SW.br rfl)
  exact ae.again (k+1) ⟨rfl,rfl,rfl,trivial⟩ (by omega) ⟨by omega,hw,ax,ap⟩
 ·refine Wz ?_;clear cc hk hA hB
  refine CW.loop (fun k:Nat=>[(2,.pointer (some ⟨b2,0,none⟩)),(3,.pointer (some ⟨b3,0,none⟩)),(6,.int .i64 (k:Int))]) (fun k w'=>k≤r.ak.n∧Ext w w'∧aU w' b2 41 (bl r)∧aU w' b3 41 (bl s)) (fun k=>r.ak.n-k) 0
   ⟨rfl,rfl,rfl,trivial⟩ ⟨by omega,hw,ax,ap⟩ ?_
  clear hw ax ap;rintro k w' ⟨hk,hw,ax,ap⟩
  have hA:=hl.row.base;have hB:=um.row.base;by_cases cc:k<r.ak.n
  ·have xU:k<s.ak.n:=by omega
   have oW:=hl.each.get k (by omega) (by omega);have zK:=um.each.get k (by omega) (by omega);have q:=hs.cw _ (List.getElem_mem (show k<h.ak.length by omega));have q1:=oW.cw.len;have g1:=oW.cpu;have g2:=oW.fL;have g3:=oW.ty;have g4:=zK.cpu;have g5:=zK.fL;have g6:=zK.ty
   have cP:∀ w',Ext w w'→a9 Tryz.prog 53 [.slice ls[k].aw.A ls[k].aw.n ls[k].aw.c,.slice zm[k].aw.A zm[k].aw.n zm[k].aw.c] w' fun v _=>v = .bool true:=fun w' hx=>by
    have:=fV _ _ _ _ ls[k].aw.c zm[k].aw.c _ _ w' (oW.cw.ext hx) (zK.cw.ext hx) (by omega)
    simpa using this
   repeat' (first|refine Wz ?_|refine SW.st (aA hw rfl rfl ((hl.row.all cc))) rfl ?_)
   refine SW.alloc rfl fun b7 w1 ab j5 iV => ?_
   skip;refine SW.aj iV rfl rfl rfl rfl (qM _) fun w2 cY hg => ?_
   have ai:=ab.own j5 hg;have qj:w.heap.size≤b7:=Nat.le_trans hw.size j5
   replace hw:=Ext.trans hw ai;replace ax:=ax.ext ai;replace ap:=ap.ext ai;replace iV:=cY;clear cY ab hg ai;repeat' (first|refine Wz ?_|refine SW.st (aA hw rfl rfl ((um.row.all xU))) rfl ?_)
   refine SW.alloc rfl fun b8 w1 ab jj bx => ?_
   skip;refine SW.aj bx rfl rfl rfl rfl (qM _) fun w2 fY hg => ?_
   have ai:=ab.own jj hg;have gK:w.heap.size≤b8:=Nat.le_trans hw.size jj
   replace hw:=Ext.trans hw ai;replace ax:=ax.ext ai;replace ap:=ap.ext ai;replace iV:=iV.ext ai;replace bx:=fY;clear fY ab hg ai;repeat' (first|refine Wz ?_|(refine CW.cj rfl ?_)|(refine SW.call rfl rfl (cP _ hw) ?_;intro v w1 ab hv;subst hv;replace hw:=Ext.trans hw ab;replace ax:=ax.ext ab;replace ap:=ap.ext ab;clear ab))
   all_goals try omega
   exact ae.again (k+1) ⟨rfl,rfl,rfl,trivial⟩ (by omega) ⟨by omega,hw,ax,ap⟩
  ·refine Wz ?_;exact ae.aF rfl rfl ⟨_,rfl,hw,rfl⟩
open Go.RowKit
theorem qk (A:Option Addr) (n c:Nat) (l:List Slab) (w:World) (hl:Sl w 3 bB A n l) (hn:n*24≤140737488355328) : a9 Tryz.prog 85 [.slice A n c] w (mU w 91 3 bB n l):=by
 refine aC Tryz.func85 rfl Tryz.ntmps85 rfl ?_;have hw:=Ext.refl w;refine Wz ?_;refine SW.st (l6 rfl rfl) rfl ?_;repeat' (first|refine Wz ?_|(refine CW.cond rfl (fun h => ?_) (fun h => ?_)))
 ·have vU:n=0:=by
   rcases Nat.eq_zero_or_pos n with h0|h0
   ·exact h0
   ·have:=hl.base h0;simp_all
  subst vU;have:l=[]:=List.eq_nil_of_length_eq_zero hl.len
  subst this;exact ae.aF rfl rfl ⟨_,rfl,hw,none,0,rfl,Own.er _ _ _ _ _ _⟩
 ·refine SW.ry rfl fun b w1 ab hb => ?_
  replace hw:=Ext.trans hw ab;refine Wz ?_;refine SW.oe (Nat.zero_add n) (List.nil_append l) (Own.er w1 w.heap.size _ _ bB (some ⟨b,0,none⟩)) (hl.ext hw) hw.size rfl rfl rfl (by omega) (by omega) fun A2 c2 w2 hO hg => ?_
  replace hw:=aK hw hg (Nat.le_refl _) (by simp [aX]);refine Wz ?_;exact ae.aF rfl rfl ⟨_,rfl,hw,A2,c2,rfl,hO⟩
open Go.RowKit
structure aZ where
 Names:List ByteArray
 bp:Int
 dE:Int
 Order:Int
 ah:List Slab
 aG:List Int
structure ar where
 Words:List Int
 Heap:Heap
 aa:List aZ
def encStr (s:ByteArray) : List Value:=[.string s]
instance:fM encStr 1:=⟨fun _=>rfl,fun r u hu=>by simp [encStr] at hu;subst hu;rfl⟩
structure cr where
 Names:fe
 bp:Int
 dE:Int
 Order:Int
 ah:fe
 aG:fe
def bR (r:cr) : List Value:=[r.Names.v,.int .i64 r.bp,.int .i64 r.dE,.int .i64 r.Order,r.ah.v,r.aG.v]
instance:fM bR 6:=⟨fun _=>rfl,fun r u hu=>by simp [bR,fe.v] at hu;rcases hu with rfl|rfl|rfl|rfl|rfl|rfl<;>rfl⟩
structure dF where
 Words:fe
 Heap:eu
 aa:fe
def aH (r:dF) : List Value:=[r.Words.v,r.Heap.aI.v,r.Heap.bE.v,.int .i64 r.Heap.bt,r.Heap.ak.v,r.Heap.Live.v,r.aa.v]
instance:fM aH 7:=⟨fun _=>rfl,fun r u hu=>by simp [aH,fe.v] at hu;rcases hu with rfl|rfl|rfl|rfl|rfl|rfl|rfl<;>rfl⟩
def dF.zero:dF:=⟨.nil,.zero,.nil⟩
theorem nr (r:cr) : ∀ v∈bR r,v.oneCell'=true:=fM.one (enc:=bR) r
theorem cf (r:dF) : ∀ v∈aH r,v.oneCell'=true:=fM.one (enc:=aH) r
theorem eK {w:World} {b t:Nat} {r:dF} (h:aU w b t (aH r)) : ∀ j v,(bl r.Heap)[j]?=some v→w.cell? ((((⟨b,0,none⟩ : Addr)).add 1).add j)=some v:=fun j v hv=>by
 rw [add_add];refine h.cell (i:=1+j) ?_
 match j,hv with
 | 0,hv=>exact hv
 | 1,hv=>exact hv
 | 2,hv=>exact hv
 | 3,hv=>exact hv
 | 4,hv=>exact hv
 | j+5,hv=>simp [bl] at hv
theorem Own.An {α:Type} {w:World} {lo:Nat} {e:TypeId} {sz:Nat} {enc : α → List Value} {A:Option Addr} {n c:Nat} {l:List α} (h:Own w lo e sz enc A n c l) : n≤c:=by
 rcases h.row with ⟨rfl,rfl⟩|⟨_,_,_,_,_,_,h,_⟩
 ·exact Nat.le_refl _
 ·exact h
structure sD (w:World) (r:cr) (c:aZ) : Prop where
 size:r.bp=c.bp
 iM:r.dE=c.dE
 order:r.Order=c.Order
 names:Sl w 1 encStr r.Names.A r.Names.n c.Names
 aL:Sl w 3 bB r.ah.A r.ah.n c.ah
 bh:Sl w 1 bm r.aG.A r.aG.n c.aG
 cap:r.aG.n≤r.aG.c
structure kj (w:World) (lo:Nat) (r:cr) (c:aZ) : Prop where
 size:r.bp=c.bp
 iM:r.dE=c.dE
 order:r.Order=c.Order
 names:Own w lo 9 1 encStr r.Names.A r.Names.n r.Names.c c.Names
 aL:Own w lo 91 3 bB r.ah.A r.ah.n r.ah.c c.ah
 bh:Own w lo 3 1 bm r.aG.A r.aG.n r.aG.c c.aG
section
variable {w w':World} {lo jW t:Nat} {r:cr} {c:aZ}
theorem sD.ext (h:sD w r c) (hx:Ext w w') : sD w' r c:=⟨h.size,h.iM,h.order,h.names.ext hx,h.aL.ext hx,h.bh.ext hx,h.cap⟩
theorem kj.ext (h:kj w lo r c) (hx:Ext w w') : kj w' lo r c:=⟨h.size,h.iM,h.order,h.names.ext hx,h.aL.ext hx,h.bh.ext hx⟩
theorem kj.low (h:kj w lo r c) (hl:jW≤lo) : kj w jW r c:=⟨h.size,h.iM,h.order,h.names.low hl,h.aL.low hl,h.bh.low hl⟩
theorem kj.rd (h:kj w lo r c) : sD w r c:=⟨h.size,h.iM,h.order,h.names.sl,h.aL.sl,h.bh.sl,h.bh.An⟩
theorem kj.aD (h:kj w lo r c) (hG:oo w w' t) (cQ:(Nat.beq t 9 || (Nat.beq t 91 || Nat.beq t 3))=false) : kj w' lo r c:=by
 simp only [Bool.or_eq_false_iff] at cQ;exact ⟨h.size,h.iM,h.order,h.names.aD hG cQ.1,h.aL.aD hG cQ.2.1,h.bh.aD hG cQ.2.2⟩
end
structure uB (w:World) (s:fe) (cs:List cr) (l:List aZ) : Prop where
 row:Sl w 6 bR s.A s.n cs
 each:dQ (sD w) cs l
 cap:s.n≤s.c
structure dt (w:World) (lo:Nat) (s:fe) (cs:List cr) (l:List aZ) : Prop where
 row:Own w lo 89 6 bR s.A s.n s.c cs
 each:dQ (kj w lo) cs l
section
variable {w w':World} {lo jW t:Nat} {s:fe} {cs:List cr} {l:List aZ}
theorem uB.ext (h:uB w s cs l) (hx:Ext w w') : uB w' s cs l:=⟨h.row.ext hx,h.each.mono fun _ _ h=>h.ext hx,h.cap⟩
theorem dt.ext (h:dt w lo s cs l) (hx:Ext w w') : dt w' lo s cs l:=⟨h.row.ext hx,h.each.mono fun _ _ h=>h.ext hx⟩
theorem dt.low (h:dt w lo s cs l) (hl:jW≤lo) : dt w jW s cs l:=⟨h.row.low hl,h.each.mono fun _ _ h=>h.low hl⟩
theorem dt.rd (h:dt w lo s cs l) : uB w s cs l:=⟨h.row.sl,h.each.mono fun _ _ h=>h.rd,h.row.An⟩
theorem dt.aD (h:dt w lo s cs l) (hG:oo w w' t) (cQ:(Nat.beq t 89 || (Nat.beq t 9 || (Nat.beq t 91 || Nat.beq t 3)))=false) : dt w' lo s cs l:=by
 rw [Bool.or_eq_false_iff] at cQ;exact ⟨h.row.aD hG cQ.1,h.each.mono fun _ _ h=>h.aD hG cQ.2⟩
theorem dt.nil (w:World) (lo:Nat) : dt w lo .nil [] []:=⟨Own.er _ _ _ _ _ _,.nil⟩
theorem uB.len (h:uB w s cs l) : cs.length=s.n∧l.length=s.n:=⟨h.row.len,by rw [← h.each.len,h.row.len]⟩
theorem dt.gd {b:Nat} {vs:List Value} (h:dt w lo s cs l) (hB:aU w b 89 vs) (hg:w.grownBy w' (some b)) (dH:∀ k,aX s.A s.c=some k→k<jW) (hm:jW≤b) : dt w' lo s cs l :=
 ⟨h.row.grown hg (.inr (fun e=>by have:=dH _ e;omega)),h.each.mono fun _ _ h=>h.aD (hB.gr hg) rfl⟩
end
structure lg (w:World) (r:dF) (s:ar) : Prop where
 words:Sl w 1 bm r.Words.A r.Words.n s.Words
 heap:sC w r.Heap s.Heap
 bJ:∃ cs,uB w r.aa cs s.aa
structure mW (w:World) (lo:Nat) (r:dF) (s:ar) : Prop where
 words:Own w lo 3 1 bm r.Words.A r.Words.n r.Words.c s.Words
 heap:gl w lo r.Heap s.Heap
 bJ:∃ cs,dt w lo r.aa cs s.aa
section
variable {w w':World} {lo jW t:Nat} {r:dF} {s:ar}
theorem lg.ext (h:lg w r s) (hx:Ext w w') : lg w' r s:=by
 obtain ⟨cs,hc⟩:=h.bJ;exact ⟨h.words.ext hx,h.heap.ext hx,⟨cs,hc.ext hx⟩⟩
theorem mW.ext (h:mW w lo r s) (hx:Ext w w') : mW w' lo r s:=by
 obtain ⟨cs,hc⟩:=h.bJ;exact ⟨h.words.ext hx,h.heap.ext hx,⟨cs,hc.ext hx⟩⟩
theorem mW.low (h:mW w lo r s) (hl:jW≤lo) : mW w jW r s:=by
 obtain ⟨cs,hc⟩:=h.bJ;exact ⟨h.words.low hl,h.heap.low hl,⟨cs,hc.low hl⟩⟩
theorem mW.rd (h:mW w lo r s) : lg w r s:=by
 obtain ⟨cs,hc⟩:=h.bJ;exact ⟨h.words.sl,h.heap.rd,⟨cs,hc.rd⟩⟩
end
structure aZ.small (c:aZ) : Prop where
 names:c.Names.length*16≤140737488355328
 aL:c.ah.length*24≤140737488355328
 bh:c.aG.length*8≤140737488355328
structure ar.small (s:ar) : Prop where
 words:s.Words.length*8≤140737488355328
 heap:s.Heap.small
 bJ:s.aa.length*96≤140737488355328
 each:∀ c∈s.aa,c.small
open Go.RowKit
theorem sQ (f t:Int) (w:World) (hf : -9223372036854775808≤f∧f≤9223372036854775807) (ht : -9223372036854775808≤t∧t≤9223372036854775807) : a9 Tryz.prog 148 [.int .i64 f,.int .i64 t] w (om w.heap.size (mf f t)):=by
 refine aC Tryz.func148 rfl Tryz.ntmps148 rfl ?_;refine CW.seq (CW.region (SW.alloc rfl fun b4 w1 hw iL bA => ?_));have nV:=iL;by_cases mg:fX f t
 ·obtain ⟨h1,h2,h3,h4,h5⟩:=id mg;have m1:=ki h1;have m2:=ki (show 0≤t by omega);rw [jM mg];obtain ⟨k,hk⟩ : ∃ k:Nat,(t-f) / 8=k:=⟨((t-f) / 8).toNat,by omega⟩;repeat' (first|refine Wz ?_|(refine SW.call rfl rfl (ca _ _ _ _) ?_;intro v w1 ab hv;subst hv;replace hw:=Ext.trans hw ab;replace bA:=bA.ext ab;clear ab))
  refine SW.alloc rfl fun b6 w1 ab eJ aB => ?_
  have cX:w.heap.size≤b6:=Nat.le_trans hw.size eJ
  have rG:b4≠b6:=by have:=bA.lt;omega
  replace hw:=Ext.trans hw ab;replace bA:=bA.ext ab;refine SW.aj aB rfl rfl rfl rfl (dh ⟨f,t,.nil,.nil⟩) fun w2 gg hg => ?_
  replace hw:=hw.own cX hg;replace bA:=bA.grown hg (by simpa using rG);replace aB:=gg;clear gg ab hg eJ;refine Wz ?_
  refine CW.loop (fun s:Nat×Option Addr×Nat=>[(1,.int .i64 t),(4,.pointer (some ⟨b4,0,none⟩)),(6,.pointer (some ⟨b6,0,none⟩)),(7,.int .i64 (f+8*(s.1:Int)))])
   (fun s w'=>s.1≤k∧Ext w w'∧aU w' b4 139 (cd .zero)∧aU w' b6 139 (cd ⟨f,t,.nil,⟨s.2.1,s.1,s.2.2⟩⟩)∧Own w' w.heap.size 3 1 bm s.2.1 s.1 s.2.2 (List.replicate s.1 1)) (fun s=>k-s.1) (0,none,0)
   ⟨rfl,rfl,rfl,by simp;rfl,trivial⟩ ⟨by omega,hw,bA,aB,Own.er _ _ _ _ _ _⟩ ?_
  clear hw bA aB;rintro ⟨i,A,c⟩ w' ⟨hi,hw,bA,aB,hO⟩
  simp only at hi aB hO ⊢;by_cases vx:i<k
  ·refine Wz ?_;refine SW.bW rfl rfl rfl rfl rfl fun b w1 ab hb hB => ?_
   (replace hw:=Ext.trans hw ab;replace bA:=bA.ext ab;replace aB:=aB.ext ab;replace hO:=hO.ext ab);refine SW.append hO (aU.kf (enc:=bm) (x:=1) hB) hw.size rfl rfl rfl (by omega) (by omega) fun A2 c2 w2 e8 hg => ?_
   replace hw:=aK hw hg (Nat.le_refl _) hO.aN;replace bA:=bA.grown hg (fun e=>hO.cq bA rfl e.symm);replace aB:=aB.grown hg (fun e=>hO.cq aB rfl e.symm);refine Wz ?_;refine SW.bT (i:=3) aB rfl rfl rfl rfl fun w5 gg hg => ?_
   replace hw:=hw.own cX hg;replace e8:=e8.grown hg (.inr (e8.cq aB rfl));replace bA:=bA.grown hg (by simpa using rG);refine Wz ?_;refine ae.again (i+1,A2,c2) ⟨rfl,rfl,rfl,by simp only [get];simp;omega,trivial⟩ (by simp only;omega) ⟨by simp only;omega,hw,bA,gg,?_⟩;simp only [List.replicate_succ'];exact e8
  ·obtain rfl:i=k:=by omega
   refine Wz ?_;refine SW.aj bA rfl rfl rfl rfl (dh ⟨f,t,.nil,⟨A,i,c⟩⟩) fun w5 bV hg => ?_
   replace hw:=hw.own nV hg;replace hO:=hO.grown hg (.inr (hO.cq bA rfl));refine Wz ?_;refine ae.bQ rfl rfl rfl bV rfl ⟨_,rfl,hw,⟨f,t,.nil,⟨A,i,c⟩⟩,rfl,rfl,rfl,Own.er _ _ _ _ _ _,?_⟩;simp only [hk,Int.toNat_natCast];exact hO
 ·rw [jL mg];unfold fX at mg;have m1:=fun h => @ki f h
  have m2:=fun h => @ki t h
  by_cases h1 : 0≤f
  ·have m1:=m1 h1;by_cases h2:f≤t
   ·have m2:=m2 (by omega);repeat' (first|refine Wz ?_|refine SW.oC rfl rfl rfl (fun h => ?_) (fun h => ?_)|(refine SW.call rfl rfl (ca _ _ _ _) ?_;intro v w1 ab hv;subst hv;replace hw:=Ext.trans hw ab;replace bA:=bA.ext ab;clear ab))
    all_goals
     first
      | (exfalso;omega)
      | (refine SW.aj bA rfl rfl rfl rfl (dh .zero) fun w5 bV hg => ?_
         replace hw:=hw.own nV hg;refine Wz ?_;exact ae.bQ rfl rfl rfl bV rfl ⟨_,rfl,hw,.zero,rfl,eV.zero _ _⟩)
   ·repeat' (first|refine Wz ?_|refine SW.oC rfl rfl rfl (fun h => ?_) (fun h => ?_)|(refine SW.call rfl rfl (ca _ _ _ _) ?_;intro v w1 ab hv;subst hv;replace hw:=Ext.trans hw ab;replace bA:=bA.ext ab;clear ab))
    all_goals
     refine SW.aj bA rfl rfl rfl rfl (dh .zero) fun w5 bV hg => ?_
     replace hw:=hw.own nV hg;refine Wz ?_;exact ae.bQ rfl rfl rfl bV rfl ⟨_,rfl,hw,.zero,rfl,eV.zero _ _⟩
  ·repeat' (first|refine Wz ?_|(refine SW.call rfl rfl (ca _ _ _ _) ?_;intro v w1 ab hv;subst hv;replace hw:=Ext.trans hw ab;replace bA:=bA.ext ab;clear ab))
   all_goals
    refine SW.aj bA rfl rfl rfl rfl (dh .zero) fun w5 bV hg => ?_
    replace hw:=hw.own nV hg;refine Wz ?_;exact ae.bQ rfl rfl rfl bV rfl ⟨_,rfl,hw,.zero,rfl,eV.zero _ _⟩
open Go.RowKit
section
variable {P:Program} {L:Env} {w:World} {d:Option Nat} {T:TypeId} {pos:String} {af:Array Edge} {g:Option (Nat×Bool)}
theorem Be {t ty:TypeId} {x y:Operand} {i j:Int} (a b:Nat) (hx:bG L x=some (.int .i64 i)) (hy:bG L y=some (.int .i64 j)) (ha:i=(a:Int)) (hb:j=(b:Int)) (IT:a<9223372036854775808) (IU:b<9223372036854775808) :
 St P ⟨d,.binOp .xor t x y ty,T,pos,af,g⟩ L w (.int .i64 ((a ^^^ b:Nat) : Int)) :=
 ⟨fun n A hA w' _=>by
  have e1:=hA.eval hx;have e2:=hA.eval hy;subst ha hb;generalize A.eval = ρ at *
  have dH:a ^^^ b<2 ^ 63:=Nat.xor_lt_two_pow (by omega) (by omega)
  have e:(BitVec.ofInt 64 (a:Int) ^^^ BitVec.ofInt 64 (b:Int)).toNat=a ^^^ b:=by
   rw [BitVec.toNat_xor,BitVec.ofInt_natCast,BitVec.ofInt_natCast,BitVec.toNat_ofNat,BitVec.toNat_ofNat,Nat.mod_eq_of_lt (by omega),Nat.mod_eq_of_lt (by omega)]
  have au:(Op.intBits .xor .i64 (a:Int) (b:Int)).run P w' = .ok (.int .i64 ((a ^^^ b:Nat) : Int)) w':=by
   have:Op.intBits .xor .i64 (a:Int) (b:Int)=(pure (.int .i64 (IntKind.i64.wrap ((BitVec.ofInt 64 (a:Int) ^^^ BitVec.ofInt 64 (b:Int)).toNat:Nat))) : Sem Value):=rfl
   rw [this,e,gw (by omega) (by omega)]
   rfl
  have ax:(binOp .xor t (.int .i64 (a:Int)) (.int .i64 (b:Int))).run P w' = .ok (.int .i64 ((a ^^^ b:Nat) : Int)) w':=by
   have:binOp .xor t (.int .i64 (a:Int)) (.int .i64 (b:Int))=Op.intBits .xor .i64 (a:Int) (b:Int):=by simp [binOp]
   rw [this,au]
  simp [execOp,e1,e2,eqGuard,ax]⟩
theorem ir {t ty:TypeId} {x y:Operand} {i j:Int} (a o:Int) (hx:bG L x=some (.int .i64 i)) (hy:bG L y=some (.int .i64 j)) (hi:i=a) (hj:j=pw o) (h : 0≤a∧a<256∧0≤o∧o<4∧a % pw o=0) :
 St P ⟨d,.binOp .xor t x y ty,T,pos,af,g⟩ L w (.int .i64 (beside a o)):=by
 obtain ⟨h1,h2,h3,h4,h5⟩:=h;subst hi hj;obtain ⟨k,rfl⟩:=Int.eq_ofNat_of_zero_le h1;have hp:=cu h3 (by omega);have e:pw o=((2 ^ o.toNat:Nat) : Int):=by unfold pw;simp
 have dH:(2 ^ o.toNat:Nat)<9223372036854775808:=by omega
 have:=Be (P:=P) (t:=t) (ty:=ty) (w:=w) (d:=d) (T:=T) (pos:=pos) (af:=af) (g:=g) k (2 ^ o.toNat) hx hy rfl e (by omega) dH
 rw [uz (by omega) h3 h4 h5] at this;exact this
end
theorem dA (z:Int) (h : 0≤z∧z≤5) (w:World) : a9 Tryz.prog 69 [.int .i64 z] w fun v _=>v = .int .i64 (pw z):=by
 refine aC Tryz.func69 rfl Tryz.ntmps69 rfl ?_;have hw:=Ext.refl w;obtain ⟨m,rfl⟩:=Int.eq_ofNat_of_zero_le h.1;refine Wz ?_;refine CW.loop (fun k:Nat=>[(0,.int .i64 ((m-k:Nat) : Int)),(3,.int .i64 (pw k))]) (fun k w'=>k≤m∧Ext w w') (fun k=>m-k) 0 ⟨by simp;rfl,rfl,trivial⟩ ⟨by omega,hw⟩ ?_;clear hw;rintro k w' ⟨hk,hw⟩
 by_cases IV:k<m
 ·have hp:=cu (o:=(k:Int)) (by omega) (by omega);have hs:=jK (o:=(k:Int)) (by omega) (by omega);refine Wz ?_;have e1:((m-k:Nat) : Int)-1=((m-(k+1) : Nat) : Int):=by omega
  have e2 : 2*pw (k:Int)=pw ((k+1:Nat) : Int):=by rw [← hs];rfl
  exact ae.again (k+1) ⟨congrArg (fun z=>some (Value.int .i64 z)) e1,congrArg (fun z=>some (Value.int .i64 z)) e2,trivial⟩ (by omega) ⟨by omega,hw⟩
 ·obtain rfl:k=m:=by omega
  refine Wz ?_;exact ae.aF rfl rfl ⟨_,rfl,hw,rfl⟩
theorem kQ (r:cJ) (b:Block) (w:World) (h0 : 0≤r.aR) : a9 Tryz.prog 229 [.agg (cd r).toArray,.agg (aE b).toArray] w fun v _=>v = .bool (decide (dJ r.aR r.To b.At b.Order)):=by
 refine aC Tryz.func229 rfl Tryz.ntmps229 rfl ?_;refine CW.seq (CW.region (SW.box rfl rfl fun b1 w1 hw au h1 => ?_));refine SW.box rfl rfl fun b2 w2 cg ax h2 => ?_
 (replace hw:=Ext.trans hw cg;replace h1:=h1.ext cg);by_cases hf:dJ r.aR r.To b.At b.Order
 ·obtain ⟨a1,a2,a3,a4,a5⟩:=id hf;have hp:=cu a1 a2;rw [decide_eq_true hf];have e:b.At.tmod (pw b.Order)=0:=by rw [Int.tmod_eq_emod_of_nonneg (by omega)];exact a5
  repeat' (first|refine Wz ?_|((apply CW.aM mixed;(· kernel_rfl);rotate_left;intro w1 ab;replace hw:=Ext.trans hw ab;replace h1:=h1.ext ab;replace h2:=h2.ext ab;clear ab;rotate_right))|(refine SW.st (fB (r:=pw b.Order) rfl rfl (by omega) (by omega) (by simp [pw]) (by omega) (by omega)) rfl ?_)|exact SW.br rfl)
  exact ae.aF rfl rfl ⟨_,rfl,hw,by simp [e]⟩
 ·rw [decide_eq_false hf];by_cases a1 : 0≤b.Order
  ·by_cases a2:b.Order≤4
   ·by_cases a3:r.aR≤b.At
    ·by_cases a4:b.At<r.To
     ·have hp:=cu a1 a2
      have e:b.At.tmod (pw b.Order)≠0:=by
       rw [Int.tmod_eq_emod_of_nonneg (by omega)];exact fun a5=>hf ⟨a1,a2,a3,a4,a5⟩
      repeat' (first|refine Wz ?_|((apply CW.aM mixed;(· kernel_rfl);rotate_left;intro w1 ab;replace hw:=Ext.trans hw ab;replace h1:=h1.ext ab;replace h2:=h2.ext ab;clear ab;rotate_right))|(refine SW.st (fB (r:=pw b.Order) rfl rfl (by omega) (by omega) (by simp [pw]) (by omega) (by omega)) rfl ?_)|exact SW.br rfl)
      exact ae.aF rfl rfl ⟨_,rfl,hw,by simp [e]⟩
     ·repeat' (first|refine Wz ?_|((apply CW.aM mixed;(· kernel_rfl);rotate_left;intro w1 ab;replace hw:=Ext.trans hw ab;replace h1:=h1.ext ab;replace h2:=h2.ext ab;clear ab;rotate_right))|exact SW.br rfl)
      exact ae.aF rfl rfl ⟨_,rfl,hw,by simp [*]⟩
    ·repeat' (first|refine Wz ?_|((apply CW.aM mixed;(· kernel_rfl);rotate_left;intro w1 ab;replace hw:=Ext.trans hw ab;replace h1:=h1.ext ab;replace h2:=h2.ext ab;clear ab;rotate_right))|exact SW.br rfl)
     exact ae.aF rfl rfl ⟨_,rfl,hw,by simp [*]⟩
   ·repeat' (first|refine Wz ?_|((apply CW.aM mixed;(· kernel_rfl);rotate_left;intro w1 ab;replace hw:=Ext.trans hw ab;replace h1:=h1.ext ab;replace h2:=h2.ext ab;clear ab;rotate_right))|exact SW.br rfl)
    exact ae.aF rfl rfl ⟨_,rfl,hw,by simp [*]⟩
  ·repeat' (first|refine Wz ?_|((apply CW.aM mixed;(· kernel_rfl);rotate_left;intro w1 ab;replace hw:=Ext.trans hw ab;replace h1:=h1.ext ab;replace h2:=h2.ext ab;clear ab;rotate_right))|exact SW.br rfl)
   exact ae.aF rfl rfl ⟨_,rfl,hw,by simp [*]⟩
theorem oX (b:Block) (w:World) (h : 0≤b.Order∧b.Order≤4) (ha : 0≤b.At∧b.At≤256) : a9 Tryz.prog 230 [.agg (aE b).toArray] w fun v _=>v = .int .i64 (b.At+pw b.Order):=by
 refine aC Tryz.func230 rfl Tryz.ntmps230 rfl ?_;refine CW.seq (CW.region (SW.box rfl rfl fun b1 w1 hw au h1 => ?_));have hp:=cu h.1 h.2;repeat' (first|refine Wz ?_|((apply CW.aM mixed;(· kernel_rfl);rotate_left;intro w1 ab;replace hw:=Ext.trans hw ab;replace h1:=h1.ext ab;clear ab;rotate_right))|(refine SW.st (fB (r:=pw b.Order) rfl rfl (by omega) (by omega) (by simp [pw]) (by omega) (by omega)) rfl ?_)|exact SW.br rfl)
 exact ae.aF rfl rfl ⟨_,rfl,hw,rfl⟩
theorem mi (r:cJ) (a o:Int) (w:World) (h0 : 0≤r.aR∧r.aR≤256) (h1 : 0≤r.To∧r.To≤256) : a9 Tryz.prog 211 [.agg (cd r).toArray,.int .i64 a,.int .i64 o] w fun v _=>v = .bool (decide (dJ r.aR r.To a o)):=by
 refine aC Tryz.func211 rfl Tryz.ntmps211 rfl ?_;refine CW.seq (CW.region (SW.box rfl rfl fun b1 w1 hw au hB => ?_));by_cases a1 : 0≤o∧o≤4
 ·by_cases a2:r.aR≤a∧a<r.To
  ·have hp:=cu a1.1 a1.2;have e:a.tmod (pw o)=a % pw o:=Int.tmod_eq_emod_of_nonneg (by omega)
   repeat' (first|refine Wz ?_|((first|refine SW.call rfl rfl (ca _ _ _ _) ?_|refine SW.call rfl rfl (dA _ (by omega) _) ?_);intro v w1 ab hv;subst hv;replace hw:=Ext.trans hw ab;replace hB:=hB.ext ab;clear ab))
   all_goals try omega
   refine ae.aF rfl rfl ⟨_,rfl,hw,?_⟩;rw [e];simp [dJ,a1.1,a1.2,a2.1,a2.2]
  ·repeat' (first|refine Wz ?_|(refine SW.call rfl rfl (ca _ _ _ _) ?_;intro v w1 ab hv;subst hv;replace hw:=Ext.trans hw ab;replace hB:=hB.ext ab;clear ab))
   all_goals try omega
   refine ae.aF rfl rfl ⟨_,rfl,hw,?_⟩;rw [decide_eq_false (fun h=>a2 ⟨h.2.2.1,h.2.2.2.1⟩)];try (simp;omega)
 ·repeat' (first|refine Wz ?_|(refine SW.call rfl rfl (ca _ _ _ _) ?_;intro v w1 ab hv;subst hv;replace hw:=Ext.trans hw ab;replace hB:=hB.ext ab;clear ab))
  all_goals try omega
  refine ae.aF rfl rfl ⟨_,rfl,hw,?_⟩;rw [decide_eq_false (fun h=>a1 ⟨h.1,h.2.1⟩)];try (simp;omega)
theorem fG {α:Type} {p : α → Bool} {l:List α} {k:Nat} (h:k<l.length) (hp:p l[k]=true) (hf:∀ j (hj:j<l.length),j<k→p l[j]=false) : idxOf p l=(k:Int):=by
 have e:l.findIdx p=k:=(List.findIdx_eq h).2 ⟨hp,fun j hj=>hf j (by omega) hj⟩
 have e2:l.any p=true:=List.any_eq_true.2 ⟨l[k],List.getElem_mem h,hp⟩
 simp [idxOf,e,e2]
theorem fC {α:Type} {p : α → Bool} {l:List α} (hf:∀ j (hj:j<l.length),p l[j]=false) : idxOf p l = -1∧l.any p=false:=by
 have e:l.any p=false:=by
  rw [List.any_eq_false];intro x hx;obtain ⟨j,hj,rfl⟩:=List.getElem_of_mem hx;simp [hf j hj]
 exact ⟨by simp [idxOf,e],e⟩
theorem fr {α:Type} (p : α → Bool) (l:List α) : decide (0≤idxOf p l)=l.any p:=by
 unfold idxOf;by_cases h:l.any p=true
 ·simp [h]
 ·simp [h]
theorem mX (A:Option Addr) (n c:Nat) (l:List Int) (w:World) (hl:Sl w 1 bm A n l) (f:FuncId) (cap:List Value) [Body Tryz.prog f] (p:Int→Bool) (arg:Int→Value) (jO:∀ x,arg x=(if 1=1 then (bm x)[0]?.getD undef else .agg (bm x).toArray))
 (hf:∀ x∈l,∀ w',Ext w w'→a9 Tryz.prog f ([arg x]++cap) w' fun v _=>v = .bool (p x)) (hn:n≤9223372036854775807) :
 a9 Tryz.prog 187 [.slice A n c,.func (.func f) #[] cap.toArray] w fun v _=>v = .int .i64 (idxOf p l):=by
 refine aC Tryz.func187 rfl Tryz.ntmps187 rfl ?_;have hw:=Ext.refl w;have hA:=hl.base;refine Wz ?_;refine CW.loop (fun k:Nat=>[(0,.slice A n c),(1,.func (.func f) #[] cap.toArray),(7,.int .i64 (n:Int)),(8,.int .i64 (k:Int))]) (fun k w'=>k≤n∧Ext w w' ∧ ∀ j (hj:j<l.length),j<k→p l[j]=false) (fun k=>n-k) 0 ⟨rfl,rfl,rfl,rfl,trivial⟩ ⟨by omega,hw,fun j _ h=>by omega⟩ ?_;clear hw;rintro k w' ⟨sR,hw,hI⟩
 by_cases hk:k<n
 ·have hx:=jO (l[k]'(hl.lt hk));have mj:=hf (l[k]'(hl.lt hk)) (List.getElem_mem _);rw [hx] at mj;repeat' (first|refine Wz ?_|refine SW.st (ag hw rfl (hl.one hk rfl)) rfl ?_)
  refine SW.l9 rfl rfl rfl (mj _ hw) fun v w1 ab hv => ?_
  subst hv;replace hw:=Ext.trans hw ab;cases hp:p (l[k]'(hl.lt hk))
  ·refine Wz ?_;refine ae.again (k+1) ⟨rfl,rfl,rfl,rfl,trivial⟩ (by omega) ⟨by omega,hw,fun j hj h => ?_⟩;by_cases iB:j=k
   ·subst iB;exact hp
   ·exact hI j hj (by omega)
  ·refine Wz ?_;exact ae.aF rfl rfl ⟨_,rfl,hw,by rw [fG (hl.lt hk) hp hI]⟩
 ·refine Wz ?_;exact ae.aF rfl rfl ⟨_,rfl,hw,by rw [(fC (fun j hj=>hI j hj (by have:=hl.len;omega))).1]⟩
theorem dO (A:Option Addr) (n c:Nat) (l:List Int) (w:World) (hl:Sl w 1 bm A n l) (f:FuncId) (cap:List Value) [Body Tryz.prog f] (p:Int→Bool) (arg:Int→Value) (jO:∀ x,arg x=(if 1=1 then (bm x)[0]?.getD undef else .agg (bm x).toArray))
 (hf:∀ x∈l,∀ w',Ext w w'→a9 Tryz.prog f ([arg x]++cap) w' fun v _=>v = .bool (p x)) (hn:n≤9223372036854775807) :
 a9 Tryz.prog 96 [.slice A n c,.func (.func f) #[] cap.toArray] w fun v _=>v = .bool (l.any p):=by
 refine aC Tryz.func96 rfl Tryz.ntmps96 rfl ?_;have hw:=Ext.refl w;repeat' (first|refine Wz ?_|(refine SW.call rfl rfl (mX _ _ _ _ _ (hl.ext hw) f cap p arg jO (fun x hx w1 h1=>hf x hx w1 (Ext.trans hw h1)) hn) ?_;intro v w1 ab hv;subst hv;replace hw:=Ext.trans hw ab;clear ab))
 exact ae.aF rfl rfl ⟨_,rfl,hw,by rw [fr]⟩
theorem lD (A:Option Addr) (n c:Nat) (l:List Block) (w:World) (hl:Sl w 3 aE A n l) (f:FuncId) (cap:List Value) [Body Tryz.prog f] (p:Block→Bool) (arg:Block→Value) (jO:∀ x,arg x=(if 3=1 then (aE x)[0]?.getD undef else .agg (aE x).toArray))
 (hf:∀ x∈l,∀ w',Ext w w'→a9 Tryz.prog f ([arg x]++cap) w' fun v _=>v = .bool (p x)) (hn:n≤9223372036854775807) :
 a9 Tryz.prog 254 [.slice A n c,.func (.func f) #[] cap.toArray] w fun v _=>v = .int .i64 (idxOf p l):=by
 refine aC Tryz.func254 rfl Tryz.ntmps254 rfl ?_;have hw:=Ext.refl w;have hA:=hl.base;refine Wz ?_;refine CW.loop (fun k:Nat=>[(0,.slice A n c),(1,.func (.func f) #[] cap.toArray),(7,.int .i64 (n:Int)),(8,.int .i64 (k:Int))]) (fun k w'=>k≤n∧Ext w w' ∧ ∀ j (hj:j<l.length),j<k→p l[j]=false) (fun k=>n-k) 0 ⟨rfl,rfl,rfl,rfl,trivial⟩ ⟨by omega,hw,fun j _ h=>by omega⟩ ?_;clear hw;rintro k w' ⟨sR,hw,hI⟩
 by_cases hk:k<n
 ·have hx:=jO (l[k]'(hl.lt hk));have mj:=hf (l[k]'(hl.lt hk)) (List.getElem_mem _);rw [hx] at mj;repeat' (first|refine Wz ?_|refine SW.st (aA hw rfl rfl ((hl.all hk))) rfl ?_)
  refine SW.l9 rfl rfl rfl (mj _ hw) fun v w1 ab hv => ?_
  subst hv;replace hw:=Ext.trans hw ab;cases hp:p (l[k]'(hl.lt hk))
  ·refine Wz ?_;refine ae.again (k+1) ⟨rfl,rfl,rfl,rfl,trivial⟩ (by omega) ⟨by omega,hw,fun j hj h => ?_⟩;by_cases iB:j=k
   ·subst iB;exact hp
   ·exact hI j hj (by omega)
  ·refine Wz ?_;exact ae.aF rfl rfl ⟨_,rfl,hw,by rw [fG (hl.lt hk) hp hI]⟩
 ·refine Wz ?_;exact ae.aF rfl rfl ⟨_,rfl,hw,by rw [(fC (fun j hj=>hI j hj (by have:=hl.len;omega))).1]⟩
theorem j6 (A:Option Addr) (n c:Nat) (l:List Block) (w:World) (hl:Sl w 3 aE A n l) (f:FuncId) (cap:List Value) [Body Tryz.prog f] (p:Block→Bool) (arg:Block→Value) (jO:∀ x,arg x=(if 3=1 then (aE x)[0]?.getD undef else .agg (aE x).toArray))
 (hf:∀ x∈l,∀ w',Ext w w'→a9 Tryz.prog f ([arg x]++cap) w' fun v _=>v = .bool (p x)) (hn:n≤9223372036854775807) :
 a9 Tryz.prog 226 [.slice A n c,.func (.func f) #[] cap.toArray] w fun v _=>v = .bool (l.any p):=by
 refine aC Tryz.func226 rfl Tryz.ntmps226 rfl ?_;have hw:=Ext.refl w;repeat' (first|refine Wz ?_|(refine SW.call rfl rfl (lD _ _ _ _ _ (hl.ext hw) f cap p arg jO (fun x hx w1 h1=>hf x hx w1 (Ext.trans hw h1)) hn) ?_;intro v w1 ab hv;subst hv;replace hw:=Ext.trans hw ab;clear ab))
 exact ae.aF rfl rfl ⟨_,rfl,hw,by rw [fr]⟩
open Go.RowKit
instance:sN Tryz.prog 9:=⟨by kernel_rfl⟩
theorem Bf:Tryz.prog.underlying 5=some (.int .u8):=by kernel_rfl
theorem lE (A:Option Addr) (n c:Nat) (l:List UInt8) (w:World) (hl:Sl w 1 rE A n l) (f:FuncId) (cap:List Value) [Body Tryz.prog f] (p:UInt8→Bool) (arg:UInt8→Value) (jO:∀ x,arg x=(if 1=1 then (rE x)[0]?.getD undef else .agg (rE x).toArray))
 (hf:∀ x∈l,∀ w',Ext w w'→a9 Tryz.prog f ([arg x]++cap) w' fun v _=>v = .bool (p x)) (hn:n≤9223372036854775807) :
 a9 Tryz.prog 232 [.slice A n c,.func (.func f) #[] cap.toArray] w fun v _=>v = .int .i64 (idxOf p l):=by
 refine aC Tryz.func232 rfl Tryz.ntmps232 rfl ?_;have hw:=Ext.refl w;have hA:=hl.base;refine Wz ?_;refine CW.loop (fun k:Nat=>[(0,.slice A n c),(1,.func (.func f) #[] cap.toArray),(7,.int .i64 (n:Int)),(8,.int .i64 (k:Int))]) (fun k w'=>k≤n∧Ext w w' ∧ ∀ j (hj:j<l.length),j<k→p l[j]=false) (fun k=>n-k) 0 ⟨rfl,rfl,rfl,rfl,trivial⟩ ⟨by omega,hw,fun j _ h=>by omega⟩ ?_;clear hw;rintro k w' ⟨sR,hw,hI⟩
 by_cases hk:k<n
 ·have hx:=jO (l[k]'(hl.lt hk));have mj:=hf (l[k]'(hl.lt hk)) (List.getElem_mem _);rw [hx] at mj;repeat' (first|refine Wz ?_|refine SW.st (ag hw rfl (hl.one hk rfl)) rfl ?_)
  refine SW.l9 rfl rfl rfl (mj _ hw) fun v w1 ab hv => ?_
  subst hv;replace hw:=Ext.trans hw ab;cases hp:p (l[k]'(hl.lt hk))
  ·refine Wz ?_;refine ae.again (k+1) ⟨rfl,rfl,rfl,rfl,trivial⟩ (by omega) ⟨by omega,hw,fun j hj h => ?_⟩;by_cases iB:j=k
   ·subst iB;exact hp
   ·exact hI j hj (by omega)
  ·refine Wz ?_;exact ae.aF rfl rfl ⟨_,rfl,hw,by rw [fG (hl.lt hk) hp hI]⟩
 ·refine Wz ?_;exact ae.aF rfl rfl ⟨_,rfl,hw,by rw [(fC (fun j hj=>hI j hj (by have:=hl.len;omega))).1]⟩
theorem iW (A:Option Addr) (n c:Nat) (l:List Slab) (w:World) (hl:Sl w 3 bB A n l) (f:FuncId) (cap:List Value) [Body Tryz.prog f] (p:Slab→Bool) (arg:Slab→Value) (jO:∀ x,arg x=(if 3=1 then (bB x)[0]?.getD undef else .agg (bB x).toArray))
 (hf:∀ x∈l,∀ w',Ext w w'→a9 Tryz.prog f ([arg x]++cap) w' fun v _=>v = .bool (p x)) (hn:n≤9223372036854775807) :
 a9 Tryz.prog 190 [.slice A n c,.func (.func f) #[] cap.toArray] w fun v _=>v = .int .i64 (idxOf p l):=by
 refine aC Tryz.func190 rfl Tryz.ntmps190 rfl ?_;have hw:=Ext.refl w;have hA:=hl.base;refine Wz ?_;refine CW.loop (fun k:Nat=>[(0,.slice A n c),(1,.func (.func f) #[] cap.toArray),(7,.int .i64 (n:Int)),(8,.int .i64 (k:Int))]) (fun k w'=>k≤n∧Ext w w' ∧ ∀ j (hj:j<l.length),j<k→p l[j]=false) (fun k=>n-k) 0 ⟨rfl,rfl,rfl,rfl,trivial⟩ ⟨by omega,hw,fun j _ h=>by omega⟩ ?_;clear hw;rintro k w' ⟨sR,hw,hI⟩
 by_cases hk:k<n
 ·have hx:=jO (l[k]'(hl.lt hk));have mj:=hf (l[k]'(hl.lt hk)) (List.getElem_mem _);rw [hx] at mj;repeat' (first|refine Wz ?_|refine SW.st (aA hw rfl rfl ((hl.all hk))) rfl ?_)
  refine SW.l9 rfl rfl rfl (mj _ hw) fun v w1 ab hv => ?_
  subst hv;replace hw:=Ext.trans hw ab;cases hp:p (l[k]'(hl.lt hk))
  ·refine Wz ?_;refine ae.again (k+1) ⟨rfl,rfl,rfl,rfl,trivial⟩ (by omega) ⟨by omega,hw,fun j hj h => ?_⟩;by_cases iB:j=k
   ·subst iB;exact hp
   ·exact hI j hj (by omega)
  ·refine Wz ?_;exact ae.aF rfl rfl ⟨_,rfl,hw,by rw [fG (hl.lt hk) hp hI]⟩
 ·refine Wz ?_;exact ae.aF rfl rfl ⟨_,rfl,hw,by rw [(fC (fun j hj=>hI j hj (by have:=hl.len;omega))).1]⟩
theorem iX (A:Option Addr) (n c:Nat) (l:List cr) (w:World) (hl:Sl w 6 bR A n l) (f:FuncId) (cap:List Value) [Body Tryz.prog f] (p:cr→Bool) (arg:cr→Value) (jO:∀ x,arg x=(if 6=1 then (bR x)[0]?.getD undef else .agg (bR x).toArray))
 (hf:∀ x∈l,∀ w',Ext w w'→a9 Tryz.prog f ([arg x]++cap) w' fun v _=>v = .bool (p x)) (hn:n≤9223372036854775807) :
 a9 Tryz.prog 137 [.slice A n c,.func (.func f) #[] cap.toArray] w fun v _=>v = .int .i64 (idxOf p l):=by
 refine aC Tryz.func137 rfl Tryz.ntmps137 rfl ?_;have hw:=Ext.refl w;have hA:=hl.base;refine Wz ?_;refine CW.loop (fun k:Nat=>[(0,.slice A n c),(1,.func (.func f) #[] cap.toArray),(7,.int .i64 (n:Int)),(8,.int .i64 (k:Int))]) (fun k w'=>k≤n∧Ext w w' ∧ ∀ j (hj:j<l.length),j<k→p l[j]=false) (fun k=>n-k) 0 ⟨rfl,rfl,rfl,rfl,trivial⟩ ⟨by omega,hw,fun j _ h=>by omega⟩ ?_;clear hw;rintro k w' ⟨sR,hw,hI⟩
 by_cases hk:k<n
 ·have hx:=jO (l[k]'(hl.lt hk));have mj:=hf (l[k]'(hl.lt hk)) (List.getElem_mem _);rw [hx] at mj;repeat' (first|refine Wz ?_|refine SW.st (aA hw rfl rfl ((hl.all hk))) rfl ?_)
  refine SW.l9 rfl rfl rfl (mj _ hw) fun v w1 ab hv => ?_
  subst hv;replace hw:=Ext.trans hw ab;cases hp:p (l[k]'(hl.lt hk))
  ·refine Wz ?_;refine ae.again (k+1) ⟨rfl,rfl,rfl,rfl,trivial⟩ (by omega) ⟨by omega,hw,fun j hj h => ?_⟩;by_cases iB:j=k
   ·subst iB;exact hp
   ·exact hI j hj (by omega)
  ·refine Wz ?_;exact ae.aF rfl rfl ⟨_,rfl,hw,by rw [fG (hl.lt hk) hp hI]⟩
 ·refine Wz ?_;exact ae.aF rfl rfl ⟨_,rfl,hw,by rw [(fC (fun j hj=>hI j hj (by have:=hl.len;omega))).1]⟩
theorem j7 (A:Option Addr) (n c:Nat) (l:List UInt8) (w:World) (hl:Sl w 1 rE A n l) (f:FuncId) (cap:List Value) [Body Tryz.prog f] (p:UInt8→Bool) (arg:UInt8→Value) (jO:∀ x,arg x=(if 1=1 then (rE x)[0]?.getD undef else .agg (rE x).toArray))
 (hf:∀ x∈l,∀ w',Ext w w'→a9 Tryz.prog f ([arg x]++cap) w' fun v _=>v = .bool (p x)) (hn:n≤9223372036854775807) :
 a9 Tryz.prog 182 [.slice A n c,.func (.func f) #[] cap.toArray] w fun v _=>v = .bool (l.any p):=by
 refine aC Tryz.func182 rfl Tryz.ntmps182 rfl ?_;have hw:=Ext.refl w;repeat' (first|refine Wz ?_|(refine SW.call rfl rfl (lE _ _ _ _ _ (hl.ext hw) f cap p arg jO (fun x hx w1 h1=>hf x hx w1 (Ext.trans hw h1)) hn) ?_;intro v w1 ab hv;subst hv;replace hw:=Ext.trans hw ab;clear ab))
 exact ae.aF rfl rfl ⟨_,rfl,hw,by rw [fr]⟩
theorem gL (A:Option Addr) (n c:Nat) (l:List cr) (w:World) (hl:Sl w 6 bR A n l) (f:FuncId) (cap:List Value) [Body Tryz.prog f] (p:cr→Bool) (arg:cr→Value) (jO:∀ x,arg x=(if 6=1 then (bR x)[0]?.getD undef else .agg (bR x).toArray))
 (hf:∀ x∈l,∀ w',Ext w w'→a9 Tryz.prog f ([arg x]++cap) w' fun v _=>v = .bool (p x)) (hn:n≤9223372036854775807) :
 a9 Tryz.prog 90 [.slice A n c,.func (.func f) #[] cap.toArray] w fun v _=>v = .bool (l.any p):=by
 refine aC Tryz.func90 rfl Tryz.ntmps90 rfl ?_;have hw:=Ext.refl w;repeat' (first|refine Wz ?_|(refine SW.call rfl rfl (iX _ _ _ _ _ (hl.ext hw) f cap p arg jO (fun x hx w1 h1=>hf x hx w1 (Ext.trans hw h1)) hn) ?_;intro v w1 ab hv;subst hv;replace hw:=Ext.trans hw ab;clear ab))
 exact ae.aF rfl rfl ⟨_,rfl,hw,by rw [fr]⟩
def jt (b:UInt8) : Bool:=(decide ((b.toNat:Int)<97) || decide (122<(b.toNat:Int))) && (decide ((b.toNat:Int)<48) || decide (57<(b.toNat:Int)))
def fh (s:ByteArray) : Bool:=decide (1≤(s.size:Int)∧(s.size:Int)≤8) && !(s.data.toList.any jt)
theorem zL {s:ByteArray} (h : 1≤s.size∧s.size≤8) (k:s.data.toList.any jt=false) : fh s=true:=by
 unfold fh;rw [k,decide_eq_true (by omega)]
 rfl
theorem uC {s:ByteArray} (h : ¬ (1≤s.size∧s.size≤8)) : fh s=false:=by
 unfold fh;rw [decide_eq_false (by omega)]
 rfl
theorem qN {s:ByteArray} (k:s.data.toList.any jt=true) : fh s=false:=by
 unfold fh;rw [k];simp
theorem xV (b:UInt8) (w:World) : a9 Tryz.prog 183 ([.int .u8 b.toNat]++[]) w fun v _=>v = .bool (jt b):=by
 refine aC Tryz.func183 rfl Tryz.ntmps183 rfl ?_;have hw:=Ext.refl w;unfold jt;obtain ⟨z,hz⟩ : ∃ z:Int,(b.toNat:Int)=z:=⟨_,rfl⟩;rw [hz];by_cases a1:z<97
 ·by_cases a2:z<48
  ·refine Wz ?_;exact ae.aF rfl rfl ⟨_,rfl,hw,by simp [a1,a2]<;>omega⟩
  ·refine Wz ?_;exact ae.aF rfl rfl ⟨_,rfl,hw,by simp [a1,a2]<;>omega⟩
 ·by_cases a2 : 122<z
  ·refine Wz ?_;exact ae.aF rfl rfl ⟨_,rfl,hw,by simp [a1,a2]<;>omega⟩
  ·refine Wz ?_;exact ae.aF rfl rfl ⟨_,rfl,hw,by simp [a1,a2]<;>omega⟩
theorem xW (s:ByteArray) (w:World) (hs:s.size≤140737488351232) : a9 Tryz.prog 92 [.string s] w fun v _=>v = .bool (fh s):=by
 refine aC Tryz.func92 rfl Tryz.ntmps92 rfl ?_;have hw:=Ext.refl w;by_cases h0:s=⟨#[]⟩
 ·subst h0;repeat' (first|refine Wz ?_|refine SW.dv rfl rfl rfl (fun h => ?_) (fun h => ?_)|(refine SW.st (fU rfl rfl) rfl ?_))
  all_goals first|(exfalso;simp_all;done)|skip
  exact ae.aF rfl rfl ⟨_,rfl,hw,rfl⟩
 ·by_cases h8:s.size≤8
  ·have h1 : 1≤s.size:=by
    rcases Nat.eq_zero_or_pos s.size with h|h
    ·exact absurd (by cases s;simp [ByteArray.size] at h;subst h;rfl) h0
    ·exact h
   have cQ:decide (s=⟨#[]⟩)=false:=decide_eq_false h0
   repeat' (first|refine Wz ?_|(refine SW.st ((fU rfl rfl).eq (congrArg Value.bool cQ)) rfl ?_)|refine SW.st (mb rfl) rfl ?_)
   refine SW.vT (e:=5) Bf rfl rfl fun b c w1 ab hb hS => ?_
   replace hw:=Ext.trans hw ab;refine SW.call rfl rfl (j7 _ _ _ _ _ hS _ [] jt (fun x => .int .u8 x.toNat) (fun x=>rfl) (fun x _ w1 _=>xV x w1) (by omega)) fun v w2 cg hv => ?_
   subst hv;replace hw:=Ext.trans hw cg;refine Wz ?_;refine ae.aF rfl rfl ⟨_,rfl,hw,?_⟩;cases k:s.data.toList.any jt
   ·rw [zL ⟨h1,h8⟩ k];rfl
   ·rw [qN k];rfl
  ·have cQ:decide (s=⟨#[]⟩)=false:=decide_eq_false h0
   rw [uC (by omega)];repeat' (first|refine Wz ?_|(refine SW.st ((fU rfl rfl).eq (congrArg Value.bool cQ)) rfl ?_)|refine SW.st (mb rfl) rfl ?_)
   exact ae.aF rfl rfl ⟨_,rfl,hw,rfl⟩
theorem sS (s:ByteArray) (w:World) (hs:s.size≤140737488351232) : a9 Tryz.prog 116 [.string s] w fun v _=>v = .bool (fh s):=by
 refine aC Tryz.func116 rfl Tryz.ntmps116 rfl ?_;have hw:=Ext.refl w;refine Wz ?_;have zn:s.data.toList.length=s.size:=Array.length_toList
 refine CW.loop (fun k:Nat=>[(0,.string s),(3,.int .i64 (k:Int))]) (fun k w'=>k≤s.size∧Ext w w' ∧ ∀ (i:Nat) (h:i<s.data.toList.length),i<k→jt s.data.toList[i]=false) (fun k=>s.size-k) 0 ⟨rfl,rfl,trivial⟩ ⟨by omega,hw,fun i h h'=>by omega⟩ ?_;clear hw;rintro k w' ⟨hk,hw,hI⟩
 by_cases kR:k<s.size
 ·have cG:k<s.data.toList.length:=by omega
  have eb:s[k]'kR=s.data.toList[k]:=rfl
  obtain ⟨q,hq⟩ : ∃ q,jt s.data.toList[k]=q:=⟨_,rfl⟩;obtain ⟨z,hz⟩ : ∃ z:Int,((s.data.toList[k]).toNat:Int)=z:=⟨_,rfl⟩;have xM:(((s[k]'kR).toNat:Nat) : Int)=z:=hz
  have D6:=hq;unfold jt at D6;rw [hz] at D6;cases q
  ·have hc:(97≤z∧z≤122)∨(48≤z∧z≤57):=by
    simp at D6;omega
   repeat' (first|refine Wz ?_|(refine CW.cj rfl ?_)|refine SW.dv rfl rfl rfl (fun h => ?_) (fun h => ?_)|refine SW.st (mb rfl) rfl ?_|(refine SW.st ((vw k rfl rfl rfl kR).eq (congrArg (Value.int .u8) xM)) rfl ?_))
   all_goals try omega
   all_goals exact ae.again (k+1) ⟨rfl,rfl,trivial⟩ (by omega) ⟨by omega,hw,fun i h h'=>by
    by_cases e:i=k
    ·subst e;exact hq
    ·exact hI i h (by omega)⟩
  ·have hc : ¬ ((97≤z∧z≤122)∨(48≤z∧z≤57)):=by
    simp at D6;omega
   have hn:fh s=false:=qN (List.any_eq_true.2 ⟨_,List.getElem_mem cG,hq⟩)
   rw [hn];repeat' (first|refine Wz ?_|(refine CW.cU rfl ?_)|refine SW.dv rfl rfl rfl (fun h => ?_) (fun h => ?_)|refine SW.st (mb rfl) rfl ?_|(refine SW.st ((vw k rfl rfl rfl kR).eq (congrArg (Value.int .u8) xM)) rfl ?_))
   all_goals try omega
   all_goals exact ae.aF rfl rfl ⟨_,rfl,hw,rfl⟩
 ·have hn:s.data.toList.any jt=false:=by
   rw [List.any_eq_false];intro x hx;obtain ⟨i,hi,rfl⟩:=List.getElem_of_mem hx;rw [hI i hi (by omega)];simp
  repeat' (first|refine Wz ?_|(refine SW.call rfl rfl (ca _ _ _ _) ?_;intro v w1 ab hv;subst hv;replace hw:=Ext.trans hw ab;clear ab)|refine SW.st (mb rfl) rfl ?_)
  refine ae.aF rfl rfl ⟨_,rfl,hw,?_⟩;unfold fh;rw [hn];simp
end Go.Proofs.YtbidkghlpijecaaGreatDoor
