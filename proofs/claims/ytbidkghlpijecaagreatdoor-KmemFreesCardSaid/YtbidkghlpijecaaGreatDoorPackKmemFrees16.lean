/-
  Texts of the claim KmemFrees, part 16: what its theorem leans on.
-/
import Derived.Test.YtbidkghlpijecaaGreatDoorPackKmemFrees10
import Derived.Test.YtbidkghlpijecaaGreatDoorPackKmemFrees4
import Derived.Test.YtbidkghlpijecaaGreatDoorPackKmemFrees2
import Derived.Test.YtbidkghlpijecaaGreatDoorPackKmemFrees11
import Derived.Test.YtbidkghlpijecaaGreatDoorPackKmemFrees7
import Derived.Test.YtbidkghlpijecaaGreatDoorPackKmemFrees6
import Derived.Test.YtbidkghlpijecaaGreatDoorPackKmemFrees8
set_option linter.unusedVariables false
set_option linter.unusedSimpArgs false
namespace Go.Proofs.YtbidkghlpijecaaGreatDoor
open Go.RowKit
set_option maxHeartbeats 4000000 in
theorem iq (r:eu) (h:Heap) (w:World) (hr:sC w r h) (hs:h.small) :
 a9 Tryz.prog 40 [.agg (bl r).toArray] w fun v w' => ∃ s,v = .agg (bl s).toArray∧gl w' w.heap.size s h:=by
 refine aC Tryz.func40 rfl Tryz.ntmps40 rfl ?_;refine CW.seq (CW.region (SW.box rfl rfl fun b1 w1 hw gI au => ?_));refine SW.alloc rfl fun b2 w2 cg ff ax => ?_
 have oT:w.heap.size≤b2:=Nat.le_trans hw.size ff
 have Bc:b2≠b1:=by have:=au.lt;omega
 (replace hw:=Ext.trans hw cg;replace au:=au.ext cg);obtain ⟨zs,hz⟩:=hr.bU;obtain ⟨ls,hl⟩:=hr.lists;have CO:=hr.di.len;have CP:=hr.live.len;have s1:=hs.di;have s2:=hs.live;have s3:=hs.bU;have s4:=hs.lists;obtain ⟨z1,z2⟩:=hz.len;obtain ⟨l1,l2⟩:=hl.len;refine Wz ?_
 obtain ⟨K,hK⟩ : ∃ K:Env→World→Prop,K=fun L' w' => ∃ X c1 Y d1 b3,gj L' [(1,.pointer (some ⟨b1,0,none⟩)),(2,.pointer (some ⟨b2,0,none⟩)),(3,.pointer (some ⟨b3,0,none⟩))]∧Ext w w'∧aU w' b1 41 (bl r)∧aU w' b2 41 (bl .zero) ∧
  aU w' b3 41 (bl ⟨.nil,⟨X,r.bE.n,c1⟩,r.bt,.nil,⟨Y,r.Live.n,d1⟩⟩)∧Own w' w.heap.size 3 1 bm X r.bE.n c1 h.bE∧Own w' w.heap.size 165 3 aE Y r.Live.n d1 h.Live∧w.heap.size≤b3∧b1≠b3∧b2≠b3:=⟨_,rfl⟩
 refine CW.cut K ?_ ?_
 ·refine CW.any 10 mixed (bZ (by kernel_rfl)) rfl fun w1 ab bd => ?_
  replace hw:=Ext.trans hw ab;replace au:=au.ext ab;replace ax:=ax.ext ab;clear ab;refine Wa ?_;refine SA.two 2 9 rfl rfl (by kernel_rfl) rfl rfl ?_ ?_
  ·refine SW.call rfl rfl (eH _ _ _ _ _ (hr.di.ext hw) (by omega)) fun v w4 ai hv => ?_
   obtain ⟨X,c4,rfl,hX⟩:=hv;replace hX:=hX.low hw.size;replace hw:=Ext.trans hw ai;replace au:=au.ext ai;replace ax:=ax.ext ai;try replace ap:=ap.ext ai
   refine SW.nil (ae.sa ai ?_);refine SA.two 7 9 rfl rfl (by kernel_rfl) rfl rfl ?_ ?_
   ·refine SW.call rfl rfl (jJ _ _ _ _ _ (hr.live.ext hw) (by omega)) fun v w4 ai hv => ?_
    obtain ⟨Y,d4,rfl,hY⟩:=hv;replace hY:=hY.low hw.size;replace hX:=hX.ext ai;replace hw:=Ext.trans hw ai;replace au:=au.ext ai;replace ax:=ax.ext ai;try replace ap:=ap.ext ai
    refine SW.nil (ae.sa ai ?_);refine Wa ?_;refine SA.one 9 rfl (by kernel_rfl) rfl ?_;refine SW.alloc rfl fun b3 w4 ai bM ap => ?_
    have bO:w.heap.size≤b3:=Nat.le_trans hw.size bM
    have dD:b1≠b3:=by have:=au.lt;omega
    have dw:b2≠b3:=by have:=ax.lt;omega
    replace hw:=Ext.trans hw ai;replace au:=au.ext ai;replace ax:=ax.ext ai;try replace hX:=hX.ext ai
    try replace hY:=hY.ext ai
    refine SW.nil (ae.sa ai ?_);refine SA.done (by kernel_rfl) ?_;skip;refine SW.aj ap rfl rfl rfl rfl (cV ⟨.nil,⟨X,r.bE.n,c4⟩,r.bt,.nil,⟨Y,r.Live.n,d4⟩⟩) fun w5 bV hg => ?_
    have hG:=ap.gr hg;replace hw:=hw.own bO hg;(replace hX:=hX.aD hG rfl;replace hY:=hY.aD hG rfl);replace au:=au.grown hg (by simpa using dD);replace ax:=ax.grown hg (by simpa using dw);refine Wz ?_;exact ae.cut (K:=K) (by rw [hK];exact ⟨X,c4,Y,d4,b3,⟨rfl,rfl,rfl,trivial⟩,hw,au,ax,bV,hX,hY,bO,dD,dw⟩)
   ·refine SW.alloc rfl fun b3 w4 ai bM ap => ?_
    have bO:w.heap.size≤b3:=Nat.le_trans hw.size bM
    have dD:b1≠b3:=by have:=au.lt;omega
    have dw:b2≠b3:=by have:=ax.lt;omega
    replace hw:=Ext.trans hw ai;replace au:=au.ext ai;replace ax:=ax.ext ai;try replace hX:=hX.ext ai
    try replace hY:=hY.ext ai
    refine SW.nil (ae.sa ai ?_);refine SA.one 7 rfl (by kernel_rfl) rfl ?_;refine SW.call rfl rfl (jJ _ _ _ _ _ (hr.live.ext hw) (by omega)) fun v w4 ai hv => ?_
    obtain ⟨Y,d4,rfl,hY⟩:=hv;replace hY:=hY.low hw.size;replace hX:=hX.ext ai;replace hw:=Ext.trans hw ai;replace au:=au.ext ai;replace ax:=ax.ext ai;try replace ap:=ap.ext ai
    refine SW.nil (ae.sa ai ?_);refine Wa ?_;refine SA.done (by kernel_rfl) ?_;skip;refine SW.aj ap rfl rfl rfl rfl (cV ⟨.nil,⟨X,r.bE.n,c4⟩,r.bt,.nil,⟨Y,r.Live.n,d4⟩⟩) fun w5 bV hg => ?_
    have hG:=ap.gr hg;replace hw:=hw.own bO hg;(replace hX:=hX.aD hG rfl;replace hY:=hY.aD hG rfl);replace au:=au.grown hg (by simpa using dD);replace ax:=ax.grown hg (by simpa using dw);refine Wz ?_;exact ae.cut (K:=K) (by rw [hK];exact ⟨X,c4,Y,d4,b3,⟨rfl,rfl,rfl,trivial⟩,hw,au,ax,bV,hX,hY,bO,dD,dw⟩)
  ·refine SW.alloc rfl fun b3 w4 ai bM ap => ?_
   have bO:w.heap.size≤b3:=Nat.le_trans hw.size bM
   have dD:b1≠b3:=by have:=au.lt;omega
   have dw:b2≠b3:=by have:=ax.lt;omega
   replace hw:=Ext.trans hw ai;replace au:=au.ext ai;replace ax:=ax.ext ai;try replace hX:=hX.ext ai
   try replace hY:=hY.ext ai
   refine SW.nil (ae.sa ai ?_);refine SA.one 2 rfl (by kernel_rfl) rfl ?_;refine SW.call rfl rfl (eH _ _ _ _ _ (hr.di.ext hw) (by omega)) fun v w4 ai hv => ?_
   obtain ⟨X,c4,rfl,hX⟩:=hv;replace hX:=hX.low hw.size;replace hw:=Ext.trans hw ai;replace au:=au.ext ai;replace ax:=ax.ext ai;try replace ap:=ap.ext ai
   refine SW.nil (ae.sa ai ?_);refine SA.one 7 rfl (by kernel_rfl) rfl ?_;refine SW.call rfl rfl (jJ _ _ _ _ _ (hr.live.ext hw) (by omega)) fun v w4 ai hv => ?_
   obtain ⟨Y,d4,rfl,hY⟩:=hv;replace hY:=hY.low hw.size;replace hX:=hX.ext ai;replace hw:=Ext.trans hw ai;replace au:=au.ext ai;replace ax:=ax.ext ai;try replace ap:=ap.ext ai
   refine SW.nil (ae.sa ai ?_);refine Wa ?_;refine SA.done (by kernel_rfl) ?_;skip;refine SW.aj ap rfl rfl rfl rfl (cV ⟨.nil,⟨X,r.bE.n,c4⟩,r.bt,.nil,⟨Y,r.Live.n,d4⟩⟩) fun w5 bV hg => ?_
   have hG:=ap.gr hg;replace hw:=hw.own bO hg;(replace hX:=hX.aD hG rfl;replace hY:=hY.aD hG rfl);replace au:=au.grown hg (by simpa using dD);replace ax:=ax.grown hg (by simpa using dw);refine Wz ?_;exact ae.cut (K:=K) (by rw [hK];exact ⟨X,c4,Y,d4,b3,⟨rfl,rfl,rfl,trivial⟩,hw,au,ax,bV,hX,hY,bO,dD,dw⟩)
 ·clear au ax hw;subst hK;rintro L' w' ⟨X,c4,Y,d4,b3,lC,hw,au,ax,ap,hX,hY,bO,dD,dw⟩
  refine ae.sub lC ?_;refine Wz ?_
  refine CW.loop (fun s:Nat×Option Addr×Nat×List cJ=>[(1,.pointer (some ⟨b1,0,none⟩)),(2,.pointer (some ⟨b2,0,none⟩)),(3,.pointer (some ⟨b3,0,none⟩)),(4,.int .i64 (s.1:Int))])
   (fun s w'=>s.1≤r.aI.n∧Ext w w'∧aU w' b1 41 (bl r)∧aU w' b2 41 (bl .zero)∧aU w' b3 41 (bl ⟨⟨s.2.1,s.1,s.2.2.1⟩,⟨X,r.bE.n,c4⟩,r.bt,.nil,⟨Y,r.Live.n,d4⟩⟩)∧Own w' w.heap.size 3 1 bm X r.bE.n c4 h.bE∧Own w' w.heap.size 165 3 aE Y r.Live.n d4 h.Live ∧
     fb w' w.heap.size ⟨s.2.1,s.1,s.2.2.1⟩ s.2.2.2 (h.aI.take s.1)) (fun s=>r.aI.n-s.1) (0,none,0,[]) ⟨rfl,rfl,rfl,rfl,trivial⟩ ⟨by omega,hw,au,ax,ap,hX,hY,fb.nil _ _⟩ ?_
  clear au ax ap hX hY hw lC;rintro ⟨k,A,c,zr⟩ w' ⟨hk,hw,au,ax,ap,hX,hY,hO⟩
  simp only at hk ap hO ⊢;have hA:=hz.row.base;by_cases cc:k<r.aI.n
  ·have ug:=hz.each.get k (by omega) (by omega);have cy:h.aI[k]'(by omega)∈h.aI:=List.getElem_mem _
   have q:=hs.free _ cy;have q1:=ug.free.len;have q2:=ug.types.len;repeat' (first|refine Wz ?_|refine SW.st (aA hw rfl rfl ((hz.row.all cc))) rfl ?_)
   refine SW.call rfl rfl (mF _ _ _ (ug.ext hw) (by omega) (by omega)) fun v w4 ai hv => ?_
   obtain ⟨s,rfl,gV⟩:=hv;replace gV:=gV.low hw.size;(replace hw:=Ext.trans hw ai;replace au:=au.ext ai;replace ax:=ax.ext ai;replace ap:=ap.ext ai;replace hX:=hX.ext ai;replace hY:=hY.ext ai;replace hO:=hO.ext ai);refine SW.alloc rfl fun b5 w1 ab gm bY => ?_
   skip;refine SW.aj bY rfl rfl rfl rfl (dh s) fun w2 fg hg => ?_
   have ai:=ab.own gm hg;have mh:w.heap.size≤b5:=Nat.le_trans hw.size gm
   replace hw:=Ext.trans hw ai;replace au:=au.ext ai;replace ax:=ax.ext ai;replace ap:=ap.ext ai;replace hX:=hX.ext ai;replace hY:=hY.ext ai;replace hO:=hO.ext ai;replace gV:=gV.ext ai;replace bY:=fg;clear fg ab hg ai;refine Wz ?_;refine SW.bW rfl rfl rfl rfl rfl fun b w4 ai hb hB => ?_
   (replace hw:=Ext.trans hw ai;replace au:=au.ext ai;replace ax:=ax.ext ai;replace ap:=ap.ext ai;replace bY:=bY.ext ai;replace hX:=hX.ext ai;replace hY:=hY.ext ai;replace hO:=hO.ext ai;replace gV:=gV.ext ai);refine SW.append hO.row (aU.kf (enc:=cd) hB) hw.size rfl rfl rfl (by simp only;omega) (by simp only;omega) fun A2 c2 w5 e8 hg => ?_
   have hG:=hO.row.gr hg;replace hw:=aK hw hg (Nat.le_refl _) hO.row.aN;(replace au:=au.aD hG rfl;replace ax:=ax.aD hG rfl;replace ap:=ap.aD hG rfl;replace hX:=hX.aD hG rfl;replace hY:=hY.aD hG rfl;replace gV:=gV.aD hG rfl);have hE:=hO.each.mono fun _ _ h=>h.aD hG rfl
   refine Wz ?_;refine SW.bT (i:=0) ap rfl rfl rfl rfl fun w6 de hg => ?_
   have hG:=ap.gr hg;replace hw:=hw.own bO hg;replace au:=au.grown hg (by simpa using dD);replace ax:=ax.grown hg (by simpa using dw);(replace hX:=hX.aD hG rfl;replace hY:=hY.aD hG rfl;replace gV:=gV.aD hG rfl;replace e8:=e8.aD hG rfl);replace hE:=hE.mono fun _ _ h=>h.aD hG rfl
   refine Wz ?_;refine ae.again (k+1,A2,c2,zr++[s]) ⟨rfl,rfl,rfl,rfl,trivial⟩ (by simp only;omega) ⟨by simp only;omega,hw,au,ax,de,hX,hY,e8,?_⟩;rw [List.take_succ_eq_append_getElem (by omega)];exact hE.snoc gV
  ·obtain rfl:k=r.aI.n:=by omega
   rw [List.take_of_length_le (by omega)] at hO;refine Wz ?_
   refine CW.loop (fun s:Nat×Option Addr×Nat×List bP=>[(1,.pointer (some ⟨b1,0,none⟩)),(2,.pointer (some ⟨b2,0,none⟩)),(3,.pointer (some ⟨b3,0,none⟩)),(6,.int .i64 (s.1:Int))])
    (fun s w'=>s.1≤r.ak.n∧Ext w w'∧aU w' b1 41 (bl r)∧aU w' b2 41 (bl .zero)∧aU w' b3 41 (bl ⟨⟨A,r.aI.n,c⟩,⟨X,r.bE.n,c4⟩,r.bt,⟨s.2.1,s.1,s.2.2.1⟩,⟨Y,r.Live.n,d4⟩⟩)∧Own w' w.heap.size 3 1 bm X r.bE.n c4 h.bE∧Own w' w.heap.size 165 3 aE Y r.Live.n d4 h.Live ∧
      fb w' w.heap.size ⟨A,r.aI.n,c⟩ zr h.aI∧c8 w' w.heap.size ⟨s.2.1,s.1,s.2.2.1⟩ s.2.2.2 (h.ak.take s.1)) (fun s=>r.ak.n-s.1) (0,none,0,[]) ⟨rfl,rfl,rfl,rfl,trivial⟩ ⟨by omega,hw,au,ax,ap,hX,hY,hO,c8.nil _ _⟩ ?_
   clear au ax ap hX hY hw hO;rintro ⟨k,B,d,lr⟩ w' ⟨hk,hw,au,ax,ap,hX,hY,hO,hP⟩
   simp only at hk ap hP ⊢;have hA:=hl.row.base;by_cases cc:k<r.ak.n
   ·have oW:=hl.each.get k (by omega) (by omega);have cy:h.ak[k]'(by omega)∈h.ak:=List.getElem_mem _
    have q:=hs.cw _ cy;have q1:=oW.cw.len;repeat' (first|refine Wz ?_|refine SW.st (aA hw rfl rfl ((hl.row.all cc))) rfl ?_)
    have Bd:=hP.row.lt_size;refine SW.alloc rfl fun b7 w1 ab j5 iV => ?_
    skip;refine SW.aj iV rfl rfl rfl rfl (qM _) fun w2 cY hg => ?_
    have ai:=ab.own j5 hg;have qj:w.heap.size≤b7:=Nat.le_trans hw.size j5
    replace hw:=Ext.trans hw ai;replace au:=au.ext ai;replace ax:=ax.ext ai;replace ap:=ap.ext ai;replace hX:=hX.ext ai;replace hY:=hY.ext ai;replace hO:=hO.ext ai;replace hP:=hP.ext ai;replace iV:=cY;clear cY ab hg ai;refine Wz ?_;refine SW.call rfl rfl (eH _ _ _ _ _ (oW.cw.ext hw) (by omega)) fun v w4 ai hv => ?_
    obtain ⟨W,e4,rfl,hW⟩:=hv;replace hW:=hW.low hw.size;(replace hw:=Ext.trans hw ai;replace au:=au.ext ai;replace ax:=ax.ext ai;replace ap:=ap.ext ai;replace iV:=iV.ext ai;replace hX:=hX.ext ai;replace hY:=hY.ext ai;replace hO:=hO.ext ai;replace hP:=hP.ext ai);refine Wz ?_;refine SW.bT (i:=3) iV rfl rfl rfl rfl fun w5 cY hg => ?_
    have hG:=iV.gr hg;replace hw:=hw.own qj hg;(replace au:=au.aD hG rfl;replace ax:=ax.aD hG rfl;replace ap:=ap.aD hG rfl;replace hX:=hX.aD hG rfl;replace hY:=hY.aD hG rfl;replace hO:=hO.aD hG rfl;replace hW:=hW.aD hG rfl);replace hP:c8 w5 w.heap.size ⟨B,k,d⟩ lr (h.ak.take k):=⟨hP.row.grown hg (.inr (fun e=>by have:=Bd _ e;omega)),hP.each.mono fun _ _ h=>h.aD hG rfl⟩;refine Wz ?_;refine SW.bW rfl rfl rfl rfl rfl fun b w6 ai hb hB => ?_
    (replace hw:=Ext.trans hw ai;replace au:=au.ext ai;replace ax:=ax.ext ai;replace ap:=ap.ext ai;replace hX:=hX.ext ai;replace hY:=hY.ext ai;replace hO:=hO.ext ai;replace hP:=hP.ext ai;replace hW:=hW.ext ai);refine SW.append hP.row (aU.kf (enc:=bg) (x:=⟨ls[k].dq,ls[k].ay,ls[k].Ty,⟨W,_,e4⟩⟩) hB) hw.size rfl rfl rfl (by simp only;omega) (by simp only;omega) fun A2 c2 w7 xv hg => ?_
    have hG:=hP.row.gr hg;replace hw:=aK hw hg (Nat.le_refl _) hP.row.aN;(replace au:=au.aD hG rfl;replace ax:=ax.aD hG rfl;replace ap:=ap.aD hG rfl;replace hX:=hX.aD hG rfl;replace hY:=hY.aD hG rfl;replace hO:=hO.aD hG rfl;replace hW:=hW.aD hG rfl);have hE:=hP.each.mono fun _ _ h=>h.aD hG rfl
    refine Wz ?_;refine SW.bT (i:=3) ap rfl rfl rfl rfl fun w8 de hg => ?_
    have hG:=ap.gr hg;replace hw:=hw.own bO hg;replace au:=au.grown hg (by simpa using dD);replace ax:=ax.grown hg (by simpa using dw);(replace hX:=hX.aD hG rfl;replace hY:=hY.aD hG rfl;replace hO:=hO.aD hG rfl;replace xv:=xv.aD hG rfl;replace hW:=hW.aD hG rfl);replace hE:=hE.mono fun _ _ h=>h.aD hG rfl
    refine Wz ?_;refine ae.again (k+1,A2,c2,lr++[⟨ls[k].dq,ls[k].ay,ls[k].Ty,⟨W,_,e4⟩⟩]) ⟨rfl,rfl,rfl,rfl,trivial⟩ (by simp only;omega) ⟨by simp only;omega,hw,au,ax,de,hX,hY,hO,xv,?_⟩;rw [List.take_succ_eq_append_getElem (by omega)];exact hE.snoc ⟨oW.cpu,oW.fL,oW.ty,hW⟩
   ·obtain rfl:k=r.ak.n:=by omega
    rw [List.take_of_length_le (by omega)] at hP;refine Wz ?_;refine SW.aj ax rfl rfl rfl rfl (cV _) fun w5 bV hg => ?_
    have hG:=ax.gr hg;replace hw:=hw.own oT hg;(replace hX:=hX.aD hG rfl;replace hY:=hY.aD hG rfl;replace hO:=hO.aD hG rfl;replace hP:=hP.aD hG rfl);refine Wz ?_;exact ae.jY rfl rfl bV rfl ⟨_,rfl,hw,⟨_,_,r.bt,_,_⟩,rfl,hr.dc,hX,hY,⟨zr,hO⟩,⟨lr,hP⟩⟩
open Go.RowKit
structure Dw (w:World) (lo:Nat) (m li lv:fe) (ls:List bP) (h:Heap) : Prop where
 di:Own w lo 3 1 bm m.A m.n m.c h.bE
 live:Own w lo 165 3 aE lv.A lv.n lv.c h.Live
 lists:c8 w lo li ls h.ak
section
variable {w w':World} {lo t:Nat} {m li lv:fe} {ls:List bP} {h:Heap}
theorem gl.split {r:eu} (a:gl w lo r h) {z0 z1:ay} (hz:h.aI=[z0,z1]) : ∃ g c u0 u1 ls,r.aI=⟨some ⟨g,0,none⟩,2,c⟩∧dL w lo g c u0 u1 (z0,z1)∧Dw w lo r.bE r.ak r.Live ls h:=by
 obtain ⟨zs,lW⟩:=a.bU;obtain ⟨ls,Co⟩:=a.lists;have l0:=lW.each.len;rw [hz] at l0;obtain ⟨u0,u1,rfl⟩:=lM (show zs.length=2 from l0);have l1:=lW.row.len;have h0:=lW.each.get 0 (by simp) (by simp [hz]);have h1:=lW.each.get 1 (by simp) (by simp [hz]);simp only [hz] at h0 h1;have hc : 0<r.aI.c:=by have:=lW.row.le;simp at l1;omega
 obtain ⟨g,rest,hA,gh,_⟩:=lW.row.opened hc;refine ⟨g,r.aI.c,u0,u1,ls,?_,⟨?_,h0,h1,gh,hc⟩,⟨a.di,a.live,Co⟩⟩
 ·rw [← hA];have:(2:Nat)=r.aI.n:=l1
  rw [this]
 ·have:=lW.row
  rw [hA,← l1] at this;exact this
end
section
variable {w0 w w':World} {g b k t:Nat} {cs:List Value}
end
open Go.RowKit
noncomputable def lp (z:ay) (a:Int) : Int×Int:=if fa z then (if z.aR≤a∧a<z.To then (z.Types.getD ((a-z.aR) / 8).toNat 0,0) else (0,1)) else (0,8)
open Go.RowKit
theorem B1.vc (r:cJ) (z:ay) (a:Int) (w:World) (hr:p7 w r z) (hf:r.ao.n≤2305843009213693952) (ht:r.Types.n≤1000000000000000000) (h1 : -9223372036854775808≤r.aR∧r.aR≤9223372036854775807) (h2 : -9223372036854775808≤r.To∧r.To≤9223372036854775807) :
 a9 Tryz.prog 111 [.agg (cd r).toArray,.int .i64 a] w fun v _=>v = .tuple #[.int .i64 (lp z a).1,.int .i64 (lp z a).2]:=by
 refine aC Tryz.func111 rfl Tryz.ntmps111 rfl ?_;refine CW.seq (CW.region (SW.box rfl rfl fun b1 w1 hw gI au => ?_));have eF:=hr.from_;have eT:=hr.jF;have Ea:=hr.types.len;obtain ⟨q,hq⟩ : ∃ q,fa z=q:=⟨_,rfl⟩
 have c1:∀ w',Ext w w'→a9 Tryz.prog 176 [.agg (cd r).toArray] w' fun v _=>v = .int .i64 (if q then 0 else 8):=fun w' h=>by
  have:=jP r z w' (hr.ext h) hf (by omega) h1 h2
  rwa [hq] at this
 have c2:∀ w',Ext w w'→a9 Tryz.prog 195 [.agg (cd r).toArray] w' fun v _=>v = .bool q:=fun w' h=>by
  have:=jb r z w' (hr.ext h) hf ht h1 h2
  rwa [hq] at this
 cases q
 ·have e:lp z a=(0,8):=by simp [lp,hq]
  rw [e];simp only [Bool.false_eq_true,if_false] at c1;repeat' (first|refine Wz ?_|(refine SW.call rfl rfl (c1 _ hw) ?_;intro v w1 ab hv;subst hv;replace hw:=Ext.trans hw ab;replace au:=au.ext ab;clear ab))
  exact ae.eY rfl rfl rfl ⟨_,rfl,hw,rfl⟩
 ·simp only [if_true] at c1;have hz:=dz.1 hq;obtain ⟨o1,o2,o3,o4,o5⟩:=hz.ok;have hA:=hr.types.base;by_cases cy:z.aR≤a∧a<z.To
  ·obtain ⟨k,hk,cG⟩:=ol hz cy.1 cy.2;have cc:k<r.Types.n:=by omega
   have e:lp z a=(z.Types[k],0):=by simp [lp,hq,cy,hk,List.getD_eq_getElem?_getD,List.getElem?_eq_getElem cG]
   rw [e];obtain ⟨i1,i2⟩:=id cy;repeat' (first|refine Wz ?_|refine SW.st (aV (k) rfl rfl (by assumption) (by omega) (by omega)) rfl ?_|refine SW.st (ag hw rfl (hr.types.one cc rfl)) rfl ?_|(refine SW.call rfl rfl (c1 _ hw) ?_;intro v w1 ab hv;subst hv;replace hw:=Ext.trans hw ab;replace au:=au.ext ab;clear ab))
   all_goals try omega
   exact ae.eY rfl rfl rfl ⟨_,rfl,hw,rfl⟩
  ·have e:lp z a=(0,1):=by simp only [lp,hq,if_true,if_neg cy]
   rw [e];repeat' (first|refine Wz ?_|refine SW.dv rfl rfl rfl (fun h => ?_) (fun h => ?_)|(refine SW.call rfl rfl (c1 _ hw) ?_;intro v w1 ab hv;subst hv;replace hw:=Ext.trans hw ab;replace au:=au.ext ab;clear ab))
   all_goals try omega
   all_goals exact ae.eY rfl rfl rfl ⟨_,rfl,hw,rfl⟩
def gE (lo:Nat) (o:Int×Heap) (v:Value) (w:World) : Prop := ∃ s:eu,v = .tuple #[.agg (bl s).toArray,.int .i64 o.1]∧gl w lo s o.2
theorem gE.zero (e:Int) (lo:Nat) (w:World) : gE lo (e,⟨[],[],0,[],[]⟩) (.tuple #[.agg (bl .zero).toArray,.int .i64 e]) w:=⟨.zero,rfl,gl.zero w lo⟩
theorem dQ.two {α β:Type} {R : α → β → Prop} {a b : α} {c d : β} (h1:R a c) (h2:R b d) : dQ R [a,b] [c,d]:=dQ.snoc (dQ.snoc dQ.nil h1) h2
open Go.RowKit
theorem yU {z:ay} {a:Int} (h:cb z) (h1:z.aR≤a) (h2:a<z.To) : lp z a=(nB z a,0):=by
 simp only [lp,me h,if_true,if_pos (And.intro h1 h2)];rfl
set_option maxHeartbeats 8000000 in
theorem tQ (r:eu) (h:Heap) (cpu a:Int) (w:World) (hr:sC w r h) (hs:h.small) (zS:∀ z∈h.aI,dK z) (ha : -9223372036854775808≤a∧a≤9223372036854775807) :
 a9 Tryz.prog 46 [.agg (bl r).toArray,.int .i64 cpu,.int .i64 a] w (gE w.heap.size (fv h cpu a)):=by
 refine aC Tryz.func46 rfl Tryz.ntmps46 rfl ?_;refine CW.seq (CW.region (SW.box rfl rfl fun b3 w1 hw bM ap => ?_));have bO:=bM;refine SW.alloc rfl fun b6 w2 cg eJ aB => ?_
 have cX:w.heap.size≤b6:=Nat.le_trans hw.size eJ
 have pM:b3≠b6:=by have:=ap.lt;omega
 (replace hw:=Ext.trans hw cg;replace ap:=ap.ext cg);have eC:=hr.dc;obtain ⟨q,hq⟩ : ∃ q,gQ h=q:=⟨_,rfl⟩
 have c1:∀ w',Ext w w'→a9 Tryz.prog 88 [.agg (bl r).toArray] w' fun v _=>v = .int .i64 (if q then 0 else 8):=fun w' hx=>by
  have:=po r h w' (hr.ext hx) hs zS
  rwa [hq] at this
 cases q
 ·simp only [Bool.false_eq_true,if_false] at c1;rw [rZ hq];repeat' (first|refine Wz ?_|(refine SW.call rfl rfl (c1 _ hw) ?_;intro v w1 ab hv;subst hv;replace hw:=Ext.trans hw ab;replace ap:=ap.ext ab;replace aB:=aB.ext ab;clear ab))
  refine SW.aj aB rfl rfl rfl rfl (cV .zero) fun w5 bV hg => ?_
  replace hw:=hw.own cX hg;refine Wz ?_;exact ae.bQ rfl rfl rfl bV rfl ⟨_,rfl,hw,gE.zero 8 _ _⟩
 ·simp only [if_true] at c1;have hm:=iu.1 hq;obtain ⟨z0,z1,f⟩:=px hm;by_cases hc : 0≤cpu∧cpu<h.bt
  ·repeat' (first|refine Wz ?_|(refine SW.call rfl rfl (c1 _ hw) ?_;intro v w1 ab hv;subst hv;replace hw:=Ext.trans hw ab;replace ap:=ap.ext ab;replace aB:=aB.ext ab;clear ab))
   all_goals try omega
   clear c1;have CP:=hr.live.len;have s2:=hs.live;have dH:=kU f.live;refine SW.call rfl rfl (wF r h.Live a _ (hr.live.ext hw) dH (fun b hb=>by obtain ⟨k,hk,rfl⟩:=List.getElem_of_mem hb;exact (f.live.each k hk).2.1) (by omega) ha) fun v w4 gf hv => ?_
   (replace hw:=Ext.trans hw gf;replace ap:=ap.ext gf;replace aB:=aB.ext gf);cases hf:bc h.Live a
   ·rw [r4 hq hc hf];obtain ⟨i,rfl⟩:=hv.2 hf;repeat' (first|refine Wz ?_|(refine CW.cU rfl ?_))
    refine SW.aj aB rfl rfl rfl rfl (cV .zero) fun w5 bV hg => ?_
    replace hw:=hw.own cX hg;refine Wz ?_;exact ae.bQ rfl rfl rfl bV rfl ⟨_,rfl,hw,gE.zero 4 _ _⟩
   ·rw [ow hq hc hf];have hv:=hv.1 hf;subst hv;obtain ⟨hk,Aa⟩:=fZ hf;obtain ⟨k,ek⟩ : ∃ k,bF h.Live a=k:=⟨_,rfl⟩;simp only [ek] at hk Aa ⊢;have oW:=f.live.each k hk;have Dx:=f.next hk;repeat' (first|refine Wz ?_|(refine CW.cj rfl ?_))
    refine SW.call rfl rfl (oV r h _ (hr.ext hw) hs) fun v w4 gf hv => ?_
    obtain ⟨s,rfl,hO⟩:=hv;have hM:=hO.own.di.low hw.size;have hV:=hO.own.live.low hw.size;have Ab:=hO.own.dc;obtain ⟨g,c,u0,u1,ls,eZ,hZ,hL,rI,Cm⟩:=hO.split f.d.bU;have hZ:dL w4 w.heap.size g c u0 u1 (z0,z1):=⟨hZ.row.low hw.size,hZ.z0.low hw.size,hZ.z1.low hw.size,Nat.le_trans hw.size hZ.wP,hZ.pos⟩
    replace hL:=hL.low hw.size;clear hO;(replace hw:=Ext.trans hw gf;replace ap:=ap.ext gf;replace aB:=aB.ext gf);obtain ⟨sz,m,cp,li,lv⟩:=s;simp only at eZ hM hV hL rI Cm Ab;subst eZ;refine SW.aj ap rfl rfl rfl rfl (cV ⟨⟨some ⟨g,0,none⟩,2,c⟩,m,cp,li,lv⟩) fun w5 de hg => ?_
    have hG:=ap.gr hg;replace hw:=hw.own bO hg;replace aB:=aB.grown hg (by simpa using Ne.symm pM);(replace hZ:=hZ.aD hG rfl;replace hM:=hM.aD hG rfl;replace hV:=hV.aD hG rfl;replace hL:=hL.aD hG rfl);replace ap:=de;clear de hg hG;have Ie:=hV.len;have cc:k<lv.n:=by omega
    have EZ:=hV.sl.base;repeat' (first|refine Wz ?_|refine SW.st (aS rfl rfl ((hV.sl.all cc))) rfl ?_)
    have Dy:=hV.lt_size;refine SW.alloc rfl fun qA w1 ab jd bw => ?_
    skip;refine SW.aj bw rfl rfl rfl rfl (fM.one (enc:=aE) _) fun w2 iI hg => ?_
    have ai:=ab.own jd hg;have kB:w.heap.size≤qA:=Nat.le_trans hw.size jd
    replace hw:=Ext.trans hw ai;replace ap:=ap.ext ai;replace aB:=aB.ext ai;replace hZ:=hZ.ext ai;replace hM:=hM.ext ai;replace hV:=hV.ext ai;replace hL:=hL.ext ai;replace bw:=iI;clear iI ab hg ai;have AF:aX lv.A lv.c≠some qA:=fun e=>by have:=Dy _ e;omega
    refine Wz ?_;refine SW.ie rfl rfl (j0 lv.A lv.n lv.c w.heap.size h.Live _ hV k cc (by omega) hw.size) fun v w6 hv => ?_
    obtain ⟨rfl,Dz,hg⟩:=hv;have hG:=hV.gr hg;replace hw:=aK hw hg (Nat.le_refl _) hV.aN;replace hZ:=hZ.BR Cm hg hG;replace bw:=bw.grown hg (fun e=>AF e.symm);(replace ap:=ap.aD hG rfl;replace aB:=aB.aD hG rfl;replace hM:=hM.aD hG rfl;replace hL:=hL.aD hG rfl);replace hV:=Dz;clear Dz hg hG;refine Wz ?_;refine SW.bT (i:=4) ap rfl rfl rfl rfl fun w7 de hg => ?_
    have hG:=ap.gr hg;replace hw:=hw.own bO hg;replace aB:=aB.grown hg (by simpa using Ne.symm pM);(replace hZ:=hZ.aD hG rfl;replace hM:=hM.aD hG rfl;replace hV:=hV.aD hG rfl;replace hL:=hL.aD hG rfl;replace bw:=bw.aD hG rfl);replace ap:aU w7 b3 41 (bl ⟨⟨some ⟨g,0,none⟩,2,c⟩,m,cp,li,⟨lv.A,lv.n-1,lv.c⟩⟩):=de;clear de hg hG AF Dy;have nR:b6≠g:=fun e=>hZ.row.cq aB rfl (by rw [hZ.own,e])
    have qd:b3≠g:=fun e=>hZ.row.cq ap rfl (by rw [hZ.own,e])
    by_cases ho : 0<h.Live[k].Order
    ·rw [lP f.d.bU hk ek ho];refine Wz ?_;refine SW.ie rfl rfl (rj m cp li ⟨lv.A,lv.n-1,lv.c⟩ u0 u1 _ _ h.Live[k] w.heap.size g c b3 _ ap hZ hw.size f.d.start Dx) fun v w8 hv => ?_
     obtain ⟨hg,u2,u3,oy⟩:=hv;have hG:=hZ.gr hg;replace hw:=hw.own hZ.wP hg;(replace ap:=ap.aD hG rfl;replace aB:=aB.aD hG rfl;replace hM:=hM.aD hG rfl;replace hV:=hV.aD hG rfl;replace hL:=hL.aD hG rfl);clear hZ hg hG bw;refine Wz ?_;refine SW.aj aB rfl rfl rfl rfl (cV ⟨⟨some ⟨g,0,none⟩,2,c⟩,m,cp,li,⟨lv.A,lv.n-1,lv.c⟩⟩) fun w9 bV hg => ?_
     have hG:=aB.gr hg;replace hw:=hw.own cX hg;replace oy:=oy.aD hG rfl;(replace hM:=hM.aD hG rfl;replace hV:=hV.aD hG rfl;replace hL:=hL.aD hG rfl);refine Wz ?_;exact ae.bQ rfl rfl rfl bV rfl ⟨_,rfl,hw,⟨⟨some ⟨g,0,none⟩,2,c⟩,m,cp,li,⟨lv.A,lv.n-1,lv.c⟩⟩,rfl,⟨Ab,hM,hV,⟨[u2,u3],⟨oy.row,dQ.two oy.z0 oy.z1⟩⟩,⟨ls,hL⟩⟩⟩
    ·rw [lQ f.d.bU hk ek ho];have Jb:h.Live[k].Order=0:=by have:=oW.1.1;omega
     have Er:=Dx.at_;rw [Aa] at Er;have F7:u0.To=z0.To:=hZ.z0.jF
     have Ig:=f.d.xw;have Ih:=f.d.Bm
     have rA:∃ (zi:Nat) (ui:cJ) (zz:ay),∃ k0:zi<2,[u0,u1][zi]'k0=ui∧(if a<u0.To then (0:Int) else 1)=(zi:Int)∧eV w7 w.heap.size ui zz∧cb zz∧(zz.aR≤a∧a<zz.To)∧keyOf z0 z1 cpu a=⟨cpu,(zi:Int),nB zz a,[]⟩:=by
      by_cases hx:a<z0.To
      ·exact ⟨0,u0,z0,by omega,rfl,by rw [if_pos (by omega)];rfl,hZ.z0,f.d.nW,⟨by have:=f.d.o9;omega,hx⟩,by unfold keyOf;rw [if_pos hx,if_pos hx];rfl⟩
      ·exact ⟨1,u1,z1,by omega,rfl,by rw [if_neg (by omega)];rfl,hZ.z1,f.d.nX,⟨by omega,by omega⟩,by unfold keyOf;rw [if_neg hx,if_neg hx];rfl⟩
     obtain ⟨zi,ui,zz,k0,zw,wI,zx,DA,⟨te,Dt⟩,pD⟩:=rA
     have cz:∀ w',Sl w' 4 cd (some ⟨g,0,none⟩) 2 [u0,u1]→a9 Tryz.prog 110 [.agg (bl ⟨⟨some ⟨g,0,none⟩,2,c⟩,m,cp,li,⟨lv.A,lv.n-1,lv.c⟩⟩).toArray,.int .i64 a] w' fun v _=>v = .int .i64 (zi:Int):=fun w' h=>by
      have:=ri ⟨⟨some ⟨g,0,none⟩,2,c⟩,m,cp,li,⟨lv.A,lv.n-1,lv.c⟩⟩ u0 u1 a w' h
      rwa [wI] at this
     have GA:=hZ.row.sl.base;obtain ⟨t,ht⟩ : ∃ t,nB zz a=t:=⟨_,rfl⟩;obtain ⟨q1,q2,q3,q4⟩:=mG zx DA;repeat' (first|refine Wz ?_|(refine SW.call rfl rfl (cz _ hZ.row.sl) ?_;intro v w1 ab hv;subst hv;replace hw:=Ext.trans hw ab;replace ap:=ap.ext ab;replace aB:=aB.ext ab;replace bw:=bw.ext ab;replace hZ:=hZ.ext ab;replace hM:=hM.ext ab;replace hV:=hV.ext ab;replace hL:=hL.ext ab;replace zx:=zx.ext ab;clear ab))
     have fz:=hZ.row.sl.all k0;simp only [zw] at fz;repeat' (first|refine Wz ?_|refine SW.st (aS rfl rfl fz) rfl ?_)
     refine SW.call rfl rfl (B1.vc ui zz a _ zx.rd (by omega) (by omega) ⟨by omega,by omega⟩ ⟨by omega,by omega⟩) fun v w8 B2 hv => ?_
     rw [yU DA te Dt,ht] at hv;simp only at hv;subst hv;(replace hw:=Ext.trans hw B2;replace ap:=ap.ext B2;replace aB:=aB.ext B2;replace hZ:=hZ.ext B2;replace hM:=hM.ext B2;replace hV:=hV.ext B2;replace hL:=hL.ext B2);clear zx bw fz cz;refine Wz ?_;have DB:=hL.row.lt_size;have DC:=ap.lt;have DD:=aB.lt;refine SW.alloc rfl fun B3 w1 ab tR gu => ?_
     skip;refine SW.aj gu rfl rfl rfl rfl (qM ⟨cpu,zi,t,.nil⟩) fun w2 nK hg => ?_
     have ai:=ab.own tR hg;have DE:w.heap.size≤B3:=Nat.le_trans hw.size tR
     replace hw:=Ext.trans hw ai;replace ap:=ap.ext ai;replace aB:=aB.ext ai;replace hZ:=hZ.ext ai;replace hM:=hM.ext ai;replace hV:=hV.ext ai;replace hL:=hL.ext ai;replace gu:=nK;clear nK ab hg ai;refine Wz ?_;replace aB:aU w2 b6 41 (bl .zero):=aB;have Ii:∀ l∈h.ak,l.aw.length≤1000:=fun l hl=>by have:=(f.lists l hl).2;omega
     obtain ⟨F,hF⟩ : ∃ F:World→Prop,F=fun v=>aU v b6 41 (bl .zero)∧aU v B3 142 (bg ⟨cpu,zi,t,.nil⟩)∧dL v w.heap.size g c u0 u1 (z0,z1)∧Own v w.heap.size 3 1 bm m.A m.n m.c h.bE∧Own v w.heap.size 165 3 aE lv.A (lv.n-1) lv.c (h.Live.eraseIdx k):=⟨_,rfl⟩
     have Eo:=aB.lt;have Ft:=gu.lt;have GC:aX li.A li.c≠some b6:=hL.row.cq aB rfl
     have k8:AA F w2:=by
      rw [hF];exact ⟨⟨aB,gu,hZ,hM,hV⟩,fun v v' hx hP=>⟨hP.1.ext hx,hP.2.1.ext hx,hP.2.2.1.ext hx,hP.2.2.2.1.ext hx,hP.2.2.2.2.ext hx⟩⟩
     have AB:∀ (v v':World) (row:Option Nat),v.grownBy v' row→(∀ k,row=some k→k=b3∨aX li.A li.c=some k∨w2.heap.size≤k)→F v→F v':=fun v v' row hg Ac hP=>by
      rw [hF] at hP ⊢;refine ⟨hP.1.grown hg (fun e => ?_),hP.2.1.grown hg (fun e => ?_),hP.2.2.1.parts hg ((hZ.row.uX hL ap rfl rfl).ne Ac) ((hZ.z0.free.uX hL ap rfl rfl).ne Ac) ((hZ.z0.types.uX hL ap rfl rfl).ne Ac) ((hZ.z1.free.uX hL ap rfl rfl).ne Ac) ((hZ.z1.types.uX hL ap rfl rfl).ne Ac),hP.2.2.2.1.apart hg ((hM.uX hL ap rfl rfl).ne Ac),hP.2.2.2.2.apart hg ((hV.uX hL ap rfl rfl).ne Ac)⟩
      ·rcases Ac b6 e.symm with h|h|h
       ·exact pM h.symm
       ·exact GC h
       ·omega
      ·rcases Ac B3 e.symm with h|h|h
       ·omega
       ·have:=DB _ h;omega
       ·omega
     have Ej:∀ (i:Nat) (hi:i<ls.length) (v v':World),v.grownBy v' (aX ls[i].aw.A ls[i].aw.c)→F v→F v':=fun i hi v v' hg hP=>by
      rw [hF] at hP ⊢;have Cw:=(hL.each.get i hi (by rw [← hL.each.len];exact hi)).cw;exact ⟨hP.1.grown hg (fun e=>Cw.cq aB rfl e.symm),hP.2.1.grown hg (fun e=>Cw.cq gu rfl e.symm),hP.2.2.1.parts hg (hZ.row.oz Cw rfl) (hZ.z0.free.oz Cw rfl) (fun k e e2=>rI.types i hi k e2 u0 (by simp) e) (hZ.z1.free.oz Cw rfl) (fun k e e2=>rI.types i hi k e2 u1 (by simp) e),hP.2.2.2.1.apart hg (fun k e e2=>rI.di i hi k e2 e),hP.2.2.2.2.apart hg (hV.oz Cw rfl)⟩
     obtain ⟨x,hx⟩ : ∃ x:aJ,x=⟨cpu,zi,t,[]⟩:=⟨_,rfl⟩;have xj:r9 ⟨cpu,zi,t,.nil⟩ x:=by subst hx;exact ⟨rfl,rfl,rfl⟩
     obtain ⟨Gu,_⟩:=hL.rd.len;have wS:=f.count;have Fu:li.n≤256:=by have:=hL.rd.len.2;omega
     refine SW.ie rfl rfl (yA ⟨some ⟨g,0,none⟩,2,c⟩ m cp li ⟨lv.A,lv.n-1,lv.c⟩ h.ak ls x ⟨cpu,zi,t,.nil⟩ a F b3 w _ hw bO ap hL xj rfl (by rw [hx]) rI.sep f.r5 (by omega) Ii k8 AB Ej) fun v w9 hv => ?_
     obtain ⟨p6,GD,xA,ng,de,GF,_⟩:=hv;rw [hF] at GD;obtain ⟨gg,nK,oy,GG,Dz⟩:=GD;clear hw ap hL aB gu hZ hM hV k8 AB Ej GC Eo Ft DC DD DB;have hw:=p6;have ap:=de;have hL:=GF;have aB:=gg;have gu:=nK;have hZ:=oy;have hM:=GG;have hV:=Dz;clear p6 de GF gg nK oy GG Dz;obtain ⟨pg,qu⟩ : ∃ pg,cm h.ak x++[a]=pg:=⟨_,rfl⟩;have yV:keyOf z0 z1 cpu a=x:=by rw [pD,ht,hx]
     rw [yV,qu];rw [qu] at hL;obtain ⟨xx,AG⟩ : ∃ xx:aJ,(⟨x.dq,x.ay,x.Ty,pg⟩ : aJ)=xx:=⟨_,rfl⟩;rw [AG] at hL;have GH:du x xx:=by rw [← AG];exact ⟨rfl,rfl,rfl⟩
     obtain ⟨e1,e2⟩:=mr (L:=h.ak) GH;obtain ⟨e3,e4⟩:=ya (L:=h.ak) (x:=xx);obtain ⟨e5,e6⟩:=mr (L:=eW h.ak xx) GH;obtain ⟨p0,Cx⟩ : ∃ p0,aQ h.ak xx=p0:=⟨_,rfl⟩;rw [Cx] at e1 e3;have AH:=s7 (L:=h.ak) (x:=xx);rw [Cx] at AH;obtain ⟨B4,Fv⟩:=List.getElem?_eq_some_iff.1 AH;obtain ⟨l3,l4⟩:=hL.rd.len;have Df:p0<xA.n:=by omega
     have B5:p0<ng.length:=by omega
     have yW:xA.n≤257:=by
      rw [← l4,eW];split
      ·simp;omega
      ·rw [ew _ (ev _ _)];omega
     have cl:∀ w',oU w' xA ng (eW h.ak xx)→a9 Tryz.prog 113 [.agg (bl ⟨⟨some ⟨g,0,none⟩,2,c⟩,m,cp,xA,⟨lv.A,lv.n-1,lv.c⟩⟩).toArray,.agg (bg ⟨cpu,zi,t,.nil⟩).toArray] w' fun v _=>v = .tuple #[.int .i64 (p0:Int),.bool true]:=fun w' hh=>by
      have:=q9 ⟨⟨some ⟨g,0,none⟩,2,c⟩,m,cp,xA,⟨lv.A,lv.n-1,lv.c⟩⟩ (eW h.ak xx) ng x ⟨cpu,zi,t,.nil⟩ w' hh xj (by simp only;omega)
      rwa [e5,e3,e6,e4] at this
     repeat' (first|refine Wz ?_|(refine SW.call rfl rfl (cl _ hL.rd) ?_;intro v w1 ab hv;subst hv;replace hw:=Ext.trans hw ab;replace ap:=ap.ext ab;replace aB:=aB.ext ab;replace hZ:=hZ.ext ab;replace hM:=hM.ext ab;replace hV:=hV.ext ab;replace hL:=hL.ext ab;clear ab))
     clear cl gu;have Gm:=hL.row.sl.base;have sj:=hL.each.get p0 B5 B4;rw [Fv] at sj;have Cp:=sj.cw.sl.len;have EG:xx.aw=pg:=by rw [← AG]
     rw [EG] at Cp;have g3:=hL.row.sl.fE Df (j:=3) (u := .slice ng[p0].aw.A ng[p0].aw.n ng[p0].aw.c) rfl;by_cases h8 : 8<pg.length
     ·have rX:ck h.ak x=true:=by
       cases e:ck h.ak x with
       | true=>rfl
       | false=>rw [iy e] at qu;rw [← qu] at h8;simp at h8
      have lh:p0<h.ak.length:=by rw [← e1];exact (ik rX).1
      have C4:cm h.ak x=h.ak[p0].aw:=by
       rw [iw rX (by omega)];simp only [e1]
      rw [C4] at qu;have Jc:=(f.lists _ (List.getElem_mem lh)).2;have Ij:pg.length=h.ak[p0].aw.length+1:=by rw [← qu];simp
      have sH:∀ j,j≤4→pg.take j=h.ak[p0].aw.take j:=fun j hj=>by rw [← qu,List.take_append_of_le_length (by omega)]
      have mI:∀ (j:Nat) (hj:j<pg.length) (ue:j<h.ak[p0].aw.length),pg[j]=h.ak[p0].aw[j]:=fun j hj ue=>by
       simp only [← qu];exact List.getElem_append_left ue
      have B6:eB h z0 z1 x pg (h.Live.eraseIdx k)=⟨[(cx (z0,z1) ((pg.take 4).map bz)).1,(cx (z0,z1) ((pg.take 4).map bz)).2],h.bE,h.bt,eW h.ak (jc x (pg.drop 4)),h.Live.eraseIdx k⟩:=by
       unfold eB;rw [if_pos h8]
      rw [B6];have ye:=sj.cw.le;repeat' (first|refine Wz ?_|refine SW.st (az rfl g3) rfl ?_|(refine SW.st (db (k:=4) rfl rfl (by omega)) rfl ?_))
      refine CW.loop (fun t:Nat×cJ×cJ=>[(3,.pointer (some ⟨b3,0,none⟩)),(6,.pointer (some ⟨b6,0,none⟩)),(16,.int .i64 (p0:Int)),(107,.slice ng[p0].aw.A 4 ng[p0].aw.c),(108,.int .i64 4),(109,.int .i64 (t.1:Int))])
       (fun t w'=>t.1≤4∧Ext w w'∧aU w' b3 41 (bl ⟨⟨some ⟨g,0,none⟩,2,c⟩,m,cp,xA,⟨lv.A,lv.n-1,lv.c⟩⟩)∧aU w' b6 41 (bl .zero)∧dL w' w.heap.size g c t.2.1 t.2.2 (cx (z0,z1) ((pg.take t.1).map bz))∧Own w' w.heap.size 3 1 bm m.A m.n m.c h.bE∧Own w' w.heap.size 165 3 aE lv.A (lv.n-1) lv.c (h.Live.eraseIdx k)∧c8 w' w.heap.size xA ng (eW h.ak xx)) (fun t=>4-t.1) (0,u0,u1)
       ⟨rfl,rfl,rfl,rfl,rfl,rfl,trivial⟩ ⟨by omega,hw,ap,aB,by simpa [cx] using hZ,hM,hV,hL⟩ ?_
      clear hw ap aB hZ hM hV hL sj g3 GA qd nR;rintro ⟨j,u0,u1⟩ w' ⟨hj,hw,ap,aB,hZ,hM,hV,hL⟩
      simp only at hj hZ ⊢;have sj:=hL.each.get p0 B5 B4;rw [Fv] at sj
      have DF:Own w' w.heap.size 3 1 bm ng[p0].aw.A ng[p0].aw.n ng[p0].aw.c pg:=by
       have:=sj.cw
       rwa [EG] at this
      have DG:=DF.sl.base;by_cases Ik:j<4
      ·have fF:j<ng[p0].aw.n:=by omega
       have DH:j<pg.length:=by omega
       have hD:=f.inv lh j (by omega);have hN:=f.BF lh (show j<h.ak[p0].aw.length by omega)
       have Fw:cx (z0,z1) ((pg.take (j+1)).map bz)=dS (cx (z0,z1) ((pg.take j).map bz)) (bz pg[j]):=by
        rw [List.take_succ_eq_append_getElem DH,List.map_append,iC];rfl
       rw [← sH j hj,← mI j DH (by omega)] at hN;rw [← sH j hj] at hD;have Jd : 0<4→ng[p0].aw.A.isSome=true:=fun _=>DG (by omega)
       repeat' (first|refine Wz ?_|refine SW.st (az rfl (DF.sl.one fF rfl)) rfl ?_)
       refine SW.ie rfl rfl (rj m cp xA ⟨lv.A,lv.n-1,lv.c⟩ u0 u1 _ _ (bz pg[j]) w.heap.size g c b3 _ ap hZ hw.size hD hN) fun v w8 hv => ?_
       obtain ⟨hg,u2,u3,oy⟩:=hv;have hG:=hZ.gr hg;replace hw:=hw.own hZ.wP hg;(replace ap:=ap.aD hG rfl;replace aB:=aB.aD hG rfl;replace hM:=hM.aD hG rfl;replace hV:=hV.aD hG rfl;replace hL:=hL.aD hG rfl);refine Wz ?_;exact ae.again (j+1,u2,u3) ⟨rfl,rfl,rfl,rfl,rfl,rfl,trivial⟩ (by simp only;omega) ⟨by simp only;omega,hw,ap,aB,by simp only;rw [Fw];exact oy,hM,hV,hL⟩
      ·obtain rfl:j=4:=by omega
       have Gm:=hL.row.sl.base;refine Wz ?_;refine CW.qf 13 13 (fun _=>True) mixed (by kernel_rfl) fun w1 ab bd => ?_
       replace hw:=Ext.trans hw ab;replace ap:=ap.ext ab;replace aB:=aB.ext ab;replace hZ:=hZ.ext ab;replace hM:=hM.ext ab;replace hV:=hV.ext ab;replace hL:=hL.ext ab;replace DF:=DF.ext ab;clear ab;refine Wf ?_;refine SF.take 8 [] [] bd rfl (by kernel_rfl) (by kernel_rfl) (by kernel_rfl) ?_;repeat ((show SW _ _ _ _ (⟨_,Op.load _ _,_,_,_,none⟩::_) _ _;refine SW.st (az rfl (hL.row.sl.fE Df (j:=3) (u := .slice ng[p0].aw.A ng[p0].aw.n ng[p0].aw.c) rfl)) rfl ?_))
       refine SW.aq ?_;refine SF.take 9 [] [] bd rfl (by kernel_rfl) (by kernel_rfl) (by kernel_rfl) ?_;repeat ((refine SW.st (bo (k:=4) rfl rfl (by omega) (by omega)) rfl ?_))
       refine SW.aq ?_;refine SF.one 10 rfl (by kernel_rfl) rfl ?_;refine SW.call rfl rfl (dC _ _ _ _ _ (DF.sl.drop 4 ng[p0].aw.c (by omega) (by omega)) (by omega)) fun v w4 ai hv => ?_
       obtain ⟨X,c4,rfl,hX⟩:=hv;replace hX:=hX.low hw.size;(replace hw:=Ext.trans hw ai;replace ap:=ap.ext ai;replace aB:=aB.ext ai;replace hZ:=hZ.ext ai;replace hM:=hM.ext ai;replace hV:=hV.ext ai;replace hL:=hL.ext ai);refine SW.nil (ae.sf ai ?_);refine Wf ?_;refine SF.last rfl (by kernel_rfl) (by kernel_rfl) ?_;refine SW.jh p0 3 ⟨ng[p0].dq,ng[p0].ay,ng[p0].Ty,⟨X,ng[p0].aw.n-4,c4⟩⟩ hL.row rfl rfl rfl Df (by decide) rfl rfl fun w6 gi nR => ?_
       have qz:=hL.row.gr nR;replace hw:=aK hw nR (Nat.le_refl _) hL.row.aN;have xv:=hL.each.get p0 B5 B4;rw [Fv] at xv;have hE:=dQ.setAt (R':=j4 w6 w.heap.size) (x:=⟨ng[p0].dq,ng[p0].ay,ng[p0].Ty,⟨X,ng[p0].aw.n-4,c4⟩⟩) (y:=jc x (pg.drop 4)) (i:=p0) hL.each ⟨xv.cpu.trans (by rw [← AG];rfl),xv.fL.trans (by rw [← AG];rfl),xv.ty.trans (by rw [← AG];rfl),hX.aD qz rfl⟩ (fun j h1 h2 _ hh=>hh.aD qz rfl)
       have Fx:(eW h.ak xx).set p0 (jc x (pg.drop 4))=eW h.ak (jc x (pg.drop 4)):=by
        rw [← Cx];exact yb (by rw [← AG];exact ⟨rfl,rfl,rfl⟩)
       rw [Fx] at hE;(replace ap:=ap.aD qz rfl;replace aB:=aB.aD qz rfl;replace hZ:=hZ.aD qz rfl;replace hM:=hM.aD qz rfl;replace hV:=hV.aD qz rfl);refine Wz ?_;refine SW.aj aB rfl rfl rfl rfl (cV ⟨⟨some ⟨g,0,none⟩,2,c⟩,m,cp,xA,⟨lv.A,lv.n-1,lv.c⟩⟩) fun w9 bV hg => ?_
       have hG:=aB.gr hg;replace hw:=hw.own cX hg;(replace hZ:=hZ.aD hG rfl;replace hM:=hM.aD hG rfl;replace hV:=hV.aD hG rfl);refine Wz ?_;exact ae.bQ rfl rfl rfl bV rfl ⟨_,rfl,hw,⟨⟨some ⟨g,0,none⟩,2,c⟩,m,cp,xA,⟨lv.A,lv.n-1,lv.c⟩⟩,rfl,⟨Ab,hM,hV,⟨[u0,u1],⟨hZ.row,dQ.two hZ.z0 hZ.z1⟩⟩,⟨_,⟨gi.aD hG rfl,hE.mono fun _ _ hh=>hh.aD hG rfl⟩⟩⟩⟩
     ·have B6:eB h z0 z1 x pg (h.Live.eraseIdx k)=⟨[z0,z1],h.bE,h.bt,eW h.ak xx,h.Live.eraseIdx k⟩:=by
       unfold eB;rw [if_neg h8,← AG];rfl
      rw [B6];repeat' (first|refine Wz ?_|refine SW.st (az rfl g3) rfl ?_)
      refine SW.aj aB rfl rfl rfl rfl (cV ⟨⟨some ⟨g,0,none⟩,2,c⟩,m,cp,xA,⟨lv.A,lv.n-1,lv.c⟩⟩) fun w9 bV hg => ?_
      have hG:=aB.gr hg;replace hw:=hw.own cX hg;(replace hZ:=hZ.aD hG rfl;replace hM:=hM.aD hG rfl;replace hV:=hV.aD hG rfl;replace hL:=hL.aD hG rfl);refine Wz ?_;exact ae.bQ rfl rfl rfl bV rfl ⟨_,rfl,hw,⟨⟨some ⟨g,0,none⟩,2,c⟩,m,cp,xA,⟨lv.A,lv.n-1,lv.c⟩⟩,rfl,⟨Ab,hM,hV,⟨[u0,u1],⟨hZ.row,dQ.two hZ.z0 hZ.z1⟩⟩,⟨ng,hL⟩⟩⟩
  ·rw [r3 hq hc];repeat' (first|refine Wz ?_|refine SW.dv rfl rfl rfl (fun h => ?_) (fun h => ?_)|(refine SW.call rfl rfl (c1 _ hw) ?_;intro v w1 ab hv;subst hv;replace hw:=Ext.trans hw ab;replace ap:=ap.ext ab;replace aB:=aB.ext ab;clear ab))
   all_goals try omega
   all_goals
    refine SW.aj aB rfl rfl rfl rfl (cV .zero) fun w5 bV hg => ?_
    replace hw:=hw.own cX hg;refine Wz ?_;exact ae.bQ rfl rfl rfl bV rfl ⟨_,rfl,hw,gE.zero 1 _ _⟩
open Go.RowKit
structure jD (w:World) (lo:Nat) (R:List bP) (L:List aJ) : Prop where
 each:dQ (j4 w lo) R L
section
variable {w w':World} {lo t:Nat} {R:List bP} {L:List aJ} {y:bP} {x:aJ}
theorem jD.ext (h:jD w lo R L) (hx:Ext w w') : jD w' lo R L:=⟨h.each.mono fun _ _ h=>h.ext hx⟩
theorem jD.aD (h:jD w lo R L) (hG:oo w w' t) (cQ:Nat.beq t 3=false) : jD w' lo R L:=⟨h.each.mono fun _ _ h=>h.aD hG cQ⟩
theorem jD.nil (w:World) (lo:Nat) : jD w lo [] []:=⟨dQ.nil⟩
theorem jD.snoc (h:jD w lo R L) (hr:j4 w lo y x) : jD w lo (R++[y]) (L++[x]):=⟨h.each.snoc hr⟩
end
set_option maxHeartbeats 16000000 in
theorem nL (r:eu) (L:List aJ) (ls:List bP) (x:aJ) (y:bP) (lo:Nat) (w:World) (hl:c8 w lo r.ak ls L) (hy:j4 w lo y x) (hs:zp L) (gh:lo≤w.heap.size) (cQ : 0<y.aw.n) (hn:(r.ak.n+1)*48≤140737488355328) :
 a9 Tryz.prog 128 [.agg (bl r).toArray,.int .i64 y.dq,.int .i64 y.ay,.int .i64 y.Ty,.slice y.aw.A y.aw.n y.aw.c] w fun v w' => ∃ s R,v = .agg (bl ⟨r.aI,r.bE,r.bt,s,r.Live⟩).toArray∧c8 w' lo s R (eW L x):=by
 refine aC Tryz.func128 rfl Tryz.ntmps128 rfl ?_;refine CW.seq (CW.region (SW.box rfl rfl fun b5 w1 hw gm bY => ?_));have mh:=gm;refine SW.alloc rfl fun vI w2 cg pJ bu => ?_
 have rc:w.heap.size≤vI:=Nat.le_trans hw.size pJ
 have yX:b5≠vI:=by have:=bY.lt;omega
 (replace hw:=Ext.trans hw cg;replace bY:=bY.ext cg);obtain ⟨l1,l2⟩:=hl.rd.len;have hA:=hl.row.sl.base;have y1:=hy.cpu;have y2:=hy.fL;have y3:=hy.ty;refine Wz ?_;refine SW.alloc rfl fun qA w1 ab jd bw => ?_
 skip;refine SW.aj bw rfl rfl rfl rfl (qM y) fun w2 iI hg => ?_
 have ai:=ab.own jd hg;have kB:w.heap.size≤qA:=Nat.le_trans hw.size jd
 replace hw:=Ext.trans hw ai;replace bY:=bY.ext ai;replace bu:=bu.ext ai;replace bw:=iI;clear iI ab hg ai;refine Wz ?_;have cG:=ev L x;replace bw:aU w2 qA 142 (bg y):=bw;have z0:(bD L x 0).length=0:=by simp [bD]
 have q0:decide (aQ L x<0)=decide ((y.aw.n:Int)=0):=by rw [decide_eq_false (by omega),decide_eq_false (by omega)]
 refine CW.loop (fun t:Nat×Option Addr×Nat×List bP=>[(1,.int .i64 y.dq),(2,.int .i64 y.ay),(3,.int .i64 y.Ty),(5,.pointer (some ⟨b5,0,none⟩)),(10,.pointer (some ⟨vI,0,none⟩)),(11,.pointer (some ⟨qA,0,none⟩)),(12,.slice t.2.1 (bD L x t.1).length t.2.2.1),(13,.bool (decide (aQ L x<t.1))),(14,.int .i64 (t.1:Int))])
  (fun t w'=>t.1≤r.ak.n∧Ext w w'∧aU w' b5 41 (bl r)∧aU w' vI 41 (bl .zero)∧aU w' qA 142 (bg y)∧Own w' (qA+1) 142 4 bg t.2.1 (bD L x t.1).length t.2.2.1 t.2.2.2∧jD w' lo t.2.2.2 (bD L x t.1)) (fun t=>r.ak.n-t.1) (0,none,0,[])
  ⟨rfl,rfl,rfl,rfl,rfl,rfl,by simp only;rw [z0];rfl,by simp only;rw [q0];rfl,rfl,trivial⟩ ⟨by omega,hw,bY,bu,bw,by simpa [bD] using Own.er _ _ _ _ _ _,by simpa [bD] using jD.nil _ _⟩ ?_
 clear hw bY bu bw;rintro ⟨i,A,c,R⟩ w' ⟨hi,hw,bY,bu,bw,hO,hE⟩
 simp only at hi hO hE ⊢
 have hlen:(bD L x i).length≤i+1:=by
  unfold bD;split
  ·simp;omega
  ·split<;>simp<;>omega
 have yW:i≤aQ L x→(bD L x i).length≤i:=fun h=>by rw [bD,if_pos h];simp;omega
 have xB:∀ m:Nat,m≤r.ak.n→(m+1)*48≤140737488355328∧m+1≤9223372036854775807:=fun m hm=>by omega
 by_cases cy:i<r.ak.n
 ·have pp:(bD L x i).length≤r.ak.n:=by omega
  have jS:i<L.length:=by omega
  have th:i<ls.length:=by omega
  have wD:=hl.each.get i th jS;have e1:=wD.cpu;have e2:=wD.fL;have e3:=wD.ty;have g0:=hl.row.sl.fE cy (j:=0) (u := .int .i64 ls[i].dq) rfl;have g1:=hl.row.sl.fE cy (j:=1) (u := .int .i64 ls[i].ay) rfl;have g2:=hl.row.sl.fE cy (j:=2) (u := .int .i64 ls[i].Ty) rfl;obtain ⟨p,hp⟩ : ∃ p,decide (bk x L[i])=p:=⟨_,rfl⟩
  have cA:∀ w',a9 Tryz.prog 198 [.agg (bg y).toArray,.agg (bg ls[i]).toArray] w' fun v _=>v = .bool p:=fun w'=>by
   have:=pk y ls[i] x L[i] w' ⟨y1,y2,y3⟩ wD.rd.key
   rwa [hp] at this
  rcases Nat.lt_trichotomy i (aQ L x) with hk|hk|hk
  ·have ha:=pc hk;have DI:p=false:=by rw [← hp];exact decide_eq_false (jx ha).2.2
   subst DI;have GI : ¬ (ls[i].dq=y.dq∧ls[i].ay=y.ay∧ls[i].Ty=y.Ty):=by have:=(jx ha).1;unfold du at this;omega
   have ee:=uG hk;have el:(bD L x (i+1)).length=(bD L x i).length+1:=by rw [ee];simp
   have d0:decide (aQ L x<i)=false:=decide_eq_false (by omega)
   have d1:decide (aQ L x<i+1)=false:=decide_eq_false (by omega)
   rw [d0];repeat' (first|refine Wz ?_|((apply CW.aM mixed;(· kernel_rfl);rotate_left;intro w1 ab;replace hw:=Ext.trans hw ab;replace bY:=bY.ext ab;replace bu:=bu.ext ab;replace bw:=bw.ext ab;replace hO:=hO.ext ab;replace hE:=hE.ext ab;clear ab;rotate_right))|refine SW.dv rfl rfl rfl (fun h => ?_) (fun h => ?_)|refine SW.want rfl rfl ?_|refine SW.st (ag hw rfl g0) rfl ?_|refine SW.st (ag hw rfl g1) rfl ?_|refine SW.st (ag hw rfl g2) rfl ?_|refine SW.st (aA hw rfl rfl ((hl.row.sl.all cy))) rfl ?_|refine SW.bf rfl rfl (fun w1 ab=>(cA _)) ?_|exact SW.br rfl)
   all_goals try omega
   all_goals
    refine SW.bW rfl rfl rfl rfl rfl fun b w4 ai hb hB => ?_
    (replace hw:=Ext.trans hw ai;replace bY:=bY.ext ai;replace bu:=bu.ext ai;replace bw:=bw.ext ai;replace hO:=hO.ext ai;replace hE:=hE.ext ai);refine SW.append hO (aU.kf (enc:=bg) (x:=ls[i]) hB) bw.lt rfl rfl rfl (xB _ pp).1 (xB _ pp).2 fun A2 c2 w5 e8 hg => ?_
    have hG:=hO.gr hg;replace hw:=aK hw hg (Nat.le_trans kB (Nat.le_succ _)) hO.aN;replace bw:=bw.grown hg (fun e=>Nat.not_succ_le_self _ (hO.aN qA e.symm));(replace bY:=bY.aD hG rfl;replace bu:=bu.aD hG rfl;replace hE:=hE.aD hG rfl);refine Wz ?_;refine ae.again (i+1,A2,c2,R++[ls[i]]) ⟨rfl,rfl,rfl,rfl,rfl,rfl,by simp only;rw [el];rfl,by simp only;rw [d1];rfl,rfl,trivial⟩ (by simp only;omega) ⟨by simp only;omega,hw,bY,bu,bw,by simp only;rw [el];exact e8,?_⟩;simp only;rw [ee];exact hE.snoc ((hl.each.get i th jS).ext hw)
  ·have eh:∃ q,ck L x=q:=⟨_,rfl⟩
   obtain ⟨q,hq⟩:=eh;have d0:decide (aQ L x<i)=false:=decide_eq_false (by omega)
   have d1:decide (aQ L x<i+1)=true:=decide_eq_true (by omega)
   have zM:(bD L x i).length+1≤r.ak.n:=by have:=yW (by omega);omega
   rw [d0];cases q
   ·have ha:bk x L[i]:=by
     have:=zP hq (by omega)
     simpa only [← hk] using this
    have DI:p=true:=by rw [← hp];exact decide_eq_true ha
    subst DI;have GI : ¬ (ls[i].dq=y.dq∧ls[i].ay=y.ay∧ls[i].Ty=y.Ty):=by have:=(jx ha).2.1;unfold du at this;omega
    have ee:=we hk jS hq;have el:(bD L x (i+1)).length=(bD L x i).length+1+1:=by rw [ee];simp
    repeat' (first|refine Wz ?_|((apply CW.aM mixed;(· kernel_rfl);rotate_left;intro w1 ab;replace hw:=Ext.trans hw ab;replace bY:=bY.ext ab;replace bu:=bu.ext ab;replace bw:=bw.ext ab;replace hO:=hO.ext ab;replace hE:=hE.ext ab;clear ab;rotate_right))|refine SW.want rfl rfl ?_|refine SW.st (aA hw rfl rfl ((hl.row.sl.all cy))) rfl ?_|refine SW.bf rfl rfl (fun w1 ab=>(cA _)) ?_|exact SW.br rfl)
    refine SW.bW rfl rfl rfl rfl rfl fun b w4 ai hb hB => ?_
    (replace hw:=Ext.trans hw ai;replace bY:=bY.ext ai;replace bu:=bu.ext ai;replace bw:=bw.ext ai;replace hO:=hO.ext ai;replace hE:=hE.ext ai);refine SW.append hO (aU.kf (enc:=bg) (x:=y) hB) bw.lt rfl rfl rfl (xB _ pp).1 (xB _ pp).2 fun A2 c2 w5 e8 hg => ?_
    have hG:=hO.gr hg;replace hw:=aK hw hg (Nat.le_trans kB (Nat.le_succ _)) hO.aN;replace bw:=bw.grown hg (fun e=>Nat.not_succ_le_self _ (hO.aN qA e.symm));(replace bY:=bY.aD hG rfl;replace bu:=bu.aD hG rfl;replace hE:=hE.aD hG rfl);replace hE:=hE.snoc (hy.ext hw);replace hO:=e8;clear e8;repeat' (first|refine Wz ?_|refine SW.dv rfl rfl rfl (fun h => ?_) (fun h => ?_)|refine SW.st (ag hw rfl g0) rfl ?_|refine SW.st (ag hw rfl g1) rfl ?_|refine SW.st (ag hw rfl g2) rfl ?_|refine SW.st (aA hw rfl rfl ((hl.row.sl.all cy))) rfl ?_)
    all_goals try omega
    all_goals
     refine SW.bW rfl rfl rfl rfl rfl fun b w4 ai hb hB => ?_
     (replace hw:=Ext.trans hw ai;replace bY:=bY.ext ai;replace bu:=bu.ext ai;replace bw:=bw.ext ai;replace hO:=hO.ext ai;replace hE:=hE.ext ai);refine SW.append hO (aU.kf (enc:=bg) (x:=ls[i]) hB) bw.lt rfl rfl rfl (xB _ zM).1 (xB _ zM).2 fun A2 c2 w5 nu hg => ?_
     have hG:=hO.gr hg;replace hw:=aK hw hg (Nat.le_trans kB (Nat.le_succ _)) hO.aN;replace bw:=bw.grown hg (fun e=>Nat.not_succ_le_self _ (hO.aN qA e.symm));(replace bY:=bY.aD hG rfl;replace bu:=bu.aD hG rfl;replace hE:=hE.aD hG rfl);refine Wz ?_;refine ae.again (i+1,A2,c2,R++[y]++[ls[i]]) ⟨rfl,rfl,rfl,rfl,rfl,rfl,by simp only;rw [el];rfl,by simp only;rw [d1];rfl,rfl,trivial⟩ (by simp only;omega) ⟨by simp only;omega,hw,bY,bu,bw,by simp only;rw [el];exact nu,?_⟩;simp only;rw [ee];exact hE.snoc ((hl.each.get i th jS).ext hw)
   ·obtain ⟨Il,pD⟩:=ik hq;have DJ:du L[i] x:=by simpa only [← hk] using pD
    have DI:p=false:=by rw [← hp];exact decide_eq_false (by unfold bk du at *;omega)
    subst DI;obtain ⟨k1,k2,k3⟩:=id DJ;have ee:=s8 hk hq;have el:(bD L x (i+1)).length=(bD L x i).length+1:=by rw [ee];simp
    repeat' (first|refine Wz ?_|(first|refine CW.cU rfl ?_|(apply CW.aM mixed;(· kernel_rfl);rotate_left;intro w1 ab;replace hw:=Ext.trans hw ab;replace bY:=bY.ext ab;replace bu:=bu.ext ab;replace bw:=bw.ext ab;replace hO:=hO.ext ab;replace hE:=hE.ext ab;clear ab;rotate_right))|refine SW.want rfl rfl ?_|refine SW.st (ag hw rfl g0) rfl ?_|refine SW.st (ag hw rfl g1) rfl ?_|refine SW.st (ag hw rfl g2) rfl ?_|refine SW.st (aA hw rfl rfl ((hl.row.sl.all cy))) rfl ?_|refine SW.bf rfl rfl (fun w1 ab=>(cA _)) ?_|exact SW.br rfl)
    all_goals try omega
    refine SW.bW rfl rfl rfl rfl rfl fun b w4 ai hb hB => ?_
    (replace hw:=Ext.trans hw ai;replace bY:=bY.ext ai;replace bu:=bu.ext ai;replace bw:=bw.ext ai;replace hO:=hO.ext ai;replace hE:=hE.ext ai);refine SW.append hO (aU.kf (enc:=bg) (x:=y) hB) bw.lt rfl rfl rfl (xB _ pp).1 (xB _ pp).2 fun A2 c2 w5 e8 hg => ?_
    have hG:=hO.gr hg;replace hw:=aK hw hg (Nat.le_trans kB (Nat.le_succ _)) hO.aN;replace bw:=bw.grown hg (fun e=>Nat.not_succ_le_self _ (hO.aN qA e.symm));(replace bY:=bY.aD hG rfl;replace bu:=bu.aD hG rfl;replace hE:=hE.aD hG rfl);refine Wz ?_;refine ae.again (i+1,A2,c2,R++[y]) ⟨rfl,rfl,rfl,rfl,rfl,rfl,by simp only;rw [el];rfl,by simp only;rw [d1];rfl,rfl,trivial⟩ (by simp only;omega) ⟨by simp only;omega,hw,bY,bu,bw,by simp only;rw [el];exact e8,?_⟩;simp only;rw [ee];exact hE.snoc (hy.ext hw)
  ·have Fy:aQ L x<L.length:=by omega
   have ha:bk x L[i]:=by
    have h0:=hs.get jS hk;have h1:=vB Fy;unfold bk at *;omega
   have GI : ¬ (ls[i].dq=y.dq∧ls[i].ay=y.ay∧ls[i].Ty=y.Ty):=by have:=(jx ha).2.1;unfold du at this;omega
   have ee:=s9 hk jS;have el:(bD L x (i+1)).length=(bD L x i).length+1:=by rw [ee];simp
   have d0:decide (aQ L x<i)=true:=decide_eq_true (by omega)
   have d1:decide (aQ L x<i+1)=true:=decide_eq_true (by omega)
   rw [d0];repeat' (first|refine Wz ?_|((apply CW.aM mixed;(· kernel_rfl);rotate_left;intro w1 ab;replace hw:=Ext.trans hw ab;replace bY:=bY.ext ab;replace bu:=bu.ext ab;replace bw:=bw.ext ab;replace hO:=hO.ext ab;replace hE:=hE.ext ab;clear ab;rotate_right))|refine SW.dv rfl rfl rfl (fun h => ?_) (fun h => ?_)|refine SW.skip rfl rfl rfl rfl ?_|refine SW.st (ag hw rfl g0) rfl ?_|refine SW.st (ag hw rfl g1) rfl ?_|refine SW.st (ag hw rfl g2) rfl ?_|refine SW.st (aA hw rfl rfl ((hl.row.sl.all cy))) rfl ?_|exact SW.br rfl)
   all_goals try omega
   all_goals
    refine SW.bW rfl rfl rfl rfl rfl fun b w4 ai hb hB => ?_
    (replace hw:=Ext.trans hw ai;replace bY:=bY.ext ai;replace bu:=bu.ext ai;replace bw:=bw.ext ai;replace hO:=hO.ext ai;replace hE:=hE.ext ai);refine SW.append hO (aU.kf (enc:=bg) (x:=ls[i]) hB) bw.lt rfl rfl rfl (xB _ pp).1 (xB _ pp).2 fun A2 c2 w5 e8 hg => ?_
    have hG:=hO.gr hg;replace hw:=aK hw hg (Nat.le_trans kB (Nat.le_succ _)) hO.aN;replace bw:=bw.grown hg (fun e=>Nat.not_succ_le_self _ (hO.aN qA e.symm));(replace bY:=bY.aD hG rfl;replace bu:=bu.aD hG rfl;replace hE:=hE.aD hG rfl);refine Wz ?_;refine ae.again (i+1,A2,c2,R++[ls[i]]) ⟨rfl,rfl,rfl,rfl,rfl,rfl,by simp only;rw [el];rfl,by simp only;rw [d1];rfl,rfl,trivial⟩ (by simp only;omega) ⟨by simp only;omega,hw,bY,bu,bw,by simp only;rw [el];exact e8,?_⟩;simp only;rw [ee];exact hE.snoc ((hl.each.get i th jS).ext hw)
 ·have ei:i=L.length:=by omega
  subst ei;by_cases hk:aQ L x<L.length
  ·have ee:=ta hk;rw [ee] at hO hE;rw [ee,decide_eq_true hk];repeat' (first|refine Wz ?_|(refine CW.cj rfl ?_))
   refine SW.bT (i:=3) bY rfl rfl rfl rfl fun w6 fg hg => ?_
   have hG:=bY.gr hg;replace hw:=hw.own mh hg;replace bu:=bu.grown hg (by simpa using Ne.symm yX);(replace hO:=hO.aD hG rfl;replace hE:=hE.aD hG rfl);refine Wz ?_;refine SW.aj bu rfl rfl rfl rfl (cV ⟨r.aI,r.bE,r.bt,⟨A,_,c⟩,r.Live⟩) fun w7 bV hg => ?_
   have hG:=bu.gr hg;replace hw:=hw.own rc hg;(replace hO:=hO.aD hG rfl;replace hE:=hE.aD hG rfl);refine Wz ?_;exact ae.jY rfl rfl bV rfl ⟨_,rfl,hw,⟨A,_,c⟩,R,rfl,⟨hO.low (by omega),hE.each⟩⟩
  ·have pp:(bD L x L.length).length≤r.ak.n:=by have:=yW (by omega);omega
   have ee:=tc hk;rw [decide_eq_false hk];repeat' (first|refine Wz ?_|(refine CW.cU rfl ?_))
   refine SW.bW rfl rfl rfl rfl rfl fun b w4 ai hb hB => ?_
   (replace hw:=Ext.trans hw ai;replace bY:=bY.ext ai;replace bu:=bu.ext ai;replace bw:=bw.ext ai;replace hO:=hO.ext ai;replace hE:=hE.ext ai);refine SW.append hO (aU.kf (enc:=bg) (x:=y) hB) bw.lt rfl rfl rfl (xB _ pp).1 (xB _ pp).2 fun A2 c2 w5 e8 hg => ?_
   have hG:=hO.gr hg;replace hw:=aK hw hg (Nat.le_trans kB (Nat.le_succ _)) hO.aN;replace bw:=bw.grown hg (fun e=>Nat.not_succ_le_self _ (hO.aN qA e.symm));(replace bY:=bY.aD hG rfl;replace bu:=bu.aD hG rfl;replace hE:=hE.aD hG rfl);replace hE:=hE.snoc (hy.ext hw);rw [ee] at hE;refine Wz ?_;refine SW.bT (i:=3) bY rfl rfl rfl rfl fun w6 fg hg => ?_
   have hG:=bY.gr hg;replace hw:=hw.own mh hg;replace bu:=bu.grown hg (by simpa using Ne.symm yX);(replace e8:=e8.aD hG rfl;replace hE:=hE.aD hG rfl);refine Wz ?_;refine SW.aj bu rfl rfl rfl rfl (cV ⟨r.aI,r.bE,r.bt,⟨A2,_,c2⟩,r.Live⟩) fun w7 bV hg => ?_
   have hG:=bu.gr hg;replace hw:=hw.own rc hg;(replace e8:=e8.aD hG rfl;replace hE:=hE.aD hG rfl);refine Wz ?_;exact ae.jY rfl rfl bV rfl ⟨_,rfl,hw,⟨A2,_,c2⟩,R++[y],rfl,⟨e8.low (by omega),hE.each⟩⟩
end Go.Proofs.YtbidkghlpijecaaGreatDoor
