/-
  Texts of the claim SlabAllocs, part 8: what its theorem leans on.
-/
import Derived.Test.YtjimadiidbkohaaGreatDoorPackSlabAllocs4
import Derived.Test.YtjimadiidbkohaaGreatDoorPackSlabAllocs2
import Derived.Test.YtjimadiidbkohaaGreatDoorPackSlabAllocs3
import Derived.Test.YtjimadiidbkohaaGreatDoorPackSlabAllocs7
import Derived.Test.YtjimadiidbkohaaGreatDoorPackSlabAllocs6
import Derived.Test.YtjimadiidbkohaaGreatDoorPackSlabAllocs5
set_option linter.unusedVariables false
set_option linter.unusedSimpArgs false
namespace Go.Proofs.YtjimadiidbkohaaGreatDoor
open Go.RowKit
theorem cQ (r:ez) : ∀ v∈bm r,v.oneCell'=true:=fB.one (enc:=bm) r
theorem sn (r:bL) : ∀ v∈bp r,v.oneCell'=true:=fB.one (enc:=bp) r
def yh (ls:List bL) : Prop := ∀ (i j:Nat) (hi:i<ls.length) (hj:j<ls.length),i≠j → ∀ g,aT ls[i].aw.A ls[i].aw.c=some g→aT ls[j].aw.A ls[j].aw.c≠some g
structure o7 (m:fE) (zs:List cq) (ls:List bL) : Prop where
 cj:∀ (i:Nat) (hi:i<ls.length) (g:Nat),aT ls[i].aw.A ls[i].aw.c=some g→aT m.A m.c≠some g
 types:∀ (i:Nat) (hi:i<ls.length) (g:Nat),aT ls[i].aw.A ls[i].aw.c=some g → ∀ u∈zs,aT u.Types.A u.Types.c≠some g
 sep:yh ls
theorem o7.nil (m:fE) (zs:List cq) : o7 m zs []:=⟨fun i hi=>by simp at hi,fun i hi=>by simp at hi,fun i j hi=>by simp at hi⟩
theorem o7.snoc {w:World} {lo:Nat} {m:fE} {zs:List cq} {ls:List bL} {s li:fE} {x:List Int} {zl:List aq} {L:List aB} {y:bL} (h:o7 m zs ls) (hm:Own w lo 3 1 bh m.A m.n m.c x) (hz:fU w lo s zs zl) (hl:cJ w lo li ls L) (hy:∀ g,aT y.aw.A y.aw.c=some g→w.heap.size≤g) : o7 m zs (ls++[y]):=by
 have c9:∀ (i:Nat) (hi:i<ls.length) (g:Nat),aT ls[i].aw.A ls[i].aw.c=some g→g<w.heap.size:=fun i hi g e=>(hl.each.get i hi (by rw [← hl.each.len];exact hi)).cr.lt_size g e
 have key:∀ (i:Nat) (hi:i<(ls++[y]).length),(∃ h:i<ls.length,(ls++[y])[i]=ls[i])∨(i=ls.length∧(ls++[y])[i]=y):=fun i hi=>by
  by_cases e:i<ls.length
  ·exact .inl ⟨e,List.getElem_append_left e⟩
  ·have:i=ls.length:=by simp at hi;omega
   subst this;exact .inr ⟨rfl,by simp⟩
 refine ⟨fun i hi g e => ?_,fun i hi g e u hu => ?_,fun i j hi hj kP g e e2 => ?_⟩
 ·rcases key i hi with ⟨h1,h2⟩|⟨h1,h2⟩
  ·rw [h2] at e;exact h.cj i h1 g e
  ·rw [h2] at e;intro e3;have:=hm.lt_size g e3;have:=hy g e;omega
 ·rcases key i hi with ⟨h1,h2⟩|⟨h1,h2⟩
  ·rw [h2] at e;exact h.types i h1 g e u hu
  ·rw [h2] at e;intro e3;obtain ⟨j,hj,rfl⟩:=List.getElem_of_mem hu;have:=(hz.each.get j hj (by rw [← hz.each.len];exact hj)).types.lt_size g e3
   have:=hy g e
   omega
 ·rcases key i hi with ⟨h1,h2⟩|⟨h1,h2⟩
  ·rw [h2] at e;rcases key j hj with ⟨h3,h4⟩|⟨h3,h4⟩
   ·rw [h4] at e2;exact h.sep i j h1 h3 kP g e e2
   ·rw [h4] at e2;have:=c9 i h1 g e;have:=hy g e2;omega
  ·rw [h2] at e;rcases key j hj with ⟨h3,h4⟩|⟨h3,h4⟩
   ·rw [h4] at e2;have:=c9 j h3 g e2;have:=hy g e;omega
   ·omega
def qY (lv:fE) (zs:List cq) : Prop := ∀ u∈zs,∀ g,aT u.ag.A u.ag.c=some g→aT lv.A lv.c≠some g
theorem qY.nil (lv:fE) : qY lv []:=fun u hu=>by simp at hu
theorem qY.snoc {w:World} {lo:Nat} {lv:fE} {zs:List cq} {x:List Block} {u:cq} (h:qY lv zs) (hl:Own w lo 77 3 az lv.A lv.n lv.c x) (hu:∀ g,aT u.ag.A u.ag.c=some g→w.heap.size≤g) : qY lv (zs++[u]):=fun y hy g e e2=>by
 rcases List.mem_append.1 hy with hy|hy
 ·exact h y hy g e e2
 ·simp at hy;subst hy;have:=hu g e
  have:=hl.lt_size g e2
  omega
structure Cq (w:World) (lo:Nat) (r:ez) (h:Heap) : Prop where
 own:iH w lo r h
 all:∃ zs ls,fU w lo r.aQ zs h.aQ∧cJ w lo r.av ls h.av∧o7 r.bH zs ls∧qY r.Live zs
set_option maxHeartbeats 4000000 in
theorem so (r:ez) (h:Heap) (w:World) (hr:v9 w r h) (hs:h.small) :
 bt Tryz.prog 43 [.agg (bm r).toArray] w fun v w' => ∃ s,v = .agg (bm s).toArray∧Cq w' w.heap.size s h:=by
 refine aL Tryz.func43 rfl Tryz.ntmps43 rfl ?_;refine CW.seq (CW.region (SW.box rfl rfl fun b1 w1 hw gK aA => ?_));refine SW.alloc rfl fun b2 w2 cw gQ aK => ?_
 have pH:w.heap.size≤b2:=Nat.le_trans hw.size gQ
 have yg:b2≠b1:=by have:=aA.lt;omega
 (replace hw:=Ext.trans hw cw;replace aA:=aA.ext cw);obtain ⟨zs,hz⟩:=hr.cK;obtain ⟨ls,hl⟩:=hr.lists;have Jh:=hr.cj.len;have F9:=hr.live.len;have s1:=hs.cj;have s2:=hs.live;have s3:=hs.cK;have s4:=hs.lists;obtain ⟨z1,z2⟩:=hz.len;obtain ⟨l1,l2⟩:=hl.len;refine Wz ?_
 obtain ⟨K,hK⟩ : ∃ K:Env→World→Prop,K=fun L' w' => ∃ X c1 Y d1 b3,ev L' [(1,.pointer (some ⟨b1,0,none⟩)),(2,.pointer (some ⟨b2,0,none⟩)),(3,.pointer (some ⟨b3,0,none⟩))]∧Ext w w'∧aJ w' b1 27 (bm r)∧aJ w' b2 27 (bm .zero) ∧
  aJ w' b3 27 (bm ⟨.nil,⟨X,r.bH.n,c1⟩,r.bW,.nil,⟨Y,r.Live.n,d1⟩⟩)∧Own w' w.heap.size 3 1 bh X r.bH.n c1 h.bH∧Own w' w.heap.size 77 3 az Y r.Live.n d1 h.Live∧w.heap.size≤b3∧b1≠b3∧b2≠b3:=⟨_,rfl⟩
 refine CW.cut K ?_ ?_
 ·refine CW.any 10 mixed (cl (by kernel_rfl)) rfl fun w1 ab aG => ?_
  replace hw:=Ext.trans hw ab;replace aA:=aA.ext ab;replace aK:=aK.ext ab;clear ab;refine Wa ?_;refine SA.two 2 9 rfl rfl (by kernel_rfl) rfl rfl ?_ ?_
  ·refine SW.call rfl rfl (ef _ _ _ _ _ (hr.cj.ext hw) (by omega)) fun v w4 aj hv => ?_
   obtain ⟨X,c4,rfl,hX⟩:=hv;replace hX:=hX.low hw.size;replace hw:=Ext.trans hw aj;replace aA:=aA.ext aj;replace aK:=aK.ext aj;try replace ar:=ar.ext aj
   refine SW.nil (ae.sa aj ?_);refine SA.two 7 9 rfl rfl (by kernel_rfl) rfl rfl ?_ ?_
   ·refine SW.call rfl rfl (iy _ _ _ _ _ (hr.live.ext hw) (by omega)) fun v w4 aj hv => ?_
    obtain ⟨Y,d4,rfl,hY⟩:=hv;replace hY:=hY.low hw.size;replace hX:=hX.ext aj;replace hw:=Ext.trans hw aj;replace aA:=aA.ext aj;replace aK:=aK.ext aj;try replace ar:=ar.ext aj
    refine SW.nil (ae.sa aj ?_);refine Wa ?_;refine SA.one 9 rfl (by kernel_rfl) rfl ?_;refine SW.alloc rfl fun b3 w4 aj bK ar => ?_
    have cn:w.heap.size≤b3:=Nat.le_trans hw.size bK
    have eu:b1≠b3:=by have:=aA.lt;omega
    have ed:b2≠b3:=by have:=aK.lt;omega
    replace hw:=Ext.trans hw aj;replace aA:=aA.ext aj;replace aK:=aK.ext aj;try replace hX:=hX.ext aj
    try replace hY:=hY.ext aj
    refine SW.nil (ae.sa aj ?_);refine SA.done (by kernel_rfl) ?_;skip;refine SW.ap ar rfl rfl rfl rfl (cQ ⟨.nil,⟨X,r.bH.n,c4⟩,r.bW,.nil,⟨Y,r.Live.n,d4⟩⟩) fun w5 bP hg => ?_
    have hG:=ar.gr hg;replace hw:=hw.own cn hg;(replace hX:=hX.ay hG rfl;replace hY:=hY.ay hG rfl);replace aA:=aA.grown hg (by simpa using eu);replace aK:=aK.grown hg (by simpa using ed);refine Wz ?_;exact ae.cut (K:=K) (by rw [hK];exact ⟨X,c4,Y,d4,b3,⟨rfl,rfl,rfl,trivial⟩,hw,aA,aK,bP,hX,hY,cn,eu,ed⟩)
   ·refine SW.alloc rfl fun b3 w4 aj bK ar => ?_
    have cn:w.heap.size≤b3:=Nat.le_trans hw.size bK
    have eu:b1≠b3:=by have:=aA.lt;omega
    have ed:b2≠b3:=by have:=aK.lt;omega
    replace hw:=Ext.trans hw aj;replace aA:=aA.ext aj;replace aK:=aK.ext aj;try replace hX:=hX.ext aj
    try replace hY:=hY.ext aj
    refine SW.nil (ae.sa aj ?_);refine SA.one 7 rfl (by kernel_rfl) rfl ?_;refine SW.call rfl rfl (iy _ _ _ _ _ (hr.live.ext hw) (by omega)) fun v w4 aj hv => ?_
    obtain ⟨Y,d4,rfl,hY⟩:=hv;replace hY:=hY.low hw.size;replace hX:=hX.ext aj;replace hw:=Ext.trans hw aj;replace aA:=aA.ext aj;replace aK:=aK.ext aj;try replace ar:=ar.ext aj
    refine SW.nil (ae.sa aj ?_);refine Wa ?_;refine SA.done (by kernel_rfl) ?_;skip;refine SW.ap ar rfl rfl rfl rfl (cQ ⟨.nil,⟨X,r.bH.n,c4⟩,r.bW,.nil,⟨Y,r.Live.n,d4⟩⟩) fun w5 bP hg => ?_
    have hG:=ar.gr hg;replace hw:=hw.own cn hg;(replace hX:=hX.ay hG rfl;replace hY:=hY.ay hG rfl);replace aA:=aA.grown hg (by simpa using eu);replace aK:=aK.grown hg (by simpa using ed);refine Wz ?_;exact ae.cut (K:=K) (by rw [hK];exact ⟨X,c4,Y,d4,b3,⟨rfl,rfl,rfl,trivial⟩,hw,aA,aK,bP,hX,hY,cn,eu,ed⟩)
  ·refine SW.alloc rfl fun b3 w4 aj bK ar => ?_
   have cn:w.heap.size≤b3:=Nat.le_trans hw.size bK
   have eu:b1≠b3:=by have:=aA.lt;omega
   have ed:b2≠b3:=by have:=aK.lt;omega
   replace hw:=Ext.trans hw aj;replace aA:=aA.ext aj;replace aK:=aK.ext aj;try replace hX:=hX.ext aj
   try replace hY:=hY.ext aj
   refine SW.nil (ae.sa aj ?_);refine SA.one 2 rfl (by kernel_rfl) rfl ?_;refine SW.call rfl rfl (ef _ _ _ _ _ (hr.cj.ext hw) (by omega)) fun v w4 aj hv => ?_
   obtain ⟨X,c4,rfl,hX⟩:=hv;replace hX:=hX.low hw.size;replace hw:=Ext.trans hw aj;replace aA:=aA.ext aj;replace aK:=aK.ext aj;try replace ar:=ar.ext aj
   refine SW.nil (ae.sa aj ?_);refine SA.one 7 rfl (by kernel_rfl) rfl ?_;refine SW.call rfl rfl (iy _ _ _ _ _ (hr.live.ext hw) (by omega)) fun v w4 aj hv => ?_
   obtain ⟨Y,d4,rfl,hY⟩:=hv;replace hY:=hY.low hw.size;replace hX:=hX.ext aj;replace hw:=Ext.trans hw aj;replace aA:=aA.ext aj;replace aK:=aK.ext aj;try replace ar:=ar.ext aj
   refine SW.nil (ae.sa aj ?_);refine Wa ?_;refine SA.done (by kernel_rfl) ?_;skip;refine SW.ap ar rfl rfl rfl rfl (cQ ⟨.nil,⟨X,r.bH.n,c4⟩,r.bW,.nil,⟨Y,r.Live.n,d4⟩⟩) fun w5 bP hg => ?_
   have hG:=ar.gr hg;replace hw:=hw.own cn hg;(replace hX:=hX.ay hG rfl;replace hY:=hY.ay hG rfl);replace aA:=aA.grown hg (by simpa using eu);replace aK:=aK.grown hg (by simpa using ed);refine Wz ?_;exact ae.cut (K:=K) (by rw [hK];exact ⟨X,c4,Y,d4,b3,⟨rfl,rfl,rfl,trivial⟩,hw,aA,aK,bP,hX,hY,cn,eu,ed⟩)
 ·clear aA aK hw;subst hK;rintro L' w' ⟨X,c4,Y,d4,b3,fq,hw,aA,aK,ar,hX,hY,cn,eu,ed⟩
  refine ae.sub fq ?_;refine Wz ?_
  refine CW.loop (fun s:Nat×Option Addr×Nat×List cq=>[(1,.pointer (some ⟨b1,0,none⟩)),(2,.pointer (some ⟨b2,0,none⟩)),(3,.pointer (some ⟨b3,0,none⟩)),(18,.slice r.aQ.A r.aQ.n r.aQ.c),(19,.int .i64 (r.aQ.n:Int)),(20,.int .i64 (s.1:Int))])
   (fun s w'=>s.1≤r.aQ.n∧Ext w w'∧aJ w' b1 27 (bm r)∧aJ w' b2 27 (bm .zero)∧aJ w' b3 27 (bm ⟨⟨s.2.1,s.1,s.2.2.1⟩,⟨X,r.bH.n,c4⟩,r.bW,.nil,⟨Y,r.Live.n,d4⟩⟩)∧Own w' w.heap.size 3 1 bh X r.bH.n c4 h.bH∧Own w' w.heap.size 77 3 az Y r.Live.n d4 h.Live ∧
     fU w' w.heap.size ⟨s.2.1,s.1,s.2.2.1⟩ s.2.2.2 (h.aQ.take s.1)∧qY ⟨Y,r.Live.n,d4⟩ s.2.2.2) (fun s=>r.aQ.n-s.1) (0,none,0,[]) ⟨rfl,rfl,rfl,rfl,rfl,rfl,trivial⟩ ⟨by omega,hw,aA,aK,ar,hX,hY,fU.nil _ _,qY.nil _⟩ ?_
  clear aA aK ar hX hY hw fq;rintro ⟨k,A,c,zr⟩ w' ⟨hk,hw,aA,aK,ar,hX,hY,hO,Ga⟩
  simp only at hk ar hO Ga ⊢;have hA:=hz.row.base;by_cases bY:k<r.aQ.n
  ·have As:=hz.each.get k (by omega) (by omega);have cf:h.aQ[k]'(by omega)∈h.aQ:=List.getElem_mem _
   have q:=hs.free _ cf;have q1:=As.free.len;have q2:=As.types.len;repeat' (first|refine Wz ?_|refine SW.st (aH hw rfl rfl ((hz.row.all bY))) rfl ?_)
   refine SW.alloc rfl fun b5 w1 ab ig cd => ?_
   skip;refine SW.ap cd rfl rfl rfl rfl (ct _) fun w2 fW hg => ?_
   have aj:=ab.own ig hg;have nE:w.heap.size≤b5:=Nat.le_trans hw.size ig
   replace hw:=Ext.trans hw aj;replace aA:=aA.ext aj;replace aK:=aK.ext aj;replace ar:=ar.ext aj;replace hX:=hX.ext aj;replace hY:=hY.ext aj;replace hO:=hO.ext aj;replace cd:=fW;clear fW ab hg aj;refine Wz ?_;refine CW.any 5 mixed (cl (by kernel_rfl)) rfl fun w1 ab aG => ?_
   replace hw:=Ext.trans hw ab;replace aA:=aA.ext ab;replace aK:=aK.ext ab;replace ar:=ar.ext ab;replace cd:=cd.ext ab;replace hX:=hX.ext ab;replace hY:=hY.ext ab;replace hO:=hO.ext ab;clear ab;refine Wa ?_;refine SA.one 3 rfl (by kernel_rfl) rfl ?_;refine SW.call rfl rfl (pG _ _ _ (As.ext hw) (by omega) (by omega)) fun v w4 aj hv => ?_
   obtain ⟨s,rfl,js,e1,e2⟩:=hv;have JZ:=Ga.snoc (u:=s) hY js.free.aM;replace js:=js.low hw.size;(replace hw:=Ext.trans hw aj;replace aA:=aA.ext aj;replace aK:=aK.ext aj;replace ar:=ar.ext aj;replace cd:=cd.ext aj;replace hX:=hX.ext aj;replace hY:=hY.ext aj;replace hO:=hO.ext aj);refine SW.nil (ae.sa aj ?_);refine SA.one 4 rfl (by kernel_rfl) rfl ?_;refine SW.bJ rfl rfl rfl rfl rfl fun b w4 aj hb hB => ?_
   (replace hw:=Ext.trans hw aj;replace aA:=aA.ext aj;replace aK:=aK.ext aj;replace ar:=ar.ext aj;replace cd:=cd.ext aj;replace hX:=hX.ext aj;replace hY:=hY.ext aj;replace hO:=hO.ext aj;replace js:=js.ext aj);refine SW.nil (ae.sa aj ?_);refine SA.done (by kernel_rfl) ?_;refine SW.append hO.row (aJ.mb (enc:=bo) hB) hw.size rfl rfl rfl (by simp only;omega) (by simp only;omega) fun A2 c2 w5 fT hg => ?_
   have hG:=hO.row.gr hg;replace hw:=aE hw hg (Nat.le_refl _) hO.row.aM;(replace aA:=aA.ay hG rfl;replace aK:=aK.ay hG rfl;replace ar:=ar.ay hG rfl;replace hX:=hX.ay hG rfl;replace hY:=hY.ay hG rfl;replace js:=js.ay hG rfl);have hE:=hO.each.mono fun _ _ h=>h.ay hG rfl
   refine Wz ?_;refine SW.bB (i:=0) ar rfl rfl rfl rfl fun w6 cS hg => ?_
   have hG:=ar.gr hg;replace hw:=hw.own cn hg;replace aA:=aA.grown hg (by simpa using eu);replace aK:=aK.grown hg (by simpa using ed);(replace hX:=hX.ay hG rfl;replace hY:=hY.ay hG rfl;replace js:=js.ay hG rfl;replace fT:=fT.ay hG rfl);replace hE:=hE.mono fun _ _ h=>h.ay hG rfl
   refine Wz ?_;refine ae.again (k+1,A2,c2,zr++[s]) ⟨rfl,rfl,rfl,rfl,rfl,rfl,trivial⟩ (by simp only;omega) ⟨by simp only;omega,hw,aA,aK,cS,hX,hY,⟨fT,?_⟩,JZ⟩;rw [List.take_succ_eq_append_getElem (by omega)];exact hE.snoc js
  ·obtain rfl:k=r.aQ.n:=by omega
   rw [List.take_of_length_le (by omega)] at hO;refine Wz ?_
   refine CW.loop (fun s:Nat×Option Addr×Nat×List bL=>[(2,.pointer (some ⟨b2,0,none⟩)),(3,.pointer (some ⟨b3,0,none⟩)),(33,.slice r.av.A r.av.n r.av.c),(34,.int .i64 (r.av.n:Int)),(35,.int .i64 (s.1:Int))])
    (fun s w'=>s.1≤r.av.n∧Ext w w'∧aJ w' b2 27 (bm .zero)∧aJ w' b3 27 (bm ⟨⟨A,r.aQ.n,c⟩,⟨X,r.bH.n,c4⟩,r.bW,⟨s.2.1,s.1,s.2.2.1⟩,⟨Y,r.Live.n,d4⟩⟩)∧Own w' w.heap.size 3 1 bh X r.bH.n c4 h.bH∧Own w' w.heap.size 77 3 az Y r.Live.n d4 h.Live ∧
      fU w' w.heap.size ⟨A,r.aQ.n,c⟩ zr h.aQ∧cJ w' w.heap.size ⟨s.2.1,s.1,s.2.2.1⟩ s.2.2.2 (h.av.take s.1)∧o7 ⟨X,r.bH.n,c4⟩ zr s.2.2.2) (fun s=>r.av.n-s.1) (0,none,0,[]) ⟨rfl,rfl,rfl,rfl,rfl,trivial⟩ ⟨by omega,hw,aK,ar,hX,hY,hO,cJ.nil _ _,o7.nil _ _⟩ ?_
   clear aA aK ar hX hY hw hO;rintro ⟨k,B,d,lr⟩ w' ⟨hk,hw,aK,ar,hX,hY,hO,hP,wN⟩
   simp only at hk ar hP wN ⊢;have hA:=hl.row.base;by_cases bY:k<r.av.n
   ·have tS:=hl.each.get k (by omega) (by omega);have cf:h.av[k]'(by omega)∈h.av:=List.getElem_mem _
    have q:=hs.cr _ cf;have q1:=tS.cr.len;repeat' (first|refine Wz ?_|refine SW.st (aH hw rfl rfl ((hl.row.all bY))) rfl ?_)
    have Gb:=hP.row.lt_size;refine SW.alloc rfl fun b7 w1 ab lc jS => ?_
    skip;refine SW.ap jS rfl rfl rfl rfl (sn _) fun w2 dF hg => ?_
    have aj:=ab.own lc hg;have qS:w.heap.size≤b7:=Nat.le_trans hw.size lc
    replace hw:=Ext.trans hw aj;replace aK:=aK.ext aj;replace ar:=ar.ext aj;replace hX:=hX.ext aj;replace hY:=hY.ext aj;replace hO:=hO.ext aj;replace hP:=hP.ext aj;replace jS:=dF;clear dF ab hg aj;refine Wz ?_;refine SW.call rfl rfl (ef _ _ _ _ _ (tS.cr.ext hw) (by omega)) fun v w4 aj hv => ?_
    obtain ⟨W,e4,rfl,hW⟩:=hv;replace wN:=wN.snoc (y:=⟨ls[k].dL,ls[k].aq,ls[k].Ty,⟨W,ls[k].aw.n,e4⟩⟩) hX hO hP hW.aM;replace hW:=hW.low hw.size;(replace hw:=Ext.trans hw aj;replace aK:=aK.ext aj;replace ar:=ar.ext aj;replace jS:=jS.ext aj;replace hX:=hX.ext aj;replace hY:=hY.ext aj;replace hO:=hO.ext aj;replace hP:=hP.ext aj);refine Wz ?_;refine SW.bB (i:=3) jS rfl rfl rfl rfl fun w5 dF hg => ?_
    have hG:=jS.gr hg;replace hw:=hw.own qS hg;(replace aK:=aK.ay hG rfl;replace ar:=ar.ay hG rfl;replace hX:=hX.ay hG rfl;replace hY:=hY.ay hG rfl;replace hO:=hO.ay hG rfl;replace hW:=hW.ay hG rfl);replace hP:cJ w5 w.heap.size ⟨B,k,d⟩ lr (h.av.take k):=⟨hP.row.grown hg (.inr (fun e=>by have:=Gb _ e;omega)),hP.each.mono fun _ _ h=>h.ay hG rfl⟩;refine Wz ?_;refine SW.bJ rfl rfl rfl rfl rfl fun b w6 aj hb hB => ?_
    (replace hw:=Ext.trans hw aj;replace aK:=aK.ext aj;replace ar:=ar.ext aj;replace hX:=hX.ext aj;replace hY:=hY.ext aj;replace hO:=hO.ext aj;replace hP:=hP.ext aj;replace hW:=hW.ext aj);refine SW.append hP.row (aJ.mb (enc:=bp) (x:=⟨ls[k].dL,ls[k].aq,ls[k].Ty,⟨W,_,e4⟩⟩) hB) hw.size rfl rfl rfl (by simp only;omega) (by simp only;omega) fun A2 c2 w7 Gc hg => ?_
    have hG:=hP.row.gr hg;replace hw:=aE hw hg (Nat.le_refl _) hP.row.aM;(replace aK:=aK.ay hG rfl;replace ar:=ar.ay hG rfl;replace hX:=hX.ay hG rfl;replace hY:=hY.ay hG rfl;replace hO:=hO.ay hG rfl;replace hW:=hW.ay hG rfl);have hE:=hP.each.mono fun _ _ h=>h.ay hG rfl
    refine Wz ?_;refine SW.bB (i:=3) ar rfl rfl rfl rfl fun w8 cS hg => ?_
    have hG:=ar.gr hg;replace hw:=hw.own cn hg;replace aK:=aK.grown hg (by simpa using ed);(replace hX:=hX.ay hG rfl;replace hY:=hY.ay hG rfl;replace hO:=hO.ay hG rfl;replace Gc:=Gc.ay hG rfl;replace hW:=hW.ay hG rfl);replace hE:=hE.mono fun _ _ h=>h.ay hG rfl
    refine Wz ?_;refine ae.again (k+1,A2,c2,lr++[⟨ls[k].dL,ls[k].aq,ls[k].Ty,⟨W,_,e4⟩⟩]) ⟨rfl,rfl,rfl,rfl,rfl,trivial⟩ (by simp only;omega) ⟨by simp only;omega,hw,aK,cS,hX,hY,hO,⟨Gc,?_⟩,wN⟩;rw [List.take_succ_eq_append_getElem (by omega)];exact hE.snoc ⟨tS.cpu,tS.fp,tS.ty,hW⟩
   ·obtain rfl:k=r.av.n:=by omega
    rw [List.take_of_length_le (by omega)] at hP;refine Wz ?_;refine SW.ap aK rfl rfl rfl rfl (cQ _) fun w5 bP hg => ?_
    have hG:=aK.gr hg;replace hw:=hw.own pH hg;(replace hX:=hX.ay hG rfl;replace hY:=hY.ay hG rfl;replace hO:=hO.ay hG rfl;replace hP:=hP.ay hG rfl);refine Wz ?_;exact ae.me rfl rfl bP rfl ⟨_,rfl,hw,⟨⟨A,r.aQ.n,c⟩,⟨X,r.bH.n,c4⟩,r.bW,⟨B,r.av.n,d⟩,⟨Y,r.Live.n,d4⟩⟩,rfl,⟨hr.dU,hX,hY,⟨zr,hO⟩,⟨lr,hP⟩⟩,zr,lr,hO,hP,wN,Ga⟩
theorem pU (r:ez) (h:Heap) (w:World) (hr:v9 w r h) (hs:h.small) :
 bt Tryz.prog 43 [.agg (bm r).toArray] w fun v w' => ∃ s,v = .agg (bm s).toArray∧iH w' w.heap.size s h :=
 (so r h w hr hs).mono fun _ _ _ ⟨s,hv,ho⟩=>⟨s,hv,ho.own⟩
open Go.RowKit
set_option maxHeartbeats 4000000 in
theorem vn (r s:ez) (h:Heap) (w:World) (ha:v9 w r h) (hb:v9 w s h) (hs:h.small) :
 bt Tryz.prog 19 [.agg (bm r).toArray,.agg (bm s).toArray] w fun v _=>v = .bool true:=by
 refine aL Tryz.func19 rfl Tryz.ntmps19 rfl ?_;refine CW.seq (CW.region (SW.box rfl rfl fun b2 w1 hw gQ aK => ?_));refine SW.box rfl rfl fun b3 w2 cw bK ar => ?_
 (replace hw:=Ext.trans hw cw;replace aK:=aK.ext cw);obtain ⟨zs,hz⟩:=ha.cK;obtain ⟨ls,hl⟩:=ha.lists;obtain ⟨Ly,lF⟩:=hb.cK;obtain ⟨vo,xR⟩:=hb.lists;obtain ⟨z1,z2⟩:=hz.len;obtain ⟨l1,l2⟩:=hl.len;obtain ⟨z3,z4⟩:=lF.len;obtain ⟨l3,l4⟩:=xR.len;have s1:=hs.cj;have s2:=hs.live;have s3:=hs.cK;have s4:=hs.lists;have m1:=ha.cj.len;have m2:=ha.live.len;have e1:=ha.dU;have e2:=hb.dU
 have cM:∀ w',Ext w w'→bt Tryz.prog 11 [.slice r.bH.A r.bH.n r.bH.c,.slice s.bH.A s.bH.n s.bH.c] w' fun v _=>v = .bool true:=fun w' hx=>by
  have:=iw _ _ _ _ r.bH.c s.bH.c _ _ w' (ha.cj.ext hx) (hb.cj.ext hx) (by omega)
  simpa using this
 have cL:∀ w',Ext w w'→bt Tryz.prog 32 [.slice r.Live.A r.Live.n r.Live.c,.slice s.Live.A s.Live.n s.Live.c] w' fun v _=>v = .bool true:=fun w' hx=>by
  have:=mC _ _ _ _ r.Live.c s.Live.c _ _ w' (ha.live.ext hx) (hb.live.ext hx) (by omega)
  simpa using this
 repeat' (first|refine Wz ?_|(refine CW.bA rfl ?_)|refine SW.want rfl rfl ?_|((first|refine SW.call rfl rfl (cM _ hw) ?_|refine SW.call rfl rfl (cL _ hw) ?_);intro v w1 ab hv;subst hv;replace hw:=Ext.trans hw ab;replace aK:=aK.ext ab;replace ar:=ar.ext ab;clear ab))
 all_goals try omega
 refine CW.loop (fun k:Nat=>[(2,.pointer (some ⟨b2,0,none⟩)),(3,.pointer (some ⟨b3,0,none⟩)),(5,.int .i64 (k:Int))]) (fun k w'=>k≤r.aQ.n∧Ext w w'∧aJ w' b2 27 (bm r)∧aJ w' b3 27 (bm s)) (fun k=>r.aQ.n-k) 0
  ⟨rfl,rfl,rfl,trivial⟩ ⟨by omega,hw,aK,ar⟩ ?_
 clear hw aK ar;rintro k w' ⟨hk,hw,aK,ar⟩
 have hA:=hz.row.base;have hB:=lF.row.base;by_cases bY:k<r.aQ.n
 ·have Cr:k<s.aQ.n:=by omega
  have As:=hz.each.get k (by omega) (by omega);have J0:=lF.each.get k (by omega) (by omega);have q:=hs.free _ (List.getElem_mem (show k<h.aQ.length by omega));have q1:=As.free.len;have q2:=As.types.len
  have cZ:∀ w',Ext w w'→bt Tryz.prog 33 [.agg (bo zs[k]).toArray,.agg (bo Ly[k]).toArray] w' fun v _=>v = .bool true:=fun w' hx=>by
   have:=va zs[k] Ly[k] _ _ w' (As.ext hx) (J0.ext hx) (by omega) (by omega)
   simpa using this
  repeat' (first|refine Wz ?_|(first|refine CW.bA rfl ?_|(apply CW.aO mixed;(· kernel_rfl);rotate_left;intro w1 ab;replace hw:=Ext.trans hw ab;replace aK:=aK.ext ab;replace ar:=ar.ext ab;clear ab;rotate_right))|refine SW.st (aH hw rfl rfl ((hz.row.all bY))) rfl ?_|refine SW.st (aH hw rfl rfl ((lF.row.all Cr))) rfl ?_|refine SW.bq rfl rfl (fun w1 ab=>(cZ _ (Ext.trans hw ab))) ?_|exact SW.bx rfl)
  exact ae.again (k+1) ⟨rfl,rfl,rfl,trivial⟩ (by omega) ⟨by omega,hw,aK,ar⟩
 ·refine Wz ?_;clear bY hk hA hB
  refine CW.loop (fun k:Nat=>[(2,.pointer (some ⟨b2,0,none⟩)),(3,.pointer (some ⟨b3,0,none⟩)),(6,.int .i64 (k:Int))]) (fun k w'=>k≤r.av.n∧Ext w w'∧aJ w' b2 27 (bm r)∧aJ w' b3 27 (bm s)) (fun k=>r.av.n-k) 0
   ⟨rfl,rfl,rfl,trivial⟩ ⟨by omega,hw,aK,ar⟩ ?_
  clear hw aK ar;rintro k w' ⟨hk,hw,aK,ar⟩
  have hA:=hl.row.base;have hB:=xR.row.base;by_cases bY:k<r.av.n
  ·have Cr:k<s.av.n:=by omega
   have tS:=hl.each.get k (by omega) (by omega);have Ea:=xR.each.get k (by omega) (by omega);have q:=hs.cr _ (List.getElem_mem (show k<h.av.length by omega));have q1:=tS.cr.len;have g1:=tS.cpu;have g2:=tS.fp;have g3:=tS.ty;have g4:=Ea.cpu;have g5:=Ea.fp;have g6:=Ea.ty
   have cP:∀ w',Ext w w'→bt Tryz.prog 11 [.slice ls[k].aw.A ls[k].aw.n ls[k].aw.c,.slice vo[k].aw.A vo[k].aw.n vo[k].aw.c] w' fun v _=>v = .bool true:=fun w' hx=>by
    have:=iw _ _ _ _ ls[k].aw.c vo[k].aw.c _ _ w' (tS.cr.ext hx) (Ea.cr.ext hx) (by omega)
    simpa using this
   repeat' (first|refine Wz ?_|refine SW.st (aH hw rfl rfl ((hl.row.all bY))) rfl ?_)
   refine SW.alloc rfl fun b7 w1 ab lc jS => ?_
   skip;refine SW.ap jS rfl rfl rfl rfl (sn _) fun w2 dF hg => ?_
   have aj:=ab.own lc hg;have qS:w.heap.size≤b7:=Nat.le_trans hw.size lc
   replace hw:=Ext.trans hw aj;replace aK:=aK.ext aj;replace ar:=ar.ext aj;replace jS:=dF;clear dF ab hg aj;repeat' (first|refine Wz ?_|refine SW.st (aH hw rfl rfl ((xR.row.all Cr))) rfl ?_)
   refine SW.alloc rfl fun b8 w1 ab kR bu => ?_
   skip;refine SW.ap bu rfl rfl rfl rfl (sn _) fun w2 iQ hg => ?_
   have aj:=ab.own kR hg;have jl:w.heap.size≤b8:=Nat.le_trans hw.size kR
   replace hw:=Ext.trans hw aj;replace aK:=aK.ext aj;replace ar:=ar.ext aj;replace jS:=jS.ext aj;replace bu:=iQ;clear iQ ab hg aj;repeat' (first|refine Wz ?_|(refine CW.bA rfl ?_)|(refine SW.call rfl rfl (cP _ hw) ?_;intro v w1 ab hv;subst hv;replace hw:=Ext.trans hw ab;replace aK:=aK.ext ab;replace ar:=ar.ext ab;clear ab))
   all_goals try omega
   exact ae.again (k+1) ⟨rfl,rfl,rfl,trivial⟩ (by omega) ⟨by omega,hw,aK,ar⟩
  ·refine Wz ?_;exact ae.aN rfl rfl ⟨_,rfl,hw,rfl⟩
open Go.RowKit
theorem tT (A:Option Addr) (n c:Nat) (l:List Slab) (w:World) (hl:Sl w 3 aZ A n l) (hn:n*24≤140737488355328) : bt Tryz.prog 45 [.slice A n c] w (pF w 48 3 aZ n l):=by
 refine aL Tryz.func45 rfl Tryz.ntmps45 rfl ?_;have hw:=Ext.refl w;refine Wz ?_;refine SW.st (oG rfl rfl) rfl ?_;repeat' (first|refine Wz ?_|(refine CW.cond rfl (fun h => ?_) (fun h => ?_)))
 ·have DW:n=0:=by
   rcases Nat.eq_zero_or_pos n with h0|h0
   ·exact h0
   ·have:=hl.base h0;simp_all
  subst DW;have:l=[]:=List.eq_nil_of_length_eq_zero hl.len
  subst this;exact ae.aN rfl rfl ⟨_,rfl,hw,none,0,rfl,Own.eR _ _ _ _ _ _⟩
 ·refine SW.uZ rfl fun b w1 ab hb => ?_
  replace hw:=Ext.trans hw ab;refine Wz ?_;refine SW.rm (Nat.zero_add n) (List.nil_append l) (Own.eR w1 w.heap.size _ _ aZ (some ⟨b,0,none⟩)) (hl.ext hw) hw.size rfl rfl rfl (by omega) (by omega) fun A2 c2 w2 hO hg => ?_
  replace hw:=aE hw hg (Nat.le_refl _) (by simp [aT]);refine Wz ?_;exact ae.aN rfl rfl ⟨_,rfl,hw,A2,c2,rfl,hO⟩
open Go.RowKit
structure bd where
 Names:List ByteArray
 bf:Int
 ck:Int
 Order:Int
 ai:List Slab
 au:List Int
structure aF where
 Words:List Int
 Heap:Heap
 aa:List bd
def encStr (s:ByteArray) : List Value:=[.string s]
instance:fB encStr 1:=⟨fun _=>rfl,fun r u hu=>by simp [encStr] at hu;subst hu;rfl⟩
structure dn where
 Names:fE
 bf:Int
 ck:Int
 Order:Int
 ai:fE
 au:fE
def db (r:dn) : List Value:=[r.Names.v,.int .i64 r.bf,.int .i64 r.ck,.int .i64 r.Order,r.ai.v,r.au.v]
instance:fB db 6:=⟨fun _=>rfl,fun r u hu=>by simp [db,fE.v] at hu;rcases hu with rfl|rfl|rfl|rfl|rfl|rfl<;>rfl⟩
structure dV where
 Words:fE
 Heap:ez
 aa:fE
def aU (r:dV) : List Value:=[r.Words.v,r.Heap.aQ.v,r.Heap.bH.v,.int .i64 r.Heap.bW,r.Heap.av.v,r.Heap.Live.v,r.aa.v]
instance:fB aU 7:=⟨fun _=>rfl,fun r u hu=>by simp [aU,fE.v] at hu;rcases hu with rfl|rfl|rfl|rfl|rfl|rfl|rfl<;>rfl⟩
def dV.zero:dV:=⟨.nil,.zero,.nil⟩
theorem sq (r:dn) : ∀ v∈db r,v.oneCell'=true:=fB.one (enc:=db) r
theorem dD (r:dV) : ∀ v∈aU r,v.oneCell'=true:=fB.one (enc:=aU) r
theorem gR {w:World} {b t:Nat} {r:dV} (h:aJ w b t (aU r)) : ∀ j v,(bm r.Heap)[j]?=some v→w.cell? ((((⟨b,0,none⟩ : Addr)).add 1).add j)=some v:=fun j v hv=>by
 rw [add_add];refine h.cell (i:=1+j) ?_
 match j,hv with
 | 0,hv=>exact hv
 | 1,hv=>exact hv
 | 2,hv=>exact hv
 | 3,hv=>exact hv
 | 4,hv=>exact hv
 | j+5,hv=>simp [bm] at hv
theorem Own.E0 {α:Type} {w:World} {lo:Nat} {e:TypeId} {sz:Nat} {enc : α → List Value} {A:Option Addr} {n c:Nat} {l:List α} (h:Own w lo e sz enc A n c l) : n≤c:=by
 rcases h.row with ⟨rfl,rfl⟩|⟨_,_,_,_,_,_,h,_⟩
 ·exact Nat.le_refl _
 ·exact h
structure BC (w:World) (r:dn) (c:bd) : Prop where
 size:r.bf=c.bf
 jd:r.ck=c.ck
 order:r.Order=c.Order
 names:Sl w 1 encStr r.Names.A r.Names.n c.Names
 aR:Sl w 3 aZ r.ai.A r.ai.n c.ai
 a9:Sl w 1 bh r.au.A r.au.n c.au
 cap:r.au.n≤r.au.c
structure mr (w:World) (lo:Nat) (r:dn) (c:bd) : Prop where
 size:r.bf=c.bf
 jd:r.ck=c.ck
 order:r.Order=c.Order
 names:Own w lo 9 1 encStr r.Names.A r.Names.n r.Names.c c.Names
 aR:Own w lo 48 3 aZ r.ai.A r.ai.n r.ai.c c.ai
 a9:Own w lo 3 1 bh r.au.A r.au.n r.au.c c.au
section
variable {w w':World} {lo nj t:Nat} {r:dn} {c:bd}
theorem BC.ext (h:BC w r c) (hx:Ext w w') : BC w' r c:=⟨h.size,h.jd,h.order,h.names.ext hx,h.aR.ext hx,h.a9.ext hx,h.cap⟩
theorem mr.ext (h:mr w lo r c) (hx:Ext w w') : mr w' lo r c:=⟨h.size,h.jd,h.order,h.names.ext hx,h.aR.ext hx,h.a9.ext hx⟩
theorem mr.low (h:mr w lo r c) (hl:nj≤lo) : mr w nj r c:=⟨h.size,h.jd,h.order,h.names.low hl,h.aR.low hl,h.a9.low hl⟩
theorem mr.rd (h:mr w lo r c) : BC w r c:=⟨h.size,h.jd,h.order,h.names.sl,h.aR.sl,h.a9.sl,h.a9.E0⟩
theorem mr.ay (h:mr w lo r c) (hG:n9 w w' t) (cG:(Nat.beq t 9 || (Nat.beq t 48 || Nat.beq t 3))=false) : mr w' lo r c:=by
 simp only [Bool.or_eq_false_iff] at cG;exact ⟨h.size,h.jd,h.order,h.names.ay hG cG.1,h.aR.ay hG cG.2.1,h.a9.ay hG cG.2.2⟩
end
structure yi (w:World) (s:fE) (cs:List dn) (l:List bd) : Prop where
 row:Sl w 6 db s.A s.n cs
 each:ey (BC w) cs l
 cap:s.n≤s.c
structure eE (w:World) (lo:Nat) (s:fE) (cs:List dn) (l:List bd) : Prop where
 row:Own w lo 46 6 db s.A s.n s.c cs
 each:ey (mr w lo) cs l
section
variable {w w':World} {lo nj t:Nat} {s:fE} {cs:List dn} {l:List bd}
theorem yi.ext (h:yi w s cs l) (hx:Ext w w') : yi w' s cs l:=⟨h.row.ext hx,h.each.mono fun _ _ h=>h.ext hx,h.cap⟩
theorem eE.ext (h:eE w lo s cs l) (hx:Ext w w') : eE w' lo s cs l:=⟨h.row.ext hx,h.each.mono fun _ _ h=>h.ext hx⟩
theorem eE.rd (h:eE w lo s cs l) : yi w s cs l:=⟨h.row.sl,h.each.mono fun _ _ h=>h.rd,h.row.E0⟩
theorem eE.ay (h:eE w lo s cs l) (hG:n9 w w' t) (cG:(Nat.beq t 46 || (Nat.beq t 9 || (Nat.beq t 48 || Nat.beq t 3)))=false) : eE w' lo s cs l:=by
 rw [Bool.or_eq_false_iff] at cG;exact ⟨h.row.ay hG cG.1,h.each.mono fun _ _ h=>h.ay hG cG.2⟩
theorem eE.nil (w:World) (lo:Nat) : eE w lo .nil [] []:=⟨Own.eR _ _ _ _ _ _,.nil⟩
theorem yi.len (h:yi w s cs l) : cs.length=s.n∧l.length=s.n:=⟨h.row.len,by rw [← h.each.len,h.row.len]⟩
theorem eE.cU {b:Nat} {vs:List Value} (h:eE w lo s cs l) (hB:aJ w b 46 vs) (hg:w.grownBy w' (some b)) (c9:∀ k,aT s.A s.c=some k→k<nj) (hm:nj≤b) : eE w' lo s cs l :=
 ⟨h.row.grown hg (.inr (fun e=>by have:=c9 _ e;omega)),h.each.mono fun _ _ h=>h.ay (hB.gr hg) rfl⟩
end
structure ry (w:World) (r:dV) (s:aF) : Prop where
 words:Sl w 1 bh r.Words.A r.Words.n s.Words
 heap:v9 w r.Heap s.Heap
 dN:∃ cs,yi w r.aa cs s.aa
structure tU (w:World) (lo:Nat) (r:dV) (s:aF) : Prop where
 words:Own w lo 3 1 bh r.Words.A r.Words.n r.Words.c s.Words
 heap:iH w lo r.Heap s.Heap
 dN:∃ cs,eE w lo r.aa cs s.aa
section
variable {w w':World} {lo nj t:Nat} {r:dV} {s:aF}
theorem ry.ext (h:ry w r s) (hx:Ext w w') : ry w' r s:=by
 obtain ⟨cs,hc⟩:=h.dN;exact ⟨h.words.ext hx,h.heap.ext hx,⟨cs,hc.ext hx⟩⟩
theorem tU.ext (h:tU w lo r s) (hx:Ext w w') : tU w' lo r s:=by
 obtain ⟨cs,hc⟩:=h.dN;exact ⟨h.words.ext hx,h.heap.ext hx,⟨cs,hc.ext hx⟩⟩
theorem tU.rd (h:tU w lo r s) : ry w r s:=by
 obtain ⟨cs,hc⟩:=h.dN;exact ⟨h.words.sl,h.heap.rd,⟨cs,hc.rd⟩⟩
end
structure bd.small (c:bd) : Prop where
 names:c.Names.length*16≤140737488355328
 aR:c.ai.length*24≤140737488355328
 a9:c.au.length*8≤140737488355328
structure aF.small (s:aF) : Prop where
 words:s.Words.length*8≤140737488355328
 heap:s.Heap.small
 dN:s.aa.length*96≤140737488355328
 each:∀ c∈s.aa,c.small
end Go.Proofs.YtjimadiidbkohaaGreatDoor
set_option maxRecDepth 100000
namespace Go.Proofs.YtjimadiidbkohaaGreatDoor
open Go.ChangeShapes Go.WideShapes Go.ChangeAt Go.RowKit Go.Deep Go.Joins
section
variable {H:Type} {enc:TypeId×Value→H} {W:World} {base:Nat} {spare:Nat→Bool} {held:Bool} {fuel:Nat} {cs:List Value} {x:DataW H×List MemPlace}
theorem zK {α:Type} {t e sz:Nat} [S:bw Tryz.prog t e sz] {x:DataW H×List MemPlace} {A:Option Addr} {n c:Nat} (h:DataW.trod enc Tryz.prog W base spare held fuel t cs=some x) (ic:cs=[.slice A n c]) : n≤c:=by
 rcases open_slice S.ko h with ⟨h1,h2⟩|⟨a,len,cap,m,k,D,Pl,h1,hb,hl,hm,Jc,hx,hi⟩
 ·rw [ic] at h1;simp at h1;omega
 ·rw [ic] at h1;simp at h1;omega
theorem zL:∀ fuel cs x,DataW.trod enc Tryz.prog W base spare held fuel 9 cs=some x→(∀ y∈x.1.weights Tryz.prog 9,y≤reachBytes) → ∃ s:ByteArray,cs=encStr s∧s.size≤140737488351232:=by
 intro fuel cs x h hw;obtain ⟨s,rfl,rfl,_⟩:=DataW.trod_string Tryz.underlying9 h;refine ⟨s,rfl,?_⟩;have:=hw s.data.toList.length (by simp [DataW.weights])
 simp only [reachBytes] at this;simpa using this
theorem Cs:∀ fuel cs x,DataW.trod enc Tryz.prog W base spare held fuel 48 cs=some x→(∀ y∈x.1.weights Tryz.prog 48,y≤reachBytes) → ∃ r:Slab,cs=aZ r∧sk r.At:=by
 intro fuel cs x h _;obtain ⟨xs,n,_,_,hlen,jI,hf⟩:=DataW.trod_struct Tryz.underlying48 h;have hc:Tryz.prog.cellsOf 48=3:=by kernel_rfl
 have hi:Tryz.prog.cellsOf 3=1:=by kernel_rfl
 rw [hc] at hlen
 match cs,hlen with
 | [c0,c1,c2],_ =>
   match xs,jI with
   | [y0,y1,y2],_ =>
     have h0:DataW.trod enc Tryz.prog W base spare held n 3 (List.take (Tryz.prog.cellsOf 3) (List.drop 0 [c0,c1,c2]))=some y0:=hf 0 _ rfl
     have h1:DataW.trod enc Tryz.prog W base spare held n 3 (List.take (Tryz.prog.cellsOf 3) (List.drop 1 [c0,c1,c2]))=some y1:=hf 1 _ rfl
     have h2:DataW.trod enc Tryz.prog W base spare held n 3 (List.take (Tryz.prog.cellsOf 3) (List.drop 2 [c0,c1,c2]))=some y2:=hf 2 _ rfl
     rw [hi] at h0 h1 h2;obtain ⟨a,ha,wa⟩:=gu Tryz.underlying3 h0;obtain ⟨b,hb,wb⟩:=gu Tryz.underlying3 h1;obtain ⟨c,BB,wc⟩:=gu Tryz.underlying3 h2;simp [bh] at ha hb BB;subst ha hb BB;exact ⟨⟨a,b,c⟩,rfl,wa⟩
structure bd.og (c:bd) : Prop where
 small:c.small
 size:sk c.bf∧sk c.ck∧sk c.Order
 names:∀ s∈c.Names,s.size≤140737488351232
 aR:∀ x∈c.ai,sk x.At
theorem Au:∀ fuel cs x,DataW.trod enc Tryz.prog W base spare held fuel 46 cs=some x→(∀ y∈x.1.weights Tryz.prog 46,y≤reachBytes) → ∃ r:dn,cs=db r ∧ ∃ c:bd,BC W r c∧c.og:=by
 intro fuel cs x h hw;obtain ⟨xs,n,_,rfl,hlen,jI,hf⟩:=DataW.trod_struct Tryz.underlying46 h;have hc:Tryz.prog.cellsOf 46=6:=by kernel_rfl
 have hi:Tryz.prog.cellsOf 3=1:=by kernel_rfl
 have HZ:Tryz.prog.cellsOf 43=1:=by kernel_rfl
 have JY:Tryz.prog.cellsOf 44=1:=by kernel_rfl
 have MN:Tryz.prog.cellsOf 22=1:=by kernel_rfl
 rw [hc] at hlen
 match cs,hlen with
 | [c0,c1,c2,c3,c4,c5],_ =>
   match xs,jI with
   | [y0,y1,y2,y3,y4,y5],_ =>
     have h0:DataW.trod enc Tryz.prog W base spare held n 43 (List.take (Tryz.prog.cellsOf 43) (List.drop 0 [c0,c1,c2,c3,c4,c5]))=some y0:=hf 0 _ rfl
     have h1:DataW.trod enc Tryz.prog W base spare held n 3 (List.take (Tryz.prog.cellsOf 3) (List.drop 1 [c0,c1,c2,c3,c4,c5]))=some y1:=hf 1 _ rfl
     have h2:DataW.trod enc Tryz.prog W base spare held n 3 (List.take (Tryz.prog.cellsOf 3) (List.drop 2 [c0,c1,c2,c3,c4,c5]))=some y2:=hf 2 _ rfl
     have h3:DataW.trod enc Tryz.prog W base spare held n 3 (List.take (Tryz.prog.cellsOf 3) (List.drop 3 [c0,c1,c2,c3,c4,c5]))=some y3:=hf 3 _ rfl
     have h4:DataW.trod enc Tryz.prog W base spare held n 44 (List.take (Tryz.prog.cellsOf 44) (List.drop 4 [c0,c1,c2,c3,c4,c5]))=some y4:=hf 4 _ rfl
     have h5:DataW.trod enc Tryz.prog W base spare held n 22 (List.take (Tryz.prog.cellsOf 22) (List.drop 5 [c0,c1,c2,c3,c4,c5]))=some y5:=hf 5 _ rfl
     rw [HZ] at h0;rw [hi] at h1 h2 h3;rw [JY] at h4;rw [MN] at h5;have w0:=fa Tryz.underlying46 (j:=0) rfl rfl hw;have w4:=fa Tryz.underlying46 (j:=4) rfl rfl hw;have w5:=fa Tryz.underlying46 (j:=5) rfl rfl hw;obtain ⟨A0,n0,k0,l0,e0,s0,b0,g0⟩:=fv (t:=43) (b:=16) (by kernel_rfl) (by kernel_rfl) zL h0 w0;obtain ⟨a,ha,wa⟩:=gu Tryz.underlying3 h1;obtain ⟨b,hb,wb⟩:=gu Tryz.underlying3 h2;obtain ⟨c,BB,wc⟩:=gu Tryz.underlying3 h3;obtain ⟨A4,n4,k4,l4,e4,s4,b4,g4⟩:=fv (t:=44) (b:=24) (by kernel_rfl) (by kernel_rfl) Cs h4 w4;obtain ⟨A5,n5,k5,l5,e5,s5,b5,_⟩:=fv (t:=22) (b:=8) (by kernel_rfl) (by kernel_rfl) (o6 Tryz.underlying3) h5 w5;have kc:=zK (α := Int) h5 e5;simp [bh] at e0 ha hb BB e4 e5;subst e0 ha hb BB e4 e5;refine ⟨⟨⟨A0,n0,k0⟩,a,b,c,⟨A4,n4,k4⟩,⟨A5,n5,k5⟩⟩,rfl,⟨l0,a,b,c,l4,l5⟩,⟨rfl,rfl,rfl,s0,s4,s5,kc⟩,⟨?_,?_,?_⟩,⟨wa,wb,wc⟩,g0,g4⟩
     ·simp only [s0.len];omega
     ·simp only [s4.len];omega
     ·simp only [s5.len];omega
structure aF.og (s:aF) : Prop where
 small:s.small
 heap:s.Heap.og
 dN:∀ c∈s.aa,c.og
theorem yj:∀ fuel cs x,DataW.trod enc Tryz.prog W base spare held fuel 30 cs=some x→(∀ y∈x.1.weights Tryz.prog 30,y≤reachBytes) → ∃ r:dV,cs=aU r ∧ ∃ s:aF,ry W r s∧s.og:=by
 intro fuel cs x h hw;obtain ⟨xs,n,_,rfl,hlen,jI,hf⟩:=DataW.trod_struct Tryz.underlying30 h;have hc:Tryz.prog.cellsOf 30=7:=by kernel_rfl
 have HZ:Tryz.prog.cellsOf 22=1:=by kernel_rfl
 have HY:Tryz.prog.cellsOf 27=5:=by kernel_rfl
 have F8:Tryz.prog.cellsOf 28=1:=by kernel_rfl
 rw [hc] at hlen
 match cs,hlen with
 | [c0,c1,c2,c3,c4,c5,c6],_ =>
   match xs,jI with
   | [y0,y1,y2],_ =>
     have h0:DataW.trod enc Tryz.prog W base spare held n 22 (List.take (Tryz.prog.cellsOf 22) (List.drop 0 [c0,c1,c2,c3,c4,c5,c6]))=some y0:=hf 0 _ rfl
     have h1:DataW.trod enc Tryz.prog W base spare held n 27 (List.take (Tryz.prog.cellsOf 27) (List.drop 1 [c0,c1,c2,c3,c4,c5,c6]))=some y1:=hf 1 _ rfl
     have h2:DataW.trod enc Tryz.prog W base spare held n 28 (List.take (Tryz.prog.cellsOf 28) (List.drop 6 [c0,c1,c2,c3,c4,c5,c6]))=some y2:=hf 2 _ rfl
     rw [HZ] at h0;rw [HY] at h1;rw [F8] at h2;have w0:=fa Tryz.underlying30 (j:=0) rfl rfl hw;have w1:=fa Tryz.underlying30 (j:=1) rfl rfl hw;have w2:=fa Tryz.underlying30 (j:=2) rfl rfl hw;obtain ⟨A0,n0,k0,l0,e0,s0,b0,_⟩:=fv (t:=22) (b:=8) (by kernel_rfl) (by kernel_rfl) (o6 Tryz.underlying3) h0 w0;obtain ⟨hr,e1,hh,hR,hG⟩:=Cp _ _ _ h1 w1;obtain ⟨A2,n2,k2,l2,e2,s2,b2,g2⟩:=fv (t:=28) (b:=96) (by kernel_rfl) (by kernel_rfl) Au h2 w2;obtain ⟨C,hC⟩:=rv l2 g2;have kc:=zK (α := dn) h2 e2;simp [bm] at e0 e1 e2;obtain ⟨MO,MP,MQ,MR,MS⟩:=e1;subst e0 MO MP MQ MR MS e2;refine ⟨⟨⟨A0,n0,k0⟩,hr,⟨A2,n2,k2⟩⟩,rfl,⟨l0,hh,C⟩,⟨s0,hR,⟨l2,s2,hC.mono fun _ _ h=>h.1,kc⟩⟩,⟨?_,hG.small,?_,?_⟩,hG,?_⟩
     ·simp only [s0.len];omega
     ·simp only [← hC.len,s2.len];omega
     ·intro z hz;obtain ⟨i,hi,rfl⟩:=List.getElem_of_mem hz;exact (hC.get i (by have:=hC.len;simp only at hi;omega) hi).2.small
     ·intro z hz;obtain ⟨i,hi,rfl⟩:=List.getElem_of_mem hz;exact (hC.get i (by have:=hC.len;simp only at hi;omega) hi).2
theorem wO {r:Reach} {b0:Nat} {v:Value} {d:DataW H} {p:List MemPlace} (hv:Value.okWide Tryz.prog W r b0 30 v) (h:DataW.Trod enc Tryz.prog W base spare held 30 v d p) (hw:∀ y∈d.weights Tryz.prog 30,y≤reachBytes) :
 ∃ (r:dV) (s:aF),v = .agg (aU r).toArray∧ry W r s∧s.og:=by
 obtain ⟨cs,rfl,ui⟩:=okWide_struct Tryz.underlying30 hv;obtain ⟨fuel,hf⟩:=h;obtain ⟨r,hr,hh,h1,h2⟩:=yj _ _ _ hf hw;refine ⟨r,hh,?_,h1,h2⟩;have:cs.toList=aU r:=hr
 rw [← this]
theorem Ct {r:Reach} {b0:Nat} {v:Value} {d:DataW H} {p:List MemPlace} (hv:Value.okWide Tryz.prog W r b0 9 v) (h:DataW.Trod enc Tryz.prog W base spare held 9 v d p) (hw:∀ y∈d.weights Tryz.prog 9,y≤reachBytes) :
 ∃ s:ByteArray,v = .string s∧s.size≤140737488351232:=by
 obtain ⟨s,rfl⟩:=okWide_string Tryz.underlying9 hv;obtain ⟨fuel,hf⟩:=h;obtain ⟨s',hs,hz⟩:=zL _ _ _ hf hw;simp [Value.cells,encStr] at hs;subst hs;exact ⟨_,rfl,hz⟩
end
open Go.RowKit
theorem vp (A:Option Addr) (n c:Nat) (l:List ByteArray) (w:World) (hl:Sl w 1 encStr A n l) (hn:n*16≤140737488355328) : bt Tryz.prog 44 [.slice A n c] w (pF w 9 1 encStr n l):=by
 refine aL Tryz.func44 rfl Tryz.ntmps44 rfl ?_;have hw:=Ext.refl w;refine Wz ?_;refine SW.st (oG rfl rfl) rfl ?_;repeat' (first|refine Wz ?_|(refine CW.cond rfl (fun h => ?_) (fun h => ?_)))
 ·have DW:n=0:=by
   rcases Nat.eq_zero_or_pos n with h0|h0
   ·exact h0
   ·have:=hl.base h0;simp_all
  subst DW;have:l=[]:=List.eq_nil_of_length_eq_zero hl.len
  subst this;exact ae.aN rfl rfl ⟨_,rfl,hw,none,0,rfl,Own.eR _ _ _ _ _ _⟩
 ·refine SW.uZ rfl fun b w1 ab hb => ?_
  replace hw:=Ext.trans hw ab;refine Wz ?_;refine SW.rm (Nat.zero_add n) (List.nil_append l) (Own.eR w1 w.heap.size _ _ encStr (some ⟨b,0,none⟩)) (hl.ext hw) hw.size rfl rfl rfl (by omega) (by omega) fun A2 c2 w2 hO hg => ?_
  replace hw:=aE hw hg (Nat.le_refl _) (by simp [aT]);refine Wz ?_;exact ae.aN rfl rfl ⟨_,rfl,hw,A2,c2,rfl,hO⟩
open Go.RowKit
def apart (a b:fE) : Prop := ∀ k,aT a.A a.c=some k→aT b.A b.c≠some k
theorem jT {α:Type} {w:World} {lo:Nat} {e:TypeId} {sz:Nat} {enc : α → List Value} {a b:fE} {l:List α} (h:Own w lo e sz enc a.A a.n a.c l) (hb:∀ k,aT b.A b.c=some k→w.heap.size≤k) : apart a b:=fun k h1 h2=>by
 have:=h.lt_size k h1
 have:=hb k h2
 omega
structure jw (u v:dn) : Prop where
 names:apart u.Names v.Names
 aR:apart u.ai v.ai
 a9:apart u.au v.au
structure vq (words:fE) (cs:List dn) : Prop where
 pair:cs.Pairwise jw
 words:∀ u∈cs,apart words u.au
theorem vq.nil (x:fE) : vq x []:=⟨.nil,fun _ h=>by simp at h⟩
theorem vq.snoc {x:fE} {cs:List dn} {v:dn} (h:vq x cs) (h1:∀ u∈cs,jw u v) (h2:apart x v.au) : vq x (cs++[v]):=by
 refine ⟨List.pairwise_append.2 ⟨h.pair,by simp,fun a ha b hb => ?_⟩,fun u hu => ?_⟩
 ·simp at hb;subst hb;exact h1 a ha
 ·rcases List.mem_append.1 hu with hu|hu
  ·exact h.words u hu
  ·simp at hu;subst hu;exact h2
theorem eE.mem {w:World} {lo:Nat} {s:fE} {cs:List dn} {l:List bd} (h:eE w lo s cs l) {u:dn} (hu:u∈cs) : ∃ c,mr w lo u c:=by
 obtain ⟨i,hi,rfl⟩:=List.getElem_of_mem hu;exact ⟨_,h.each.get i hi (by rw [← h.each.len];exact hi)⟩
theorem eE.Lz {w:World} {lo:Nat} {s:fE} {cs:List dn} {l:List bd} (h:eE w lo s cs l) {b:fE} (hb:∀ k,aT b.A b.c=some k→w.heap.size≤k) : ∀ u∈cs,apart u.Names b:=fun u hu=>by
 obtain ⟨c,hc⟩:=h.mem hu;exact jT hc.names hb
theorem eE.LA {w:World} {lo:Nat} {s:fE} {cs:List dn} {l:List bd} (h:eE w lo s cs l) {b:fE} (hb:∀ k,aT b.A b.c=some k→w.heap.size≤k) : ∀ u∈cs,apart u.ai b:=fun u hu=>by
 obtain ⟨c,hc⟩:=h.mem hu;exact jT hc.aR hb
theorem eE.LB {w:World} {lo:Nat} {s:fE} {cs:List dn} {l:List bd} (h:eE w lo s cs l) {b:fE} (hb:∀ k,aT b.A b.c=some k→w.heap.size≤k) : ∀ u∈cs,apart u.au b:=fun u hu=>by
 obtain ⟨c,hc⟩:=h.mem hu;exact jT hc.a9 hb
open Go.RowKit
def Marks (w:World) (b N:Nat) : Option (List Block)→Prop
 | some bs=>aJ w b 105 (e8 (dM bs) N false)
 | none => ∃ p,aJ w b 105 (e8 p N true)
theorem Marks.ext {w w':World} {b N:Nat} {s:Option (List Block)} (h:Marks w b N s) (hx:Ext w w') : Marks w' b N s:=by
 cases s with
 | none=>obtain ⟨p,h⟩:=h;exact ⟨p,aJ.ext h hx⟩
 | some bs=>exact aJ.ext h hx
theorem Marks.bad {w:World} {b N:Nat} {s:Option (List Block)} (h:Marks w b N s) (hN:N=256) : w.cell? ((⟨b,0,none⟩ : Addr).add 256)=some (.bool s.isNone):=by
 subst hN;cases s with
 | none=>obtain ⟨p,h⟩:=h;exact aJ.cell h (r5 _ _ _)
 | some bs=>exact aJ.cell h (r5 _ _ _)
theorem Marks.gr {w w':World} {b N:Nat} {s:Option (List Block)} (h:Marks w b N s) (hg:w.grownBy w' (some b)) : n9 w w' 105:=by
 cases s with
 | none=>obtain ⟨p,h⟩:=h;exact aJ.gr h hg
 | some bs=>exact aJ.gr h hg
theorem pV (b:Nat) (s:Option (List Block)) (x:Block) (N:Nat) (hN:N=256) (w:World) (hM:Marks w b N s) (hs:mJ s) (hp : 1≤pw x.Order∧pw x.Order≤16) :
 gL Tryz.prog 62 [.pointer (some ⟨b,0,none⟩),.int .i64 x.At,.int .i64 (pw x.Order)] w fun v w'=>Marks w' b N (jJ s x)∧w.grownBy w' (some b):=by
 cases s with
 | none =>
   obtain ⟨p,hB⟩:=hM;refine ⟨Calls.mono (wB b p true N hN x.At (pw x.Order) w hB ⟨by omega,hp.2⟩).out ?_⟩;rintro e w' ⟨v,he,p',Ak,qR,hg,h⟩
   refine ⟨v,he,?_,hg⟩;have:Ak=true:=by rcases h with ⟨_,h,_⟩|⟨_,h⟩<;>exact h
   subst this;exact ⟨p',qR⟩
 | some bs =>
   refine ⟨Calls.mono (wB b (dM bs) false N hN x.At (pw x.Order) w hM ⟨by omega,hp.2⟩).out ?_⟩;rintro e w' ⟨v,he,p',Ak,qR,hg,h⟩
   refine ⟨v,he,?_,hg⟩;have H4:=rr (hs bs rfl) (b:=x) hp.1;rcases h with ⟨h1,rfl,rfl⟩|⟨h1,rfl⟩
   ·have:jJ (some bs) x=some (bs++[x]):=by simp [jJ,H4.1 h1]
    rw [this];show aJ w' b _ _
    rw [← lM (fun i _=>Ca bs x i)];exact qR
   ·have:jJ (some bs) x=none:=by
     simp only [jJ];rw [if_neg (fun hf=>h1 (H4.2 hf))]
    rw [this];exact ⟨p',qR⟩
theorem pW (r s:bL) (a b:aB) (w:World) (ha:r.dL=a.dL∧r.aq=a.aq∧r.Ty=a.Ty) (hb:s.dL=b.dL∧s.aq=b.aq∧s.Ty=b.Ty) :
 bt Tryz.prog 96 [.agg (bp r).toArray,.agg (bp s).toArray] w fun v _=>v = .bool (decide (bz a b)):=by
 refine aL Tryz.func96 rfl Tryz.ntmps96 rfl ?_;refine CW.seq (CW.region (SW.box rfl rfl fun b2 w1 hw gQ aK => ?_));refine SW.box rfl rfl fun b3 w2 cw bK ar => ?_
 (replace hw:=Ext.trans hw cw;replace aK:=aK.ext cw);obtain ⟨a1,a2,a3⟩:=ha;obtain ⟨b1,J1,J2⟩:=hb;have key:bz a b↔(r.dL<s.dL∨(r.dL=s.dL∧(r.aq<s.aq∨(r.aq=s.aq∧r.Ty<s.Ty)))):=by unfold bz;rw [a1,a2,a3,b1,J1,J2]
 by_cases h1:r.dL<s.dL
 ·rw [decide_eq_true (key.2 (by omega))];refine Wz ?_;all_goals first|(exfalso;omega)|exact ae.aN rfl rfl ⟨_,rfl,hw,by simp [h1]⟩
 ·by_cases h2:r.dL=s.dL
  ·by_cases h3:r.aq<s.aq
   ·rw [decide_eq_true (key.2 (by omega))];refine Wz ?_;all_goals first|(exfalso;omega)|exact ae.aN rfl rfl ⟨_,rfl,hw,by simp [h3]⟩
   ·by_cases h4:r.aq=s.aq
    ·by_cases h5:r.Ty<s.Ty
     ·rw [decide_eq_true (key.2 (by omega))];refine Wz ?_;all_goals first|(exfalso;omega)|exact ae.aN rfl rfl ⟨_,rfl,hw,by simp [h5]⟩
     ·rw [decide_eq_false (fun h=>by have:=key.1 h;omega)];refine Wz ?_;all_goals first|(exfalso;omega)|exact ae.aN rfl rfl ⟨_,rfl,hw,by simp [h5]⟩
    ·rw [decide_eq_false (fun h=>by have:=key.1 h;omega)];refine Wz ?_;all_goals first|(exfalso;omega)|exact ae.aN rfl rfl ⟨_,rfl,hw,by simp [h3]⟩
  ·rw [decide_eq_false (fun h=>by have:=key.1 h;omega)];refine Wz ?_;all_goals first|(exfalso;omega)|exact ae.aN rfl rfl ⟨_,rfl,hw,by simp [h1]⟩
theorem sr (r s:bL) (a b:aB) (w:World) (ha:r.dL=a.dL∧r.aq=a.aq∧r.Ty=a.Ty) (hb:s.dL=b.dL∧s.aq=b.aq∧s.Ty=b.Ty) :
 bt Tryz.prog 82 [.agg (bp r).toArray,.agg (bp s).toArray] w fun v _=>v = .bool (decide (bz a b)):=by
 refine aL Tryz.func82 rfl Tryz.ntmps82 rfl ?_;refine CW.seq (CW.region (SW.box rfl rfl fun b2 w1 hw gQ aK => ?_));refine SW.box rfl rfl fun b3 w2 cw bK ar => ?_
 (replace hw:=Ext.trans hw cw;replace aK:=aK.ext cw);obtain ⟨a1,a2,a3⟩:=ha;obtain ⟨b1,J1,J2⟩:=hb;have key:bz a b↔(r.dL<s.dL∨(r.dL=s.dL∧(r.aq<s.aq∨(r.aq=s.aq∧r.Ty<s.Ty)))):=by unfold bz;rw [a1,a2,a3,b1,J1,J2]
 by_cases h1:r.dL<s.dL
 ·rw [decide_eq_true (key.2 (by omega))];refine Wz ?_;all_goals first|(exfalso;omega)|exact ae.aN rfl rfl ⟨_,rfl,hw,by simp [h1]⟩
 ·by_cases h2:r.dL=s.dL
  ·by_cases h3:r.aq<s.aq
   ·rw [decide_eq_true (key.2 (by omega))];refine Wz ?_;all_goals first|(exfalso;omega)|exact ae.aN rfl rfl ⟨_,rfl,hw,by simp [h3]⟩
   ·by_cases h4:r.aq=s.aq
    ·by_cases h5:r.Ty<s.Ty
     ·rw [decide_eq_true (key.2 (by omega))];refine Wz ?_;all_goals first|(exfalso;omega)|exact ae.aN rfl rfl ⟨_,rfl,hw,by simp [h5]⟩
     ·rw [decide_eq_false (fun h=>by have:=key.1 h;omega)];refine Wz ?_;all_goals first|(exfalso;omega)|exact ae.aN rfl rfl ⟨_,rfl,hw,by simp [h5]⟩
    ·rw [decide_eq_false (fun h=>by have:=key.1 h;omega)];refine Wz ?_;all_goals first|(exfalso;omega)|exact ae.aN rfl rfl ⟨_,rfl,hw,by simp [h3]⟩
  ·rw [decide_eq_false (fun h=>by have:=key.1 h;omega)];refine Wz ?_;all_goals first|(exfalso;omega)|exact ae.aN rfl rfl ⟨_,rfl,hw,by simp [h1]⟩
structure tV (w:World) (r:ez) (h:Heap) (r0 r1:cq) (z0 z1:aq) : Prop where
 rd:v9 w r h
 eq:h.aQ=[z0,z1]
 n:r.aQ.n=2
 row:Sl w 4 bo r.aQ.A r.aQ.n [r0,r1]
 z0:tN w r0 z0
 z1:tN w r1 z1
theorem tV.ext {w w':World} {r:ez} {h:Heap} {r0 r1:cq} {z0 z1:aq} (a:tV w r h r0 r1 z0 z1) (hx:Ext w w') : tV w' r h r0 r1 z0 z1 :=
 ⟨a.rd.ext hx,a.eq,a.n,a.row.ext hx,a.z0.ext hx,a.z1.ext hx⟩
theorem tV.c0 {w:World} {r:ez} {h:Heap} {r0 r1:cq} {z0 z1:aq} (a:tV w r h r0 r1 z0 z1) (j:Nat) (u:Value) (hu:(bo r0)[j]?=some u) : w.cell? (((r.aQ.A.getD default).add (0*4)).add j)=some u:=a.row.cell 0 (by simp) j u hu
theorem tV.c1 {w:World} {r:ez} {h:Heap} {r0 r1:cq} {z0 z1:aq} (a:tV w r h r0 r1 z0 z1) (j:Nat) (u:Value) (hu:(bo r1)[j]?=some u) : w.cell? (((r.aQ.A.getD default).add (1*4)).add j)=some u:=a.row.cell 1 (by simp) j u hu
theorem pX {α:Type} {l:List α} (h:l.length=2) : ∃ a b,l=[a,b]:=by
 match l,h with
 | [a,b],_=>exact ⟨a,b,rfl⟩
theorem v9.two {w:World} {r:ez} {h:Heap} (a:v9 w r h) (hl:h.aQ.length=2) : ∃ r0 r1 z0 z1,tV w r h r0 r1 z0 z1:=by
 obtain ⟨zs,hz⟩:=a.cK;obtain ⟨z0,z1,e1⟩:=pX hl;have l0:=hz.each.len;obtain ⟨r0,r1,e2⟩:=pX (show zs.length=2 by omega);subst e2;have l1:=hz.row.len;have h0:=hz.each.get 0 (by simp) (by omega);have h1:=hz.each.get 1 (by simp) (by omega);simp only [e1] at h0 h1;exact ⟨r0,r1,z0,z1,a,e1,by simpa using l1.symm,hz.row,h0,h1⟩
theorem Av (r:ez) (h:Heap) (r0 r1:cq) (z0 z1:aq) (x:Int) (w:World) (hr:tV w r h r0 r1 z0 z1) :
 bt Tryz.prog 97 [.agg (bm r).toArray,.int .i64 x] w fun v _=>v = .int .i64 (if x<z0.To then 0 else 1):=by
 refine aL Tryz.func97 rfl Tryz.ntmps97 rfl ?_;refine CW.seq (CW.region (SW.box rfl rfl fun b2 w1 hw gQ aK => ?_));have hn:=hr.n;have hA:=hr.row.base;have e1:=hr.z0.jZ;by_cases hx:x<z0.To
 ·rw [if_pos hx];repeat' (first|refine Wz ?_|refine SW.st (aY (0) rfl rfl (by assumption) (by omega) (by omega)) rfl ?_|refine SW.st (ao hw rfl (hr.c0 1 _ rfl)) rfl ?_)
  exact ae.aN rfl rfl ⟨_,rfl,hw,rfl⟩
 ·rw [if_neg hx];repeat' (first|refine Wz ?_|refine SW.st (aY (0) rfl rfl (by assumption) (by omega) (by omega)) rfl ?_|refine SW.st (ao hw rfl (hr.c0 1 _ rfl)) rfl ?_)
  exact ae.aN rfl rfl ⟨_,rfl,hw,rfl⟩
def wP (l:List Block) : Prop:=l.Pairwise gI
theorem lP {y o:Int} (h0 : 0≤o) (h4:o<4) (hm:y % pw o=0) : beside (beside y o) o=y∧(beside y o=y+pw o∨beside y o=y-pw o):=by
 unfold beside;have hp:=eg h0 (show o≤4 by omega);generalize pw o=q at *
 rcases hp with ⟨e,rfl⟩|⟨e,rfl⟩|⟨e,rfl⟩|⟨e,rfl⟩|⟨e,rfl⟩<;>(refine ⟨?_,?_⟩<;>split<;>(try split)<;>omega)
theorem wQ {z:aq} (h:bR z) : wP z.ag:=by
 have hu:=ld h;unfold wP;rw [List.pairwise_iff_getElem];intro i j hi hj kP;by_cases e:j=i+1
 ·subst e;exact h.next i hj
 ·refine ⟨fk hu hj kP,fun hh => ?_⟩;obtain ⟨h1,h2,h3⟩:=hh;have g1:=fk hu (show i+1<z.ag.length by omega) (Nat.lt_succ_self i);have g2:=fk hu hj (show i+1<j by omega);have b1:=(h.cU (i+1) (by omega)).1;have b2:=(h.cU j hj).1;have p1:=bG b1.1 b1.2.1;have p2:=(lP b2.1 h1 b2.2.2.2.2).2;have p3:=bG b2.1 b2.2.1;rw [h2] at g1;omega
theorem Aw {a o:Int} (h0 : 0≤o) (h4:o<4) (hm:a % pw o=0) (t1 t2 t3:Int) (i:Nat) : pO ⟨min a (beside a o),o+1,t1⟩ i=(pO ⟨a,o,t2⟩ i || pO ⟨beside a o,o,t3⟩ i):=by
 have h1:=(lP h0 h4 hm).2;have h2:=ja h0 (show o≤4 by omega);have h3:=bG h0 (show o≤4 by omega);rw [Bool.eq_iff_iff];simp only [pO,Bool.and_eq_true,Bool.or_eq_true,decide_eq_true_eq];rw [h2];omega
theorem wR {l:List Block} {a o:Int} (h:l.any (qU a o)=true) (i:Nat) : dM l i=(dM (c8 l a o) i || pO ⟨a,o,0⟩ i):=by
 rw [Bool.eq_iff_iff];simp only [Bool.or_eq_true,dM,List.any_eq_true,c8,List.mem_filter];constructor
 ·rintro ⟨x,hx,hi⟩
  by_cases e:qU a o x=true
  ·obtain ⟨e1,e2⟩:=gD.1 e;right;rw [← hi,← e1,← e2];rfl
  ·left;exact ⟨x,⟨hx,by simp [e]⟩,hi⟩
 ·rintro (⟨x,⟨hx,_⟩,hi⟩|hi)
  ·exact ⟨x,hx,hi⟩
  ·obtain ⟨b,hb,hh⟩:=List.any_eq_true.1 h;obtain ⟨e1,e2⟩:=gD.1 hh;exact ⟨b,hb,by rw [← hi,← e1,← e2];rfl⟩
structure Joined (f t:Int) (l:List Block) (a o:Int) (l':List Block) (a' o':Int) : Prop where
 ok:ve f t l' a' o'
 nx:wP l'
 BD:∀ i,(dM l' i || pO ⟨a',o',0⟩ i)=(dM l i || pO ⟨a,o,0⟩ i)
 fin:o'<4→l'.any (qU (beside a' o') o')=false
theorem o8 {f t:Int} (h0 : 0≤f) : ∀ (k:Nat) {l:List Block} {a o:Int},4-o<k→ve f t l a o→wP l→Joined f t l a o (g7 k l a o).1 (g7 k l a o).2.1 (g7 k l a o).2.2
 | 0,l,a,o,hk,h,hn=>by have:=h.fit.2.1;omega
 | k+1,l,a,o,hk,h,hn=>by
   simp only [g7];split
   ·rename_i ho;split
    ·rename_i dS;have ih:=o8 h0 k (by omega) (h.step h0 ho dS) (hn.sublist List.filter_sublist);refine ⟨ih.ok,ih.nx,fun i => ?_,ih.fin⟩;rw [ih.BD i,Aw h.fit.1 ho h.fit.2.2.2.2 0 0 0,wR dS i];rw [Bool.or_assoc,Bool.or_comm (pO _ i) (pO _ i)]
    ·rename_i dS;exact ⟨h,hn,fun _=>rfl,fun _=>by simpa using dS⟩
   ·rename_i ho;exact ⟨h,hn,fun _=>rfl,fun h=>absurd h ho⟩
theorem Eb {f t:Int} {l0:List Block} {a0 o0:Int} {l:List Block} {a o:Int} (h:Joined f t l0 a0 o0 l a o) (u:Int) : wP (aV l (bE l a) ⟨a,o,u⟩):=by
 have hk:=h.ok;have hp:=bG hk.fit.1 hk.fit.2.1
 have FL:∀ x∈l.take (bE l a),gI x ⟨a,o,u⟩:=fun x hx=>by
  obtain ⟨j,hj,rfl⟩:=List.getElem_of_mem hx;simp only [List.length_take] at hj;rw [List.getElem_take];have h1:=mH (l:=l) (a:=a) (k:=j) (by omega);have h2:=hk.Bx _ (List.getElem_mem (show j<l.length by omega));refine ⟨by simp only;omega,fun hh => ?_⟩;obtain ⟨g1,g2,g3⟩:=hh;have:=h.fin g1
  rw [List.any_eq_false] at this;exact this _ (List.getElem_mem (show j<l.length by omega)) (gD.2 ⟨g3,g2⟩)
 have H7:∀ y∈l.drop (bE l a),gI ⟨a,o,u⟩ y:=fun y hy=>by
  obtain ⟨j,hj,rfl⟩:=List.getElem_of_mem hy;simp only [List.length_drop] at hj;rw [List.getElem_drop];have c9:bE l a<l.length:=by omega
  have h1:=zz c9;have hm:=List.getElem_mem (show bE l a+j<l.length by omega);have h2:=hk.Bx _ hm;have hb:=(hk.cU _ hm).1;have Ot:=bG hb.1 hb.2.1
  have h3:(l[bE l a]).At≤(l[bE l a+j]'(by omega)).At:=by
   rcases Nat.eq_zero_or_pos j with e|e
   ·subst e;simp
   ·have:=fk hk.nD (show bE l a+j<l.length by omega) (show bE l a<bE l a+j by omega)
    have E1:=(hk.cU _ (List.getElem_mem c9)).1;have:=bG E1.1 E1.2.1
    omega
  refine ⟨by simp only;omega,fun hh => ?_⟩;obtain ⟨g1,g2,g3⟩:=hh;simp only at g2 g3;have e:=(lP hb.1 g1 hb.2.2.2.2).1;rw [← g3,← g2] at e;have:=h.fin (by omega)
  rw [List.any_eq_false] at this;exact this _ hm (gD.2 ⟨e.symm,g2.symm⟩)
 have fO:(l.take (bE l a)++l.drop (bE l a)).Pairwise gI:=by rw [List.take_append_drop];exact h.nx
 rw [List.pairwise_append] at fO;unfold wP aV;rw [List.append_assoc,List.pairwise_append];refine ⟨fO.1,?_,fun x hx y hy => ?_⟩
 ·rw [List.singleton_append,List.pairwise_cons];exact ⟨H7,fO.2.1⟩
 ·rw [List.singleton_append,List.mem_cons] at hy;rcases hy with rfl|hy
  ·exact FL x hx
  ·exact fO.2.2 x hx y hy
theorem Ax (l:List Block) (i:Nat) (b:Block) (k:Nat) : dM (aV l i b) k=(dM l k || pO b k):=by
 have:dM l k=(dM (l.take i) k || dM (l.drop i) k):=by
  unfold dM;rw [← List.any_append,List.take_append_drop]
 rw [this];simp only [dM,aV,List.any_append,List.any_cons,List.any_nil,Bool.or_false];cases (l.take i).any fun b=>pO b k<;>cases pO b k<;>simp
theorem Ay {l:List Block} {i:Nat} {b x:Block} (h:x∈aV l i b) : x=b∨x∈l:=by
 unfold aV at h;rw [List.mem_append,List.mem_append] at h;rcases h with (h|h)|h
 ·exact .inr (List.mem_of_mem_take h)
 ·exact .inl (by simpa using h)
 ·exact .inr (List.mem_of_mem_drop h)
structure Kept (z z':aq) (a o:Int) : Prop where
 may:bR z'
 from_:z'.aW=z.aW
 jZ:z'.To=z.To
 types:z'.Types=z.Types
 BD:∀ i,dM z'.ag i=(dM z.ag i || pO ⟨a,o,0⟩ i)
theorem ss {z:aq} {a o:Int} (hz:bR z) (hf:eU z.aW z.To a o) (ho:eX z.ag a o=false) : (iJ z a o).1=0∧Kept z (iJ z a o).2 a o:=by
 have h0 : 0≤z.aW:=hz.ok.1
 have hJ:=rW (f:=0) (t:=0) hz hf ho;have hj:=o8 h0 5 (by have:=hf.1;omega) hJ (wQ hz);obtain ⟨⟨l,a',o'⟩,hq⟩ : ∃ u,g7 5 z.ag a o=u:=⟨_,rfl⟩;rw [hq] at hj;simp only at hj;obtain ⟨t,ht⟩ : ∃ t,z.Types.getD ((a'-z.aW) / 8).toNat 0=t:=⟨_,rfl⟩;rw [vi (rp hz) hf ho hq ht]
 have J3:fi t:=by
  subst ht;rw [List.getD_eq_getElem?_getD];cases e:z.Types[((a'-z.aW) / 8).toNat]? with
  | none=>exact ⟨by decide,by decide⟩
  | some v =>
    obtain ⟨h,rfl⟩:=List.getElem?_eq_some_iff.1 e;exact hz.types _ (List.getElem_mem h)
 have hn:=Eb hj t;refine ⟨rfl,⟨hz.ok,hz.len,hz.types,fun i hi => ?_,fun i hi => ?_⟩,rfl,rfl,rfl,fun i => ?_⟩
 ·rcases Ay (List.getElem_mem hi) with e|e
  ·simp only at e ⊢;rw [e];exact ⟨hj.ok.fit,J3⟩
  ·exact hj.ok.cU _ e
 ·unfold wP at hn;rw [List.pairwise_iff_getElem] at hn;exact hn i (i+1) (by simp only at hi;omega) hi (Nat.lt_succ_self i)
 ·rw [Ax,← hj.BD i];rfl
end Go.Proofs.YtjimadiidbkohaaGreatDoor
