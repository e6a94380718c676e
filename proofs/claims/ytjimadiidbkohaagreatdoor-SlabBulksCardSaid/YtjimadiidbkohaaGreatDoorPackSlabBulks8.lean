/-
  Texts of the claim SlabBulks, part 8: what its theorem leans on.
-/
import Derived.Test.YtjimadiidbkohaaGreatDoorPackSlabBulks4
import Derived.Test.YtjimadiidbkohaaGreatDoorPackSlabBulks2
import Derived.Test.YtjimadiidbkohaaGreatDoorPackSlabBulks3
import Derived.Test.YtjimadiidbkohaaGreatDoorPackSlabBulks7
import Derived.Test.YtjimadiidbkohaaGreatDoorPackSlabBulks6
import Derived.Test.YtjimadiidbkohaaGreatDoorPackSlabBulks5
set_option linter.unusedVariables false
set_option linter.unusedSimpArgs false
namespace Go.Proofs.YtjimadiidbkohaaGreatDoor
open Go.RowKit
theorem cS (r:eI) : ∀ v∈bm r,v.oneCell'=true:=fO.one (enc:=bm) r
theorem sy (r:bO) : ∀ v∈bp r,v.oneCell'=true:=fO.one (enc:=bp) r
def yK (ls:List bO) : Prop := ∀ (i j:Nat) (hi:i<ls.length) (hj:j<ls.length),i≠j → ∀ g,aQ ls[i].aw.A ls[i].aw.c=some g→aQ ls[j].aw.A ls[j].aw.c≠some g
structure pi (m:fR) (zs:List ct) (ls:List bO) : Prop where
 cn:∀ (i:Nat) (hi:i<ls.length) (g:Nat),aQ ls[i].aw.A ls[i].aw.c=some g→aQ m.A m.c≠some g
 types:∀ (i:Nat) (hi:i<ls.length) (g:Nat),aQ ls[i].aw.A ls[i].aw.c=some g → ∀ u∈zs,aQ u.Types.A u.Types.c≠some g
 sep:yK ls
theorem pi.nil (m:fR) (zs:List ct) : pi m zs []:=⟨fun i hi=>by simp at hi,fun i hi=>by simp at hi,fun i j hi=>by simp at hi⟩
theorem pi.snoc {w:World} {lo:Nat} {m:fR} {zs:List ct} {ls:List bO} {s li:fR} {x:List Int} {zl:List aq} {L:List aA} {y:bO} (h:pi m zs ls) (hm:Own w lo 3 1 bf m.A m.n m.c x) (hz:gj w lo s zs zl) (hl:cQ w lo li ls L) (hy:∀ g,aQ y.aw.A y.aw.c=some g→w.heap.size≤g) : pi m zs (ls++[y]):=by
 have c8:∀ (i:Nat) (hi:i<ls.length) (g:Nat),aQ ls[i].aw.A ls[i].aw.c=some g→g<w.heap.size:=fun i hi g e=>(hl.each.get i hi (by rw [← hl.each.len];exact hi)).cu.lt_size g e
 have key:∀ (i:Nat) (hi:i<(ls++[y]).length),(∃ h:i<ls.length,(ls++[y])[i]=ls[i])∨(i=ls.length∧(ls++[y])[i]=y):=fun i hi=>by
  by_cases e:i<ls.length
  ·exact .inl ⟨e,List.getElem_append_left e⟩
  ·have:i=ls.length:=by simp at hi;omega
   subst this;exact .inr ⟨rfl,by simp⟩
 refine ⟨fun i hi g e => ?_,fun i hi g e u hu => ?_,fun i j hi hj kX g e e2 => ?_⟩
 ·rcases key i hi with ⟨h1,h2⟩|⟨h1,h2⟩
  ·rw [h2] at e;exact h.cn i h1 g e
  ·rw [h2] at e;intro e3;have:=hm.lt_size g e3;have:=hy g e;omega
 ·rcases key i hi with ⟨h1,h2⟩|⟨h1,h2⟩
  ·rw [h2] at e;exact h.types i h1 g e u hu
  ·rw [h2] at e;intro e3;obtain ⟨j,hj,rfl⟩:=List.getElem_of_mem hu;have:=(hz.each.get j hj (by rw [← hz.each.len];exact hj)).types.lt_size g e3
   have:=hy g e
   omega
 ·rcases key i hi with ⟨h1,h2⟩|⟨h1,h2⟩
  ·rw [h2] at e;rcases key j hj with ⟨h3,h4⟩|⟨h3,h4⟩
   ·rw [h4] at e2;exact h.sep i j h1 h3 kX g e e2
   ·rw [h4] at e2;have:=c8 i h1 g e;have:=hy g e2;omega
  ·rw [h2] at e;rcases key j hj with ⟨h3,h4⟩|⟨h3,h4⟩
   ·rw [h4] at e2;have:=c8 j h3 g e2;have:=hy g e;omega
   ·omega
def rf (lv:fR) (zs:List ct) : Prop := ∀ u∈zs,∀ g,aQ u.ag.A u.ag.c=some g→aQ lv.A lv.c≠some g
theorem rf.nil (lv:fR) : rf lv []:=fun u hu=>by simp at hu
theorem rf.snoc {w:World} {lo:Nat} {lv:fR} {zs:List ct} {x:List Block} {u:ct} (h:rf lv zs) (hl:Own w lo 77 3 az lv.A lv.n lv.c x) (hu:∀ g,aQ u.ag.A u.ag.c=some g→w.heap.size≤g) : rf lv (zs++[u]):=fun y hy g e e2=>by
 rcases List.mem_append.1 hy with hy|hy
 ·exact h y hy g e e2
 ·simp at hy;subst hy;have:=hu g e
  have:=hl.lt_size g e2
  omega
structure CR (w:World) (lo:Nat) (r:eI) (h:Heap) : Prop where
 own:iU w lo r h
 all:∃ zs ls,gj w lo r.aN zs h.aN∧cQ w lo r.av ls h.av∧pi r.bJ zs ls∧rf r.Live zs
set_option maxHeartbeats 4000000 in
theorem sA (r:eI) (h:Heap) (w:World) (hr:wH w r h) (hs:h.small) :
 bt Tryz.prog 43 [.agg (bm r).toArray] w fun v w' => ∃ s,v = .agg (bm s).toArray∧CR w' w.heap.size s h:=by
 refine aM Tryz.func43 rfl Tryz.ntmps43 rfl ?_;refine CW.seq (CW.region (SW.box rfl rfl fun b1 w1 hw ik aB => ?_));refine SW.alloc rfl fun b2 w2 cJ im aK => ?_
 have pQ:w.heap.size≤b2:=Nat.le_trans hw.size im
 have yJ:b2≠b1:=by have:=aB.lt;omega
 (replace hw:=Ext.trans hw cJ;replace aB:=aB.ext cJ);obtain ⟨zs,hz⟩:=hr.cx;obtain ⟨ls,hl⟩:=hr.lists;have JF:=hr.cn.len;have Gx:=hr.live.len;have s1:=hs.cn;have s2:=hs.live;have s3:=hs.cx;have s4:=hs.lists;obtain ⟨z1,z2⟩:=hz.len;obtain ⟨l1,l2⟩:=hl.len;refine Wz ?_
 obtain ⟨K,hK⟩ : ∃ K:Env→World→Prop,K=fun L' w' => ∃ X c1 Y d1 b3,eE L' [(1,.pointer (some ⟨b1,0,none⟩)),(2,.pointer (some ⟨b2,0,none⟩)),(3,.pointer (some ⟨b3,0,none⟩))]∧Ext w w'∧aI w' b1 27 (bm r)∧aI w' b2 27 (bm .zero) ∧
  aI w' b3 27 (bm ⟨.nil,⟨X,r.bJ.n,c1⟩,r.bX,.nil,⟨Y,r.Live.n,d1⟩⟩)∧Own w' w.heap.size 3 1 bf X r.bJ.n c1 h.bJ∧Own w' w.heap.size 77 3 az Y r.Live.n d1 h.Live∧w.heap.size≤b3∧b1≠b3∧b2≠b3:=⟨_,rfl⟩
 refine CW.cut K ?_ ?_
 ·refine CW.any 10 mixed (cq (by kernel_rfl)) rfl fun w1 ab aG => ?_
  replace hw:=Ext.trans hw ab;replace aB:=aB.ext ab;replace aK:=aK.ext ab;clear ab;refine Wa ?_;refine SA.two 2 9 rfl rfl (by kernel_rfl) rfl rfl ?_ ?_
  ·refine SW.call rfl rfl (eA _ _ _ _ _ (hr.cn.ext hw) (by omega)) fun v w4 aj hv => ?_
   obtain ⟨X,c4,rfl,hX⟩:=hv;replace hX:=hX.low hw.size;replace hw:=Ext.trans hw aj;replace aB:=aB.ext aj;replace aK:=aK.ext aj;try replace ar:=ar.ext aj
   refine SW.nil (ae.sa aj ?_);refine SA.two 7 9 rfl rfl (by kernel_rfl) rfl rfl ?_ ?_
   ·refine SW.call rfl rfl (iK _ _ _ _ _ (hr.live.ext hw) (by omega)) fun v w4 aj hv => ?_
    obtain ⟨Y,d4,rfl,hY⟩:=hv;replace hY:=hY.low hw.size;replace hX:=hX.ext aj;replace hw:=Ext.trans hw aj;replace aB:=aB.ext aj;replace aK:=aK.ext aj;try replace ar:=ar.ext aj
    refine SW.nil (ae.sa aj ?_);refine Wa ?_;refine SA.one 9 rfl (by kernel_rfl) rfl ?_;refine SW.alloc rfl fun b3 w4 aj bM ar => ?_
    have cr:w.heap.size≤b3:=Nat.le_trans hw.size bM
    have ef:b1≠b3:=by have:=aB.lt;omega
    have ey:b2≠b3:=by have:=aK.lt;omega
    replace hw:=Ext.trans hw aj;replace aB:=aB.ext aj;replace aK:=aK.ext aj;try replace hX:=hX.ext aj
    try replace hY:=hY.ext aj
    refine SW.nil (ae.sa aj ?_);refine SA.done (by kernel_rfl) ?_;skip;refine SW.ap ar rfl rfl rfl rfl (cS ⟨.nil,⟨X,r.bJ.n,c4⟩,r.bX,.nil,⟨Y,r.Live.n,d4⟩⟩) fun w5 bL hg => ?_
    have hG:=ar.gr hg;replace hw:=hw.own cr hg;(replace hX:=hX.ay hG rfl;replace hY:=hY.ay hG rfl);replace aB:=aB.grown hg (by simpa using ef);replace aK:=aK.grown hg (by simpa using ey);refine Wz ?_;exact ae.cut (K:=K) (by rw [hK];exact ⟨X,c4,Y,d4,b3,⟨rfl,rfl,rfl,trivial⟩,hw,aB,aK,bL,hX,hY,cr,ef,ey⟩)
   ·refine SW.alloc rfl fun b3 w4 aj bM ar => ?_
    have cr:w.heap.size≤b3:=Nat.le_trans hw.size bM
    have ef:b1≠b3:=by have:=aB.lt;omega
    have ey:b2≠b3:=by have:=aK.lt;omega
    replace hw:=Ext.trans hw aj;replace aB:=aB.ext aj;replace aK:=aK.ext aj;try replace hX:=hX.ext aj
    try replace hY:=hY.ext aj
    refine SW.nil (ae.sa aj ?_);refine SA.one 7 rfl (by kernel_rfl) rfl ?_;refine SW.call rfl rfl (iK _ _ _ _ _ (hr.live.ext hw) (by omega)) fun v w4 aj hv => ?_
    obtain ⟨Y,d4,rfl,hY⟩:=hv;replace hY:=hY.low hw.size;replace hX:=hX.ext aj;replace hw:=Ext.trans hw aj;replace aB:=aB.ext aj;replace aK:=aK.ext aj;try replace ar:=ar.ext aj
    refine SW.nil (ae.sa aj ?_);refine Wa ?_;refine SA.done (by kernel_rfl) ?_;skip;refine SW.ap ar rfl rfl rfl rfl (cS ⟨.nil,⟨X,r.bJ.n,c4⟩,r.bX,.nil,⟨Y,r.Live.n,d4⟩⟩) fun w5 bL hg => ?_
    have hG:=ar.gr hg;replace hw:=hw.own cr hg;(replace hX:=hX.ay hG rfl;replace hY:=hY.ay hG rfl);replace aB:=aB.grown hg (by simpa using ef);replace aK:=aK.grown hg (by simpa using ey);refine Wz ?_;exact ae.cut (K:=K) (by rw [hK];exact ⟨X,c4,Y,d4,b3,⟨rfl,rfl,rfl,trivial⟩,hw,aB,aK,bL,hX,hY,cr,ef,ey⟩)
  ·refine SW.alloc rfl fun b3 w4 aj bM ar => ?_
   have cr:w.heap.size≤b3:=Nat.le_trans hw.size bM
   have ef:b1≠b3:=by have:=aB.lt;omega
   have ey:b2≠b3:=by have:=aK.lt;omega
   replace hw:=Ext.trans hw aj;replace aB:=aB.ext aj;replace aK:=aK.ext aj;try replace hX:=hX.ext aj
   try replace hY:=hY.ext aj
   refine SW.nil (ae.sa aj ?_);refine SA.one 2 rfl (by kernel_rfl) rfl ?_;refine SW.call rfl rfl (eA _ _ _ _ _ (hr.cn.ext hw) (by omega)) fun v w4 aj hv => ?_
   obtain ⟨X,c4,rfl,hX⟩:=hv;replace hX:=hX.low hw.size;replace hw:=Ext.trans hw aj;replace aB:=aB.ext aj;replace aK:=aK.ext aj;try replace ar:=ar.ext aj
   refine SW.nil (ae.sa aj ?_);refine SA.one 7 rfl (by kernel_rfl) rfl ?_;refine SW.call rfl rfl (iK _ _ _ _ _ (hr.live.ext hw) (by omega)) fun v w4 aj hv => ?_
   obtain ⟨Y,d4,rfl,hY⟩:=hv;replace hY:=hY.low hw.size;replace hX:=hX.ext aj;replace hw:=Ext.trans hw aj;replace aB:=aB.ext aj;replace aK:=aK.ext aj;try replace ar:=ar.ext aj
   refine SW.nil (ae.sa aj ?_);refine Wa ?_;refine SA.done (by kernel_rfl) ?_;skip;refine SW.ap ar rfl rfl rfl rfl (cS ⟨.nil,⟨X,r.bJ.n,c4⟩,r.bX,.nil,⟨Y,r.Live.n,d4⟩⟩) fun w5 bL hg => ?_
   have hG:=ar.gr hg;replace hw:=hw.own cr hg;(replace hX:=hX.ay hG rfl;replace hY:=hY.ay hG rfl);replace aB:=aB.grown hg (by simpa using ef);replace aK:=aK.grown hg (by simpa using ey);refine Wz ?_;exact ae.cut (K:=K) (by rw [hK];exact ⟨X,c4,Y,d4,b3,⟨rfl,rfl,rfl,trivial⟩,hw,aB,aK,bL,hX,hY,cr,ef,ey⟩)
 ·clear aB aK hw;subst hK;rintro L' w' ⟨X,c4,Y,d4,b3,fe,hw,aB,aK,ar,hX,hY,cr,ef,ey⟩
  refine ae.sub fe ?_;refine Wz ?_
  refine CW.loop (fun s:Nat×Option Addr×Nat×List ct=>[(1,.pointer (some ⟨b1,0,none⟩)),(2,.pointer (some ⟨b2,0,none⟩)),(3,.pointer (some ⟨b3,0,none⟩)),(18,.slice r.aN.A r.aN.n r.aN.c),(19,.int .i64 (r.aN.n:Int)),(20,.int .i64 (s.1:Int))])
   (fun s w'=>s.1≤r.aN.n∧Ext w w'∧aI w' b1 27 (bm r)∧aI w' b2 27 (bm .zero)∧aI w' b3 27 (bm ⟨⟨s.2.1,s.1,s.2.2.1⟩,⟨X,r.bJ.n,c4⟩,r.bX,.nil,⟨Y,r.Live.n,d4⟩⟩)∧Own w' w.heap.size 3 1 bf X r.bJ.n c4 h.bJ∧Own w' w.heap.size 77 3 az Y r.Live.n d4 h.Live ∧
     gj w' w.heap.size ⟨s.2.1,s.1,s.2.2.1⟩ s.2.2.2 (h.aN.take s.1)∧rf ⟨Y,r.Live.n,d4⟩ s.2.2.2) (fun s=>r.aN.n-s.1) (0,none,0,[]) ⟨rfl,rfl,rfl,rfl,rfl,rfl,trivial⟩ ⟨by omega,hw,aB,aK,ar,hX,hY,gj.nil _ _,rf.nil _⟩ ?_
  clear aB aK ar hX hY hw fe;rintro ⟨k,A,c,zr⟩ w' ⟨hk,hw,aB,aK,ar,hX,hY,hO,Gy⟩
  simp only at hk ar hO Gy ⊢;have hA:=hz.row.base;by_cases cb:k<r.aN.n
  ·have AU:=hz.each.get k (by omega) (by omega);have ck:h.aN[k]'(by omega)∈h.aN:=List.getElem_mem _
   have q:=hs.free _ ck;have q1:=AU.free.len;have q2:=AU.types.len;repeat' (first|refine Wz ?_|refine SW.st (aH hw rfl rfl ((hz.row.all cb))) rfl ?_)
   refine SW.alloc rfl fun b5 w1 ab iC cg => ?_
   skip;refine SW.ap cg rfl rfl rfl rfl (cw _) fun w2 gl hg => ?_
   have aj:=ab.own iC hg;have nP:w.heap.size≤b5:=Nat.le_trans hw.size iC
   replace hw:=Ext.trans hw aj;replace aB:=aB.ext aj;replace aK:=aK.ext aj;replace ar:=ar.ext aj;replace hX:=hX.ext aj;replace hY:=hY.ext aj;replace hO:=hO.ext aj;replace cg:=gl;clear gl ab hg aj;refine Wz ?_;refine CW.any 5 mixed (cq (by kernel_rfl)) rfl fun w1 ab aG => ?_
   replace hw:=Ext.trans hw ab;replace aB:=aB.ext ab;replace aK:=aK.ext ab;replace ar:=ar.ext ab;replace cg:=cg.ext ab;replace hX:=hX.ext ab;replace hY:=hY.ext ab;replace hO:=hO.ext ab;clear ab;refine Wa ?_;refine SA.one 3 rfl (by kernel_rfl) rfl ?_;refine SW.call rfl rfl (pP _ _ _ (AU.ext hw) (by omega) (by omega)) fun v w4 aj hv => ?_
   obtain ⟨s,rfl,jG,e1,e2⟩:=hv;have Kq:=Gy.snoc (u:=s) hY jG.free.aL;replace jG:=jG.low hw.size;(replace hw:=Ext.trans hw aj;replace aB:=aB.ext aj;replace aK:=aK.ext aj;replace ar:=ar.ext aj;replace cg:=cg.ext aj;replace hX:=hX.ext aj;replace hY:=hY.ext aj;replace hO:=hO.ext aj);refine SW.nil (ae.sa aj ?_);refine SA.one 4 rfl (by kernel_rfl) rfl ?_;refine SW.bD rfl rfl rfl rfl rfl fun b w4 aj hb hB => ?_
   (replace hw:=Ext.trans hw aj;replace aB:=aB.ext aj;replace aK:=aK.ext aj;replace ar:=ar.ext aj;replace cg:=cg.ext aj;replace hX:=hX.ext aj;replace hY:=hY.ext aj;replace hO:=hO.ext aj;replace jG:=jG.ext aj);refine SW.nil (ae.sa aj ?_);refine SA.done (by kernel_rfl) ?_;refine SW.append hO.row (aI.lj (enc:=bo) hB) hw.size rfl rfl rfl (by simp only;omega) (by simp only;omega) fun A2 c2 w5 gi hg => ?_
   have hG:=hO.row.gr hg;replace hw:=aF hw hg (Nat.le_refl _) hO.row.aL;(replace aB:=aB.ay hG rfl;replace aK:=aK.ay hG rfl;replace ar:=ar.ay hG rfl;replace hX:=hX.ay hG rfl;replace hY:=hY.ay hG rfl;replace jG:=jG.ay hG rfl);have hE:=hO.each.mono fun _ _ h=>h.ay hG rfl
   refine Wz ?_;refine SW.bB (i:=0) ar rfl rfl rfl rfl fun w6 cU hg => ?_
   have hG:=ar.gr hg;replace hw:=hw.own cr hg;replace aB:=aB.grown hg (by simpa using ef);replace aK:=aK.grown hg (by simpa using ey);(replace hX:=hX.ay hG rfl;replace hY:=hY.ay hG rfl;replace jG:=jG.ay hG rfl;replace gi:=gi.ay hG rfl);replace hE:=hE.mono fun _ _ h=>h.ay hG rfl
   refine Wz ?_;refine ae.again (k+1,A2,c2,zr++[s]) ⟨rfl,rfl,rfl,rfl,rfl,rfl,trivial⟩ (by simp only;omega) ⟨by simp only;omega,hw,aB,aK,cU,hX,hY,⟨gi,?_⟩,Kq⟩;rw [List.take_succ_eq_append_getElem (by omega)];exact hE.snoc jG
  ·obtain rfl:k=r.aN.n:=by omega
   rw [List.take_of_length_le (by omega)] at hO;refine Wz ?_
   refine CW.loop (fun s:Nat×Option Addr×Nat×List bO=>[(2,.pointer (some ⟨b2,0,none⟩)),(3,.pointer (some ⟨b3,0,none⟩)),(33,.slice r.av.A r.av.n r.av.c),(34,.int .i64 (r.av.n:Int)),(35,.int .i64 (s.1:Int))])
    (fun s w'=>s.1≤r.av.n∧Ext w w'∧aI w' b2 27 (bm .zero)∧aI w' b3 27 (bm ⟨⟨A,r.aN.n,c⟩,⟨X,r.bJ.n,c4⟩,r.bX,⟨s.2.1,s.1,s.2.2.1⟩,⟨Y,r.Live.n,d4⟩⟩)∧Own w' w.heap.size 3 1 bf X r.bJ.n c4 h.bJ∧Own w' w.heap.size 77 3 az Y r.Live.n d4 h.Live ∧
      gj w' w.heap.size ⟨A,r.aN.n,c⟩ zr h.aN∧cQ w' w.heap.size ⟨s.2.1,s.1,s.2.2.1⟩ s.2.2.2 (h.av.take s.1)∧pi ⟨X,r.bJ.n,c4⟩ zr s.2.2.2) (fun s=>r.av.n-s.1) (0,none,0,[]) ⟨rfl,rfl,rfl,rfl,rfl,trivial⟩ ⟨by omega,hw,aK,ar,hX,hY,hO,cQ.nil _ _,pi.nil _ _⟩ ?_
   clear aB aK ar hX hY hw hO;rintro ⟨k,B,d,lr⟩ w' ⟨hk,hw,aK,ar,hX,hY,hO,hP,xi⟩
   simp only at hk ar hP xi ⊢;have hA:=hl.row.base;by_cases cb:k<r.av.n
   ·have ud:=hl.each.get k (by omega) (by omega);have ck:h.av[k]'(by omega)∈h.av:=List.getElem_mem _
    have q:=hs.cu _ ck;have q1:=ud.cu.len;repeat' (first|refine Wz ?_|refine SW.st (aH hw rfl rfl ((hl.row.all cb))) rfl ?_)
    have Gz:=hP.row.lt_size;refine SW.alloc rfl fun b7 w1 ab lu j4 => ?_
    skip;refine SW.ap j4 rfl rfl rfl rfl (sy _) fun w2 dL hg => ?_
    have aj:=ab.own lu hg;have q9:w.heap.size≤b7:=Nat.le_trans hw.size lu
    replace hw:=Ext.trans hw aj;replace aK:=aK.ext aj;replace ar:=ar.ext aj;replace hX:=hX.ext aj;replace hY:=hY.ext aj;replace hO:=hO.ext aj;replace hP:=hP.ext aj;replace j4:=dL;clear dL ab hg aj;refine Wz ?_;refine SW.call rfl rfl (eA _ _ _ _ _ (ud.cu.ext hw) (by omega)) fun v w4 aj hv => ?_
    obtain ⟨W,e4,rfl,hW⟩:=hv;replace xi:=xi.snoc (y:=⟨ls[k].dU,ls[k].aq,ls[k].Ty,⟨W,ls[k].aw.n,e4⟩⟩) hX hO hP hW.aL;replace hW:=hW.low hw.size;(replace hw:=Ext.trans hw aj;replace aK:=aK.ext aj;replace ar:=ar.ext aj;replace j4:=j4.ext aj;replace hX:=hX.ext aj;replace hY:=hY.ext aj;replace hO:=hO.ext aj;replace hP:=hP.ext aj);refine Wz ?_;refine SW.bB (i:=3) j4 rfl rfl rfl rfl fun w5 dL hg => ?_
    have hG:=j4.gr hg;replace hw:=hw.own q9 hg;(replace aK:=aK.ay hG rfl;replace ar:=ar.ay hG rfl;replace hX:=hX.ay hG rfl;replace hY:=hY.ay hG rfl;replace hO:=hO.ay hG rfl;replace hW:=hW.ay hG rfl);replace hP:cQ w5 w.heap.size ⟨B,k,d⟩ lr (h.av.take k):=⟨hP.row.grown hg (.inr (fun e=>by have:=Gz _ e;omega)),hP.each.mono fun _ _ h=>h.ay hG rfl⟩;refine Wz ?_;refine SW.bD rfl rfl rfl rfl rfl fun b w6 aj hb hB => ?_
    (replace hw:=Ext.trans hw aj;replace aK:=aK.ext aj;replace ar:=ar.ext aj;replace hX:=hX.ext aj;replace hY:=hY.ext aj;replace hO:=hO.ext aj;replace hP:=hP.ext aj;replace hW:=hW.ext aj);refine SW.append hP.row (aI.lj (enc:=bp) (x:=⟨ls[k].dU,ls[k].aq,ls[k].Ty,⟨W,_,e4⟩⟩) hB) hw.size rfl rfl rfl (by simp only;omega) (by simp only;omega) fun A2 c2 w7 GA hg => ?_
    have hG:=hP.row.gr hg;replace hw:=aF hw hg (Nat.le_refl _) hP.row.aL;(replace aK:=aK.ay hG rfl;replace ar:=ar.ay hG rfl;replace hX:=hX.ay hG rfl;replace hY:=hY.ay hG rfl;replace hO:=hO.ay hG rfl;replace hW:=hW.ay hG rfl);have hE:=hP.each.mono fun _ _ h=>h.ay hG rfl
    refine Wz ?_;refine SW.bB (i:=3) ar rfl rfl rfl rfl fun w8 cU hg => ?_
    have hG:=ar.gr hg;replace hw:=hw.own cr hg;replace aK:=aK.grown hg (by simpa using ey);(replace hX:=hX.ay hG rfl;replace hY:=hY.ay hG rfl;replace hO:=hO.ay hG rfl;replace GA:=GA.ay hG rfl;replace hW:=hW.ay hG rfl);replace hE:=hE.mono fun _ _ h=>h.ay hG rfl
    refine Wz ?_;refine ae.again (k+1,A2,c2,lr++[⟨ls[k].dU,ls[k].aq,ls[k].Ty,⟨W,_,e4⟩⟩]) ⟨rfl,rfl,rfl,rfl,rfl,trivial⟩ (by simp only;omega) ⟨by simp only;omega,hw,aK,cU,hX,hY,hO,⟨GA,?_⟩,xi⟩;rw [List.take_succ_eq_append_getElem (by omega)];exact hE.snoc ⟨ud.cpu,ud.fC,ud.ty,hW⟩
   ·obtain rfl:k=r.av.n:=by omega
    rw [List.take_of_length_le (by omega)] at hP;refine Wz ?_;refine SW.ap aK rfl rfl rfl rfl (cS _) fun w5 bL hg => ?_
    have hG:=aK.gr hg;replace hw:=hw.own pQ hg;(replace hX:=hX.ay hG rfl;replace hY:=hY.ay hG rfl;replace hO:=hO.ay hG rfl;replace hP:=hP.ay hG rfl);refine Wz ?_;exact ae.mn rfl rfl bL rfl ⟨_,rfl,hw,⟨⟨A,r.aN.n,c⟩,⟨X,r.bJ.n,c4⟩,r.bX,⟨B,r.av.n,d⟩,⟨Y,r.Live.n,d4⟩⟩,rfl,⟨hr.er,hX,hY,⟨zr,hO⟩,⟨lr,hP⟩⟩,zr,lr,hO,hP,xi,Gy⟩
theorem qb (r:eI) (h:Heap) (w:World) (hr:wH w r h) (hs:h.small) :
 bt Tryz.prog 43 [.agg (bm r).toArray] w fun v w' => ∃ s,v = .agg (bm s).toArray∧iU w' w.heap.size s h :=
 (sA r h w hr hs).mono fun _ _ _ ⟨s,hv,ho⟩=>⟨s,hv,ho.own⟩
open Go.RowKit
set_option maxHeartbeats 4000000 in
theorem vF (r s:eI) (h:Heap) (w:World) (ha:wH w r h) (hb:wH w s h) (hs:h.small) :
 bt Tryz.prog 19 [.agg (bm r).toArray,.agg (bm s).toArray] w fun v _=>v = .bool true:=by
 refine aM Tryz.func19 rfl Tryz.ntmps19 rfl ?_;refine CW.seq (CW.region (SW.box rfl rfl fun b2 w1 hw im aK => ?_));refine SW.box rfl rfl fun b3 w2 cJ bM ar => ?_
 (replace hw:=Ext.trans hw cJ;replace aK:=aK.ext cJ);obtain ⟨zs,hz⟩:=ha.cx;obtain ⟨ls,hl⟩:=ha.lists;obtain ⟨L4,lO⟩:=hb.cx;obtain ⟨vG,yr⟩:=hb.lists;obtain ⟨z1,z2⟩:=hz.len;obtain ⟨l1,l2⟩:=hl.len;obtain ⟨z3,z4⟩:=lO.len;obtain ⟨l3,l4⟩:=yr.len;have s1:=hs.cn;have s2:=hs.live;have s3:=hs.cx;have s4:=hs.lists;have m1:=ha.cn.len;have m2:=ha.live.len;have e1:=ha.er;have e2:=hb.er
 have cM:∀ w',Ext w w'→bt Tryz.prog 11 [.slice r.bJ.A r.bJ.n r.bJ.c,.slice s.bJ.A s.bJ.n s.bJ.c] w' fun v _=>v = .bool true:=fun w' hx=>by
  have:=gv _ _ _ _ r.bJ.c s.bJ.c _ _ w' (ha.cn.ext hx) (hb.cn.ext hx) (by omega)
  simpa using this
 have cL:∀ w',Ext w w'→bt Tryz.prog 32 [.slice r.Live.A r.Live.n r.Live.c,.slice s.Live.A s.Live.n s.Live.c] w' fun v _=>v = .bool true:=fun w' hx=>by
  have:=mK _ _ _ _ r.Live.c s.Live.c _ _ w' (ha.live.ext hx) (hb.live.ext hx) (by omega)
  simpa using this
 repeat' (first|refine Wz ?_|(refine CW.bA rfl ?_)|refine SW.want rfl rfl ?_|((first|refine SW.call rfl rfl (cM _ hw) ?_|refine SW.call rfl rfl (cL _ hw) ?_);intro v w1 ab hv;subst hv;replace hw:=Ext.trans hw ab;replace aK:=aK.ext ab;replace ar:=ar.ext ab;clear ab))
 all_goals try omega
 refine CW.loop (fun k:Nat=>[(2,.pointer (some ⟨b2,0,none⟩)),(3,.pointer (some ⟨b3,0,none⟩)),(5,.int .i64 (k:Int))]) (fun k w'=>k≤r.aN.n∧Ext w w'∧aI w' b2 27 (bm r)∧aI w' b3 27 (bm s)) (fun k=>r.aN.n-k) 0
  ⟨rfl,rfl,rfl,trivial⟩ ⟨by omega,hw,aK,ar⟩ ?_
 clear hw aK ar;rintro k w' ⟨hk,hw,aK,ar⟩
 have hA:=hz.row.base;have hB:=lO.row.base;by_cases cb:k<r.aN.n
 ·have CS:k<s.aN.n:=by omega
  have AU:=hz.each.get k (by omega) (by omega);have Kr:=lO.each.get k (by omega) (by omega);have q:=hs.free _ (List.getElem_mem (show k<h.aN.length by omega));have q1:=AU.free.len;have q2:=AU.types.len
  have cZ:∀ w',Ext w w'→bt Tryz.prog 33 [.agg (bo zs[k]).toArray,.agg (bo L4[k]).toArray] w' fun v _=>v = .bool true:=fun w' hx=>by
   have:=vt zs[k] L4[k] _ _ w' (AU.ext hx) (Kr.ext hx) (by omega) (by omega)
   simpa using this
  repeat' (first|refine Wz ?_|(first|refine CW.bA rfl ?_|(apply CW.aP mixed;(· kernel_rfl);rotate_left;intro w1 ab;replace hw:=Ext.trans hw ab;replace aK:=aK.ext ab;replace ar:=ar.ext ab;clear ab;rotate_right))|refine SW.st (aH hw rfl rfl ((hz.row.all cb))) rfl ?_|refine SW.st (aH hw rfl rfl ((lO.row.all CS))) rfl ?_|refine SW.bq rfl rfl (fun w1 ab=>(cZ _ (Ext.trans hw ab))) ?_|exact SW.bx rfl)
  exact ae.again (k+1) ⟨rfl,rfl,rfl,trivial⟩ (by omega) ⟨by omega,hw,aK,ar⟩
 ·refine Wz ?_;clear cb hk hA hB
  refine CW.loop (fun k:Nat=>[(2,.pointer (some ⟨b2,0,none⟩)),(3,.pointer (some ⟨b3,0,none⟩)),(6,.int .i64 (k:Int))]) (fun k w'=>k≤r.av.n∧Ext w w'∧aI w' b2 27 (bm r)∧aI w' b3 27 (bm s)) (fun k=>r.av.n-k) 0
   ⟨rfl,rfl,rfl,trivial⟩ ⟨by omega,hw,aK,ar⟩ ?_
  clear hw aK ar;rintro k w' ⟨hk,hw,aK,ar⟩
  have hA:=hl.row.base;have hB:=yr.row.base;by_cases cb:k<r.av.n
  ·have CS:k<s.av.n:=by omega
   have ud:=hl.each.get k (by omega) (by omega);have EB:=yr.each.get k (by omega) (by omega);have q:=hs.cu _ (List.getElem_mem (show k<h.av.length by omega));have q1:=ud.cu.len;have g1:=ud.cpu;have g2:=ud.fC;have g3:=ud.ty;have g4:=EB.cpu;have g5:=EB.fC;have g6:=EB.ty
   have cP:∀ w',Ext w w'→bt Tryz.prog 11 [.slice ls[k].aw.A ls[k].aw.n ls[k].aw.c,.slice vG[k].aw.A vG[k].aw.n vG[k].aw.c] w' fun v _=>v = .bool true:=fun w' hx=>by
    have:=gv _ _ _ _ ls[k].aw.c vG[k].aw.c _ _ w' (ud.cu.ext hx) (EB.cu.ext hx) (by omega)
    simpa using this
   repeat' (first|refine Wz ?_|refine SW.st (aH hw rfl rfl ((hl.row.all cb))) rfl ?_)
   refine SW.alloc rfl fun b7 w1 ab lu j4 => ?_
   skip;refine SW.ap j4 rfl rfl rfl rfl (sy _) fun w2 dL hg => ?_
   have aj:=ab.own lu hg;have q9:w.heap.size≤b7:=Nat.le_trans hw.size lu
   replace hw:=Ext.trans hw aj;replace aK:=aK.ext aj;replace ar:=ar.ext aj;replace j4:=dL;clear dL ab hg aj;repeat' (first|refine Wz ?_|refine SW.st (aH hw rfl rfl ((yr.row.all CS))) rfl ?_)
   refine SW.alloc rfl fun b8 w1 ab kZ bu => ?_
   skip;refine SW.ap bu rfl rfl rfl rfl (sy _) fun w2 jh hg => ?_
   have aj:=ab.own kZ hg;have jA:w.heap.size≤b8:=Nat.le_trans hw.size kZ
   replace hw:=Ext.trans hw aj;replace aK:=aK.ext aj;replace ar:=ar.ext aj;replace j4:=j4.ext aj;replace bu:=jh;clear jh ab hg aj;repeat' (first|refine Wz ?_|(refine CW.bA rfl ?_)|(refine SW.call rfl rfl (cP _ hw) ?_;intro v w1 ab hv;subst hv;replace hw:=Ext.trans hw ab;replace aK:=aK.ext ab;replace ar:=ar.ext ab;clear ab))
   all_goals try omega
   exact ae.again (k+1) ⟨rfl,rfl,rfl,trivial⟩ (by omega) ⟨by omega,hw,aK,ar⟩
  ·refine Wz ?_;exact ae.aO rfl rfl ⟨_,rfl,hw,rfl⟩
open Go.RowKit
theorem ue (A:Option Addr) (n c:Nat) (l:List Slab) (w:World) (hl:Sl w 3 a8 A n l) (hn:n*24≤140737488355328) : bt Tryz.prog 45 [.slice A n c] w (pO w 48 3 a8 n l):=by
 refine aM Tryz.func45 rfl Tryz.ntmps45 rfl ?_;have hw:=Ext.refl w;refine Wz ?_;refine SW.st (oN rfl rfl) rfl ?_;repeat' (first|refine Wz ?_|(refine CW.cond rfl (fun h => ?_) (fun h => ?_)))
 ·have Eo:n=0:=by
   rcases Nat.eq_zero_or_pos n with h0|h0
   ·exact h0
   ·have:=hl.base h0;simp_all
  subst Eo;have:l=[]:=List.eq_nil_of_length_eq_zero hl.len
  subst this;exact ae.aO rfl rfl ⟨_,rfl,hw,none,0,rfl,Own.dS _ _ _ _ _ _⟩
 ·refine SW.vn rfl fun b w1 ab hb => ?_
  replace hw:=Ext.trans hw ab;refine Wz ?_;refine SW.ry (Nat.zero_add n) (List.nil_append l) (Own.dS w1 w.heap.size _ _ a8 (some ⟨b,0,none⟩)) (hl.ext hw) hw.size rfl rfl rfl (by omega) (by omega) fun A2 c2 w2 hO hg => ?_
  replace hw:=aF hw hg (Nat.le_refl _) (by simp [aQ]);refine Wz ?_;exact ae.aO rfl rfl ⟨_,rfl,hw,A2,c2,rfl,hO⟩
open Go.RowKit
structure bg where
 Names:List ByteArray
 bh:Int
 cj:Int
 Order:Int
 ah:List Slab
 au:List Int
structure aE where
 Words:List Int
 Heap:Heap
 aa:List bg
def encStr (s:ByteArray) : List Value:=[.string s]
instance:fO encStr 1:=⟨fun _=>rfl,fun r u hu=>by simp [encStr] at hu;subst hu;rfl⟩
structure de where
 Names:fR
 bh:Int
 cj:Int
 Order:Int
 ah:fR
 au:fR
def df (r:de) : List Value:=[r.Names.v,.int .i64 r.bh,.int .i64 r.cj,.int .i64 r.Order,r.ah.v,r.au.v]
instance:fO df 6:=⟨fun _=>rfl,fun r u hu=>by simp [df,fR.v] at hu;rcases hu with rfl|rfl|rfl|rfl|rfl|rfl<;>rfl⟩
structure dP where
 Words:fR
 Heap:eI
 aa:fR
def aT (r:dP) : List Value:=[r.Words.v,r.Heap.aN.v,r.Heap.bJ.v,.int .i64 r.Heap.bX,r.Heap.av.v,r.Heap.Live.v,r.aa.v]
instance:fO aT 7:=⟨fun _=>rfl,fun r u hu=>by simp [aT,fR.v] at hu;rcases hu with rfl|rfl|rfl|rfl|rfl|rfl|rfl<;>rfl⟩
def dP.zero:dP:=⟨.nil,.zero,.nil⟩
theorem sB (r:de) : ∀ v∈df r,v.oneCell'=true:=fO.one (enc:=df) r
theorem dH (r:dP) : ∀ v∈aT r,v.oneCell'=true:=fO.one (enc:=aT) r
theorem iq {w:World} {b t:Nat} {r:dP} (h:aI w b t (aT r)) : ∀ j v,(bm r.Heap)[j]?=some v→w.cell? ((((⟨b,0,none⟩ : Addr)).add 1).add j)=some v:=fun j v hv=>by
 rw [add_add];refine h.cell (i:=1+j) ?_
 match j,hv with
 | 0,hv=>exact hv
 | 1,hv=>exact hv
 | 2,hv=>exact hv
 | 3,hv=>exact hv
 | 4,hv=>exact hv
 | j+5,hv=>simp [bm] at hv
theorem Own.Fs {α:Type} {w:World} {lo:Nat} {e:TypeId} {sz:Nat} {enc : α → List Value} {A:Option Addr} {n c:Nat} {l:List α} (h:Own w lo e sz enc A n c l) : n≤c:=by
 rcases h.row with ⟨rfl,rfl⟩|⟨_,_,_,_,_,_,h,_⟩
 ·exact Nat.le_refl _
 ·exact h
structure B5 (w:World) (r:de) (c:bg) : Prop where
 size:r.bh=c.bh
 fk:r.cj=c.cj
 order:r.Order=c.Order
 names:Sl w 1 encStr r.Names.A r.Names.n c.Names
 aR:Sl w 3 a8 r.ah.A r.ah.n c.ah
 ba:Sl w 1 bf r.au.A r.au.n c.au
 cap:r.au.n≤r.au.c
structure mE (w:World) (lo:Nat) (r:de) (c:bg) : Prop where
 size:r.bh=c.bh
 fk:r.cj=c.cj
 order:r.Order=c.Order
 names:Own w lo 9 1 encStr r.Names.A r.Names.n r.Names.c c.Names
 aR:Own w lo 48 3 a8 r.ah.A r.ah.n r.ah.c c.ah
 ba:Own w lo 3 1 bf r.au.A r.au.n r.au.c c.au
section
variable {w w':World} {lo nw t:Nat} {r:de} {c:bg}
theorem B5.ext (h:B5 w r c) (hx:Ext w w') : B5 w' r c:=⟨h.size,h.fk,h.order,h.names.ext hx,h.aR.ext hx,h.ba.ext hx,h.cap⟩
theorem mE.ext (h:mE w lo r c) (hx:Ext w w') : mE w' lo r c:=⟨h.size,h.fk,h.order,h.names.ext hx,h.aR.ext hx,h.ba.ext hx⟩
theorem mE.low (h:mE w lo r c) (hl:nw≤lo) : mE w nw r c:=⟨h.size,h.fk,h.order,h.names.low hl,h.aR.low hl,h.ba.low hl⟩
theorem mE.rd (h:mE w lo r c) : B5 w r c:=⟨h.size,h.fk,h.order,h.names.sl,h.aR.sl,h.ba.sl,h.ba.Fs⟩
theorem mE.ay (h:mE w lo r c) (hG:nY w w' t) (cG:(Nat.beq t 9 || (Nat.beq t 48 || Nat.beq t 3))=false) : mE w' lo r c:=by
 simp only [Bool.or_eq_false_iff] at cG;exact ⟨h.size,h.fk,h.order,h.names.ay hG cG.1,h.aR.ay hG cG.2.1,h.ba.ay hG cG.2.2⟩
end
structure yL (w:World) (s:fR) (cs:List de) (l:List bg) : Prop where
 row:Sl w 6 df s.A s.n cs
 each:eH (B5 w) cs l
 cap:s.n≤s.c
structure eR (w:World) (lo:Nat) (s:fR) (cs:List de) (l:List bg) : Prop where
 row:Own w lo 46 6 df s.A s.n s.c cs
 each:eH (mE w lo) cs l
section
variable {w w':World} {lo nw t:Nat} {s:fR} {cs:List de} {l:List bg}
theorem yL.ext (h:yL w s cs l) (hx:Ext w w') : yL w' s cs l:=⟨h.row.ext hx,h.each.mono fun _ _ h=>h.ext hx,h.cap⟩
theorem eR.ext (h:eR w lo s cs l) (hx:Ext w w') : eR w' lo s cs l:=⟨h.row.ext hx,h.each.mono fun _ _ h=>h.ext hx⟩
theorem eR.rd (h:eR w lo s cs l) : yL w s cs l:=⟨h.row.sl,h.each.mono fun _ _ h=>h.rd,h.row.Fs⟩
theorem eR.ay (h:eR w lo s cs l) (hG:nY w w' t) (cG:(Nat.beq t 46 || (Nat.beq t 9 || (Nat.beq t 48 || Nat.beq t 3)))=false) : eR w' lo s cs l:=by
 rw [Bool.or_eq_false_iff] at cG;exact ⟨h.row.ay hG cG.1,h.each.mono fun _ _ h=>h.ay hG cG.2⟩
theorem eR.nil (w:World) (lo:Nat) : eR w lo .nil [] []:=⟨Own.dS _ _ _ _ _ _,.nil⟩
theorem yL.len (h:yL w s cs l) : cs.length=s.n∧l.length=s.n:=⟨h.row.len,by rw [← h.each.len,h.row.len]⟩
theorem eR.cV {b:Nat} {vs:List Value} (h:eR w lo s cs l) (hB:aI w b 46 vs) (hg:w.grownBy w' (some b)) (c8:∀ k,aQ s.A s.c=some k→k<nw) (hm:nw≤b) : eR w' lo s cs l :=
 ⟨h.row.grown hg (.inr (fun e=>by have:=c8 _ e;omega)),h.each.mono fun _ _ h=>h.ay (hB.gr hg) rfl⟩
end
structure rG (w:World) (r:dP) (s:aE) : Prop where
 words:Sl w 1 bf r.Words.A r.Words.n s.Words
 heap:wH w r.Heap s.Heap
 dW:∃ cs,yL w r.aa cs s.aa
structure uf (w:World) (lo:Nat) (r:dP) (s:aE) : Prop where
 words:Own w lo 3 1 bf r.Words.A r.Words.n r.Words.c s.Words
 heap:iU w lo r.Heap s.Heap
 dW:∃ cs,eR w lo r.aa cs s.aa
section
variable {w w':World} {lo nw t:Nat} {r:dP} {s:aE}
theorem rG.ext (h:rG w r s) (hx:Ext w w') : rG w' r s:=by
 obtain ⟨cs,hc⟩:=h.dW;exact ⟨h.words.ext hx,h.heap.ext hx,⟨cs,hc.ext hx⟩⟩
theorem uf.ext (h:uf w lo r s) (hx:Ext w w') : uf w' lo r s:=by
 obtain ⟨cs,hc⟩:=h.dW;exact ⟨h.words.ext hx,h.heap.ext hx,⟨cs,hc.ext hx⟩⟩
theorem uf.rd (h:uf w lo r s) : rG w r s:=by
 obtain ⟨cs,hc⟩:=h.dW;exact ⟨h.words.sl,h.heap.rd,⟨cs,hc.rd⟩⟩
end
structure bg.small (c:bg) : Prop where
 names:c.Names.length*16≤140737488355328
 aR:c.ah.length*24≤140737488355328
 ba:c.au.length*8≤140737488355328
structure aE.small (s:aE) : Prop where
 words:s.Words.length*8≤140737488355328
 heap:s.Heap.small
 dW:s.aa.length*96≤140737488355328
 each:∀ c∈s.aa,c.small
end Go.Proofs.YtjimadiidbkohaaGreatDoor
set_option maxRecDepth 100000
namespace Go.Proofs.YtjimadiidbkohaaGreatDoor
open Go.ChangeShapes Go.WideShapes Go.ChangeAt Go.RowKit Go.Deep Go.Joins
section
variable {H:Type} {enc:TypeId×Value→H} {W:World} {base:Nat} {spare:Nat→Bool} {held:Bool} {fuel:Nat} {cs:List Value} {x:DataW H×List MemPlace}
theorem Ae {α:Type} {t e sz:Nat} [S:bw Tryz.prog t e sz] {x:DataW H×List MemPlace} {A:Option Addr} {n c:Nat} (h:DataW.trod enc Tryz.prog W base spare held fuel t cs=some x) (gU:cs=[.slice A n c]) : n≤c:=by
 rcases open_slice S.ky h with ⟨h1,h2⟩|⟨a,len,cap,m,k,D,Pl,h1,hb,hl,hm,JB,hx,hi⟩
 ·rw [gU] at h1;simp at h1;omega
 ·rw [gU] at h1;simp at h1;omega
theorem Af:∀ fuel cs x,DataW.trod enc Tryz.prog W base spare held fuel 9 cs=some x→(∀ y∈x.1.weights Tryz.prog 9,y≤reachBytes) → ∃ s:ByteArray,cs=encStr s∧s.size≤140737488351232:=by
 intro fuel cs x h hw;obtain ⟨s,rfl,rfl,_⟩:=DataW.trod_string Tryz.underlying9 h;refine ⟨s,rfl,?_⟩;have:=hw s.data.toList.length (by simp [DataW.weights])
 simp only [reachBytes] at this;simpa using this
theorem CT:∀ fuel cs x,DataW.trod enc Tryz.prog W base spare held fuel 48 cs=some x→(∀ y∈x.1.weights Tryz.prog 48,y≤reachBytes) → ∃ r:Slab,cs=a8 r∧sx r.At:=by
 intro fuel cs x h _;obtain ⟨xs,n,_,_,hlen,jV,hf⟩:=DataW.trod_struct Tryz.underlying48 h;have hc:Tryz.prog.cellsOf 48=3:=by kernel_rfl
 have hi:Tryz.prog.cellsOf 3=1:=by kernel_rfl
 rw [hc] at hlen
 match cs,hlen with
 | [c0,c1,c2],_ =>
   match xs,jV with
   | [y0,y1,y2],_ =>
     have h0:DataW.trod enc Tryz.prog W base spare held n 3 (List.take (Tryz.prog.cellsOf 3) (List.drop 0 [c0,c1,c2]))=some y0:=hf 0 _ rfl
     have h1:DataW.trod enc Tryz.prog W base spare held n 3 (List.take (Tryz.prog.cellsOf 3) (List.drop 1 [c0,c1,c2]))=some y1:=hf 1 _ rfl
     have h2:DataW.trod enc Tryz.prog W base spare held n 3 (List.take (Tryz.prog.cellsOf 3) (List.drop 2 [c0,c1,c2]))=some y2:=hf 2 _ rfl
     rw [hi] at h0 h1 h2;obtain ⟨a,ha,wa⟩:=gK Tryz.underlying3 h0;obtain ⟨b,hb,wb⟩:=gK Tryz.underlying3 h1;obtain ⟨c,B4,wc⟩:=gK Tryz.underlying3 h2;simp [bf] at ha hb B4;subst ha hb B4;exact ⟨⟨a,b,c⟩,rfl,wa⟩
structure bg.ou (c:bg) : Prop where
 small:c.small
 size:sx c.bh∧sx c.cj∧sx c.Order
 names:∀ s∈c.Names,s.size≤140737488351232
 aR:∀ x∈c.ah,sx x.At
theorem AV:∀ fuel cs x,DataW.trod enc Tryz.prog W base spare held fuel 46 cs=some x→(∀ y∈x.1.weights Tryz.prog 46,y≤reachBytes) → ∃ r:de,cs=df r ∧ ∃ c:bg,B5 W r c∧c.ou:=by
 intro fuel cs x h hw;obtain ⟨xs,n,_,rfl,hlen,jV,hf⟩:=DataW.trod_struct Tryz.underlying46 h;have hc:Tryz.prog.cellsOf 46=6:=by kernel_rfl
 have hi:Tryz.prog.cellsOf 3=1:=by kernel_rfl
 have Iv:Tryz.prog.cellsOf 43=1:=by kernel_rfl
 have Ko:Tryz.prog.cellsOf 44=1:=by kernel_rfl
 have Ng:Tryz.prog.cellsOf 22=1:=by kernel_rfl
 rw [hc] at hlen
 match cs,hlen with
 | [c0,c1,c2,c3,c4,c5],_ =>
   match xs,jV with
   | [y0,y1,y2,y3,y4,y5],_ =>
     have h0:DataW.trod enc Tryz.prog W base spare held n 43 (List.take (Tryz.prog.cellsOf 43) (List.drop 0 [c0,c1,c2,c3,c4,c5]))=some y0:=hf 0 _ rfl
     have h1:DataW.trod enc Tryz.prog W base spare held n 3 (List.take (Tryz.prog.cellsOf 3) (List.drop 1 [c0,c1,c2,c3,c4,c5]))=some y1:=hf 1 _ rfl
     have h2:DataW.trod enc Tryz.prog W base spare held n 3 (List.take (Tryz.prog.cellsOf 3) (List.drop 2 [c0,c1,c2,c3,c4,c5]))=some y2:=hf 2 _ rfl
     have h3:DataW.trod enc Tryz.prog W base spare held n 3 (List.take (Tryz.prog.cellsOf 3) (List.drop 3 [c0,c1,c2,c3,c4,c5]))=some y3:=hf 3 _ rfl
     have h4:DataW.trod enc Tryz.prog W base spare held n 44 (List.take (Tryz.prog.cellsOf 44) (List.drop 4 [c0,c1,c2,c3,c4,c5]))=some y4:=hf 4 _ rfl
     have h5:DataW.trod enc Tryz.prog W base spare held n 22 (List.take (Tryz.prog.cellsOf 22) (List.drop 5 [c0,c1,c2,c3,c4,c5]))=some y5:=hf 5 _ rfl
     rw [Iv] at h0;rw [hi] at h1 h2 h3;rw [Ko] at h4;rw [Ng] at h5;have w0:=fh Tryz.underlying46 (j:=0) rfl rfl hw;have w4:=fh Tryz.underlying46 (j:=4) rfl rfl hw;have w5:=fh Tryz.underlying46 (j:=5) rfl rfl hw;obtain ⟨A0,n0,k0,l0,e0,s0,b0,g0⟩:=fJ (t:=43) (b:=16) (by kernel_rfl) (by kernel_rfl) Af h0 w0;obtain ⟨a,ha,wa⟩:=gK Tryz.underlying3 h1;obtain ⟨b,hb,wb⟩:=gK Tryz.underlying3 h2;obtain ⟨c,B4,wc⟩:=gK Tryz.underlying3 h3;obtain ⟨A4,n4,k4,l4,e4,s4,b4,g4⟩:=fJ (t:=44) (b:=24) (by kernel_rfl) (by kernel_rfl) CT h4 w4;obtain ⟨A5,n5,k5,l5,e5,s5,b5,_⟩:=fJ (t:=22) (b:=8) (by kernel_rfl) (by kernel_rfl) (ph Tryz.underlying3) h5 w5;have kc:=Ae (α := Int) h5 e5;simp [bf] at e0 ha hb B4 e4 e5;subst e0 ha hb B4 e4 e5;refine ⟨⟨⟨A0,n0,k0⟩,a,b,c,⟨A4,n4,k4⟩,⟨A5,n5,k5⟩⟩,rfl,⟨l0,a,b,c,l4,l5⟩,⟨rfl,rfl,rfl,s0,s4,s5,kc⟩,⟨?_,?_,?_⟩,⟨wa,wb,wc⟩,g0,g4⟩
     ·simp only [s0.len];omega
     ·simp only [s4.len];omega
     ·simp only [s5.len];omega
structure aE.ou (s:aE) : Prop where
 small:s.small
 heap:s.Heap.ou
 dW:∀ c∈s.aa,c.ou
theorem yM:∀ fuel cs x,DataW.trod enc Tryz.prog W base spare held fuel 30 cs=some x→(∀ y∈x.1.weights Tryz.prog 30,y≤reachBytes) → ∃ r:dP,cs=aT r ∧ ∃ s:aE,rG W r s∧s.ou:=by
 intro fuel cs x h hw;obtain ⟨xs,n,_,rfl,hlen,jV,hf⟩:=DataW.trod_struct Tryz.underlying30 h;have hc:Tryz.prog.cellsOf 30=7:=by kernel_rfl
 have Iv:Tryz.prog.cellsOf 22=1:=by kernel_rfl
 have Iu:Tryz.prog.cellsOf 27=5:=by kernel_rfl
 have EA:Tryz.prog.cellsOf 28=1:=by kernel_rfl
 rw [hc] at hlen
 match cs,hlen with
 | [c0,c1,c2,c3,c4,c5,c6],_ =>
   match xs,jV with
   | [y0,y1,y2],_ =>
     have h0:DataW.trod enc Tryz.prog W base spare held n 22 (List.take (Tryz.prog.cellsOf 22) (List.drop 0 [c0,c1,c2,c3,c4,c5,c6]))=some y0:=hf 0 _ rfl
     have h1:DataW.trod enc Tryz.prog W base spare held n 27 (List.take (Tryz.prog.cellsOf 27) (List.drop 1 [c0,c1,c2,c3,c4,c5,c6]))=some y1:=hf 1 _ rfl
     have h2:DataW.trod enc Tryz.prog W base spare held n 28 (List.take (Tryz.prog.cellsOf 28) (List.drop 6 [c0,c1,c2,c3,c4,c5,c6]))=some y2:=hf 2 _ rfl
     rw [Iv] at h0;rw [Iu] at h1;rw [EA] at h2;have w0:=fh Tryz.underlying30 (j:=0) rfl rfl hw;have w1:=fh Tryz.underlying30 (j:=1) rfl rfl hw;have w2:=fh Tryz.underlying30 (j:=2) rfl rfl hw;obtain ⟨A0,n0,k0,l0,e0,s0,b0,_⟩:=fJ (t:=22) (b:=8) (by kernel_rfl) (by kernel_rfl) (ph Tryz.underlying3) h0 w0;obtain ⟨hr,e1,hh,hR,hG⟩:=CQ _ _ _ h1 w1;obtain ⟨A2,n2,k2,l2,e2,s2,b2,g2⟩:=fJ (t:=28) (b:=96) (by kernel_rfl) (by kernel_rfl) AV h2 w2;obtain ⟨C,hC⟩:=rF l2 g2;have kc:=Ae (α := de) h2 e2;simp [bm] at e0 e1 e2;obtain ⟨Nh,Ni,Nj,Nk,Nl⟩:=e1;subst e0 Nh Ni Nj Nk Nl e2;refine ⟨⟨⟨A0,n0,k0⟩,hr,⟨A2,n2,k2⟩⟩,rfl,⟨l0,hh,C⟩,⟨s0,hR,⟨l2,s2,hC.mono fun _ _ h=>h.1,kc⟩⟩,⟨?_,hG.small,?_,?_⟩,hG,?_⟩
     ·simp only [s0.len];omega
     ·simp only [← hC.len,s2.len];omega
     ·intro z hz;obtain ⟨i,hi,rfl⟩:=List.getElem_of_mem hz;exact (hC.get i (by have:=hC.len;simp only at hi;omega) hi).2.small
     ·intro z hz;obtain ⟨i,hi,rfl⟩:=List.getElem_of_mem hz;exact (hC.get i (by have:=hC.len;simp only at hi;omega) hi).2
theorem xj {r:Reach} {b0:Nat} {v:Value} {d:DataW H} {p:List MemPlace} (hv:Value.okWide Tryz.prog W r b0 30 v) (h:DataW.Trod enc Tryz.prog W base spare held 30 v d p) (hw:∀ y∈d.weights Tryz.prog 30,y≤reachBytes) :
 ∃ (r:dP) (s:aE),v = .agg (aT r).toArray∧rG W r s∧s.ou:=by
 obtain ⟨cs,rfl,uB⟩:=okWide_struct Tryz.underlying30 hv;obtain ⟨fuel,hf⟩:=h;obtain ⟨r,hr,hh,h1,h2⟩:=yM _ _ _ hf hw;refine ⟨r,hh,?_,h1,h2⟩;have:cs.toList=aT r:=hr
 rw [← this]
theorem CU {r:Reach} {b0:Nat} {v:Value} {d:DataW H} {p:List MemPlace} (hv:Value.okWide Tryz.prog W r b0 9 v) (h:DataW.Trod enc Tryz.prog W base spare held 9 v d p) (hw:∀ y∈d.weights Tryz.prog 9,y≤reachBytes) :
 ∃ s:ByteArray,v = .string s∧s.size≤140737488351232:=by
 obtain ⟨s,rfl⟩:=okWide_string Tryz.underlying9 hv;obtain ⟨fuel,hf⟩:=h;obtain ⟨s',hs,hz⟩:=Af _ _ _ hf hw;simp [Value.cells,encStr] at hs;subst hs;exact ⟨_,rfl,hz⟩
end
open Go.RowKit
theorem vH (A:Option Addr) (n c:Nat) (l:List ByteArray) (w:World) (hl:Sl w 1 encStr A n l) (hn:n*16≤140737488355328) : bt Tryz.prog 44 [.slice A n c] w (pO w 9 1 encStr n l):=by
 refine aM Tryz.func44 rfl Tryz.ntmps44 rfl ?_;have hw:=Ext.refl w;refine Wz ?_;refine SW.st (oN rfl rfl) rfl ?_;repeat' (first|refine Wz ?_|(refine CW.cond rfl (fun h => ?_) (fun h => ?_)))
 ·have Eo:n=0:=by
   rcases Nat.eq_zero_or_pos n with h0|h0
   ·exact h0
   ·have:=hl.base h0;simp_all
  subst Eo;have:l=[]:=List.eq_nil_of_length_eq_zero hl.len
  subst this;exact ae.aO rfl rfl ⟨_,rfl,hw,none,0,rfl,Own.dS _ _ _ _ _ _⟩
 ·refine SW.vn rfl fun b w1 ab hb => ?_
  replace hw:=Ext.trans hw ab;refine Wz ?_;refine SW.ry (Nat.zero_add n) (List.nil_append l) (Own.dS w1 w.heap.size _ _ encStr (some ⟨b,0,none⟩)) (hl.ext hw) hw.size rfl rfl rfl (by omega) (by omega) fun A2 c2 w2 hO hg => ?_
  replace hw:=aF hw hg (Nat.le_refl _) (by simp [aQ]);refine Wz ?_;exact ae.aO rfl rfl ⟨_,rfl,hw,A2,c2,rfl,hO⟩
open Go.RowKit
def apart (a b:fR) : Prop := ∀ k,aQ a.A a.c=some k→aQ b.A b.c≠some k
theorem j5 {α:Type} {w:World} {lo:Nat} {e:TypeId} {sz:Nat} {enc : α → List Value} {a b:fR} {l:List α} (h:Own w lo e sz enc a.A a.n a.c l) (hb:∀ k,aQ b.A b.c=some k→w.heap.size≤k) : apart a b:=fun k h1 h2=>by
 have:=h.lt_size k h1
 have:=hb k h2
 omega
structure jL (u v:de) : Prop where
 names:apart u.Names v.Names
 aR:apart u.ah v.ah
 ba:apart u.au v.au
structure vI (words:fR) (cs:List de) : Prop where
 pair:cs.Pairwise jL
 words:∀ u∈cs,apart words u.au
theorem vI.nil (x:fR) : vI x []:=⟨.nil,fun _ h=>by simp at h⟩
theorem vI.snoc {x:fR} {cs:List de} {v:de} (h:vI x cs) (h1:∀ u∈cs,jL u v) (h2:apart x v.au) : vI x (cs++[v]):=by
 refine ⟨List.pairwise_append.2 ⟨h.pair,by simp,fun a ha b hb => ?_⟩,fun u hu => ?_⟩
 ·simp at hb;subst hb;exact h1 a ha
 ·rcases List.mem_append.1 hu with hu|hu
  ·exact h.words u hu
  ·simp at hu;subst hu;exact h2
theorem eR.mem {w:World} {lo:Nat} {s:fR} {cs:List de} {l:List bg} (h:eR w lo s cs l) {u:de} (hu:u∈cs) : ∃ c,mE w lo u c:=by
 obtain ⟨i,hi,rfl⟩:=List.getElem_of_mem hu;exact ⟨_,h.each.get i hi (by rw [← h.each.len];exact hi)⟩
theorem eR.L5 {w:World} {lo:Nat} {s:fR} {cs:List de} {l:List bg} (h:eR w lo s cs l) {b:fR} (hb:∀ k,aQ b.A b.c=some k→w.heap.size≤k) : ∀ u∈cs,apart u.Names b:=fun u hu=>by
 obtain ⟨c,hc⟩:=h.mem hu;exact j5 hc.names hb
theorem eR.L6 {w:World} {lo:Nat} {s:fR} {cs:List de} {l:List bg} (h:eR w lo s cs l) {b:fR} (hb:∀ k,aQ b.A b.c=some k→w.heap.size≤k) : ∀ u∈cs,apart u.ah b:=fun u hu=>by
 obtain ⟨c,hc⟩:=h.mem hu;exact j5 hc.aR hb
theorem eR.L7 {w:World} {lo:Nat} {s:fR} {cs:List de} {l:List bg} (h:eR w lo s cs l) {b:fR} (hb:∀ k,aQ b.A b.c=some k→w.heap.size≤k) : ∀ u∈cs,apart u.au b:=fun u hu=>by
 obtain ⟨c,hc⟩:=h.mem hu;exact j5 hc.ba hb
open Go.RowKit
def Marks (w:World) (b N:Nat) : Option (List Block)→Prop
 | some bs=>aI w b 105 (fg (dV bs) N false)
 | none => ∃ p,aI w b 105 (fg p N true)
theorem Marks.ext {w w':World} {b N:Nat} {s:Option (List Block)} (h:Marks w b N s) (hx:Ext w w') : Marks w' b N s:=by
 cases s with
 | none=>obtain ⟨p,h⟩:=h;exact ⟨p,aI.ext h hx⟩
 | some bs=>exact aI.ext h hx
theorem Marks.bad {w:World} {b N:Nat} {s:Option (List Block)} (h:Marks w b N s) (hN:N=256) : w.cell? ((⟨b,0,none⟩ : Addr).add 256)=some (.bool s.isNone):=by
 subst hN;cases s with
 | none=>obtain ⟨p,h⟩:=h;exact aI.cell h (si _ _ _)
 | some bs=>exact aI.cell h (si _ _ _)
theorem Marks.gr {w w':World} {b N:Nat} {s:Option (List Block)} (h:Marks w b N s) (hg:w.grownBy w' (some b)) : nY w w' 105:=by
 cases s with
 | none=>obtain ⟨p,h⟩:=h;exact aI.gr h hg
 | some bs=>exact aI.gr h hg
theorem qd (b:Nat) (s:Option (List Block)) (x:Block) (N:Nat) (hN:N=256) (w:World) (hM:Marks w b N s) (hs:mR s) (hp : 1≤pw x.Order∧pw x.Order≤16) :
 il Tryz.prog 62 [.pointer (some ⟨b,0,none⟩),.int .i64 x.At,.int .i64 (pw x.Order)] w fun v w'=>Marks w' b N (jW s x)∧w.grownBy w' (some b):=by
 cases s with
 | none =>
   obtain ⟨p,hB⟩:=hM;refine ⟨Calls.mono (wX b p true N hN x.At (pw x.Order) w hB ⟨by omega,hp.2⟩).out ?_⟩;rintro e w' ⟨v,he,p',AM,qZ,hg,h⟩
   refine ⟨v,he,?_,hg⟩;have:AM=true:=by rcases h with ⟨_,h,_⟩|⟨_,h⟩<;>exact h
   subst this;exact ⟨p',qZ⟩
 | some bs =>
   refine ⟨Calls.mono (wX b (dV bs) false N hN x.At (pw x.Order) w hM ⟨by omega,hp.2⟩).out ?_⟩;rintro e w' ⟨v,he,p',AM,qZ,hg,h⟩
   refine ⟨v,he,?_,hg⟩;have Iw:=rC (hs bs rfl) (b:=x) hp.1;rcases h with ⟨h1,rfl,rfl⟩|⟨h1,rfl⟩
   ·have:jW (some bs) x=some (bs++[x]):=by simp [jW,Iw.1 h1]
    rw [this];show aI w' b _ _
    rw [← lX (fun i _=>CB bs x i)];exact qZ
   ·have:jW (some bs) x=none:=by
     simp only [jW];rw [if_neg (fun hf=>h1 (Iw.2 hf))]
    rw [this];exact ⟨p',qZ⟩
theorem qe (r s:bO) (a b:aA) (w:World) (ha:r.dU=a.dU∧r.aq=a.aq∧r.Ty=a.Ty) (hb:s.dU=b.dU∧s.aq=b.aq∧s.Ty=b.Ty) :
 bt Tryz.prog 96 [.agg (bp r).toArray,.agg (bp s).toArray] w fun v _=>v = .bool (decide (bz a b)):=by
 refine aM Tryz.func96 rfl Tryz.ntmps96 rfl ?_;refine CW.seq (CW.region (SW.box rfl rfl fun b2 w1 hw im aK => ?_));refine SW.box rfl rfl fun b3 w2 cJ bM ar => ?_
 (replace hw:=Ext.trans hw cJ;replace aK:=aK.ext cJ);obtain ⟨a1,a2,a3⟩:=ha;obtain ⟨b1,Ks,Kt⟩:=hb;have key:bz a b↔(r.dU<s.dU∨(r.dU=s.dU∧(r.aq<s.aq∨(r.aq=s.aq∧r.Ty<s.Ty)))):=by unfold bz;rw [a1,a2,a3,b1,Ks,Kt]
 by_cases h1:r.dU<s.dU
 ·rw [decide_eq_true (key.2 (by omega))];refine Wz ?_;all_goals first|(exfalso;omega)|exact ae.aO rfl rfl ⟨_,rfl,hw,by simp [h1]⟩
 ·by_cases h2:r.dU=s.dU
  ·by_cases h3:r.aq<s.aq
   ·rw [decide_eq_true (key.2 (by omega))];refine Wz ?_;all_goals first|(exfalso;omega)|exact ae.aO rfl rfl ⟨_,rfl,hw,by simp [h3]⟩
   ·by_cases h4:r.aq=s.aq
    ·by_cases h5:r.Ty<s.Ty
     ·rw [decide_eq_true (key.2 (by omega))];refine Wz ?_;all_goals first|(exfalso;omega)|exact ae.aO rfl rfl ⟨_,rfl,hw,by simp [h5]⟩
     ·rw [decide_eq_false (fun h=>by have:=key.1 h;omega)];refine Wz ?_;all_goals first|(exfalso;omega)|exact ae.aO rfl rfl ⟨_,rfl,hw,by simp [h5]⟩
    ·rw [decide_eq_false (fun h=>by have:=key.1 h;omega)];refine Wz ?_;all_goals first|(exfalso;omega)|exact ae.aO rfl rfl ⟨_,rfl,hw,by simp [h3]⟩
  ·rw [decide_eq_false (fun h=>by have:=key.1 h;omega)];refine Wz ?_;all_goals first|(exfalso;omega)|exact ae.aO rfl rfl ⟨_,rfl,hw,by simp [h1]⟩
theorem sC (r s:bO) (a b:aA) (w:World) (ha:r.dU=a.dU∧r.aq=a.aq∧r.Ty=a.Ty) (hb:s.dU=b.dU∧s.aq=b.aq∧s.Ty=b.Ty) :
 bt Tryz.prog 82 [.agg (bp r).toArray,.agg (bp s).toArray] w fun v _=>v = .bool (decide (bz a b)):=by
 refine aM Tryz.func82 rfl Tryz.ntmps82 rfl ?_;refine CW.seq (CW.region (SW.box rfl rfl fun b2 w1 hw im aK => ?_));refine SW.box rfl rfl fun b3 w2 cJ bM ar => ?_
 (replace hw:=Ext.trans hw cJ;replace aK:=aK.ext cJ);obtain ⟨a1,a2,a3⟩:=ha;obtain ⟨b1,Ks,Kt⟩:=hb;have key:bz a b↔(r.dU<s.dU∨(r.dU=s.dU∧(r.aq<s.aq∨(r.aq=s.aq∧r.Ty<s.Ty)))):=by unfold bz;rw [a1,a2,a3,b1,Ks,Kt]
 by_cases h1:r.dU<s.dU
 ·rw [decide_eq_true (key.2 (by omega))];refine Wz ?_;all_goals first|(exfalso;omega)|exact ae.aO rfl rfl ⟨_,rfl,hw,by simp [h1]⟩
 ·by_cases h2:r.dU=s.dU
  ·by_cases h3:r.aq<s.aq
   ·rw [decide_eq_true (key.2 (by omega))];refine Wz ?_;all_goals first|(exfalso;omega)|exact ae.aO rfl rfl ⟨_,rfl,hw,by simp [h3]⟩
   ·by_cases h4:r.aq=s.aq
    ·by_cases h5:r.Ty<s.Ty
     ·rw [decide_eq_true (key.2 (by omega))];refine Wz ?_;all_goals first|(exfalso;omega)|exact ae.aO rfl rfl ⟨_,rfl,hw,by simp [h5]⟩
     ·rw [decide_eq_false (fun h=>by have:=key.1 h;omega)];refine Wz ?_;all_goals first|(exfalso;omega)|exact ae.aO rfl rfl ⟨_,rfl,hw,by simp [h5]⟩
    ·rw [decide_eq_false (fun h=>by have:=key.1 h;omega)];refine Wz ?_;all_goals first|(exfalso;omega)|exact ae.aO rfl rfl ⟨_,rfl,hw,by simp [h3]⟩
  ·rw [decide_eq_false (fun h=>by have:=key.1 h;omega)];refine Wz ?_;all_goals first|(exfalso;omega)|exact ae.aO rfl rfl ⟨_,rfl,hw,by simp [h1]⟩
structure ug (w:World) (r:eI) (h:Heap) (r0 r1:ct) (z0 z1:aq) : Prop where
 rd:wH w r h
 eq:h.aN=[z0,z1]
 n:r.aN.n=2
 row:Sl w 4 bo r.aN.A r.aN.n [r0,r1]
 z0:tY w r0 z0
 z1:tY w r1 z1
theorem ug.ext {w w':World} {r:eI} {h:Heap} {r0 r1:ct} {z0 z1:aq} (a:ug w r h r0 r1 z0 z1) (hx:Ext w w') : ug w' r h r0 r1 z0 z1 :=
 ⟨a.rd.ext hx,a.eq,a.n,a.row.ext hx,a.z0.ext hx,a.z1.ext hx⟩
theorem ug.c0 {w:World} {r:eI} {h:Heap} {r0 r1:ct} {z0 z1:aq} (a:ug w r h r0 r1 z0 z1) (j:Nat) (u:Value) (hu:(bo r0)[j]?=some u) : w.cell? (((r.aN.A.getD default).add (0*4)).add j)=some u:=a.row.cell 0 (by simp) j u hu
theorem ug.c1 {w:World} {r:eI} {h:Heap} {r0 r1:ct} {z0 z1:aq} (a:ug w r h r0 r1 z0 z1) (j:Nat) (u:Value) (hu:(bo r1)[j]?=some u) : w.cell? (((r.aN.A.getD default).add (1*4)).add j)=some u:=a.row.cell 1 (by simp) j u hu
theorem qf {α:Type} {l:List α} (h:l.length=2) : ∃ a b,l=[a,b]:=by
 match l,h with
 | [a,b],_=>exact ⟨a,b,rfl⟩
theorem wH.two {w:World} {r:eI} {h:Heap} (a:wH w r h) (hl:h.aN.length=2) : ∃ r0 r1 z0 z1,ug w r h r0 r1 z0 z1:=by
 obtain ⟨zs,hz⟩:=a.cx;obtain ⟨z0,z1,e1⟩:=qf hl;have l0:=hz.each.len;obtain ⟨r0,r1,e2⟩:=qf (show zs.length=2 by omega);subst e2;have l1:=hz.row.len;have h0:=hz.each.get 0 (by simp) (by omega);have h1:=hz.each.get 1 (by simp) (by omega);simp only [e1] at h0 h1;exact ⟨r0,r1,z0,z1,a,e1,by simpa using l1.symm,hz.row,h0,h1⟩
theorem AW (r:eI) (h:Heap) (r0 r1:ct) (z0 z1:aq) (x:Int) (w:World) (hr:ug w r h r0 r1 z0 z1) :
 bt Tryz.prog 97 [.agg (bm r).toArray,.int .i64 x] w fun v _=>v = .int .i64 (if x<z0.To then 0 else 1):=by
 refine aM Tryz.func97 rfl Tryz.ntmps97 rfl ?_;refine CW.seq (CW.region (SW.box rfl rfl fun b2 w1 hw im aK => ?_));have hn:=hr.n;have hA:=hr.row.base;have e1:=hr.z0.ka;by_cases hx:x<z0.To
 ·rw [if_pos hx];repeat' (first|refine Wz ?_|refine SW.st (aZ (0) rfl rfl (by assumption) (by omega) (by omega)) rfl ?_|refine SW.st (ao hw rfl (hr.c0 1 _ rfl)) rfl ?_)
  exact ae.aO rfl rfl ⟨_,rfl,hw,rfl⟩
 ·rw [if_neg hx];repeat' (first|refine Wz ?_|refine SW.st (aZ (0) rfl rfl (by assumption) (by omega) (by omega)) rfl ?_|refine SW.st (ao hw rfl (hr.c0 1 _ rfl)) rfl ?_)
  exact ae.aO rfl rfl ⟨_,rfl,hw,rfl⟩
def xk (l:List Block) : Prop:=l.Pairwise ij
theorem l6 {y o:Int} (h0 : 0≤o) (h4:o<4) (hm:y % pw o=0) : beside (beside y o) o=y∧(beside y o=y+pw o∨beside y o=y-pw o):=by
 unfold beside;have hp:=dZ h0 (show o≤4 by omega);generalize pw o=q at *
 rcases hp with ⟨e,rfl⟩|⟨e,rfl⟩|⟨e,rfl⟩|⟨e,rfl⟩|⟨e,rfl⟩<;>(refine ⟨?_,?_⟩<;>split<;>(try split)<;>omega)
theorem xl {z:aq} (h:bT z) : xk z.ag:=by
 have hu:=lx h;unfold xk;rw [List.pairwise_iff_getElem];intro i j hi hj kX;by_cases e:j=i+1
 ·subst e;exact h.next i hj
 ·refine ⟨fB hu hj kX,fun hh => ?_⟩;obtain ⟨h1,h2,h3⟩:=hh;have g1:=fB hu (show i+1<z.ag.length by omega) (Nat.lt_succ_self i);have g2:=fB hu hj (show i+1<j by omega);have b1:=(h.cV (i+1) (by omega)).1;have b2:=(h.cV j hj).1;have p1:=bH b1.1 b1.2.1;have p2:=(l6 b2.1 h1 b2.2.2.2.2).2;have p3:=bH b2.1 b2.2.1;rw [h2] at g1;omega
theorem AX {a o:Int} (h0 : 0≤o) (h4:o<4) (hm:a % pw o=0) (t1 t2 t3:Int) (i:Nat) : pX ⟨min a (beside a o),o+1,t1⟩ i=(pX ⟨a,o,t2⟩ i || pX ⟨beside a o,o,t3⟩ i):=by
 have h1:=(l6 h0 h4 hm).2;have h2:=jq h0 (show o≤4 by omega);have h3:=bH h0 (show o≤4 by omega);rw [Bool.eq_iff_iff];simp only [pX,Bool.and_eq_true,Bool.or_eq_true,decide_eq_true_eq];rw [h2];omega
theorem xm {l:List Block} {a o:Int} (h:l.any (rb a o)=true) (i:Nat) : dV l i=(dV (da l a o) i || pX ⟨a,o,0⟩ i):=by
 rw [Bool.eq_iff_iff];simp only [Bool.or_eq_true,dV,List.any_eq_true,da,List.mem_filter];constructor
 ·rintro ⟨x,hx,hi⟩
  by_cases e:rb a o x=true
  ·obtain ⟨e1,e2⟩:=ib.1 e;right;rw [← hi,← e1,← e2];rfl
  ·left;exact ⟨x,⟨hx,by simp [e]⟩,hi⟩
 ·rintro (⟨x,⟨hx,_⟩,hi⟩|hi)
  ·exact ⟨x,hx,hi⟩
  ·obtain ⟨b,hb,hh⟩:=List.any_eq_true.1 h;obtain ⟨e1,e2⟩:=ib.1 hh;exact ⟨b,hb,by rw [← hi,← e1,← e2];rfl⟩
structure Joined (f t:Int) (l:List Block) (a o:Int) (l':List Block) (a' o':Int) : Prop where
 ok:vw f t l' a' o'
 nx:xk l'
 B6:∀ i,(dV l' i || pX ⟨a',o',0⟩ i)=(dV l i || pX ⟨a,o,0⟩ i)
 fin:o'<4→l'.any (rb (beside a' o') o')=false
theorem pj {f t:Int} (h0 : 0≤f) : ∀ (k:Nat) {l:List Block} {a o:Int},4-o<k→vw f t l a o→xk l→Joined f t l a o (iy k l a o).1 (iy k l a o).2.1 (iy k l a o).2.2
 | 0,l,a,o,hk,h,hn=>by have:=h.fit.2.1;omega
 | k+1,l,a,o,hk,h,hn=>by
   simp only [iy];split
   ·rename_i ho;split
    ·rename_i dO;have ih:=pj h0 k (by omega) (h.step h0 ho dO) (hn.sublist List.filter_sublist);refine ⟨ih.ok,ih.nx,fun i => ?_,ih.fin⟩;rw [ih.B6 i,AX h.fit.1 ho h.fit.2.2.2.2 0 0 0,xm dO i];rw [Bool.or_assoc,Bool.or_comm (pX _ i) (pX _ i)]
    ·rename_i dO;exact ⟨h,hn,fun _=>rfl,fun _=>by simpa using dO⟩
   ·rename_i ho;exact ⟨h,hn,fun _=>rfl,fun h=>absurd h ho⟩
theorem EC {f t:Int} {l0:List Block} {a0 o0:Int} {l:List Block} {a o:Int} (h:Joined f t l0 a0 o0 l a o) (u:Int) : xk (aU l (bF l a) ⟨a,o,u⟩):=by
 have hk:=h.ok;have hp:=bH hk.fit.1 hk.fit.2.1
 have Ga:∀ x∈l.take (bF l a),ij x ⟨a,o,u⟩:=fun x hx=>by
  obtain ⟨j,hj,rfl⟩:=List.getElem_of_mem hx;simp only [List.length_take] at hj;rw [List.getElem_take];have h1:=mP (l:=l) (a:=a) (k:=j) (by omega);have h2:=hk.BZ _ (List.getElem_mem (show j<l.length by omega));refine ⟨by simp only;omega,fun hh => ?_⟩;obtain ⟨g1,g2,g3⟩:=hh;have:=h.fin g1
  rw [List.any_eq_false] at this;exact this _ (List.getElem_mem (show j<l.length by omega)) (ib.2 ⟨g3,g2⟩)
 have Ix:∀ y∈l.drop (bF l a),ij ⟨a,o,u⟩ y:=fun y hy=>by
  obtain ⟨j,hj,rfl⟩:=List.getElem_of_mem hy;simp only [List.length_drop] at hj;rw [List.getElem_drop];have c8:bF l a<l.length:=by omega
  have h1:=z5 c8;have hm:=List.getElem_mem (show bF l a+j<l.length by omega);have h2:=hk.BZ _ hm;have hb:=(hk.cV _ hm).1;have OQ:=bH hb.1 hb.2.1
  have h3:(l[bF l a]).At≤(l[bF l a+j]'(by omega)).At:=by
   rcases Nat.eq_zero_or_pos j with e|e
   ·subst e;simp
   ·have:=fB hk.nO (show bF l a+j<l.length by omega) (show bF l a<bF l a+j by omega)
    have Ft:=(hk.cV _ (List.getElem_mem c8)).1;have:=bH Ft.1 Ft.2.1
    omega
  refine ⟨by simp only;omega,fun hh => ?_⟩;obtain ⟨g1,g2,g3⟩:=hh;simp only at g2 g3;have e:=(l6 hb.1 g1 hb.2.2.2.2).1;rw [← g3,← g2] at e;have:=h.fin (by omega)
  rw [List.any_eq_false] at this;exact this _ hm (ib.2 ⟨e.symm,g2.symm⟩)
 have gd:(l.take (bF l a)++l.drop (bF l a)).Pairwise ij:=by rw [List.take_append_drop];exact h.nx
 rw [List.pairwise_append] at gd;unfold xk aU;rw [List.append_assoc,List.pairwise_append];refine ⟨gd.1,?_,fun x hx y hy => ?_⟩
 ·rw [List.singleton_append,List.pairwise_cons];exact ⟨Ix,gd.2.1⟩
 ·rw [List.singleton_append,List.mem_cons] at hy;rcases hy with rfl|hy
  ·exact Ga x hx
  ·exact gd.2.2 x hx y hy
theorem AY (l:List Block) (i:Nat) (b:Block) (k:Nat) : dV (aU l i b) k=(dV l k || pX b k):=by
 have:dV l k=(dV (l.take i) k || dV (l.drop i) k):=by
  unfold dV;rw [← List.any_append,List.take_append_drop]
 rw [this];simp only [dV,aU,List.any_append,List.any_cons,List.any_nil,Bool.or_false];cases (l.take i).any fun b=>pX b k<;>cases pX b k<;>simp
theorem AZ {l:List Block} {i:Nat} {b x:Block} (h:x∈aU l i b) : x=b∨x∈l:=by
 unfold aU at h;rw [List.mem_append,List.mem_append] at h;rcases h with (h|h)|h
 ·exact .inr (List.mem_of_mem_take h)
 ·exact .inl (by simpa using h)
 ·exact .inr (List.mem_of_mem_drop h)
structure Kept (z z':aq) (a o:Int) : Prop where
 may:bT z'
 from_:z'.aV=z.aV
 ka:z'.To=z.To
 types:z'.Types=z.Types
 B6:∀ i,dV z'.ag i=(dV z.ag i || pX ⟨a,o,0⟩ i)
theorem sD {z:aq} {a o:Int} (hz:bT z) (hf:e8 z.aV z.To a o) (ho:fc z.ag a o=false) : (iZ z a o).1=0∧Kept z (iZ z a o).2 a o:=by
 have h0 : 0≤z.aV:=hz.ok.1
 have hJ:=r9 (f:=0) (t:=0) hz hf ho;have hj:=pj h0 5 (by have:=hf.1;omega) hJ (xl hz);obtain ⟨⟨l,a',o'⟩,hq⟩ : ∃ u,iy 5 z.ag a o=u:=⟨_,rfl⟩;rw [hq] at hj;simp only at hj;obtain ⟨t,ht⟩ : ∃ t,z.Types.getD ((a'-z.aV) / 8).toNat 0=t:=⟨_,rfl⟩;rw [vA (rA hz) hf ho hq ht]
 have Ku:fy t:=by
  subst ht;rw [List.getD_eq_getElem?_getD];cases e:z.Types[((a'-z.aV) / 8).toNat]? with
  | none=>exact ⟨by decide,by decide⟩
  | some v =>
    obtain ⟨h,rfl⟩:=List.getElem?_eq_some_iff.1 e;exact hz.types _ (List.getElem_mem h)
 have hn:=EC hj t;refine ⟨rfl,⟨hz.ok,hz.len,hz.types,fun i hi => ?_,fun i hi => ?_⟩,rfl,rfl,rfl,fun i => ?_⟩
 ·rcases AZ (List.getElem_mem hi) with e|e
  ·simp only at e ⊢;rw [e];exact ⟨hj.ok.fit,Ku⟩
  ·exact hj.ok.cV _ e
 ·unfold xk at hn;rw [List.pairwise_iff_getElem] at hn;exact hn i (i+1) (by simp only at hi;omega) hi (Nat.lt_succ_self i)
 ·rw [AY,← hj.B6 i];rfl
end Go.Proofs.YtjimadiidbkohaaGreatDoor
