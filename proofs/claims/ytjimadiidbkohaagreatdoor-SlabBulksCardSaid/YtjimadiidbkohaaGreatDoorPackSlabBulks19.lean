/-
  Texts of the claim SlabBulks, part 19: what its theorem leans on.
-/
import Derived.Test.YtjimadiidbkohaaGreatDoorPackSlabBulks18
import Derived.Test.YtjimadiidbkohaaGreatDoorPackSlabBulks17
import Derived.Test.YtjimadiidbkohaaGreatDoorPackSlabBulks11
import Derived.Test.YtjimadiidbkohaaGreatDoorPackSlabBulks2
import Derived.Test.YtjimadiidbkohaaGreatDoorPackSlabBulks9
set_option linter.unusedVariables false
set_option linter.unusedSimpArgs false
namespace Go.Proofs.YtjimadiidbkohaaGreatDoor
open Go.RowKit
theorem tw (r:eI) (l:List Block) (a:Int) (w:World) (hl:Sl w 3 az r.Live.A r.Live.n l) (hu:l.Pairwise fun x y=>x.At<y.At) (hb:∀ b∈l,0≤b.At∧b.At≤255) (hn:r.Live.n≤1000000000000000000) (ha : 0≤a∧a<256) :
 bt Tryz.prog 105 [.agg (bm r).toArray,.int .i64 a] w fun v _=>v = .tuple #[.int .i64 (bF l a:Int),.bool (cf l a)]:=by
 refine aM Tryz.func105 rfl Tryz.ntmps105 rfl ?_;refine CW.seq (CW.region (SW.box rfl rfl fun b1 w1 hw ik aB => ?_));refine Wz ?_
 refine SW.call rfl rfl (jI _ _ _ _ a _ (hl.ext hw) _ (fun x hx w' _=>by
  have:=xv x a w'
  have h:=hb x hx;rwa [iH (by omega) (by omega)] at this) hu hn) fun v w2 cJ hv => ?_
 subst hv;replace hw:=Ext.trans hw cJ;refine Wz ?_;exact ae.cy rfl rfl rfl ⟨_,rfl,hw,rfl⟩
def fM (lo:Nat) (u:Heap×Int×Int) (v:Value) (w:World) : Prop := ∃ s:eI,v = .tuple #[.agg (bm s).toArray,.int .i64 u.2.1,.int .i64 u.2.2]∧iU w lo s u.1
theorem fM.zero (e:Int) (lo:Nat) (w:World) : fM lo (.zero,0,e) (.tuple #[.agg (bm .zero).toArray,.int .i64 0,.int .i64 e]) w:=⟨.zero,rfl,iU.zero w lo⟩
theorem HS.DB {wb w:World} {k:HK} {p:HP} {s:aq×aq} {L:List aA} {i:Nat} {cs:List Value} (h:HS wb w k p s L) (hB:aI w i 27 cs) (cG:i≠k.b) : ¬ ia k p i:=fun hm=>by
 rcases hm with e|e|e|⟨y,hy,e⟩
 ·exact cG e
 ·exact h.zs.row.dm hB rfl (by rw [h.zs.own,e])
 ·exact h.ls.row.dm hB rfl e
 ·obtain ⟨l,_,hl⟩:=h.IZ hy;exact hl.cu.dm hB rfl e
theorem yb {h:Heap} (hm:bE h) : n9 h.bJ (bR h 0) (bR h 1):=by
 obtain ⟨m0,m1,e,h0,h1⟩:=hm.cn;unfold bR;rw [e];exact ⟨rfl,h0,h1⟩
set_option maxHeartbeats 8000000 in
theorem vg (r:eI) (h:Heap) (cpu o f:Int) (w:World) (hr:wH w r h) (hs:h.small) (C8:∀ z∈h.aN,mq z) (hO:pe w) :
 bt Tryz.prog 75 [.agg (bm r).toArray,.int .i64 cpu,.int .i64 o,.int .i64 f] w fun v w' => ∃ u,dJ h cpu o f u∧fM w.heap.size u v w':=by
 refine aM Tryz.func75 rfl Tryz.ntmps75 rfl ?_;refine CW.seq (CW.region (SW.box rfl rfl fun b4 w1 hw my bY => ?_));have mM:=my;refine SW.alloc rfl fun b8 w2 cJ kZ bu => ?_
 have jA:w.heap.size≤b8:=Nat.le_trans hw.size kZ
 have Aw:b4≠b8:=by have:=bY.lt;omega
 (replace hw:=Ext.trans hw cJ;replace bY:=bY.ext cJ);have eC:=hr.er;obtain ⟨q,hq⟩ : ∃ q,ja h=q:=⟨_,rfl⟩
 have c1:∀ w',Ext w w'→bt Tryz.prog 34 [.agg (bm r).toArray] w' fun v _=>v = .int .i64 (if q then 0 else 8):=fun w' hx=>by
  have:=sP r h w' (hr.ext hx) hs C8
  rwa [hq] at this
 cases q
 ·simp only [Bool.false_eq_true,if_false] at c1;repeat' (first|refine Wy ?_|refine SW.st (aY rfl rfl ((fun _ _=>bY.cell))) rfl ?_|(refine SW.call rfl rfl (c1 _ hw) ?_;intro v w1 ab hv;subst hv;replace hw:=Ext.trans hw ab;replace bY:=bY.ext ab;replace bu:=bu.ext ab;clear ab))
  refine SW.ap bu rfl rfl rfl rfl (cS .zero) fun w5 bL hg => ?_
  replace hw:=hw.own jA hg;repeat' (first|refine Wy ?_|fail);exact ae.dB rfl rfl rfl rfl bL rfl ⟨_,rfl,hw,_,.bad hq,fM.zero 8 _ _⟩
 ·simp only [if_true] at c1;have hm:=fP.1 hq;obtain ⟨z0,z1,F⟩:=jE hm;by_cases hc:(0≤cpu∧cpu<h.bX)∧0≤o∧o≤4
  ·obtain ⟨q2,D9⟩ : ∃ q2,decide (0≤dN f)=q2:=⟨_,rfl⟩
   have c2:∀ w',bt Tryz.prog 102 [.int .i64 f] w' fun v _=>v = .tuple #[.int .i64 (if 0≤dN f then dN f else 0),.bool q2]:=fun w'=>by
    have:=zx f w'
    rwa [D9] at this
   cases q2
   ·have ht:=of_decide_eq_false D9;repeat' (first|refine Wy ?_|(refine CW.bG rfl ?_)|refine SW.st (aY rfl rfl ((fun _ _=>bY.cell))) rfl ?_|refine SW.st (ak rfl (bY.cell (i:=2) (v := .int .i64 r.bX) rfl)) rfl ?_|((first|refine SW.call rfl rfl (c1 _ hw) ?_|refine SW.call rfl rfl (c2 _) ?_);intro v w1 ab hv;subst hv;replace hw:=Ext.trans hw ab;replace bY:=bY.ext ab;replace bu:=bu.ext ab;clear ab))
    all_goals try omega
    refine SW.ap bu rfl rfl rfl rfl (cS .zero) fun w5 bL hg => ?_
    replace hw:=hw.own jA hg;repeat' (first|refine Wy ?_|fail);exact ae.dB rfl rfl rfl rfl bL rfl ⟨_,rfl,hw,_,.form hq hc (by omega),fM.zero 3 _ _⟩
   ·have ht:=of_decide_eq_true D9;obtain ⟨hf,nz⟩:=xU ht;obtain ⟨t,zA⟩ : ∃ t,dN f=t:=⟨_,rfl⟩;have mC : 0≤t:=by rw [← zA];exact ht
    simp only [zA,if_pos mC] at c2;repeat' (first|refine Wy ?_|(refine CW.bA rfl ?_)|refine SW.st (aY rfl rfl ((fun _ _=>bY.cell))) rfl ?_|refine SW.st (ak rfl (bY.cell (i:=2) (v := .int .i64 r.bX) rfl)) rfl ?_|((first|refine SW.call rfl rfl (c1 _ hw) ?_|refine SW.call rfl rfl (c2 _) ?_);intro v w1 ab hv;subst hv;replace hw:=Ext.trans hw ab;replace bY:=bY.ext ab;replace bu:=bu.ext ab;clear ab))
    all_goals try omega
    clear c1 c2;refine SW.call rfl rfl (sA r h _ (hr.ext hw) hs) fun v w4 iS hv => ?_
    obtain ⟨s,rfl,DC⟩:=hv;have hM:=DC.own.cn.low hw.size;have hV:=DC.own.live.low hw.size;have G3:=DC.own.er;obtain ⟨g,c,u0,u1,ls,eZ,hZ,hL,xi,Gy⟩:=DC.split F.d.cx;have hZ:ec w4 w.heap.size g c u0 u1 (z0,z1):=⟨hZ.row.low hw.size,hZ.z0.low hw.size,hZ.z1.low hw.size,Nat.le_trans hw.size hZ.yQ,hZ.pos⟩
    replace hL:=hL.low hw.size;clear DC;(replace hw:=Ext.trans hw iS;replace bY:=bY.ext iS;replace bu:=bu.ext iS);obtain ⟨sz,m,cp,li,lv⟩:=s;simp only at eZ hM hV hL xi Gy G3;subst eZ;refine SW.ap bY rfl rfl rfl rfl (cS ⟨⟨some ⟨g,0,none⟩,2,c⟩,m,cp,li,lv⟩) fun w5 rh hg => ?_
    have hG:=bY.gr hg;replace hw:=hw.own mM hg;replace bu:=bu.grown hg (by simpa using Ne.symm Aw);(replace hZ:=hZ.ay hG rfl;replace hM:=hM.ay hG rfl;replace hV:=hV.ay hG rfl;replace hL:=hL.ay hG rfl);have H:HS w w5 ⟨b4,g,c,m,lv,cp,h.bJ,h.Live⟩ ⟨u0,u1,li,ls⟩ (z0,z1) h.av:=⟨rh,hZ,hM,hV,hL,xi,Gy,mM,hw⟩
    obtain ⟨k,hk⟩ : ∃ k:HK,k=⟨b4,g,c,m,lv,cp,h.bJ,h.Live⟩:=⟨_,rfl⟩;obtain ⟨p0,HI⟩ : ∃ p:HP,p=⟨u0,u1,li,ls⟩:=⟨_,rfl⟩;rw [← hk,← HI] at H;have N9:k.b=b4:=by rw [hk]
    have E3:k.V=h.Live:=by rw [hk]
    have FO:k.M=h.bJ:=by rw [hk]
    have JS:k.cp=h.bX:=by rw [hk];exact G3
    clear bY rh hZ hM hV hL xi Gy hG hg hk HI G3;subst N9;have HJ:n9 k.M (bR h 0) (bR h 1):=by rw [FO];exact yb hm
    have JE:=F.d.start.vs;have I0:=H.DB bu (Ne.symm Aw);have c8:=rL F.live
    have Ie:∀ b∈h.Live,0≤b.At∧b.At≤255:=fun b hb=>by
     obtain ⟨j,hj,rfl⟩:=List.getElem_of_mem hb;have:=(F.next hj).at_
     omega
    have kB:=tm F;repeat' (first|refine Wy ?_|fail);refine SW.db rfl rfl (qR k p0 (z0,z1) h.av _ _ cpu o t f w _ H hO HJ JE F.yX F.lists F.count hc.2 hf) fun v w6 x8 => ?_
    obtain ⟨q1,rN,rfl,p1,H1,K1⟩:=x8;have DD:=K1.not I0 bu.lt;replace bu:=K1.cV bu I0;clear H hw I0;have hw:=H1.base;cases q1 with
    | none =>
      simp only [Dv,BF] at H1;have My:=fu F.d;repeat' (first|refine Wy ?_|(refine CW.bG rfl ?_))
      refine SW.db rfl rfl (zz k p1 h z0 z1 F.d hs w _ H1) fun v w7 Lg => ?_
      obtain ⟨p2,H2,K2⟩:=Lg;have G4:=K2.not DD bu.lt;replace bu:=K2.cV bu DD;clear H1 hw DD;have hw:=H2.base;repeat' (first|refine Wy ?_|fail);refine SW.db rfl rfl (qR k p2 _ [] _ _ cpu o t f w _ H2 hO HJ My.vs List.Pairwise.nil (fun l hl=>by simp at hl) (by simp) hc.2 hf) fun v w8 Lc => ?_
      obtain ⟨q3,IU,rfl,p3,H3,K3⟩:=Lc;have I3:=K3.not G4 bu.lt;replace bu:=K3.cV bu G4;clear H2 hw G4;have hw:=H3.base;cases q3 with
      | none =>
        repeat' (first|refine Wy ?_|(refine CW.bG rfl ?_))
        refine SW.ap bu rfl rfl rfl rfl (cS .zero) fun w5 bL hg => ?_
        replace hw:=hw.own jA hg;repeat' (first|refine Wy ?_|fail);exact ae.dB rfl rfl rfl rfl bL rfl ⟨_,rfl,hw,_,.room hq hc ht F.d.cx (by rw [zA];exact rN) (by rw [zA];exact IU),fM.zero 6 _ _⟩
      | some q3 =>
        obtain ⟨s3,L3,a⟩:=q3;simp only [Dv,BF] at H3;obtain ⟨i,I4,EA,DE⟩:=ks F (IU.found My.vs).2;have I4:a=(i:Int):=I4
        have G5:dJ h cpu o f (lc h s3 L3 (gp h a o t),a,0):=by
         have:=dJ.mu hq hc ht F.d.cx (by rw [zA];exact rN) (by rw [zA];exact IU)
         rw [zA] at this;exact this
        have Gx:=H3.live.len;rw [E3] at Gx;obtain ⟨fd,Ll⟩ : ∃ fd,cf h.Live a=fd:=⟨_,rfl⟩
        have c3:∀ w',Sl w' 3 az k.lv.A k.lv.n h.Live→bt Tryz.prog 105 [.agg (bm (k.h p3)).toArray,.int .i64 a] w' fun v _=>v = .tuple #[.int .i64 (bF h.Live a:Int),.bool fd]:=fun w' hh=>by
         have:=tw (k.h p3) h.Live a w' hh c8 Ie (by simp only;omega) ⟨by omega,by omega⟩
         rwa [Ll] at this
        have hV:=H3.live;rw [E3] at hV;have bY:=H3.cV;have hZ:=H3.zs;have hM:=H3.cn;have hL:=H3.ls;rw [FO] at hM;have HF:=H3.sf;clear H3;have Fy:=hV.lt_size;repeat' (first|refine Wy ?_|(refine CW.bA rfl ?_)|refine SW.st (aY rfl rfl ((fun _ _=>bY.cell))) rfl ?_|(refine SW.call rfl rfl (c3 _ hV.sl) ?_;intro v w1 ab hv;subst hv;replace hw:=Ext.trans hw ab;replace bY:=bY.ext ab;replace bu:=bu.ext ab;replace hV:=hV.ext ab;replace hZ:=hZ.ext ab;replace hM:=hM.ext ab;replace hL:=hL.ext ab;clear ab))
        repeat' (first|refine Wy ?_|refine SW.st (ak rfl (bY.cell (i:=4) (v := .slice k.lv.A k.lv.n k.lv.c) rfl)) rfl ?_)
        refine SW.bD rfl rfl rfl rfl rfl fun b w9 aj KL hB => ?_
        have m6:aQ k.lv.A k.lv.c≠some b:=fun e=>by have:=hV.lt_size _ e;omega
        (replace hw:=Ext.trans hw aj;replace bY:=bY.ext aj;replace bu:=bu.ext aj;replace hV:=hV.ext aj;replace hZ:=hZ.ext aj;replace hM:=hM.ext aj;replace hL:=hL.ext aj);skip;have sd:bF h.Live a≤h.Live.length:=List.findIdx_le_length
        refine SW.db rfl rfl (fI k.lv.A k.lv.n k.lv.c w.heap.size h.Live _ hV (bF h.Live a) (by omega) ⟨a,o,t⟩ b hB m6 (by omega) hw.size) fun v lP hv => ?_
        obtain ⟨A',c',rfl,BD,hg⟩:=hv;have hG:=hV.gr hg;replace hw:=aF hw hg (Nat.le_refl _) hV.aL;replace hZ:=hZ.C0 HF hg hG;(replace bY:=bY.ay hG rfl;replace bu:=bu.ay hG rfl;replace hM:=hM.ay hG rfl;replace hL:=hL.ay hG rfl);repeat' (first|refine Wy ?_|fail);refine SW.bB (i:=4) bY rfl rfl rfl rfl fun vh rh hg => ?_
        have hG:=bY.gr hg;replace hw:=hw.own mM hg;replace bu:=bu.grown hg (by simpa using Ne.symm Aw);(replace hZ:=hZ.ay hG rfl;replace hM:=hM.ay hG rfl;replace hL:=hL.ay hG rfl;replace BD:=BD.ay hG rfl);replace bY:aI vh k.b 27 (bm ⟨⟨some ⟨k.g,0,none⟩,2,k.c⟩,k.m,k.cp,p3.li,⟨A',k.lv.n+1,c'⟩⟩):=rh;repeat' (first|refine Wy ?_|refine SW.st (aY rfl rfl ((fun _ _=>bY.cell))) rfl ?_)
        refine SW.ap bu rfl rfl rfl rfl (cS ⟨⟨some ⟨k.g,0,none⟩,2,k.c⟩,k.m,k.cp,p3.li,⟨A',k.lv.n+1,c'⟩⟩) fun DF bL hg => ?_
        have hG:=bu.gr hg;replace hw:=hw.own jA hg;(replace hZ:=hZ.ay hG rfl;replace hM:=hM.ay hG rfl;replace hL:=hL.ay hG rfl;replace BD:=BD.ay hG rfl);repeat' (first|refine Wy ?_|fail);exact ae.dB rfl rfl rfl rfl bL rfl ⟨_,rfl,hw,_,G5,⟨⟨some ⟨k.g,0,none⟩,2,k.c⟩,k.m,k.cp,p3.li,⟨A',k.lv.n+1,c'⟩⟩,rfl,⟨JS,hM,BD,⟨[p3.u0,p3.u1],⟨hZ.row,eH.two hZ.z0 hZ.z1⟩⟩,⟨p3.ls,hL⟩⟩⟩
    | some q3 =>
      obtain ⟨s3,L3,a⟩:=q3;simp only [Dv,BF] at H1;obtain ⟨i,I4,EA,DE⟩:=lK F (rN.found JE).2;have I4:a=(i:Int):=I4
      have G5:dJ h cpu o f (lc h s3 L3 (gp h a o t),a,0):=by
       have:=dJ.once hq hc ht F.d.cx (by rw [zA];exact rN)
       rw [zA] at this;exact this
      have H3:=H1;have I3:=DD;obtain ⟨p3,Oa⟩ : ∃ p3,p1=p3:=⟨_,rfl⟩;rw [Oa] at H3 I3;clear H1 DD;have Gx:=H3.live.len;rw [E3] at Gx;obtain ⟨fd,Ll⟩ : ∃ fd,cf h.Live a=fd:=⟨_,rfl⟩
      have c3:∀ w',Sl w' 3 az k.lv.A k.lv.n h.Live→bt Tryz.prog 105 [.agg (bm (k.h p3)).toArray,.int .i64 a] w' fun v _=>v = .tuple #[.int .i64 (bF h.Live a:Int),.bool fd]:=fun w' hh=>by
       have:=tw (k.h p3) h.Live a w' hh c8 Ie (by simp only;omega) ⟨by omega,by omega⟩
       rwa [Ll] at this
      have hV:=H3.live;rw [E3] at hV;have bY:=H3.cV;have hZ:=H3.zs;have hM:=H3.cn;have hL:=H3.ls;rw [FO] at hM;have HF:=H3.sf;clear H3;have Fy:=hV.lt_size;repeat' (first|refine Wy ?_|(refine CW.bA rfl ?_)|refine SW.st (aY rfl rfl ((fun _ _=>bY.cell))) rfl ?_|(refine SW.call rfl rfl (c3 _ hV.sl) ?_;intro v w1 ab hv;subst hv;replace hw:=Ext.trans hw ab;replace bY:=bY.ext ab;replace bu:=bu.ext ab;replace hV:=hV.ext ab;replace hZ:=hZ.ext ab;replace hM:=hM.ext ab;replace hL:=hL.ext ab;clear ab))
      repeat' (first|refine Wy ?_|refine SW.st (ak rfl (bY.cell (i:=4) (v := .slice k.lv.A k.lv.n k.lv.c) rfl)) rfl ?_)
      refine SW.bD rfl rfl rfl rfl rfl fun b w9 aj KL hB => ?_
      have m6:aQ k.lv.A k.lv.c≠some b:=fun e=>by have:=hV.lt_size _ e;omega
      (replace hw:=Ext.trans hw aj;replace bY:=bY.ext aj;replace bu:=bu.ext aj;replace hV:=hV.ext aj;replace hZ:=hZ.ext aj;replace hM:=hM.ext aj;replace hL:=hL.ext aj);skip;have sd:bF h.Live a≤h.Live.length:=List.findIdx_le_length
      refine SW.db rfl rfl (fI k.lv.A k.lv.n k.lv.c w.heap.size h.Live _ hV (bF h.Live a) (by omega) ⟨a,o,t⟩ b hB m6 (by omega) hw.size) fun v lP hv => ?_
      obtain ⟨A',c',rfl,BD,hg⟩:=hv;have hG:=hV.gr hg;replace hw:=aF hw hg (Nat.le_refl _) hV.aL;replace hZ:=hZ.C0 HF hg hG;(replace bY:=bY.ay hG rfl;replace bu:=bu.ay hG rfl;replace hM:=hM.ay hG rfl;replace hL:=hL.ay hG rfl);repeat' (first|refine Wy ?_|fail);refine SW.bB (i:=4) bY rfl rfl rfl rfl fun vh rh hg => ?_
      have hG:=bY.gr hg;replace hw:=hw.own mM hg;replace bu:=bu.grown hg (by simpa using Ne.symm Aw);(replace hZ:=hZ.ay hG rfl;replace hM:=hM.ay hG rfl;replace hL:=hL.ay hG rfl;replace BD:=BD.ay hG rfl);replace bY:aI vh k.b 27 (bm ⟨⟨some ⟨k.g,0,none⟩,2,k.c⟩,k.m,k.cp,p3.li,⟨A',k.lv.n+1,c'⟩⟩):=rh;repeat' (first|refine Wy ?_|refine SW.st (aY rfl rfl ((fun _ _=>bY.cell))) rfl ?_)
      refine SW.ap bu rfl rfl rfl rfl (cS ⟨⟨some ⟨k.g,0,none⟩,2,k.c⟩,k.m,k.cp,p3.li,⟨A',k.lv.n+1,c'⟩⟩) fun DF bL hg => ?_
      have hG:=bu.gr hg;replace hw:=hw.own jA hg;(replace hZ:=hZ.ay hG rfl;replace hM:=hM.ay hG rfl;replace hL:=hL.ay hG rfl;replace BD:=BD.ay hG rfl);repeat' (first|refine Wy ?_|fail);exact ae.dB rfl rfl rfl rfl bL rfl ⟨_,rfl,hw,_,G5,⟨⟨some ⟨k.g,0,none⟩,2,k.c⟩,k.m,k.cp,p3.li,⟨A',k.lv.n+1,c'⟩⟩,rfl,⟨JS,hM,BD,⟨[p3.u0,p3.u1],⟨hZ.row,eH.two hZ.z0 hZ.z1⟩⟩,⟨p3.ls,hL⟩⟩⟩
  ·repeat' (first|refine Wy ?_|refine SW.bZ rfl rfl rfl (fun h => ?_) (fun h => ?_)|refine SW.st (aY rfl rfl ((fun _ _=>bY.cell))) rfl ?_|refine SW.st (ak rfl (bY.cell (i:=2) (v := .int .i64 r.bX) rfl)) rfl ?_|(refine SW.call rfl rfl (c1 _ hw) ?_;intro v w1 ab hv;subst hv;replace hw:=Ext.trans hw ab;replace bY:=bY.ext ab;replace bu:=bu.ext ab;clear ab))
   all_goals try omega
   all_goals
    refine SW.ap bu rfl rfl rfl rfl (cS .zero) fun w5 bL hg => ?_
    replace hw:=hw.own jA hg;repeat' (first|refine Wy ?_|fail);exact ae.dB rfl rfl rfl rfl bL rfl ⟨_,rfl,hw,_,.range hq hc,fM.zero 1 _ _⟩
open Go.RowKit
theorem SW.qw {P:Program} {n:Nat} {ops:Array Oper} {Q:Exit→Act→World→Prop} {rest:List Oper} {L:Env} {w:World} {T:TypeId} {pos:String} {af:Array Edge} {t:TypeId} {k:Nat} [G:iv P t k] {b:Nat} {tb:TypeId} {cs vs:List Value} {x y:Operand} (o:Nat)
 (hB:aI w b tb cs) (hx:cd L x=some (.pointer (some ((⟨b,0,none⟩ : Addr).add o)))) (hy:cd L y=some (.agg vs.toArray)) (hl:vs.length=k) (hc:o+k≤cs.length) (h1:∀ v∈vs,v.oneCell'=true) (cs':List Value) (gU:cs.take o++vs++cs.drop (o+k)=cs')
 (h:∀ w',aI w' b tb cs'→w.grownBy w' (some b)→SW P n ops (.fF Q) rest L w') : SW P n ops (.fF Q) (⟨none,.store t x y,T,pos,af,none⟩::rest) L w :=
 ⟨fun a ha=>by
  rw [c9] at hx;have rz:=run_storeCells_at P b o tb vs 0 cs.toArray w hB (by simp only [List.size_toArray];omega) h1;simp only [Nat.add_zero,hl,gU] at rz;simp only [swp,wpList,Region.wanted,if_true];refine .inl ?_;unfold Oper.wp
  have yP:(execOp a.eval ⟨none,.store t x y,T,pos,af,none⟩).run P w = .ok .skip (w.setRow b cs'.toArray):=by
   simp [execOp,ha.eval hx,ha.eval hy,Instr.storeAt,Instr.sureAddr,storeVar,Value.cells,run_sizeOf G.size,hl,rz]
  rw [yP,Oper.upon_skip];obtain ⟨qZ,wY⟩:=eB (cs:=cs') hB;exact (h _ qZ wY).out _ ha⟩
open Go.RowKit
section
variable {P:Program} {n:Nat} {ops:Array Oper} {Q:Exit→Act→World→Prop} {fin ew f:Nat} {S2:World→Prop} {listed:Array Bool} {L:Env} {w:World}
theorem SF.two (i k:Nat) {o o':Oper} (hi:ops[i]?=some o) (hk:ops[k]?=some o') (hr:Region.ready .any ops listed=[i,k]) (hw:(!Nat.beq i ew && !Nat.beq i fin)=true) (yo:(!Nat.beq k ew && !Nat.beq k fin)=true)
 (h:SW P n ops (.fF (El P n ops Q fin ew S2 f (listed.setIfInBounds i true) w)) [o] L w) (h':SW P n ops (.fF (El P n ops Q fin ew S2 f (listed.setIfInBounds k true) w)) [o'] L w) : SF P n ops Q fin ew S2 (f+1) listed L w :=
 ⟨fun a ha inv=>⟨by rw [hr];simp,fun j hj=>by
  have uE:=hj;rw [hr] at uE;simp only [List.mem_cons,List.not_mem_nil,or_false] at uE;rcases uE with rfl|rfl
  ·obtain ⟨n1,n2⟩:=Em hw;have ck:j<ops.size:=(Array.getElem?_eq_some_iff.1 hi).1
   refine ⟨ck,oR (Q1:=El P n ops Q fin ew S2 f (listed.setIfInBounds j true) w) hi (fun e a w ne h=>by cases e<;>first|exact h|exact absurd rfl ne) (fun h=>h) (fun a' w' hh=>⟨fun e=>absurd e n1,fun _ e=>absurd e n2,fun _ _=>⟨hh.1,lm f (fun Ff Eg=>Ext.trans hh.1 Eg) _ _ _ (hh.2 (inv.set hj ck))⟩⟩) (h.out a ha)⟩
  ·obtain ⟨n1,n2⟩:=Em yo;have ck:j<ops.size:=(Array.getElem?_eq_some_iff.1 hk).1
   refine ⟨ck,oR (Q1:=El P n ops Q fin ew S2 f (listed.setIfInBounds j true) w) hk (fun e a w ne h=>by cases e<;>first|exact h|exact absurd rfl ne) (fun h=>h) (fun a' w' hh=>⟨fun e=>absurd e n1,fun _ e=>absurd e n2,fun _ _=>⟨hh.1,lm f (fun Ff Eg=>Ext.trans hh.1 Eg) _ _ _ (hh.2 (inv.set hj ck))⟩⟩) (h'.out a ha)⟩⟩⟩
theorem SF.I5 (k:Nat) {o o':Oper} (hi:ops[fin]?=some o) (hk:ops[k]?=some o') (hr:Region.ready .any ops listed=[fin,k]) (hw:Nat.beq fin ew=false) (yo:(!Nat.beq k ew && !Nat.beq k fin)=true)
 (h:SW P n ops (.fF (F8 P n ops Q fin ew S2 f (listed.setIfInBounds fin true))) [o] L w) (h':SW P n ops (.fF (El P n ops Q fin ew S2 f (listed.setIfInBounds k true) w)) [o'] L w) : SF P n ops Q fin ew S2 (f+1) listed L w :=
 ⟨fun a ha inv=>⟨by rw [hr];simp,fun j hj=>by
  have uE:=hj;rw [hr] at uE;simp only [List.mem_cons,List.not_mem_nil,or_false] at uE;rcases uE with iY|rfl
  ·have n1:j≠ew:=fun e=>by rw [← iY,e] at hw;simp at hw
   subst iY;have ck:j<ops.size:=(Array.getElem?_eq_some_iff.1 hi).1
   exact ⟨ck,oR (Q1:=F8 P n ops Q j ew S2 f (listed.setIfInBounds j true)) hi (fun e a w ne h=>by cases e<;>first|exact h|exact absurd rfl ne) (fun h=>h) (fun a' w' hh=>⟨fun e=>absurd e n1,fun _ _=>⟨hh.1,hh.2 (inv.set hj ck)⟩,fun _ n2=>absurd rfl n2⟩) (h.out a ha)⟩
  ·obtain ⟨n1,n2⟩:=Em yo;have ck:j<ops.size:=(Array.getElem?_eq_some_iff.1 hk).1
   refine ⟨ck,oR (Q1:=El P n ops Q fin ew S2 f (listed.setIfInBounds j true) w) hk (fun e a w ne h=>by cases e<;>first|exact h|exact absurd rfl ne) (fun h=>h) (fun a' w' hh=>⟨fun e=>absurd e n1,fun _ e=>absurd e n2,fun _ _=>⟨hh.1,lm f (fun Ff Eg=>Ext.trans hh.1 Eg) _ _ _ (hh.2 (inv.set hj ck))⟩⟩) (h'.out a ha)⟩⟩⟩
theorem SG.ln (i:Nat) {d:Nat} {op:Op} {T:TypeId} {pos:String} {af:Array Edge} {v:Value} (hB:Region.noSelect ops=true) (hi:ops[i]?=some ⟨some d,op,T,pos,af,none⟩) (hf:Region.free .any ops listed i=true) (hr:(Region.ready .any ops listed).contains i=true) (hw:(!Nat.beq i ew && !Nat.beq i fin)=true) (hs:S2 w)
 (h1:∀ w2,St P ⟨some d,op,T,pos,af,none⟩ L w2 v) (hn:Nat.blt d n=true) (h:SG P n ops Q fin ew S2 f (listed.setIfInBounds i true) ((d,v)::L) w) : SG P n ops Q fin ew S2 (f+1) listed L w :=
 ⟨fun a ha inv=>by
  obtain ⟨n1,n2⟩:=Em hw;have lQ:i∈Region.ready .any ops listed:=by simpa using hr
  have ck:i<ops.size:=(Array.getElem?_eq_some_iff.1 hi).1
  exact j9 (T:=fun _=>True) hi (Region.noSelect_spec hB) n1 n2 (fun _ _ _ h=>(h:False).elim) (.inl fun _=>trivial) (.inl fun _ _=>trivial) f (fun _ _=>trivial) listed a w inv (Region.free_spec hi hf) lQ (v:=v)
   (.inl ⟨by simp [Region.wanted],fun w' _=>(h1 w').out n a ha w' (Ext.refl w')⟩) hs (h.out _ (ha.put hn v) (inv.set lQ ck))⟩
end
end Go.Proofs.YtjimadiidbkohaaGreatDoor
