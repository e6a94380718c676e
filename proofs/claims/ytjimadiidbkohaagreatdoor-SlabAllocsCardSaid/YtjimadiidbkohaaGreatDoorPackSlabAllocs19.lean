/-
  Texts of the claim SlabAllocs, part 19: what its theorem leans on.
-/
import Derived.Test.YtjimadiidbkohaaGreatDoorPackSlabAllocs18
import Derived.Test.YtjimadiidbkohaaGreatDoorPackSlabAllocs16
import Derived.Test.YtjimadiidbkohaaGreatDoorPackSlabAllocs11
import Derived.Test.YtjimadiidbkohaaGreatDoorPackSlabAllocs2
import Derived.Test.YtjimadiidbkohaaGreatDoorPackSlabAllocs9
set_option linter.unusedVariables false
set_option linter.unusedSimpArgs false
namespace Go.Proofs.YtjimadiidbkohaaGreatDoor
open Go.RowKit
theorem th (r:ez) (l:List Block) (a:Int) (w:World) (hl:Sl w 3 az r.Live.A r.Live.n l) (hu:l.Pairwise fun x y=>x.At<y.At) (hb:∀ b∈l,0≤b.At∧b.At≤255) (hn:r.Live.n≤1000000000000000000) (ha : 0≤a∧a<256) :
 bt Tryz.prog 105 [.agg (bm r).toArray,.int .i64 a] w fun v _=>v = .tuple #[.int .i64 (bE l a:Int),.bool (cc l a)]:=by
 refine aL Tryz.func105 rfl Tryz.ntmps105 rfl ?_;refine CW.seq (CW.region (SW.box rfl rfl fun b1 w1 hw gK aA => ?_));refine Wz ?_
 refine SW.call rfl rfl (ju _ _ _ _ a _ (hl.ext hw) _ (fun x hx w' _=>by
  have:=wZ x a w'
  have h:=hb x hx;rwa [ir (by omega) (by omega)] at this) hu hn) fun v w2 cw hv => ?_
 subst hv;replace hw:=Ext.trans hw cw;refine Wz ?_;exact ae.cu rfl rfl rfl ⟨_,rfl,hw,rfl⟩
def fA (lo:Nat) (u:Heap×Int×Int) (v:Value) (w:World) : Prop := ∃ s:ez,v = .tuple #[.agg (bm s).toArray,.int .i64 u.2.1,.int .i64 u.2.2]∧iH w lo s u.1
theorem fA.zero (e:Int) (lo:Nat) (w:World) : fA lo (.zero,0,e) (.tuple #[.agg (bm .zero).toArray,.int .i64 0,.int .i64 e]) w:=⟨.zero,rfl,iH.zero w lo⟩
theorem HS.C9 {wb w:World} {k:HK} {p:HP} {s:aq×aq} {L:List aB} {i:Nat} {cs:List Value} (h:HS wb w k p s L) (hB:aJ w i 27 cs) (cG:i≠k.b) : ¬ gC k p i:=fun hm=>by
 rcases hm with e|e|e|⟨y,hy,e⟩
 ·exact cG e
 ·exact h.zs.row.dh hB rfl (by rw [h.zs.own,e])
 ·exact h.ls.row.dh hB rfl e
 ·obtain ⟨l,_,hl⟩:=h.IB hy;exact hl.cr.dh hB rfl e
theorem xD {h:Heap} (hm:bD h) : nV h.bH (bQ h 0) (bQ h 1):=by
 obtain ⟨m0,m1,e,h0,h1⟩:=hm.cj;unfold bQ;rw [e];exact ⟨rfl,h0,h1⟩
set_option maxHeartbeats 8000000 in
theorem uU (r:ez) (h:Heap) (cpu o f:Int) (w:World) (hr:v9 w r h) (hs:h.small) (CH:∀ z∈h.aQ,qC z) (hO:oZ w) :
 bt Tryz.prog 75 [.agg (bm r).toArray,.int .i64 cpu,.int .i64 o,.int .i64 f] w fun v w' => ∃ u,dP h cpu o f u∧fA w.heap.size u v w':=by
 refine aL Tryz.func75 rfl Tryz.ntmps75 rfl ?_;refine CW.seq (CW.region (SW.box rfl rfl fun b4 w1 hw ml bX => ?_));have mE:=ml;refine SW.alloc rfl fun b8 w2 cw kR bu => ?_
 have jl:w.heap.size≤b8:=Nat.le_trans hw.size kR
 have z5:b4≠b8:=by have:=bX.lt;omega
 (replace hw:=Ext.trans hw cw;replace bX:=bX.ext cw);have eC:=hr.dU;obtain ⟨q,hq⟩ : ∃ q,iK h=q:=⟨_,rfl⟩
 have c1:∀ w',Ext w w'→bt Tryz.prog 34 [.agg (bm r).toArray] w' fun v _=>v = .int .i64 (if q then 0 else 8):=fun w' hx=>by
  have:=sH r h w' (hr.ext hx) hs CH
  rwa [hq] at this
 cases q
 ·simp only [Bool.false_eq_true,if_false] at c1;repeat' (first|refine Wy ?_|refine SW.st (aX rfl rfl ((fun _ _=>bX.cell))) rfl ?_|(refine SW.call rfl rfl (c1 _ hw) ?_;intro v w1 ab hv;subst hv;replace hw:=Ext.trans hw ab;replace bX:=bX.ext ab;replace bu:=bu.ext ab;clear ab))
  refine SW.ap bu rfl rfl rfl rfl (cQ .zero) fun w5 bP hg => ?_
  replace hw:=hw.own jl hg;repeat' (first|refine Wy ?_|fail);exact ae.dl rfl rfl rfl rfl bP rfl ⟨_,rfl,hw,_,.bad hq,fA.zero 8 _ _⟩
 ·simp only [if_true] at c1;have hm:=ia.1 hq;obtain ⟨z0,z1,F⟩:=lq hm;by_cases hc:(0≤cpu∧cpu<h.bW)∧0≤o∧o≤4
  ·obtain ⟨q2,DE⟩ : ∃ q2,decide (0≤dH f)=q2:=⟨_,rfl⟩
   have c2:∀ w',bt Tryz.prog 102 [.int .i64 f] w' fun v _=>v = .tuple #[.int .i64 (if 0≤dH f then dH f else 0),.bool q2]:=fun w'=>by
    have:=yX f w'
    rwa [DE] at this
   cases q2
   ·have ht:=of_decide_eq_false DE;repeat' (first|refine Wy ?_|(refine CW.bF rfl ?_)|refine SW.st (aX rfl rfl ((fun _ _=>bX.cell))) rfl ?_|refine SW.st (ak rfl (bX.cell (i:=2) (v := .int .i64 r.bW) rfl)) rfl ?_|((first|refine SW.call rfl rfl (c1 _ hw) ?_|refine SW.call rfl rfl (c2 _) ?_);intro v w1 ab hv;subst hv;replace hw:=Ext.trans hw ab;replace bX:=bX.ext ab;replace bu:=bu.ext ab;clear ab))
    all_goals try omega
    refine SW.ap bu rfl rfl rfl rfl (cQ .zero) fun w5 bP hg => ?_
    replace hw:=hw.own jl hg;repeat' (first|refine Wy ?_|fail);exact ae.dl rfl rfl rfl rfl bP rfl ⟨_,rfl,hw,_,.form hq hc (by omega),fA.zero 3 _ _⟩
   ·have ht:=of_decide_eq_true DE;obtain ⟨hf,nn⟩:=xu ht;obtain ⟨t,y6⟩ : ∃ t,dH f=t:=⟨_,rfl⟩;have mo : 0≤t:=by rw [← y6];exact ht
    simp only [y6,if_pos mo] at c2;repeat' (first|refine Wy ?_|(refine CW.bA rfl ?_)|refine SW.st (aX rfl rfl ((fun _ _=>bX.cell))) rfl ?_|refine SW.st (ak rfl (bX.cell (i:=2) (v := .int .i64 r.bW) rfl)) rfl ?_|((first|refine SW.call rfl rfl (c1 _ hw) ?_|refine SW.call rfl rfl (c2 _) ?_);intro v w1 ab hv;subst hv;replace hw:=Ext.trans hw ab;replace bX:=bX.ext ab;replace bu:=bu.ext ab;clear ab))
    all_goals try omega
    clear c1 c2;refine SW.call rfl rfl (so r h _ (hr.ext hw) hs) fun v w4 iG hv => ?_
    obtain ⟨s,rfl,Da⟩:=hv;have hM:=Da.own.cj.low hw.size;have hV:=Da.own.live.low hw.size;have GD:=Da.own.dU;obtain ⟨g,c,u0,u1,ls,eZ,hZ,hL,wN,Ga⟩:=Da.split F.d.cK;have hZ:dR w4 w.heap.size g c u0 u1 (z0,z1):=⟨hZ.row.low hw.size,hZ.z0.low hw.size,hZ.z1.low hw.size,Nat.le_trans hw.size hZ.yo,hZ.pos⟩
    replace hL:=hL.low hw.size;clear Da;(replace hw:=Ext.trans hw iG;replace bX:=bX.ext iG;replace bu:=bu.ext iG);obtain ⟨sz,m,cp,li,lv⟩:=s;simp only at eZ hM hV hL wN Ga GD;subst eZ;refine SW.ap bX rfl rfl rfl rfl (cQ ⟨⟨some ⟨g,0,none⟩,2,c⟩,m,cp,li,lv⟩) fun w5 qZ hg => ?_
    have hG:=bX.gr hg;replace hw:=hw.own mE hg;replace bu:=bu.grown hg (by simpa using Ne.symm z5);(replace hZ:=hZ.ay hG rfl;replace hM:=hM.ay hG rfl;replace hV:=hV.ay hG rfl;replace hL:=hL.ay hG rfl);have H:HS w w5 ⟨b4,g,c,m,lv,cp,h.bH,h.Live⟩ ⟨u0,u1,li,ls⟩ (z0,z1) h.av:=⟨qZ,hZ,hM,hV,hL,wN,Ga,mE,hw⟩
    obtain ⟨k,hk⟩ : ∃ k:HK,k=⟨b4,g,c,m,lv,cp,h.bH,h.Live⟩:=⟨_,rfl⟩;obtain ⟨p0,Hn⟩ : ∃ p:HP,p=⟨u0,u1,li,ls⟩:=⟨_,rfl⟩;rw [← hk,← Hn] at H;have NK:k.b=b4:=by rw [hk]
    have EE:k.V=h.Live:=by rw [hk]
    have Fo:k.M=h.bH:=by rw [hk]
    have Ju:k.cp=h.bW:=by rw [hk];exact GD
    clear bX qZ hZ hM hV hL wN Ga hG hg hk Hn GD;subst NK;have Ho:nV k.M (bQ h 0) (bQ h 1):=by rw [Fo];exact xD hm
    have Jg:=F.d.start.vs;have IC:=H.C9 bu (Ne.symm z5);have c9:=rC F.live
    have HI:∀ b∈h.Live,0≤b.At∧b.At≤255:=fun b hb=>by
     obtain ⟨j,hj,rfl⟩:=List.getElem_of_mem hb;have:=(F.next hj).at_
     omega
    have ma:=ta F;repeat' (first|refine Wy ?_|fail);refine SW.cV rfl rfl (qK k p0 (z0,z1) h.av _ _ cpu o t f w _ H hO Ho Jg F.yy F.lists F.count hc.2 hf) fun v w6 xA => ?_
    obtain ⟨q1,rE,rfl,p1,H1,K1⟩:=xA;have Db:=K1.not IC bu.lt;replace bu:=K1.cU bu IC;clear H hw IC;have hw:=H1.base;cases q1 with
    | none =>
      simp only [C3,Bf] at H1;have L5:=fY F.d;repeat' (first|refine Wy ?_|(refine CW.bF rfl ?_))
      refine SW.cV rfl rfl (yZ k p1 h z0 z1 F.d hs w _ H1) fun v w7 KF => ?_
      obtain ⟨p2,H2,K2⟩:=KF;have GF:=K2.not Db bu.lt;replace bu:=K2.cU bu Db;clear H1 hw Db;have hw:=H2.base;repeat' (first|refine Wy ?_|fail);refine SW.cV rfl rfl (qK k p2 _ [] _ _ cpu o t f w _ H2 hO Ho L5.vs List.Pairwise.nil (fun l hl=>by simp at hl) (by simp) hc.2 hf) fun v w8 KC => ?_
      obtain ⟨q3,Iw,rfl,p3,H3,K3⟩:=KC;have IF:=K3.not GF bu.lt;replace bu:=K3.cU bu GF;clear H2 hw GF;have hw:=H3.base;cases q3 with
      | none =>
        repeat' (first|refine Wy ?_|(refine CW.bF rfl ?_))
        refine SW.ap bu rfl rfl rfl rfl (cQ .zero) fun w5 bP hg => ?_
        replace hw:=hw.own jl hg;repeat' (first|refine Wy ?_|fail);exact ae.dl rfl rfl rfl rfl bP rfl ⟨_,rfl,hw,_,.room hq hc ht F.d.cK (by rw [y6];exact rE) (by rw [y6];exact Iw),fA.zero 6 _ _⟩
      | some q3 =>
        obtain ⟨s3,L3,a⟩:=q3;simp only [C3,Bf] at H3;obtain ⟨i,IG,F8,Dc⟩:=lZ F (Iw.found L5.vs).2;have IG:a=(i:Int):=IG
        have GG:dP h cpu o f (kV h s3 L3 (gB h a o t),a,0):=by
         have:=dP.nb hq hc ht F.d.cK (by rw [y6];exact rE) (by rw [y6];exact Iw)
         rw [y6] at this;exact this
        have F9:=H3.live.len;rw [EE] at F9;obtain ⟨fd,KK⟩ : ∃ fd,cc h.Live a=fd:=⟨_,rfl⟩
        have c3:∀ w',Sl w' 3 az k.lv.A k.lv.n h.Live→bt Tryz.prog 105 [.agg (bm (k.h p3)).toArray,.int .i64 a] w' fun v _=>v = .tuple #[.int .i64 (bE h.Live a:Int),.bool fd]:=fun w' hh=>by
         have:=th (k.h p3) h.Live a w' hh c9 HI (by simp only;omega) ⟨by omega,by omega⟩
         rwa [KK] at this
        have hV:=H3.live;rw [EE] at hV;have bX:=H3.cU;have hZ:=H3.zs;have hM:=H3.cj;have hL:=H3.ls;rw [Fo] at hM;have Hk:=H3.sf;clear H3;have E5:=hV.lt_size;repeat' (first|refine Wy ?_|(refine CW.bA rfl ?_)|refine SW.st (aX rfl rfl ((fun _ _=>bX.cell))) rfl ?_|(refine SW.call rfl rfl (c3 _ hV.sl) ?_;intro v w1 ab hv;subst hv;replace hw:=Ext.trans hw ab;replace bX:=bX.ext ab;replace bu:=bu.ext ab;replace hV:=hV.ext ab;replace hZ:=hZ.ext ab;replace hM:=hM.ext ab;replace hL:=hL.ext ab;clear ab))
        repeat' (first|refine Wy ?_|refine SW.st (ak rfl (bX.cell (i:=4) (v := .slice k.lv.A k.lv.n k.lv.c) rfl)) rfl ?_)
        refine SW.bJ rfl rfl rfl rfl rfl fun b w9 aj Kk hB => ?_
        have mS:aT k.lv.A k.lv.c≠some b:=fun e=>by have:=hV.lt_size _ e;omega
        (replace hw:=Ext.trans hw aj;replace bX:=bX.ext aj;replace bu:=bu.ext aj;replace hV:=hV.ext aj;replace hZ:=hZ.ext aj;replace hM:=hM.ext aj;replace hL:=hL.ext aj);skip;have rZ:bE h.Live a≤h.Live.length:=List.findIdx_le_length
        refine SW.cV rfl rfl (fu k.lv.A k.lv.n k.lv.c w.heap.size h.Live _ hV (bE h.Live a) (by omega) ⟨a,o,t⟩ b hB mS (by omega) hw.size) fun v mw hv => ?_
        obtain ⟨A',c',rfl,Bd,hg⟩:=hv;have hG:=hV.gr hg;replace hw:=aE hw hg (Nat.le_refl _) hV.aM;replace hZ:=hZ.Cy Hk hg hG;(replace bX:=bX.ay hG rfl;replace bu:=bu.ay hG rfl;replace hM:=hM.ay hG rfl;replace hL:=hL.ay hG rfl);repeat' (first|refine Wy ?_|fail);refine SW.bB (i:=4) bX rfl rfl rfl rfl fun rf qZ hg => ?_
        have hG:=bX.gr hg;replace hw:=hw.own mE hg;replace bu:=bu.grown hg (by simpa using Ne.symm z5);(replace hZ:=hZ.ay hG rfl;replace hM:=hM.ay hG rfl;replace hL:=hL.ay hG rfl;replace Bd:=Bd.ay hG rfl);replace bX:aJ rf k.b 27 (bm ⟨⟨some ⟨k.g,0,none⟩,2,k.c⟩,k.m,k.cp,p3.li,⟨A',k.lv.n+1,c'⟩⟩):=qZ;repeat' (first|refine Wy ?_|refine SW.st (aX rfl rfl ((fun _ _=>bX.cell))) rfl ?_)
        refine SW.ap bu rfl rfl rfl rfl (cQ ⟨⟨some ⟨k.g,0,none⟩,2,k.c⟩,k.m,k.cp,p3.li,⟨A',k.lv.n+1,c'⟩⟩) fun Fp bP hg => ?_
        have hG:=bu.gr hg;replace hw:=hw.own jl hg;(replace hZ:=hZ.ay hG rfl;replace hM:=hM.ay hG rfl;replace hL:=hL.ay hG rfl;replace Bd:=Bd.ay hG rfl);repeat' (first|refine Wy ?_|fail);exact ae.dl rfl rfl rfl rfl bP rfl ⟨_,rfl,hw,_,GG,⟨⟨some ⟨k.g,0,none⟩,2,k.c⟩,k.m,k.cp,p3.li,⟨A',k.lv.n+1,c'⟩⟩,rfl,⟨Ju,hM,Bd,⟨[p3.u0,p3.u1],⟨hZ.row,ey.two hZ.z0 hZ.z1⟩⟩,⟨p3.ls,hL⟩⟩⟩
    | some q3 =>
      obtain ⟨s3,L3,a⟩:=q3;simp only [C3,Bf] at H1;obtain ⟨i,IG,F8,Dc⟩:=nv F (rE.found Jg).2;have IG:a=(i:Int):=IG
      have GG:dP h cpu o f (kV h s3 L3 (gB h a o t),a,0):=by
       have:=dP.once hq hc ht F.d.cK (by rw [y6];exact rE)
       rw [y6] at this;exact this
      have H3:=H1;have IF:=Db;obtain ⟨p3,NL⟩ : ∃ p3,p1=p3:=⟨_,rfl⟩;rw [NL] at H3 IF;clear H1 Db;have F9:=H3.live.len;rw [EE] at F9;obtain ⟨fd,KK⟩ : ∃ fd,cc h.Live a=fd:=⟨_,rfl⟩
      have c3:∀ w',Sl w' 3 az k.lv.A k.lv.n h.Live→bt Tryz.prog 105 [.agg (bm (k.h p3)).toArray,.int .i64 a] w' fun v _=>v = .tuple #[.int .i64 (bE h.Live a:Int),.bool fd]:=fun w' hh=>by
       have:=th (k.h p3) h.Live a w' hh c9 HI (by simp only;omega) ⟨by omega,by omega⟩
       rwa [KK] at this
      have hV:=H3.live;rw [EE] at hV;have bX:=H3.cU;have hZ:=H3.zs;have hM:=H3.cj;have hL:=H3.ls;rw [Fo] at hM;have Hk:=H3.sf;clear H3;have E5:=hV.lt_size;repeat' (first|refine Wy ?_|(refine CW.bA rfl ?_)|refine SW.st (aX rfl rfl ((fun _ _=>bX.cell))) rfl ?_|(refine SW.call rfl rfl (c3 _ hV.sl) ?_;intro v w1 ab hv;subst hv;replace hw:=Ext.trans hw ab;replace bX:=bX.ext ab;replace bu:=bu.ext ab;replace hV:=hV.ext ab;replace hZ:=hZ.ext ab;replace hM:=hM.ext ab;replace hL:=hL.ext ab;clear ab))
      repeat' (first|refine Wy ?_|refine SW.st (ak rfl (bX.cell (i:=4) (v := .slice k.lv.A k.lv.n k.lv.c) rfl)) rfl ?_)
      refine SW.bJ rfl rfl rfl rfl rfl fun b w9 aj Kk hB => ?_
      have mS:aT k.lv.A k.lv.c≠some b:=fun e=>by have:=hV.lt_size _ e;omega
      (replace hw:=Ext.trans hw aj;replace bX:=bX.ext aj;replace bu:=bu.ext aj;replace hV:=hV.ext aj;replace hZ:=hZ.ext aj;replace hM:=hM.ext aj;replace hL:=hL.ext aj);skip;have rZ:bE h.Live a≤h.Live.length:=List.findIdx_le_length
      refine SW.cV rfl rfl (fu k.lv.A k.lv.n k.lv.c w.heap.size h.Live _ hV (bE h.Live a) (by omega) ⟨a,o,t⟩ b hB mS (by omega) hw.size) fun v mw hv => ?_
      obtain ⟨A',c',rfl,Bd,hg⟩:=hv;have hG:=hV.gr hg;replace hw:=aE hw hg (Nat.le_refl _) hV.aM;replace hZ:=hZ.Cy Hk hg hG;(replace bX:=bX.ay hG rfl;replace bu:=bu.ay hG rfl;replace hM:=hM.ay hG rfl;replace hL:=hL.ay hG rfl);repeat' (first|refine Wy ?_|fail);refine SW.bB (i:=4) bX rfl rfl rfl rfl fun rf qZ hg => ?_
      have hG:=bX.gr hg;replace hw:=hw.own mE hg;replace bu:=bu.grown hg (by simpa using Ne.symm z5);(replace hZ:=hZ.ay hG rfl;replace hM:=hM.ay hG rfl;replace hL:=hL.ay hG rfl;replace Bd:=Bd.ay hG rfl);replace bX:aJ rf k.b 27 (bm ⟨⟨some ⟨k.g,0,none⟩,2,k.c⟩,k.m,k.cp,p3.li,⟨A',k.lv.n+1,c'⟩⟩):=qZ;repeat' (first|refine Wy ?_|refine SW.st (aX rfl rfl ((fun _ _=>bX.cell))) rfl ?_)
      refine SW.ap bu rfl rfl rfl rfl (cQ ⟨⟨some ⟨k.g,0,none⟩,2,k.c⟩,k.m,k.cp,p3.li,⟨A',k.lv.n+1,c'⟩⟩) fun Fp bP hg => ?_
      have hG:=bu.gr hg;replace hw:=hw.own jl hg;(replace hZ:=hZ.ay hG rfl;replace hM:=hM.ay hG rfl;replace hL:=hL.ay hG rfl;replace Bd:=Bd.ay hG rfl);repeat' (first|refine Wy ?_|fail);exact ae.dl rfl rfl rfl rfl bP rfl ⟨_,rfl,hw,_,GG,⟨⟨some ⟨k.g,0,none⟩,2,k.c⟩,k.m,k.cp,p3.li,⟨A',k.lv.n+1,c'⟩⟩,rfl,⟨Ju,hM,Bd,⟨[p3.u0,p3.u1],⟨hZ.row,ey.two hZ.z0 hZ.z1⟩⟩,⟨p3.ls,hL⟩⟩⟩
  ·repeat' (first|refine Wy ?_|refine SW.cb rfl rfl rfl (fun h => ?_) (fun h => ?_)|refine SW.st (aX rfl rfl ((fun _ _=>bX.cell))) rfl ?_|refine SW.st (ak rfl (bX.cell (i:=2) (v := .int .i64 r.bW) rfl)) rfl ?_|(refine SW.call rfl rfl (c1 _ hw) ?_;intro v w1 ab hv;subst hv;replace hw:=Ext.trans hw ab;replace bX:=bX.ext ab;replace bu:=bu.ext ab;clear ab))
   all_goals try omega
   all_goals
    refine SW.ap bu rfl rfl rfl rfl (cQ .zero) fun w5 bP hg => ?_
    replace hw:=hw.own jl hg;repeat' (first|refine Wy ?_|fail);exact ae.dl rfl rfl rfl rfl bP rfl ⟨_,rfl,hw,_,.range hq hc,fA.zero 1 _ _⟩
open Go.RowKit
theorem SW.qk {P:Program} {n:Nat} {ops:Array Oper} {Q:Exit→Act→World→Prop} {rest:List Oper} {L:Env} {w:World} {T:TypeId} {pos:String} {af:Array Edge} {t:TypeId} {k:Nat} [G:gV P t k] {b:Nat} {tb:TypeId} {cs vs:List Value} {x y:Operand} (o:Nat)
 (hB:aJ w b tb cs) (hx:ca L x=some (.pointer (some ((⟨b,0,none⟩ : Addr).add o)))) (hy:ca L y=some (.agg vs.toArray)) (hl:vs.length=k) (hc:o+k≤cs.length) (h1:∀ v∈vs,v.oneCell'=true) (cs':List Value) (ic:cs.take o++vs++cs.drop (o+k)=cs')
 (h:∀ w',aJ w' b tb cs'→w.grownBy w' (some b)→SW P n ops (.fr Q) rest L w') : SW P n ops (.fr Q) (⟨none,.store t x y,T,pos,af,none⟩::rest) L w :=
 ⟨fun a ha=>by
  rw [c7] at hx;have rn:=run_storeCells_at P b o tb vs 0 cs.toArray w hB (by simp only [List.size_toArray];omega) h1;simp only [Nat.add_zero,hl,ic] at rn;simp only [swp,wpList,Region.wanted,if_true];refine .inl ?_;unfold Oper.wp
  have yn:(execOp a.eval ⟨none,.store t x y,T,pos,af,none⟩).run P w = .ok .skip (w.setRow b cs'.toArray):=by
   simp [execOp,ha.eval hx,ha.eval hy,Instr.storeAt,Instr.sureAddr,storeVar,Value.cells,run_sizeOf G.size,hl,rn]
  rw [yn,Oper.upon_skip];obtain ⟨qR,wC⟩:=er (cs:=cs') hB;exact (h _ qR wC).out _ ha⟩
open Go.RowKit
section
variable {P:Program} {n:Nat} {ops:Array Oper} {Q:Exit→Act→World→Prop} {fin ec f:Nat} {S2:World→Prop} {listed:Array Bool} {L:Env} {w:World}
theorem SF.two (i k:Nat) {o o':Oper} (hi:ops[i]?=some o) (hk:ops[k]?=some o') (hr:Region.ready .any ops listed=[i,k]) (hw:(!Nat.beq i ec && !Nat.beq i fin)=true) (xP:(!Nat.beq k ec && !Nat.beq k fin)=true)
 (h:SW P n ops (.fr (DT P n ops Q fin ec S2 f (listed.setIfInBounds i true) w)) [o] L w) (h':SW P n ops (.fr (DT P n ops Q fin ec S2 f (listed.setIfInBounds k true) w)) [o'] L w) : SF P n ops Q fin ec S2 (f+1) listed L w :=
 ⟨fun a ha inv=>⟨by rw [hr];simp,fun j hj=>by
  have ul:=hj;rw [hr] at ul;simp only [List.mem_cons,List.not_mem_nil,or_false] at ul;rcases ul with rfl|rfl
  ·obtain ⟨n1,n2⟩:=DU hw;have cf:j<ops.size:=(Array.getElem?_eq_some_iff.1 hi).1
   refine ⟨cf,oK (Q1:=DT P n ops Q fin ec S2 f (listed.setIfInBounds j true) w) hi (fun e a w ne h=>by cases e<;>first|exact h|exact absurd rfl ne) (fun h=>h) (fun a' w' hh=>⟨fun e=>absurd e n1,fun _ e=>absurd e n2,fun _ _=>⟨hh.1,k8 f (fun EQ DO=>Ext.trans hh.1 DO) _ _ _ (hh.2 (inv.set hj cf))⟩⟩) (h.out a ha)⟩
  ·obtain ⟨n1,n2⟩:=DU xP;have cf:j<ops.size:=(Array.getElem?_eq_some_iff.1 hk).1
   refine ⟨cf,oK (Q1:=DT P n ops Q fin ec S2 f (listed.setIfInBounds j true) w) hk (fun e a w ne h=>by cases e<;>first|exact h|exact absurd rfl ne) (fun h=>h) (fun a' w' hh=>⟨fun e=>absurd e n1,fun _ e=>absurd e n2,fun _ _=>⟨hh.1,k8 f (fun EQ DO=>Ext.trans hh.1 DO) _ _ _ (hh.2 (inv.set hj cf))⟩⟩) (h'.out a ha)⟩⟩⟩
theorem SF.IH (k:Nat) {o o':Oper} (hi:ops[fin]?=some o) (hk:ops[k]?=some o') (hr:Region.ready .any ops listed=[fin,k]) (hw:Nat.beq fin ec=false) (xP:(!Nat.beq k ec && !Nat.beq k fin)=true)
 (h:SW P n ops (.fr (FJ P n ops Q fin ec S2 f (listed.setIfInBounds fin true))) [o] L w) (h':SW P n ops (.fr (DT P n ops Q fin ec S2 f (listed.setIfInBounds k true) w)) [o'] L w) : SF P n ops Q fin ec S2 (f+1) listed L w :=
 ⟨fun a ha inv=>⟨by rw [hr];simp,fun j hj=>by
  have ul:=hj;rw [hr] at ul;simp only [List.mem_cons,List.not_mem_nil,or_false] at ul;rcases ul with iI|rfl
  ·have n1:j≠ec:=fun e=>by rw [← iI,e] at hw;simp at hw
   subst iI;have cf:j<ops.size:=(Array.getElem?_eq_some_iff.1 hi).1
   exact ⟨cf,oK (Q1:=FJ P n ops Q j ec S2 f (listed.setIfInBounds j true)) hi (fun e a w ne h=>by cases e<;>first|exact h|exact absurd rfl ne) (fun h=>h) (fun a' w' hh=>⟨fun e=>absurd e n1,fun _ _=>⟨hh.1,hh.2 (inv.set hj cf)⟩,fun _ n2=>absurd rfl n2⟩) (h.out a ha)⟩
  ·obtain ⟨n1,n2⟩:=DU xP;have cf:j<ops.size:=(Array.getElem?_eq_some_iff.1 hk).1
   refine ⟨cf,oK (Q1:=DT P n ops Q fin ec S2 f (listed.setIfInBounds j true) w) hk (fun e a w ne h=>by cases e<;>first|exact h|exact absurd rfl ne) (fun h=>h) (fun a' w' hh=>⟨fun e=>absurd e n1,fun _ e=>absurd e n2,fun _ _=>⟨hh.1,k8 f (fun EQ DO=>Ext.trans hh.1 DO) _ _ _ (hh.2 (inv.set hj cf))⟩⟩) (h'.out a ha)⟩⟩⟩
theorem SG.jD (i:Nat) {d:Nat} {op:Op} {T:TypeId} {pos:String} {af:Array Edge} {v:Value} (hB:Region.noSelect ops=true) (hi:ops[i]?=some ⟨some d,op,T,pos,af,none⟩) (hf:Region.free .any ops listed i=true) (hr:(Region.ready .any ops listed).contains i=true) (hw:(!Nat.beq i ec && !Nat.beq i fin)=true) (hs:S2 w)
 (h1:∀ w2,St P ⟨some d,op,T,pos,af,none⟩ L w2 v) (hn:Nat.blt d n=true) (h:SG P n ops Q fin ec S2 f (listed.setIfInBounds i true) ((d,v)::L) w) : SG P n ops Q fin ec S2 (f+1) listed L w :=
 ⟨fun a ha inv=>by
  obtain ⟨n1,n2⟩:=DU hw;have mj:i∈Region.ready .any ops listed:=by simpa using hr
  have cf:i<ops.size:=(Array.getElem?_eq_some_iff.1 hi).1
  exact jY (T:=fun _=>True) hi (Region.noSelect_spec hB) n1 n2 (fun _ _ _ h=>(h:False).elim) (.inl fun _=>trivial) (.inl fun _ _=>trivial) f (fun _ _=>trivial) listed a w inv (Region.free_spec hi hf) mj (v:=v)
   (.inl ⟨by simp [Region.wanted],fun w' _=>(h1 w').out n a ha w' (Ext.refl w')⟩) hs (h.out _ (ha.put hn v) (inv.set mj cf))⟩
end
end Go.Proofs.YtjimadiidbkohaaGreatDoor
