/-
  Texts of the claim KmemFrees, part 17: what its theorem leans on.
-/
import Derived.Test.YtbidkghlpijecaaGreatDoorPackKmemFrees16
import Derived.Test.YtbidkghlpijecaaGreatDoorPackKmemFrees13
import Derived.Test.YtbidkghlpijecaaGreatDoorPackKmemFrees2
import Derived.Test.YtbidkghlpijecaaGreatDoorPackKmemFrees4
import Derived.Test.YtbidkghlpijecaaGreatDoorPackKmemFrees9
import Derived.Test.YtbidkghlpijecaaGreatDoorPackKmemFrees15
import Derived.Test.YtbidkghlpijecaaGreatDoorPackKmemFrees11
import Derived.Test.YtbidkghlpijecaaGreatDoorPackKmemFrees7
set_option linter.unusedVariables false
set_option linter.unusedSimpArgs false
namespace Go.Proofs.YtbidkghlpijecaaGreatDoor
open Go.RowKit
def n9 (l:List Block) (a:Int) (i:Nat) : Int:=if (bc l a && decide (bF l a<i))=true then (l.getD (bF l a) ⟨0,0,0⟩).Order else -1
theorem xk (l:List Block) (a:Int) : n9 l a 0 = -1:=by simp [n9]
theorem yY {l:List Block} (hu:l.Pairwise fun x y=>x.At<y.At) {a:Int} {i:Nat} (hi:i<l.length) (h:l[i].At=a) : n9 l a (i+1)=l[i].Order:=by
 obtain ⟨e1,e2⟩:=pu hu hi h;have:l.getD i ⟨0,0,0⟩=l[i]:=by rw [List.getD_eq_getElem?_getD,List.getElem?_eq_getElem hi];rfl
 rw [n9,e1,e2,this,decide_eq_true (Nat.lt_succ_self i)]
 rfl
theorem xl {l:List Block} {a:Int} {i:Nat} (hi:i<l.length) (h:l[i].At≠a) : n9 l a (i+1)=n9 l a i:=by
 have key:(bc l a && decide (bF l a<i+1))=(bc l a && decide (bF l a<i)):=by
  cases e:bc l a with
  | false=>rfl
  | true =>
    obtain ⟨hk,Aa⟩:=fZ e;have cQ:bF l a≠i:=fun e=>h (by simp only [← e];exact Aa)
    simp only [Bool.true_and];by_cases h1:bF l a<i
    ·rw [decide_eq_true h1,decide_eq_true (by omega)]
    ·rw [decide_eq_false h1,decide_eq_false (by omega)]
 unfold n9;rw [key]
theorem yZ {l:List Block} {a:Int} {k:Nat} (h:bc l a=true) (hk:k<l.length) (e:bF l a=k) : n9 l a l.length=l[k].Order:=by
 have:l.getD k ⟨0,0,0⟩=l[k]:=by rw [List.getD_eq_getElem?_getD,List.getElem?_eq_getElem hk];rfl
 unfold n9;rw [h,e,decide_eq_true hk,this]
 rfl
theorem xm {l:List Block} {a:Int} (h:bc l a=false) (i:Nat) : n9 l a i = -1:=by simp [n9,h]
set_option maxHeartbeats 16000000 in
theorem jU (r:eu) (h:Heap) (cpu a:Int) (w:World) (hr:sC w r h) (hs:h.small) (zS:∀ z∈h.aI,dK z) (ha : -9223372036854775808≤a∧a≤9223372036854775807) :
 a9 Tryz.prog 52 [.agg (bl r).toArray,.int .i64 cpu,.int .i64 a] w (gE w.heap.size (fv h cpu a)):=by
 refine aC Tryz.func52 rfl Tryz.ntmps52 rfl ?_;refine CW.seq (CW.region (SW.box rfl rfl fun b3 w1 hw bM ap => ?_));refine SW.alloc rfl fun b6 w2 cg eJ aB => ?_
 have cX:w.heap.size≤b6:=Nat.le_trans hw.size eJ
 (replace hw:=Ext.trans hw cg;replace ap:=ap.ext cg);have eC:=hr.dc;obtain ⟨q,hq⟩ : ∃ q,gQ h=q:=⟨_,rfl⟩
 have c1:∀ w',Ext w w'→a9 Tryz.prog 114 [.agg (bl r).toArray] w' fun v _=>v = .bool q:=fun w' hx=>by
  have:=tD r h w' (hr.ext hx) hs zS
  rwa [hq] at this
 cases q
 ·rw [rZ hq];repeat' (first|refine Wy ?_|(refine CW.cU rfl ?_)|refine SW.st (aS rfl rfl ((fun _ _=>ap.cell))) rfl ?_|(refine SW.call rfl rfl (c1 _ hw) ?_;intro v w1 ab hv;subst hv;replace hw:=Ext.trans hw ab;replace ap:=ap.ext ab;replace aB:=aB.ext ab;clear ab))
  refine SW.aj aB rfl rfl rfl rfl (cV .zero) fun w5 bV hg => ?_
  replace hw:=hw.own cX hg;repeat' (first|refine Wy ?_|fail);exact ae.bQ rfl rfl rfl bV rfl ⟨_,rfl,hw,gE.zero 8 _ _⟩
 ·have hm:=iu.1 hq;obtain ⟨z0,z1,f⟩:=px hm;have ku:=f.dc;by_cases hc : 0≤cpu∧cpu<h.bt
  ·repeat' (first|refine Wy ?_|(refine CW.cj rfl ?_)|refine SW.st (aS rfl rfl ((fun _ _=>ap.cell))) rfl ?_|refine SW.st (az rfl (ap.cell (i:=2) (v := .int .i64 r.bt) rfl)) rfl ?_|((first|refine SW.call rfl rfl (c1 _ hw) ?_|refine SW.call rfl rfl (ca _ _ _ _) ?_);intro v w1 ab hv;subst hv;replace hw:=Ext.trans hw ab;replace ap:=ap.ext ab;replace aB:=aB.ext ab;clear ab))
   all_goals try omega
   clear c1;have CP:=hr.live.len;have s2:=hs.live;have dH:=kU f.live;have EZ:=hr.live.base
   refine CW.loop (fun i:Nat=>[(1,.int .i64 cpu),(2,.int .i64 a),(3,.pointer (some ⟨b3,0,none⟩)),(6,.pointer (some ⟨b6,0,none⟩)),(8,.int .i64 (n9 h.Live a i)),(9,.int .i64 (i:Int))])
    (fun i w'=>i≤r.Live.n∧Ext w w'∧aU w' b3 41 (bl r)∧aU w' b6 41 (bl .zero)) (fun i=>r.Live.n-i) 0
    ⟨rfl,rfl,rfl,rfl,by rw [xk];rfl,rfl,trivial⟩ ⟨by omega,hw,ap,aB⟩ ?_
   clear hw ap aB;rintro i w' ⟨hi,hw,ap,aB⟩
   by_cases cy:i<r.Live.n
   ·have jS:i<h.Live.length:=by omega
    have g0:=hr.live.fE cy (j:=0) (u := .int .i64 h.Live[i].At) rfl;have g1:=hr.live.fE cy (j:=1) (u := .int .i64 h.Live[i].Order) rfl;by_cases nc:h.Live[i].At=a
    ·have eo:=yY dH jS nc;repeat' (first|refine Wy ?_|refine SW.st (az rfl (ap.cell (i:=4) (v := .slice r.Live.A r.Live.n r.Live.c) rfl)) rfl ?_|refine SW.st (ag hw rfl g0) rfl ?_|refine SW.st (ag hw rfl g1) rfl ?_)
     exact ae.again (i+1) ⟨rfl,rfl,rfl,rfl,by rw [eo];rfl,rfl,trivial⟩ (by omega) ⟨by omega,hw,ap,aB⟩
    ·have eo:=xl jS nc;repeat' (first|refine Wy ?_|refine SW.st (az rfl (ap.cell (i:=4) (v := .slice r.Live.A r.Live.n r.Live.c) rfl)) rfl ?_|refine SW.st (ag hw rfl g0) rfl ?_)
     exact ae.again (i+1) ⟨rfl,rfl,rfl,rfl,by rw [eo];rfl,rfl,trivial⟩ (by omega) ⟨by omega,hw,ap,aB⟩
   ·have ei:i=h.Live.length:=by omega
    subst ei;cases hf:bc h.Live a
    ·rw [r4 hq hc hf,xm hf];repeat' (first|refine Wy ?_|refine SW.st (az rfl (ap.cell (i:=4) (v := .slice r.Live.A r.Live.n r.Live.c) rfl)) rfl ?_)
     refine SW.aj aB rfl rfl rfl rfl (cV .zero) fun w5 bV hg => ?_
     replace hw:=hw.own cX hg;repeat' (first|refine Wy ?_|fail);exact ae.bQ rfl rfl rfl bV rfl ⟨_,rfl,hw,gE.zero 4 _ _⟩
    ·rw [ow hq hc hf];obtain ⟨hk,Aa⟩:=fZ hf;obtain ⟨k,ek⟩ : ∃ k,bF h.Live a=k:=⟨_,rfl⟩;simp only [ek] at hk Aa;have oW:=f.live.each k hk;have Dx:=f.next hk;have tp:=oW.1;rw [yZ hf hk ek];repeat' (first|refine Wy ?_|refine SW.st (az rfl (ap.cell (i:=4) (v := .slice r.Live.A r.Live.n r.Live.c) rfl)) rfl ?_|refine SW.st (aS rfl rfl ((fun _ _=>ap.cell))) rfl ?_)
     refine SW.call rfl rfl (iq r h _ (hr.ext hw) hs) fun v w4 gf hv => ?_
     obtain ⟨s,rfl,hO⟩:=hv;replace hO:=hO.low hw.size;(replace hw:=Ext.trans hw gf;replace ap:=ap.ext gf;replace aB:=aB.ext gf);have DD:=aB.lt;have DC:=ap.lt;refine SW.alloc rfl fun vI w1 ab pJ bu => ?_
     skip;refine SW.aj bu rfl rfl rfl rfl (cV s) fun w2 ll hg => ?_
     have ai:=ab.own pJ hg;have rc:w.heap.size≤vI:=Nat.le_trans hw.size pJ
     replace hw:=Ext.trans hw ai;replace ap:=ap.ext ai;replace aB:=aB.ext ai;replace hO:=hO.ext ai;replace bu:=ll;clear ll ab hg ai;have B7:b3≠vI:=by omega
     have hM:=hO.di;have Es:=hO.live;have Ab:=hO.dc;obtain ⟨g,c,u0,u1,ls,eZ,hZ,GJ⟩:=hO.split f.d.bU;have hL:=GJ.lists;clear hO GJ;obtain ⟨sz,m,cp,li,lv⟩:=s;simp only at eZ hM Es hL Ab;subst eZ;have Ie:=Es.sl.len;repeat' (first|refine Wy ?_|refine SW.st (az rfl (bu.cell (i:=4) (v := .slice lv.A lv.n lv.c) rfl)) rfl ?_)
     refine SW.call rfl rfl (nw lv.A lv.n lv.c h.Live a h.Live[k].Order _ Es.sl (by omega)) fun v w5 fI hv => ?_
     obtain ⟨B,cB,rfl,hV⟩:=hv;replace hV:=hV.low hw.size;(replace hw:=Ext.trans hw fI;replace ap:=ap.ext fI;replace aB:=aB.ext fI;replace bu:=bu.ext fI;replace hZ:=hZ.ext fI;replace hM:=hM.ext fI;replace hL:=hL.ext fI);clear Es;have y6:b6≠vI:=by omega
     repeat' (first|refine Wy ?_|fail);refine SW.bT (i:=4) bu rfl rfl rfl rfl fun w7 ll hg => ?_
     have hG:=bu.gr hg;replace hw:=hw.own rc hg;replace aB:=aB.grown hg (by simpa using y6);replace ap:=ap.grown hg (by simpa using B7);(replace hZ:=hZ.aD hG rfl;replace hM:=hM.aD hG rfl;replace hV:=hV.aD hG rfl;replace hL:=hL.aD hG rfl);replace bu:aU w7 vI 41 (bl ⟨⟨some ⟨g,0,none⟩,2,c⟩,m,cp,li,⟨B,(ba h.Live a h.Live[k].Order).length,cB⟩⟩):=ll;clear ll hg hG;have DK:=yi dH hk Aa rfl;have nR:b6≠g:=fun e=>hZ.row.cq aB rfl (by rw [hZ.own,e])
     have Fz:vI≠g:=fun e=>hZ.row.cq bu rfl (by rw [hZ.own,e])
     by_cases ho : 0<h.Live[k].Order
     ·rw [lP f.d.bU hk ek ho,DK];repeat' (first|refine Wy ?_|refine SW.st (aS rfl rfl ((fun _ _=>bu.cell))) rfl ?_)
      have AI:=fun w' (h1:dL w' w.heap.size g c u0 u1 (z0,z1)) (h2:w.heap.size≤w'.heap.size)=>mH m cp li ⟨B,(ba h.Live a h.Live[k].Order).length,cB⟩ u0 u1 _ _ h.Live[k] w.heap.size g c w' h1 h2 f.d.start Dx
      rw [Aa] at AI;refine SW.ie rfl rfl (AI _ hZ hw.size) fun v w8 hv => ?_
      obtain ⟨rfl,hg,u2,u3,oy⟩:=hv;have hG:=hZ.gr hg;replace hw:=hw.own hZ.wP hg;(replace aB:=aB.aD hG rfl;replace hM:=hM.aD hG rfl;replace hV:=hV.aD hG rfl;replace hL:=hL.aD hG rfl);clear hZ hg hG;refine SW.aj aB rfl rfl rfl rfl (cV ⟨⟨some ⟨g,0,none⟩,2,c⟩,m,cp,li,⟨B,(ba h.Live a h.Live[k].Order).length,cB⟩⟩) fun w9 bV hg => ?_
      have hG:=aB.gr hg;replace hw:=hw.own cX hg;replace oy:=oy.aD hG rfl;(replace hM:=hM.aD hG rfl;replace hV:=hV.aD hG rfl;replace hL:=hL.aD hG rfl);repeat' (first|refine Wy ?_|fail);exact ae.bQ rfl rfl rfl bV rfl ⟨_,rfl,hw,⟨⟨some ⟨g,0,none⟩,2,c⟩,m,cp,li,⟨B,(ba h.Live a h.Live[k].Order).length,cB⟩⟩,rfl,⟨Ab,hM,hV,⟨[u2,u3],⟨oy.row,dQ.two oy.z0 oy.z1⟩⟩,⟨ls,hL⟩⟩⟩
     ·rw [lQ f.d.bU hk ek ho,DK];have Er:=Dx.at_;rw [Aa] at Er;have Ig:=f.d.xw;have Ih:=f.d.Bm;obtain ⟨zs,lW⟩:=hr.bU;have l0:=lW.each.len;rw [f.d.bU] at l0;obtain ⟨v0,v1,rfl⟩:=lM (show zs.length=2 from l0);have r0:=lW.each.get 0 (by simp) (by simp [f.d.bU]);have r1:=lW.each.get 1 (by simp) (by simp [f.d.bU]);simp only [f.d.bU] at r0 r1;have r0:p7 w v0 z0:=r0
      have r1:p7 w v1 z1:=r1
      have Je:=r1.from_;have GA:=lW.row.base;have Im : 2=r.aI.n:=lW.row.len
      have rA:∃ (zi:Nat) (ui:cJ) (zz:ay),∃ k0:zi<2,[v0,v1][zi]'k0=ui∧(if a<v1.aR then (0:Int) else 1)=(zi:Int)∧p7 w ui zz∧cb zz∧(zz.aR≤a∧a<zz.To)∧keyOf z0 z1 cpu a=⟨cpu,(zi:Int),nB zz a,[]⟩:=by
       by_cases hx:a<z0.To
       ·exact ⟨0,v0,z0,by omega,rfl,by rw [if_pos (by omega)];rfl,r0,f.d.nW,⟨by have:=f.d.o9;omega,hx⟩,by unfold keyOf;rw [if_pos hx,if_pos hx];rfl⟩
       ·exact ⟨1,v1,z1,by omega,rfl,by rw [if_neg (by omega)];rfl,r1,f.d.nX,⟨by omega,by omega⟩,by unfold keyOf;rw [if_neg hx,if_neg hx];rfl⟩
      obtain ⟨zi,ui,zz,k0,zw,wI,zx,DA,⟨te,Dt⟩,pD⟩:=rA
      have cz:∀ w',Ext w w'→a9 Tryz.prog 126 [.agg (bl r).toArray,.int .i64 a] w' fun v _=>v = .int .i64 (zi:Int):=fun w' hx=>by
       have:=nF r v0 v1 a w' (lW.row.ext hx)
       rwa [wI] at this
      obtain ⟨ti,Io,Ip⟩:=ol DA te Dt;have GK:zi<r.aI.n:=by omega
      have Jf:=zx.from_;have F6:=zx.types.len;have Jg:=zx.types.base;have Iq:=lW.row.fE GK (j:=0) (u := .int .i64 ui.aR) (by simp only [zw];rfl);have Ir:=lW.row.fE GK (j:=3) (u := .slice ui.Types.A ui.Types.n ui.Types.c) (by simp only [zw];rfl);have FA:ti<ui.Types.n:=by omega
      have ft:=zx.types.one FA rfl
      have GL:nB zz a=zz.Types[ti]:=by
       unfold nB;rw [Io,Int.toNat_natCast,List.getD_eq_getElem?_getD,List.getElem?_eq_getElem Ip];rfl
      obtain ⟨t,ht⟩ : ∃ t,zz.Types[ti]=t:=⟨_,rfl⟩;rw [ht] at ft GL;have Is:=DA.ok;unfold fX at Is;repeat' (first|refine Wy ?_|refine SW.st (aS rfl rfl ((fun _ _=>ap.cell))) rfl ?_|(refine SW.call rfl rfl (cz _ hw) ?_;intro v w1 ab hv;subst hv;replace hw:=Ext.trans hw ab;replace ap:=ap.ext ab;replace aB:=aB.ext ab;replace bu:=bu.ext ab;replace hZ:=hZ.ext ab;replace hM:=hM.ext ab;replace hV:=hV.ext ab;replace hL:=hL.ext ab;clear ab))
      (apply CW.aM mixed;(· kernel_rfl);rotate_left;intro w1 ab;replace hw:=Ext.trans hw ab;replace ap:=ap.ext ab;replace aB:=aB.ext ab;replace bu:=bu.ext ab;replace hZ:=hZ.ext ab;replace hM:=hM.ext ab;replace hV:=hV.ext ab;replace hL:=hL.ext ab;clear ab;rotate_right);repeat' (first|refine Wy ?_|refine SW.st (aV (ti) rfl rfl (by assumption) (by omega) (by omega)) rfl ?_|refine SW.st (az rfl (ap.cell (i:=0) (v := .slice r.aI.A r.aI.n r.aI.c) rfl)) rfl ?_|refine SW.st (ag hw rfl Iq) rfl ?_|refine SW.st (ag hw rfl Ir) rfl ?_|refine SW.st (ag hw rfl ft) rfl ?_|exact SW.br rfl)
      obtain ⟨x,hx⟩ : ∃ x:aJ,x=⟨cpu,zi,t,[]⟩:=⟨_,rfl⟩;have yV:keyOf z0 z1 cpu a=x:=by rw [pD,GL,hx]
      rw [yV];obtain ⟨pg,qu⟩ : ∃ pg,cm h.ak x++[a]=pg:=⟨_,rfl⟩;rw [qu];have It:∀ l∈h.ak,l.aw.length*8≤140737488355328:=fun l hl=>by have:=(f.lists l hl).2;omega
      have wS:=f.count;have Fu:li.n≤256:=by have:=hL.rd.len.2;omega
      have Iu:(cm h.ak x).length≤8:=by
       cases e:ck h.ak x with
       | false=>rw [iy e];simp
       | true =>
         obtain ⟨h1,_⟩:=ik e;rw [iw e h1];exact (f.lists _ (List.getElem_mem h1)).2
      have B8:pg.length=(cm h.ak x).length+1:=by rw [← qu];simp
      repeat' (first|refine Wy ?_|refine SW.st (aS rfl rfl ((fun _ _=>bu.cell))) rfl ?_)
      have gh:=uT ⟨⟨some ⟨g,0,none⟩,2,c⟩,m,cp,li,⟨B,(ba h.Live a h.Live[k].Order).length,cB⟩⟩ h.ak ls x _ hL.rd f.r5 (by simp only;omega) It;rw [hx] at gh;refine SW.call rfl rfl gh fun v w5 DL hv => ?_
      rw [← hx] at hv;obtain ⟨A3,c3,rfl,DM⟩:=hv;repeat' (first|refine Wy ?_|fail);refine SW.bW rfl rfl rfl rfl rfl fun b w6 FB hb hB => ?_
      replace DM:=DM.ext FB;replace DL:=Ext.trans DL FB;refine SW.append DM (aU.kf (enc:=bm) hB) DL.size rfl rfl rfl (by omega) (by omega) fun A4 c4 w7 kz hg => ?_
      have AJ:=aK DL hg (Nat.le_refl _) DM.aN;replace kz:=kz.low hw.size;rw [qu,← B8] at kz;rw [← B8];(replace hw:=Ext.trans hw AJ;replace aB:=aB.ext AJ;replace bu:=bu.ext AJ;replace hZ:=hZ.ext AJ;replace hM:=hM.ext AJ;replace hV:=hV.ext AJ;replace hL:=hL.ext AJ);clear AJ DL DM hg hB FB ap;obtain ⟨n4,GM⟩ : ∃ n4,pg.length=n4:=⟨_,rfl⟩;rw [GM] at kz;rw [GM];have ye:=kz.le;have Jh:n4≤9:=by omega
      have Ak : 1≤n4:=by omega
      by_cases h8 : 8<pg.length
      ·have rX:ck h.ak x=true:=by
        cases e:ck h.ak x with
        | true=>rfl
        | false=>rw [iy e] at qu;rw [← qu] at h8;simp at h8
       obtain ⟨p0,Cx⟩ : ∃ p0,aQ h.ak x=p0:=⟨_,rfl⟩;have lh:p0<h.ak.length:=by rw [← Cx];exact (ik rX).1
       have C4:cm h.ak x=h.ak[p0].aw:=by
        rw [iw rX (by omega)];simp only [Cx]
       rw [C4] at qu B8;have sH:∀ j,j≤4→pg.take j=h.ak[p0].aw.take j:=fun j hj=>by rw [← qu,List.take_append_of_le_length (by omega)]
       have mI:∀ (j:Nat) (hj:j<pg.length) (ue:j<h.ak[p0].aw.length),pg[j]=h.ak[p0].aw[j]:=fun j hj ue=>by
        simp only [← qu];exact List.getElem_append_left ue
       have B6:eB h z0 z1 x pg (ba h.Live a h.Live[k].Order)=⟨[(cx (z0,z1) ((pg.take 4).map bz)).1,(cx (z0,z1) ((pg.take 4).map bz)).2],h.bE,h.bt,eW h.ak (jc x (pg.drop 4)),ba h.Live a h.Live[k].Order⟩:=by
        unfold eB;rw [if_pos h8]
       rw [B6];repeat' (first|refine Wy ?_|fail)
       refine CW.loop (fun t':Nat×cJ×cJ=>[(1,.int .i64 cpu),(2,.int .i64 a),(6,.pointer (some ⟨b6,0,none⟩)),(10,.pointer (some ⟨vI,0,none⟩)),(11,.int .i64 (zi:Int)),(12,.int .i64 t),(13,.slice A4 n4 c4),(14,.int .i64 (t'.1:Int))])
        (fun t' w'=>t'.1≤4∧Ext w w'∧aU w' vI 41 (bl ⟨⟨some ⟨g,0,none⟩,2,c⟩,m,cp,li,⟨B,(ba h.Live a h.Live[k].Order).length,cB⟩⟩)∧aU w' b6 41 (bl .zero)∧dL w' w.heap.size g c t'.2.1 t'.2.2 (cx (z0,z1) ((pg.take t'.1).map bz))∧Own w' w.heap.size 3 1 bm m.A m.n m.c h.bE∧Own w' w.heap.size 165 3 aE B (ba h.Live a h.Live[k].Order).length cB (ba h.Live a h.Live[k].Order)∧c8 w' w.heap.size li ls h.ak∧Own w' w.heap.size 3 1 bm A4 n4 c4 pg) (fun t'=>4-t'.1) (0,u0,u1)
        ⟨rfl,rfl,rfl,rfl,rfl,rfl,rfl,rfl,trivial⟩ ⟨by omega,hw,bu,aB,by simpa [cx] using hZ,hM,hV,hL,kz⟩ ?_
       clear hw aB bu hZ hM hV hL kz Fz nR;rintro ⟨j,u0,u1⟩ w' ⟨hj,hw,bu,aB,hZ,hM,hV,hL,kz⟩
       simp only at hj hZ ⊢;have DG:=kz.sl.base;by_cases Ik:j<4
       ·have fF:j<n4:=by omega
        have DH:j<pg.length:=by omega
        have hD:=f.inv lh j (by omega);have hN:=f.BF lh (show j<h.ak[p0].aw.length by omega)
        have Fw:cx (z0,z1) ((pg.take (j+1)).map bz)=dS (cx (z0,z1) ((pg.take j).map bz)) (bz pg[j]):=by
         rw [List.take_succ_eq_append_getElem DH,List.map_append,iC];rfl
        rw [← sH j hj,← mI j DH (by omega)] at hN;rw [← sH j hj] at hD;repeat' (first|refine Wy ?_|fail);refine CW.any 5 mixed (bZ (by kernel_rfl)) rfl fun w1 ab bd => ?_
        replace hw:=Ext.trans hw ab;replace bu:=bu.ext ab;replace aB:=aB.ext ab;replace hZ:=hZ.ext ab;replace hM:=hM.ext ab;replace hV:=hV.ext ab;replace hL:=hL.ext ab;replace kz:=kz.ext ab;clear ab;refine SA.take 0 bd rfl (by kernel_rfl) (by kernel_rfl) rfl ?_;repeat ((show SW _ _ _ _ (⟨_,Op.load _ _,_,_,_,none⟩::_) _ _;refine SW.st (aS rfl rfl ((fun _ _=>bu.cell))) rfl ?_))
        refine SW.aq ?_;refine SA.take 1 bd rfl (by kernel_rfl) (by kernel_rfl) rfl ?_;repeat (refine SW.pure rfl rfl ?_)
        refine SW.aq ?_;refine SA.take 2 bd rfl (by kernel_rfl) (by kernel_rfl) rfl ?_;repeat (refine SW.pure rfl rfl ?_)
        refine SW.aq ?_;refine SA.take 3 bd rfl (by kernel_rfl) (by kernel_rfl) rfl ?_;repeat ((show SW _ _ _ _ (⟨_,Op.indexAddr _ _ _,_,_,_,none⟩::_) _ _;refine SW.st (bH rfl rfl (by assumption) (by omega)) rfl ?_))
        refine SW.aq ?_;refine SA.take 4 bd rfl (by kernel_rfl) (by kernel_rfl) rfl ?_;repeat ((show SW _ _ _ _ (⟨_,Op.load _ _,_,_,_,none⟩::_) _ _;refine SW.st (az rfl (kz.sl.one fF rfl)) rfl ?_))
        refine SW.aq ?_;refine SA.done (by kernel_rfl) ?_;refine SW.ie rfl rfl (mH m cp li ⟨B,(ba h.Live a h.Live[k].Order).length,cB⟩ u0 u1 _ _ (bz pg[j]) w.heap.size g c _ hZ hw.size hD hN) fun v w8 hv => ?_
        obtain ⟨rfl,hg,u2,u3,oy⟩:=hv;have hG:=hZ.gr hg;replace hw:=hw.own hZ.wP hg;(replace bu:=bu.aD hG rfl;replace aB:=aB.aD hG rfl;replace hM:=hM.aD hG rfl;replace hV:=hV.aD hG rfl;replace hL:=hL.aD hG rfl;replace kz:=kz.aD hG rfl);refine SW.aj bu rfl rfl rfl rfl (cV ⟨⟨some ⟨g,0,none⟩,2,c⟩,m,cp,li,⟨B,(ba h.Live a h.Live[k].Order).length,cB⟩⟩) fun w9 ll wq => ?_
        have DN:=bu.gr wq;replace hw:=hw.own rc wq;replace aB:=aB.grown wq (by simpa using y6);(replace oy:=oy.aD DN rfl;replace hM:=hM.aD DN rfl;replace hV:=hV.aD DN rfl;replace hL:=hL.aD DN rfl;replace kz:=kz.aD DN rfl);repeat' (first|refine Wy ?_|fail);exact ae.again (j+1,u2,u3) ⟨rfl,rfl,rfl,rfl,rfl,rfl,rfl,rfl,trivial⟩ (by simp only;omega) ⟨by simp only;omega,hw,ll,aB,by simp only;rw [Fw];exact oy,hM,hV,hL,kz⟩
       ·obtain rfl:j=4:=by omega
        repeat' (first|refine Wy ?_|(refine SW.st (bo (k:=4) rfl rfl (by omega) (by omega)) rfl ?_))
        refine CW.any 6 mixed (bZ (by kernel_rfl)) rfl fun w1 ab bd => ?_
        replace hw:=Ext.trans hw ab;replace bu:=bu.ext ab;replace aB:=aB.ext ab;replace hZ:=hZ.ext ab;replace hM:=hM.ext ab;replace hV:=hV.ext ab;replace hL:=hL.ext ab;replace kz:=kz.ext ab;clear ab;refine SA.take 0 bd rfl (by kernel_rfl) (by kernel_rfl) rfl ?_;repeat ((show SW _ _ _ _ (⟨_,Op.load _ _,_,_,_,none⟩::_) _ _;refine SW.st (aS rfl rfl ((fun _ _=>bu.cell))) rfl ?_))
        refine SW.aq ?_;refine SA.take 1 bd rfl (by kernel_rfl) (by kernel_rfl) rfl ?_;repeat (refine SW.pure rfl rfl ?_)
        refine SW.aq ?_;refine SA.take 2 bd rfl (by kernel_rfl) (by kernel_rfl) rfl ?_;repeat (refine SW.pure rfl rfl ?_)
        refine SW.aq ?_;refine SA.take 3 bd rfl (by kernel_rfl) (by kernel_rfl) rfl ?_;repeat (refine SW.pure rfl rfl ?_)
        refine SW.aq ?_;refine SA.take 4 bd rfl (by kernel_rfl) (by kernel_rfl) rfl ?_;repeat (refine SW.pure rfl rfl ?_)
        refine SW.aq ?_;refine SA.one 5 rfl (by kernel_rfl) rfl ?_;refine SW.call rfl rfl (eH _ _ _ _ _ (kz.sl.drop 4 c4 (by omega) (by omega)) (by omega)) fun v w4 ai hv => ?_
        obtain ⟨X,c4,rfl,hX⟩:=hv;replace hX:=hX.low hw.size;(replace hw:=Ext.trans hw ai;replace bu:=bu.ext ai;replace aB:=aB.ext ai;replace hZ:=hZ.ext ai;replace hM:=hM.ext ai;replace hV:=hV.ext ai;replace hL:=hL.ext ai);refine SW.nil (ae.sa ai ?_);refine SA.done (by kernel_rfl) ?_;refine SW.call rfl rfl (nL ⟨⟨some ⟨g,0,none⟩,2,c⟩,m,cp,li,⟨B,(ba h.Live a h.Live[k].Order).length,cB⟩⟩ h.ak ls (jc x (pg.drop 4)) ⟨cpu,zi,t,⟨X,(n4-4),c4⟩⟩ w.heap.size _ hL ⟨by rw [hx];rfl,by rw [hx];rfl,by rw [hx];rfl,hX⟩ f.r5 hw.size (show 0<(n4-4) by omega) (by simp only;omega)) fun v w5 ai hv => ?_
        obtain ⟨s5,R5,rfl,B9⟩:=hv;(replace hw:=Ext.trans hw ai;replace bu:=bu.ext ai;replace aB:=aB.ext ai;replace hZ:=hZ.ext ai;replace hM:=hM.ext ai;replace hV:=hV.ext ai);refine SW.aj aB rfl rfl rfl rfl (cV ⟨⟨some ⟨g,0,none⟩,2,c⟩,m,cp,s5,⟨B,(ba h.Live a h.Live[k].Order).length,cB⟩⟩) fun w9 bV hg => ?_
        have hG:=aB.gr hg;replace hw:=hw.own cX hg;(replace hZ:=hZ.aD hG rfl;replace hM:=hM.aD hG rfl;replace hV:=hV.aD hG rfl;replace B9:=B9.aD hG rfl);repeat' (first|refine Wy ?_|fail);exact ae.bQ rfl rfl rfl bV rfl ⟨_,rfl,hw,⟨⟨some ⟨g,0,none⟩,2,c⟩,m,cp,s5,⟨B,(ba h.Live a h.Live[k].Order).length,cB⟩⟩,rfl,⟨Ab,hM,hV,⟨[u0,u1],⟨hZ.row,dQ.two hZ.z0 hZ.z1⟩⟩,⟨R5,B9⟩⟩⟩
      ·have B6:eB h z0 z1 x pg (ba h.Live a h.Live[k].Order)=⟨[z0,z1],h.bE,h.bt,eW h.ak (jc x pg),ba h.Live a h.Live[k].Order⟩:=by
        unfold eB;rw [if_neg h8]
       rw [B6];repeat' (first|refine Wy ?_|fail);refine CW.any 6 mixed (bZ (by kernel_rfl)) rfl fun w1 ab bd => ?_
       replace hw:=Ext.trans hw ab;replace bu:=bu.ext ab;replace aB:=aB.ext ab;replace hZ:=hZ.ext ab;replace hM:=hM.ext ab;replace hV:=hV.ext ab;replace hL:=hL.ext ab;replace kz:=kz.ext ab;clear ab;refine SA.take 0 bd rfl (by kernel_rfl) (by kernel_rfl) rfl ?_;repeat ((show SW _ _ _ _ (⟨_,Op.load _ _,_,_,_,none⟩::_) _ _;refine SW.st (aS rfl rfl ((fun _ _=>bu.cell))) rfl ?_))
       refine SW.aq ?_;refine SA.take 1 bd rfl (by kernel_rfl) (by kernel_rfl) rfl ?_;repeat (refine SW.pure rfl rfl ?_)
       refine SW.aq ?_;refine SA.take 2 bd rfl (by kernel_rfl) (by kernel_rfl) rfl ?_;repeat (refine SW.pure rfl rfl ?_)
       refine SW.aq ?_;refine SA.take 3 bd rfl (by kernel_rfl) (by kernel_rfl) rfl ?_;repeat (refine SW.pure rfl rfl ?_)
       refine SW.aq ?_;refine SA.take 4 bd rfl (by kernel_rfl) (by kernel_rfl) rfl ?_;repeat (refine SW.pure rfl rfl ?_)
       refine SW.aq ?_;refine SA.one 5 rfl (by kernel_rfl) rfl ?_;refine SW.call rfl rfl (eH _ _ _ _ _ (kz.sl) (by omega)) fun v w4 ai hv => ?_
       obtain ⟨X,c4,rfl,hX⟩:=hv;replace hX:=hX.low hw.size;(replace hw:=Ext.trans hw ai;replace bu:=bu.ext ai;replace aB:=aB.ext ai;replace hZ:=hZ.ext ai;replace hM:=hM.ext ai;replace hV:=hV.ext ai;replace hL:=hL.ext ai);refine SW.nil (ae.sa ai ?_);refine SA.done (by kernel_rfl) ?_;refine SW.call rfl rfl (nL ⟨⟨some ⟨g,0,none⟩,2,c⟩,m,cp,li,⟨B,(ba h.Live a h.Live[k].Order).length,cB⟩⟩ h.ak ls (jc x pg) ⟨cpu,zi,t,⟨X,n4,c4⟩⟩ w.heap.size _ hL ⟨by rw [hx];rfl,by rw [hx];rfl,by rw [hx];rfl,hX⟩ f.r5 hw.size (show 0<n4 by omega) (by simp only;omega)) fun v w5 ai hv => ?_
       obtain ⟨s5,R5,rfl,B9⟩:=hv;(replace hw:=Ext.trans hw ai;replace bu:=bu.ext ai;replace aB:=aB.ext ai;replace hZ:=hZ.ext ai;replace hM:=hM.ext ai;replace hV:=hV.ext ai);refine SW.aj aB rfl rfl rfl rfl (cV ⟨⟨some ⟨g,0,none⟩,2,c⟩,m,cp,s5,⟨B,(ba h.Live a h.Live[k].Order).length,cB⟩⟩) fun w9 bV hg => ?_
       have hG:=aB.gr hg;replace hw:=hw.own cX hg;(replace hZ:=hZ.aD hG rfl;replace hM:=hM.aD hG rfl;replace hV:=hV.aD hG rfl;replace B9:=B9.aD hG rfl);repeat' (first|refine Wy ?_|fail);exact ae.bQ rfl rfl rfl bV rfl ⟨_,rfl,hw,⟨⟨some ⟨g,0,none⟩,2,c⟩,m,cp,s5,⟨B,(ba h.Live a h.Live[k].Order).length,cB⟩⟩,rfl,⟨Ab,hM,hV,⟨[u0,u1],⟨hZ.row,dQ.two hZ.z0 hZ.z1⟩⟩,⟨R5,B9⟩⟩⟩
  ·rw [r3 hq hc];repeat' (first|refine Wy ?_|(refine CW.cj rfl ?_)|refine SW.st (aS rfl rfl ((fun _ _=>ap.cell))) rfl ?_|refine SW.st (az rfl (ap.cell (i:=2) (v := .int .i64 r.bt) rfl)) rfl ?_|((first|refine SW.call rfl rfl (c1 _ hw) ?_|refine SW.call rfl rfl (ca _ _ _ _) ?_);intro v w1 ab hv;subst hv;replace hw:=Ext.trans hw ab;replace ap:=ap.ext ab;replace aB:=aB.ext ab;clear ab))
   all_goals try omega
   all_goals
    refine SW.aj aB rfl rfl rfl rfl (cV .zero) fun w5 bV hg => ?_
    replace hw:=hw.own cX hg;repeat' (first|refine Wy ?_|fail);exact ae.bQ rfl rfl rfl bV rfl ⟨_,rfl,hw,gE.zero 1 _ _⟩
open Go.RowKit
def oa (z:ay) : Prop:=z.ao.length≤257∧z.Types.length≤32
theorem rn {s:ay×ay} (h:oa s.1∧oa s.2) (b:Block) : oa (dS s b).1∧oa (dS s b).2:=by
 unfold dS;split
 ·exact ⟨⟨(kS _ _ _).1,(kS _ _ _).2.1⟩,h.2⟩
 ·exact ⟨h.1,(kS _ _ _).1,(kS _ _ _).2.1⟩
theorem nM:∀ (l:List Block) {s:ay×ay},oa s.1∧oa s.2→oa (cx s l).1∧oa (cx s l).2
 | [],_,h=>h
 | b::l,s,h=>nM l (s:=dS s b) (rn h b)
theorem oa.small {z:ay} (h:oa z) : z.ao.length*24≤140737488355328∧z.Types.length*8≤140737488355328:=⟨Nat.le_trans (Nat.mul_le_mul_right 24 h.1) (by decide),by have:=h.2;omega⟩
theorem y7 {α:Type} {l:List α} {i:Nat} {b x : α} (h:x∈aW l i b) : x=b∨x∈l:=by
 unfold aW at h;rw [List.mem_append,List.mem_append] at h;rcases h with (h|h)|h
 ·exact .inr (List.mem_of_mem_take h)
 ·exact .inl (by simpa using h)
 ·exact .inr (List.mem_of_mem_drop h)
theorem y8 {L:List aJ} {x y:aJ} (h:y∈eW L x) : y=x∨y∈L:=by
 unfold eW at h;split at h
 ·rcases List.mem_or_eq_of_mem_set h with h|h
  ·exact .inr h
  ·exact .inl h
 ·exact y7 h
theorem y9 (L:List aJ) (x:aJ) : (eW L x).length≤L.length+1:=by
 unfold eW;split
 ·simp
 ·rw [ew _ (ev L x)];omega
theorem tS {h:Heap} {z0 z1:ay} (f:mB h z0 z1) (x:aJ) : (cm h.ak x).length≤8:=by
 cases e:ck h.ak x with
 | false=>rw [iy e];simp
 | true =>
   obtain ⟨h1,_⟩:=ik e;rw [iw e h1];exact (f.lists _ (List.getElem_mem h1)).2
theorem nN {h:Heap} {z0 z1:ay} (f:mB h z0 z1) (x:aJ) (hx:x.aw.length≤9) : (eW h.ak x).length*48≤140737488355328 ∧ ∀ l∈eW h.ak x,l.aw.length*8≤140737488355328:=by
 have:=f.count
 have:=y9 h.ak x
 refine ⟨by omega,fun l hl => ?_⟩;rcases y8 hl with rfl|hl
 ·omega
 ·have:=(f.lists l hl).2;omega
theorem nO (h:Heap) (cpu a:Int) (hs:h.small) : (fv h cpu a).2.small:=by
 have hz:((8:Int),(⟨[],[],0,[],[]⟩ : Heap)).2.small:=by constructor<;>simp
 cases hq:gQ h
 ·rw [rZ hq];exact hz
 ·by_cases hc : 0≤cpu∧cpu<h.bt
  ·cases hf:bc h.Live a
   ·rw [r4 hq hc hf];exact hz
   ·rw [ow hq hc hf];obtain ⟨z0,z1,f⟩:=px (iu.1 hq);obtain ⟨hk,_⟩:=fZ hf;have En:=mm f.d.nW;have vG:=mm f.d.nX;have As:oa z0∧oa z1:=⟨⟨by omega,En.2⟩,⟨by omega,vG.2⟩⟩
    have pW:(h.Live.eraseIdx (bF h.Live a)).length*24≤140737488355328:=by
     have:=hs.live
     have:=List.length_eraseIdx_le h.Live (bF h.Live a)
     omega
    by_cases ho : 0<h.Live[bF h.Live a].Order
    ·rw [lP f.d.bU hk rfl ho];have hb:=rn (s:=(z0,z1)) As h.Live[bF h.Live a];refine ⟨by simp [mA],hs.di,hs.lists,pW,fun z hz => ?_,hs.cw⟩;simp only [mA,List.mem_cons,List.not_mem_nil,or_false] at hz;rcases hz with rfl|rfl
     ·exact hb.1.small
     ·exact hb.2.small
    ·rw [lQ f.d.bU hk rfl ho];have hp:=tS f (keyOf z0 z1 cpu a);unfold eB;split
     ·have hb:=nM (((cm h.ak (keyOf z0 z1 cpu a)++[a]).take 4).map bz) (s:=(z0,z1)) As;obtain ⟨g1,g2⟩:=nN f (jc (keyOf z0 z1 cpu a) ((cm h.ak (keyOf z0 z1 cpu a)++[a]).drop 4)) (by simp only [jc,List.length_drop,List.length_append,List.length_singleton];omega);refine ⟨by simp,hs.di,g1,pW,fun z hz => ?_,g2⟩;simp only [List.mem_cons,List.not_mem_nil,or_false] at hz;rcases hz with rfl|rfl
      ·exact hb.1.small
      ·exact hb.2.small
     ·obtain ⟨g1,g2⟩:=nN f (jc (keyOf z0 z1 cpu a) (cm h.ak (keyOf z0 z1 cpu a)++[a])) (by simp only [jc,List.length_append,List.length_singleton];omega);refine ⟨by simp,hs.di,g1,pW,fun z hz => ?_,g2⟩;simp only [List.mem_cons,List.not_mem_nil,or_false] at hz;rcases hz with rfl|rfl
      ·exact As.1.small
      ·exact As.2.small
  ·rw [r3 hq hc];exact hz
open Go.RowKit
theorem rp {z:ay} (h:dK z) (a o:Int) : dK (ec z a o).2:=by
 have h0:dK ⟨0,0,[],[]⟩:=by unfold dK;simp
 unfold ec;(repeat' split)<;>first|exact h|exact h0
theorem rq {s:ay×ay} (h:dK s.1∧dK s.2) (b:Block) : dK (dS s b).1∧dK (dS s b).2:=by
 unfold dS;split
 ·exact ⟨rp h.1 _ _,h.2⟩
 ·exact ⟨h.1,rp h.2 _ _⟩
theorem nP:∀ (l:List Block) {s:ay×ay},dK s.1∧dK s.2→dK (cx s l).1∧dK (cx s l).2
 | [],_,h=>h
 | b::l,s,h=>nP l (s:=dS s b) (rq h b)
theorem sr {a b:ay} (h:dK a∧dK b) : ∀ z∈[a,b],dK z:=fun z hz=>by
 simp only [List.mem_cons,List.not_mem_nil,or_false] at hz;rcases hz with rfl|rfl
 ·exact h.1
 ·exact h.2
theorem xn (h:Heap) (cpu a:Int) (hs:∀ z∈h.aI,dK z) : ∀ z∈(fv h cpu a).2.aI,dK z:=by
 have h0:∀ z∈(⟨[],[],0,[],[]⟩ : Heap).aI,dK z:=fun z hz=>by simp at hz
 unfold fv;split
 ·split
  ·split
   ·simp only [lO];split
    ·rename_i z0 z1 hz;have hb:dK z0∧dK z1:=⟨hs _ (by rw [hz];simp),hs _ (by rw [hz];simp)⟩
     split
     ·exact sr (rq (s:=(z0,z1)) hb _)
     ·unfold eB;split
      ·exact sr (nP _ (s:=(z0,z1)) hb)
      ·exact sr hb
    ·exact h0
   ·exact h0
  ·exact h0
 ·exact h0
structure zy (h:Heap) : Prop where
 small:h.small
 BO:∀ z∈h.aI,dK z
theorem zy.free {h:Heap} (a:zy h) (cpu at_:Int) : zy (fv h cpu at_).2:=⟨nO h cpu at_ a.small,xn h cpu at_ a.BO⟩
def kW (c:aZ) (k:Nat) : aZ:=⟨c.Names,c.bp,c.dE,c.Order,c.ah.eraseIdx k,c.aG⟩
def ef (s:ar) (i:Nat) (p:Heap×aZ) : ar:=⟨s.Words,p.1,s.aa.set i p.2⟩
structure xC (c:aZ) : Prop where
 small:c.small
 at_:∀ x∈c.ah,-9223372036854775808≤x.At∧x.At≤9223372036854775807
theorem xC.cut {c:aZ} (h:xC c) (k:Nat) : xC (kW c k):=by
 have h1:=h.small.aL;have h2:=List.length_eraseIdx_le c.ah k;exact ⟨⟨h.small.names,by simp only [kW];omega,h.small.bh⟩,fun x hx=>h.at_ x (List.mem_of_mem_eraseIdx hx)⟩
theorem ar.iN.mg {s:ar} (h:s.iN) : zy s.Heap:=⟨h.small.heap,h.bU⟩
theorem ar.iN.FC {s:ar} (h:s.iN) {i:Nat} (hi:i<s.aa.length) : xC s.aa[i]:=⟨h.small.each _ (List.getElem_mem hi),h.aL _ (List.getElem_mem hi)⟩
theorem tT {s:ar} (h:s.small) (i:Nat) {p:Heap×aZ} (h1:zy p.1) (h2:xC p.2) : (ef s i p).small:=by
 refine ⟨h.words,h1.small,by simp only [ef,List.length_set];exact h.bJ,fun c hc => ?_⟩;rcases List.mem_or_eq_of_mem_set hc with hc|rfl
 ·exact h.each c hc
 ·exact h2.small
open Go.RowKit
noncomputable def j9 (s:ar) (n:ByteArray) (cpu:Int) : Int:=if eD s then (if s.aa.any (dV n) then (if 0≤cpu∧cpu<s.Heap.bt then 0 else 1) else 4) else 8
theorem vd {s:ar} {n:ByteArray} {cpu:Int} (h:eD s=false) : j9 s n cpu=8:=by simp [j9,h]
theorem ve {s:ar} {n:ByteArray} {cpu:Int} (h:eD s=true) (h1:s.aa.any (dV n)=false) : j9 s n cpu=4:=by simp only [j9,h,h1,if_true,Bool.false_eq_true,if_false]
theorem vf {s:ar} {n:ByteArray} {cpu:Int} (h:eD s=true) (h1:s.aa.any (dV n)=true) (h2 : ¬ (0≤cpu∧cpu<s.Heap.bt)) : j9 s n cpu=1:=by simp only [j9,h,h1,if_true,if_neg h2]
theorem za {s:ar} {n:ByteArray} {cpu:Int} (h:eD s=true) (h1:s.aa.any (dV n)=true) (h2 : 0≤cpu∧cpu<s.Heap.bt) : j9 s n cpu=0:=by simp only [j9,h,h1,if_true,if_pos h2]
def Ca (lo:Nat) (s:ar) (n:ByteArray) (cpu:Int) (v:Value) (w:World) : Prop :=
 (j9 s n cpu≠0∧v = .tuple #[.agg (aH .zero).toArray,.int .i64 0,.int .i64 (j9 s n cpu)]) ∨
 (j9 s n cpu=0 ∧ ∃ q cs,v = .tuple #[.agg (aH q).toArray,.int .i64 (idxOf (dV n) s.aa),.int .i64 0]∧SX w lo q s cs∧SI w lo q s cs)
theorem kX {s:ar} {i:Nat} {p:Heap×aZ}:(ef s i p).aa.length=s.aa.length:=List.length_set
theorem lU {s:ar} {i:Nat} (hi:i<s.aa.length) : ef s i (s.Heap,s.aa[i])=s:=by
 cases s
 simp [ef]
section
variable {w w':World} {lo:Nat} {r:dF} {s:ar} {cs:List cr} {i:Nat} {p:Heap×aZ}
theorem mL.rows (h:SX w lo r (ef s i p) cs) : cs.length=s.aa.length∧r.aa.n=s.aa.length:=by
 have h1:=h.row.len;have h2:=h.each.len;rw [kX] at h2;omega
theorem mL.get (h:SX w lo r (ef s i p) cs) (hi:i<cs.length) (oh:i<s.aa.length) : kj w lo cs[i] p.2:=by
 have:=h.each.get i hi (by rw [kX];exact oh)
 simpa [ef] using this
theorem mL.vO {n':Nat} {l':List Slab} (h:SX w lo r (ef s i p) cs) (hi:i<cs.length) (oh:i<s.aa.length) (hO:Own w' lo 91 3 bB cs[i].ah.A n' cs[i].ah.c l') (hg:w.grownBy w' (aX cs[i].ah.A cs[i].ah.c)) :
 mL w' lo r (ef s i (p.1,⟨p.2.Names,p.2.bp,p.2.dE,p.2.Order,l',p.2.aG⟩)) cs (cs.set i ⟨cs[i].Names,cs[i].bp,cs[i].dE,cs[i].Order,⟨cs[i].ah.A,n',cs[i].ah.c⟩,cs[i].aG⟩):=by
 have:=h.aL hi (by rw [kX];exact oh) hO hg
 simpa [ef] using this
theorem mL.pX {n' c':Nat} {A':Option Addr} {l':List Slab} (h:SX w lo r (ef s i p) cs) (gh:lo≤w.heap.size) (hi:i<cs.length) (oh:i<s.aa.length) (hx:Ext w w') (hO:Own w' w.heap.size 91 3 bB A' n' c' l') :
 mL w' lo r (ef s i (p.1,⟨p.2.Names,p.2.bp,p.2.dE,p.2.Order,l',p.2.aG⟩)) cs (cs.set i ⟨cs[i].Names,cs[i].bp,cs[i].dE,cs[i].Order,⟨A',n',c'⟩,cs[i].aG⟩):=by
 have:=h.yT gh hi (by rw [kX];exact oh) hx hO
 simpa [ef] using this
theorem mL.vg {H:eu} {h':Heap} {tK:List cr} (h:mL w lo r (ef s i p) tK cs) (hH:gl w lo H h') : mL w lo ⟨r.Words,H,r.aa⟩ (ef s i (h',p.2)) tK cs:=⟨h.words,hH,h.row,h.each,h.pair⟩
end
open Go.RowKit
theorem dn.DO {l:List Int} {most x:Int} {acc:List Int} {r:Option (List Int)} (h:dn l most x acc r) : (acc.length:Int)≤most → ∀ out,r=some out→(out.length:Int)≤most:=by
 induction h with
 | done out=>intro ha o e;cases e;exact ha
 | bad=>intro _ _ e;cases e
 | @step k out r h1 hk h3 h ih =>
   intro ha o e;exact ih (by rw [List.length_append];simp;omega) o e
theorem ss {x o n:Int} (h:dk x=(o,n,0)) : (o=0∧n*x≤16)∨(o=1∧n*x≤32)∨(o=2∧n*x≤64):=by
 unfold dk at h;split at h
 ·rename_i hx;have k1:=Int.ediv_mul_le 16 (show x≠0 by omega);have k2:=Int.ediv_mul_le 32 (show x≠0 by omega);have k3:=Int.ediv_mul_le 64 (show x≠0 by omega);split at h
  ·simp only [Prod.mk.injEq] at h;obtain ⟨rfl,rfl,_⟩:=h;exact .inl ⟨rfl,k1⟩
  ·split at h
   ·simp only [Prod.mk.injEq] at h;obtain ⟨rfl,rfl,_⟩:=h;exact .inr (.inl ⟨rfl,k2⟩)
   ·simp only [Prod.mk.injEq] at h;obtain ⟨rfl,rfl,_⟩:=h;exact .inr (.inr ⟨rfl,k3⟩)
 ·simp only [Prod.mk.injEq] at h;omega
theorem zb {s:ar} {a:Int} {i k:Nat} (hM:dB s) (hF:il s a i k) : 0≤a∧a<4096:=by
 have hc:=(hM.each i hF.hi).may;have hs:=hc.aL k hF.hk;have hl:=ss hc.lay;have ho:=hF.obj;rw [pR hF.hi hF.hk] at ho;unfold jm at ho;simp only [Bool.and_eq_true,decide_eq_true_eq] at ho;have pW:=hs.live;cases hf:bc s.Heap.Live ((s.aa[i]'hF.hi).ah[k]'hF.hk).At with
 | false =>
   rw [nb hf] at pW;omega
 | true =>
   obtain ⟨hk,e⟩:=fZ hf;rw [r7 hf hk] at pW;obtain ⟨_,h2,h3,_⟩:=hM.heap.live.each _ hk;rw [pW] at h3;rw [e] at h2 h3;obtain ⟨p,hp⟩ : ∃ p,(s.aa[i]'hF.hi).dE*(s.aa[i]'hF.hi).bp=p:=⟨_,rfl⟩;rw [hp] at hl ho;rcases hl with ⟨h,_⟩|⟨h,_⟩|⟨h,_⟩<;>(rw [h] at h3;simp [pw] at h3;omega)
def fi (c:aZ) (x:Slab) : Bool:=decide (x.ao=c.dE) && !decide (x.At∈c.aG)
def ka (c:aZ) (k:Nat) (x:Slab) (a:Int) : aZ:=⟨c.Names,c.bp,c.dE,c.Order,c.ah.set k ⟨x.At,x.ao+1,a⟩,c.aG⟩
theorem xC.put {c:aZ} (h:xC c) {k:Nat} (hk:k<c.ah.length) (a:Int) : xC (ka c k c.ah[k] a):=by
 refine ⟨⟨h.small.names,by simp only [ka,List.length_set];exact h.small.aL,h.small.bh⟩,fun y hy => ?_⟩;rcases List.mem_or_eq_of_mem_set hy with hy|rfl
 ·exact h.at_ y hy
 ·exact h.at_ c.ah[k] (List.getElem_mem hk)
def vh (s:ar) (x:Slab) (a:Int) : ar:=⟨s.Words.set a.toNat x.lf,s.Heap,s.aa⟩
noncomputable def oc (s:ar) (c:aZ) (k:Nat) (x:Slab) (cpu a:Int) : Heap×aZ :=
 if fi (ka c k x a) ⟨x.At,x.ao+1,a⟩ && decide (1<(ka c k x a).ah.countP (fi (ka c k x a))) then ((fv s.Heap cpu x.At).2,kW (ka c k x a) k) else (s.Heap,ka c k x a)
inductive kH (s:ar) (n:ByteArray) (cpu a:Int) : ar×Int→Prop where
 | ask (h:j9 s n cpu≠0) : kH s n cpu a (.zero,j9 s n cpu)
 | none {u:Int×Int×Int} (h:j9 s n cpu=0) (hF:fJ s a u) (cQ : ¬ (u.2.2=0∧u.1=idxOf (dV n) s.aa)) : kH s n cpu a (.zero,4)
 | put {i k:Nat} (h:j9 s n cpu=0) (hF:fJ s a (i,k,0)) (e:idxOf (dV n) s.aa=i) (hi:i<s.aa.length) (hk:k<s.aa[i].ah.length) : kH s n cpu a (ef (vh s s.aa[i].ah[k] a) i (oc s s.aa[i] k s.aa[i].ah[k] cpu a),0)
theorem kH.mM {s:ar} {n:ByteArray} {cpu a:Int} {u v:ar×Int} (x:kH s n cpu a u) (y:kH s n cpu a v) : u=v:=by
 cases x with
 | ask h=>cases y with
   | ask=>rfl
   | none h'=>exact absurd h' h
   | put h'=>exact absurd h' h
 | none h hF cQ=>cases y with
   | ask h'=>exact absurd h h'
   | none=>rfl
   | put h' nG e'=>exact absurd (by rw [hF.mM nG];exact ⟨rfl,e'.symm⟩) cQ
 | put h hF e hi hk=>cases y with
   | ask h'=>exact absurd h h'
   | none h' nG AX=>exact absurd (by rw [nG.mM hF];exact ⟨rfl,e.symm⟩) AX
   | put h' nG e' =>
     have:=hF.mM nG
     simp only [Prod.mk.injEq] at this;obtain ⟨h1,h2,_⟩:=this;have h1:=Int.ofNat.inj h1;have h2:=Int.ofNat.inj h2;subst h1;subst h2
     rfl
theorem zy.oc {s:ar} (h:zy s.Heap) {c:aZ} (hc:xC c) {k:Nat} (hk:k<c.ah.length) (cpu a:Int) : zy (oc s c k c.ah[k] cpu a).1∧xC (oc s c k c.ah[k] cpu a).2:=by
 unfold Go.Proofs.YtbidkghlpijecaaGreatDoor.oc;split
 ·exact ⟨h.free _ _,(hc.put hk a).cut _⟩
 ·exact ⟨h,hc.put hk a⟩
theorem kH.small {s:ar} {n:ByteArray} {cpu a:Int} {u:ar×Int} (x:kH s n cpu a u) (hf:s.iN) : u.1.small:=by
 cases x with
 | ask|none=>exact ar.jT
 | @put i k h hF e hi hk =>
   have h1:=hf.mg.oc (hf.FC hi) hk cpu a;have hw:(vh s s.aa[i].ah[k] a).small:=⟨by simp only [vh,List.length_set];exact hf.small.words,hf.small.heap,hf.small.bJ,hf.small.each⟩
   exact tT hw _ h1.1 h1.2
theorem fJ.AK {s:ar} {a:Int} {i k:Int} (h:fJ s a (i,k,0)) : ∃ (i' k':Nat),i=i'∧k=k'∧eD s=true ∧ ∃ hF:il s a i' k',0≤((s.aa[i']'hF.hi).ah[k']'hF.hk).ao∧((s.aa[i']'hF.hi).ah[k']'hF.hk).ao≤64:=by
 cases h with
 | @hit i' k' out h hF hC hm =>
   refine ⟨i',k',rfl,rfl,h,hF,?_⟩;have hc:=((ga.1 h).each i' hF.hi).may;have h1:=gq hc.lay;have h2:=hC.1.DO (by simp;omega) out rfl;have h3:=hC.2.1;omega
open Go.RowKit
def pY (c:aZ) : ByteArray:=c.Names.getD 0 ⟨#[]⟩
def FD (s:ar) (h:Heap) : ar:=⟨s.Words,h,s.aa⟩
def kI (s:ar) (cpu:Int) : Prop:=0≤cpu∧cpu<s.Heap.bt
inductive ib (s:ar) (cpu a:Int) : ar×Int→Prop where
 | bad (h:eD s=false) : ib s cpu a (.zero,8)
 | range (h:eD s=true) (hc : ¬ kI s cpu) : ib s cpu a (.zero,1)
 | obj {i:Nat} {u:ar×Int} (h:eD s=true) (hc:kI s cpu) (hi:i<s.aa.length) (ho:pT s a (some i)) (hp:kH s (pY s.aa[i]) cpu a u) : ib s cpu a u
 | no (h:eD s=true) (hc:kI s cpu) (ho:pT s a none) (hw:df s a=false) : ib s cpu a (.zero,4)
 | whole (h:eD s=true) (hc:kI s cpu) (ho:pT s a none) (hw:df s a=true) : ib s cpu a (FD s (fv s.Heap cpu (a / 16)).2,0)
theorem ib.mM {s:ar} {cpu a:Int} {u v:ar×Int} (x:ib s cpu a u) (y:ib s cpu a v) : u=v:=by
 cases x with
 | bad h=>cases y with
   | bad=>rfl
   | range h'|obj h'|no h'|whole h'=>rw [h] at h';cases h'
 | range h hc=>cases y with
   | bad h'=>rw [h] at h';cases h'
   | range=>rfl
   | obj _ rV|no _ rV|whole _ rV=>exact absurd rV hc
 | obj h hc hi ho hp=>cases y with
   | bad h'=>rw [h] at h';cases h'
   | range _ rV=>exact absurd hc rV
   | obj _ _ _ uc Iv=>cases ho.mM uc;exact hp.mM Iv
   | no _ _ uc|whole _ _ uc=>cases ho.mM uc
 | no h hc ho hw=>cases y with
   | bad h'=>rw [h] at h';cases h'
   | range _ rV=>exact absurd hc rV
   | obj _ _ _ uc=>cases ho.mM uc
   | no=>rfl
   | whole _ _ _ p6=>rw [hw] at p6;cases p6
 | whole h hc ho hw=>cases y with
   | bad h'=>rw [h] at h';cases h'
   | range _ rV=>exact absurd hc rV
   | obj _ _ _ uc=>cases ho.mM uc
   | no _ _ _ p6=>rw [hw] at p6;cases p6
   | whole=>rfl
theorem jV {s:ar} {a:Int} (h:df s a=true) : bc s.Heap.Live (a / 16)=true∧0≤a∧a % 16=0:=by
 unfold df at h;simp only [Bool.and_eq_true,decide_eq_true_eq] at h;exact ⟨h.2.2,h.1.1,h.1.2⟩
theorem rr {s:ar} {cpu a:Int} (hM:dB s) (hc:kI s cpu) (hw:df s a=true) : (fv s.Heap cpu (a / 16)).1=0:=by
 rw [ow (iu.2 hM.heap) hc (jV hw).1]
theorem ib.small {s:ar} {cpu a:Int} {u:ar×Int} (x:ib s cpu a u) (hf:s.iN) : u.1.small:=by
 have hs:=hf.small;cases x with
 | bad|range|no=>exact ar.jT
 | obj _ _ _ _ hp=>exact hp.small hf
 | whole=>exact ⟨hs.words,nO _ _ _ hs.heap,hs.bJ,hs.each⟩
theorem zd {s:ar} (hf:s.iN) {i:Nat} (hi:i<s.aa.length) : (pY s.aa[i]).size≤140737488351232:=by
 unfold pY;rcases Nat.eq_zero_or_pos s.aa[i].Names.length with h|h
 ·rw [List.length_eq_zero_iff.1 h];decide
 ·have:=hf.names _ (List.getElem_mem hi) _ (List.getElem_mem h)
  simpa [h] using this
open Go.RowKit
set_option maxHeartbeats 4000000 in
theorem ic (r:dF) (s:ar) (w:World) (hr:lg w r s) (hs:s.small) :
 a9 Tryz.prog 20 [.agg (aH r).toArray] w fun v w' => ∃ q zr,v = .agg (aH q).toArray∧SX w' w.heap.size q s zr∧SI w' w.heap.size q s zr:=by
 refine aC Tryz.func20 rfl Tryz.ntmps20 rfl ?_;refine CW.seq (CW.region (SW.box rfl rfl fun b1 w1 hw gI au => ?_));refine SW.alloc rfl fun b2 w2 cg ff ax => ?_
 have oT:w.heap.size≤b2:=Nat.le_trans hw.size ff
 have Bc:b2≠b1:=by have:=au.lt;omega
 (replace hw:=Ext.trans hw cg;replace au:=au.ext cg);obtain ⟨cs,hc⟩:=hr.bJ;have C5:=hr.words.len;have s1:=hs.words;have s3:=hs.bJ;obtain ⟨c1,c2⟩:=hc.len;refine Wz ?_
 obtain ⟨K,hK⟩ : ∃ K:Env→World→Prop,K=fun L' w' => ∃ X c1 G b3 m1 m2,gj L' [(1,.pointer (some ⟨b1,0,none⟩)),(2,.pointer (some ⟨b2,0,none⟩)),(3,.pointer (some ⟨b3,0,none⟩))]∧Ext w w'∧aU w' b1 44 (aH r)∧aU w' b2 44 (aH .zero) ∧
  aU w' b3 44 (aH ⟨⟨X,r.Words.n,c1⟩,G,.nil⟩)∧Own w' w.heap.size 3 1 bm X r.Words.n c1 s.Words∧eU w' m1 m2 G s.Heap∧(w.heap.size≤m1∧m1≤m2∧m2≤w'.heap.size ∧ ∀ g,aX X c1=some g→g<m1)∧w.heap.size≤b3∧b1≠b3∧b2≠b3:=⟨_,rfl⟩
 refine CW.cut K ?_ ?_
 ·refine CW.any 8 mixed (bZ (by kernel_rfl)) rfl fun w1 ab bd => ?_
  replace hw:=Ext.trans hw ab;replace au:=au.ext ab;replace ax:=ax.ext ab;clear ab;refine Wa ?_;refine SA.take 4 bd rfl (by kernel_rfl) (by kernel_rfl) rfl ?_;repeat ((show SW _ _ _ _ (⟨_,Op.load _ _,_,_,_,none⟩::_) _ _;refine SW.st (aS rfl rfl ((eK au))) rfl ?_))
  refine SW.aq ?_;refine SA.two 2 7 rfl rfl (by kernel_rfl) rfl rfl ?_ ?_
  ·refine SW.call rfl rfl (eH _ _ _ _ _ (hr.words.ext hw) (by omega)) fun v w4 ai hv => ?_
   obtain ⟨X,c4,rfl,hX⟩:=hv;replace hX:=hX.low hw.size;replace hw:=Ext.trans hw ai;replace au:=au.ext ai;replace ax:=ax.ext ai;try replace ap:=ap.ext ai
   refine SW.nil (ae.sa ai ?_);refine SA.two 5 7 rfl rfl (by kernel_rfl) rfl rfl ?_ ?_
   ·refine SW.call rfl rfl (iq _ _ _ (hr.heap.ext hw) hs.heap) fun v w4 ai hv => ?_
    obtain ⟨G,rfl,hY⟩:=hv;have ze:∃ m1 m2,w.heap.size≤m1∧m1≤m2∧m2≤w4.heap.size∧(∀ g,aX X c4=some g→g<m1)∧eU w4 m1 m2 G s.Heap:=⟨_,_,hw.size,ai.size,Nat.le_refl _,hX.lt_size,hY.kV⟩
    clear hY;obtain ⟨m1,m2,kC,jo,mJ,vi,hY⟩:=ze;replace hX:=hX.ext ai;replace hw:=Ext.trans hw ai;replace au:=au.ext ai;replace ax:=ax.ext ai;try replace ap:=ap.ext ai
    refine SW.nil (ae.sa ai ?_);refine Wa ?_;refine SA.one 7 rfl (by kernel_rfl) rfl ?_;refine SW.alloc rfl fun b3 w4 ai bM ap => ?_
    have bO:w.heap.size≤b3:=Nat.le_trans hw.size bM
    try replace mJ:=Nat.le_trans mJ ai.size
    have dD:b1≠b3:=by have:=au.lt;omega
    have dw:b2≠b3:=by have:=ax.lt;omega
    replace hw:=Ext.trans hw ai;replace au:=au.ext ai;replace ax:=ax.ext ai;try replace hX:=hX.ext ai
    try replace hY:=hY.ext ai
    refine SW.nil (ae.sa ai ?_);refine SA.done (by kernel_rfl) ?_;skip;refine SW.aj ap rfl rfl rfl rfl (cf ⟨⟨X,r.Words.n,c4⟩,G,.nil⟩) fun w5 bV hg => ?_
    have hG:=ap.gr hg;have su:=Nat.le_trans mJ hg.size;replace hw:=hw.own bO hg;(replace hX:=hX.aD hG rfl;replace hY:=hY.aD hG rfl);replace au:=au.grown hg (by simpa using dD);replace ax:=ax.grown hg (by simpa using dw);refine Wz ?_;exact ae.cut (K:=K) (by rw [hK];exact ⟨X,c4,G,b3,m1,m2,⟨rfl,rfl,rfl,trivial⟩,hw,au,ax,bV,hX,hY,⟨kC,jo,su,vi⟩,bO,dD,dw⟩)
   ·refine SW.alloc rfl fun b3 w4 ai bM ap => ?_
    have bO:w.heap.size≤b3:=Nat.le_trans hw.size bM
    try replace mJ:=Nat.le_trans mJ ai.size
    have dD:b1≠b3:=by have:=au.lt;omega
    have dw:b2≠b3:=by have:=ax.lt;omega
    replace hw:=Ext.trans hw ai;replace au:=au.ext ai;replace ax:=ax.ext ai;try replace hX:=hX.ext ai
    try replace hY:=hY.ext ai
    refine SW.nil (ae.sa ai ?_);refine SA.one 5 rfl (by kernel_rfl) rfl ?_;refine SW.call rfl rfl (iq _ _ _ (hr.heap.ext hw) hs.heap) fun v w4 ai hv => ?_
    obtain ⟨G,rfl,hY⟩:=hv;have ze:∃ m1 m2,w.heap.size≤m1∧m1≤m2∧m2≤w4.heap.size∧(∀ g,aX X c4=some g→g<m1)∧eU w4 m1 m2 G s.Heap:=⟨_,_,hw.size,ai.size,Nat.le_refl _,hX.lt_size,hY.kV⟩
    clear hY;obtain ⟨m1,m2,kC,jo,mJ,vi,hY⟩:=ze;replace hX:=hX.ext ai;replace hw:=Ext.trans hw ai;replace au:=au.ext ai;replace ax:=ax.ext ai;try replace ap:=ap.ext ai
    refine SW.nil (ae.sa ai ?_);refine Wa ?_;refine SA.done (by kernel_rfl) ?_;skip;refine SW.aj ap rfl rfl rfl rfl (cf ⟨⟨X,r.Words.n,c4⟩,G,.nil⟩) fun w5 bV hg => ?_
    have hG:=ap.gr hg;have su:=Nat.le_trans mJ hg.size;replace hw:=hw.own bO hg;(replace hX:=hX.aD hG rfl;replace hY:=hY.aD hG rfl);replace au:=au.grown hg (by simpa using dD);replace ax:=ax.grown hg (by simpa using dw);refine Wz ?_;exact ae.cut (K:=K) (by rw [hK];exact ⟨X,c4,G,b3,m1,m2,⟨rfl,rfl,rfl,trivial⟩,hw,au,ax,bV,hX,hY,⟨kC,jo,su,vi⟩,bO,dD,dw⟩)
  ·refine SW.alloc rfl fun b3 w4 ai bM ap => ?_
   have bO:w.heap.size≤b3:=Nat.le_trans hw.size bM
   try replace mJ:=Nat.le_trans mJ ai.size
   have dD:b1≠b3:=by have:=au.lt;omega
   have dw:b2≠b3:=by have:=ax.lt;omega
   replace hw:=Ext.trans hw ai;replace au:=au.ext ai;replace ax:=ax.ext ai;try replace hX:=hX.ext ai
   try replace hY:=hY.ext ai
   refine SW.nil (ae.sa ai ?_);refine SA.one 2 rfl (by kernel_rfl) rfl ?_;refine SW.call rfl rfl (eH _ _ _ _ _ (hr.words.ext hw) (by omega)) fun v w4 ai hv => ?_
   obtain ⟨X,c4,rfl,hX⟩:=hv;replace hX:=hX.low hw.size;replace hw:=Ext.trans hw ai;replace au:=au.ext ai;replace ax:=ax.ext ai;try replace ap:=ap.ext ai
   refine SW.nil (ae.sa ai ?_);refine SA.one 5 rfl (by kernel_rfl) rfl ?_;refine SW.call rfl rfl (iq _ _ _ (hr.heap.ext hw) hs.heap) fun v w4 ai hv => ?_
   obtain ⟨G,rfl,hY⟩:=hv;have ze:∃ m1 m2,w.heap.size≤m1∧m1≤m2∧m2≤w4.heap.size∧(∀ g,aX X c4=some g→g<m1)∧eU w4 m1 m2 G s.Heap:=⟨_,_,hw.size,ai.size,Nat.le_refl _,hX.lt_size,hY.kV⟩
   clear hY;obtain ⟨m1,m2,kC,jo,mJ,vi,hY⟩:=ze;replace hX:=hX.ext ai;replace hw:=Ext.trans hw ai;replace au:=au.ext ai;replace ax:=ax.ext ai;try replace ap:=ap.ext ai
   refine SW.nil (ae.sa ai ?_);refine Wa ?_;refine SA.done (by kernel_rfl) ?_;skip;refine SW.aj ap rfl rfl rfl rfl (cf ⟨⟨X,r.Words.n,c4⟩,G,.nil⟩) fun w5 bV hg => ?_
   have hG:=ap.gr hg;have su:=Nat.le_trans mJ hg.size;replace hw:=hw.own bO hg;(replace hX:=hX.aD hG rfl;replace hY:=hY.aD hG rfl);replace au:=au.grown hg (by simpa using dD);replace ax:=ax.grown hg (by simpa using dw);refine Wz ?_;exact ae.cut (K:=K) (by rw [hK];exact ⟨X,c4,G,b3,m1,m2,⟨rfl,rfl,rfl,trivial⟩,hw,au,ax,bV,hX,hY,⟨kC,jo,su,vi⟩,bO,dD,dw⟩)
 ·clear au ax hw;subst hK;rintro L' w' ⟨X,c4,G,b3,m1,m2,lC,hw,au,ax,ap,hX,hY,⟨kC,jo,su,vi⟩,bO,dD,dw⟩
  refine ae.sub lC ?_;refine Wz ?_
  refine CW.loop (fun s:Nat×Option Addr×Nat×List cr=>[(1,.pointer (some ⟨b1,0,none⟩)),(2,.pointer (some ⟨b2,0,none⟩)),(3,.pointer (some ⟨b3,0,none⟩)),(4,.int .i64 (s.1:Int))])
   (fun t w'=>t.1≤r.aa.n∧m2≤w'.heap.size∧Ext w w'∧aU w' b1 44 (aH r)∧aU w' b2 44 (aH .zero)∧aU w' b3 44 (aH ⟨⟨X,r.Words.n,c4⟩,G,⟨t.2.1,t.1,t.2.2.1⟩⟩)∧Own w' w.heap.size 3 1 bm X r.Words.n c4 s.Words∧eU w' m1 m2 G s.Heap ∧
     dt w' m2 ⟨t.2.1,t.1,t.2.2.1⟩ t.2.2.2 (s.aa.take t.1)∧sq ⟨X,r.Words.n,c4⟩ t.2.2.2) (fun t=>r.aa.n-t.1) (0,none,0,[]) ⟨rfl,rfl,rfl,rfl,trivial⟩ ⟨by omega,su,hw,au,ax,ap,hX,hY,dt.nil _ _,sq.nil _⟩ ?_
  clear au ax ap hX hY hw lC;rintro ⟨k,A,c,zr⟩ w' ⟨hk,su,hw,au,ax,ap,hX,hY,hO,rI⟩
  simp only at hk ap hO rI ⊢;have hA:=hc.row.base;by_cases cc:k<r.aa.n
  ·have Bp:k<cs.length:=by omega
   have kR:k<s.aa.length:=by omega
   have dm:=hc.each.get k Bp kR;have q:=hs.each _ (List.getElem_mem kR);have q1:=dm.names.len;have q2:=dm.aL.len;have q3:=dm.bh.len;have q4:=q.names;have q5:=q.aL;have q6:=q.bh;have vj:=hO.row.lt_size;repeat' (first|refine Wz ?_|refine SW.st (aA hw rfl rfl ((hc.row.all cc))) rfl ?_)
   refine SW.alloc rfl fun b5 w1 ab gm bY => ?_
   skip;refine SW.aj bY rfl rfl rfl rfl (nr _) fun w2 fg hg => ?_
   have ai:=ab.own gm hg;have mh:w.heap.size≤b5:=Nat.le_trans hw.size gm
   replace hw:=Ext.trans hw ai;replace au:=au.ext ai;replace ax:=ax.ext ai;replace ap:=ap.ext ai;replace hX:=hX.ext ai;replace hY:=hY.ext ai;replace hO:=hO.ext ai;replace bY:=fg;clear fg ab hg ai;have zf:m2≤b5:=Nat.le_trans su gm
   refine Wz ?_;have GN:Ext w w2:=hw
   refine CW.loop (fun t:Nat×Option Addr×Nat=>[(1,.pointer (some ⟨b1,0,none⟩)),(2,.pointer (some ⟨b2,0,none⟩)),(3,.pointer (some ⟨b3,0,none⟩)),(4,.int .i64 (k:Int)),(5,.pointer (some ⟨b5,0,none⟩)),(6,.slice t.2.1 t.1 t.2.2),(7,.int .i64 (t.1:Int))])
    (fun t w'=>t.1≤cs[k].Names.n∧Ext w2 w'∧Own w' w2.heap.size 9 1 encStr t.2.1 t.1 t.2.2 (s.aa[k].Names.take t.1)) (fun t=>cs[k].Names.n-t.1) (0,none,0) ⟨rfl,rfl,rfl,rfl,rfl,rfl,rfl,trivial⟩ ⟨by omega,Ext.refl _,by simpa using Own.er _ _ _ _ _ _⟩ ?_
   clear hw;rintro ⟨j,B,d⟩ w3 ⟨hj,hw,hB⟩
   simp only at hj hB ⊢;have yu:=dm.names.base;by_cases fF:j<cs[k].Names.n
   ·repeat' (first|refine Wz ?_|refine SW.st (ag hw rfl (bY.cell (i:=0) (v := .slice cs[k].Names.A cs[k].Names.n cs[k].Names.c) rfl)) rfl ?_|refine SW.st (ag hw rfl ((dm.names.ext GN).one fF rfl)) rfl ?_)
    refine SW.bW rfl rfl rfl rfl rfl fun b w1 ab hb Ad => ?_
    replace hw:=Ext.trans hw ab;replace hB:=hB.ext ab;refine SW.append hB (aU.kf (enc:=encStr) Ad) hw.size rfl rfl rfl (by omega) (by omega) fun A2 c2 w4 e8 hg => ?_
    replace hw:=aK hw hg (Nat.le_refl _) hB.aN;refine Wz ?_;refine ae.again (j+1,A2,c2) ⟨rfl,rfl,rfl,rfl,rfl,rfl,rfl,trivial⟩ (by simp only;omega) ⟨by simp only;omega,hw,?_⟩;rw [List.take_succ_eq_append_getElem (by omega)];exact e8
   ·obtain rfl:j=cs[k].Names.n:=by omega
    rw [List.take_of_length_le (by omega)] at hB;repeat' (first|refine Wz ?_|refine SW.st (ag hw rfl (bY.cell (i:=0) (v := .slice cs[k].Names.A cs[k].Names.n cs[k].Names.c) rfl)) rfl ?_)
    have sv:=hw;have Ak:=hO.Gx (b:=⟨B,cs[k].Names.n,d⟩) hB.aN;replace hB:=hB.low (Nat.le_trans zf (Nat.le_of_lt bY.lt));replace hw:=GN;(replace hw:=Ext.trans hw sv;replace au:=au.ext sv;replace ax:=ax.ext sv;replace ap:=ap.ext sv;replace bY:=bY.ext sv;replace hX:=hX.ext sv;replace hY:=hY.ext sv;replace hO:=hO.ext sv);have vP:Ext w w3:=hw
    refine CW.loop (fun t:Nat×Option Addr×Nat=>[(1,.pointer (some ⟨b1,0,none⟩)),(2,.pointer (some ⟨b2,0,none⟩)),(3,.pointer (some ⟨b3,0,none⟩)),(4,.int .i64 (k:Int)),(5,.pointer (some ⟨b5,0,none⟩)),(6,.slice B cs[k].Names.n d),(8,.slice t.2.1 t.1 t.2.2),(9,.int .i64 (t.1:Int))])
     (fun t w'=>t.1≤cs[k].ah.n∧Ext w3 w'∧Own w' w3.heap.size 91 3 bB t.2.1 t.1 t.2.2 (s.aa[k].ah.take t.1)) (fun t=>cs[k].ah.n-t.1) (0,none,0) ⟨rfl,rfl,rfl,rfl,rfl,rfl,rfl,rfl,trivial⟩ ⟨by omega,Ext.refl _,by simpa using Own.er _ _ _ _ _ _⟩ ?_
    clear hw sv;rintro ⟨j,M,m⟩ w4 ⟨hj,hw,hM⟩
    simp only at hj hM ⊢;have Er:=dm.aL.base;by_cases fF:j<cs[k].ah.n
    ·repeat' (first|refine Wz ?_|refine SW.st (ag hw rfl (bY.cell (i:=4) (v := .slice cs[k].ah.A cs[k].ah.n cs[k].ah.c) rfl)) rfl ?_|refine SW.st (aA hw rfl rfl (((dm.aL.ext vP).all fF))) rfl ?_)
     refine SW.bW rfl rfl rfl rfl rfl fun b w1 ab hb Ad => ?_
     replace hw:=Ext.trans hw ab;replace hM:=hM.ext ab;refine SW.append hM (aU.kf (enc:=bB) Ad) hw.size rfl rfl rfl (by omega) (by omega) fun A2 c2 w5 e8 hg => ?_
     replace hw:=aK hw hg (Nat.le_refl _) hM.aN;refine Wz ?_;refine ae.again (j+1,A2,c2) ⟨rfl,rfl,rfl,rfl,rfl,rfl,rfl,rfl,trivial⟩ (by simp only;omega) ⟨by simp only;omega,hw,?_⟩;rw [List.take_succ_eq_append_getElem (by omega)];exact e8
    ·obtain rfl:j=cs[k].ah.n:=by omega
     rw [List.take_of_length_le (by omega)] at hM;repeat' (first|refine Wz ?_|refine SW.st (ag hw rfl (bY.cell (i:=4) (v := .slice cs[k].ah.A cs[k].ah.n cs[k].ah.c) rfl)) rfl ?_)
     have sv:=hw;have FE:=hO.Gy (b:=⟨M,cs[k].ah.n,m⟩) hM.aN;replace hM:=hM.low (Nat.le_trans zf (Nat.le_of_lt bY.lt));replace hw:=vP;(replace hw:=Ext.trans hw sv;replace au:=au.ext sv;replace ax:=ax.ext sv;replace ap:=ap.ext sv;replace bY:=bY.ext sv;replace hX:=hX.ext sv;replace hY:=hY.ext sv;replace hO:=hO.ext sv;replace hB:=hB.ext sv);refine SW.bT (i:=0) bY rfl rfl rfl rfl fun w6 fg hg => ?_
     have hG:=bY.gr hg;replace hw:=hw.own mh hg;replace hO:=hO.gd bY hg vj gm;(replace au:=au.aD hG rfl;replace ax:=ax.aD hG rfl;replace ap:=ap.aD hG rfl;replace hX:=hX.aD hG rfl;replace hY:=hY.aD hG rfl;replace hB:=hB.aD hG rfl;replace hM:=hM.aD hG rfl);replace bY:=fg;clear fg hg hG;refine Wz ?_;refine SW.bT (i:=4) bY rfl rfl rfl rfl fun w6 fg hg => ?_
     have hG:=bY.gr hg;replace hw:=hw.own mh hg;replace hO:=hO.gd bY hg vj gm;(replace au:=au.aD hG rfl;replace ax:=ax.aD hG rfl;replace ap:=ap.aD hG rfl;replace hX:=hX.aD hG rfl;replace hY:=hY.aD hG rfl;replace hB:=hB.aD hG rfl;replace hM:=hM.aD hG rfl);replace bY:=fg;clear fg hg hG;refine Wz ?_;refine SW.call rfl rfl (eH _ _ _ _ _ (dm.bh.ext hw) (by omega)) fun v w7 ai hv => ?_
     obtain ⟨Q,q7,rfl,hQ⟩:=hv;have pp:=hO.Gz (b:=⟨Q,cs[k].aG.n,q7⟩) hQ.aN;have zM:=iz (a:=⟨X,r.Words.n,c4⟩) (b:=⟨Q,cs[k].aG.n,q7⟩) hX hQ.aN;replace hQ:=hQ.low (Nat.le_trans zf (Nat.le_of_lt bY.lt));(replace hw:=Ext.trans hw ai;replace au:=au.ext ai;replace ax:=ax.ext ai;replace ap:=ap.ext ai;replace bY:=bY.ext ai;replace hX:=hX.ext ai;replace hY:=hY.ext ai;replace hO:=hO.ext ai;replace hB:=hB.ext ai;replace hM:=hM.ext ai);refine Wz ?_;refine SW.bT (i:=5) bY rfl rfl rfl rfl fun w6 fg hg => ?_
     have hG:=bY.gr hg;replace hw:=hw.own mh hg;replace hO:=hO.gd bY hg vj gm;(replace au:=au.aD hG rfl;replace ax:=ax.aD hG rfl;replace ap:=ap.aD hG rfl;replace hX:=hX.aD hG rfl;replace hY:=hY.aD hG rfl;replace hB:=hB.aD hG rfl;replace hM:=hM.aD hG rfl;replace hQ:=hQ.aD hG rfl);replace bY:=fg;clear fg hg hG;refine Wz ?_;refine SW.bW rfl rfl rfl rfl rfl fun b w6 ai hb Ad => ?_
     (replace hw:=Ext.trans hw ai;replace au:=au.ext ai;replace ax:=ax.ext ai;replace ap:=ap.ext ai;replace hX:=hX.ext ai;replace hY:=hY.ext ai;replace hO:=hO.ext ai;replace hB:=hB.ext ai;replace hM:=hM.ext ai;replace hQ:=hQ.ext ai);refine SW.append hO.row (aU.kf (enc:=bR) (x:=⟨⟨B,_,d⟩,cs[k].bp,cs[k].dE,cs[k].Order,⟨M,_,m⟩,⟨Q,_,q7⟩⟩) Ad) (Nat.le_trans zf (Nat.le_trans (Nat.le_of_lt bY.lt) ai.size)) rfl rfl rfl (by simp only;omega) (by simp only;omega) fun A2 c2 w5 e8 hg => ?_
     have hG:=hO.row.gr hg;have Du:=Nat.le_trans (Nat.le_trans zf (Nat.le_trans (Nat.le_of_lt bY.lt) ai.size)) hg.size;replace hw:=aK hw hg (Nat.le_trans kC jo) hO.row.aN;(replace au:=au.aD hG rfl;replace ax:=ax.aD hG rfl;replace ap:=ap.aD hG rfl;replace hX:=hX.aD hG rfl;replace hY:=hY.aD hG rfl;replace hB:=hB.aD hG rfl;replace hM:=hM.aD hG rfl;replace hQ:=hQ.aD hG rfl);have hE:=hO.each.mono fun _ _ h=>h.aD hG rfl
     refine Wz ?_;refine SW.bT (i:=6) ap rfl rfl rfl rfl fun w6 de hg => ?_
     have hG:=ap.gr hg;replace hw:=hw.own bO hg;replace au:=au.grown hg (by simpa using dD);replace ax:=ax.grown hg (by simpa using dw);(replace hX:=hX.aD hG rfl;replace hY:=hY.aD hG rfl;replace hB:=hB.aD hG rfl;replace hM:=hM.aD hG rfl;replace hQ:=hQ.aD hG rfl;replace e8:=e8.aD hG rfl);replace hE:=hE.mono fun _ _ h=>h.aD hG rfl
     refine Wz ?_;refine ae.again (k+1,A2,c2,zr++[⟨⟨B,_,d⟩,cs[k].bp,cs[k].dE,cs[k].Order,⟨M,_,m⟩,⟨Q,_,q7⟩⟩]) ⟨rfl,rfl,rfl,rfl,trivial⟩ (by simp only;omega) ⟨by simp only;omega,Nat.le_trans Du hg.size,hw,au,ax,de,hX,hY,⟨e8,?_⟩,rI.snoc (fun u hu=>⟨Ak u hu,FE u hu,pp u hu⟩) zM⟩;rw [List.take_succ_eq_append_getElem (by omega)];exact hE.snoc ⟨dm.size,dm.iM,dm.order,hB,hM,hQ⟩
  ·obtain rfl:k=r.aa.n:=by omega
   rw [List.take_of_length_le (by omega)] at hO;refine Wz ?_;refine SW.aj ax rfl rfl rfl rfl (cf _) fun w5 bV hg => ?_
   have hG:=ax.gr hg;replace hw:=hw.own oT hg;(replace hX:=hX.aD hG rfl;replace hY:=hY.aD hG rfl;replace hO:=hO.aD hG rfl);refine Wz ?_;exact ae.jY rfl rfl bV rfl ⟨_,rfl,hw,⟨_,G,_⟩,zr,rfl,⟨hX,hY.own.low kC,hO.row.low (Nat.le_trans kC jo),hO.each.mono fun _ _ h=>h.low (Nat.le_trans kC jo),rI.pair⟩,⟨m1,m2,kC,jo,vi,hY,hO.each⟩⟩
open Go.RowKit
set_option maxHeartbeats 4000000 in
theorem pZ (A:Option Addr) (n c lo:Nat) (l:List Slab) (w:World) (hO:Own w lo 91 3 bB A n c l) (i:Nat) (hi:i<n) (hn:n≤1000000000000000000) (gh:lo≤w.heap.size) :
 kt Tryz.prog 189 [.slice A n c,.int .i64 (i:Int),.int .i64 ((i+1:Nat) : Int)] w fun v w'=>v = .slice A (n-1) c∧Own w' lo 91 3 bB A (n-1) c (l.eraseIdx i)∧w.grownBy w' (aX A c):=by
 refine fy Tryz.func189 rfl Tryz.ntmps189 rfl ?_;have hle:=hO.le;have lz:=hO.len;have hA:=hO.sl.base;have wj:w.grownBy w (aX A c):=World.grownBy.refl _ _
 repeat' (first|refine Wz ?_|(refine SW.st (qT (i:=i) (j:=i+1) (k:=n) rfl rfl rfl rfl (by omega) (by omega) (by omega)) rfl ?_))
 all_goals try omega
 have hw:=Ext.refl w;have e0:i+(n-(i+1))=n-1:=by omega
 have el:l.take i++l.drop (i+1)=l.eraseIdx i:=by rw [List.eraseIdx_eq_take_drop_succ]
 refine CW.any 6 mixed (bZ (by kernel_rfl)) rfl fun w1 ab bd => ?_
 replace hw:=Ext.trans hw ab;replace hO:=hO.ext ab;clear ab;refine Wa ?_;refine SA.take 2 bd rfl (by kernel_rfl) (by kernel_rfl) rfl ?_;repeat ((refine SW.st (db (k:=i) rfl rfl (by omega)) rfl ?_))
 refine SW.aq ?_;refine Wa ?_;refine SA.take 5 bd rfl (by kernel_rfl) (by kernel_rfl) rfl ?_;repeat ((refine SW.st (bo (k:=i+1) rfl rfl (by omega) (by omega)) rfl ?_))
 refine SW.aq ?_;refine SA.done (by kernel_rfl) ?_;refine SW.tf (hO.pre (i:=i) (by omega)) (hO.sl.drop (i+1) c (by omega) (by omega)) (by omega) rfl rfl rfl fun w2 nu hg => ?_
 rw [e0,el] at nu;rw [e0];have Br:=(hw.gr (aX A c));repeat' (first|refine Wz ?_|(refine SW.st (ph (i:=n-1) (j:=n) rfl rfl rfl (by omega) (by omega)) rfl ?_))
 obtain ⟨g,rest,rfl,h1,h2,h3,h4,h5,h6⟩:=nu.opened (by omega);have nS:((l.eraseIdx i).flatMap bB).length=(n-1)*3:=by rw [aO,nu.len]
 refine SW.clear ((n-1)*3) h2 rfl (by rw [List.length_append,nS];omega) (fun h0 => ?_) (by decide) fun w3 cs fK hB qd => ?_
 ·rw [if_neg (by omega)];simp [c7]
 ·have e7:=fw ((l.eraseIdx i).flatMap bB) (rest.take ((n-(n-1))*3)) (rest.drop ((n-(n-1))*3)) cs (by rw [fK];simp;omega) (o:=(n-1)*3) nS.symm;rw [List.append_assoc (List.flatMap _ _),List.take_append_drop] at e7;rw [e7,List.append_assoc] at hB;have Cl:=Own.closed (l:=l.eraseIdx i) nu.len hB (by rw [List.length_append,fK];simp;omega) h4 (by omega) h5 h1;rw [← h6] at qd;have nv:=bi (bi Br hg (.inl rfl)) qd (.inl rfl);refine Wz ?_;exact ae.aF rfl rfl ⟨_,rfl,rfl,Cl,nv⟩
end Go.Proofs.YtbidkghlpijecaaGreatDoor
