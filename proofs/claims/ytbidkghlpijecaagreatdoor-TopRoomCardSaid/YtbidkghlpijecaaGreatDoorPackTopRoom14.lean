/-
  Texts of the claim TopRoom, part 14: what its theorem leans on.
-/
import Derived.Test.YtbidkghlpijecaaGreatDoorPackTopRoom12
import Derived.Test.YtbidkghlpijecaaGreatDoorPackTopRoom11
import Derived.Test.YtbidkghlpijecaaGreatDoorPackTopRoom9
import Derived.Test.YtbidkghlpijecaaGreatDoorPackTopRoom13
import Derived.Test.YtbidkghlpijecaaGreatDoorPackTopRoom2
import Derived.Test.YtbidkghlpijecaaGreatDoorPackTopRoom10
import Derived.Test.YtbidkghlpijecaaGreatDoorPackTopRoom8
import Derived.Test.YtbidkghlpijecaaGreatDoorPackTopRoom6
import Derived.Test.YtbidkghlpijecaaGreatDoorPackTopRoom5
import Derived.Test.YtbidkghlpijecaaGreatDoorPackTopRoom3
set_option linter.unusedVariables false
set_option linter.unusedSimpArgs false
namespace Go.Proofs.YtbidkghlpijecaaGreatDoor
open Go.RowKit
theorem Em {z:ab} {a:Int} (h:aU z) (h1:z.aw≤a) (h2:a<z.To) : nX z a=(oZ z a,0):=by
 simp only [nX,iJ h,if_true,if_pos (And.intro h1 h2)];rfl
set_option maxHeartbeats 8000000 in
theorem En (r:gb) (h:Heap) (cpu a:Int) (w:World) (hr:AM w r h) (hs:h.small) (Fg:∀ z∈h.aL,kM z) (ha : -9223372036854775808≤a∧a≤9223372036854775807) :
 bl Tryz.prog 46 [.agg (bW r).toArray,.int .i64 cpu,.int .i64 a] w (gE w.heap.size (iW h cpu a)):=by
 refine aD Tryz.func46 rfl Tryz.ntmps46 rfl ?_;refine CW.seq (CW.region (SW.box rfl rfl fun b3 w1 hw bL aq => ?_));have cJ:=bL;refine SW.alloc rfl fun b6 w2 bo fk az => ?_
 have dU:w.heap.size≤b6:=Nat.le_trans hw.size fk
 have jF:b3≠b6:=by have:=aq.lt;omega
 (replace hw:=Ext.trans hw bo;replace aq:=aq.ext bo);have eC:=hr.cpus;obtain ⟨q,hq⟩ : ∃ q,fa h=q:=⟨_,rfl⟩
 have c1:∀ w',Ext w w'→bl Tryz.prog 88 [.agg (bW r).toArray] w' fun v _=>v = .int .i64 (if q then 0 else 8):=fun w' hx=>by
  have:=lE r h w' (hr.ext hx) hs Fg
  rwa [hq] at this
 cases q
 ·simp only [Bool.false_eq_true,if_false] at c1;rw [AY hq];repeat' (first|refine Wz ?_|(refine SW.call rfl rfl (c1 _ hw) ?_;intro v w1 aa hv;subst hv;replace hw:=Ext.trans hw aa;replace aq:=aq.ext aa;replace az:=az.ext aa;clear aa))
  refine SW.ah az rfl rfl rfl rfl (dt .zero) fun w5 ct hg => ?_
  replace hw:=hw.own dU hg;refine Wz ?_;exact ae.cA rfl rfl rfl ct rfl ⟨_,rfl,hw,gE.zero 8 _ _⟩
 ·simp only [if_true] at c1;have hm:=bH.1 hq;obtain ⟨z0,z1,f⟩:=dm hm;by_cases hc : 0≤cpu∧cpu<h.bt
  ·repeat' (first|refine Wz ?_|(refine SW.call rfl rfl (c1 _ hw) ?_;intro v w1 aa hv;subst hv;replace hw:=Ext.trans hw aa;replace aq:=aq.ext aa;replace az:=az.ext aa;clear aa))
   all_goals try omega
   clear c1;have Jc:=hr.live.len;have s2:=hs.live;have dg:=im f.live;refine SW.call rfl rfl (BY r h.Live a _ (hr.live.ext hw) dg (fun b hb=>by obtain ⟨k,hk,rfl⟩:=List.getElem_of_mem hb;exact (f.live.each k hk).2.1) (by omega) ha) fun v w4 dz hv => ?_
   (replace hw:=Ext.trans hw dz;replace aq:=aq.ext dz;replace az:=az.ext dz);cases hf:bf h.Live a
   ·rw [AZ hq hc hf];obtain ⟨i,rfl⟩:=hv.2 hf;repeat' (first|refine Wz ?_|(refine CW.eX rfl ?_))
    refine SW.ah az rfl rfl rfl rfl (dt .zero) fun w5 ct hg => ?_
    replace hw:=hw.own dU hg;refine Wz ?_;exact ae.cA rfl rfl rfl ct rfl ⟨_,rfl,hw,gE.zero 4 _ _⟩
   ·rw [o6 hq hc hf];have hv:=hv.1 hf;subst hv;obtain ⟨hk,G3⟩:=jM hf;obtain ⟨k,ek⟩ : ∃ k,aZ h.Live a=k:=⟨_,rfl⟩;simp only [ek] at hk G3 ⊢;have DL:=f.live.each k hk;have Ok:=f.next hk;repeat' (first|refine Wz ?_|(refine CW.eY rfl ?_))
    refine SW.call rfl rfl (oe r h _ (hr.ext hw) hs) fun v w4 dz hv => ?_
    obtain ⟨s,rfl,hO⟩:=hv;have hM:=hO.own.cT.low hw.size;have hV:=hO.own.live.low hw.size;have Eo:=hO.own.cpus;obtain ⟨g,c,u0,u1,ls,eZ,hZ,hL,rc,Ff⟩:=hO.split f.d.bz;have hZ:dM w4 w.heap.size g c u0 u1 (z0,z1):=⟨hZ.row.low hw.size,hZ.z0.low hw.size,hZ.z1.low hw.size,Nat.le_trans hw.size hZ.A7,hZ.pos⟩
    replace hL:=hL.low hw.size;clear hO;(replace hw:=Ext.trans hw dz;replace aq:=aq.ext dz;replace az:=az.ext dz);obtain ⟨sz,m,cp,li,lv⟩:=s;simp only at eZ hM hV hL rc Ff Eo;subst eZ;refine SW.ah aq rfl rfl rfl rfl (dt ⟨⟨some ⟨g,0,none⟩,2,c⟩,m,cp,li,lv⟩) fun w5 cS hg => ?_
    have hG:=aq.gr hg;replace hw:=hw.own cJ hg;replace az:=az.grown hg (by simpa using Ne.symm jF);(replace hZ:=hZ.au hG rfl;replace hM:=hM.au hG rfl;replace hV:=hV.au hG rfl;replace hL:=hL.au hG rfl);replace aq:=cS;clear cS hg hG;have RO:=hV.len;have ey:k<lv.n:=by omega
    have PJ:=hV.sl.base;repeat' (first|refine Wz ?_|refine SW.st (ay rfl rfl ((hV.sl.all ey))) rfl ?_)
    have Km:=hV.lt_size;refine SW.alloc rfl fun HQ w1 aa ya ij => ?_
    skip;refine SW.ah ij rfl rfl rfl rfl (fu.one (enc:=aA) _) fun w2 qH hg => ?_
    have ao:=aa.own ya hg;have Kn:w.heap.size≤HQ:=Nat.le_trans hw.size ya
    replace hw:=Ext.trans hw ao;replace aq:=aq.ext ao;replace az:=az.ext ao;replace hZ:=hZ.ext ao;replace hM:=hM.ext ao;replace hV:=hV.ext ao;replace hL:=hL.ext ao;replace ij:=qH;clear qH aa hg ao;have G4:aG lv.A lv.c≠some HQ:=fun e=>by have:=Km _ e;omega
    refine Wz ?_;refine SW.dy rfl rfl (jf lv.A lv.n lv.c w.heap.size h.Live _ hV k ey (by omega) hw.size) fun v w6 hv => ?_
    obtain ⟨rfl,wv,hg⟩:=hv;have hG:=hV.gr hg;replace hw:=aJ hw hg (Nat.le_refl _) hV.ba;replace hZ:=hZ.zL Ff hg hG;replace ij:=ij.grown hg (fun e=>G4 e.symm);(replace aq:=aq.au hG rfl;replace az:=az.au hG rfl;replace hM:=hM.au hG rfl;replace hL:=hL.au hG rfl);replace hV:=wv;clear wv hg hG;refine Wz ?_;refine SW.bp (i:=4) aq rfl rfl rfl rfl fun w7 cS hg => ?_
    have hG:=aq.gr hg;replace hw:=hw.own cJ hg;replace az:=az.grown hg (by simpa using Ne.symm jF);(replace hZ:=hZ.au hG rfl;replace hM:=hM.au hG rfl;replace hV:=hV.au hG rfl;replace hL:=hL.au hG rfl;replace ij:=ij.au hG rfl);replace aq:aT w7 b3 41 (bW ⟨⟨some ⟨g,0,none⟩,2,c⟩,m,cp,li,⟨lv.A,lv.n-1,lv.c⟩⟩):=cS;clear cS hg hG G4 Km;have qY:b6≠g:=fun e=>hZ.row.cu az rfl (by rw [hZ.own,e])
    have oz:b3≠g:=fun e=>hZ.row.cu aq rfl (by rw [hZ.own,e])
    by_cases ho : 0<h.Live[k].Order
    ·rw [jO f.d.bz hk ek ho];refine Wz ?_;refine SW.dy rfl rfl (qf m cp li ⟨lv.A,lv.n-1,lv.c⟩ u0 u1 _ _ h.Live[k] w.heap.size g c b3 _ aq hZ hw.size f.d.start Ok) fun v w8 hv => ?_
     obtain ⟨hg,u2,u3,yX⟩:=hv;have hG:=hZ.gr hg;replace hw:=hw.own hZ.A7 hg;(replace aq:=aq.au hG rfl;replace az:=az.au hG rfl;replace hM:=hM.au hG rfl;replace hV:=hV.au hG rfl;replace hL:=hL.au hG rfl);clear hZ hg hG ij;refine Wz ?_;refine SW.ah az rfl rfl rfl rfl (dt ⟨⟨some ⟨g,0,none⟩,2,c⟩,m,cp,li,⟨lv.A,lv.n-1,lv.c⟩⟩) fun w9 ct hg => ?_
     have hG:=az.gr hg;replace hw:=hw.own dU hg;replace yX:=yX.au hG rfl;(replace hM:=hM.au hG rfl;replace hV:=hV.au hG rfl;replace hL:=hL.au hG rfl);refine Wz ?_;exact ae.cA rfl rfl rfl ct rfl ⟨_,rfl,hw,⟨⟨some ⟨g,0,none⟩,2,c⟩,m,cp,li,⟨lv.A,lv.n-1,lv.c⟩⟩,rfl,⟨Eo,hM,hV,⟨[u2,u3],⟨yX.row,dV.two yX.z0 yX.z1⟩⟩,⟨ls,hL⟩⟩⟩
    ·rw [jP f.d.bz hk ek ho];have Ga:h.Live[k].Order=0:=by have:=DL.1.1;omega
     have Ol:=Ok.at_;rw [G3] at Ol;have PF:u0.To=z0.To:=hZ.z0.jA
     have RP:=f.d.v9;have Mi:=f.d.AW
     have y4:∃ (zi:Nat) (ui:bU) (zz:ab),∃ k0:zi<2,[u0,u1][zi]'k0=ui∧(if a<u0.To then (0:Int) else 1)=(zi:Int)∧dT w7 w.heap.size ui zz∧aU zz∧(zz.aw≤a∧a<zz.To)∧keyOf z0 z1 cpu a=⟨cpu,(zi:Int),oZ zz a,[]⟩:=by
      by_cases hx:a<z0.To
      ·exact ⟨0,u0,z0,by omega,rfl,by rw [if_pos (by omega)];rfl,hZ.z0,f.d.gZ,⟨by have:=f.d.kc;omega,hx⟩,by unfold keyOf;rw [if_pos hx,if_pos hx];rfl⟩
      ·exact ⟨1,u1,z1,by omega,rfl,by rw [if_neg (by omega)];rfl,hZ.z1,f.d.gL,⟨by omega,by omega⟩,by unfold keyOf;rw [if_neg hx,if_neg hx];rfl⟩
     obtain ⟨zi,ui,zz,k0,PX,kf,wQ,Iq,⟨uE,PY⟩,oq⟩:=y4
     have cz:∀ w',Sl w' 4 bG (some ⟨g,0,none⟩) 2 [u0,u1]→bl Tryz.prog 110 [.agg (bW ⟨⟨some ⟨g,0,none⟩,2,c⟩,m,cp,li,⟨lv.A,lv.n-1,lv.c⟩⟩).toArray,.int .i64 a] w' fun v _=>v = .int .i64 (zi:Int):=fun w' h=>by
      have:=qe ⟨⟨some ⟨g,0,none⟩,2,c⟩,m,cp,li,⟨lv.A,lv.n-1,lv.c⟩⟩ u0 u1 a w' h
      rwa [kf] at this
     have PZ:=hZ.row.sl.base;obtain ⟨t,ht⟩ : ∃ t,oZ zz a=t:=⟨_,rfl⟩;obtain ⟨q1,q2,q3,q4⟩:=nv wQ Iq;repeat' (first|refine Wz ?_|(refine SW.call rfl rfl (cz _ hZ.row.sl) ?_;intro v w1 aa hv;subst hv;replace hw:=Ext.trans hw aa;replace aq:=aq.ext aa;replace az:=az.ext aa;replace ij:=ij.ext aa;replace hZ:=hZ.ext aa;replace hM:=hM.ext aa;replace hV:=hV.ext aa;replace hL:=hL.ext aa;replace wQ:=wQ.ext aa;clear aa))
     have fz:=hZ.row.sl.all k0;simp only [PX] at fz;repeat' (first|refine Wz ?_|refine SW.st (ay rfl rfl fz) rfl ?_)
     refine SW.call rfl rfl (Ip.zV ui zz a _ wQ.rd (by omega) (by omega) ⟨by omega,by omega⟩ ⟨by omega,by omega⟩) fun v w8 Ir hv => ?_
     rw [Em Iq uE PY,ht] at hv;simp only at hv;subst hv;(replace hw:=Ext.trans hw Ir;replace aq:=aq.ext Ir;replace az:=az.ext Ir;replace hZ:=hZ.ext Ir;replace hM:=hM.ext Ir;replace hV:=hV.ext Ir;replace hL:=hL.ext Ir);clear wQ ij fz cz;refine Wz ?_;have Ko:=hL.row.lt_size;have MS:=aq.lt;have MT:=az.lt;refine SW.alloc rfl fun uN w1 aa yb bJ => ?_
     skip;refine SW.ah bJ rfl rfl rfl rfl (DJ ⟨cpu,zi,t,.nil⟩) fun w2 ka hg => ?_
     have ao:=aa.own yb hg;have Kp:w.heap.size≤uN:=Nat.le_trans hw.size yb
     replace hw:=Ext.trans hw ao;replace aq:=aq.ext ao;replace az:=az.ext ao;replace hZ:=hZ.ext ao;replace hM:=hM.ext ao;replace hV:=hV.ext ao;replace hL:=hL.ext ao;replace bJ:=ka;clear ka aa hg ao;refine Wz ?_;replace az:aT w2 b6 41 (bW .zero):=az;have Om:∀ l∈h.aj,l.an.length≤1000:=fun l hl=>by have:=(f.lists l hl).2;omega
     obtain ⟨F,hF⟩ : ∃ F:World→Prop,F=fun v=>aT v b6 41 (bW .zero)∧aT v uN 142 (bi ⟨cpu,zi,t,.nil⟩)∧dM v w.heap.size g c u0 u1 (z0,z1)∧Own v w.heap.size 3 1 bB m.A m.n m.c h.bT∧Own v w.heap.size 165 3 aA lv.A (lv.n-1) lv.c (h.Live.eraseIdx k):=⟨_,rfl⟩
     have P1:=az.lt;have MU:=bJ.lt;have On:aG li.A li.c≠some b6:=hL.row.cu az rfl
     have mW:F3 F w2:=by
      rw [hF];exact ⟨⟨az,bJ,hZ,hM,hV⟩,fun v v' hx hP=>⟨hP.1.ext hx,hP.2.1.ext hx,hP.2.2.1.ext hx,hP.2.2.2.1.ext hx,hP.2.2.2.2.ext hx⟩⟩
     have Fm:∀ (v v':World) (row:Option Nat),v.grownBy v' row→(∀ k,row=some k→k=b3∨aG li.A li.c=some k∨w2.heap.size≤k)→F v→F v':=fun v v' row hg rM hP=>by
      rw [hF] at hP ⊢;refine ⟨hP.1.grown hg (fun e => ?_),hP.2.1.grown hg (fun e => ?_),hP.2.2.1.parts hg ((hZ.row.pb hL aq rfl rfl).ne rM) ((hZ.z0.free.pb hL aq rfl rfl).ne rM) ((hZ.z0.types.pb hL aq rfl rfl).ne rM) ((hZ.z1.free.pb hL aq rfl rfl).ne rM) ((hZ.z1.types.pb hL aq rfl rfl).ne rM),hP.2.2.2.1.apart hg ((hM.pb hL aq rfl rfl).ne rM),hP.2.2.2.2.apart hg ((hV.pb hL aq rfl rfl).ne rM)⟩
      ·rcases rM b6 e.symm with h|h|h
       ·exact jF h.symm
       ·exact On h
       ·omega
      ·rcases rM uN e.symm with h|h|h
       ·omega
       ·have:=Ko _ h;omega
       ·omega
     have Ji:∀ (i:Nat) (hi:i<ls.length) (v v':World),v.grownBy v' (aG ls[i].an.A ls[i].an.c)→F v→F v':=fun i hi v v' hg hP=>by
      rw [hF] at hP ⊢;have Ep:=(hL.each.get i hi (by rw [← hL.each.len];exact hi)).cb;exact ⟨hP.1.grown hg (fun e=>Ep.cu az rfl e.symm),hP.2.1.grown hg (fun e=>Ep.cu bJ rfl e.symm),hP.2.2.1.parts hg (hZ.row.kh Ep rfl) (hZ.z0.free.kh Ep rfl) (fun k e e2=>rc.types i hi k e2 u0 (by simp) e) (hZ.z1.free.kh Ep rfl) (fun k e e2=>rc.types i hi k e2 u1 (by simp) e),hP.2.2.2.1.apart hg (fun k e e2=>rc.cT i hi k e2 e),hP.2.2.2.2.apart hg (hV.kh Ep rfl)⟩
     obtain ⟨x,hx⟩ : ∃ x:ap,x=⟨cpu,zi,t,[]⟩:=⟨_,rfl⟩;have Kq:p9 ⟨cpu,zi,t,.nil⟩ x:=by subst hx;exact ⟨rfl,rfl,rfl⟩
     obtain ⟨RQ,_⟩:=hL.rd.len;have Gb:=f.count;have P2:li.n≤256:=by have:=hL.rd.len.2;omega
     refine SW.dy rfl rfl (xT ⟨some ⟨g,0,none⟩,2,c⟩ m cp li ⟨lv.A,lv.n-1,lv.c⟩ h.aj ls x ⟨cpu,zi,t,.nil⟩ a F b3 w _ hw cJ aq hL Kq rfl (by rw [hx]) rc.sep f.jQ (by omega) Om mW Fm Ji) fun v w9 hv => ?_
     obtain ⟨wR,Oo,C0,qg,cS,Lw,_⟩:=hv;rw [hF] at Oo;obtain ⟨de,ka,yX,Lx,wv⟩:=Oo;clear hw aq hL az bJ hZ hM hV mW Fm Ji On P1 MU MS MT Ko;have hw:=wR;have aq:=cS;have hL:=Lw;have az:=de;have bJ:=ka;have hZ:=yX;have hM:=Lx;have hV:=wv;clear wR cS Lw de ka yX Lx wv;obtain ⟨pg,re⟩ : ∃ pg,bA h.aj x++[a]=pg:=⟨_,rfl⟩;have Kr:keyOf z0 z1 cpu a=x:=by rw [oq,ht,hx]
     rw [Kr,re];rw [re] at hL;obtain ⟨xx,G5⟩ : ∃ xx:ap,(⟨x.eI,x.ab,x.Ty,pg⟩ : ap)=xx:=⟨_,rfl⟩;rw [G5] at hL;have Oq:dS x xx:=by rw [← G5];exact ⟨rfl,rfl,rfl⟩
     obtain ⟨e1,e2⟩:=gx (L:=h.aj) Oq;obtain ⟨e3,e4⟩:=xE (L:=h.aj) (x:=xx);obtain ⟨e5,e6⟩:=gx (L:=eU h.aj xx) Oq;obtain ⟨p0,Gc⟩ : ∃ p0,aO h.aj xx=p0:=⟨_,rfl⟩;rw [Gc] at e1 e3;have G6:=sL (L:=h.aj) (x:=xx);rw [Gc] at G6;obtain ⟨Is,Jk⟩:=List.getElem?_eq_some_iff.1 G6;obtain ⟨l3,l4⟩:=hL.rd.len;have Ea:p0<C0.n:=by omega
     have It:p0<qg.length:=by omega
     have Ot:C0.n≤257:=by
      rw [← l4,eU];split
      ·simp;omega
      ·rw [dC _ (jw _ _)];omega
     have cl:∀ w',sv w' C0 qg (eU h.aj xx)→bl Tryz.prog 113 [.agg (bW ⟨⟨some ⟨g,0,none⟩,2,c⟩,m,cp,C0,⟨lv.A,lv.n-1,lv.c⟩⟩).toArray,.agg (bi ⟨cpu,zi,t,.nil⟩).toArray] w' fun v _=>v = .tuple #[.int .i64 (p0:Int),.bool true]:=fun w' hh=>by
      have:=qa ⟨⟨some ⟨g,0,none⟩,2,c⟩,m,cp,C0,⟨lv.A,lv.n-1,lv.c⟩⟩ (eU h.aj xx) qg x ⟨cpu,zi,t,.nil⟩ w' hh Kq (by simp only;omega)
      rwa [e5,e3,e6,e4] at this
     repeat' (first|refine Wz ?_|(refine SW.call rfl rfl (cl _ hL.rd) ?_;intro v w1 aa hv;subst hv;replace hw:=Ext.trans hw aa;replace aq:=aq.ext aa;replace az:=az.ext aa;replace hZ:=hZ.ext aa;replace hM:=hM.ext aa;replace hV:=hV.ext aa;replace hL:=hL.ext aa;clear aa))
     clear cl bJ;have P3:=hL.row.sl.base;have xV:=hL.each.get p0 It Is;rw [Jk] at xV;have Fo:=xV.cb.sl.len;have LZ:xx.an=pg:=by rw [← G5]
     rw [LZ] at Fo;have g3:=hL.row.sl.qV Ea (j:=3) (u := .slice qg[p0].an.A qg[p0].an.n qg[p0].an.c) rfl;by_cases h8 : 8<pg.length
     ·have FT:bC h.aj x=true:=by
       cases e:bC h.aj x with
       | true=>rfl
       | false=>rw [iE e] at re;rw [← re] at h8;simp at h8
      have tY:p0<h.aj.length:=by rw [← e1];exact (fK FT).1
      have Mx:bA h.aj x=h.aj[p0].an:=by
       rw [dY FT (by omega)];simp only [e1]
      rw [Mx] at re;have RR:=(f.lists _ (List.getElem_mem tY)).2;have P4:pg.length=h.aj[p0].an.length+1:=by rw [← re];simp
      have DS:∀ j,j≤4→pg.take j=h.aj[p0].an.take j:=fun j hj=>by rw [← re,List.take_append_of_le_length (by omega)]
      have ju:∀ (j:Nat) (hj:j<pg.length) (y5:j<h.aj[p0].an.length),pg[j]=h.aj[p0].an[j]:=fun j hj y5=>by
       simp only [← re];exact List.getElem_append_left y5
      have MV:fU h z0 z1 x pg (h.Live.eraseIdx k)=⟨[(bh (z0,z1) ((pg.take 4).map bj)).1,(bh (z0,z1) ((pg.take 4).map bj)).2],h.bT,h.bt,eU h.aj (jn x (pg.drop 4)),h.Live.eraseIdx k⟩:=by
       unfold fU;rw [if_pos h8]
      rw [MV];have FG:=xV.cb.le;repeat' (first|refine Wz ?_|refine SW.st (ax rfl g3) rfl ?_|(refine SW.st (cG (k:=4) rfl rfl (by omega)) rfl ?_))
      refine CW.loop (fun t:Nat×bU×bU=>[(3,.pointer (some ⟨b3,0,none⟩)),(6,.pointer (some ⟨b6,0,none⟩)),(16,.int .i64 (p0:Int)),(107,.slice qg[p0].an.A 4 qg[p0].an.c),(108,.int .i64 4),(109,.int .i64 (t.1:Int))])
       (fun t w'=>t.1≤4∧Ext w w'∧aT w' b3 41 (bW ⟨⟨some ⟨g,0,none⟩,2,c⟩,m,cp,C0,⟨lv.A,lv.n-1,lv.c⟩⟩)∧aT w' b6 41 (bW .zero)∧dM w' w.heap.size g c t.2.1 t.2.2 (bh (z0,z1) ((pg.take t.1).map bj))∧Own w' w.heap.size 3 1 bB m.A m.n m.c h.bT∧Own w' w.heap.size 165 3 aA lv.A (lv.n-1) lv.c (h.Live.eraseIdx k)∧dE w' w.heap.size C0 qg (eU h.aj xx)) (fun t=>4-t.1) (0,u0,u1)
       ⟨rfl,rfl,rfl,rfl,rfl,rfl,trivial⟩ ⟨by omega,hw,aq,az,by simpa [bh] using hZ,hM,hV,hL⟩ ?_
      clear hw aq az hZ hM hV hL xV g3 PZ oz qY;rintro ⟨j,u0,u1⟩ w' ⟨hj,hw,aq,az,hZ,hM,hV,hL⟩
      simp only at hj hZ ⊢;have xV:=hL.each.get p0 It Is;rw [Jk] at xV
      have Ks:Own w' w.heap.size 3 1 bB qg[p0].an.A qg[p0].an.n qg[p0].an.c pg:=by
       have:=xV.cb
       rwa [LZ] at this
      have MW:=Ks.sl.base;by_cases RS:j<4
      ·have mm:j<qg[p0].an.n:=by omega
       have Ou:j<pg.length:=by omega
       have hD:=f.inv tY j (by omega);have hN:=f.zC tY (show j<h.aj[p0].an.length by omega)
       have P5:bh (z0,z1) ((pg.take (j+1)).map bj)=ee (bh (z0,z1) ((pg.take j).map bj)) (bj pg[j]):=by
        rw [List.take_succ_eq_append_getElem Ou,List.map_append,jJ];rfl
       rw [← DS j hj,← ju j Ou (by omega)] at hN;rw [← DS j hj] at hD;have RT : 0<4→qg[p0].an.A.isSome=true:=fun _=>MW (by omega)
       repeat' (first|refine Wz ?_|refine SW.st (ax rfl (Ks.sl.one mm rfl)) rfl ?_)
       refine SW.dy rfl rfl (qf m cp C0 ⟨lv.A,lv.n-1,lv.c⟩ u0 u1 _ _ (bj pg[j]) w.heap.size g c b3 _ aq hZ hw.size hD hN) fun v w8 hv => ?_
       obtain ⟨hg,u2,u3,yX⟩:=hv;have hG:=hZ.gr hg;replace hw:=hw.own hZ.A7 hg;(replace aq:=aq.au hG rfl;replace az:=az.au hG rfl;replace hM:=hM.au hG rfl;replace hV:=hV.au hG rfl;replace hL:=hL.au hG rfl);refine Wz ?_;exact ae.again (j+1,u2,u3) ⟨rfl,rfl,rfl,rfl,rfl,rfl,trivial⟩ (by simp only;omega) ⟨by simp only;omega,hw,aq,az,by simp only;rw [P5];exact yX,hM,hV,hL⟩
      ·obtain rfl:j=4:=by omega
       have P3:=hL.row.sl.base;refine Wz ?_;refine CW.l9 13 13 (fun _=>True) mixed (by kernel_rfl) fun w1 aa bm => ?_
       replace hw:=Ext.trans hw aa;replace aq:=aq.ext aa;replace az:=az.ext aa;replace hZ:=hZ.ext aa;replace hM:=hM.ext aa;replace hV:=hV.ext aa;replace hL:=hL.ext aa;replace Ks:=Ks.ext aa;clear aa;refine Wf ?_;refine SF.take 8 [] [] bm rfl (by kernel_rfl) (by kernel_rfl) (by kernel_rfl) ?_;repeat ((show SW _ _ _ _ (⟨_,Op.load _ _,_,_,_,none⟩::_) _ _;refine SW.st (ax rfl (hL.row.sl.qV Ea (j:=3) (u := .slice qg[p0].an.A qg[p0].an.n qg[p0].an.c) rfl)) rfl ?_))
       refine SW.ar ?_;refine SF.take 9 [] [] bm rfl (by kernel_rfl) (by kernel_rfl) (by kernel_rfl) ?_;repeat ((refine SW.st (aP (k:=4) rfl rfl (by omega) (by omega)) rfl ?_))
       refine SW.ar ?_;refine SF.one 10 rfl (by kernel_rfl) rfl ?_;refine SW.call rfl rfl (cX _ _ _ _ _ (Ks.sl.drop 4 qg[p0].an.c (by omega) (by omega)) (by omega)) fun v w4 ao hv => ?_
       obtain ⟨X,c4,rfl,hX⟩:=hv;replace hX:=hX.low hw.size;(replace hw:=Ext.trans hw ao;replace aq:=aq.ext ao;replace az:=az.ext ao;replace hZ:=hZ.ext ao;replace hM:=hM.ext ao;replace hV:=hV.ext ao;replace hL:=hL.ext ao);refine SW.nil (ae.sf ao ?_);refine Wf ?_;refine SF.last rfl (by kernel_rfl) (by kernel_rfl) ?_;refine SW.jz p0 3 ⟨qg[p0].eI,qg[p0].ab,qg[p0].Ty,⟨X,qg[p0].an.n-4,c4⟩⟩ hL.row rfl rfl rfl Ea (by decide) rfl rfl fun w6 jL qY => ?_
       have rK:=hL.row.gr qY;replace hw:=aJ hw qY (Nat.le_refl _) hL.row.ba;have GQ:=hL.each.get p0 It Is;rw [Jk] at GQ;have hE:=dV.setAt (R':=mf w6 w.heap.size) (x:=⟨qg[p0].eI,qg[p0].ab,qg[p0].Ty,⟨X,qg[p0].an.n-4,c4⟩⟩) (y:=jn x (pg.drop 4)) (i:=p0) hL.each ⟨GQ.cpu.trans (by rw [← G5];rfl),GQ.gj.trans (by rw [← G5];rfl),GQ.ty.trans (by rw [← G5];rfl),hX.au rK rfl⟩ (fun j h1 h2 _ hh=>hh.au rK rfl)
       have Gd:(eU h.aj xx).set p0 (jn x (pg.drop 4))=eU h.aj (jn x (pg.drop 4)):=by
        rw [← Gc];exact xF (by rw [← G5];exact ⟨rfl,rfl,rfl⟩)
       rw [Gd] at hE;(replace aq:=aq.au rK rfl;replace az:=az.au rK rfl;replace hZ:=hZ.au rK rfl;replace hM:=hM.au rK rfl;replace hV:=hV.au rK rfl);refine Wz ?_;refine SW.ah az rfl rfl rfl rfl (dt ⟨⟨some ⟨g,0,none⟩,2,c⟩,m,cp,C0,⟨lv.A,lv.n-1,lv.c⟩⟩) fun w9 ct hg => ?_
       have hG:=az.gr hg;replace hw:=hw.own dU hg;(replace hZ:=hZ.au hG rfl;replace hM:=hM.au hG rfl;replace hV:=hV.au hG rfl);refine Wz ?_;exact ae.cA rfl rfl rfl ct rfl ⟨_,rfl,hw,⟨⟨some ⟨g,0,none⟩,2,c⟩,m,cp,C0,⟨lv.A,lv.n-1,lv.c⟩⟩,rfl,⟨Eo,hM,hV,⟨[u0,u1],⟨hZ.row,dV.two hZ.z0 hZ.z1⟩⟩,⟨_,⟨jL.au hG rfl,hE.mono fun _ _ hh=>hh.au hG rfl⟩⟩⟩⟩
     ·have MV:fU h z0 z1 x pg (h.Live.eraseIdx k)=⟨[z0,z1],h.bT,h.bt,eU h.aj xx,h.Live.eraseIdx k⟩:=by
       unfold fU;rw [if_neg h8,← G5];rfl
      rw [MV];repeat' (first|refine Wz ?_|refine SW.st (ax rfl g3) rfl ?_)
      refine SW.ah az rfl rfl rfl rfl (dt ⟨⟨some ⟨g,0,none⟩,2,c⟩,m,cp,C0,⟨lv.A,lv.n-1,lv.c⟩⟩) fun w9 ct hg => ?_
      have hG:=az.gr hg;replace hw:=hw.own dU hg;(replace hZ:=hZ.au hG rfl;replace hM:=hM.au hG rfl;replace hV:=hV.au hG rfl;replace hL:=hL.au hG rfl);refine Wz ?_;exact ae.cA rfl rfl rfl ct rfl ⟨_,rfl,hw,⟨⟨some ⟨g,0,none⟩,2,c⟩,m,cp,C0,⟨lv.A,lv.n-1,lv.c⟩⟩,rfl,⟨Eo,hM,hV,⟨[u0,u1],⟨hZ.row,dV.two hZ.z0 hZ.z1⟩⟩,⟨qg,hL⟩⟩⟩
  ·rw [wj hq hc];repeat' (first|refine Wz ?_|refine SW.en rfl rfl rfl (fun h => ?_) (fun h => ?_)|(refine SW.call rfl rfl (c1 _ hw) ?_;intro v w1 aa hv;subst hv;replace hw:=Ext.trans hw aa;replace aq:=aq.ext aa;replace az:=az.ext aa;clear aa))
   all_goals try omega
   all_goals
    refine SW.ah az rfl rfl rfl rfl (dt .zero) fun w5 ct hg => ?_
    replace hw:=hw.own dU hg;refine Wz ?_;exact ae.cA rfl rfl rfl ct rfl ⟨_,rfl,hw,gE.zero 1 _ _⟩
open Go.RowKit
section
variable {w w':World} {lo t:Nat} {R:List bO} {L:List ap} {y:bO} {x:ap}
end
open Go.RowKit
open Go.RowKit
def rl (z:ab) : Prop:=z.ag.length≤257∧z.Types.length≤32
theorem uX {s:ab×ab} (h:rl s.1∧rl s.2) (b:Block) : rl (ee s b).1∧rl (ee s b).2:=by
 unfold ee;split
 ·exact ⟨⟨(iC _ _ _).1,(iC _ _ _).2.1⟩,h.2⟩
 ·exact ⟨h.1,(iC _ _ _).1,(iC _ _ _).2.1⟩
theorem qP:∀ (l:List Block) {s:ab×ab},rl s.1∧rl s.2→rl (bh s l).1∧rl (bh s l).2
 | [],_,h=>h
 | b::l,s,h=>qP l (s:=ee s b) (uX h b)
theorem rl.small {z:ab} (h:rl z) : z.ag.length*24≤140737488355328∧z.Types.length*8≤140737488355328:=⟨Nat.le_trans (Nat.mul_le_mul_right 24 h.1) (by decide),by have:=h.2;omega⟩
theorem Er {α:Type} {l:List α} {i:Nat} {b x : α} (h:x∈aH l i b) : x=b∨x∈l:=by
 unfold aH at h;rw [List.mem_append,List.mem_append] at h;rcases h with (h|h)|h
 ·exact .inr (List.mem_of_mem_take h)
 ·exact .inl (by simpa using h)
 ·exact .inr (List.mem_of_mem_drop h)
theorem Es {L:List ap} {x y:ap} (h:y∈eU L x) : y=x∨y∈L:=by
 unfold eU at h;split at h
 ·rcases List.mem_or_eq_of_mem_set h with h|h
  ·exact .inr h
  ·exact .inl h
 ·exact Er h
theorem Et (L:List ap) (x:ap) : (eU L x).length≤L.length+1:=by
 unfold eU;split
 ·simp
 ·rw [dC _ (jw L x)];omega
theorem yd {h:Heap} {z0 z1:ab} (f:fe h z0 z1) (x:ap) : (bA h.aj x).length≤8:=by
 cases e:bC h.aj x with
 | false=>rw [iE e];simp
 | true =>
   obtain ⟨h1,_⟩:=fK e;rw [dY e h1];exact (f.lists _ (List.getElem_mem h1)).2
theorem qQ {h:Heap} {z0 z1:ab} (f:fe h z0 z1) (x:ap) (hx:x.an.length≤9) : (eU h.aj x).length*48≤140737488355328 ∧ ∀ l∈eU h.aj x,l.an.length*8≤140737488355328:=by
 have:=f.count
 have:=Et h.aj x
 refine ⟨by omega,fun l hl => ?_⟩;rcases Es hl with rfl|hl
 ·omega
 ·have:=(f.lists l hl).2;omega
theorem ye (h:Heap) (cpu a:Int) (hs:h.small) : (iW h cpu a).2.small:=by
 have hz:((8:Int),(⟨[],[],0,[],[]⟩ : Heap)).2.small:=by constructor<;>simp
 cases hq:fa h
 ·rw [AY hq];exact hz
 ·by_cases hc : 0≤cpu∧cpu<h.bt
  ·cases hf:bf h.Live a
   ·rw [AZ hq hc hf];exact hz
   ·rw [o6 hq hc hf];obtain ⟨z0,z1,f⟩:=dm (bH.1 hq);obtain ⟨hk,_⟩:=jM hf;have Ov:=gu f.d.gZ;have oB:=gu f.d.gL;have Jd:rl z0∧rl z1:=⟨⟨by omega,Ov.2⟩,⟨by omega,oB.2⟩⟩
    have Eu:(h.Live.eraseIdx (aZ h.Live a)).length*24≤140737488355328:=by
     have:=hs.live
     have:=List.length_eraseIdx_le h.Live (aZ h.Live a)
     omega
    by_cases ho : 0<h.Live[aZ h.Live a].Order
    ·rw [jO f.d.bz hk rfl ho];have hb:=uX (s:=(z0,z1)) Jd h.Live[aZ h.Live a];refine ⟨by simp [jN],hs.cT,hs.lists,Eu,fun z hz => ?_,hs.cb⟩;simp only [jN,List.mem_cons,List.not_mem_nil,or_false] at hz;rcases hz with rfl|rfl
     ·exact hb.1.small
     ·exact hb.2.small
    ·rw [jP f.d.bz hk rfl ho];have hp:=yd f (keyOf z0 z1 cpu a);unfold fU;split
     ·have hb:=qP (((bA h.aj (keyOf z0 z1 cpu a)++[a]).take 4).map bj) (s:=(z0,z1)) Jd;obtain ⟨g1,g2⟩:=qQ f (jn (keyOf z0 z1 cpu a) ((bA h.aj (keyOf z0 z1 cpu a)++[a]).drop 4)) (by simp only [jn,List.length_drop,List.length_append,List.length_singleton];omega);refine ⟨by simp,hs.cT,g1,Eu,fun z hz => ?_,g2⟩;simp only [List.mem_cons,List.not_mem_nil,or_false] at hz;rcases hz with rfl|rfl
      ·exact hb.1.small
      ·exact hb.2.small
     ·obtain ⟨g1,g2⟩:=qQ f (jn (keyOf z0 z1 cpu a) (bA h.aj (keyOf z0 z1 cpu a)++[a])) (by simp only [jn,List.length_append,List.length_singleton];omega);refine ⟨by simp,hs.cT,g1,Eu,fun z hz => ?_,g2⟩;simp only [List.mem_cons,List.not_mem_nil,or_false] at hz;rcases hz with rfl|rfl
      ·exact Jd.1.small
      ·exact Jd.2.small
  ·rw [wj hq hc];exact hz
open Go.RowKit
theorem Ge {a b:ab} (h:kM a∧kM b) : ∀ z∈[a,b],kM z:=fun z hz=>by
 simp only [List.mem_cons,List.not_mem_nil,or_false] at hz;rcases hz with rfl|rfl
 ·exact h.1
 ·exact h.2
def Gf (c:aV) (k:Nat) : aV:=⟨c.Names,c.aY,c.jm,c.Order,c.aK.eraseIdx k,c.a8⟩
def G7 (s:ak) (i:Nat) (p:Heap×aV) : ak:=⟨s.Words,p.1,s.ai.set i p.2⟩
open Go.RowKit
noncomputable def zW (s:ak) (n:ByteArray) (cpu:Int) : Int:=if fA s then (if s.ai.any (kq n) then (if 0≤cpu∧cpu<s.Heap.bt then 0 else 1) else 4) else 8
section
variable {w w':World} {lo:Nat} {r:ik} {s:ak} {cs:List dL} {i:Nat} {p:Heap×aV}
end
open Go.RowKit
def G8 (c:aV) (x:Slab) : Bool:=decide (x.ag=c.jm) && !decide (x.At∈c.a8)
def Ev (c:aV) (k:Nat) (x:Slab) (a:Int) : aV:=⟨c.Names,c.aY,c.jm,c.Order,c.aK.set k ⟨x.At,x.ag+1,a⟩,c.a8⟩
def MX (s:ak) (x:Slab) (a:Int) : ak:=⟨s.Words.set a.toNat x.si,s.Heap,s.ai⟩
noncomputable def MY (s:ak) (c:aV) (k:Nat) (x:Slab) (cpu a:Int) : Heap×aV :=
 if G8 (Ev c k x a) ⟨x.At,x.ag+1,a⟩ && decide (1<(Ev c k x a).aK.countP (G8 (Ev c k x a))) then ((iW s.Heap cpu x.At).2,Gf (Ev c k x a) k) else (s.Heap,Ev c k x a)
inductive Gg (s:ak) (n:ByteArray) (cpu a:Int) : ak×Int→Prop where
 | ask (h:zW s n cpu≠0) : Gg s n cpu a (.zero,zW s n cpu)
 | none {u:Int×Int×Int} (h:zW s n cpu=0) (hF:qO s a u) (cr : ¬ (u.2.2=0∧u.1=idxOf (kq n) s.ai)) : Gg s n cpu a (.zero,4)
 | put {i k:Nat} (h:zW s n cpu=0) (hF:qO s a (i,k,0)) (e:idxOf (kq n) s.ai=i) (hi:i<s.ai.length) (hk:k<s.ai[i].aK.length) : Gg s n cpu a (G7 (MX s s.ai[i].aK[k] a) i (MY s s.ai[i] k s.ai[i].aK[k] cpu a),0)
open Go.RowKit
def Kt (c:aV) : ByteArray:=c.Names.getD 0 ⟨#[]⟩
def td (s:ak) (h:Heap) : ak:=⟨s.Words,h,s.ai⟩
def Bd (s:ak) (cpu:Int) : Prop:=0≤cpu∧cpu<s.Heap.bt
inductive qi (s:ak) (cpu a:Int) : ak×Int→Prop where
 | bad (h:fA s=false) : qi s cpu a (.zero,8)
 | range (h:fA s=true) (hc : ¬ Bd s cpu) : qi s cpu a (.zero,1)
 | obj {i:Nat} {u:ak×Int} (h:fA s=true) (hc:Bd s cpu) (hi:i<s.ai.length) (ho:x9 s a (some i)) (hp:Gg s (Kt s.ai[i]) cpu a u) : qi s cpu a u
 | no (h:fA s=true) (hc:Bd s cpu) (ho:x9 s a none) (hw:dN s a=false) : qi s cpu a (.zero,4)
 | whole (h:fA s=true) (hc:Bd s cpu) (ho:x9 s a none) (hw:dN s a=true) : qi s cpu a (td s (iW s.Heap cpu (a / 16)).2,0)
theorem pk {s:ak} {a:Int} (h:dN s a=true) : bf s.Heap.Live (a / 16)=true∧0≤a∧a % 16=0:=by
 unfold dN at h;simp only [Bool.and_eq_true,decide_eq_true_eq] at h;exact ⟨h.2.2,h.1.1,h.1.2⟩
open Go.RowKit
theorem Ck {w:World} (h:jU w) : ∀ j v,(kL.map (Value.int .i64))[j]?=some v→w.cell? ((⟨0,0,none⟩ : Addr).add j)=some v:=fun j v hv=>by
 rcases Nat.lt_or_ge j 6 with hj|hj
 ·have:=h.sl.one (i:=j) (u:=v) hj (by
   rcases (show j=0∨j=1∨j=2∨j=3∨j=4∨j=5 by omega) with rfl|rfl|rfl|rfl|rfl|rfl<;>simpa [kL,bB] using hv)
  simpa using this
 ·rw [List.getElem?_eq_none (by simp [kL];omega)] at hv;cases hv
def kP (j:Nat) : Int:=(2:Int) ^ j
theorem G9 {j:Nat} (h:j<6) : kP j∈kL∧kL[j]?=some (kP j)∧1≤kP j∧kP j≤32:=by
 unfold kP;rcases (show j=0∨j=1∨j=2∨j=3∨j=4∨j=5 by omega) with rfl|rfl|rfl|rfl|rfl|rfl<;>decide
theorem Gh (j:Nat) : kP (j+1)=2*kP j:=by unfold kP;rw [Int.pow_succ,Int.mul_comm]
theorem uY {j:Nat} (h:j<6) : (jT (kP j)).size≤140737488351232:=by
 unfold kP;rcases (show j=0∨j=1∨j=2∨j=3∨j=4∨j=5 by omega) with rfl|rfl|rfl|rfl|rfl|rfl<;>decide
open Go.RowKit
section
variable {w w':World} {lo t:Nat} {r:ik} {s:ak} {cs:List dL} {i:Nat} {p:Heap×aV} {G:Nat→Prop}
end
theorem Cl {x y x' y':Block} (h:gJ x y) (e1:x'.At=x.At) (e2:x'.Order=x.Order) (e3:y'.At=y.At) (e4:y'.Order=y.Order) : gJ x' y':=by
 unfold gJ at *;rw [e1,e2,e3,e4];exact h
theorem Cm {z:ab} (hz:aU z) {b:Block} {t:Int} (st:Bool) : xy (fb z b t st):=by
 have h:=xz hz;unfold fb;split
 ·unfold fF;split
  ·exact h
  ·unfold xy at *;rw [List.pairwise_map];exact h.imp fun {x y} L8=>Cl L8 (jG _ _ _ x).1 (jG _ _ _ x).2 (jG _ _ _ y).1 (jG _ _ _ y).2
 ·exact h
theorem yf {a q:Int} (h1 : 1≤q) (h4:q≤4) (hm:a % pw q=0) : beside (a+pw (q-1)) (q-1)=a∧(a+pw (q-1)) % pw (q-1)=0:=by
 have hp:pw q=2*pw (q-1):=by
  have:=iI (o:=q-1) (by omega) (by omega)
  rwa [Int.sub_add_cancel] at this
 unfold beside;rcases dl (show 0≤q-1 by omega) (show q-1≤4 by omega) with ⟨e1,e2⟩|⟨e1,e2⟩|⟨e1,e2⟩|⟨e1,e2⟩|⟨e1,e2⟩<;>rw [hp,e2] at hm<;>rw [e2]<;>(refine ⟨?_,by omega⟩)<;>split<;>omega
theorem Ew {f t:Int} {l:List Block} {a q ty:Int} (h:xf f t l a q) (hn:xy l) (hq : 1≤q) : xy (mM ty a q l):=by
 obtain ⟨f1,f2,f3,f4,f5⟩:=h.fit;obtain ⟨hb,hm⟩:=yf hq f2 f5
 have hp:pw q=2*pw (q-1):=by
  have:=iI (o:=q-1) (by omega) (by omega)
  rwa [Int.sub_add_cancel] at this
 have Lg:=bM (o:=q-1) (by omega) (by omega)
 have cr:∀ x∈l,x.At≠a:=fun x hx e=>by
  have:=bM (h.cU x hx).1.1 (h.cU x hx).1.2.1
  rcases h.Dk x hx with g|g<;>omega
 have e:l=l.take (aZ l (a+pw (q-1)))++l.drop (aZ l (a+pw (q-1))):=(List.take_append_drop _ l).symm
 have h0:=hn;unfold xy at h0;rw [e,List.pairwise_append] at h0;obtain ⟨h1,h2,h3⟩:=h0
 have hA:∀ x∈l.take (aZ l (a+pw (q-1))),gJ x (jl ty a q):=fun x hx=>by
  have mF:=List.mem_of_mem_take hx;obtain ⟨j,hj,rfl⟩:=List.getElem_of_mem hx;simp only [List.length_take] at hj;rw [List.getElem_take] at mF ⊢;have dg:=kF (l:=l) (a:=a+pw (q-1)) (k:=j) (by omega);refine ⟨?_,fun hh => ?_⟩
  ·simp only [jl];rcases h.Dk _ mF with g|g<;>omega
  ·obtain ⟨_,_,hh⟩:=hh;simp only [jl,hb] at hh;exact cr _ mF hh
 have hB:∀ x∈l.drop (aZ l (a+pw (q-1))),gJ (jl ty a q) x:=fun x hx=>by
  have mF:=List.mem_of_mem_drop hx;obtain ⟨j,hj,rfl⟩:=List.getElem_of_mem hx;simp only [List.length_drop] at hj;rw [List.getElem_drop] at mF ⊢;have Fx:=xg (l:=l) (a:=a+pw (q-1)) (by omega)
  have hle:(l[aZ l (a+pw (q-1))]'(by omega)).At≤(l[aZ l (a+pw (q-1))+j]'(by omega)).At:=by
   rcases Nat.eq_zero_or_pos j with rfl|GL
   ·exact Int.le_refl _
   ·have:=fI h.mE (show aZ l (a+pw (q-1))+j<l.length by omega) (show aZ l (a+pw (q-1))<aZ l (a+pw (q-1))+j by omega)
    have:=bM (h.cU _ (List.getElem_mem (show aZ l (a+pw (q-1))<l.length by omega))).1.1 (h.cU _ (List.getElem_mem (show aZ l (a+pw (q-1))<l.length by omega))).1.2.1
    omega
  have Ly:=(h.cU _ mF).1;have Jk:=bM Ly.1 Ly.2.1;refine ⟨?_,fun hh => ?_⟩
  ·simp only [jl];rcases h.Dk _ mF with g|g<;>omega
  ·obtain ⟨g4,g5,hh⟩:=hh;have g6:=(lz Ly.1 g4 Ly.2.2.2.2).1;simp only [jl] at g5 hh;rw [← hh,← g5,hb] at g6;exact cr _ mF g6.symm
 unfold mM aH xy;rw [List.append_assoc,List.pairwise_append];refine ⟨h1,?_,fun x hx y hy => ?_⟩
 ·rw [List.singleton_append,List.pairwise_cons];exact ⟨hB,h2⟩
 ·rw [List.singleton_append,List.mem_cons] at hy;rcases hy with rfl|hy
  ·exact hA x hx
  ·exact h3 x hx y hy
theorem uZ {f t ty:Int} (h0 : 0≤f) (ht:t≤256) (HO:t % 16=0) (rD:fR ty) {a:Int}:∀ (k:Nat) (q:Int) (l:List Block),(k:Int)≤q→xf f t l a q→xy l→xf f t (gk ty a k q l) a (q-k)∧xy (gk ty a k q l)
 | 0,q,l,_,h,hn=>by
   refine ⟨?_,hn⟩;have:q-((0:Nat) : Int)=q:=by omega
   rw [this];exact h
 | k+1,q,l,hk,h,hn=>by
   have hq : 1≤q:=by omega
   have:=uZ h0 ht HO rD k (q-1) (mM ty a q l) (by omega) (xr h h0 ht HO hq rD).1 (Ew h hn hq)
   rw [gk];rwa [show q-1-(k:Int)=q-((k+1:Nat) : Int) by omega] at this
structure Ha (z z':ab) : Prop where
 may:aU z'
 from_:z'.aw=z.aw
 jA:z'.To=z.To
theorem dA.ra {z:ab} {o t:Int} {u:ab×Int×Int} (h:dA z o t u) (h0:u.2.2=0) : Ha z u.1∧(∃ x∈z.ag,x.At=u.2.1)∧df z=true:=by
 cases h with
 | bad|range|kind|room=>simp at h0
 | @ok k st hq ho ht hk hp =>
   have hz:=dc.1 hq;obtain ⟨o1,o2,o3,o4,o5⟩:=hz.ok;obtain ⟨_,Mk,N0⟩:=hp.ord;obtain ⟨l1,l2,l3⟩:=mN hz (b:=z.ag[k]) ht st;have JU:k<(fb z z.ag[k] t st).length:=by omega
   have GO:=ns hz ht st hk;have hJ:=uJ l2 l3 JU;rw [GO] at hJ;simp only at hJ;have hn:xy ((fb z z.ag[k] t st).eraseIdx k):=(Cm hz st).sublist (List.eraseIdx_sublist _ _)
   have pQ:=hz.cU k hk;have GH:fR (oa z t st z.ag[k]):=by unfold oa;split;exact ht;exact pQ.2
   have hS:=uZ (ty:=oa z t st z.ag[k]) o1 o3 o5 GH (z.ag[k].Order-o).toNat z.ag[k].Order _ (by omega) hJ hn;have e:(if st=true then fF z.ag z.ag[k] t else z.ag)=fb z z.ag[k] t st:=rfl
   refine ⟨⟨⟨hz.ok,?_,?_,fun i hi => ?_,fun i hi => ?_⟩,rfl,rfl⟩,⟨z.ag[k],List.getElem_mem hk,rfl⟩,hq⟩
   ·simp only [lx];have hlen:=hz.len;split
    ·unfold gD;split
     ·exact hlen
     ·split<;>simpa using hlen
    ·exact hlen
   ·simp only [lx];intro v hv;split at hv
    ·unfold gD at hv;split at hv
     ·exact hz.types v hv
     ·split at hv
      ·rcases List.mem_or_eq_of_mem_set hv with hv|rfl
       ·rcases List.mem_or_eq_of_mem_set hv with hv|rfl
        ·exact hz.types v hv
        ·exact ht
       ·exact ht
      ·rcases List.mem_or_eq_of_mem_set hv with hv|rfl
       ·exact hz.types v hv
       ·exact ht
    ·exact hz.types v hv
   ·exact hS.1.cU _ (List.getElem_mem hi)
   ·have hn:=hS.2;unfold xy at hn;rw [List.pairwise_iff_getElem] at hn;exact hn i (i+1) (by simp only [lx] at hi;exact Nat.lt_of_succ_lt hi) hi (Nat.lt_succ_self i)
def ff (fl:Int) : Int:=if 0≤fl∧fl≤15 then (if fl / 2 % 4=0 then 0 else if fl / 2 % 4=1 then 1 else if fl / 2 % 4=2 then 2 else -1) else -1
theorem m8 {fl:Int} (h : 0≤ff fl) : (0≤fl∧fl≤15)∧fR (ff fl):=by
 unfold ff fR at *;split at h
 ·rename_i hf;rw [if_pos hf];refine ⟨hf,?_⟩;repeat' split
  all_goals omega
 ·omega
def jd (s:ab×ab) (zi:Int) : ab:=if zi=0 then s.1 else s.2
def dI (s:ab×ab) (zi:Int) (z:ab) : ab×ab:=if zi=0 then (z,s.2) else (s.1,z)
def jW (m0 m1:Int) (s:ab×ab) (zi fl:Int) : Int:=(if 8≤fl then (if zi=0 then m0 else m1) / 2 else (if zi=0 then m0 else m1))+(if zi=0∧fl % 2=0 then (s.2.To-s.2.aw) / 32 else 0)
def dD (m0 m1:Int) (s:ab×ab) (zi o fl:Int) : Prop:=jW m0 m1 s zi fl≤di (jd s zi).ag-pw o
inductive fg (m0 m1 zi t fl:Int) : ab×ab→List Int→(ab×ab)×List Int→Prop
 | full {s:ab×ab} {l:List Int} (h:l.length=3) : fg m0 m1 zi t fl s l (s,l)
 | iw {s:ab×ab} {l:List Int} (h:l.length<3) (he : ¬ dD m0 m1 s zi 0 fl) : fg m0 m1 zi t fl s l (s,l)
 | none {s:ab×ab} {l:List Int} {u:ab×Int×Int} (h:l.length<3) (he:dD m0 m1 s zi 0 fl) (ht:dA (jd s zi) 0 t u) (hu:u.2.2≠0) : fg m0 m1 zi t fl s l (s,l)
 | more {s:ab×ab} {l:List Int} {u:ab×Int×Int} {r:(ab×ab)×List Int} (h:l.length<3) (he:dD m0 m1 s zi 0 fl) (ht:dA (jd s zi) 0 t u) (hu:u.2.2=0) (hr:fg m0 m1 zi t fl (dI s zi u.1) (l++[u.2.1]) r) : fg m0 m1 zi t fl s l r
theorem fg.mo {m0 m1 zi t fl:Int} {s:ab×ab} {l:List Int} {r r':(ab×ab)×List Int} (h:fg m0 m1 zi t fl s l r) : fg m0 m1 zi t fl s l r'→r=r':=by
 induction h with
 | full h=>intro k;cases k with
   | full=>rfl
   | iw h'|none h'|more h'=>omega
 | iw h he=>intro k;cases k with
   | full h'=>omega
   | iw=>rfl
   | none _ wO|more _ wO=>exact absurd wO he
 | none h he ht hu=>intro k;cases k with
   | full h'=>omega
   | iw _ wO=>exact absurd he wO
   | none=>rfl
   | more _ _ mg Cn=>rw [ht.mo mg] at hu;exact absurd Cn hu
 | more h he ht hu hr ih=>intro k;cases k with
   | full h'=>omega
   | iw _ wO=>exact absurd he wO
   | none _ _ mg Cn=>rw [ht.mo mg] at hu;exact absurd hu Cn
   | more _ _ mg Cn lS =>
     have e:=ht.mo mg;subst e;exact ih lS
def dn (x:ap) (pg:List Int) : ap:=⟨x.eI,x.ab,x.Ty,pg⟩
def nJ (L:List ap) (x:ap) (pg:List Int) : List ap:=if pg.length≤1 then L.eraseIdx (aO L x) else L.set (aO L x) (dn x pg.dropLast)
def gh (L:List ap) (x:ap) (pg:List Int) : List ap:=if pg=[] then L else eU L (dn x pg)
inductive dO (m0 m1 cpu zi o t fl:Int) (s:ab×ab) (L:List ap) : Option ((ab×ab)×List ap×Int)→Prop
 | list (ho:o=0) (hk:bC L ⟨cpu,zi,t,[]⟩=true) (hp:bA L ⟨cpu,zi,t,[]⟩≠[]) : dO m0 m1 cpu zi o t fl s L (some (s,nJ L ⟨cpu,zi,t,[]⟩ (bA L ⟨cpu,zi,t,[]⟩),(bA L ⟨cpu,zi,t,[]⟩).getLast hp))
 | iw (hn : ¬ (o=0∧bC L ⟨cpu,zi,t,[]⟩=true)) (he : ¬ dD m0 m1 s zi o fl) : dO m0 m1 cpu zi o t fl s L none
 | none {u:ab×Int×Int} (hn : ¬ (o=0∧bC L ⟨cpu,zi,t,[]⟩=true)) (he:dD m0 m1 s zi o fl) (ht:dA (jd s zi) o t u) (hu:u.2.2≠0) : dO m0 m1 cpu zi o t fl s L none
 | sZ {u:ab×Int×Int} (ho : 0<o) (he:dD m0 m1 s zi o fl) (ht:dA (jd s zi) o t u) (hu:u.2.2=0) : dO m0 m1 cpu zi o t fl s L (some (dI s zi u.1,L,u.2.1))
 | fill {u:ab×Int×Int} {r:(ab×ab)×List Int} (ho:o=0) (hk:bC L ⟨cpu,zi,t,[]⟩=false) (he:dD m0 m1 s zi o fl) (ht:dA (jd s zi) o t u) (hu:u.2.2=0) (hr:fg m0 m1 zi t fl (dI s zi u.1) [] r) : dO m0 m1 cpu zi o t fl s L (some (r.1,gh L ⟨cpu,zi,t,[]⟩ r.2,u.2.1))
theorem dO.mo {m0 m1 cpu zi o t fl:Int} {s:ab×ab} {L:List ap} {r r':Option ((ab×ab)×List ap×Int)} (h:dO m0 m1 cpu zi o t fl s L r) (k:dO m0 m1 cpu zi o t fl s L r') : r=r':=by
 cases h with
 | list ho hk hp=>cases k with
   | list=>rfl
   | iw hn|none hn=>exact absurd ⟨ho,hk⟩ hn
   | sZ sb=>omega
   | fill _ kj=>rw [hk] at kj;cases kj
 | iw hn he=>cases k with
   | list ho hk=>exact absurd ⟨ho,hk⟩ hn
   | iw=>rfl
   | none _ wO|sZ _ wO|fill _ _ wO=>exact absurd wO he
 | none hn he ht hu=>cases k with
   | list ho hk=>exact absurd ⟨ho,hk⟩ hn
   | iw _ wO=>exact absurd he wO
   | none=>rfl
   | sZ _ _ mg Cn|fill _ _ _ mg Cn=>rw [ht.mo mg] at hu;exact absurd Cn hu
 | sZ ho he ht hu=>cases k with
   | list sb=>omega
   | iw _ wO=>exact absurd he wO
   | none _ _ mg Cn=>rw [ht.mo mg] at hu;exact absurd hu Cn
   | sZ _ _ mg=>rw [ht.mo mg]
   | fill sb=>omega
 | fill ho hk he ht hu hr=>cases k with
   | list _ kj=>rw [hk] at kj;cases kj
   | iw _ wO=>exact absurd he wO
   | none _ _ mg Cn=>rw [ht.mo mg] at hu;exact absurd hu Cn
   | sZ sb=>omega
   | fill _ _ _ mg _ lS =>
     have e:=ht.mo mg;subst e;rw [hr.mo lS]
inductive ef (m0 m1 cpu o t fl:Int) (s:ab×ab) (L:List ap) : Option ((ab×ab)×List ap×Int)→Prop
 | mi {r:(ab×ab)×List ap×Int} (hf:fl % 2=0) (h:dO m0 m1 cpu 1 o t fl s L (some r)) : ef m0 m1 cpu o t fl s L (some r)
 | low {r:Option ((ab×ab)×List ap×Int)} (hf:fl % 2=0→dO m0 m1 cpu 1 o t fl s L none) (h:dO m0 m1 cpu 0 o t fl s L r) : ef m0 m1 cpu o t fl s L r
theorem ef.mo {m0 m1 cpu o t fl:Int} {s:ab×ab} {L:List ap} {r r':Option ((ab×ab)×List ap×Int)} (h:ef m0 m1 cpu o t fl s L r) (k:ef m0 m1 cpu o t fl s L r') : r=r':=by
 cases h with
 | mi hf h=>cases k with
   | mi _ h'=>exact h.mo h'
   | low yT=>cases h.mo (yT hf)
 | low hf h=>cases k with
   | mi yT h'=>cases h'.mo (hf yT)
   | low _ h'=>exact h.mo h'
def aS (h:Heap) (i:Nat) : Int:=h.bT.getD i 0
def ev (h:Heap) (s:ab×ab) (L:List ap) (lv:List Block) : Heap:=⟨[s.1,s.2],h.bT,h.bt,L,lv⟩
def cQ (h:Heap) (at_ o t:Int) : List Block:=aH h.Live (aZ h.Live at_) ⟨at_,o,t⟩
inductive bI (h:Heap) (cpu o fl:Int) : Heap×Int×Int→Prop
 | bad (hb:fa h=false) : bI h cpu o fl (.zero,0,8)
 | range (hb:fa h=true) (hr : ¬ ((0≤cpu∧cpu<h.bt)∧0≤o∧o≤4)) : bI h cpu o fl (.zero,0,1)
 | form (hb:fa h=true) (hr:(0≤cpu∧cpu<h.bt)∧0≤o∧o≤4) (ht:ff fl<0) : bI h cpu o fl (.zero,0,3)
 | once {z0 z1:ab} {r:(ab×ab)×List ap×Int} (hb:fa h=true) (hr:(0≤cpu∧cpu<h.bt)∧0≤o∧o≤4) (ht : 0≤ff fl) (hz:h.aL=[z0,z1]) (ha:ef (aS h 0) (aS h 1) cpu o (ff fl) fl (z0,z1) h.aj (some r)) :
    bI h cpu o fl (ev h r.1 r.2.1 (cQ h r.2.2 o (ff fl)),r.2.2,0)
 | dG {z0 z1:ab} {r:(ab×ab)×List ap×Int} (hb:fa h=true) (hr:(0≤cpu∧cpu<h.bt)∧0≤o∧o≤4) (ht : 0≤ff fl) (hz:h.aL=[z0,z1]) (ha:ef (aS h 0) (aS h 1) cpu o (ff fl) fl (z0,z1) h.aj none)
    (h2:ef (aS h 0) (aS h 1) cpu o (ff fl) fl (bh (z0,z1) (aF h.aj)) [] (some r)) : bI h cpu o fl (ev h r.1 r.2.1 (cQ h r.2.2 o (ff fl)),r.2.2,0)
 | room {z0 z1:ab} (hb:fa h=true) (hr:(0≤cpu∧cpu<h.bt)∧0≤o∧o≤4) (ht : 0≤ff fl) (hz:h.aL=[z0,z1]) (ha:ef (aS h 0) (aS h 1) cpu o (ff fl) fl (z0,z1) h.aj none)
    (h2:ef (aS h 0) (aS h 1) cpu o (ff fl) fl (bh (z0,z1) (aF h.aj)) [] none) : bI h cpu o fl (.zero,0,6)
theorem bI.mo {h:Heap} {cpu o fl:Int} {u v:Heap×Int×Int} (a:bI h cpu o fl u) (b:bI h cpu o fl v) : u=v:=by
 cases a with
 | bad hb=>cases b with
   | bad=>rfl
   | range lV|form lV|once lV|dG lV|room lV=>rw [hb] at lV;cases lV
 | range hb hr=>cases b with
   | bad lV=>rw [hb] at lV;cases lV
   | range=>rfl
   | form _ lS|once _ lS|dG _ lS|room _ lS=>exact absurd lS hr
 | form hb hr ht=>cases b with
   | bad lV=>rw [hb] at lV;cases lV
   | range _ lS=>exact absurd hr lS
   | form=>rfl
   | once _ _ mg|dG _ _ mg|room _ _ mg=>omega
 | once hb hr ht hz ha=>cases b with
   | bad lV=>rw [hb] at lV;cases lV
   | range _ lS=>exact absurd hr lS
   | form _ _ mg=>omega
   | once _ _ _ fC oA=>rw [hz] at fC;simp only [List.cons.injEq,and_true] at fC;obtain ⟨rfl,rfl⟩:=fC;cases ha.mo oA;rfl
   | dG _ _ _ fC oA|room _ _ _ fC oA=>rw [hz] at fC;simp only [List.cons.injEq,and_true] at fC;obtain ⟨rfl,rfl⟩:=fC;cases ha.mo oA
 | dG hb hr ht hz ha h2=>cases b with
   | bad lV=>rw [hb] at lV;cases lV
   | range _ lS=>exact absurd hr lS
   | form _ _ mg=>omega
   | once _ _ _ fC oA=>rw [hz] at fC;simp only [List.cons.injEq,and_true] at fC;obtain ⟨rfl,rfl⟩:=fC;cases ha.mo oA
   | dG _ _ _ fC oA ml=>rw [hz] at fC;simp only [List.cons.injEq,and_true] at fC;obtain ⟨rfl,rfl⟩:=fC;cases h2.mo ml;rfl
   | room _ _ _ fC oA ml=>rw [hz] at fC;simp only [List.cons.injEq,and_true] at fC;obtain ⟨rfl,rfl⟩:=fC;cases h2.mo ml
 | room hb hr ht hz ha h2=>cases b with
   | bad lV=>rw [hb] at lV;cases lV
   | range _ lS=>exact absurd hr lS
   | form _ _ mg=>omega
   | once _ _ _ fC oA=>rw [hz] at fC;simp only [List.cons.injEq,and_true] at fC;obtain ⟨rfl,rfl⟩:=fC;cases ha.mo oA
   | dG _ _ _ fC oA ml=>rw [hz] at fC;simp only [List.cons.injEq,and_true] at fC;obtain ⟨rfl,rfl⟩:=fC;cases h2.mo ml
   | room=>rfl
structure VS (s:ab×ab) : Prop where
 gZ:aU s.1
 gL:aU s.2
 kc:s.1.aw=0
 v9:s.1.To=s.2.aw
 AW:s.2.To=256
theorem VS.jd {s:ab×ab} (h:VS s) (zi:Int) : aU (jd s zi):=by unfold Go.Proofs.YtbidkghlpijecaaGreatDoor.jd;split;exact h.gZ;exact h.gL
theorem VS.ko {s:ab×ab} (h:VS s) {zi:Int} {z':ab} (hk:Ha (Go.Proofs.YtbidkghlpijecaaGreatDoor.jd s zi) z') : VS (dI s zi z'):=by
 obtain ⟨k1,k2,k3⟩:=hk;unfold Go.Proofs.YtbidkghlpijecaaGreatDoor.jd at k2 k3;unfold dI;split
 ·rename_i e;rw [if_pos e] at k2 k3;exact ⟨k1,h.gL,by rw [k2];exact h.kc,by rw [k3];exact h.v9,h.AW⟩
 ·rename_i e;rw [if_neg e] at k2 k3;exact ⟨h.gZ,k1,h.kc,by rw [k2];exact h.v9,by rw [k3];exact h.AW⟩
theorem fg.vs {m0 m1 zi t fl:Int} {s:ab×ab} {l:List Int} {r:(ab×ab)×List Int} (h:fg m0 m1 zi t fl s l r) : VS s→VS r.1∧r.2.length≤3:=by
 induction h with
 | full h=>exact fun k=>⟨k,by simp only;omega⟩
 | iw h he=>exact fun k=>⟨k,by simp only;omega⟩
 | none h=>exact fun k=>⟨k,by simp only;omega⟩
 | more h he ht hu hr ih=>exact fun k=>ih (k.ko (ht.ra hu).1)
theorem lA.vs {s:ab×ab} {bs:List Block} (h:lA s bs) : VS s:=⟨h.gZ,h.gL,h.kc,h.v9,h.AW⟩
def te (s:ab×ab) (L:List ap) (a:Int) : Prop:=(∃ x∈s.1.ag,x.At=a)∨(∃ x∈s.2.ag,x.At=a) ∨ ∃ l∈L,a∈l.an
theorem dO.found {m0 m1 cpu zi o t fl:Int} {s:ab×ab} {L:List ap} {r:(ab×ab)×List ap×Int} (h:dO m0 m1 cpu zi o t fl s L (some r)) (hv:VS s) : VS r.1∧te s L r.2.2:=by
 have fz:∀ {u:ab×Int×Int},dA (jd s zi) o t u→u.2.2=0→VS (dI s zi u.1)∧te s L u.2.1:=fun {u} ht hu=>by
  obtain ⟨k1,⟨x,hx,e⟩,_⟩:=ht.ra hu;refine ⟨hv.ko k1,?_⟩;unfold jd at hx;split at hx
  ·exact .inl ⟨x,hx,e⟩
  ·exact .inr (.inl ⟨x,hx,e⟩)
 cases h with
 | list ho hk hp =>
   refine ⟨hv,.inr (.inr ?_)⟩;obtain ⟨hl,_⟩:=fK hk;refine ⟨_,List.getElem_mem hl,?_⟩;have e:=dY hk hl;have hm:∀ a,a∈bA L ⟨cpu,zi,t,[]⟩→a∈L[aO L ⟨cpu,zi,t,[]⟩].an:=fun a ha=>by rw [e] at ha;exact ha
   exact hm _ (List.getLast_mem hp)
 | sZ ho he ht hu=>exact fz ht hu
 | fill ho hk he ht hu hr=>exact ⟨(hr.vs (fz ht hu).1).1,(fz ht hu).2⟩
theorem ef.found {m0 m1 cpu o t fl:Int} {s:ab×ab} {L:List ap} {r:(ab×ab)×List ap×Int} (h:ef m0 m1 cpu o t fl s L (some r)) (hv:VS s) : VS r.1∧te s L r.2.2:=by
 cases h with
 | mi _ h=>exact h.found hv
 | low _ h=>exact h.found hv
theorem tf {L:List ap} {y:ap} (hs:wc L) (hk:bC L y=false) : wc (aH L (aO L y) y):=by
 have h0:=hs;unfold wc at h0 ⊢;rw [← List.take_append_drop (aO L y) L,List.pairwise_append] at h0;obtain ⟨h1,h2,h3⟩:=h0
 have hT:∀ z∈L.take (aO L y),bD z y:=fun z hz=>by
  obtain ⟨j,hj,rfl⟩:=List.getElem_of_mem hz;rw [List.length_take] at hj;rw [List.getElem_take];exact sJ (by omega)
 have hD:∀ z∈L.drop (aO L y),bD y z:=fun z hz=>by
  obtain ⟨j,hj,rfl⟩:=List.getElem_of_mem hz;rw [List.length_drop] at hj;rw [List.getElem_drop];have h:=FR hk (by omega);rcases Nat.eq_zero_or_pos j with rfl|GL
  ·exact h
  ·exact qJ h (hs.get (show aO L y+j<L.length by omega) (by omega))
 unfold aH;rw [List.append_assoc,List.pairwise_append];refine ⟨h1,?_,fun a ha b hb => ?_⟩
 ·rw [List.singleton_append,List.pairwise_cons];exact ⟨hD,h2⟩
 ·rw [List.singleton_append,List.mem_cons] at hb;rcases hb with rfl|hb
  ·exact hT a ha
  ·exact h3 a ha b hb
section
variable {L:List ap} {x:ap} {pg:List Int}
theorem lI:dS x (dn x pg):=⟨rfl,rfl,rfl⟩
theorem iG:gh L x []=L:=by simp [gh]
theorem kU (hk:bC L x=false) (hp:pg≠[]) : gh L x pg=aH L (aO L (dn x pg)) (dn x pg):=by
 rw [gh,if_neg hp,lC (by rw [← (gx (L:=L) (lI (x:=x) (pg:=pg))).2];exact hk)]
theorem wx (hs:wc L) (hk:bC L x=false) : wc (gh L x pg):=by
 by_cases hp:pg=[]
 ·subst hp;rw [iG];exact hs
 ·rw [kU hk hp];exact tf hs (by rw [← (gx (L:=L) (lI (x:=x) (pg:=pg))).2];exact hk)
theorem qj (hk:bC L x=false) : ∀ l∈gh L x pg,l∈L∨l=dn x pg:=fun l hl=>by
 by_cases hp:pg=[]
 ·subst hp;rw [iG] at hl;exact .inl hl
 ·rw [kU hk hp] at hl;unfold aH at hl;rw [List.mem_append,List.mem_append,List.mem_singleton] at hl;rcases hl with (hl|hl)|hl
  ·exact .inl (List.mem_of_mem_take hl)
  ·exact .inr hl
  ·exact .inl (List.mem_of_mem_drop hl)
theorem u5 (hk:bC L x=false) : (gh L x pg).length≤L.length+1:=by
 by_cases hp:pg=[]
 ·subst hp;rw [iG];omega
 ·rw [kU hk hp,dC _ (jw _ _)];omega
theorem zX (hk:bC L x=false) (a:Int) : eU (gh L x pg) ⟨x.eI,x.ab,x.Ty,bA (gh L x pg) x++[a]⟩=gh L x (pg++[a]):=by
 have cr:pg++[a]≠[]:=by simp
 by_cases hp:pg=[]
 ·subst hp;rw [iG,iE hk,gh,if_neg cr];rfl
 ·have e:gh L x pg=eU L (dn x pg):=by rw [gh,if_neg hp]
  obtain ⟨e1,e2⟩:=gx (L:=eU L (dn x pg)) (lI (x:=x) (pg:=pg));obtain ⟨e3,e4⟩:=xE (L:=L) (x:=dn x pg);obtain ⟨dg,ju⟩:=List.getElem?_eq_some_iff.1 (sL (L:=L) (x:=dn x pg))
  have P6:bA (eU L (dn x pg)) x=pg:=by
   rw [dY (by rw [e2];exact e4) (by rw [e1,e3];exact dg)];simp only [e1,e3,ju]
   rfl
  rw [e,P6,gh,if_neg cr];have oq:dS (dn x pg) (⟨x.eI,x.ab,x.Ty,pg++[a]⟩ : ap):=⟨rfl,rfl,rfl⟩
  obtain ⟨e5,e6⟩:=gx (L:=eU L (dn x pg)) oq;rw [mQ (by rw [← e6];exact e4),← e5,e3];exact xF oq
end
theorem Ex {x:ap} {L:List ap} {pg:List Int} (h : 1<pg.length) : nJ L x pg=L.set (aO L x) (dn x pg.dropLast):=by rw [nJ,if_neg (by omega)]
theorem zY {x:ap} {L:List ap} {pg:List Int} (h:pg.length=1) : nJ L x pg=L.eraseIdx (aO L x):=by rw [nJ,if_pos (by omega)]
theorem zZ {l:List Int} (h:l≠[]) {i:Nat} (hi:i<l.length) (e:i=l.length-1) : l.getLast h=l[i]:=by
 subst e;rw [List.getLast_eq_getElem]
theorem fe.rN {h:Heap} {z0 z1:ab} (f:fe h z0 z1) {a:Int} {i:Nat} (ha:a=(i:Int)) (hc:cy (z0.ag++z1.ag++aF h.aj) i=true) : ∀ b∈h.Live,b.At≠a:=fun b hb e=>by
 obtain ⟨l,m,e1⟩:=List.append_of_mem hb;have eH:=f.all;rw [e1,← List.append_assoc] at eH;have hf:=lB eH;obtain ⟨j,hj,rfl⟩:=List.getElem_of_mem hb;have Ow:=(f.live.each j hj).1;have hp:=bM Ow.1 Ow.2;obtain ⟨_,_,ho⟩:=hf;unfold cy at hc;rw [List.any_eq_true] at hc;obtain ⟨y,hy,Lz⟩:=hc;unfold kk at Lz;rw [Bool.and_eq_true,decide_eq_true_eq,decide_eq_true_eq] at Lz
 have:eK (z0.ag++z1.ag++aF h.aj++l) h.Live[j].At h.Live[j].Order=true:=by
  unfold eK;rw [List.any_eq_true];refine ⟨y,List.mem_append_left _ hy,?_⟩;rw [Bool.and_eq_true,decide_eq_true_eq,decide_eq_true_eq];omega
 rw [ho] at this;cases this
theorem pn {z:ab} (hz:aU z) {x:Block} (hx:x∈z.ag) : ∃ i:Nat,x.At=(i:Int)∧i<256∧cy z.ag i=true:=by
 obtain ⟨j,hj,rfl⟩:=List.getElem_of_mem hx;have h1:=(hz.cU j hj).1;have h2:=hz.ok;obtain ⟨o1,o2,o3,o4,o5⟩:=h2;have hp:=bM h1.1 h1.2.1;obtain ⟨b1,b2,b3,b4,b5⟩:=h1;refine ⟨z.ag[j].At.toNat,by omega,by omega,?_⟩;unfold cy;rw [List.any_eq_true];refine ⟨_,hx,?_⟩;unfold kk;rw [Bool.and_eq_true,decide_eq_true_eq,decide_eq_true_eq];omega
theorem nz {h:Heap} {z0 z1:ab} (f:fe h z0 z1) {a:Int} (ha:te (z0,z1) h.aj a) : ∃ i:Nat,a=(i:Int)∧i<256∧cy (z0.ag++z1.ag++aF h.aj) i=true:=by
 rcases ha with ⟨x,hx,rfl⟩|⟨x,hx,rfl⟩|⟨l,hl,hp⟩
 ·obtain ⟨i,h1,h2,h3⟩:=pn f.d.gZ hx;exact ⟨i,h1,h2,by rw [fc,fc,h3];rfl⟩
 ·obtain ⟨i,h1,h2,h3⟩:=pn f.d.gL hx;exact ⟨i,h1,h2,by rw [fc,fc,h3];simp⟩
 ·have hm:bj a∈aF h.aj:=by
   unfold aF;rw [List.mem_flatMap];exact ⟨l,hl,List.mem_map_of_mem hp⟩
  obtain ⟨j,hj,e⟩:=List.getElem_of_mem hm;have hN:=f.d.next hj;rw [e] at hN;have h1:=hN.at_;simp only [bj] at h1;refine ⟨a.toNat,by omega,by omega,?_⟩;rw [fc]
  have:cy (aF h.aj) a.toNat=true:=by
   unfold cy;rw [List.any_eq_true];refine ⟨_,hm,?_⟩;unfold kk;rw [Bool.and_eq_true,decide_eq_true_eq,decide_eq_true_eq];have:pw 0=1:=by decide
   change a≤_∧_<a+pw 0
   omega
  rw [this];simp
theorem dH {h:Heap} {z0 z1:ab} (d:jK h z0 z1) : lA (bh (z0,z1) (aF h.aj)) (z0.ag++z1.ag++aF h.aj):=by
 have:=d.inv (aF h.aj).length (Nat.le_refl _)
 rwa [List.take_length] at this
theorem lJ {h:Heap} {z0 z1:ab} (f:fe h z0 z1) {a:Int} (ha:te (bh (z0,z1) (aF h.aj)) [] a) : ∃ i:Nat,a=(i:Int)∧i<256∧cy (z0.ag++z1.ag++aF h.aj) i=true:=by
 have hD:=dH f.d;rcases ha with ⟨x,hx,rfl⟩|⟨x,hx,rfl⟩|⟨l,hl,hp⟩
 ·obtain ⟨i,h1,h2,h3⟩:=pn hD.gZ hx;exact ⟨i,h1,h2,by rw [← hD.zx,h3];rfl⟩
 ·obtain ⟨i,h1,h2,h3⟩:=pn hD.gL hx;exact ⟨i,h1,h2,by rw [← hD.zx,h3];simp⟩
 ·simp at hl
theorem yg {h:Heap} {z0 z1:ab} (f:fe h z0 z1) : h.Live.length≤256:=by
 have hu:=im f.live;rw [List.pairwise_iff_getElem] at hu
 have key:∀ (i:Nat) (hi:i<h.Live.length),(i:Int)≤h.Live[i].At:=by
  intro i;induction i with
  | zero=>intro hi;have:=(f.next hi).at_;exact this.1
  | succ i ih=>intro hi;have h1:=ih (by omega);have h2:=hu i (i+1) (by omega) hi (by omega);omega
 rcases Nat.lt_or_ge 256 h.Live.length with h1|h1
 ·have h2:=key 256 h1;have h3:=(f.next h1).at_;omega
 ·exact h1
open Go.RowKit
theorem dO.lists {m0 m1 cpu zi o t f:Int} {s:ab×ab} {L:List ap} {r:(ab×ab)×List ap×Int} (h:dO m0 m1 cpu zi o t f s L (some r)) (hv:VS s) (hL:∀ l∈L,l.an.length≤8) : r.2.1.length≤L.length+1 ∧ ∀ l∈r.2.1,l.an.length≤8:=by
 cases h with
 | list ho hk hp =>
   obtain ⟨hl,_⟩:=fK hk;have e:=dY hk hl;have h8:=hL _ (List.getElem_mem hl);rw [← e] at h8;simp only;unfold nJ;split
   ·exact ⟨by have:=List.length_eraseIdx_le L (aO L ⟨cpu,zi,t,[]⟩);omega,fun l hl=>hL l (List.mem_of_mem_eraseIdx hl)⟩
   ·refine ⟨by rw [List.length_set];omega,fun l hl => ?_⟩;rcases List.mem_or_eq_of_mem_set hl with h1|rfl
    ·exact hL l h1
    ·simp only [dn,List.length_dropLast];omega
 | sZ ho he ht hu=>exact ⟨by simp only;omega,hL⟩
 | @fill u r' ho hk he ht hu hr =>
   have h3:=(hr.vs (hv.ko (ht.ra hu).1)).2
   exact ⟨u5 hk,fun l hl=>by
    rcases qj hk l hl with h1|rfl
    ·exact hL l h1
    ·simp only [dn];omega⟩
theorem ef.lists {m0 m1 cpu o t f:Int} {s:ab×ab} {L:List ap} {r:(ab×ab)×List ap×Int} (h:ef m0 m1 cpu o t f s L (some r)) (hv:VS s) (hL:∀ l∈L,l.an.length≤8) : r.2.1.length≤L.length+1 ∧ ∀ l∈r.2.1,l.an.length≤8:=by
 cases h with
 | mi _ h=>exact h.lists hv hL
 | low _ h=>exact h.lists hv hL
theorem bI.small {h:Heap} {cpu o f:Int} {u:Heap×Int×Int} (a:bI h cpu o f u) (hs:h.small) : u.1.small:=by
 have hz:(Heap.zero).small:=by constructor<;>simp [Heap.zero]
 have key:∀ (z0 z1:ab) (F:fe h z0 z1) (s:ab×ab) (L:List ap) (x:Int) (t:Int),VS s→L.length≤257→(∀ l∈L,l.an.length≤8)→(ev h s L (cQ h x o t)).small:=fun z0 z1 F s L x t hv h1 h2=>by
  have Ov:=gu hv.gZ;have oB:=gu hv.gL;have nP:=yg F
  have GU:(cQ h x o t).length≤257:=by
   unfold cQ;have sw:aZ h.Live x≤h.Live.length:=List.findIdx_le_length
   rw [dC _ sw];omega
  refine ⟨by simp [ev],hs.cT,?_,?_,fun z hz => ?_,fun l hl => ?_⟩
  ·simp only [ev];omega
  ·simp only [ev];omega
  ·simp only [ev,List.mem_cons,List.not_mem_nil,or_false] at hz;rcases hz with rfl|rfl
   ·omega
   ·omega
  ·have:=h2 l hl;omega
 cases a with
 | bad|range|form|room=>exact hz
 | once hb hr ht hz ha =>
   obtain ⟨z0,z1,F⟩:=dm (bH.1 hb);rw [F.d.bz] at hz;simp only [List.cons.injEq,and_true] at hz;obtain ⟨rfl,rfl⟩:=hz;have hv:=F.d.start.vs;obtain ⟨g1,g2⟩:=ha.lists hv (fun l hl=>(F.lists l hl).2);have:=F.count
   exact key _ _ F _ _ _ _ (ha.found hv).1 (by omega) g2
 | dG hb hr ht hz ha h2 =>
   obtain ⟨z0,z1,F⟩:=dm (bH.1 hb);rw [F.d.bz] at hz;simp only [List.cons.injEq,and_true] at hz;obtain ⟨rfl,rfl⟩:=hz;have hv:=(dH F.d).vs;obtain ⟨g1,g2⟩:=h2.lists hv (fun l hl=>by simp at hl);simp only [List.length_nil] at g1;exact key _ _ F _ _ _ _ (h2.found hv).1 (by omega) g2
theorem bI.at_ {h:Heap} {cpu o f:Int} {u:Heap×Int×Int} (a:bI h cpu o f u) (he:u.2.2=0) : 0≤u.2.1∧u.2.1<256:=by
 cases a with
 | bad|range|form|room=>simp at he
 | once hb hr ht hz ha =>
   obtain ⟨z0,z1,F⟩:=dm (bH.1 hb);rw [F.d.bz] at hz;simp only [List.cons.injEq,and_true] at hz;obtain ⟨rfl,rfl⟩:=hz;obtain ⟨i,e,h1,_⟩:=nz F (ha.found F.d.start.vs).2;simp only at e ⊢;omega
 | dG hb hr ht hz ha h2 =>
   obtain ⟨z0,z1,F⟩:=dm (bH.1 hb);rw [F.d.bz] at hz;simp only [List.cons.injEq,and_true] at hz;obtain ⟨rfl,rfl⟩:=hz;obtain ⟨i,e,h1,_⟩:=lJ F (h2.found (dH F.d).vs).2;simp only at e ⊢;omega
open Go.RowKit
def Ey (a s m:Nat) (l:List Int) : Nat→List Int
 | 0=>l
 | k+1=>(Ey a s m l k).set (a+k*s) (if k+1<m then (a:Int)+((k:Int)+1)*s else -1)
open Go.RowKit
open Go.RowKit
def Ku (c:aV) (x:Slab) : Bool:=decide (0<x.ag) && !decide (x.At∈c.a8)
def Iu (c:aV) (cpu:Nat) : Int:=idxOf (Fi (c.a8.getD cpu 0)) c.aK
def u6 (c:aV) (k:Nat) : Slab:=c.aK.getD k ⟨0,0,0⟩
def Be (c:aV) (cpu:Nat) : Int:=if 0≤Iu c cpu∧0<(u6 c (Iu c cpu).toNat).ag then Iu c cpu else idxOf (Ku c) c.aK
def Kv (c:aV) (cpu k:Nat) (v:Int) : aV:=⟨c.Names,c.aY,c.jm,c.Order,c.aK.set k ⟨(u6 c k).At,(u6 c k).ag-1,v⟩,c.a8.set cpu (u6 c k).At⟩
def Kw (c:aV) (a:Int) : Nat:=(c.aK.takeWhile fun x=>decide (x.At<a)).length
def Kx (c:aV) (a:Int) : aV:=⟨c.Names,c.aY,c.jm,c.Order,aH c.aK (Kw c a) ⟨a,c.jm,16*a⟩,c.a8⟩
def MZ (s:ak) (l:List Int) : ak:=⟨l,s.Heap,s.ai⟩
def Bf (n:Nat) (x s m:Int) : Prop:=1≤s∧s≤64∧1≤m∧m≤n∧0≤x∧x+s*m≤n
def Iv (l:List Int) (x s m:Int) : List Int:=Ey x.toNat s.toNat m.toNat l m.toNat
structure M0 where
 ws:List Int
 h:Heap
 c:aV
 k:Nat
inductive Ez (s:ak) (c:aV) (cpu:Nat) : Option M0×Int→Prop where
 | CZ {k:Nat} (h:Be c cpu=k) : Ez s c cpu (some ⟨s.Words,s.Heap,c,k⟩,0)
 | room {u:Heap×Int×Int} (h:Be c cpu<0) (ha:bI s.Heap (cpu:Int) c.Order 0 u) (he:u.2.2≠0) : Ez s c cpu (none,u.2.2)
 | chain {u:Heap×Int×Int} (h:Be c cpu<0) (ha:bI s.Heap (cpu:Int) c.Order 0 u) (he:u.2.2=0) (hc : ¬ Bf s.Words.length (16*u.2.1) c.aY c.jm) : Ez s c cpu (none,1)
 | new {u:Heap×Int×Int} (h:Be c cpu<0) (ha:bI s.Heap (cpu:Int) c.Order 0 u) (he:u.2.2=0) (hc:Bf s.Words.length (16*u.2.1) c.aY c.jm) : Ez s c cpu (some ⟨Iv s.Words (16*u.2.1) c.aY c.jm,u.1,Kx c u.2.1,Kw c u.2.1⟩,0)
def Ky (s:ak) (i cpu:Nat) : Option M0×Int→ak×Int×Int
 | (some m,_)=>(G7 (MZ s m.ws) i (m.h,Kv m.c cpu m.k (m.ws.getD (u6 m.c m.k).si.toNat 0)),(u6 m.c m.k).si,0)
 | (none,e)=>(.zero,0,e)
inductive Iw (s:ak) (n:ByteArray) (cpu:Int) : ak×Int×Int→Prop where
 | ask (h:zW s n cpu≠0) : Iw s n cpu (.zero,0,zW s n cpu)
 | Jl {i:Nat} {m:Option M0×Int} (h:zW s n cpu=0) (e:idxOf (kq n) s.ai=i) (hi:i<s.ai.length) (hm:Ez s s.ai[i] cpu.toNat m) : Iw s n cpu (Ky s i cpu.toNat m)
open Go.RowKit
end Go.Proofs.YtbidkghlpijecaaGreatDoor
