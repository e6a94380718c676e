/-
  Texts of the claim TopProcessors, part 14: what its theorem leans on.
-/
import Derived.Test.YtbidkghlpijecaaGreatDoorPackTopProcessors12
import Derived.Test.YtbidkghlpijecaaGreatDoorPackTopProcessors11
import Derived.Test.YtbidkghlpijecaaGreatDoorPackTopProcessors9
import Derived.Test.YtbidkghlpijecaaGreatDoorPackTopProcessors13
import Derived.Test.YtbidkghlpijecaaGreatDoorPackTopProcessors2
import Derived.Test.YtbidkghlpijecaaGreatDoorPackTopProcessors10
import Derived.Test.YtbidkghlpijecaaGreatDoorPackTopProcessors8
import Derived.Test.YtbidkghlpijecaaGreatDoorPackTopProcessors6
set_option linter.unusedVariables false
set_option linter.unusedSimpArgs false
namespace Go.Proofs.YtbidkghlpijecaaGreatDoor
open Go.RowKit
theorem Hv {z:ao} {a:Int} (h:bD z) (h1:z.aK≤a) (h2:a<z.To) : qg z a=(vR z a,0):=by
 simp only [qg,qX h,if_true,if_pos (And.intro h1 h2)];rfl
set_option maxHeartbeats 8000000 in
theorem Bk (r:gC) (h:Heap) (cpu a:Int) (w:World) (hr:DX w r h) (hs:h.small) (IU:∀ z∈h.bf,eU z) (ha : -9223372036854775808≤a∧a≤9223372036854775807) :
 bq Tryz.prog 46 [.agg (cV r).toArray,.int .i64 cpu,.int .i64 a] w (ja w.heap.size (ga h cpu a)):=by
 refine aG Tryz.func46 rfl Tryz.ntmps46 rfl ?_;refine CW.seq (CW.region (SW.box rfl rfl fun b3 w1 hw bQ ax => ?_));have dB:=bQ;refine SW.alloc rfl fun b6 w2 bF eu aA => ?_
 have dl:w.heap.size≤b6:=Nat.le_trans hw.size eu
 have lB:b3≠b6:=by have:=ax.lt;omega
 (replace hw:=Ext.trans hw bF;replace ax:=ax.ext bF);have eC:=hr.cpus;obtain ⟨q,hq⟩ : ∃ q,fX h=q:=⟨_,rfl⟩
 have c1:∀ w',Ext w w'→bq Tryz.prog 88 [.agg (cV r).toArray] w' fun v _=>v = .int .i64 (if q then 0 else 8):=fun w' hx=>by
  have:=nz r h w' (hr.ext hx) hs IU
  rwa [hq] at this
 cases q
 ·simp only [Bool.false_eq_true,if_false] at c1;rw [Ec hq];repeat' (first|refine Wz ?_|(refine SW.call rfl rfl (c1 _ hw) ?_;intro v w1 ae hv;subst hv;replace hw:=Ext.trans hw ae;replace ax:=ax.ext ae;replace aA:=aA.ext ae;clear ae))
  refine SW.ak aA rfl rfl rfl rfl (dJ .zero) fun w5 bU hg => ?_
  replace hw:=hw.own dl hg;refine Wz ?_;exact ah.cX rfl rfl rfl bU rfl ⟨_,rfl,hw,ja.zero 8 _ _⟩
 ·simp only [if_true] at c1;have hm:=cG.1 hq;obtain ⟨z0,z1,f⟩:=fO hm;by_cases hc : 0≤cpu∧cpu<h.bw
  ·repeat' (first|refine Wz ?_|(refine SW.call rfl rfl (c1 _ hw) ?_;intro v w1 ae hv;subst hv;replace hw:=Ext.trans hw ae;replace ax:=ax.ext ae;replace aA:=aA.ext ae;clear ae))
   all_goals try omega
   clear c1;have M3:=hr.live.len;have s2:=hs.live;have dL:=jO f.live;refine SW.call rfl rfl (Ff r h.Live a _ (hr.live.ext hw) dL (fun b hb=>by obtain ⟨k,hk,rfl⟩:=List.getElem_of_mem hb;exact (f.live.each k hk).2.1) (by omega) ha) fun v w4 eM hv => ?_
   (replace hw:=Ext.trans hw eM;replace ax:=ax.ext eM;replace aA:=aA.ext eM);cases hf:br h.Live a
   ·rw [Ee hq hc hf];obtain ⟨i,rfl⟩:=hv.2 hf;repeat' (first|refine Wz ?_|(refine CW.dh rfl ?_))
    refine SW.ak aA rfl rfl rfl rfl (dJ .zero) fun w5 bU hg => ?_
    replace hw:=hw.own dl hg;refine Wz ?_;exact ah.cX rfl rfl rfl bU rfl ⟨_,rfl,hw,ja.zero 4 _ _⟩
   ·rw [nB hq hc hf];have hv:=hv.1 hf;subst hv;obtain ⟨hk,KC⟩:=ib hf;obtain ⟨k,ek⟩ : ∃ k,bi h.Live a=k:=⟨_,rfl⟩;simp only [ek] at hk KC ⊢;have E4:=f.live.each k hk;have RY:=f.next hk;repeat' (first|refine Wz ?_|(refine CW.di rfl ?_))
    refine SW.call rfl rfl (qx r h _ (hr.ext hw) hs) fun v w4 eM hv => ?_
    obtain ⟨s,rfl,hO⟩:=hv;have hM:=hO.own.dA.low hw.size;have hV:=hO.own.live.low hw.size;have Bl:=hO.own.cpus;obtain ⟨g,c,u0,u1,ls,eZ,hZ,hL,tY,IS⟩:=hO.split f.d.cj;have hZ:eV w4 w.heap.size g c u0 u1 (z0,z1):=⟨hZ.row.low hw.size,hZ.z0.low hw.size,hZ.z1.low hw.size,Nat.le_trans hw.size hZ.Ei,hZ.pos⟩
    replace hL:=hL.low hw.size;clear hO;(replace hw:=Ext.trans hw eM;replace ax:=ax.ext eM;replace aA:=aA.ext eM);obtain ⟨sz,m,cp,li,lv⟩:=s;simp only at eZ hM hV hL tY IS Bl;subst eZ;refine SW.ak ax rfl rfl rfl rfl (dJ ⟨⟨some ⟨g,0,none⟩,2,c⟩,m,cp,li,lv⟩) fun w5 cW hg => ?_
    have hG:=ax.gr hg;replace hw:=hw.own dB hg;replace aA:=aA.grown hg (by simpa using Ne.symm lB);(replace hZ:=hZ.aw hG rfl;replace hM:=hM.aw hG rfl;replace hV:=hV.aw hG rfl;replace hL:=hL.aw hG rfl);replace ax:=cW;clear cW hg hG;have Vz:=hV.len;have dY:k<lv.n:=by omega
    have Tw:=hV.sl.base;repeat' (first|refine Wz ?_|refine SW.st (aB rfl rfl ((hV.sl.all dY))) rfl ?_)
    have Ob:=hV.lt_size;refine SW.alloc rfl fun GR w1 ae oX du => ?_
    skip;refine SW.ak du rfl rfl rfl rfl (fP.one (enc:=aL) _) fun w2 lY hg => ?_
    have ap:=ae.own oX hg;have Hn:w.heap.size≤GR:=Nat.le_trans hw.size oX
    replace hw:=Ext.trans hw ap;replace ax:=ax.ext ap;replace aA:=aA.ext ap;replace hZ:=hZ.ext ap;replace hM:=hM.ext ap;replace hV:=hV.ext ap;replace hL:=hL.ext ap;replace du:=lY;clear lY ae hg ap;have KD:aM lv.A lv.c≠some GR:=fun e=>by have:=Ob _ e;omega
    refine Wz ?_;refine SW.dt rfl rfl (kM lv.A lv.n lv.c w.heap.size h.Live _ hV k dY (by omega) hw.size) fun v w6 hv => ?_
    obtain ⟨rfl,zG,hg⟩:=hv;have hG:=hV.gr hg;replace hw:=aO hw hg (Nat.le_refl _) hV.bc;replace hZ:=hZ.CS IS hg hG;replace du:=du.grown hg (fun e=>KD e.symm);(replace ax:=ax.aw hG rfl;replace aA:=aA.aw hG rfl;replace hM:=hM.aw hG rfl;replace hL:=hL.aw hG rfl);replace hV:=zG;clear zG hg hG;refine Wz ?_;refine SW.bz (i:=4) ax rfl rfl rfl rfl fun w7 cW hg => ?_
    have hG:=ax.gr hg;replace hw:=hw.own dB hg;replace aA:=aA.grown hg (by simpa using Ne.symm lB);(replace hZ:=hZ.aw hG rfl;replace hM:=hM.aw hG rfl;replace hV:=hV.aw hG rfl;replace hL:=hL.aw hG rfl;replace du:=du.aw hG rfl);replace ax:aW w7 b3 41 (cV ⟨⟨some ⟨g,0,none⟩,2,c⟩,m,cp,li,⟨lv.A,lv.n-1,lv.c⟩⟩):=cW;clear cW hg hG KD Ob;have qT:b6≠g:=fun e=>hZ.row.dq aA rfl (by rw [hZ.own,e])
    have nY:b3≠g:=fun e=>hZ.row.dq ax rfl (by rw [hZ.own,e])
    by_cases ho : 0<h.Live[k].Order
    ·rw [nC f.d.cj hk ek ho];refine Wz ?_;refine SW.dt rfl rfl (sN m cp li ⟨lv.A,lv.n-1,lv.c⟩ u0 u1 _ _ h.Live[k] w.heap.size g c b3 _ ax hZ hw.size f.d.start RY) fun v w8 hv => ?_
     obtain ⟨hg,u2,u3,Ce⟩:=hv;have hG:=hZ.gr hg;replace hw:=hw.own hZ.Ei hg;(replace ax:=ax.aw hG rfl;replace aA:=aA.aw hG rfl;replace hM:=hM.aw hG rfl;replace hV:=hV.aw hG rfl;replace hL:=hL.aw hG rfl);clear hZ hg hG du;refine Wz ?_;refine SW.ak aA rfl rfl rfl rfl (dJ ⟨⟨some ⟨g,0,none⟩,2,c⟩,m,cp,li,⟨lv.A,lv.n-1,lv.c⟩⟩) fun w9 bU hg => ?_
     have hG:=aA.gr hg;replace hw:=hw.own dl hg;replace Ce:=Ce.aw hG rfl;(replace hM:=hM.aw hG rfl;replace hV:=hV.aw hG rfl;replace hL:=hL.aw hG rfl);refine Wz ?_;exact ah.cX rfl rfl rfl bU rfl ⟨_,rfl,hw,⟨⟨some ⟨g,0,none⟩,2,c⟩,m,cp,li,⟨lv.A,lv.n-1,lv.c⟩⟩,rfl,⟨Bl,hM,hV,⟨[u2,u3],⟨Ce.row,eK.two Ce.z0 Ce.z1⟩⟩,⟨ls,hL⟩⟩⟩
    ·rw [nD f.d.cj hk ek ho];have JD:h.Live[k].Order=0:=by have:=E4.1.1;omega
     have TN:=RY.at_;rw [KC] at TN;have Tt:u0.To=z0.To:=hZ.z0.lV
     have VA:=f.d.Ac;have P4:=f.d.E9
     have Cj:∃ (zi:Nat) (ui:cU) (zz:ao),∃ k0:zi<2,[u0,u1][zi]'k0=ui∧(if a<u0.To then (0:Int) else 1)=(zi:Int)∧fc w7 w.heap.size ui zz∧bD zz∧(zz.aK≤a∧a<zz.To)∧keyOf z0 z1 cpu a=⟨cpu,(zi:Int),vR zz a,[]⟩:=by
      by_cases hx:a<z0.To
      ·exact ⟨0,u0,z0,by omega,rfl,by rw [if_pos (by omega)];rfl,hZ.z0,f.d.kf,⟨by have:=f.d.mK;omega,hx⟩,by unfold keyOf;rw [if_pos hx,if_pos hx];rfl⟩
      ·exact ⟨1,u1,z1,by omega,rfl,by rw [if_neg (by omega)];rfl,hZ.z1,f.d.j3,⟨by omega,by omega⟩,by unfold keyOf;rw [if_neg hx,if_neg hx];rfl⟩
     obtain ⟨zi,ui,zz,k0,L4,pD,Ae,L8,⟨Jb,TO⟩,qC⟩:=Cj
     have cz:∀ w',Sl w' 4 bX (some ⟨g,0,none⟩) 2 [u0,u1]→bq Tryz.prog 110 [.agg (cV ⟨⟨some ⟨g,0,none⟩,2,c⟩,m,cp,li,⟨lv.A,lv.n-1,lv.c⟩⟩).toArray,.int .i64 a] w' fun v _=>v = .int .i64 (zi:Int):=fun w' h=>by
      have:=sM ⟨⟨some ⟨g,0,none⟩,2,c⟩,m,cp,li,⟨lv.A,lv.n-1,lv.c⟩⟩ u0 u1 a w' h
      rwa [pD] at this
     have TP:=hZ.row.sl.base;obtain ⟨t,ht⟩ : ∃ t,vR zz a=t:=⟨_,rfl⟩;obtain ⟨q1,q2,q3,q4⟩:=pE Ae L8;repeat' (first|refine Wz ?_|(refine SW.call rfl rfl (cz _ hZ.row.sl) ?_;intro v w1 ae hv;subst hv;replace hw:=Ext.trans hw ae;replace ax:=ax.ext ae;replace aA:=aA.ext ae;replace du:=du.ext ae;replace hZ:=hZ.ext ae;replace hM:=hM.ext ae;replace hV:=hV.ext ae;replace hL:=hL.ext ae;replace Ae:=Ae.ext ae;clear ae))
     have fz:=hZ.row.sl.all k0;simp only [L4] at fz;repeat' (first|refine Wz ?_|refine SW.st (aB rfl rfl fz) rfl ?_)
     refine SW.call rfl rfl (L7.C5 ui zz a _ Ae.rd (by omega) (by omega) ⟨by omega,by omega⟩ ⟨by omega,by omega⟩) fun v w8 L9 hv => ?_
     rw [Hv L8 Jb TO,ht] at hv;simp only at hv;subst hv;(replace hw:=Ext.trans hw L9;replace ax:=ax.ext L9;replace aA:=aA.ext L9;replace hZ:=hZ.ext L9;replace hM:=hM.ext L9;replace hV:=hV.ext L9;replace hL:=hL.ext L9);clear Ae du fz cz;refine Wz ?_;have Oc:=hL.row.lt_size;have QD:=ax.lt;have QE:=aA.lt;refine SW.alloc rfl fun xP w1 ae Bm cq => ?_
     skip;refine SW.ak cq rfl rfl rfl rfl (GX ⟨cpu,zi,t,.nil⟩) fun w2 lZ hg => ?_
     have ap:=ae.own Bm hg;have Od:w.heap.size≤xP:=Nat.le_trans hw.size Bm
     replace hw:=Ext.trans hw ap;replace ax:=ax.ext ap;replace aA:=aA.ext ap;replace hZ:=hZ.ext ap;replace hM:=hM.ext ap;replace hV:=hV.ext ap;replace hL:=hL.ext ap;replace cq:=lZ;clear lZ ae hg ap;refine Wz ?_;replace aA:aW w2 b6 41 (cV .zero):=aA;have Po:∀ l∈h.au,l.av.length≤1000:=fun l hl=>by have:=(f.lists l hl).2;omega
     obtain ⟨F,hF⟩ : ∃ F:World→Prop,F=fun v=>aW v b6 41 (cV .zero)∧aW v xP 142 (bI ⟨cpu,zi,t,.nil⟩)∧eV v w.heap.size g c u0 u1 (z0,z1)∧Own v w.heap.size 3 1 bK m.A m.n m.c h.dk∧Own v w.heap.size 165 3 aL lv.A (lv.n-1) lv.c (h.Live.eraseIdx k):=⟨_,rfl⟩
     have TQ:=aA.lt;have QF:=cq.lt;have RZ:aM li.A li.c≠some b6:=hL.row.dq aA rfl
     have oT:Jv F w2:=by
      rw [hF];exact ⟨⟨aA,cq,hZ,hM,hV⟩,fun v v' hx hP=>⟨hP.1.ext hx,hP.2.1.ext hx,hP.2.2.1.ext hx,hP.2.2.2.1.ext hx,hP.2.2.2.2.ext hx⟩⟩
     have IX:∀ (v v':World) (row:Option Nat),v.grownBy v' row→(∀ k,row=some k→k=b3∨aM li.A li.c=some k∨w2.heap.size≤k)→F v→F v':=fun v v' row hg uO hP=>by
      rw [hF] at hP ⊢;refine ⟨hP.1.grown hg (fun e => ?_),hP.2.1.grown hg (fun e => ?_),hP.2.2.1.parts hg ((hZ.row.pQ hL ax rfl rfl).ne uO) ((hZ.z0.free.pQ hL ax rfl rfl).ne uO) ((hZ.z0.types.pQ hL ax rfl rfl).ne uO) ((hZ.z1.free.pQ hL ax rfl rfl).ne uO) ((hZ.z1.types.pQ hL ax rfl rfl).ne uO),hP.2.2.2.1.apart hg ((hM.pQ hL ax rfl rfl).ne uO),hP.2.2.2.2.apart hg ((hV.pQ hL ax rfl rfl).ne uO)⟩
      ·rcases uO b6 e.symm with h|h|h
       ·exact lB h.symm
       ·exact RZ h
       ·omega
      ·rcases uO xP e.symm with h|h|h
       ·omega
       ·have:=Oc _ h;omega
       ·omega
     have M8:∀ (i:Nat) (hi:i<ls.length) (v v':World),v.grownBy v' (aM ls[i].av.A ls[i].av.c)→F v→F v':=fun i hi v v' hg hP=>by
      rw [hF] at hP ⊢;have Hw:=(hL.each.get i hi (by rw [← hL.each.len];exact hi)).bM;exact ⟨hP.1.grown hg (fun e=>Hw.dq aA rfl e.symm),hP.2.1.grown hg (fun e=>Hw.dq cq rfl e.symm),hP.2.2.1.parts hg (hZ.row.mh Hw rfl) (hZ.z0.free.mh Hw rfl) (fun k e e2=>tY.types i hi k e2 u0 (by simp) e) (hZ.z1.free.mh Hw rfl) (fun k e e2=>tY.types i hi k e2 u1 (by simp) e),hP.2.2.2.1.apart hg (fun k e e2=>tY.dA i hi k e2 e),hP.2.2.2.2.apart hg (hV.mh Hw rfl)⟩
     obtain ⟨x,hx⟩ : ∃ x:ay,x=⟨cpu,zi,t,[]⟩:=⟨_,rfl⟩;have Hx:sI ⟨cpu,zi,t,.nil⟩ x:=by subst hx;exact ⟨rfl,rfl,rfl⟩
     obtain ⟨QG,_⟩:=hL.rd.len;have JE:=f.count;have TR:li.n≤256:=by have:=hL.rd.len.2;omega
     refine SW.dt rfl rfl (A9 ⟨some ⟨g,0,none⟩,2,c⟩ m cp li ⟨lv.A,lv.n-1,lv.c⟩ h.au ls x ⟨cpu,zi,t,.nil⟩ a F b3 w _ hw dB ax hL Hx rfl (by rw [hx]) tY.sep f.mr (by omega) Po oT IX M8) fun v w9 hv => ?_
     obtain ⟨yS,R0,Gj,sS,cW,Pp,_⟩:=hv;rw [hF] at R0;obtain ⟨dE,lZ,Ce,Pq,zG⟩:=R0;clear hw ax hL aA cq hZ hM hV oT IX M8 RZ TQ QF QD QE Oc;have hw:=yS;have ax:=cW;have hL:=Pp;have aA:=dE;have cq:=lZ;have hZ:=Ce;have hM:=Pq;have hV:=zG;clear yS cW Pp dE lZ Ce Pq zG;obtain ⟨pg,ua⟩ : ∃ pg,cd h.au x++[a]=pg:=⟨_,rfl⟩;have Oe:keyOf z0 z1 cpu a=x:=by rw [qC,ht,hx]
     rw [Oe,ua];rw [ua] at hL;obtain ⟨xx,KE⟩ : ∃ xx:ay,(⟨x.fT,x.ao,x.Ty,pg⟩ : ay)=xx:=⟨_,rfl⟩;rw [KE] at hL;have R1:fZ x xx:=by rw [← KE];exact ⟨rfl,rfl,rfl⟩
     obtain ⟨e1,e2⟩:=iP (L:=h.au) R1;obtain ⟨e3,e4⟩:=AQ (L:=h.au) (x:=xx);obtain ⟨e5,e6⟩:=iP (L:=fQ h.au xx) R1;obtain ⟨p0,sU⟩ : ∃ p0,bg h.au xx=p0:=⟨_,rfl⟩;rw [sU] at e1 e3;have KF:=vL (L:=h.au) (x:=xx);rw [sU] at KF;obtain ⟨Ma,Na⟩:=List.getElem?_eq_some_iff.1 KF;obtain ⟨l3,l4⟩:=hL.rd.len;have Hg:p0<Gj.n:=by omega
     have Mb:p0<sS.length:=by omega
     have R2:Gj.n≤257:=by
      rw [← l4,fQ];split
      ·simp;omega
      ·rw [cf _ (lf _ _)];omega
     have cl:∀ w',vy w' Gj sS (fQ h.au xx)→bq Tryz.prog 113 [.agg (cV ⟨⟨some ⟨g,0,none⟩,2,c⟩,m,cp,Gj,⟨lv.A,lv.n-1,lv.c⟩⟩).toArray,.agg (bI ⟨cpu,zi,t,.nil⟩).toArray] w' fun v _=>v = .tuple #[.int .i64 (p0:Int),.bool true]:=fun w' hh=>by
      have:=sJ ⟨⟨some ⟨g,0,none⟩,2,c⟩,m,cp,Gj,⟨lv.A,lv.n-1,lv.c⟩⟩ (fQ h.au xx) sS x ⟨cpu,zi,t,.nil⟩ w' hh Hx (by simp only;omega)
      rwa [e5,e3,e6,e4] at this
     repeat' (first|refine Wz ?_|(refine SW.call rfl rfl (cl _ hL.rd) ?_;intro v w1 ae hv;subst hv;replace hw:=Ext.trans hw ae;replace ax:=ax.ext ae;replace aA:=aA.ext ae;replace hZ:=hZ.ext ae;replace hM:=hM.ext ae;replace hV:=hV.ext ae;replace hL:=hL.ext ae;clear ae))
     clear cl cq;have TS:=hL.row.sl.base;have zF:=hL.each.get p0 Mb Ma;rw [Na] at zF;have Cc:=zF.bM.sl.len;have PO:xx.av=pg:=by rw [← KE]
     rw [PO] at Cc;have g3:=hL.row.sl.fw Hg (j:=3) (u := .slice sS[p0].av.A sS[p0].av.n sS[p0].av.c) rfl;by_cases h8 : 8<pg.length
     ·have Jo:cK h.au x=true:=by
       cases e:cK h.au x with
       | true=>rfl
       | false=>rw [ln e] at ua;rw [← ua] at h8;simp at h8
      have xd:p0<h.au.length:=by rw [← e1];exact (iu Jo).1
      have Qi:cd h.au x=h.au[p0].av:=by
       rw [fM Jo (by omega)];simp only [e1]
      rw [Qi] at ua;have VB:=(f.lists _ (List.getElem_mem xd)).2;have TT:pg.length=h.au[p0].av.length+1:=by rw [← ua];simp
      have G5:∀ j,j≤4→pg.take j=h.au[p0].av.take j:=fun j hj=>by rw [← ua,List.take_append_of_le_length (by omega)]
      have j2:∀ (j:Nat) (hj:j<pg.length) (pX:j<h.au[p0].av.length),pg[j]=h.au[p0].av[j]:=fun j hj pX=>by
       simp only [← ua];exact List.getElem_append_left pX
      have QH:iQ h z0 z1 x pg (h.Live.eraseIdx k)=⟨[(bE (z0,z1) ((pg.take 4).map bL)).1,(bE (z0,z1) ((pg.take 4).map bL)).2],h.dk,h.bw,fQ h.au (kY x (pg.drop 4)),h.Live.eraseIdx k⟩:=by
       unfold iQ;rw [if_pos h8]
      rw [QH];have Jc:=zF.bM.le;repeat' (first|refine Wz ?_|refine SW.st (aq rfl g3) rfl ?_|(refine SW.st (cS (k:=4) rfl rfl (by omega)) rfl ?_))
      refine CW.loop (fun t:Nat×cU×cU=>[(3,.pointer (some ⟨b3,0,none⟩)),(6,.pointer (some ⟨b6,0,none⟩)),(16,.int .i64 (p0:Int)),(107,.slice sS[p0].av.A 4 sS[p0].av.c),(108,.int .i64 4),(109,.int .i64 (t.1:Int))])
       (fun t w'=>t.1≤4∧Ext w w'∧aW w' b3 41 (cV ⟨⟨some ⟨g,0,none⟩,2,c⟩,m,cp,Gj,⟨lv.A,lv.n-1,lv.c⟩⟩)∧aW w' b6 41 (cV .zero)∧eV w' w.heap.size g c t.2.1 t.2.2 (bE (z0,z1) ((pg.take t.1).map bL))∧Own w' w.heap.size 3 1 bK m.A m.n m.c h.dk∧Own w' w.heap.size 165 3 aL lv.A (lv.n-1) lv.c (h.Live.eraseIdx k)∧eH w' w.heap.size Gj sS (fQ h.au xx)) (fun t=>4-t.1) (0,u0,u1)
       ⟨rfl,rfl,rfl,rfl,rfl,rfl,trivial⟩ ⟨by omega,hw,ax,aA,by simpa [bE] using hZ,hM,hV,hL⟩ ?_
      clear hw ax aA hZ hM hV hL zF g3 TP nY qT;rintro ⟨j,u0,u1⟩ w' ⟨hj,hw,ax,aA,hZ,hM,hV,hL⟩
      simp only at hj hZ ⊢;have zF:=hL.each.get p0 Mb Ma;rw [Na] at zF
      have Of:Own w' w.heap.size 3 1 bK sS[p0].av.A sS[p0].av.n sS[p0].av.c pg:=by
       have:=zF.bM
       rwa [PO] at this
      have QI:=Of.sl.base;by_cases VC:j<4
      ·have nd:j<sS[p0].av.n:=by omega
       have R3:j<pg.length:=by omega
       have hD:=f.inv xd j (by omega);have hN:=f.CN xd (show j<h.au[p0].av.length by omega)
       have TU:bE (z0,z1) ((pg.take (j+1)).map bL)=eR (bE (z0,z1) ((pg.take j).map bL)) (bL pg[j]):=by
        rw [List.take_succ_eq_append_getElem R3,List.map_append,lE];rfl
       rw [← G5 j hj,← j2 j R3 (by omega)] at hN;rw [← G5 j hj] at hD;have VD : 0<4→sS[p0].av.A.isSome=true:=fun _=>QI (by omega)
       repeat' (first|refine Wz ?_|refine SW.st (aq rfl (Of.sl.one nd rfl)) rfl ?_)
       refine SW.dt rfl rfl (sN m cp Gj ⟨lv.A,lv.n-1,lv.c⟩ u0 u1 _ _ (bL pg[j]) w.heap.size g c b3 _ ax hZ hw.size hD hN) fun v w8 hv => ?_
       obtain ⟨hg,u2,u3,Ce⟩:=hv;have hG:=hZ.gr hg;replace hw:=hw.own hZ.Ei hg;(replace ax:=ax.aw hG rfl;replace aA:=aA.aw hG rfl;replace hM:=hM.aw hG rfl;replace hV:=hV.aw hG rfl;replace hL:=hL.aw hG rfl);refine Wz ?_;exact ah.again (j+1,u2,u3) ⟨rfl,rfl,rfl,rfl,rfl,rfl,trivial⟩ (by simp only;omega) ⟨by simp only;omega,hw,ax,aA,by simp only;rw [TU];exact Ce,hM,hV,hL⟩
      ·obtain rfl:j=4:=by omega
       have TS:=hL.row.sl.base;refine Wz ?_;refine CW.iL 13 13 (fun _=>True) mixed (by kernel_rfl) fun w1 ae aJ => ?_
       replace hw:=Ext.trans hw ae;replace ax:=ax.ext ae;replace aA:=aA.ext ae;replace hZ:=hZ.ext ae;replace hM:=hM.ext ae;replace hV:=hV.ext ae;replace hL:=hL.ext ae;replace Of:=Of.ext ae;clear ae;refine Wf ?_;refine SF.take 8 [] [] aJ rfl (by kernel_rfl) (by kernel_rfl) (by kernel_rfl) ?_;repeat ((show SW _ _ _ _ (⟨_,Op.load _ _,_,_,_,none⟩::_) _ _;refine SW.st (aq rfl (hL.row.sl.fw Hg (j:=3) (u := .slice sS[p0].av.A sS[p0].av.n sS[p0].av.c) rfl)) rfl ?_))
       refine SW.ai ?_;refine SF.take 9 [] [] aJ rfl (by kernel_rfl) (by kernel_rfl) (by kernel_rfl) ?_;repeat ((refine SW.st (aV (k:=4) rfl rfl (by omega) (by omega)) rfl ?_))
       refine SW.ai ?_;refine SF.one 10 rfl (by kernel_rfl) rfl ?_;refine SW.call rfl rfl (dw _ _ _ _ _ (Of.sl.drop 4 sS[p0].av.c (by omega) (by omega)) (by omega)) fun v w4 ap hv => ?_
       obtain ⟨X,c4,rfl,hX⟩:=hv;replace hX:=hX.low hw.size;(replace hw:=Ext.trans hw ap;replace ax:=ax.ext ap;replace aA:=aA.ext ap;replace hZ:=hZ.ext ap;replace hM:=hM.ext ap;replace hV:=hV.ext ap;replace hL:=hL.ext ap);refine SW.nil (ah.sf ap ?_);refine Wf ?_;refine SF.last rfl (by kernel_rfl) (by kernel_rfl) ?_;refine SW.fH p0 3 ⟨sS[p0].fT,sS[p0].ao,sS[p0].Ty,⟨X,sS[p0].av.n-4,c4⟩⟩ hL.row rfl rfl rfl Hg (by decide) rfl rfl fun w6 gp qT => ?_
       have sO:=hL.row.gr qT;replace hw:=aO hw qT (Nat.le_refl _) hL.row.bc;have Kr:=hL.each.get p0 Mb Ma;rw [Na] at Kr;have hE:=eK.setAt (R':=od w6 w.heap.size) (x:=⟨sS[p0].fT,sS[p0].ao,sS[p0].Ty,⟨X,sS[p0].av.n-4,c4⟩⟩) (y:=kY x (pg.drop 4)) (i:=p0) hL.each ⟨Kr.cpu.trans (by rw [← KE];rfl),Kr.iG.trans (by rw [← KE];rfl),Kr.ty.trans (by rw [← KE];rfl),hX.aw sO rfl⟩ (fun j h1 h2 _ hh=>hh.aw sO rfl)
       have JF:(fQ h.au xx).set p0 (kY x (pg.drop 4))=fQ h.au (kY x (pg.drop 4)):=by
        rw [← sU];exact AR (by rw [← KE];exact ⟨rfl,rfl,rfl⟩)
       rw [JF] at hE;(replace ax:=ax.aw sO rfl;replace aA:=aA.aw sO rfl;replace hZ:=hZ.aw sO rfl;replace hM:=hM.aw sO rfl;replace hV:=hV.aw sO rfl);refine Wz ?_;refine SW.ak aA rfl rfl rfl rfl (dJ ⟨⟨some ⟨g,0,none⟩,2,c⟩,m,cp,Gj,⟨lv.A,lv.n-1,lv.c⟩⟩) fun w9 bU hg => ?_
       have hG:=aA.gr hg;replace hw:=hw.own dl hg;(replace hZ:=hZ.aw hG rfl;replace hM:=hM.aw hG rfl;replace hV:=hV.aw hG rfl);refine Wz ?_;exact ah.cX rfl rfl rfl bU rfl ⟨_,rfl,hw,⟨⟨some ⟨g,0,none⟩,2,c⟩,m,cp,Gj,⟨lv.A,lv.n-1,lv.c⟩⟩,rfl,⟨Bl,hM,hV,⟨[u0,u1],⟨hZ.row,eK.two hZ.z0 hZ.z1⟩⟩,⟨_,⟨gp.aw hG rfl,hE.mono fun _ _ hh=>hh.aw hG rfl⟩⟩⟩⟩
     ·have QH:iQ h z0 z1 x pg (h.Live.eraseIdx k)=⟨[z0,z1],h.dk,h.bw,fQ h.au xx,h.Live.eraseIdx k⟩:=by
       unfold iQ;rw [if_neg h8,← KE];rfl
      rw [QH];repeat' (first|refine Wz ?_|refine SW.st (aq rfl g3) rfl ?_)
      refine SW.ak aA rfl rfl rfl rfl (dJ ⟨⟨some ⟨g,0,none⟩,2,c⟩,m,cp,Gj,⟨lv.A,lv.n-1,lv.c⟩⟩) fun w9 bU hg => ?_
      have hG:=aA.gr hg;replace hw:=hw.own dl hg;(replace hZ:=hZ.aw hG rfl;replace hM:=hM.aw hG rfl;replace hV:=hV.aw hG rfl;replace hL:=hL.aw hG rfl);refine Wz ?_;exact ah.cX rfl rfl rfl bU rfl ⟨_,rfl,hw,⟨⟨some ⟨g,0,none⟩,2,c⟩,m,cp,Gj,⟨lv.A,lv.n-1,lv.c⟩⟩,rfl,⟨Bl,hM,hV,⟨[u0,u1],⟨hZ.row,eK.two hZ.z0 hZ.z1⟩⟩,⟨sS,hL⟩⟩⟩
  ·rw [Ed hq hc];repeat' (first|refine Wz ?_|refine SW.cw rfl rfl rfl (fun h => ?_) (fun h => ?_)|(refine SW.call rfl rfl (c1 _ hw) ?_;intro v w1 ae hv;subst hv;replace hw:=Ext.trans hw ae;replace ax:=ax.ext ae;replace aA:=aA.ext ae;clear ae))
   all_goals try omega
   all_goals
    refine SW.ak aA rfl rfl rfl rfl (dJ .zero) fun w5 bU hg => ?_
    replace hw:=hw.own dl hg;refine Wz ?_;exact ah.cX rfl rfl rfl bU rfl ⟨_,rfl,hw,ja.zero 1 _ _⟩
open Go.RowKit
section
variable {w w':World} {lo t:Nat} {R:List cy} {L:List ay} {y:cy} {x:ay}
end
open Go.RowKit
open Go.RowKit
def ug (z:ao) : Prop:=z.aj.length≤257∧z.Types.length≤32
theorem yb {s:ao×ao} (h:ug s.1∧ug s.2) (b:Block) : ug (eR s b).1∧ug (eR s b).2:=by
 unfold eR;split
 ·exact ⟨⟨(kb _ _ _).1,(kb _ _ _).2.1⟩,h.2⟩
 ·exact ⟨h.1,(kb _ _ _).1,(kb _ _ _).2.1⟩
theorem tH:∀ (l:List Block) {s:ao×ao},ug s.1∧ug s.2→ug (bE s l).1∧ug (bE s l).2
 | [],_,h=>h
 | b::l,s,h=>tH l (s:=eR s b) (yb h b)
theorem ug.small {z:ao} (h:ug z) : z.aj.length*24≤140737488355328∧z.Types.length*8≤140737488355328:=⟨Nat.le_trans (Nat.mul_le_mul_right 24 h.1) (by decide),by have:=h.2;omega⟩
theorem Hy {α:Type} {l:List α} {i:Nat} {b x : α} (h:x∈aN l i b) : x=b∨x∈l:=by
 unfold aN at h;rw [List.mem_append,List.mem_append] at h;rcases h with (h|h)|h
 ·exact .inr (List.mem_of_mem_take h)
 ·exact .inl (by simpa using h)
 ·exact .inr (List.mem_of_mem_drop h)
theorem Hz {L:List ay} {x y:ay} (h:y∈fQ L x) : y=x∨y∈L:=by
 unfold fQ at h;split at h
 ·rcases List.mem_or_eq_of_mem_set h with h|h
  ·exact .inr h
  ·exact .inl h
 ·exact Hy h
theorem HA (L:List ay) (x:ay) : (fQ L x).length≤L.length+1:=by
 unfold fQ;split
 ·simp
 ·rw [cf _ (lf L x)];omega
theorem Bn {h:Heap} {z0 z1:ao} (f:gq h z0 z1) (x:ay) : (cd h.au x).length≤8:=by
 cases e:cK h.au x with
 | false=>rw [ln e];simp
 | true =>
   obtain ⟨h1,_⟩:=iu e;rw [fM e h1];exact (f.lists _ (List.getElem_mem h1)).2
theorem tI {h:Heap} {z0 z1:ao} (f:gq h z0 z1) (x:ay) (hx:x.av.length≤9) : (fQ h.au x).length*48≤140737488355328 ∧ ∀ l∈fQ h.au x,l.av.length*8≤140737488355328:=by
 have:=f.count
 have:=HA h.au x
 refine ⟨by omega,fun l hl => ?_⟩;rcases Hz hl with rfl|hl
 ·omega
 ·have:=(f.lists l hl).2;omega
theorem tJ (h:Heap) (cpu a:Int) (hs:h.small) : (ga h cpu a).2.small:=by
 have hz:((8:Int),(⟨[],[],0,[],[]⟩ : Heap)).2.small:=by constructor<;>simp
 cases hq:fX h
 ·rw [Ec hq];exact hz
 ·by_cases hc : 0≤cpu∧cpu<h.bw
  ·cases hf:br h.Live a
   ·rw [Ee hq hc hf];exact hz
   ·rw [nB hq hc hf];obtain ⟨z0,z1,f⟩:=fO (cG.1 hq);obtain ⟨hk,_⟩:=ib hf;have R4:=iO f.d.kf;have xo:=iO f.d.j3;have M4:ug z0∧ug z1:=⟨⟨by omega,R4.2⟩,⟨by omega,xo.2⟩⟩
    have qi:(h.Live.eraseIdx (bi h.Live a)).length*24≤140737488355328:=by
     have:=hs.live
     have:=List.length_eraseIdx_le h.Live (bi h.Live a)
     omega
    by_cases ho : 0<h.Live[bi h.Live a].Order
    ·rw [nC f.d.cj hk rfl ho];have hb:=yb (s:=(z0,z1)) M4 h.Live[bi h.Live a];refine ⟨by simp [oO],hs.dA,hs.lists,qi,fun z hz => ?_,hs.bM⟩;simp only [oO,List.mem_cons,List.not_mem_nil,or_false] at hz;rcases hz with rfl|rfl
     ·exact hb.1.small
     ·exact hb.2.small
    ·rw [nD f.d.cj hk rfl ho];have hp:=Bn f (keyOf z0 z1 cpu a);unfold iQ;split
     ·have hb:=tH (((cd h.au (keyOf z0 z1 cpu a)++[a]).take 4).map bL) (s:=(z0,z1)) M4;obtain ⟨g1,g2⟩:=tI f (kY (keyOf z0 z1 cpu a) ((cd h.au (keyOf z0 z1 cpu a)++[a]).drop 4)) (by simp only [kY,List.length_drop,List.length_append,List.length_singleton];omega);refine ⟨by simp,hs.dA,g1,qi,fun z hz => ?_,g2⟩;simp only [List.mem_cons,List.not_mem_nil,or_false] at hz;rcases hz with rfl|rfl
      ·exact hb.1.small
      ·exact hb.2.small
     ·obtain ⟨g1,g2⟩:=tI f (kY (keyOf z0 z1 cpu a) (cd h.au (keyOf z0 z1 cpu a)++[a])) (by simp only [kY,List.length_append,List.length_singleton];omega);refine ⟨by simp,hs.dA,g1,qi,fun z hz => ?_,g2⟩;simp only [List.mem_cons,List.not_mem_nil,or_false] at hz;rcases hz with rfl|rfl
      ·exact M4.1.small
      ·exact M4.2.small
  ·rw [Ed hq hc];exact hz
open Go.RowKit
theorem yd {z:ao} (h:eU z) (a o:Int) : eU (ee z a o).2:=by
 have h0:eU ⟨0,0,[],[]⟩:=by unfold eU;simp
 unfold ee;(repeat' split)<;>first|exact h|exact h0
theorem ye {s:ao×ao} (h:eU s.1∧eU s.2) (b:Block) : eU (eR s b).1∧eU (eR s b).2:=by
 unfold eR;split
 ·exact ⟨yd h.1 _ _,h.2⟩
 ·exact ⟨h.1,yd h.2 _ _⟩
theorem tK:∀ (l:List Block) {s:ao×ao},eU s.1∧eU s.2→eU (bE s l).1∧eU (bE s l).2
 | [],_,h=>h
 | b::l,s,h=>tK l (s:=eR s b) (ye h b)
theorem uP {a b:ao} (h:eU a∧eU b) : ∀ z∈[a,b],eU z:=fun z hz=>by
 simp only [List.mem_cons,List.not_mem_nil,or_false] at hz;rcases hz with rfl|rfl
 ·exact h.1
 ·exact h.2
theorem FB (h:Heap) (cpu a:Int) (hs:∀ z∈h.bf,eU z) : ∀ z∈(ga h cpu a).2.bf,eU z:=by
 have h0:∀ z∈(⟨[],[],0,[],[]⟩ : Heap).bf,eU z:=fun z hz=>by simp at hz
 unfold ga;split
 ·split
  ·split
   ·simp only [ic];split
    ·rename_i z0 z1 hz;have hb:eU z0∧eU z1:=⟨hs _ (by rw [hz];simp),hs _ (by rw [hz];simp)⟩
     split
     ·exact uP (ye (s:=(z0,z1)) hb _)
     ·unfold iQ;split
      ·exact uP (tK _ (s:=(z0,z1)) hb)
      ·exact uP hb
    ·exact h0
   ·exact h0
  ·exact h0
 ·exact h0
structure JG (h:Heap) : Prop where
 small:h.small
 uJ:∀ z∈h.bf,eU z
theorem JG.free {h:Heap} (a:JG h) (cpu at_:Int) : JG (ga h cpu at_).2:=⟨tJ h cpu at_ a.small,FB h cpu at_ a.uJ⟩
def kw (c:aF) (k:Nat) : aF:=⟨c.Names,c.aE,c.bG,c.Order,c.ab.eraseIdx k,c.ar⟩
def bV (s:ag) (i:Nat) (p:Heap×aF) : ag:=⟨s.Words,p.1,s.aa.set i p.2⟩
structure HB (c:aF) : Prop where
 small:c.small
 at_:∀ x∈c.ab,-9223372036854775808≤x.At∧x.At≤9223372036854775807
theorem HB.cut {c:aF} (h:HB c) (k:Nat) : HB (kw c k):=by
 have h1:=h.small.aH;have h2:=List.length_eraseIdx_le c.ab k;exact ⟨⟨h.small.names,by simp only [kw];omega,h.small.a8⟩,fun x hx=>h.at_ x (List.mem_of_mem_eraseIdx hx)⟩
theorem ag.dW.jv {s:ag} (h:s.dW) : JG s.Heap:=⟨h.small.heap,h.cj⟩
theorem ag.dW.Pr {s:ag} (h:s.dW) {i:Nat} (hi:i<s.aa.length) : HB s.aa[i]:=⟨h.small.each _ (List.getElem_mem hi),h.aH _ (List.getElem_mem hi)⟩
theorem Bo {s:ag} (h:s.small) (i:Nat) {p:Heap×aF} (h1:JG p.1) (h2:HB p.2) : (bV s i p).small:=by
 refine ⟨h.words,h1.small,by simp only [bV,List.length_set];exact h.bR,fun c hc => ?_⟩;rcases List.mem_or_eq_of_mem_set hc with hc|rfl
 ·exact h.each c hc
 ·exact h2.small
open Go.RowKit
theorem nH {α:Type} {p : α → Bool} {l:List α} (h:l.any p=true) : ∃ (i:Nat) (hi:i<l.length),p l[i]=true∧(∀ (j:Nat) (hj:j<l.length),j<i→p l[j]=false)∧idxOf p l=(i:Int):=by
 have h1:l.findIdx p<l.length:=List.findIdx_lt_length_of_exists (by simpa using h)
 exact ⟨l.findIdx p,h1,List.findIdx_getElem (w:=h1),fun j hj jm=>by simpa using List.not_of_lt_findIdx jm,by unfold idxOf;rw [if_pos h]⟩
noncomputable def lJ (s:ag) (n:ByteArray) (cpu:Int) : Int:=if en s then (if s.aa.any (gD n) then (if 0≤cpu∧cpu<s.Heap.bw then 0 else 1) else 4) else 8
theorem HC {s:ag} {n:ByteArray} {cpu:Int} (h:en s=false) : lJ s n cpu=8:=by simp [lJ,h]
theorem HD {s:ag} {n:ByteArray} {cpu:Int} (h:en s=true) (h1:s.aa.any (gD n)=false) : lJ s n cpu=4:=by simp only [lJ,h,h1,if_true,Bool.false_eq_true,if_false]
theorem HE {s:ag} {n:ByteArray} {cpu:Int} (h:en s=true) (h1:s.aa.any (gD n)=true) (h2 : ¬ (0≤cpu∧cpu<s.Heap.bw)) : lJ s n cpu=1:=by simp only [lJ,h,h1,if_true,if_neg h2]
theorem C6 {s:ag} {n:ByteArray} {cpu:Int} (h:en s=true) (h1:s.aa.any (gD n)=true) (h2 : 0≤cpu∧cpu<s.Heap.bw) : lJ s n cpu=0:=by simp only [lJ,h,h1,if_true,if_pos h2]
theorem rF {s:ag} {n:ByteArray} {cpu:Int} (h:lJ s n cpu=0) : en s=true∧s.aa.any (gD n)=true∧0≤cpu∧cpu<s.Heap.bw:=by
 unfold lJ at h;split at h
 ·rename_i h0;split at h
  ·rename_i h1;split at h
   ·rename_i h2;exact ⟨h0,h1,h2⟩
   ·omega
  ·omega
 ·omega
def Mc (lo:Nat) (s:ag) (n:ByteArray) (cpu:Int) (v:Value) (w:World) : Prop :=
 (lJ s n cpu≠0∧v = .tuple #[.agg (ba .zero).toArray,.int .i64 0,.int .i64 (lJ s n cpu)]) ∨
 (lJ s n cpu=0 ∧ ∃ q cs,v = .tuple #[.agg (ba q).toArray,.int .i64 (idxOf (gD n) s.aa),.int .i64 0]∧SX w lo q s cs∧SI w lo q s cs)
theorem sV {s:ag} {i:Nat} {p:Heap×aF}:(bV s i p).aa.length=s.aa.length:=List.length_set
theorem nI {s:ag} {i:Nat} (hi:i<s.aa.length) : bV s i (s.Heap,s.aa[i])=s:=by
 cases s
 simp [bV]
section
variable {w w':World} {lo:Nat} {r:eQ} {s:ag} {cs:List dv} {i:Nat} {p:Heap×aF}
theorem pS.rows (h:SX w lo r (bV s i p) cs) : cs.length=s.aa.length∧r.aa.n=s.aa.length:=by
 have h1:=h.row.len;have h2:=h.each.len;rw [sV] at h2;omega
theorem pS.get (h:SX w lo r (bV s i p) cs) (hi:i<cs.length) (r6:i<s.aa.length) : mJ w lo cs[i] p.2:=by
 have:=h.each.get i hi (by rw [sV];exact r6)
 simpa [bV] using this
theorem pS.zH {n':Nat} {l':List Slab} (h:SX w lo r (bV s i p) cs) (hi:i<cs.length) (r6:i<s.aa.length) (hO:Own w' lo 91 3 aX cs[i].ab.A n' cs[i].ab.c l') (hg:w.grownBy w' (aM cs[i].ab.A cs[i].ab.c)) :
 pS w' lo r (bV s i (p.1,⟨p.2.Names,p.2.aE,p.2.bG,p.2.Order,l',p.2.ar⟩)) cs (cs.set i ⟨cs[i].Names,cs[i].aE,cs[i].bG,cs[i].Order,⟨cs[i].ab.A,n',cs[i].ab.c⟩,cs[i].ar⟩):=by
 have:=h.aH hi (by rw [sV];exact r6) hO hg
 simpa [bV] using this
theorem pS.Me {H:gC} {h':Heap} {xz:List dv} (h:pS w lo r (bV s i p) xz cs) (hH:gZ w lo H h') : pS w lo ⟨r.Words,H,r.aa⟩ (bV s i (h',p.2)) xz cs:=⟨h.words,hH,h.row,h.each,h.pair⟩
end
open Go.RowKit
theorem ef.KG {l:List Int} {most x:Int} {acc:List Int} {r:Option (List Int)} (h:ef l most x acc r) : (acc.length:Int)≤most → ∀ out,r=some out→(out.length:Int)≤most:=by
 induction h with
 | done out=>intro ha o e;cases e;exact ha
 | bad=>intro _ _ e;cases e
 | @step k out r h1 hk h3 h ih =>
   intro ha o e;exact ih (by rw [List.length_append];simp;omega) o e
theorem lg {x o n:Int} (h:dy x=(o,n,0)) : (o=0∧n*x≤16)∨(o=1∧n*x≤32)∨(o=2∧n*x≤64):=by
 unfold dy at h;split at h
 ·rename_i hx;have k1:=Int.ediv_mul_le 16 (show x≠0 by omega);have k2:=Int.ediv_mul_le 32 (show x≠0 by omega);have k3:=Int.ediv_mul_le 64 (show x≠0 by omega);split at h
  ·simp only [Prod.mk.injEq] at h;obtain ⟨rfl,rfl,_⟩:=h;exact .inl ⟨rfl,k1⟩
  ·split at h
   ·simp only [Prod.mk.injEq] at h;obtain ⟨rfl,rfl,_⟩:=h;exact .inr (.inl ⟨rfl,k2⟩)
   ·simp only [Prod.mk.injEq] at h;obtain ⟨rfl,rfl,_⟩:=h;exact .inr (.inr ⟨rfl,k3⟩)
 ·simp only [Prod.mk.injEq] at h;omega
theorem Mf {s:ag} {a:Int} {i k:Nat} (hM:a9 s) (hF:jR s a i k) : 0≤a∧a<4096:=by
 have hc:=(hM.each i hF.hi).may;have hs:=hc.aH k hF.hk;have hl:=lg hc.lay;have ho:=hF.obj;rw [rD hF.hi hF.hk] at ho;unfold iJ at ho;simp only [Bool.and_eq_true,decide_eq_true_eq] at ho;have qi:=hs.live;cases hf:br s.Heap.Live ((s.aa[i]'hF.hi).ab[k]'hF.hk).At with
 | false =>
   rw [zA hf] at qi;omega
 | true =>
   obtain ⟨hk,e⟩:=ib hf;rw [vS hf hk] at qi;obtain ⟨_,h2,h3,_⟩:=hM.heap.live.each _ hk;rw [qi] at h3;rw [e] at h2 h3;obtain ⟨p,hp⟩ : ∃ p,(s.aa[i]'hF.hi).bG*(s.aa[i]'hF.hi).aE=p:=⟨_,rfl⟩;rw [hp] at hl ho;rcases hl with ⟨h,_⟩|⟨h,_⟩|⟨h,_⟩<;>(rw [h] at h3;simp [pw] at h3;omega)
def kZ (c:aF) (x:Slab) : Bool:=decide (x.aj=c.bG) && !decide (x.At∈c.ar)
def fu (c:aF) (k:Nat) (x:Slab) (a:Int) : aF:=⟨c.Names,c.aE,c.bG,c.Order,c.ab.set k ⟨x.At,x.aj+1,a⟩,c.ar⟩
theorem HB.put {c:aF} (h:HB c) {k:Nat} (hk:k<c.ab.length) (a:Int) : HB (fu c k c.ab[k] a):=by
 refine ⟨⟨h.small.names,by simp only [fu,List.length_set];exact h.small.aH,h.small.a8⟩,fun y hy => ?_⟩;rcases List.mem_or_eq_of_mem_set hy with hy|rfl
 ·exact h.at_ y hy
 ·exact h.at_ c.ab[k] (List.getElem_mem hk)
def C7 (s:ag) (x:Slab) (a:Int) : ag:=⟨s.Words.set a.toNat x.cr,s.Heap,s.aa⟩
noncomputable def qD (s:ag) (c:aF) (k:Nat) (x:Slab) (cpu a:Int) : Heap×aF :=
 if kZ (fu c k x a) ⟨x.At,x.aj+1,a⟩ && decide (1<(fu c k x a).ab.countP (kZ (fu c k x a))) then ((ga s.Heap cpu x.At).2,kw (fu c k x a) k) else (s.Heap,fu c k x a)
inductive rG (s:ag) (n:ByteArray) (cpu a:Int) : ag×Int→Prop where
 | ask (h:lJ s n cpu≠0) : rG s n cpu a (.zero,lJ s n cpu)
 | none {u:Int×Int×Int} (h:lJ s n cpu=0) (hF:eg s a u) (bW : ¬ (u.2.2=0∧u.1=idxOf (gD n) s.aa)) : rG s n cpu a (.zero,4)
 | put {i k:Nat} (h:lJ s n cpu=0) (hF:eg s a (i,k,0)) (e:idxOf (gD n) s.aa=i) (hi:i<s.aa.length) (hk:k<s.aa[i].ab.length) : rG s n cpu a (bV (C7 s s.aa[i].ab[k] a) i (qD s s.aa[i] k s.aa[i].ab[k] cpu a),0)
theorem JG.qD {s:ag} (h:JG s.Heap) {c:aF} (hc:HB c) {k:Nat} (hk:k<c.ab.length) (cpu a:Int) : JG (qD s c k c.ab[k] cpu a).1∧HB (qD s c k c.ab[k] cpu a).2:=by
 unfold Go.Proofs.YtbidkghlpijecaaGreatDoor.qD;split
 ·exact ⟨h.free _ _,(hc.put hk a).cut _⟩
 ·exact ⟨h,hc.put hk a⟩
theorem rG.small {s:ag} {n:ByteArray} {cpu a:Int} {u:ag×Int} (x:rG s n cpu a u) (hf:s.dW) : u.1.small:=by
 cases x with
 | ask|none=>exact ag.jk
 | @put i k h hF e hi hk =>
   have h1:=hf.jv.qD (hf.Pr hi) hk cpu a;have hw:(C7 s s.aa[i].ab[k] a).small:=⟨by simp only [C7,List.length_set];exact hf.small.words,hf.small.heap,hf.small.bR,hf.small.each⟩
   exact Bo hw _ h1.1 h1.2
theorem eg.Og {s:ag} {a:Int} {i k:Int} (h:eg s a (i,k,0)) : ∃ (i' k':Nat),i=i'∧k=k'∧en s=true ∧ ∃ hF:jR s a i' k',0≤((s.aa[i']'hF.hi).ab[k']'hF.hk).aj∧((s.aa[i']'hF.hi).ab[k']'hF.hk).aj≤64:=by
 cases h with
 | @hit i' k' out h hF hC hm =>
   refine ⟨i',k',rfl,rfl,h,hF,?_⟩;have hc:=((ie.1 h).each i' hF.hi).may;have h1:=db hc.lay;have h2:=hC.1.KG (by simp;omega) out rfl;have h3:=hC.2.1;omega
open Go.RowKit
def rH (c:aF) : ByteArray:=c.Names.getD 0 ⟨#[]⟩
def qE (s:ag) (h:Heap) : ag:=⟨s.Words,h,s.aa⟩
def gb (s:ag) (cpu:Int) : Prop:=0≤cpu∧cpu<s.Heap.bw
inductive ki (s:ag) (cpu a:Int) : ag×Int→Prop where
 | bad (h:en s=false) : ki s cpu a (.zero,8)
 | range (h:en s=true) (hc : ¬ gb s cpu) : ki s cpu a (.zero,1)
 | obj {i:Nat} {u:ag×Int} (h:en s=true) (hc:gb s cpu) (hi:i<s.aa.length) (ho:ol s a (some i)) (hp:rG s (rH s.aa[i]) cpu a u) : ki s cpu a u
 | no (h:en s=true) (hc:gb s cpu) (ho:ol s a none) (hw:ca s a=false) : ki s cpu a (.zero,4)
 | whole (h:en s=true) (hc:gb s cpu) (ho:ol s a none) (hw:ca s a=true) : ki s cpu a (qE s (ga s.Heap cpu (a / 16)).2,0)
theorem iv {s:ag} {a:Int} (h:ca s a=true) : br s.Heap.Live (a / 16)=true∧0≤a∧a % 16=0:=by
 unfold ca at h;simp only [Bool.and_eq_true,decide_eq_true_eq] at h;exact ⟨h.2.2,h.1.1,h.1.2⟩
theorem FC {s:ag} {cpu a:Int} (hM:a9 s) (hc:gb s cpu) (hw:ca s a=true) : (ga s.Heap cpu (a / 16)).1=0:=by
 rw [nB (cG.2 hM.heap) hc (iv hw).1]
theorem HF {s:ag} (hf:s.dW) {i:Nat} (hi:i<s.aa.length) : (rH s.aa[i]).size≤140737488351232:=by
 unfold rH;rcases Nat.eq_zero_or_pos s.aa[i].Names.length with h|h
 ·rw [List.length_eq_zero_iff.1 h];decide
 ·have:=hf.names _ (List.getElem_mem hi) _ (List.getElem_mem h)
  simpa [h] using this
open Go.RowKit
theorem yf {w:World} (h:iK w) : ∀ j v,(kL.map (Value.int .i64))[j]?=some v→w.cell? ((⟨0,0,none⟩ : Addr).add j)=some v:=fun j v hv=>by
 rcases Nat.lt_or_ge j 6 with hj|hj
 ·have:=h.sl.one (i:=j) (u:=v) hj (by
   rcases (show j=0∨j=1∨j=2∨j=3∨j=4∨j=5 by omega) with rfl|rfl|rfl|rfl|rfl|rfl<;>simpa [kL,bK] using hv)
  simpa using this
 ·rw [List.getElem?_eq_none (by simp [kL];omega)] at hv;cases hv
def kP (j:Nat) : Int:=(2:Int) ^ j
theorem En {j:Nat} (h:j<6) : kP j∈kL∧kL[j]?=some (kP j)∧1≤kP j∧kP j≤32:=by
 unfold kP;rcases (show j=0∨j=1∨j=2∨j=3∨j=4∨j=5 by omega) with rfl|rfl|rfl|rfl|rfl|rfl<;>decide
theorem JH (j:Nat) : kP (j+1)=2*kP j:=by unfold kP;rw [Int.pow_succ,Int.mul_comm]
theorem yg {j:Nat} (h:j<6) : (kh (kP j)).size≤140737488351232:=by
 unfold kP;rcases (show j=0∨j=1∨j=2∨j=3∨j=4∨j=5 by omega) with rfl|rfl|rfl|rfl|rfl|rfl<;>decide
open Go.RowKit
structure SJ (G:Nat→Prop) (w:World) (lo:Nat) (r:eQ) (s:ag) (cs:List dv) : Prop where
 ints:∃ m1 m2,lo≤m1∧iU w m1 m2 r.Heap s.Heap ∧ ∀ g,((∃ u∈cs,aM u.ar.A u.ar.c=some g)∨G g)→(g<m1∨m2≤g)∧aM r.Words.A r.Words.c≠some g
 sep:∀ u∈cs,∀ g,G g→aM u.ar.A u.ar.c≠some g
section
variable {w w':World} {lo t:Nat} {r:eQ} {s:ag} {cs:List dv} {i:Nat} {p:Heap×aF} {G:Nat→Prop}
theorem SJ.rows {cs':List dv} {s':ag} (h:SJ G w lo r s cs) (hh:s'.Heap=s.Heap) (hc:∀ u∈cs',∃ v∈cs,aM u.ar.A u.ar.c=aM v.ar.A v.ar.c) : SJ G w lo r s' cs':=by
 obtain ⟨m1,m2,h1,h2,h3⟩:=h.ints;refine ⟨⟨m1,m2,h1,by rw [hh];exact h2,fun g e=>h3 g ?_⟩,fun u hu => ?_⟩
 ·rcases e with ⟨u,hu,e⟩|e
  ·obtain ⟨v,hv,e2⟩:=hc u hu;exact .inl ⟨v,hv,e2 ▸ e⟩
  ·exact .inr e
 ·obtain ⟨v,hv,e2⟩:=hc u hu;rw [e2];exact h.sep v hv
theorem SI.sj (h:SI w lo r s cs) : SJ (fun _=>False) w lo r s cs:=by
 obtain ⟨m1,m2,h1,h2,h3,h4,h5⟩:=h.ints;refine ⟨⟨m1,m2,h1,h4,fun g e => ?_⟩,fun u hu g e=>e.elim⟩;rcases e with ⟨u,hu,e⟩|e
 ·obtain ⟨j,hj,rfl⟩:=List.getElem_of_mem hu;have:=(h5.get j hj (by rw [← h5.len];exact hj)).a8.bc g e
  exact ⟨.inr this,fun e2=>by have:=h3 g e2;omega⟩
 ·exact e.elim
theorem SJ.ext (h:SJ G w lo r s cs) (hx:Ext w w') : SJ G w' lo r s cs:=by
 obtain ⟨m1,m2,h1,h2,h3⟩:=h.ints;exact ⟨⟨m1,m2,h1,h2.ext hx,h3⟩,h.sep⟩
theorem SJ.aw (h:SJ G w lo r s cs) (hG:r7 w w' t) (bW:(Nat.beq t 3 || (Nat.beq t 165 || (Nat.beq t 139 || Nat.beq t 142)))=false) : SJ G w' lo r s cs:=by
 obtain ⟨m1,m2,h1,h2,h3⟩:=h.ints;exact ⟨⟨m1,m2,h1,h2.aw hG bW,h3⟩,h.sep⟩
theorem SJ.ne (h:SJ G w lo r s cs) {g:Nat} (hg:G g) (hi:i<cs.length) : some g≠aM cs[i].ar.A cs[i].ar.c:=fun e=>h.sep _ (List.getElem_mem hi) g hg e.symm
theorem pS.act {l':List Int} (h:SX w lo r (bV s i p) cs) (hJ:SJ G w lo r (bV s i p) cs) (hi:i<cs.length) (r6:i<s.aa.length) (hO:Own w' lo 3 1 bK cs[i].ar.A cs[i].ar.n cs[i].ar.c l') (hg:w.grownBy w' (aM cs[i].ar.A cs[i].ar.c)) :
 SX w' lo r (bV s i (p.1,⟨p.2.Names,p.2.aE,p.2.bG,p.2.Order,p.2.ab,l'⟩)) cs∧SJ G w' lo r (bV s i (p.1,⟨p.2.Names,p.2.aE,p.2.bG,p.2.Order,p.2.ab,l'⟩)) cs:=by
 obtain ⟨m1,m2,h1,h2,h3⟩:=hJ.ints;have hc:=h.get hi r6;have hG:=hc.a8.gr hg;have Oh:cs.set i cs[i]=cs:=List.set_getElem_self hi
 have hh:iU w' m1 m2 r.Heap p.1:=by
  cases e:aM cs[i].ar.A cs[i].ar.c with
  | none=>rw [e] at hg;exact h2.aw (⟨none,hg,fun k hk=>by cases hk⟩ : r7 w w' 44) rfl
  | some g=>rw [e] at hg;exact h2.KB hg hG (h3 g (.inl ⟨_,List.getElem_mem hi,e⟩)).1
 have Oi:Own w' lo 3 1 bK r.Words.A r.Words.n r.Words.c s.Words:=h.words.apart hg fun g e e2=>(h3 g (.inl ⟨_,List.getElem_mem hi,e2⟩)).2 e
 refine ⟨⟨Oi,hh.own.low h1,h.row.aw hG rfl,?_,h.pair⟩,⟨⟨m1,m2,h1,hh,h3⟩,hJ.sep⟩⟩;have:=eK.setAt (x:=cs[i]) (R':=mJ w' lo) h.each (i:=i) (y:=⟨p.2.Names,p.2.aE,p.2.bG,p.2.Order,p.2.ab,l'⟩) ⟨hc.size,hc.g7,hc.order,hc.names.aw hG rfl,hc.aH.aw hG rfl,hO⟩ fun j h1 h2 jm ho=>⟨ho.size,ho.g7,ho.order,ho.names.aw hG rfl,ho.aH.aw hG rfl,ho.a8.grown hg (sR (.inl (o6 h.pair hi h1 jm).a8))⟩
 rw [Oh] at this;simpa [bV] using this
theorem pS.fresh {X:gg} {l':List Int} {H:gC} {h':Heap} {m:Nat} (h:SX w lo r (bV s i p) cs) (gB:lo≤m) (hm:∀ u∈cs,∀ g,aM u.ar.A u.ar.c=some g→g<m) (R5:∀ g,G g→g<m ∧ ∀ u∈cs,aM u.ar.A u.ar.c≠some g) (hX:Own w m 3 1 bK X.A X.n X.c l') (hH:gZ w m H h') :
 SX w lo ⟨X,H,r.aa⟩ (bV ⟨l',s.Heap,s.aa⟩ i (h',p.2)) cs∧SJ G w lo ⟨X,H,r.aa⟩ (bV ⟨l',s.Heap,s.aa⟩ i (h',p.2)) cs:=by
 have key:∀ g,((∃ u∈cs,aM u.ar.A u.ar.c=some g)∨G g)→g<m:=fun g e=>by
  rcases e with ⟨u,hu,e⟩|e
  ·exact hm u hu g e
  ·exact (R5 g e).1
 refine ⟨⟨hX.low gB,hH.low gB,h.row,h.each,h.pair⟩,⟨m,w.heap.size,gB,hH.uN,fun g e=>⟨.inl (key g e),fun e2 => ?_⟩⟩,fun u hu g e=>(R5 g e).2 u hu⟩;have:=key g e
 have:=hX.bc g e2
 omega
theorem pS.pG {n' c':Nat} {A':Option Addr} {l':List Slab} (h:SX w lo r (bV s i p) cs) (hi:i<cs.length) (r6:i<s.aa.length) (hO:Own w' lo 91 3 aX A' n' c' l') (hg:w.grownBy w' (aM cs[i].ab.A cs[i].ab.c)) (ju:∀ k,aM A' c'=some k→aM cs[i].ab.A cs[i].ab.c=some k∨w.heap.size≤k) :
 pS w' lo r (bV s i (p.1,⟨p.2.Names,p.2.aE,p.2.bG,p.2.Order,l',p.2.ar⟩)) cs (cs.set i ⟨cs[i].Names,cs[i].aE,cs[i].bG,cs[i].Order,⟨A',n',c'⟩,cs[i].ar⟩):=by
 have hc:=h.get hi r6;have hG:=hc.aH.gr hg;refine ⟨h.words.aw hG rfl,h.heap.aw hG rfl,h.row.aw hG rfl,?_,?_⟩
 ·have:=eK.setAt (R':=mJ w' lo) (i:=i) (x:=⟨cs[i].Names,cs[i].aE,cs[i].bG,cs[i].Order,⟨A',n',c'⟩,cs[i].ar⟩) (y:=⟨p.2.Names,p.2.aE,p.2.bG,p.2.Order,l',p.2.ar⟩) h.each ⟨hc.size,hc.g7,hc.order,hc.names.aw hG rfl,hO,hc.a8.aw hG rfl⟩ fun j h1 h2 jm ho=>⟨ho.size,ho.g7,ho.order,ho.names.aw hG rfl,ho.aH.grown hg (sR (.inl (o6 h.pair hi h1 jm).aH)),ho.a8.aw hG rfl⟩
  simpa [bV] using this
 ·refine Bh h.pair fun j hj jm => ?_
  have hp:=o6 h.pair hi hj jm;have dL:=(h.each.get j hj (by rw [← h.each.len];exact hj)).aH.lt_size
  have ha:apart ⟨A',n',c'⟩ cs[j].ab:=fun k e e2=>by
   rcases ju k e with e3|e3
   ·exact hp.aH k e3 e2
   ·have:=dL k e2;omega
  exact ⟨⟨hp.names,ha,hp.a8⟩,⟨gh hp.names,gh ha,gh hp.a8⟩⟩
theorem pS.JI (h:SX w lo r s cs) : ∀ u∈cs,∀ g,aM u.ar.A u.ar.c=some g→g<w.heap.size:=fun u hu g e=>by
 obtain ⟨j,hj,rfl⟩:=List.getElem_of_mem hu;exact (h.each.get j hj (by rw [← h.each.len];exact hj)).a8.lt_size g e
end
theorem FD {x y x' y':Block} (h:je x y) (e1:x'.At=x.At) (e2:x'.Order=x.Order) (e3:y'.At=y.At) (e4:y'.Order=y.Order) : je x' y':=by
 unfold je at *;rw [e1,e2,e3,e4];exact h
theorem FE {z:ao} (hz:bD z) {b:Block} {t:Int} (st:Bool) : AK (iD z b t st):=by
 have h:=AL hz;unfold iD;split
 ·unfold ia;split
  ·exact h
  ·unfold AK at *;rw [List.pairwise_map];exact h.imp fun {x y} PU=>FD PU (mo _ _ _ x).1 (mo _ _ _ x).2 (mo _ _ _ y).1 (mo _ _ _ y).2
 ·exact h
theorem Bp {a q:Int} (h1 : 1≤q) (h4:q≤4) (hm:a % pw q=0) : beside (a+pw (q-1)) (q-1)=a∧(a+pw (q-1)) % pw (q-1)=0:=by
 have hp:pw q=2*pw (q-1):=by
  have:=ks (o:=q-1) (by omega) (by omega)
  rwa [Int.sub_add_cancel] at this
 unfold beside;rcases dU (show 0≤q-1 by omega) (show q-1≤4 by omega) with ⟨e1,e2⟩|⟨e1,e2⟩|⟨e1,e2⟩|⟨e1,e2⟩|⟨e1,e2⟩<;>rw [hp,e2] at hm<;>rw [e2]<;>(refine ⟨?_,by omega⟩)<;>split<;>omega
theorem HG {f t:Int} {l:List Block} {a q ty:Int} (h:Ar f t l a q) (hn:AK l) (hq : 1≤q) : AK (oK ty a q l):=by
 obtain ⟨f1,f2,f3,f4,f5⟩:=h.fit;obtain ⟨hb,hm⟩:=Bp hq f2 f5
 have hp:pw q=2*pw (q-1):=by
  have:=ks (o:=q-1) (by omega) (by omega)
  rwa [Int.sub_add_cancel] at this
 have Pb:=bT (o:=q-1) (by omega) (by omega)
 have bW:∀ x∈l,x.At≠a:=fun x hx e=>by
  have:=bT (h.dD x hx).1.1 (h.dD x hx).1.2.1
  rcases h.GC x hx with g|g<;>omega
 have e:l=l.take (bi l (a+pw (q-1)))++l.drop (bi l (a+pw (q-1))):=(List.take_append_drop _ l).symm
 have h0:=hn;unfold AK at h0;rw [e,List.pairwise_append] at h0;obtain ⟨h1,h2,h3⟩:=h0
 have hA:∀ x∈l.take (bi l (a+pw (q-1))),je x (kX ty a q):=fun x hx=>by
  have lW:=List.mem_of_mem_take hx;obtain ⟨j,hj,rfl⟩:=List.getElem_of_mem hx;simp only [List.length_take] at hj;rw [List.getElem_take] at lW ⊢;have dL:=mE (l:=l) (a:=a+pw (q-1)) (k:=j) (by omega);refine ⟨?_,fun hh => ?_⟩
  ·simp only [kX];rcases h.GC _ lW with g|g<;>omega
  ·obtain ⟨_,_,hh⟩:=hh;simp only [kX,hb] at hh;exact bW _ lW hh
 have hB:∀ x∈l.drop (bi l (a+pw (q-1))),je (kX ty a q) x:=fun x hx=>by
  have lW:=List.mem_of_mem_drop hx;obtain ⟨j,hj,rfl⟩:=List.getElem_of_mem hx;simp only [List.length_drop] at hj;rw [List.getElem_drop] at lW ⊢;have Lj:=Au (l:=l) (a:=a+pw (q-1)) (by omega)
  have hle:(l[bi l (a+pw (q-1))]'(by omega)).At≤(l[bi l (a+pw (q-1))+j]'(by omega)).At:=by
   rcases Nat.eq_zero_or_pos j with rfl|Km
   ·exact Int.le_refl _
   ·have:=gL h.oE (show bi l (a+pw (q-1))+j<l.length by omega) (show bi l (a+pw (q-1))<bi l (a+pw (q-1))+j by omega)
    have:=bT (h.dD _ (List.getElem_mem (show bi l (a+pw (q-1))<l.length by omega))).1.1 (h.dD _ (List.getElem_mem (show bi l (a+pw (q-1))<l.length by omega))).1.2.1
    omega
  have Ps:=(h.dD _ lW).1;have Na:=bT Ps.1 Ps.2.1;refine ⟨?_,fun hh => ?_⟩
  ·simp only [kX];rcases h.GC _ lW with g|g<;>omega
  ·obtain ⟨g4,g5,hh⟩:=hh;have g6:=(nu Ps.1 g4 Ps.2.2.2.2).1;simp only [kX] at g5 hh;rw [← hh,← g5,hb] at g6;exact bW _ lW g6.symm
 unfold oK aN AK;rw [List.append_assoc,List.pairwise_append];refine ⟨h1,?_,fun x hx y hy => ?_⟩
 ·rw [List.singleton_append,List.pairwise_cons];exact ⟨hB,h2⟩
 ·rw [List.singleton_append,List.mem_cons] at hy;rcases hy with rfl|hy
  ·exact hA x hx
  ·exact h3 x hx y hy
theorem yh {f t ty:Int} (h0 : 0≤f) (ht:t≤256) (LH:t % 16=0) (si:ik ty) {a:Int}:∀ (k:Nat) (q:Int) (l:List Block),(k:Int)≤q→Ar f t l a q→AK l→Ar f t (kc ty a k q l) a (q-k)∧AK (kc ty a k q l)
 | 0,q,l,_,h,hn=>by
   refine ⟨?_,hn⟩;have:q-((0:Nat) : Int)=q:=by omega
   rw [this];exact h
 | k+1,q,l,hk,h,hn=>by
   have hq : 1≤q:=by omega
   have:=yh h0 ht LH si k (q-1) (oK ty a q l) (by omega) (AF h h0 ht LH hq si).1 (HG h hn hq)
   rw [kc];rwa [show q-1-(k:Int)=q-((k+1:Nat) : Int) by omega] at this
structure KH (z z':ao) : Prop where
 may:bD z'
 from_:z'.aK=z.aK
 lV:z'.To=z.To
theorem fL.qw {z:ao} {o t:Int} {u:ao×Int×Int} (h:fL z o t u) (h0:u.2.2=0) : KH z u.1∧(∃ x∈z.aj,x.At=u.2.1)∧dO z=true:=by
 cases h with
 | bad|range|kind|room=>simp at h0
 | @ok k st hq ho ht hk hp =>
   have hz:=ed.1 hq;obtain ⟨o1,o2,o3,o4,o5⟩:=hz.ok;obtain ⟨_,P5,RH⟩:=hp.ord;obtain ⟨l1,l2,l3⟩:=rj hz (b:=z.aj[k]) ht st;have NJ:k<(iD z z.aj[k] t st).length:=by omega
   have Kp:=sw hz ht st hk;have hJ:=xL l2 l3 NJ;rw [Kp] at hJ;simp only at hJ;have hn:AK ((iD z z.aj[k] t st).eraseIdx k):=(FE hz st).sublist (List.eraseIdx_sublist _ _)
   have sk:=hz.dD k hk;have Kj:ik (tW z t st z.aj[k]):=by unfold tW;split;exact ht;exact sk.2
   have hS:=yh (ty:=tW z t st z.aj[k]) o1 o3 o5 Kj (z.aj[k].Order-o).toNat z.aj[k].Order _ (by omega) hJ hn;have e:(if st=true then ia z.aj z.aj[k] t else z.aj)=iD z z.aj[k] t st:=rfl
   refine ⟨⟨⟨hz.ok,?_,?_,fun i hi => ?_,fun i hi => ?_⟩,rfl,rfl⟩,⟨z.aj[k],List.getElem_mem hk,rfl⟩,hq⟩
   ·simp only [qv];have hlen:=hz.len;split
    ·unfold iZ;split
     ·exact hlen
     ·split<;>simpa using hlen
    ·exact hlen
   ·simp only [qv];intro v hv;split at hv
    ·unfold iZ at hv;split at hv
     ·exact hz.types v hv
     ·split at hv
      ·rcases List.mem_or_eq_of_mem_set hv with hv|rfl
       ·rcases List.mem_or_eq_of_mem_set hv with hv|rfl
        ·exact hz.types v hv
        ·exact ht
       ·exact ht
      ·rcases List.mem_or_eq_of_mem_set hv with hv|rfl
       ·exact hz.types v hv
       ·exact ht
    ·exact hz.types v hv
   ·exact hS.1.dD _ (List.getElem_mem hi)
   ·have hn:=hS.2;unfold AK at hn;rw [List.pairwise_iff_getElem] at hn;exact hn i (i+1) (by simp only [qv] at hi;exact Nat.lt_of_succ_lt hi) hi (Nat.lt_succ_self i)
def gu (fl:Int) : Int:=if 0≤fl∧fl≤15 then (if fl / 2 % 4=0 then 0 else if fl / 2 % 4=1 then 1 else if fl / 2 % 4=2 then 2 else -1) else -1
theorem o8 {fl:Int} (h : 0≤gu fl) : (0≤fl∧fl≤15)∧ik (gu fl):=by
 unfold gu ik at *;split at h
 ·rename_i hf;rw [if_pos hf];refine ⟨hf,?_⟩;repeat' split
  all_goals omega
 ·omega
def uh (s:ao×ao) (zi:Int) : ao:=if zi=0 then s.1 else s.2
def o9 (s:ao×ao) (zi:Int) (z:ao) : ao×ao:=if zi=0 then (z,s.2) else (s.1,z)
def yi (m0 m1:Int) (s:ao×ao) (zi fl:Int) : Int:=(if 8≤fl then (if zi=0 then m0 else m1) / 2 else (if zi=0 then m0 else m1))+(if zi=0∧fl % 2=0 then (s.2.To-s.2.aK) / 32 else 0)
def gU (m0 m1:Int) (s:ao×ao) (zi o fl:Int) : Prop:=yi m0 m1 s zi fl≤im (uh s zi).aj-pw o
inductive gV (m0 m1 zi t fl:Int) : ao×ao→List Int→(ao×ao)×List Int→Prop
 | full {s:ao×ao} {l:List Int} (h:l.length=3) : gV m0 m1 zi t fl s l (s,l)
 | kQ {s:ao×ao} {l:List Int} (h:l.length<3) (he : ¬ gU m0 m1 s zi 0 fl) : gV m0 m1 zi t fl s l (s,l)
 | none {s:ao×ao} {l:List Int} {u:ao×Int×Int} (h:l.length<3) (he:gU m0 m1 s zi 0 fl) (ht:fL (uh s zi) 0 t u) (hu:u.2.2≠0) : gV m0 m1 zi t fl s l (s,l)
 | more {s:ao×ao} {l:List Int} {u:ao×Int×Int} {r:(ao×ao)×List Int} (h:l.length<3) (he:gU m0 m1 s zi 0 fl) (ht:fL (uh s zi) 0 t u) (hu:u.2.2=0) (hr:gV m0 m1 zi t fl (o9 s zi u.1) (l++[u.2.1]) r) : gV m0 m1 zi t fl s l r
theorem gV.ir {m0 m1 zi t fl:Int} {s:ao×ao} {l:List Int} {r r':(ao×ao)×List Int} (h:gV m0 m1 zi t fl s l r) : gV m0 m1 zi t fl s l r'→r=r':=by
 induction h with
 | full h=>intro k;cases k with
   | full=>rfl
   | kQ h'|none h'|more h'=>omega
 | kQ h he=>intro k;cases k with
   | full h'=>omega
   | kQ=>rfl
   | none _ nZ|more _ nZ=>exact absurd nZ he
 | none h he ht hu=>intro k;cases k with
   | full h'=>omega
   | kQ _ nZ=>exact absurd he nZ
   | none=>rfl
   | more _ _ og HH=>rw [ht.ir og] at hu;exact absurd HH hu
 | more h he ht hu hr ih=>intro k;cases k with
   | full h'=>omega
   | kQ _ nZ=>exact absurd he nZ
   | none _ _ og HH=>rw [ht.ir og] at hu;exact absurd hu HH
   | more _ _ og HH n0 =>
     have e:=ht.ir og;subst e;exact ih n0
def dX (x:ay) (pg:List Int) : ay:=⟨x.fT,x.ao,x.Ty,pg⟩
def sW (L:List ay) (x:ay) (pg:List Int) : List ay:=if pg.length≤1 then L.eraseIdx (bg L x) else L.set (bg L x) (dX x pg.dropLast)
def iE (L:List ay) (x:ay) (pg:List Int) : List ay:=if pg=[] then L else fQ L (dX x pg)
inductive iw (m0 m1 cpu zi o t fl:Int) (s:ao×ao) (L:List ay) : Option ((ao×ao)×List ay×Int)→Prop
 | list (ho:o=0) (hk:cK L ⟨cpu,zi,t,[]⟩=true) (hp:cd L ⟨cpu,zi,t,[]⟩≠[]) : iw m0 m1 cpu zi o t fl s L (some (s,sW L ⟨cpu,zi,t,[]⟩ (cd L ⟨cpu,zi,t,[]⟩),(cd L ⟨cpu,zi,t,[]⟩).getLast hp))
 | kQ (hn : ¬ (o=0∧cK L ⟨cpu,zi,t,[]⟩=true)) (he : ¬ gU m0 m1 s zi o fl) : iw m0 m1 cpu zi o t fl s L none
 | none {u:ao×Int×Int} (hn : ¬ (o=0∧cK L ⟨cpu,zi,t,[]⟩=true)) (he:gU m0 m1 s zi o fl) (ht:fL (uh s zi) o t u) (hu:u.2.2≠0) : iw m0 m1 cpu zi o t fl s L none
 | uJ {u:ao×Int×Int} (ho : 0<o) (he:gU m0 m1 s zi o fl) (ht:fL (uh s zi) o t u) (hu:u.2.2=0) : iw m0 m1 cpu zi o t fl s L (some (o9 s zi u.1,L,u.2.1))
 | fill {u:ao×Int×Int} {r:(ao×ao)×List Int} (ho:o=0) (hk:cK L ⟨cpu,zi,t,[]⟩=false) (he:gU m0 m1 s zi o fl) (ht:fL (uh s zi) o t u) (hu:u.2.2=0) (hr:gV m0 m1 zi t fl (o9 s zi u.1) [] r) : iw m0 m1 cpu zi o t fl s L (some (r.1,iE L ⟨cpu,zi,t,[]⟩ r.2,u.2.1))
theorem iw.ir {m0 m1 cpu zi o t fl:Int} {s:ao×ao} {L:List ay} {r r':Option ((ao×ao)×List ay×Int)} (h:iw m0 m1 cpu zi o t fl s L r) (k:iw m0 m1 cpu zi o t fl s L r') : r=r':=by
 cases h with
 | list ho hk hp=>cases k with
   | list=>rfl
   | kQ hn|none hn=>exact absurd ⟨ho,hk⟩ hn
   | uJ vj=>omega
   | fill _ j6=>rw [hk] at j6;cases j6
 | kQ hn he=>cases k with
   | list ho hk=>exact absurd ⟨ho,hk⟩ hn
   | kQ=>rfl
   | none _ nZ|uJ _ nZ|fill _ _ nZ=>exact absurd nZ he
 | none hn he ht hu=>cases k with
   | list ho hk=>exact absurd ⟨ho,hk⟩ hn
   | kQ _ nZ=>exact absurd he nZ
   | none=>rfl
   | uJ _ _ og HH|fill _ _ _ og HH=>rw [ht.ir og] at hu;exact absurd HH hu
 | uJ ho he ht hu=>cases k with
   | list vj=>omega
   | kQ _ nZ=>exact absurd he nZ
   | none _ _ og HH=>rw [ht.ir og] at hu;exact absurd hu HH
   | uJ _ _ og=>rw [ht.ir og]
   | fill vj=>omega
 | fill ho hk he ht hu hr=>cases k with
   | list _ j6=>rw [hk] at j6;cases j6
   | kQ _ nZ=>exact absurd he nZ
   | none _ _ og HH=>rw [ht.ir og] at hu;exact absurd hu HH
   | uJ vj=>omega
   | fill _ _ _ og _ n0 =>
     have e:=ht.ir og;subst e;rw [hr.ir n0]
inductive kR (m0 m1 cpu o t fl:Int) (s:ao×ao) (L:List ay) : Option ((ao×ao)×List ay×Int)→Prop
 | tZ {r:(ao×ao)×List ay×Int} (hf:fl % 2=0) (h:iw m0 m1 cpu 1 o t fl s L (some r)) : kR m0 m1 cpu o t fl s L (some r)
 | low {r:Option ((ao×ao)×List ay×Int)} (hf:fl % 2=0→iw m0 m1 cpu 1 o t fl s L none) (h:iw m0 m1 cpu 0 o t fl s L r) : kR m0 m1 cpu o t fl s L r
theorem kR.ir {m0 m1 cpu o t fl:Int} {s:ao×ao} {L:List ay} {r r':Option ((ao×ao)×List ay×Int)} (h:kR m0 m1 cpu o t fl s L r) (k:kR m0 m1 cpu o t fl s L r') : r=r':=by
 cases h with
 | tZ hf h=>cases k with
   | tZ _ h'=>exact h.ir h'
   | low B9=>cases h.ir (B9 hf)
 | low hf h=>cases k with
   | tZ B9 h'=>cases h'.ir (hf B9)
   | low _ h'=>exact h.ir h'
def jl (h:Heap) (i:Nat) : Int:=h.dk.getD i 0
def kT (h:Heap) (s:ao×ao) (L:List ay) (lv:List Block) : Heap:=⟨[s.1,s.2],h.dk,h.bw,L,lv⟩
def dK (h:Heap) (at_ o t:Int) : List Block:=aN h.Live (bi h.Live at_) ⟨at_,o,t⟩
inductive ct (h:Heap) (cpu o fl:Int) : Heap×Int×Int→Prop
 | bad (hb:fX h=false) : ct h cpu o fl (.zero,0,8)
 | range (hb:fX h=true) (hr : ¬ ((0≤cpu∧cpu<h.bw)∧0≤o∧o≤4)) : ct h cpu o fl (.zero,0,1)
 | form (hb:fX h=true) (hr:(0≤cpu∧cpu<h.bw)∧0≤o∧o≤4) (ht:gu fl<0) : ct h cpu o fl (.zero,0,3)
 | once {z0 z1:ao} {r:(ao×ao)×List ay×Int} (hb:fX h=true) (hr:(0≤cpu∧cpu<h.bw)∧0≤o∧o≤4) (ht : 0≤gu fl) (hz:h.bf=[z0,z1]) (ha:kR (jl h 0) (jl h 1) cpu o (gu fl) fl (z0,z1) h.au (some r)) :
    ct h cpu o fl (kT h r.1 r.2.1 (dK h r.2.2 o (gu fl)),r.2.2,0)
 | fA {z0 z1:ao} {r:(ao×ao)×List ay×Int} (hb:fX h=true) (hr:(0≤cpu∧cpu<h.bw)∧0≤o∧o≤4) (ht : 0≤gu fl) (hz:h.bf=[z0,z1]) (ha:kR (jl h 0) (jl h 1) cpu o (gu fl) fl (z0,z1) h.au none)
    (h2:kR (jl h 0) (jl h 1) cpu o (gu fl) fl (bE (z0,z1) (aR h.au)) [] (some r)) : ct h cpu o fl (kT h r.1 r.2.1 (dK h r.2.2 o (gu fl)),r.2.2,0)
 | room {z0 z1:ao} (hb:fX h=true) (hr:(0≤cpu∧cpu<h.bw)∧0≤o∧o≤4) (ht : 0≤gu fl) (hz:h.bf=[z0,z1]) (ha:kR (jl h 0) (jl h 1) cpu o (gu fl) fl (z0,z1) h.au none)
    (h2:kR (jl h 0) (jl h 1) cpu o (gu fl) fl (bE (z0,z1) (aR h.au)) [] none) : ct h cpu o fl (.zero,0,6)
theorem ct.ir {h:Heap} {cpu o fl:Int} {u v:Heap×Int×Int} (a:ct h cpu o fl u) (b:ct h cpu o fl v) : u=v:=by
 cases a with
 | bad hb=>cases b with
   | bad=>rfl
   | range ka|form ka|once ka|fA ka|room ka=>rw [hb] at ka;cases ka
 | range hb hr=>cases b with
   | bad ka=>rw [hb] at ka;cases ka
   | range=>rfl
   | form _ n0|once _ n0|fA _ n0|room _ n0=>exact absurd n0 hr
 | form hb hr ht=>cases b with
   | bad ka=>rw [hb] at ka;cases ka
   | range _ n0=>exact absurd hr n0
   | form=>rfl
   | once _ _ og|fA _ _ og|room _ _ og=>omega
 | once hb hr ht hz ha=>cases b with
   | bad ka=>rw [hb] at ka;cases ka
   | range _ n0=>exact absurd hr n0
   | form _ _ og=>omega
   | once _ _ _ lO iY=>rw [hz] at lO;simp only [List.cons.injEq,and_true] at lO;obtain ⟨rfl,rfl⟩:=lO;cases ha.ir iY;rfl
   | fA _ _ _ lO iY|room _ _ _ lO iY=>rw [hz] at lO;simp only [List.cons.injEq,and_true] at lO;obtain ⟨rfl,rfl⟩:=lO;cases ha.ir iY
 | fA hb hr ht hz ha h2=>cases b with
   | bad ka=>rw [hb] at ka;cases ka
   | range _ n0=>exact absurd hr n0
   | form _ _ og=>omega
   | once _ _ _ lO iY=>rw [hz] at lO;simp only [List.cons.injEq,and_true] at lO;obtain ⟨rfl,rfl⟩:=lO;cases ha.ir iY
   | fA _ _ _ lO iY lN=>rw [hz] at lO;simp only [List.cons.injEq,and_true] at lO;obtain ⟨rfl,rfl⟩:=lO;cases h2.ir lN;rfl
   | room _ _ _ lO iY lN=>rw [hz] at lO;simp only [List.cons.injEq,and_true] at lO;obtain ⟨rfl,rfl⟩:=lO;cases h2.ir lN
 | room hb hr ht hz ha h2=>cases b with
   | bad ka=>rw [hb] at ka;cases ka
   | range _ n0=>exact absurd hr n0
   | form _ _ og=>omega
   | once _ _ _ lO iY=>rw [hz] at lO;simp only [List.cons.injEq,and_true] at lO;obtain ⟨rfl,rfl⟩:=lO;cases ha.ir iY
   | fA _ _ _ lO iY lN=>rw [hz] at lO;simp only [List.cons.injEq,and_true] at lO;obtain ⟨rfl,rfl⟩:=lO;cases h2.ir lN
   | room=>rfl
structure VS (s:ao×ao) : Prop where
 kf:bD s.1
 j3:bD s.2
 mK:s.1.aK=0
 Ac:s.1.To=s.2.aK
 E9:s.2.To=256
theorem VS.uh {s:ao×ao} (h:VS s) (zi:Int) : bD (uh s zi):=by unfold Go.Proofs.YtbidkghlpijecaaGreatDoor.uh;split;exact h.kf;exact h.j3
theorem VS.pR {s:ao×ao} (h:VS s) {zi:Int} {z':ao} (hk:KH (Go.Proofs.YtbidkghlpijecaaGreatDoor.uh s zi) z') : VS (o9 s zi z'):=by
 obtain ⟨k1,k2,k3⟩:=hk;unfold Go.Proofs.YtbidkghlpijecaaGreatDoor.uh at k2 k3;unfold o9;split
 ·rename_i e;rw [if_pos e] at k2 k3;exact ⟨k1,h.j3,by rw [k2];exact h.mK,by rw [k3];exact h.Ac,h.E9⟩
 ·rename_i e;rw [if_neg e] at k2 k3;exact ⟨h.kf,k1,h.mK,by rw [k2];exact h.Ac,by rw [k3];exact h.E9⟩
theorem gV.vs {m0 m1 zi t fl:Int} {s:ao×ao} {l:List Int} {r:(ao×ao)×List Int} (h:gV m0 m1 zi t fl s l r) : VS s→VS r.1∧r.2.length≤3:=by
 induction h with
 | full h=>exact fun k=>⟨k,by simp only;omega⟩
 | kQ h he=>exact fun k=>⟨k,by simp only;omega⟩
 | none h=>exact fun k=>⟨k,by simp only;omega⟩
 | more h he ht hu hr ih=>exact fun k=>ih (k.pR (ht.qw hu).1)
theorem nv.vs {s:ao×ao} {bs:List Block} (h:nv s bs) : VS s:=⟨h.kf,h.j3,h.mK,h.Ac,h.E9⟩
def wh (s:ao×ao) (L:List ay) (a:Int) : Prop:=(∃ x∈s.1.aj,x.At=a)∨(∃ x∈s.2.aj,x.At=a) ∨ ∃ l∈L,a∈l.av
theorem iw.found {m0 m1 cpu zi o t fl:Int} {s:ao×ao} {L:List ay} {r:(ao×ao)×List ay×Int} (h:iw m0 m1 cpu zi o t fl s L (some r)) (hv:VS s) : VS r.1∧wh s L r.2.2:=by
 have fz:∀ {u:ao×Int×Int},fL (uh s zi) o t u→u.2.2=0→VS (o9 s zi u.1)∧wh s L u.2.1:=fun {u} ht hu=>by
  obtain ⟨k1,⟨x,hx,e⟩,_⟩:=ht.qw hu;refine ⟨hv.pR k1,?_⟩;unfold uh at hx;split at hx
  ·exact .inl ⟨x,hx,e⟩
  ·exact .inr (.inl ⟨x,hx,e⟩)
 cases h with
 | list ho hk hp =>
   refine ⟨hv,.inr (.inr ?_)⟩;obtain ⟨hl,_⟩:=iu hk;refine ⟨_,List.getElem_mem hl,?_⟩;have e:=fM hk hl;have hm:∀ a,a∈cd L ⟨cpu,zi,t,[]⟩→a∈L[bg L ⟨cpu,zi,t,[]⟩].av:=fun a ha=>by rw [e] at ha;exact ha
   exact hm _ (List.getLast_mem hp)
 | uJ ho he ht hu=>exact fz ht hu
 | fill ho hk he ht hu hr=>exact ⟨(hr.vs (fz ht hu).1).1,(fz ht hu).2⟩
theorem kR.found {m0 m1 cpu o t fl:Int} {s:ao×ao} {L:List ay} {r:(ao×ao)×List ay×Int} (h:kR m0 m1 cpu o t fl s L (some r)) (hv:VS s) : VS r.1∧wh s L r.2.2:=by
 cases h with
 | tZ _ h=>exact h.found hv
 | low _ h=>exact h.found hv
end Go.Proofs.YtbidkghlpijecaaGreatDoor
