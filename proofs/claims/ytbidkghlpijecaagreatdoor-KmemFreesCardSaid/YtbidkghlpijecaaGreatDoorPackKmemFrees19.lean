/-
  Texts of the claim KmemFrees, part 19: what its theorem leans on.
-/
import Derived.Test.YtbidkghlpijecaaGreatDoorPackKmemFrees18
import Derived.Test.YtbidkghlpijecaaGreatDoorPackKmemFrees2
import Derived.Test.YtbidkghlpijecaaGreatDoorPackKmemFrees15
import Derived.Test.YtbidkghlpijecaaGreatDoorPackKmemFrees4
import Derived.Test.YtbidkghlpijecaaGreatDoorPackKmemFrees17
set_option linter.unusedVariables false
set_option linter.unusedSimpArgs false
namespace Go.Proofs.YtbidkghlpijecaaGreatDoor
open Go.RowKit
set_option maxHeartbeats 8000000 in
theorem xq (r:dF) (s:ar) (n:ByteArray) (cpu a:Int) (w:World) (hr:lg w r s) (hf:s.iN) :
 a9 Tryz.prog 50 [.agg (aH r).toArray,.string n,.int .i64 cpu,.int .i64 a] w fun v w' => ∃ u,kH s n cpu a u∧fl w.heap.size u v w':=by
 refine aC Tryz.func50 rfl Tryz.ntmps50 rfl ?_;have hs:=hf.small;refine CW.seq (CW.region (SW.box rfl rfl fun b4 w1 hw iL bA => ?_));refine SW.alloc rfl fun b8 w3 jI jj bx => ?_
 have gK:w.heap.size≤b8:=Nat.le_trans hw.size jj
 have cQ:b8≠b4:=by have:=bA.lt;omega
 (replace hw:=Ext.trans hw jI;replace bA:=bA.ext jI);obtain ⟨e,hE⟩ : ∃ e,j9 s n cpu=e:=⟨_,rfl⟩
 have cA:∀ w',Ext w w'→a9 Tryz.prog 119 [.agg (aH r).toArray,.string n,.int .i64 cpu] w' fun v _=>v = .int .i64 e:=fun w' hx=>by
  have:=sw r s n cpu w' (hr.ext hx) hf
  rwa [hE] at this
 by_cases GU:e=0
 ·subst GU;obtain ⟨ix,tN⟩ : ∃ ix,idxOf (dV n) s.aa=ix:=⟨_,rfl⟩
  have c3:∀ w',Ext w w'→a9 Tryz.prog 118 [.agg (aH r).toArray,.string n] w' fun v _=>v = .int .i64 ix:=fun w' hx=>by
   have:=kE r s n w' (hr.ext hx) hs
   rwa [tN] at this
  repeat' (first|refine Wz ?_|(refine SW.call rfl rfl (cA _ hw) ?_;intro v w1 ab hv;subst hv;replace hw:=Ext.trans hw ab;replace bA:=bA.ext ab;replace bx:=bx.ext ab;clear ab))
  all_goals try omega
  refine SW.call rfl rfl (nJ r s a _ (hr.ext hw) hf) fun v w6 ai hv => ?_
  obtain ⟨⟨j,k,e⟩,hF,rfl⟩:=hv;(replace hw:=Ext.trans hw ai;replace bA:=bA.ext ai;replace bx:=bx.ext ai);simp only [pS];by_cases hh:e=0∧j=ix
  ·obtain ⟨rfl,rfl⟩:=hh;have Cu:=hF;obtain ⟨i,k',rfl,rfl,hq,hA,BC⟩:=hF.AK;have hi:=hA.hi;have hk:=hA.hk;have hM:=ga.1 hq;have nc:=zb hM hA;have hP:=kH.put hE Cu tN hi hk;have hm:=hM.most;obtain ⟨an,rfl⟩:=Int.eq_ofNat_of_zero_le nc.1;have C5:=hM.words;have h1:=hf.mg;have h2:=hf.FC hi;obtain ⟨x,hx⟩ : ∃ x,s.aa[i].ah[k']=x:=⟨_,rfl⟩;have lA:=h2.put hk (an:Int);rw [hx] at BC hP lA;repeat' (first|refine Wz ?_|(refine SW.call rfl rfl (c3 _ hw) ?_;intro v w1 ab hv;subst hv;replace hw:=Ext.trans hw ab;replace bA:=bA.ext ab;replace bx:=bx.ext ab;clear ab))
   all_goals try omega
   refine SW.call rfl rfl (ic r s _ (hr.ext hw) hs) fun v w6 ai hv => ?_
   obtain ⟨q,cs,rfl,hO,hI⟩:=hv;replace hO:=hO.low hw.size;replace hI:=hI.low hw.size;(replace hw:=Ext.trans hw ai;replace bA:=bA.ext ai;replace bx:=bx.ext ai);have ID:=bx.lt;clear bA;refine SW.alloc rfl fun Et w1 ab AQ fp => ?_
   skip;refine SW.aj fp rfl rfl rfl rfl (cf q) fun w2 zg hg => ?_
   have ai:=ab.own AQ hg;have DV:w.heap.size≤Et:=Nat.le_trans hw.size AQ
   replace hw:=Ext.trans hw ai;replace bx:=bx.ext ai;replace hO:=hO.ext ai;replace hI:=hI.ext ai;replace fp:=zg;clear zg ab hg ai;have DW:b8≠Et:=by omega
   have Iz:=hO.words.len;obtain ⟨e1,e2⟩:=hO.len;have k9:i<cs.length:=by omega
   have cy:i<q.aa.n:=by omega
   have FF:=hO.row.sl.base;have IA:=hO.words.sl.base;have hC:=hO.each.get i k9 hi;have q1:=hC.aL.len;have q2:=h2.small.aL;have q3:=hC.bh.len;have q4:=h2.small.bh;have kR:k'<cs[i].ah.n:=by omega
   have Cy:=hC.aL.sl.base
   have gX:∀ w',SX w' w.heap.size q s cs → ∀ j v,(bB x)[j]?=some v→w'.cell? ((((cs[i].ah.A).getD default).add (k'*3)).add j)=some v:=fun w' h j v hv=>by
    refine (h.each.get i k9 hi).aL.sl.all kR j v ?_;rw [show (s.aa[i].ah[k']'(by omega))=x from hx];exact hv
   clear hC;repeat' (first|refine Wz ?_|refine SW.st (az rfl (hO.row.sl.fE cy (j:=4) (u := .slice cs[i].ah.A cs[i].ah.n cs[i].ah.c) rfl)) rfl ?_|refine SW.st (aS rfl rfl ((gX _ hO))) rfl ?_)
   have GV:=fp.lt;have FN:=(hO.each.get i k9 hi).aL.lt_size;refine SW.alloc rfl fun FO w1 ab tY iO => ?_
   skip;refine SW.aj iO rfl rfl rfl rfl (fM.one (enc:=bB) x) fun w2 tZ hg => ?_
   have ai:=ab.own tY hg;have DX:w.heap.size≤FO:=Nat.le_trans hw.size tY
   replace hw:=Ext.trans hw ai;replace bx:=bx.ext ai;replace fp:=fp.ext ai;replace hO:=hO.ext ai;replace hI:=hI.ext ai;replace iO:=tZ;clear tZ ab hg ai;refine Wz ?_;refine SW.uv an hO.words rfl rfl (by omega) fun w7 DS hg => ?_
   have hG:=hO.words.gr hg;have hS:=hO.tP hI DS hg;replace hw:=aK hw hg (Nat.le_refl _) hO.words.aN;(replace bx:=bx.aD hG rfl;replace fp:=fp.aD hG rfl);replace iO:=iO.aD hG rfl;obtain ⟨s1,kY⟩ : ∃ s1:ar,vh s x (an:Int)=s1:=⟨_,rfl⟩;have e4:(⟨s.Words.set an x.lf,s.Heap,s.aa⟩ : ar)=s1:=by rw [← kY];simp [vh]
   rw [e4] at hS;have vk:s1.aa=s.aa:=by rw [← e4]
   have Cf:s1.Heap=s.Heap:=by rw [← e4]
   have p8:i<s1.aa.length:=by rw [vk];exact hi
   have FL:s1.aa[i]=s.aa[i]:=by simp [vk]
   have e5:=lU p8;rw [FL,Cf] at e5;rw [← e5] at hS;refine Wz ?_;refine CW.qf 15 15 (fun _=>True) mixed (by kernel_rfl) fun w1 ab bd => ?_
   replace hw:=Ext.trans hw ab;replace bx:=bx.ext ab;replace fp:=fp.ext ab;replace iO:=iO.ext ab;replace hS:=hS.ext ab;clear ab;refine Wf ?_;refine SF.take 5 [] [] bd rfl (by kernel_rfl) (by kernel_rfl) (by kernel_rfl) ?_;repeat ((show SW _ _ _ _ (⟨_,Op.load _ _,_,_,_,none⟩::_) _ _;refine SW.st (az rfl (hS.row.sl.fE cy (j:=4) (u := .slice cs[i].ah.A cs[i].ah.n cs[i].ah.c) rfl)) rfl ?_))
   refine SW.aq ?_;refine Wf ?_;refine SF.last rfl (by kernel_rfl) (by kernel_rfl) ?_;have hC:=hS.get k9 p8;simp only at hC;refine SW.jA (enc:=bB) k' ⟨x.At,x.ao+1,(an:Int)⟩ hC.aL rfl rfl kR fun w9 CA AN => ?_
   have Cg:=hC.aL.gr AN;have eg:=hS.vQ k9 p8 CA AN;replace hw:=aK hw AN (Nat.le_refl _) hC.aL.aN;(replace bx:=bx.aD Cg rfl;replace fp:=fp.aD Cg rfl);replace iO:=iO.grown AN (fun e=>by have:=FN _ e.symm;omega);obtain ⟨c1,qE⟩ : ∃ c1,ka s.aa[i] k' x (an:Int)=c1:=⟨_,rfl⟩;have e6:(⟨s.aa[i].Names,s.aa[i].bp,s.aa[i].dE,s.aa[i].Order,s.aa[i].ah.set k' ⟨x.At,x.ao+1,(an:Int)⟩,s.aa[i].aG⟩ : aZ)=c1:=qE
   simp only at eg;rw [e6] at eg;have zn:c1.ah=s.aa[i].ah.set k' ⟨x.At,x.ao+1,(an:Int)⟩:=by rw [← e6]
   have BD:k'<c1.ah.length:=by rw [zn,List.length_set];exact hk
   have xj:c1.ah[k']=⟨x.At,x.ao+1,(an:Int)⟩:=by simp [zn]
   have vG:c1.ah.length=cs[i].ah.n:=by rw [zn,List.length_set];exact hC.aL.len
   rw [qE] at lA;clear hC hS CA AN hO hI DS gX hg hG Cg e6;repeat' (first|refine Wz ?_|refine SW.st (aS rfl rfl ((eg.row.sl.all cy))) rfl ?_)
   refine SW.alloc rfl fun B3 w1 ab tR gu => ?_
   skip;refine SW.aj gu rfl rfl rfl rfl (nr cs[i]) fun w2 nK hg => ?_
   have ai:=ab.own tR hg;have DE:w.heap.size≤B3:=Nat.le_trans hw.size tR
   replace hw:=Ext.trans hw ai;replace bx:=bx.ext ai;replace fp:=fp.ext ai;replace iO:=iO.ext ai;replace eg:=eg.ext ai;replace gu:=nK;clear nK ab hg ai;have hC:=eg.get k9 p8;simp only at hC;have FK:=hC.iM;obtain ⟨t,ht⟩ : ∃ t,decide (x.At∈c1.aG)=t:=⟨_,rfl⟩;have FP:fi c1 ⟨x.At,x.ao+1,(an:Int)⟩=(decide (x.ao+1=c1.dE) && !t):=by unfold fi;rw [ht]
   have cT:∀ w',Ext w2 w'→a9 Tryz.prog 120 [.agg (bR cs[i]).toArray,.int .i64 x.At] w' fun v _=>v = .bool t:=fun w' hx=>by
    have:=ru cs[i] c1 x.At w' (hC.rd.ext hx) (by omega)
    rwa [ht] at this
   have vl:=hw;replace hw:=Ext.refl w2;by_cases hp:x.ao+1=c1.dE
   ·cases t
    ·repeat' (first|refine Wz ?_|(refine CW.cU rfl ?_)|(refine SW.call rfl rfl (cT _ hw) ?_;intro v w1 ab hv;subst hv;replace hw:=Ext.trans hw ab;replace bx:=bx.ext ab;replace fp:=fp.ext ab;replace iO:=iO.ext ab;replace gu:=gu.ext ab;replace eg:=eg.ext ab;clear ab))
     all_goals try omega
     replace hw:=Ext.trans vl hw;clear cT hC vl iO
     refine CW.loop (fun t:Nat×Nat=>[(2,.int .i64 cpu),(8,.pointer (some ⟨b8,0,none⟩)),(11,.int .i64 (i:Int)),(12,.int .i64 (k':Int)),(13,.pointer (some ⟨Et,0,none⟩)),(15,.pointer (some ⟨B3,0,none⟩)),(16,.int .i64 (t.2:Int)),(17,.int .i64 (t.1:Int))])
      (fun t w'=>t.1≤cs[i].ah.n∧t.2=(c1.ah.take t.1).countP (fi c1)∧Ext w w'∧aU w' b8 44 (aH .zero)∧aU w' Et 44 (aH q)∧aU w' B3 89 (bR cs[i])∧SX w' w.heap.size q (ef s1 i (s.Heap,c1)) cs) (fun t=>cs[i].ah.n-t.1) (0,0)
      ⟨rfl,rfl,rfl,rfl,rfl,rfl,rfl,rfl,trivial⟩ ⟨Nat.zero_le _,by simp,hw,bx,fp,gu,eg⟩ ?_
     clear hw bx fp gu eg;rintro ⟨j,m⟩ Cz ⟨hj,hm,hw,bx,fp,gu,eg⟩
     simp only at hj hm ⊢;have hC:=eg.get k9 p8;simp only at hC
     have CO:m≤j:=by
      rw [hm];exact Nat.le_trans List.countP_le_length (by rw [List.length_take];omega)
     by_cases fF:j<cs[i].ah.n
     ·have jq:j<c1.ah.length:=by omega
      have Cy:=hC.aL.sl.base;obtain ⟨y,hy⟩ : ∃ y,c1.ah[j]=y:=⟨_,rfl⟩;have gy:=hC.aL.sl.all fF;rw [show c1.ah[j]'(hC.aL.sl.lt fF)=y from hy] at gy;obtain ⟨t2,DT⟩ : ∃ t2,decide (y.At∈c1.aG)=t2:=⟨_,rfl⟩;have FQ:fi c1 y=(decide (y.ao=c1.dE) && !t2):=by unfold fi;rw [DT]
      have ku:=nQ (fi c1) c1.ah j jq;rw [hy,FQ,← hm] at ku
      have cT:∀ w',Ext Cz w'→a9 Tryz.prog 120 [.agg (bR cs[i]).toArray,.int .i64 y.At] w' fun v _=>v = .bool t2:=fun w' hx=>by
       have:=ru cs[i] c1 y.At w' (hC.rd.ext hx) (by omega)
       rwa [DT] at this
      have vl:=hw;replace hw:=Ext.refl Cz;by_cases GW:y.ao=c1.dE
      ·rw [decide_eq_true GW] at ku;cases t2
       ·repeat' (first|refine Wz ?_|(first|refine CW.cU rfl ?_|(apply CW.aM mixed;(· kernel_rfl);rotate_left;intro w1 ab;replace hw:=Ext.trans hw ab;replace bx:=bx.ext ab;replace fp:=fp.ext ab;replace gu:=gu.ext ab;replace eg:=eg.ext ab;clear ab;rotate_right))|refine SW.st (az rfl (gy 1 (.int .i64 y.ao) rfl)) rfl ?_|refine SW.st (az rfl (gy 0 (.int .i64 y.At) rfl)) rfl ?_|refine SW.bf rfl rfl (fun w1 ab=>(cT _ (Ext.trans hw ab))) ?_|exact SW.br rfl)
        all_goals try omega
        replace hw:=Ext.trans vl hw;exact ae.again (j+1,m+1) ⟨rfl,rfl,rfl,rfl,rfl,rfl,rfl,rfl,trivial⟩ (by simp only;omega) ⟨by simp only;omega,by rw [ku];simp,hw,bx,fp,gu,eg⟩
       ·repeat' (first|refine Wz ?_|(first|refine CW.cj rfl ?_|(apply CW.aM mixed;(· kernel_rfl);rotate_left;intro w1 ab;replace hw:=Ext.trans hw ab;replace bx:=bx.ext ab;replace fp:=fp.ext ab;replace gu:=gu.ext ab;replace eg:=eg.ext ab;clear ab;rotate_right))|refine SW.st (az rfl (gy 1 (.int .i64 y.ao) rfl)) rfl ?_|refine SW.st (az rfl (gy 0 (.int .i64 y.At) rfl)) rfl ?_|refine SW.bf rfl rfl (fun w1 ab=>(cT _ (Ext.trans hw ab))) ?_|exact SW.br rfl)
        all_goals try omega
        replace hw:=Ext.trans vl hw;exact ae.again (j+1,m) ⟨rfl,rfl,rfl,rfl,rfl,rfl,rfl,rfl,trivial⟩ (by simp only;omega) ⟨by simp only;omega,by rw [ku];simp,hw,bx,fp,gu,eg⟩
      ·rw [decide_eq_false GW] at ku;repeat' (first|refine Wz ?_|((apply CW.aM mixed;(· kernel_rfl);rotate_left;intro w1 ab;replace hw:=Ext.trans hw ab;replace bx:=bx.ext ab;replace fp:=fp.ext ab;replace gu:=gu.ext ab;replace eg:=eg.ext ab;clear ab;rotate_right))|refine SW.st (az rfl (gy 1 (.int .i64 y.ao) rfl)) rfl ?_|exact SW.br rfl)
       all_goals try omega
       replace hw:=Ext.trans vl hw;exact ae.again (j+1,m) ⟨rfl,rfl,rfl,rfl,rfl,rfl,rfl,rfl,trivial⟩ (by simp only;omega) ⟨by simp only;omega,by rw [ku];simp,hw,bx,fp,gu,eg⟩
     ·obtain rfl:j=cs[i].ah.n:=by omega
      rw [List.take_of_length_le (by omega)] at hm;have FR:fi c1 ⟨x.At,x.ao+1,(an:Int)⟩=true:=by rw [FP,decide_eq_true hp];rfl
      clear hC;by_cases kC : 1<m
      ·have DU:=tX (s:=s) (cpu:=cpu) (c:=s.aa[i]) (k:=k') (x:=x) (a:=(an:Int)) (by rw [qE];exact FR) (by rw [qE,← hm];exact kC);rw [qE] at DU;rw [DU,kY] at hP;refine Wz ?_;all_goals try omega
       refine SW.ie rfl rfl (sy w _ q s1 cs i k' (s.Heap,c1) cpu hw eg p8 (by rw [vk];omega) BD h1 lA) fun v DR hv => ?_
       obtain ⟨H,IC,rfl,IE,GX,qd⟩:=hv;simp only [xj] at GX;have GY:=eg.row.gr qd;clear eg hw;have hw:=IE;have eg:=GX;(replace bx:=bx.aD GY rfl;replace fp:=fp.aD GY rfl);skip;refine SW.aj fp rfl rfl rfl rfl (cf ⟨q.Words,H,q.aa⟩) fun Af zg hg => ?_
       have hG:=fp.gr hg;replace bx:=bx.grown hg (by simpa using DW);replace hw:=hw.own DV hg;replace eg:=eg.aD hG rfl;refine Wz ?_;refine SW.aj bx rfl rfl rfl rfl (cf ⟨q.Words,H,q.aa⟩) fun Af bV hg => ?_
       have hG:=bx.gr hg;replace hw:=hw.own gK hg;replace eg:=eg.aD hG rfl;refine Wz ?_;exact ae.bQ rfl rfl rfl bV rfl ⟨_,rfl,hw,_,hP,⟨_,rfl,eg.pV⟩⟩
      ·have vR:=tW (s:=s) (cpu:=cpu) (c:=s.aa[i]) (k:=k') (x:=x) (a:=(an:Int)) (by rw [qE,← hm];exact kC);rw [qE] at vR;rw [vR,kY] at hP;refine Wz ?_;all_goals try omega
       refine SW.aj bx rfl rfl rfl rfl (cf q) fun Af bV hg => ?_
       have hG:=bx.gr hg;replace hw:=hw.own gK hg;replace eg:=eg.aD hG rfl;refine Wz ?_;exact ae.bQ rfl rfl rfl bV rfl ⟨_,rfl,hw,_,hP,⟨_,rfl,eg.pV⟩⟩
    ·have Ch:fi c1 ⟨x.At,x.ao+1,(an:Int)⟩=false:=by rw [FP];simp
     have vR:=sA (s:=s) (cpu:=cpu) (c:=s.aa[i]) (k:=k') (x:=x) (a:=(an:Int)) (by rw [qE];exact Ch);rw [qE] at vR;rw [vR,kY] at hP;repeat' (first|refine Wz ?_|(refine CW.cj rfl ?_)|(refine SW.call rfl rfl (cT _ hw) ?_;intro v w1 ab hv;subst hv;replace hw:=Ext.trans hw ab;replace bx:=bx.ext ab;replace fp:=fp.ext ab;replace iO:=iO.ext ab;replace gu:=gu.ext ab;replace eg:=eg.ext ab;clear ab))
     all_goals try omega
     replace hw:=Ext.trans vl hw;refine SW.aj bx rfl rfl rfl rfl (cf q) fun Af bV hg => ?_
     have hG:=bx.gr hg;replace hw:=hw.own gK hg;replace eg:=eg.aD hG rfl;refine Wz ?_;exact ae.bQ rfl rfl rfl bV rfl ⟨_,rfl,hw,_,hP,⟨_,rfl,eg.pV⟩⟩
   ·have Ch:fi c1 ⟨x.At,x.ao+1,(an:Int)⟩=false:=by rw [FP,decide_eq_false hp];rfl
    have vR:=sA (s:=s) (cpu:=cpu) (c:=s.aa[i]) (k:=k') (x:=x) (a:=(an:Int)) (by rw [qE];exact Ch);rw [qE] at vR;rw [vR,kY] at hP;refine Wz ?_;all_goals try omega
    replace hw:=Ext.trans vl hw;refine SW.aj bx rfl rfl rfl rfl (cf q) fun Af bV hg => ?_
    have hG:=bx.gr hg;replace hw:=hw.own gK hg;replace eg:=eg.aD hG rfl;refine Wz ?_;exact ae.bQ rfl rfl rfl bV rfl ⟨_,rfl,hw,_,hP,⟨_,rfl,eg.pV⟩⟩
  ·have hP:=kH.none (n:=n) (cpu:=cpu) hE hF (by rw [tN];exact hh)
   rcases (show e≠0∨(e=0∧j≠ix) by
    by_cases e0:e=0
    ·exact .inr ⟨e0,fun e1=>hh ⟨e0,e1⟩⟩
    ·exact .inl e0) with g|⟨g,g2⟩
   all_goals
    repeat' (first|refine Wz ?_|(refine SW.call rfl rfl (c3 _ hw) ?_;intro v w1 ab hv;subst hv;replace hw:=Ext.trans hw ab;replace bA:=bA.ext ab;replace bx:=bx.ext ab;clear ab))
    all_goals try omega
    refine SW.aj bx rfl rfl rfl rfl (cf .zero) fun w7 bV hg => ?_
    replace hw:=hw.own gK hg;refine Wz ?_;exact ae.bQ rfl rfl rfl bV rfl ⟨_,rfl,hw,_,hP,fl.zero 4 _ _⟩
 ·have hP:=kH.ask (a:=a) (by rw [hE];exact GU);rw [hE] at hP;repeat' (first|refine Wz ?_|(refine SW.call rfl rfl (cA _ hw) ?_;intro v w1 ab hv;subst hv;replace hw:=Ext.trans hw ab;replace bA:=bA.ext ab;replace bx:=bx.ext ab;clear ab))
  all_goals try omega
  refine SW.aj bx rfl rfl rfl rfl (cf .zero) fun w6 bV hg => ?_
  replace hw:=hw.own gK hg;refine Wz ?_;exact ae.bQ rfl rfl rfl bV rfl ⟨_,rfl,hw,_,hP,fl.zero e _ _⟩
open Go.RowKit
section
variable {P:Program} {L:Env} {w:World} {d:Option Nat} {T:TypeId} {pos:String} {af:Array Edge} {g:Option (Nat×Bool)}
theorem zh {t ty:TypeId} {x y:Operand} {a:ByteArray} (hx:bG L x=some (.string a)) (hy:bG L y=some (.string a)) : St P ⟨d,.binOp .neq t x y ty,T,pos,af,g⟩ L w (.bool false) :=
 ⟨fun _ A hA w' _=>by
  have e1:=hA.eval hx;have e2:=hA.eval hy;generalize A.eval = ρ at *
  have h1:(binOp .neq t (.string a) (.string a)).run P w' = .ok (.bool false) w':=by
   have:binOp .neq t (.string a) (.string a)=Op.stringOp .neq a a:=by simp [binOp]
   rw [this];simp [Op.stringOp,pure]
  simp [execOp,e1,e2,eqGuard,h1]⟩
theorem Ag {t k ty:TypeId} [c:oQ P t k] {x y:Operand} (xs:List Int) (hx:bG L x=some (.agg (xs.map (Value.int .i64)).toArray)) (hy:bG L y=some (.agg (xs.map (Value.int .i64)).toArray)) (h1:Nat.beq xs.length k=true) :
 St P ⟨d,.binOp .neq t x y ty,T,pos,af,g⟩ L w (.bool false):=(xN xs xs hx hy h1 h1).eq (by simp)
end
def Slab.uy (r:Slab) : List Int:=[r.At,r.ao,r.lf]
set_option maxHeartbeats 4000000 in
theorem kJ (r q:dF) (s:ar) (w:World) (ha:lg w r s) (hb:lg w q s) (hs:s.small) :
 a9 Tryz.prog 23 [.agg (aH r).toArray,.agg (aH q).toArray] w fun v _=>v = .bool true:=by
 refine aC Tryz.func23 rfl Tryz.ntmps23 rfl ?_;refine CW.seq (CW.region (SW.box rfl rfl fun b2 w1 hw ff ax => ?_));refine SW.box rfl rfl fun b3 w2 cg bM ap => ?_
 (replace hw:=Ext.trans hw cg;replace ax:=ax.ext cg);obtain ⟨cs,hc⟩:=ha.bJ;obtain ⟨qw,rV⟩:=hb.bJ;obtain ⟨z1,z2⟩:=hc.len;obtain ⟨z3,z4⟩:=rV.len;have s1:=hs.words;have s3:=hs.bJ;have m1:=ha.words.len
 have cM:∀ w',Ext w w'→a9 Tryz.prog 53 [.slice r.Words.A r.Words.n r.Words.c,.slice q.Words.A q.Words.n q.Words.c] w' fun v _=>v = .bool true:=fun w' hx=>by
  have:=fV _ _ _ _ r.Words.c q.Words.c _ _ w' (ha.words.ext hx) (hb.words.ext hx) (by omega)
  simpa using this
 have cH:∀ w',Ext w w'→a9 Tryz.prog 54 [.agg (bl r.Heap).toArray,.agg (bl q.Heap).toArray] w' fun v _=>v = .bool true:=fun w' hx=>rJ _ _ _ w' (ha.heap.ext hx) (hb.heap.ext hx) hs.heap
 repeat' (first|refine Wz ?_|(refine CW.cj rfl ?_)|refine SW.want rfl rfl ?_|refine SW.st (aS rfl rfl ((eK ax))) rfl ?_|refine SW.st (aS rfl rfl ((eK ap))) rfl ?_|((first|refine SW.call rfl rfl (cM _ hw) ?_|refine SW.call rfl rfl (cH _ hw) ?_);intro v w1 ab hv;subst hv;replace hw:=Ext.trans hw ab;replace ax:=ax.ext ab;replace ap:=ap.ext ab;clear ab))
 all_goals try omega
 clear cM cH
 refine CW.loop (fun k:Nat=>[(2,.pointer (some ⟨b2,0,none⟩)),(3,.pointer (some ⟨b3,0,none⟩)),(5,.int .i64 (k:Int))]) (fun k w'=>k≤r.aa.n∧Ext w w'∧aU w' b2 44 (aH r)∧aU w' b3 44 (aH q)) (fun k=>r.aa.n-k) 0
  ⟨rfl,rfl,rfl,trivial⟩ ⟨by omega,hw,ax,ap⟩ ?_
 clear hw ax ap;rintro k w' ⟨hk,hw,ax,ap⟩
 have hA:=hc.row.base;have hB:=rV.row.base;by_cases cc:k<r.aa.n
 ·have xU:k<q.aa.n:=by omega
  have dm:=hc.each.get k (by omega) (by omega);have qF:=rV.each.get k (by omega) (by omega);have sm:=hs.each _ (List.getElem_mem (show k<s.aa.length by omega));have q1:=dm.names.len;have q2:=dm.aL.len;have q3:=dm.bh.len;have Jj:=qF.names.len;have Jk:=qF.aL.len;have q4:=sm.names;have q5:=sm.aL;have q6:=sm.bh;have g1:=dm.size;have g2:=dm.iM;have g3:=dm.order;have g4:=qF.size;have g5:=qF.iM;have g6:=qF.order
  have cP:∀ w',Ext w w'→a9 Tryz.prog 53 [.slice cs[k].aG.A cs[k].aG.n cs[k].aG.c,.slice qw[k].aG.A qw[k].aG.n qw[k].aG.c] w' fun v _=>v = .bool true:=fun w' hx=>by
   have:=fV _ _ _ _ cs[k].aG.c qw[k].aG.c _ _ w' (dm.bh.ext hx) (qF.bh.ext hx) (by omega)
   simpa using this
  repeat' (first|refine Wz ?_|refine SW.st (aA hw rfl rfl ((hc.row.all cc))) rfl ?_)
  refine SW.alloc rfl fun b6 w1 ab eJ aB => ?_
  skip;refine SW.aj aB rfl rfl rfl rfl (nr _) fun w2 gg hg => ?_
  have ai:=ab.own eJ hg;have cX:w.heap.size≤b6:=Nat.le_trans hw.size eJ
  replace hw:=Ext.trans hw ai;replace ax:=ax.ext ai;replace ap:=ap.ext ai;replace aB:=gg;clear gg ab hg ai;repeat' (first|refine Wz ?_|refine SW.st (aA hw rfl rfl ((rV.row.all xU))) rfl ?_)
  refine SW.alloc rfl fun b7 w1 ab j5 iV => ?_
  skip;refine SW.aj iV rfl rfl rfl rfl (nr _) fun w2 cY hg => ?_
  have ai:=ab.own j5 hg;have qj:w.heap.size≤b7:=Nat.le_trans hw.size j5
  replace hw:=Ext.trans hw ai;replace ax:=ax.ext ai;replace ap:=ap.ext ai;replace aB:=aB.ext ai;replace iV:=cY;clear cY ab hg ai;repeat' (first|refine Wz ?_|(refine CW.cj rfl ?_)|(refine SW.call rfl rfl (cP _ hw) ?_;intro v w1 ab hv;subst hv;replace hw:=Ext.trans hw ab;replace ax:=ax.ext ab;replace ap:=ap.ext ab;replace aB:=aB.ext ab;replace iV:=iV.ext ab;clear ab))
  all_goals try omega
  clear cP
  refine CW.loop (fun j:Nat=>[(2,.pointer (some ⟨b2,0,none⟩)),(3,.pointer (some ⟨b3,0,none⟩)),(5,.int .i64 (k:Int)),(6,.pointer (some ⟨b6,0,none⟩)),(7,.pointer (some ⟨b7,0,none⟩)),(8,.int .i64 (j:Int))])
   (fun j w'=>j≤cs[k].Names.n∧Ext w w'∧aU w' b2 44 (aH r)∧aU w' b3 44 (aH q)∧aU w' b6 89 (bR cs[k])∧aU w' b7 89 (bR qw[k])) (fun j=>cs[k].Names.n-j) 0
   ⟨rfl,rfl,rfl,rfl,rfl,rfl,trivial⟩ ⟨by omega,hw,ax,ap,aB,iV⟩ ?_
  clear hw ax ap aB iV;rintro j w' ⟨hj,hw,ax,ap,aB,iV⟩
  have yu:=dm.names.base;have Ee:=qF.names.base;by_cases fF:j<cs[k].Names.n
  ·have Ci:j<qw[k].Names.n:=by omega
   repeat' (first|refine Wz ?_|((apply CW.aM mixed;(· kernel_rfl);rotate_left;intro w1 ab;replace hw:=Ext.trans hw ab;replace ax:=ax.ext ab;replace ap:=ap.ext ab;replace aB:=aB.ext ab;replace iV:=iV.ext ab;clear ab;rotate_right))|refine SW.st (ag hw rfl (dm.names.one fF rfl)) rfl ?_|refine SW.st (ag hw rfl (qF.names.one Ci rfl)) rfl ?_|(refine SW.st (zh rfl rfl) rfl ?_)|exact SW.br rfl)
   exact ae.again (j+1) ⟨rfl,rfl,rfl,rfl,rfl,rfl,trivial⟩ (by omega) ⟨by omega,hw,ax,ap,aB,iV⟩
  ·refine Wz ?_;clear fF hj yu Ee
   refine CW.loop (fun j:Nat=>[(2,.pointer (some ⟨b2,0,none⟩)),(3,.pointer (some ⟨b3,0,none⟩)),(5,.int .i64 (k:Int)),(6,.pointer (some ⟨b6,0,none⟩)),(7,.pointer (some ⟨b7,0,none⟩)),(9,.int .i64 (j:Int))])
    (fun j w'=>j≤cs[k].ah.n∧Ext w w'∧aU w' b2 44 (aH r)∧aU w' b3 44 (aH q)∧aU w' b6 89 (bR cs[k])∧aU w' b7 89 (bR qw[k])) (fun j=>cs[k].ah.n-j) 0
    ⟨rfl,rfl,rfl,rfl,rfl,rfl,trivial⟩ ⟨by omega,hw,ax,ap,aB,iV⟩ ?_
   clear hw ax ap aB iV;rintro j w' ⟨hj,hw,ax,ap,aB,iV⟩
   have yu:=dm.aL.base;have Ee:=qF.aL.base;by_cases fF:j<cs[k].ah.n
   ·have Ci:j<qw[k].ah.n:=by omega
    repeat' (first|refine Wz ?_|((apply CW.aM mixed;(· kernel_rfl);rotate_left;intro w1 ab;replace hw:=Ext.trans hw ab;replace ax:=ax.ext ab;replace ap:=ap.ext ab;replace aB:=aB.ext ab;replace iV:=iV.ext ab;clear ab;rotate_right))|refine SW.st (aA hw rfl rfl ((dm.aL.all fF))) rfl ?_|refine SW.st (aA hw rfl rfl ((qF.aL.all Ci))) rfl ?_|(refine SW.st (Ag (Slab.uy (s.aa[k]).ah[j]) rfl rfl rfl) rfl ?_)|exact SW.br rfl)
    exact ae.again (j+1) ⟨rfl,rfl,rfl,rfl,rfl,rfl,trivial⟩ (by omega) ⟨by omega,hw,ax,ap,aB,iV⟩
   ·refine Wz ?_;exact ae.again (k+1) ⟨rfl,rfl,rfl,trivial⟩ (by omega) ⟨by omega,hw,ax,ap⟩
 ·refine Wz ?_;exact ae.aF rfl rfl ⟨_,rfl,hw,rfl⟩
open Go.RowKit
theorem mW.aD {w w':World} {lo t:Nat} {r:dF} {s:ar} (h:mW w lo r s) (hG:oo w w' t) (cQ:(Nat.beq t 3 || (Nat.beq t 165 || (Nat.beq t 139 || (Nat.beq t 142 || (Nat.beq t 89 || (Nat.beq t 9 || Nat.beq t 91))))))=false) : mW w' lo r s:=by
 simp only [Bool.or_eq_false_iff] at cQ;obtain ⟨h1,h2,h3,h4,h5,h6,h7⟩:=cQ;obtain ⟨cs,hc⟩:=h.bJ;exact ⟨h.words.aD hG h1,h.heap.aD hG (by simp [h1,h2,h3,h4]),⟨cs,hc.aD hG (by simp [h1,h5,h6,h7])⟩⟩
open Go.RowKit
theorem Cj {s:ar} {a u1 u2 u3:Int} (hu:fJ s a (u1,u2,u3)) (hq:eD s=true) :
 (∃ i:Nat,u1=(i:Int)∧u3=0 ∧ ∃ hi:i<s.aa.length,nI s.aa[i]=true∧pT s a (some i)) ∨
 (pT s a none∧(u3=4 ∨ ∃ i:Nat,u1=(i:Int)∧u3=0 ∧ ∃ hi:i<s.aa.length,nI s.aa[i]=false)):=by
 by_cases h0:u3=0
 ·obtain ⟨i,hi,zw⟩:=hu.yR h0;simp only at zw;subst h0 zw;cases AR:nI s.aa[i]
  ·exact .inr ⟨.no hu fun i2 BY _ e=>by
    have e:i=i2:=by simp only at e;omega
    subst e;exact AR,.inr ⟨i,rfl,rfl,hi,AR⟩⟩
  ·exact .inl ⟨i,rfl,rfl,hi,AR,.yes hu hi AR⟩
 ·exact .inr ⟨.no hu fun i hi h=>absurd h h0,.inl ((hu.code hq).resolve_left h0)⟩
set_option maxHeartbeats 4000000 in
theorem xr (r:dF) (s:ar) (cpu a:Int) (w:World) (hr:lg w r s) (hf:s.iN) (ha : -9223372036854775808≤a∧a≤9223372036854775807) (hS:kF w) :
 a9 Tryz.prog 21 [.agg (aH r).toArray,.int .i64 cpu,.int .i64 a] w fun v w' => ∃ u,ib s cpu a u∧fl w.heap.size u v w':=by
 refine aC Tryz.func21 rfl Tryz.ntmps21 rfl ?_;refine CW.seq (CW.region (SW.box rfl rfl fun b3 w1 hw bM ap => ?_));refine SW.alloc rfl fun b6 w2 cg eJ aB => ?_
 have cX:w.heap.size≤b6:=Nat.le_trans hw.size eJ
 have cQ:b6≠b3:=by have:=ap.lt;omega
 (replace hw:=Ext.trans hw cg;replace ap:=ap.ext cg);have hs:=hf.small;obtain ⟨q,hq⟩ : ∃ q,eD s=q:=⟨_,rfl⟩
 have c1:∀ w',Ext w w'→a9 Tryz.prog 41 [.agg (aH r).toArray] w' fun v _=>v = .int .i64 (if q then 0 else 8):=fun w' hx=>by
  have:=lR r s w' (hr.ext hx) hf
  rwa [hq] at this
 cases q
 ·simp only [Bool.false_eq_true,if_false] at c1;repeat' (first|refine Wz ?_|(refine SW.call rfl rfl (c1 _ hw) ?_;intro v w1 ab hv;subst hv;replace hw:=Ext.trans hw ab;replace ap:=ap.ext ab;replace aB:=aB.ext ab;clear ab))
  refine SW.aj aB rfl rfl rfl rfl (cf .zero) fun w5 bV hg => ?_
  replace hw:=hw.own cX hg;refine Wz ?_;exact ae.bQ rfl rfl rfl bV rfl ⟨_,rfl,hw,_,.bad hq,fl.zero 8 _ _⟩
 simp only [if_true] at c1;have hM:=ga.1 hq;have eC:r.Heap.bt=s.Heap.bt:=hr.heap.dc
 by_cases ku:kI s cpu
 ·have vm:=ku;unfold kI at vm;repeat' (first|refine Wz ?_|(refine SW.call rfl rfl (c1 _ hw) ?_;intro v w1 ab hv;subst hv;replace hw:=Ext.trans hw ab;replace ap:=ap.ext ab;replace aB:=aB.ext ab;clear ab))
  refine SW.call rfl rfl (tL r s a _ (hr.ext hw) hf ha) fun v w5 fI hv => ?_
  obtain ⟨u,hu,rfl⟩:=hv;(replace hw:=Ext.trans hw fI;replace ap:=ap.ext fI;replace aB:=aB.ext fI);clear c1;obtain ⟨cs,hc⟩:=hr.bJ;obtain ⟨z1,z2⟩:=hc.len;have hA:=hc.row.base;obtain ⟨u1,u2,u3⟩:=u;simp only [pS];rcases Cj hu hq with ⟨i,rfl,rfl,hi,AR,hO⟩|⟨hO,hN⟩
  ·have cy:i<r.aa.n:=by omega
   have DY:i<cs.length:=by omega
   have dm:=hc.each.get i DY hi;have q1:=dm.names.len;have q2:=(hs.each _ (List.getElem_mem hi)).names;have q3:=(hM.each i hi).may.names;have vU : 0<cs[i].Names.n:=by omega
   have IF:=dm.names.base
   have c2:∀ w',Ext w w'→a9 Tryz.prog 43 [.agg (bR cs[i]).toArray] w' fun v _=>v = .bool true:=fun w' hx=>by
    have:=tH cs[i] _ w' (dm.ext hx) (by omega) (hS.ext hx)
    rwa [AR] at this
   have gN:=dm.names.one vU (congrArg encStr (rfl:s.aa[i].Names[0]=s.aa[i].Names[0]));have eN:s.aa[i].Names[0]=pY s.aa[i]:=by simp [pY,q3]
   rw [eN] at gN;repeat' (first|refine Wz ?_|refine SW.st (aA hw rfl rfl ((hc.row.all cy))) rfl ?_|(refine SW.call rfl rfl (c2 _ hw) ?_;intro v w1 ab hv;subst hv;replace hw:=Ext.trans hw ab;replace ap:=ap.ext ab;replace aB:=aB.ext ab;clear ab))
   refine CW.any 14 mixed (bZ (by kernel_rfl)) rfl fun w1 ab bd => ?_
   replace hw:=Ext.trans hw ab;replace ap:=ap.ext ab;replace aB:=aB.ext ab;clear ab;refine Wa ?_;refine SA.take 6 bd rfl (by kernel_rfl) (by kernel_rfl) rfl ?_;repeat ((show SW _ _ _ _ (⟨_,Op.load _ _,_,_,_,none⟩::_) _ _;refine SW.st (ag hw rfl (hc.row.fE cy (j:=0) (u := .slice cs[i].Names.A cs[i].Names.n cs[i].Names.c) rfl)) rfl ?_))
   refine SW.aq ?_;refine Wa ?_;refine SA.take 8 bd rfl (by kernel_rfl) (by kernel_rfl) rfl ?_;repeat ((show SW _ _ _ _ (⟨_,Op.load _ _,_,_,_,none⟩::_) _ _;refine SW.st (ag hw rfl gN) rfl ?_))
   refine SW.aq ?_;refine Wa ?_;refine SA.one 11 rfl (by kernel_rfl) rfl ?_;refine SW.call rfl rfl (sB r s _ cpu a _ (hr.ext hw) hf (zd hf hi) ha) fun v w4 ai hv => ?_
   obtain ⟨u,hP,s1,rfl,kY⟩:=hv;replace kY:=kY.low hw.size;(replace hw:=Ext.trans hw ai;replace ap:=ap.ext ai;replace aB:=aB.ext ai);refine SW.nil (ae.sa ai ?_);refine Wa ?_;refine SA.done (by kernel_rfl) ?_;refine SW.aj aB rfl rfl rfl rfl (cf s1) fun w6 hR hg => ?_
   have hG:=aB.gr hg;replace hw:=hw.own cX hg;(replace kY:=kY.aD hG rfl);refine Wz ?_;exact ae.bQ rfl rfl rfl hR rfl ⟨_,rfl,hw,_,.obj hq ku hi hO hP,_,rfl,kY⟩
  have sj:=fun hW=>rr hM ku (a:=a) hW
  rcases hN with rfl|⟨i,rfl,rfl,hi,AR⟩
  refine Wz ?_;rotate_left;have cy:i<r.aa.n:=by omega
  have DY:i<cs.length:=by omega
  have dm:=hc.each.get i DY hi;have q1:=dm.names.len;have q2:=(hs.each _ (List.getElem_mem hi)).names
  have c2:∀ w',Ext w w'→a9 Tryz.prog 43 [.agg (bR cs[i]).toArray] w' fun v _=>v = .bool false:=fun w' hx=>by
   have:=tH cs[i] _ w' (dm.ext hx) (by omega) (hS.ext hx)
   rwa [AR] at this
  repeat' (first|refine Wz ?_|refine SW.st (aA hw rfl rfl ((hc.row.all cy))) rfl ?_|(refine SW.call rfl rfl (c2 _ hw) ?_;intro v w1 ab hv;subst hv;replace hw:=Ext.trans hw ab;replace ap:=ap.ext ab;replace aB:=aB.ext ab;clear ab))
  all_goals
   refine SW.call rfl rfl (xe r s a _ (hr.ext hw) hs hM ha) fun v w6 uk hv => ?_
   obtain ⟨ix,rfl,tN⟩:=hv;(replace hw:=Ext.trans hw uk;replace ap:=ap.ext uk;replace aB:=aB.ext uk);cases hW:df s a
   ·repeat' (first|refine Wz ?_|(refine CW.cU rfl ?_))
    refine SW.aj aB rfl rfl rfl rfl (cf .zero) fun w7 bV hg => ?_
    replace hw:=hw.own cX hg;refine Wz ?_;exact ae.bQ rfl rfl rfl bV rfl ⟨_,rfl,hw,_,.no hq ku hO hW,fl.zero 4 _ _⟩
   ·obtain ⟨zq,IG,_⟩:=jV hW;repeat' (first|refine Wz ?_|(refine CW.cj rfl ?_)|refine SW.st (aS rfl rfl ((eK ap))) rfl ?_)
    refine SW.call rfl rfl (tQ r.Heap s.Heap cpu (a / 16) _ (hr.heap.ext hw) hs.heap hf.bU (by omega)) fun v w7 Ck hv => ?_
    obtain ⟨H,rfl,hH⟩:=hv;rw [sj hW];replace hH:=hH.low hw.size;(replace hw:=Ext.trans hw Ck;replace ap:=ap.ext Ck;replace aB:=aB.ext Ck);refine Wz ?_;refine SW.alloc rfl fun FO w1 ab tY iO => ?_
    skip;refine SW.aj iO rfl rfl rfl rfl (cV H) fun w2 tZ hg => ?_
    have ai:=ab.own tY hg;have DX:w.heap.size≤FO:=Nat.le_trans hw.size tY
    replace hw:=Ext.trans hw ai;replace ap:=ap.ext ai;replace aB:=aB.ext ai;replace hH:=hH.ext ai;replace iO:=tZ;clear tZ ab hg ai;refine Wz ?_;refine SW.call rfl rfl (p5 r s _ (hr.ext hw) hs) fun v w9 zj hv => ?_
    obtain ⟨p,qw,rfl,DZ,_⟩:=hv;have hP:=DZ.pV.low hw.size;clear DZ;(replace hw:=Ext.trans hw zj;replace ap:=ap.ext zj;replace aB:=aB.ext zj;replace iO:=iO.ext zj;replace hH:=hH.ext zj);refine SW.aj ap rfl rfl rfl rfl (cf p) fun Cz de hg => ?_
    have hG:=ap.gr hg;replace aB:=aB.grown hg (by simpa using cQ);replace hw:=hw.own bM hg;(replace iO:=iO.aD hG rfl;replace hH:=hH.aD hG rfl;replace hP:=hP.aD hG rfl);replace ap:=de;clear de hG hg;refine Wz ?_;refine SW.jE 1 ap rfl rfl rfl (Nat.le_of_ble_eq_true rfl) (cV H) (aH ⟨p.Words,H,p.aa⟩) rfl fun DR de hg => ?_
    have hG:=ap.gr hg;replace aB:=aB.grown hg (by simpa using cQ);replace hw:=hw.own bM hg;(replace hH:=hH.aD hG rfl;replace hP:=hP.aD hG rfl);refine Wz ?_;refine SW.aj aB rfl rfl rfl rfl (cf ⟨p.Words,H,p.aa⟩) fun Af hR hg => ?_
    have hG:=aB.gr hg;replace hw:=hw.own cX hg;(replace hH:=hH.aD hG rfl;replace hP:=hP.aD hG rfl);refine Wz ?_;exact ae.bQ rfl rfl rfl hR rfl ⟨_,rfl,hw,_,.whole hq ku hO hW,_,rfl,hP.words,hH,hP.bJ⟩
 ·have vm:=ku;unfold kI at vm;have:cpu<0∨(0≤cpu∧s.Heap.bt≤cpu):=by omega
  rcases this with h1|h1
  all_goals repeat' (first|refine Wz ?_|(refine SW.call rfl rfl (c1 _ hw) ?_;intro v w1 ab hv;subst hv;replace hw:=Ext.trans hw ab;replace ap:=ap.ext ab;replace aB:=aB.ext ab;clear ab))
  all_goals
   refine SW.aj aB rfl rfl rfl rfl (cf .zero) fun w5 bV hg => ?_
   replace hw:=hw.own cX hg;refine Wz ?_;exact ae.bQ rfl rfl rfl bV rfl ⟨_,rfl,hw,_,.range hq ku,fl.zero 1 _ _⟩
set_option maxHeartbeats 4000000 in
theorem ua (r:dF) (s:ar) (cpu a:Int) (w:World) (hr:lg w r s) (hf:s.iN) (ha : -9223372036854775808≤a∧a≤9223372036854775807) :
 a9 Tryz.prog 22 [.agg (aH r).toArray,.int .i64 cpu,.int .i64 a] w fun v w' => ∃ u,ib s cpu a u∧fl w.heap.size u v w':=by
 refine aC Tryz.func22 rfl Tryz.ntmps22 rfl ?_;refine CW.seq (CW.region (SW.box rfl rfl fun b3 w1 hw bM ap => ?_));refine SW.alloc rfl fun b6 w2 cg eJ aB => ?_
 have cX:w.heap.size≤b6:=Nat.le_trans hw.size eJ
 (replace hw:=Ext.trans hw cg;replace ap:=ap.ext cg);have hs:=hf.small;obtain ⟨q,hq⟩ : ∃ q,eD s=q:=⟨_,rfl⟩
 have c1:∀ w',Ext w w'→a9 Tryz.prog 47 [.agg (aH r).toArray] w' fun v _=>v = .bool q:=fun w' hx=>by
  have:=pP r s w' (hr.ext hx) hf
  rwa [hq] at this
 cases q
 ·repeat' (first|refine Wz ?_|(refine CW.cU rfl ?_)|(refine SW.call rfl rfl (c1 _ hw) ?_;intro v w1 ab hv;subst hv;replace hw:=Ext.trans hw ab;replace ap:=ap.ext ab;replace aB:=aB.ext ab;clear ab))
  refine SW.aj aB rfl rfl rfl rfl (cf .zero) fun w5 bV hg => ?_
  replace hw:=hw.own cX hg;refine Wz ?_;exact ae.bQ rfl rfl rfl bV rfl ⟨_,rfl,hw,_,.bad hq,fl.zero 8 _ _⟩
 have hM:=ga.1 hq;have eC:r.Heap.bt=s.Heap.bt:=hr.heap.dc
 have IH:=hM.heap.dc;by_cases ku:kI s cpu
 ·have vm:=ku;unfold kI at vm
  have c2:∀ w',a9 Tryz.prog 48 [.int .i64 cpu,.int .i64 0,.int .i64 (r.Heap.bt-1)] w' fun v _=>v = .bool true:=fun w'=>by
   have:=ca cpu 0 (r.Heap.bt-1) w'
   rwa [decide_eq_true (show 0≤cpu∧cpu≤r.Heap.bt-1 by omega)] at this
  repeat' (first|refine Wz ?_|(refine CW.cj rfl ?_)|((first|refine SW.call rfl rfl (c1 _ hw) ?_|refine SW.call rfl rfl (c2 _) ?_);intro v w1 ab hv;subst hv;replace hw:=Ext.trans hw ab;replace ap:=ap.ext ab;replace aB:=aB.ext ab;clear ab))
  refine SW.call rfl rfl (yS r s a _ (hr.ext hw) hf hM ha) fun v w5 fI hv => ?_
  obtain ⟨u,hO,rfl⟩:=hv;(replace hw:=Ext.trans hw fI;replace ap:=ap.ext fI;replace aB:=aB.ext fI);clear c1 c2;obtain ⟨cs,hc⟩:=hr.bJ;obtain ⟨z1,z2⟩:=hc.len;have hA:=hc.row.base;cases u with
  | some i =>
    have hi:i<s.aa.length:=by cases hO;assumption
    have cy:i<r.aa.n:=by omega
    have DY:i<cs.length:=by omega
    have dm:=hc.each.get i DY hi;have q1:=dm.names.len;have q3:=(hM.each i hi).may.names;have vU : 0<cs[i].Names.n:=by omega
    have IF:=dm.names.base;have gN:=dm.names.one vU (congrArg encStr (rfl:s.aa[i].Names[0]=s.aa[i].Names[0]));have eN:s.aa[i].Names[0]=pY s.aa[i]:=by simp [pY,q3]
    rw [eN] at gN;simp only;refine Wz ?_;refine CW.any 14 mixed (bZ (by kernel_rfl)) rfl fun w1 ab bd => ?_
    replace hw:=Ext.trans hw ab;replace ap:=ap.ext ab;replace aB:=aB.ext ab;clear ab;refine Wa ?_;refine SA.take 6 bd rfl (by kernel_rfl) (by kernel_rfl) rfl ?_;repeat ((show SW _ _ _ _ (⟨_,Op.load _ _,_,_,_,none⟩::_) _ _;refine SW.st (ag hw rfl (hc.row.fE cy (j:=0) (u := .slice cs[i].Names.A cs[i].Names.n cs[i].Names.c) rfl)) rfl ?_))
    refine SW.aq ?_;refine Wa ?_;refine SA.take 8 bd rfl (by kernel_rfl) (by kernel_rfl) rfl ?_;repeat ((show SW _ _ _ _ (⟨_,Op.load _ _,_,_,_,none⟩::_) _ _;refine SW.st (ag hw rfl gN) rfl ?_))
    refine SW.aq ?_;refine Wa ?_;refine SA.one 11 rfl (by kernel_rfl) rfl ?_;refine SW.call rfl rfl (xq r s _ cpu a _ (hr.ext hw) hf) fun v w4 ai hv => ?_
    obtain ⟨u,hP,s1,rfl,kY⟩:=hv;replace kY:=kY.low hw.size;(replace hw:=Ext.trans hw ai;replace ap:=ap.ext ai;replace aB:=aB.ext ai);refine SW.nil (ae.sa ai ?_);refine Wa ?_;refine SA.done (by kernel_rfl) ?_;refine SW.aj aB rfl rfl rfl rfl (cf s1) fun w6 hR hg => ?_
    have hG:=aB.gr hg;replace hw:=hw.own cX hg;(replace kY:=kY.aD hG rfl);refine Wz ?_;exact ae.bQ rfl rfl rfl hR rfl ⟨_,rfl,hw,_,.obj hq ku hi hO hP,_,rfl,kY⟩
  | none =>
    simp only;obtain ⟨o,ho⟩ : ∃ o,g9 s a=o:=⟨_,rfl⟩
    have c2:∀ w',Ext w w'→a9 Tryz.prog 51 [.agg (aH r).toArray,.int .i64 a] w' fun v _=>v = .int .i64 o:=fun w' hx=>by
     have:=tM r s a w' (hr.ext hx) hs hM ha
     rwa [ho] at this
    cases hW:df s a
    ·have e:=xh hW;rw [ho] at e;repeat' (first|refine Wz ?_|(refine SW.call rfl rfl (c2 _ hw) ?_;intro v w1 ab hv;subst hv;replace hw:=Ext.trans hw ab;replace ap:=ap.ext ab;replace aB:=aB.ext ab;clear ab))
     refine SW.aj aB rfl rfl rfl rfl (cf .zero) fun w7 bV hg => ?_
     replace hw:=hw.own cX hg;refine Wz ?_;exact ae.bQ rfl rfl rfl bV rfl ⟨_,rfl,hw,_,.no hq ku hO hW,fl.zero 4 _ _⟩
    ·obtain ⟨hk,e1,e2,e3⟩:=xg hM hW;rw [ho] at e2 e3;obtain ⟨zq,IG,_⟩:=jV hW;repeat' (first|refine Wz ?_|refine SW.st (aS rfl rfl ((eK ap))) rfl ?_|(refine SW.call rfl rfl (c2 _ hw) ?_;intro v w1 ab hv;subst hv;replace hw:=Ext.trans hw ab;replace ap:=ap.ext ab;replace aB:=aB.ext ab;clear ab))
     refine SW.call rfl rfl (jU r.Heap s.Heap cpu (a / 16) _ (hr.heap.ext hw) hs.heap hf.bU (by omega)) fun v w7 Ck hv => ?_
     obtain ⟨H,rfl,hH⟩:=hv;rw [rr hM ku hW];replace hH:=hH.low hw.size;(replace hw:=Ext.trans hw Ck;replace ap:=ap.ext Ck;replace aB:=aB.ext Ck);refine Wz ?_;refine SW.alloc rfl fun b9 w1 ab jl cn => ?_
     skip;refine SW.aj cn rfl rfl rfl rfl (cV H) fun w2 fu hg => ?_
     have ai:=ab.own jl hg;have mz:w.heap.size≤b9:=Nat.le_trans hw.size jl
     replace hw:=Ext.trans hw ai;replace ap:=ap.ext ai;replace aB:=aB.ext ai;replace hH:=hH.ext ai;replace cn:=fu;clear fu ab hg ai;refine Wz ?_;refine SW.call rfl rfl (ic r s _ (hr.ext hw) hs) fun v w9 zj hv => ?_
     obtain ⟨p,qw,rfl,DZ,_⟩:=hv;have hP:=DZ.pV.low hw.size;clear DZ;(replace hw:=Ext.trans hw zj;replace ap:=ap.ext zj;replace aB:=aB.ext zj;replace cn:=cn.ext zj;replace hH:=hH.ext zj);have Eo:=aB.lt;refine SW.alloc rfl fun qA w1 ab jd bw => ?_
     skip;refine SW.aj bw rfl rfl rfl rfl (cf p) fun w2 iI hg => ?_
     have ai:=ab.own jd hg;have kB:w.heap.size≤qA:=Nat.le_trans hw.size jd
     replace hw:=Ext.trans hw ai;replace ap:=ap.ext ai;replace aB:=aB.ext ai;replace cn:=cn.ext ai;replace hH:=hH.ext ai;replace hP:=hP.ext ai;replace bw:=iI;clear iI ab hg ai;have cQ:b6≠qA:=by omega
     refine Wz ?_;refine SW.jE 1 bw rfl rfl rfl (Nat.le_of_ble_eq_true rfl) (cV H) (aH ⟨p.Words,H,p.aa⟩) rfl fun DR iI hg => ?_
     have hG:=bw.gr hg;replace aB:=aB.grown hg (by simpa using cQ);replace hw:=hw.own kB hg;(replace hH:=hH.aD hG rfl;replace hP:=hP.aD hG rfl);refine Wz ?_;refine SW.aj aB rfl rfl rfl rfl (cf ⟨p.Words,H,p.aa⟩) fun Af hR hg => ?_
     have hG:=aB.gr hg;replace hw:=hw.own cX hg;(replace hH:=hH.aD hG rfl;replace hP:=hP.aD hG rfl);refine Wz ?_;exact ae.bQ rfl rfl rfl hR rfl ⟨_,rfl,hw,_,.whole hq ku hO hW,_,rfl,hP.words,hH,hP.bJ⟩
 ·have vm:=ku;unfold kI at vm
  have c2:∀ w',a9 Tryz.prog 48 [.int .i64 cpu,.int .i64 0,.int .i64 (r.Heap.bt-1)] w' fun v _=>v = .bool false:=fun w'=>by
   have:=ca cpu 0 (r.Heap.bt-1) w'
   rwa [decide_eq_false (show ¬ (0≤cpu∧cpu≤r.Heap.bt-1) by omega)] at this
  repeat' (first|refine Wz ?_|(first|refine CW.cU rfl ?_|refine CW.cj rfl ?_)|((first|refine SW.call rfl rfl (c1 _ hw) ?_|refine SW.call rfl rfl (c2 _) ?_);intro v w1 ab hv;subst hv;replace hw:=Ext.trans hw ab;replace ap:=ap.ext ab;replace aB:=aB.ext ab;clear ab))
  refine SW.aj aB rfl rfl rfl rfl (cf .zero) fun w5 bV hg => ?_
  replace hw:=hw.own cX hg;refine Wz ?_;exact ae.bQ rfl rfl rfl bV rfl ⟨_,rfl,hw,_,.range hq ku,fl.zero 1 _ _⟩
set_option maxHeartbeats 2000000 in
theorem qG (r:dF) (s:ar) (cpu a:Int) (w:World) (hr:lg w r s) (hf:s.iN) (ha : -9223372036854775808≤a∧a≤9223372036854775807) (hS:kF w) :
 a9 Tryz.prog 6 [.agg (aH r).toArray,.int .i64 cpu,.int .i64 a] w fun v _=>v = .bool true:=by
 refine aC Tryz.func6 rfl Tryz.ntmps6 rfl ?_;have hs:=hf.small;refine CW.seq (CW.region (SW.box rfl rfl fun b1 w1 hw gI au => ?_));refine Wz ?_;refine SW.call rfl rfl (ic r s _ (hr.ext hw) hs) fun v w4 gf hv => ?_
 obtain ⟨k,cs,rfl,GZ,_⟩:=hv;have hK:=GZ.pV;clear GZ;(replace hw:=Ext.trans hw gf;replace au:=au.ext gf);refine SW.alloc rfl fun b3 w1 ab bM ap => ?_
 skip;refine SW.aj ap rfl rfl rfl rfl (cf k) fun w2 de hg => ?_
 have ai:=ab.own bM hg;have bO:w.heap.size≤b3:=Nat.le_trans hw.size bM
 replace hw:=Ext.trans hw ai;replace au:=au.ext ai;replace hK:=hK.ext ai;replace ap:=de;clear de ab hg ai;refine Wz ?_;refine SW.call rfl rfl (xr k s cpu a _ hK.rd hf ha (hS.ext hw)) fun v w5 fI hv => ?_
 obtain ⟨o,hu,s1,rfl,kY⟩:=hv;have Ec:=hu.small hf;(replace hw:=Ext.trans hw fI;replace au:=au.ext fI;replace ap:=ap.ext fI;replace hK:=hK.ext fI);refine Wz ?_;refine SW.alloc rfl fun b4 w1 ab iL bA => ?_
 skip;refine SW.aj bA rfl rfl rfl rfl (cf s1) fun w2 jn hg => ?_
 have ai:=ab.own iL hg;have nV:w.heap.size≤b4:=Nat.le_trans hw.size iL
 replace hw:=Ext.trans hw ai;replace au:=au.ext ai;replace ap:=ap.ext ai;replace hK:=hK.ext ai;replace kY:=kY.ext ai;replace bA:=jn;clear jn ab hg ai;refine Wz ?_;refine SW.call rfl rfl (ua r s cpu a _ (hr.ext hw) hf ha) fun v w6 uk hv => ?_
 obtain ⟨o',II,s2,rfl,D0⟩:=hv;obtain rfl:=hu.mM II;(replace hw:=Ext.trans hw uk;replace au:=au.ext uk;replace ap:=ap.ext uk;replace bA:=bA.ext uk;replace hK:=hK.ext uk;replace kY:=kY.ext uk);refine Wz ?_;refine SW.alloc rfl fun b6 w1 ab eJ aB => ?_
 skip;refine SW.aj aB rfl rfl rfl rfl (cf s2) fun w2 gg hg => ?_
 have ai:=ab.own eJ hg;have cX:w.heap.size≤b6:=Nat.le_trans hw.size eJ
 replace hw:=Ext.trans hw ai;replace au:=au.ext ai;replace ap:=ap.ext ai;replace bA:=bA.ext ai;replace hK:=hK.ext ai;replace kY:=kY.ext ai;replace D0:=D0.ext ai;replace aB:=gg;clear gg ab hg ai;have cA:∀ w',Ext w w'→lg w' s1 o.1→lg w' s2 o.1→a9 Tryz.prog 23 [.agg (aH s1).toArray,.agg (aH s2).toArray] w' fun v _=>v = .bool true:=fun w' _ h1 h2=>kJ s1 s2 o.1 w' h1 h2 Ec
 have cB:∀ w',Ext w w'→lg w' k s→a9 Tryz.prog 23 [.agg (aH k).toArray,.agg (aH r).toArray] w' fun v _=>v = .bool true:=fun w' hx h1=>kJ k r s w' h1 (hr.ext hx) hs
 repeat' (first|refine Wz ?_|((first|refine SW.call rfl rfl (cA _ hw kY.rd D0.rd) ?_|refine SW.call rfl rfl (cB _ hw hK.rd) ?_);intro v w1 ab hv;subst hv;replace hw:=Ext.trans hw ab;replace au:=au.ext ab;replace ap:=ap.ext ab;replace bA:=bA.ext ab;replace aB:=aB.ext ab;replace hK:=hK.ext ab;replace kY:=kY.ext ab;replace D0:=D0.ext ab;clear ab))
 exact ae.aF rfl rfl ⟨_,rfl,hw,rfl⟩
end Go.Proofs.YtbidkghlpijecaaGreatDoor
