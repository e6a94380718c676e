/-
  Texts of the claim KmemFrees, part 14: what its theorem leans on.
-/
import Derived.Test.YtbidkghlpijecaaGreatDoorPackKmemFrees12
import Derived.Test.YtbidkghlpijecaaGreatDoorPackKmemFrees9
import Derived.Test.YtbidkghlpijecaaGreatDoorPackKmemFrees13
import Derived.Test.YtbidkghlpijecaaGreatDoorPackKmemFrees2
import Derived.Test.YtbidkghlpijecaaGreatDoorRows
import Derived.Test.YtbidkghlpijecaaGreatDoorPackKmemFrees3
import Derived.ProofKit
import Derived.SizedLaws
import Derived.JoinedCond
import Derived.Deep.Slices
import Derived.Deep.Fields
import Derived.Lib.SmallJoins
import Derived.OpenShut
import Derived.Test.YtbidkghlpijecaaGreatDoorPackKmemFrees1
import Derived.Test.YtbidkghlpijecaaGreatDoorPackKmemFrees4
import Derived.Test.YtbidkghlpijecaaGreatDoorPackKmemFrees11
import Derived.Great.BuildSlice
set_option linter.unusedVariables false
set_option linter.unusedSimpArgs false
namespace Go.Proofs.YtbidkghlpijecaaGreatDoor
open Go.RowKit
set_option maxHeartbeats 8000000 in
theorem pP (r:dF) (s:ar) (w:World) (hr:lg w r s) (hf:s.iN) :
 a9 Tryz.prog 47 [.agg (aH r).toArray] w fun v _=>v = .bool (eD s):=by
 refine aC Tryz.func47 rfl Tryz.ntmps47 rfl ?_;refine CW.seq (CW.region (SW.box rfl rfl fun b1 w1 hw gI au => ?_));obtain ⟨cs,hc⟩:=hr.bJ;obtain ⟨z1,z2⟩:=hc.len;have wl:=hr.words.len;have hs:=hf.small;have m3:=hs.bJ;obtain ⟨q,hq⟩ : ∃ q,gQ s.Heap=q:=⟨_,rfl⟩
 have c1:∀ w',Ext w w'→a9 Tryz.prog 114 [.agg (bl r.Heap).toArray] w' fun v _=>v = .bool q:=fun w' hx=>by
  have:=tD r.Heap s.Heap w' (hr.heap.ext hx) hs.heap hf.bU
  rwa [hq] at this
 by_cases pH:s.Words.length=4096∧q=true∧s.aa.length≤20
 ·obtain ⟨g1,g2,g3⟩:=pH;subst g2;have hH:=iu.1 hq;repeat' (first|refine Wz ?_|refine SW.want rfl rfl ?_|refine SW.st (aS rfl rfl ((eK au))) rfl ?_|(refine SW.call rfl rfl (c1 _ hw) ?_;intro v w1 ab hv;subst hv;replace hw:=Ext.trans hw ab;replace au:=au.ext ab;clear ab))
  all_goals try omega
  clear c1
  refine CW.loop (fun u:Nat×Option Addr×Nat×Option Addr×Nat=>[(1,.pointer (some ⟨b1,0,none⟩)),(3,.slice u.2.1 (bI (s.aa.take u.1)).length u.2.2.1),(4,.slice u.2.2.2.1 (bX (s.aa.take u.1)).length u.2.2.2.2),(5,.int .i64 (u.1:Int))])
   (fun u w'=>u.1≤r.aa.n∧Ext w w'∧aU w' b1 44 (aH r)∧Own w' w.heap.size 9 1 encStr u.2.1 (bI (s.aa.take u.1)).length u.2.2.1 (bI (s.aa.take u.1))∧Own w' w.heap.size 3 1 bm u.2.2.2.1 (bX (s.aa.take u.1)).length u.2.2.2.2 (bX (s.aa.take u.1)) ∧
     ∀ (i:Nat) (h:i<s.aa.length),i<u.1→ox s i h) (fun u=>r.aa.n-u.1) (0,none,0,none,0)
   ⟨rfl,by simp [bI];rfl,by simp [bX];rfl,rfl,trivial⟩ ⟨by simp only;omega,hw,au,Own.er _ _ _ _ _ _,Own.er _ _ _ _ _ _,fun i h h'=>by simp only at h';omega⟩ ?_
  clear hw au;rintro ⟨k,A1,c1,A2,c2⟩ w' ⟨hk,hw,au,hN,hS,hI⟩
  simp only at hk hN hS hI ⊢;have hA:=hc.row.base;by_cases cc:k<r.aa.n
  ·have Bp:k<cs.length:=by omega
   have cG:k<s.aa.length:=by omega
   have dm:=hc.each.get k Bp cG;have sm:=hs.each _ (List.getElem_mem cG);have fN:=hf.names _ (List.getElem_mem cG);have q1:=dm.names.len;have q2:=dm.aL.len;have q4:=sm.names;have q5:=sm.aL;obtain ⟨⟨Gn,Gp⟩,Gq,Gr⟩:=tw hH k (by omega) hI;repeat' (first|refine Wz ?_|refine SW.st (aA hw rfl rfl ((hc.row.all cc))) rfl ?_)
   refine SW.alloc rfl fun b6 w1 ab eJ aB => ?_
   skip;refine SW.aj aB rfl rfl rfl rfl (nr _) fun w2 gg hg => ?_
   have ai:=ab.own eJ hg;have cX:w.heap.size≤b6:=Nat.le_trans hw.size eJ
   replace hw:=Ext.trans hw ai;replace au:=au.ext ai;replace hN:=hN.ext ai;replace hS:=hS.ext ai;replace aB:=gg;clear gg ab hg ai;obtain ⟨qc,BK⟩ : ∃ qc,gp s s.aa[k]=qc:=⟨_,rfl⟩
   have cC:∀ w',Ext w w'→a9 Tryz.prog 115 [.agg (aH r).toArray,.agg (bR cs[k]).toArray] w' fun v _=>v = .bool qc:=fun w' hx=>by
    have:=sk r s cs[k] s.aa[k] w' (hr.ext hx) (dm.ext hx) hs sm hH
    rwa [BK] at this
   cases qc
   ·have hF:eD s=false:=iG fun hm=>by
     have:=kw (hm.each k cG).may
     rw [BK] at this;cases this
    rw [hF];repeat' (first|refine Wz ?_|(refine CW.cU rfl ?_)|(refine SW.call rfl rfl (cC _ hw) ?_;intro v w1 ab hv;subst hv;replace hw:=Ext.trans hw ab;replace au:=au.ext ab;replace aB:=aB.ext ab;replace hN:=hN.ext ab;replace hS:=hS.ext ab;clear ab))
    exact ae.aF rfl rfl ⟨_,rfl,hw,rfl⟩
   ·have xy:=py.1 BK;repeat' (first|refine Wz ?_|(refine CW.cj rfl ?_)|(refine SW.call rfl rfl (cC _ hw) ?_;intro v w1 ab hv;subst hv;replace hw:=Ext.trans hw ab;replace au:=au.ext ab;replace aB:=aB.ext ab;replace hN:=hN.ext ab;replace hS:=hS.ext ab;clear ab))
    clear cC;obtain ⟨acc,sd⟩ : ∃ acc,bI (s.aa.take k)=acc:=⟨_,rfl⟩;rw [sd] at hN Gn Gp ⊢;obtain ⟨lX,se⟩ : ∃ lX,bX (s.aa.take k)=lX:=⟨_,rfl⟩;rw [se] at hS Gq Gr ⊢
    refine CW.loop (fun j:Nat=>[(1,.pointer (some ⟨b1,0,none⟩)),(3,.slice A1 acc.length c1),(4,.slice A2 lX.length c2),(5,.int .i64 (k:Int)),(6,.pointer (some ⟨b6,0,none⟩)),(7,.int .i64 (j:Int))])
     (fun j w'=>j≤k∧Ext w w'∧aU w' b1 44 (aH r)∧aU w' b6 89 (bR cs[k])∧Own w' w.heap.size 9 1 encStr A1 acc.length c1 acc∧Own w' w.heap.size 3 1 bm A2 lX.length c2 lX ∧ ∀ (i:Nat) (h:i<k),i<j→(s.aa[i]'(by omega)).bp≠s.aa[k].bp) (fun j=>k-j) 0
     ⟨rfl,rfl,rfl,rfl,rfl,rfl,trivial⟩ ⟨by omega,hw,au,aB,hN,hS,fun i h h'=>by omega⟩ ?_
    clear hw au hN hS aB;rintro j w' ⟨hj,hw,au,aB,hN,hS,hZ⟩
    by_cases iB:j<k
    ·have gZ:=hc.row.fE (show j<r.aa.n by omega) (j:=1) (u := .int .i64 (cs[j]'(by omega)).bp) rfl;have e1:=(hc.each.get j (by omega) (by omega)).size;have e2:=dm.size;by_cases hx:(s.aa[j]'(by omega)).bp=s.aa[k].bp
     ·rw [iG fun hm=>(hm.each k cG).size j iB hx];repeat' (first|refine Wz ?_|((apply CW.aM mixed;(· kernel_rfl);rotate_left;intro w1 ab;replace hw:=Ext.trans hw ab;replace au:=au.ext ab;replace aB:=aB.ext ab;replace hN:=hN.ext ab;replace hS:=hS.ext ab;clear ab;rotate_right))|refine SW.st (ag hw rfl gZ) rfl ?_|exact SW.br rfl)
      all_goals try omega
      exact ae.aF rfl rfl ⟨_,rfl,hw,rfl⟩
     ·repeat' (first|refine Wz ?_|((apply CW.aM mixed;(· kernel_rfl);rotate_left;intro w1 ab;replace hw:=Ext.trans hw ab;replace au:=au.ext ab;replace aB:=aB.ext ab;replace hN:=hN.ext ab;replace hS:=hS.ext ab;clear ab;rotate_right))|refine SW.st (ag hw rfl gZ) rfl ?_|exact SW.br rfl)
      all_goals try omega
      exact ae.again (j+1) ⟨rfl,rfl,rfl,rfl,rfl,rfl,trivial⟩ (by omega) ⟨by omega,hw,au,aB,hN,hS,fun i h h'=>by
       by_cases ei:i=j
       ·subst ei;exact hx
       ·exact hZ i h (by omega)⟩
    ·have ub:∀ (i:Nat) (h:i<k),(s.aa[i]'(by omega)).bp≠s.aa[k].bp:=fun i h=>hZ i h (by omega)
     refine Wz ?_;clear hZ
     refine CW.loop (fun u:Nat×Option Addr×Nat=>[(1,.pointer (some ⟨b1,0,none⟩)),(3,.slice u.2.1 (acc++s.aa[k].Names.take u.1).length u.2.2),(4,.slice A2 lX.length c2),(5,.int .i64 (k:Int)),(6,.pointer (some ⟨b6,0,none⟩)),(8,.int .i64 (u.1:Int))])
      (fun u w'=>u.1≤cs[k].Names.n∧Ext w w'∧aU w' b1 44 (aH r)∧aU w' b6 89 (bR cs[k])∧Own w' w.heap.size 9 1 encStr u.2.1 (acc++s.aa[k].Names.take u.1).length u.2.2 (acc++s.aa[k].Names.take u.1)∧Own w' w.heap.size 3 1 bm A2 lX.length c2 lX ∧
        ∀ (i:Nat) (h:i<s.aa[k].Names.length),i<u.1→fh s.aa[k].Names[i]=true∧s.aa[k].Names[i]∉acc++s.aa[k].Names.take i∧(0<i→eQ (s.aa[k].Names[i-1]'(by omega)) s.aa[k].Names[i]=true)) (fun u=>cs[k].Names.n-u.1) (0,A1,c1)
      ⟨rfl,by simp;rfl,rfl,rfl,rfl,rfl,trivial⟩ ⟨by simp only;omega,hw,au,aB,by simpa using hN,hS,fun i h h'=>by simp only at h';omega⟩ ?_
     clear hw au hN hS aB;rintro ⟨j,A1,c1⟩ w' ⟨hj,hw,au,aB,hN,hS,hJ⟩
     simp only at hj hN hJ ⊢;have yu:=dm.names.base;by_cases fF:j<cs[k].Names.n
     ·have jq:j<s.aa[k].Names.length:=by omega
      obtain ⟨nm,qg⟩ : ∃ nm,s.aa[k].Names[j]=nm:=⟨_,rfl⟩;have gN:=dm.names.one fF (u := .string nm) (by rw [← qg];rfl);have zW:nm.size≤140737488351232:=by rw [← qg];exact fN _ (List.getElem_mem jq)
      obtain ⟨qn,BL⟩ : ∃ qn,fh nm=qn:=⟨_,rfl⟩
      have zX:∀ w',a9 Tryz.prog 116 [.string nm] w' fun v _=>v = .bool qn:=fun w'=>by
       have:=sS nm w' zW
       rwa [BL] at this
      have wS:=tv (iH (l:=s.aa[k].Names) Gn j (fun i h h'=>(hJ i h h').2.1)) (fun n hn=>by
       rcases List.mem_append.1 hn with hn|hn
       ·exact Gp n hn
       ·obtain ⟨i,hi,rfl⟩:=List.mem_take_iff_getElem.1 hn;exact (hJ i (by omega) (by omega)).1)
      have mu:acc++s.aa[k].Names.take (j+1)=(acc++s.aa[k].Names.take j)++[nm]:=by rw [List.take_succ_eq_append_getElem jq,qg];simp
      have nE:(qn=false∨nm∈acc++s.aa[k].Names.take j ∨ ∃ wL : 0<j,eQ (s.aa[k].Names[j-1]'(by omega)) nm=false)→eD s=false:=fun h=>iG fun hm=>by
       have h1:=(hm.each k cG).names.each j jq;rw [qg,sd] at h1;rcases h with h|h|⟨wL,h⟩
       ·rw [BL,h] at h1;exact absurd h1.1 (by simp)
       ·exact h1.2.1 h
       ·rw [h1.2.2 wL] at h;cases h
      have go:fh nm=true→(0<j→eQ (s.aa[k].Names[j-1]'(by omega)) nm=true)→nm∉acc++s.aa[k].Names.take j → ∀ (i:Nat) (h:i<s.aa[k].Names.length),i<j+1→fh s.aa[k].Names[i]=true∧s.aa[k].Names[i]∉acc++s.aa[k].Names.take i∧(0<i→eQ (s.aa[k].Names[i-1]'(by omega)) s.aa[k].Names[i]=true):=fun h1 h2 h3 i h h'=>by
       by_cases ei:i=j
       ·subst ei;rw [qg];exact ⟨h1,h3,h2⟩
       ·exact hJ i h (by omega)
      obtain ⟨ac,Fj⟩ : ∃ ac,acc++s.aa[k].Names.take j=ac:=⟨_,rfl⟩;rw [Fj] at hN wS mu nE go ⊢;cases qn
      ·rw [nE (.inl rfl)];repeat' (first|refine Wz ?_|((apply CW.aM mixed;(· kernel_rfl);rotate_left;intro w1 ab;replace hw:=Ext.trans hw ab;replace au:=au.ext ab;replace aB:=aB.ext ab;replace hN:=hN.ext ab;replace hS:=hS.ext ab;clear ab;rotate_right))|refine SW.skip rfl rfl rfl rfl ?_|refine SW.st (ag hw rfl gN) rfl ?_|refine SW.bf rfl rfl (fun w1 ab=>(zX _)) ?_|exact SW.br rfl)
       exact ae.aF rfl rfl ⟨_,rfl,hw,rfl⟩
      ·by_cases pI : 0<j→eQ (s.aa[k].Names[j-1]'(by omega)) nm=true
       ·rcases Nat.eq_zero_or_pos j with wL|wL
        all_goals
         first
         | (have gP:=dm.names.one (show j-1<cs[k].Names.n by omega) (u := .string (s.aa[k].Names[j-1]'(by omega))) rfl
            have Ax:(!eQ (s.aa[k].Names[j-1]'(by omega)) nm)=false:=by rw [pI wL];rfl)
         | skip
        all_goals
         refine Wz ?_;(apply CW.aM mixed;(· kernel_rfl);rotate_left;intro w1 ab;replace hw:=Ext.trans hw ab;replace au:=au.ext ab;replace aB:=aB.ext ab;replace hN:=hN.ext ab;replace hS:=hS.ext ab;clear ab;rotate_right);repeat' (first|refine Wz ?_|refine SW.want rfl rfl ?_|refine SW.st (aV (j-1) rfl rfl (by assumption) (by omega) (by omega)) rfl ?_|refine SW.st (ag hw rfl gN) rfl ?_|refine SW.st (ag hw rfl gP) rfl ?_|refine SW.bf rfl rfl (fun w1 ab=>(zX _)) ?_|(refine SW.st ((sP rfl rfl).eq (congrArg Value.bool Ax)) rfl ?_)|exact SW.br rfl)
         all_goals try omega
         refine CW.loop (fun i:Nat=>[(1,.pointer (some ⟨b1,0,none⟩)),(3,.slice A1 ac.length c1),(4,.slice A2 lX.length c2),(5,.int .i64 (k:Int)),(6,.pointer (some ⟨b6,0,none⟩)),(8,.int .i64 (j:Int)),(9,.int .i64 (i:Int))])
          (fun i w'=>i≤ac.length∧Ext w w'∧aU w' b1 44 (aH r)∧aU w' b6 89 (bR cs[k])∧Own w' w.heap.size 9 1 encStr A1 ac.length c1 ac∧Own w' w.heap.size 3 1 bm A2 lX.length c2 lX ∧ ∀ (m:Nat) (h:m<ac.length),m<i→ac[m]≠nm) (fun i=>ac.length-i) 0
          ⟨rfl,rfl,rfl,rfl,rfl,rfl,rfl,trivial⟩ ⟨by omega,hw,au,aB,hN,hS,fun m h h'=>by omega⟩ ?_
         clear hw au hN hS aB;rintro i w' ⟨hi,hw,au,aB,hN,hS,hM⟩
         have HQ:=hN.sl.base;by_cases cy:i<ac.length
         ·have gM:=hN.sl.one cy (u := .string ac[i]) rfl;by_cases hx:ac[i]=nm
          ·have Fk:=decide_eq_true hx;rw [nE (.inr (.inl (hx ▸ List.getElem_mem cy)))];repeat' (first|refine Wz ?_|((apply CW.aM mixed;(· kernel_rfl);rotate_left;intro w1 ab;replace hw:=Ext.trans hw ab;replace au:=au.ext ab;replace aB:=aB.ext ab;replace hN:=hN.ext ab;replace hS:=hS.ext ab;clear ab;rotate_right))|refine SW.st (ag hw rfl gN) rfl ?_|refine SW.st (az rfl gM) rfl ?_|(refine SW.st ((fU rfl rfl).eq (congrArg Value.bool Fk)) rfl ?_)|exact SW.br rfl)
           exact ae.aF rfl rfl ⟨_,rfl,hw,rfl⟩
          ·have Fk:=decide_eq_false hx;repeat' (first|refine Wz ?_|((apply CW.aM mixed;(· kernel_rfl);rotate_left;intro w1 ab;replace hw:=Ext.trans hw ab;replace au:=au.ext ab;replace aB:=aB.ext ab;replace hN:=hN.ext ab;replace hS:=hS.ext ab;clear ab;rotate_right))|refine SW.st (ag hw rfl gN) rfl ?_|refine SW.st (az rfl gM) rfl ?_|(refine SW.st ((fU rfl rfl).eq (congrArg Value.bool Fk)) rfl ?_)|exact SW.br rfl)
           exact ae.again (i+1) ⟨rfl,rfl,rfl,rfl,rfl,rfl,rfl,trivial⟩ (by omega) ⟨by omega,hw,au,aB,hN,hS,fun m h h'=>by
            by_cases em:m=i
            ·subst em;exact hx
            ·exact hM m h (by omega)⟩
         ·have uw:nm∉ac:=fun hm=>by
           obtain ⟨m,kC,mJ⟩:=List.getElem_of_mem hm;exact hM m kC (by omega) mJ
          repeat' (first|refine Wz ?_|refine SW.st (ag hw rfl gN) rfl ?_)
          refine SW.bW rfl rfl rfl rfl rfl fun b w1 ab hb hB => ?_
          (replace hw:=Ext.trans hw ab;replace au:=au.ext ab;replace aB:=aB.ext ab;replace hN:=hN.ext ab;replace hS:=hS.ext ab);refine SW.append hN (aU.kf (enc:=encStr) hB) hw.size rfl rfl rfl (by omega) (by omega) fun A3 c3 w2 HR hg => ?_
          replace hw:=aK hw hg (Nat.le_refl _) hN.aN;replace au:=au.grown hg (fun e=>hN.cq au rfl e.symm);replace aB:=aB.grown hg (fun e=>hN.cq aB rfl e.symm);replace hS:=hS.grown hg (hS.rM hN rfl);refine Wz ?_;exact ae.again (j+1,A3,c3) ⟨rfl,by simp only [mu,List.length_append];rfl,rfl,rfl,rfl,rfl,trivial⟩ (by simp only;omega) ⟨by simp only;omega,hw,au,aB,by simp only [mu,List.length_append];exact HR,hS,go BL pI uw⟩
       ·have wL : 0<j:=by
         rcases Nat.eq_zero_or_pos j with h|h
         ·exact absurd (fun h'=>by omega) pI
         ·exact h
        have En:eQ (s.aa[k].Names[j-1]'(by omega)) nm=false:=by
         cases e:eQ (s.aa[k].Names[j-1]'(by omega)) nm
         ·rfl
         ·exact absurd (fun _=>e) pI
        have gP:=dm.names.one (show j-1<cs[k].Names.n by omega) (u := .string (s.aa[k].Names[j-1]'(by omega))) rfl;have Ax:(!eQ (s.aa[k].Names[j-1]'(by omega)) nm)=true:=by rw [En];rfl
        rw [nE (.inr (.inr ⟨wL,En⟩))];repeat' (first|refine Wz ?_|((apply CW.aM mixed;(· kernel_rfl);rotate_left;intro w1 ab;replace hw:=Ext.trans hw ab;replace au:=au.ext ab;replace aB:=aB.ext ab;replace hN:=hN.ext ab;replace hS:=hS.ext ab;clear ab;rotate_right))|refine SW.want rfl rfl ?_|refine SW.st (aV (j-1) rfl rfl (by assumption) (by omega) (by omega)) rfl ?_|refine SW.st (ag hw rfl gN) rfl ?_|refine SW.st (ag hw rfl gP) rfl ?_|refine SW.bf rfl rfl (fun w1 ab=>(zX _)) ?_|(refine SW.st ((sP rfl rfl).eq (congrArg Value.bool Ax)) rfl ?_)|exact SW.br rfl)
        all_goals try omega
        exact ae.aF rfl rfl ⟨_,rfl,hw,rfl⟩
     ·have BN:r8 (bI (s.aa.take k)) s.aa[k].Names:=⟨fun i h=>by rw [sd];exact hJ i h (by omega)⟩
      rw [List.take_of_length_le (show s.aa[k].Names.length≤j by omega)] at hN ⊢;rw [← sd,← gW s.aa k cG] at hN ⊢;refine Wz ?_;clear hJ;obtain ⟨nl,Gs⟩ : ∃ nl,bI (s.aa.take (k+1))=nl:=⟨_,rfl⟩;rw [Gs] at hN ⊢
      refine CW.loop (fun u:Nat×Option Addr×Nat=>[(1,.pointer (some ⟨b1,0,none⟩)),(3,.slice A1 nl.length c1),(4,.slice u.2.1 (lX++(s.aa[k].ah.take u.1).map fun x=>x.At).length u.2.2),(5,.int .i64 (k:Int)),(6,.pointer (some ⟨b6,0,none⟩)),(10,.int .i64 (u.1:Int))])
       (fun u w'=>u.1≤cs[k].ah.n∧Ext w w'∧aU w' b1 44 (aH r)∧aU w' b6 89 (bR cs[k])∧Own w' w.heap.size 9 1 encStr A1 nl.length c1 nl∧Own w' w.heap.size 3 1 bm u.2.1 (lX++(s.aa[k].ah.take u.1).map fun x=>x.At).length u.2.2 (lX++(s.aa[k].ah.take u.1).map fun x=>x.At) ∧
         ∀ (i:Nat) (h:i<s.aa[k].ah.length),i<u.1→s.aa[k].ah[i].At∉lX++(s.aa[k].ah.take i).map fun x=>x.At) (fun u=>cs[k].ah.n-u.1) (0,A2,c2)
       ⟨rfl,rfl,by simp;rfl,rfl,rfl,rfl,trivial⟩ ⟨by simp only;omega,hw,au,aB,hN,by simpa using hS,fun i h h'=>by simp only at h';omega⟩ ?_
      clear hw au hN hS aB;rintro ⟨j,A2,c2⟩ w' ⟨hj,hw,au,aB,hN,hS,hJ⟩
      simp only at hj hS hJ ⊢;have yu:=dm.aL.base;by_cases fF:j<cs[k].ah.n
      ·have jq:j<s.aa[k].ah.length:=by omega
       obtain ⟨t,ht⟩ : ∃ t,s.aa[k].ah[j].At=t:=⟨_,rfl⟩;have gT:=dm.aL.fE fF (j:=0) (u := .int .i64 t) (by rw [← ht];rfl)
       have wS:=wM (iH (l:=s.aa[k].ah.map fun x=>x.At) Gq j (fun i h h'=>by
        have:=hJ i (by simpa using h) h'
        simpa [List.map_take] using this)) (fun n hn=>by
        rcases List.mem_append.1 hn with hn|hn
        ·exact Gr n hn
        ·obtain ⟨x,hx,rfl⟩:=List.mem_map.1 (List.mem_of_mem_take hn);exact xy.Eg hH x hx)
       rw [← List.map_take] at wS
       have mu:(lX++(s.aa[k].ah.take (j+1)).map fun x=>x.At)=(lX++(s.aa[k].ah.take j).map fun x=>x.At)++[t]:=by
        rw [List.take_succ_eq_append_getElem jq,← ht,List.map_append,List.append_assoc]
        rfl
       have AE:t∈(lX++(s.aa[k].ah.take j).map fun x=>x.At)→eD s=false:=fun h=>iG fun hm=>by
        have h1:=(hm.each k cG).aL j jq;rw [ht,se] at h1;exact h1 h
       have go:t∉(lX++(s.aa[k].ah.take j).map fun x=>x.At) → ∀ (i:Nat) (h:i<s.aa[k].ah.length),i<j+1→s.aa[k].ah[i].At∉lX++(s.aa[k].ah.take i).map fun x=>x.At:=fun h1 i h h'=>by
        by_cases ei:i=j
        ·subst ei;rw [ht];exact h1
        ·exact hJ i h (by omega)
       obtain ⟨ac,Fj⟩ : ∃ ac,(lX++(s.aa[k].ah.take j).map fun x=>x.At)=ac:=⟨_,rfl⟩;rw [Fj] at hS wS mu AE go ⊢;refine Wz ?_
       refine CW.loop (fun i:Nat=>[(1,.pointer (some ⟨b1,0,none⟩)),(3,.slice A1 nl.length c1),(4,.slice A2 ac.length c2),(5,.int .i64 (k:Int)),(6,.pointer (some ⟨b6,0,none⟩)),(10,.int .i64 (j:Int)),(11,.int .i64 (i:Int))])
        (fun i w'=>i≤ac.length∧Ext w w'∧aU w' b1 44 (aH r)∧aU w' b6 89 (bR cs[k])∧Own w' w.heap.size 9 1 encStr A1 nl.length c1 nl∧Own w' w.heap.size 3 1 bm A2 ac.length c2 ac ∧ ∀ (m:Nat) (h:m<ac.length),m<i→ac[m]≠t) (fun i=>ac.length-i) 0
        ⟨rfl,rfl,rfl,rfl,rfl,rfl,rfl,trivial⟩ ⟨by omega,hw,au,aB,hN,hS,fun m h h'=>by omega⟩ ?_
       clear hw au hN hS aB;rintro i w' ⟨hi,hw,au,aB,hN,hS,hM⟩
       have HQ:=hS.sl.base;by_cases cy:i<ac.length
       ·have gM:=hS.sl.one cy (u := .int .i64 ac[i]) rfl;by_cases hx:ac[i]=t
        ·rw [AE (hx ▸ List.getElem_mem cy)];repeat' (first|refine Wz ?_|((apply CW.aM mixed;(· kernel_rfl);rotate_left;intro w1 ab;replace hw:=Ext.trans hw ab;replace au:=au.ext ab;replace aB:=aB.ext ab;replace hN:=hN.ext ab;replace hS:=hS.ext ab;clear ab;rotate_right))|refine SW.st (ag hw rfl gT) rfl ?_|refine SW.st (az rfl gM) rfl ?_|exact SW.br rfl)
         all_goals try omega
         exact ae.aF rfl rfl ⟨_,rfl,hw,rfl⟩
        ·repeat' (first|refine Wz ?_|((apply CW.aM mixed;(· kernel_rfl);rotate_left;intro w1 ab;replace hw:=Ext.trans hw ab;replace au:=au.ext ab;replace aB:=aB.ext ab;replace hN:=hN.ext ab;replace hS:=hS.ext ab;clear ab;rotate_right))|refine SW.st (ag hw rfl gT) rfl ?_|refine SW.st (az rfl gM) rfl ?_|exact SW.br rfl)
         all_goals try omega
         exact ae.again (i+1) ⟨rfl,rfl,rfl,rfl,rfl,rfl,rfl,trivial⟩ (by omega) ⟨by omega,hw,au,aB,hN,hS,fun m h h'=>by
          by_cases em:m=i
          ·subst em;exact hx
          ·exact hM m h (by omega)⟩
       ·have uw:t∉ac:=fun hm=>by
         obtain ⟨m,kC,mJ⟩:=List.getElem_of_mem hm;exact hM m kC (by omega) mJ
        repeat' (first|refine Wz ?_|refine SW.st (ag hw rfl gT) rfl ?_)
        refine SW.bW rfl rfl rfl rfl rfl fun b w1 ab hb hB => ?_
        (replace hw:=Ext.trans hw ab;replace au:=au.ext ab;replace aB:=aB.ext ab;replace hN:=hN.ext ab;replace hS:=hS.ext ab);refine SW.append hS (aU.kf (enc:=bm) hB) hw.size rfl rfl rfl (by omega) (by omega) fun A3 c3 w2 HS hg => ?_
        replace hw:=aK hw hg (Nat.le_refl _) hS.aN;replace au:=au.grown hg (fun e=>hS.cq au rfl e.symm);replace aB:=aB.grown hg (fun e=>hS.cq aB rfl e.symm);replace hN:=hN.grown hg (hN.rM hS rfl);refine Wz ?_;exact ae.again (j+1,A3,c3) ⟨rfl,rfl,by simp only [mu,List.length_append];rfl,rfl,rfl,rfl,trivial⟩ (by simp only;omega) ⟨by simp only;omega,hw,au,aB,hN,by simp only [mu,List.length_append];exact HS,go uw⟩
      ·rw [List.take_of_length_le (show s.aa[k].ah.length≤j by omega),← se,← gY s.aa k cG] at hS ⊢;rw [← Gs] at hN ⊢;refine Wz ?_
       exact ae.again (k+1,A1,c1,A2,c2) ⟨rfl,rfl,rfl,rfl,trivial⟩ (by simp only;omega) ⟨by simp only;omega,hw,au,hN,hS,fun i h h'=>by
        simp only at h';by_cases ei:i=k
        ·subst ei;exact ⟨xy,ub,BN,fun i h=>by rw [se];exact hJ i h (by omega)⟩
        ·exact hI i h (by omega)⟩
  ·rw [uR ⟨g1,hH,g3,fun i h=>hI i h (by omega)⟩];refine Wz ?_;exact ae.aF rfl rfl ⟨_,rfl,hw,rfl⟩
 ·have hF:eD s=false:=iG fun hm=>pH ⟨hm.words,by rw [← hq];exact mn hm.heap,hm.most⟩
  rw [hF];cases q
  all_goals simp only [true_and,Bool.false_eq_true,false_and,and_false,not_false_eq_true] at pH
  ·rcases (show s.Words.length≠4096∨s.Words.length=4096 by omega) with g|g
   all_goals
    repeat' (first|refine Wz ?_|refine SW.skip rfl rfl rfl rfl ?_|refine SW.st (aS rfl rfl ((eK au))) rfl ?_|(refine SW.call rfl rfl (c1 _ hw) ?_;intro v w1 ab hv;subst hv;replace hw:=Ext.trans hw ab;replace au:=au.ext ab;clear ab))
    all_goals try omega
    exact ae.aF rfl rfl ⟨_,rfl,hw,rfl⟩
  ·rcases (show s.Words.length≠4096∨(s.Words.length=4096∧20<s.aa.length) by omega) with g|g
   all_goals
    repeat' (first|refine Wz ?_|refine SW.want rfl rfl ?_|refine SW.st (aS rfl rfl ((eK au))) rfl ?_|(refine SW.call rfl rfl (c1 _ hw) ?_;intro v w1 ab hv;subst hv;replace hw:=Ext.trans hw ab;replace au:=au.ext ab;clear ab))
    all_goals try omega
    exact ae.aF rfl rfl ⟨_,rfl,hw,rfl⟩
open Go.ChangeShapes Go.WideShapes Go.ChangeAt Go.RowKit Go.Deep Go.Joins
theorem own:ownKnob Tryz.prog.godebug=none:=by kernel_rfl
theorem laidOut:laidOutB Tryz.prog=true:=by kernel_rfl
theorem ln {H:Type} {enc:TypeId×Value→H} {P:Program} (hl:laidOutB P=true) {W W':World} (hb:Below W.heap.size W W') :
 ∀ (ts:List TypeId) (vs:List Value) (ds:List (DataW H)) (ps:List MemPlace),(∀ t∈ts,P.readableRec t=true∧t<P.types.size) →
  DataW.TrodAll enc P W 0 (fun _=>true) true ts vs ds ps→(∀ x∈ps,x.block<W.heap.size)→DataW.TrodAll enc P W' 0 (fun b=>decide (b<W.heap.size)) true ts vs ds ps
 | [],[],[],_,_,h,_=>h
 | t::ts,v::vs,d::ds,ps,Dp,h,dH=>by
   obtain ⟨p,q,h1,h2,rfl⟩:=h
   exact ⟨p,q,Below.trod hl (Dp t (by simp)).1 (Dp t (by simp)).2 h1 hb (fun x hx=>dH x (by simp [hx])),
    ln hl hb ts vs ds q (fun u hu=>Dp u (by simp [hu])) h2 (fun x hx=>dH x (by simp [hx])),rfl⟩
 | [],_::_,_,_,_,h,_=>by simp [DataW.TrodAll] at h
 | [],[],_::_,_,_,h,_=>by simp [DataW.TrodAll] at h
 | _::_,[],_,_,_,h,_=>by simp [DataW.TrodAll] at h
 | _::_,_::_,[],_,_,h,_=>by simp [DataW.TrodAll] at h
theorem wT {H:Type} {enc:TypeId×Value→H} {P:Program} {f:Func} {s:ChangeSpec} {Gt:FuncId} {W:World} {args:Array Value} {ds gs:List (DataW H)} {before:List MemPlace} {tb:TypeId}
 (hl:laidOutB P=true) (Dp:∀ t∈f.params.toList,P.readableRec t=true∧t<P.types.size) (hr:f.resultTypes = #[tb]) (hb:P.underlying tb=some .bool) (hv:s.vars=[])
 (HT:(s.fn H (ds++[])).results=[.lit (.bool true)]∧(s.fn H (ds++[])).args=ds∧(s.fn H (ds++[])).vars=[])
 (hW:DataW.Whole enc P f.params.toList s.vars false W args.toList ds gs before) (h:a9 P Gt args.toList W fun v _=>v = .bool true) :
 Calls P Gt args W fun e W' => ∃ v,e = .returned v∧s.post enc P f false true false false W args v W':=by
 have Dq:=hW;obtain ⟨p,q,hA,hV,rfl,_,_⟩:=hW;rw [hv] at hV;obtain ⟨rfl,rfl⟩:=trodVars_none hV;simp only [List.append_nil] at Dq;have dH:∀ x∈p,x.block<W.heap.size:=fun x hx=>by simpa using Dq.lt x hx
 refine Calls.mono h.out ?_;rintro e W' ⟨v,rfl,hx,rfl⟩
 obtain ⟨s1,s2,s3⟩:=HT;refine ⟨_,rfl,ds,[],p,[],p,[],Dq,?_,?_,?_,Below.frame hx _,fun h=>by cases h⟩
 ·rw [s1,hr];exact trodAll_mk1 (shut_bool hb true)
 ·rw [s2];exact ln hl hx _ _ _ _ Dp hA dH
 ·rw [s3,hv]
  rfl
end Go.Proofs.YtbidkghlpijecaaGreatDoor
set_option maxRecDepth 100000
namespace Go.Proofs.YtbidkghlpijecaaGreatDoor
open Go.ChangeShapes Go.WideShapes Go.ChangeAt Go.RowKit Go.Deep Go.Joins
def pQ (z:Int) : Prop := -9223372036854775808≤z∧z≤9223372036854775807
section
variable {H:Type} {enc:TypeId×Value→H} {W:World} {base:Nat} {spare:Nat→Bool} {held:Bool} {fuel:Nat} {cs:List Value} {x:DataW H×List MemPlace}
theorem in64_of_wf {z:Int} (h:(Lit.int .i64 z).wf=true) : pQ z:=by
 have h1:IntKind.i64.min = -9223372036854775808:=rfl
 have h2:IntKind.i64.max=9223372036854775807:=rfl
 simp only [Lit.wf,Bool.and_eq_true,decide_eq_true_eq] at h;unfold pQ;omega
theorem fm {t:TypeId} (ht:Tryz.prog.underlying t=some (.int .i64)) (h:DataW.trod enc Tryz.prog W base spare held fuel t cs=some x) : ∃ z:Int,cs=bm z∧pQ z:=by
 obtain ⟨z,rfl,_,hw⟩:=DataW.trod_int ht h;exact ⟨z,rfl,in64_of_wf hw⟩
end
section
variable {H:Type} {P:Program}
theorem BX {ts:List TypeId} {ds:List (DataW H)} (h:(DataW.weightsEach P ts ds).all (· ≤ reachBytes)=true) {j:Nat} {t:TypeId} {d:DataW H} (ht:ts[j]?=some t) (hd:ds[j]?=some d) : ∀ y∈d.weights P t,y≤reachBytes:=fun y hy=>by
 simpa using List.all_eq_true.1 h _ (DataW.weights_mem_each ht hd y hy)
theorem dW {t:TypeId} {fs:Array Field} {parts:List (DataW H)} (hu:P.underlying t=some (.struct fs)) {j:Nat} {tj:TypeId} {dj:DataW H} (ht:(fs.toList.map (·.type))[j]?=some tj) (hd:parts[j]?=some dj) (h:∀ y∈(DataW.agg parts).weights P t,y≤reachBytes) : ∀ y∈dj.weights P tj,y≤reachBytes:=fun y hy=>by
 apply h;simp only [DataW.weights,hu];exact DataW.weights_mem_each ht hd y hy
end
section
variable {H:Type} {enc:TypeId×Value→H} {W:World} {base:Nat} {spare:Nat→Bool} {held:Bool} {fuel:Nat} {cs:List Value} {x:DataW H×List MemPlace}
theorem yD (h:DataW.trod enc Tryz.prog W base spare held fuel 165 cs=some x) : ∃ r:Block,cs=aE r∧True:=by
 obtain ⟨xs,n,_,_,hlen,lK,hf⟩:=DataW.trod_struct Tryz.underlying165 h;have hc:Tryz.prog.cellsOf 165=3:=by kernel_rfl
 have hi:Tryz.prog.cellsOf 3=1:=by kernel_rfl
 rw [hc] at hlen
 match cs,hlen with
 | [c0,c1,c2],_ =>
   match xs,lK with
   | [y0,y1,y2],_ =>
     have h0:DataW.trod enc Tryz.prog W base spare held n 3 (List.take (Tryz.prog.cellsOf 3) (List.drop 0 [c0,c1,c2]))=some y0:=hf 0 _ rfl
     have h1:DataW.trod enc Tryz.prog W base spare held n 3 (List.take (Tryz.prog.cellsOf 3) (List.drop 1 [c0,c1,c2]))=some y1:=hf 1 _ rfl
     have h2:DataW.trod enc Tryz.prog W base spare held n 3 (List.take (Tryz.prog.cellsOf 3) (List.drop 2 [c0,c1,c2]))=some y2:=hf 2 _ rfl
     rw [hi] at h0 h1 h2;obtain ⟨a,ha,wa⟩:=fm Tryz.underlying3 h0;obtain ⟨b,hb,wb⟩:=fm Tryz.underlying3 h1;obtain ⟨c,yE,wc⟩:=fm Tryz.underlying3 h2;simp [bm] at ha hb yE;subst ha hb yE;exact ⟨⟨a,b,c⟩,rfl,trivial⟩
end
end Go.Proofs.YtbidkghlpijecaaGreatDoor
set_option maxRecDepth 100000
namespace Go.Proofs.YtbidkghlpijecaaGreatDoor
open Go.ChangeShapes Go.WideShapes Go.ChangeAt Go.RowKit Go.Deep Go.Joins
section
variable {H:Type} {enc:TypeId×Value→H} {W:World} {base:Nat} {spare:Nat→Bool} {held:Bool} {fuel:Nat} {cs:List Value} {x:DataW H×List MemPlace}
theorem kD {P:Program} {e:TypeId}:∀ {l:List (DataW H)} {d:DataW H},d∈l → ∀ n∈d.weights P e,n∈DataW.weightsAll P e l
 | a::r,d,h,n,hn=>by
   simp only [DataW.weightsAll,List.mem_append];rcases List.mem_cons.1 h with rfl|h
   ·exact .inl hn
   ·exact .inr (kD h n hn)
theorem oA {α β:Type} {R : α → β → Prop}:∀ (l:List α),(∀ a∈l,∃ b,R a b) → ∃ bs:List β,dQ R l bs
 | [],_=>⟨[],.nil⟩
 | a::r,h=>by
   obtain ⟨b,hb⟩:=h a (by simp);obtain ⟨bs,sX⟩:=oA r (fun x hx=>h x (by simp [hx]));refine ⟨b::bs,by simp [sX.len],fun i h1 h2 => ?_⟩;cases i with
   | zero=>exact hb
   | succ i=>exact sX.get i (by simpa using h1) (by simpa using h2)
theorem eE {α:Type} {t e sz b:Nat} [S:bj Tryz.prog t e sz] (hc:Tryz.prog.cellsOf e=sz) (qI:Tryz.prog.bytesOf e=b) {en : α → List Value} {Good : α → Prop}
 (z6:∀ fuel cs x,DataW.trod enc Tryz.prog W base spare held fuel e cs=some x→(∀ y∈x.1.weights Tryz.prog e,y≤reachBytes) → ∃ a : α,cs=en a∧Good a) (h:DataW.trod enc Tryz.prog W base spare held fuel t cs=some x) (hw:∀ y∈x.1.weights Tryz.prog t,y≤reachBytes) :
 ∃ A n c l,cs=[.slice A n c]∧Sl W sz en A n l∧n*b≤140737488351232 ∧ ∀ a∈l,Good a:=by
 rcases open_slice S.iK h with ⟨h1,h2⟩|⟨a,len,cap,m,k,D,Pl,h1,hb,hl,hm,D5,hx,hi⟩
 ·exact ⟨none,0,0,[],h1,Sl.er _ _ _ _,by simp,by simp⟩
 ·have I6:len≤m:=by rw [D5];split<;>omega
  have jG:x.1 = .slice ((List.range len).map D) ((List.range (m-len)).map fun j=>D (len+j)):=by rw [hx]
  have HU:len*b≤140737488351232:=by
   have:=hw ((((List.range len).map D).length+((List.range (m-len)).map fun j=>D (len+j)).length)*Tryz.prog.bytesOf e) (by rw [jG];simp [DataW.weights,S.iK])
   rw [qI] at this;simp only [reachBytes] at this;refine Nat.le_trans (Nat.mul_le_mul_right _ ?_) this;simp
  have hex:∀ i,i<len → ∃ q : α,Good q ∧ ∀ j u,(en q)[j]?=some u→W.cell? ((a.add (i*sz)).add j)=some u:=fun i dH=>by
   obtain ⟨qw,fK,ht⟩:=hi i (by omega)
   obtain ⟨q,rfl,hg⟩:=z6 _ _ _ ht (fun y hy=>by
    apply hw;rw [jG];simp only [DataW.weights,S.iK,List.mem_cons,List.mem_append];exact .inr (.inl (kD (List.mem_map.2 ⟨i,by simpa using dH,rfl⟩) y hy)))
   obtain ⟨_,Gu,nc⟩:=World.cells?_some fK;rw [hc] at Gu nc;refine ⟨q,hg,fun j u hu => ?_⟩
   have hj:j<(en q).length:=by
    rcases Nat.lt_or_ge j (en q).length with h|h
    ·exact h
    ·simp [List.getElem?_eq_none h] at hu
   rw [nc j (by omega)];exact hu
  by_cases h0:len=0
  ·subst h0;exact ⟨some a,0,cap,[],h1,Sl.er _ _ _ _,by simp,by simp⟩
  have HV:∃ f:Nat → α,∀ i,i<len→Good (f i) ∧ ∀ j u,(en (f i))[j]?=some u→W.cell? ((a.add (i*sz)).add j)=some u:=by
   have cQ:Nonempty α := ⟨(hex 0 (by omega)).choose⟩
   exact ⟨fun i=>if h:i<len then (hex i h).choose else Classical.choice cQ,fun i h=>by simp only [h,dif_pos];exact (hex i h).choose_spec⟩
  obtain ⟨f,hf⟩:=HV;refine ⟨some a,len,cap,(List.range len).map f,h1,⟨by simp,fun _=>rfl,fun i oh j u hu => ?_⟩,HU,?_⟩
  ·simp at oh;exact (hf i oh).2 j u (by simpa using hu)
  ·intro q hq;obtain ⟨i,oh,rfl⟩:=List.mem_map.1 hq;exact (hf i (by simpa using oh)).1
theorem mK {t:TypeId} (ht:Tryz.prog.underlying t=some (.int .i64)) : ∀ fuel cs x,DataW.trod enc Tryz.prog W base spare held fuel t cs=some x→(∀ y∈x.1.weights Tryz.prog t,y≤reachBytes) → ∃ z:Int,cs=bm z∧pQ z:=fun _ _ _ h _=>fm ht h
theorem rl:∀ fuel cs x,DataW.trod enc Tryz.prog W base spare held fuel 165 cs=some x→(∀ y∈x.1.weights Tryz.prog 165,y≤reachBytes) → ∃ r:Block,cs=aE r∧True:=fun _ _ _ h _=>yD h
def ay.kZ (z:ay) : Prop:=pQ z.aR∧pQ z.To∧z.ao.length*24≤140737488351232∧z.Types.length*8≤140737488351232
theorem yF:∀ fuel cs x,DataW.trod enc Tryz.prog W base spare held fuel 139 cs=some x→(∀ y∈x.1.weights Tryz.prog 139,y≤reachBytes) → ∃ r:cJ,cs=cd r ∧ ∃ z:ay,p7 W r z∧z.kZ:=by
 intro fuel cs x h hw;obtain ⟨xs,n,_,rfl,hlen,lK,hf⟩:=DataW.trod_struct Tryz.underlying139 h;have hc:Tryz.prog.cellsOf 139=4:=by kernel_rfl
 have hi:Tryz.prog.cellsOf 3=1:=by kernel_rfl
 have BY:Tryz.prog.cellsOf 39=1:=by kernel_rfl
 have Dr:Tryz.prog.cellsOf 36=1:=by kernel_rfl
 rw [hc] at hlen
 match cs,hlen with
 | [c0,c1,c2,c3],_ =>
   match xs,lK with
   | [y0,y1,y2,y3],_ =>
     have h0:DataW.trod enc Tryz.prog W base spare held n 3 (List.take (Tryz.prog.cellsOf 3) (List.drop 0 [c0,c1,c2,c3]))=some y0:=hf 0 _ rfl
     have h1:DataW.trod enc Tryz.prog W base spare held n 3 (List.take (Tryz.prog.cellsOf 3) (List.drop 1 [c0,c1,c2,c3]))=some y1:=hf 1 _ rfl
     have h2:DataW.trod enc Tryz.prog W base spare held n 39 (List.take (Tryz.prog.cellsOf 39) (List.drop 2 [c0,c1,c2,c3]))=some y2:=hf 2 _ rfl
     have h3:DataW.trod enc Tryz.prog W base spare held n 36 (List.take (Tryz.prog.cellsOf 36) (List.drop 3 [c0,c1,c2,c3]))=some y3:=hf 3 _ rfl
     rw [hi] at h0 h1;rw [BY] at h2;rw [Dr] at h3;have w2:=dW Tryz.underlying139 (j:=2) rfl rfl hw;have w3:=dW Tryz.underlying139 (j:=3) rfl rfl hw;obtain ⟨a,ha,wa⟩:=fm Tryz.underlying3 h0;obtain ⟨b,hb,wb⟩:=fm Tryz.underlying3 h1;obtain ⟨A2,n2,k2,l2,e2,s2,b2,_⟩:=eE (t:=39) (b:=24) (by kernel_rfl) (by kernel_rfl) rl h2 w2;obtain ⟨A3,n3,k3,l3,e3,s3,b3,_⟩:=eE (t:=36) (b:=8) (by kernel_rfl) (by kernel_rfl) (mK Tryz.underlying3) h3 w3;simp [bm] at ha hb e2 e3;subst ha hb e2 e3;refine ⟨⟨a,b,⟨A2,n2,k2⟩,⟨A3,n3,k3⟩⟩,rfl,⟨a,b,l2,l3⟩,⟨rfl,rfl,s2,s3⟩,wa,wb,?_,?_⟩
     ·simp only [s2.len];exact b2
     ·simp only [s3.len];exact b3
theorem yG:∀ fuel cs x,DataW.trod enc Tryz.prog W base spare held fuel 142 cs=some x→(∀ y∈x.1.weights Tryz.prog 142,y≤reachBytes) → ∃ r:bP,cs=bg r ∧ ∃ l:aJ,Am W r l∧l.aw.length*8≤140737488351232:=by
 intro fuel cs x h hw;obtain ⟨xs,n,_,rfl,hlen,lK,hf⟩:=DataW.trod_struct Tryz.underlying142 h;have hc:Tryz.prog.cellsOf 142=4:=by kernel_rfl
 have hi:Tryz.prog.cellsOf 3=1:=by kernel_rfl
 have Dr:Tryz.prog.cellsOf 36=1:=by kernel_rfl
 rw [hc] at hlen
 match cs,hlen with
 | [c0,c1,c2,c3],_ =>
   match xs,lK with
   | [y0,y1,y2,y3],_ =>
     have h0:DataW.trod enc Tryz.prog W base spare held n 3 (List.take (Tryz.prog.cellsOf 3) (List.drop 0 [c0,c1,c2,c3]))=some y0:=hf 0 _ rfl
     have h1:DataW.trod enc Tryz.prog W base spare held n 3 (List.take (Tryz.prog.cellsOf 3) (List.drop 1 [c0,c1,c2,c3]))=some y1:=hf 1 _ rfl
     have h2:DataW.trod enc Tryz.prog W base spare held n 3 (List.take (Tryz.prog.cellsOf 3) (List.drop 2 [c0,c1,c2,c3]))=some y2:=hf 2 _ rfl
     have h3:DataW.trod enc Tryz.prog W base spare held n 36 (List.take (Tryz.prog.cellsOf 36) (List.drop 3 [c0,c1,c2,c3]))=some y3:=hf 3 _ rfl
     rw [hi] at h0 h1 h2;rw [Dr] at h3;have w3:=dW Tryz.underlying142 (j:=3) rfl rfl hw;obtain ⟨a,ha,wa⟩:=fm Tryz.underlying3 h0;obtain ⟨b,hb,wb⟩:=fm Tryz.underlying3 h1;obtain ⟨c,yE,wc⟩:=fm Tryz.underlying3 h2;obtain ⟨A3,n3,k3,l3,e3,s3,b3,_⟩:=eE (t:=36) (b:=8) (by kernel_rfl) (by kernel_rfl) (mK Tryz.underlying3) h3 w3;simp [bm] at ha hb yE e3;subst ha hb yE e3;refine ⟨⟨a,b,c,⟨A3,n3,k3⟩⟩,rfl,⟨a,b,c,l3⟩,⟨rfl,rfl,rfl,s3⟩,?_⟩;simp only [s3.len];exact b3
structure Heap.kZ (h:Heap) : Prop where
 small:h.small
 bU:∀ z∈h.aI,z.kZ
theorem yH:∀ fuel cs x,DataW.trod enc Tryz.prog W base spare held fuel 41 cs=some x→(∀ y∈x.1.weights Tryz.prog 41,y≤reachBytes) → ∃ r:eu,cs=bl r ∧ ∃ h:Heap,sC W r h∧h.kZ:=by
 intro fuel cs x h hw;obtain ⟨xs,n,_,rfl,hlen,lK,hf⟩:=DataW.trod_struct Tryz.underlying41 h;have hc:Tryz.prog.cellsOf 41=5:=by kernel_rfl
 have hi:Tryz.prog.cellsOf 3=1:=by kernel_rfl
 have p8:Tryz.prog.cellsOf 36=1:=by kernel_rfl
 have BY:Tryz.prog.cellsOf 37=1:=by kernel_rfl
 have Dr:Tryz.prog.cellsOf 38=1:=by kernel_rfl
 have Fl:Tryz.prog.cellsOf 39=1:=by kernel_rfl
 rw [hc] at hlen
 match cs,hlen with
 | [c0,c1,c2,c3,c4],_ =>
   match xs,lK with
   | [y0,y1,y2,y3,y4],_ =>
     have h0:DataW.trod enc Tryz.prog W base spare held n 37 (List.take (Tryz.prog.cellsOf 37) (List.drop 0 [c0,c1,c2,c3,c4]))=some y0:=hf 0 _ rfl
     have h1:DataW.trod enc Tryz.prog W base spare held n 36 (List.take (Tryz.prog.cellsOf 36) (List.drop 1 [c0,c1,c2,c3,c4]))=some y1:=hf 1 _ rfl
     have h2:DataW.trod enc Tryz.prog W base spare held n 3 (List.take (Tryz.prog.cellsOf 3) (List.drop 2 [c0,c1,c2,c3,c4]))=some y2:=hf 2 _ rfl
     have h3:DataW.trod enc Tryz.prog W base spare held n 38 (List.take (Tryz.prog.cellsOf 38) (List.drop 3 [c0,c1,c2,c3,c4]))=some y3:=hf 3 _ rfl
     have h4:DataW.trod enc Tryz.prog W base spare held n 39 (List.take (Tryz.prog.cellsOf 39) (List.drop 4 [c0,c1,c2,c3,c4]))=some y4:=hf 4 _ rfl
     rw [BY] at h0;rw [p8] at h1;rw [hi] at h2;rw [Dr] at h3;rw [Fl] at h4;have w0:=dW Tryz.underlying41 (j:=0) rfl rfl hw;have w1:=dW Tryz.underlying41 (j:=1) rfl rfl hw;have w3:=dW Tryz.underlying41 (j:=3) rfl rfl hw;have w4:=dW Tryz.underlying41 (j:=4) rfl rfl hw;obtain ⟨A0,n0,k0,l0,e0,s0,b0,g0⟩:=eE (t:=37) (b:=64) (by kernel_rfl) (by kernel_rfl) yF h0 w0;obtain ⟨A1,n1,k1,l1,e1,s1,b1,_⟩:=eE (t:=36) (b:=8) (by kernel_rfl) (by kernel_rfl) (mK Tryz.underlying3) h1 w1;obtain ⟨b,hb,wb⟩:=fm Tryz.underlying3 h2;obtain ⟨A3,n3,k3,l3,e3,s3,b3,g3⟩:=eE (t:=38) (b:=48) (by kernel_rfl) (by kernel_rfl) yG h3 w3;obtain ⟨A4,n4,k4,l4,e4,s4,b4,_⟩:=eE (t:=39) (b:=24) (by kernel_rfl) (by kernel_rfl) rl h4 w4;obtain ⟨Z,hZ⟩:=oA l0 g0;obtain ⟨L,hL⟩:=oA l3 g3;simp [bm] at e0 e1 hb e3 e4;subst e0 e1 hb e3 e4;refine ⟨⟨⟨A0,n0,k0⟩,⟨A1,n1,k1⟩,b,⟨A3,n3,k3⟩,⟨A4,n4,k4⟩⟩,rfl,⟨Z,l1,b,L,l4⟩,⟨rfl,s1,s4,⟨l0,s0,hZ.mono fun _ _ h=>h.1⟩,⟨l3,s3,hL.mono fun _ _ h=>h.1⟩⟩,⟨?_,?_,?_,?_,?_,?_⟩,?_⟩
     ·simp only [← hZ.len,s0.len];omega
     ·simp only [s1.len];omega
     ·simp only [← hL.len,s3.len];omega
     ·simp only [s4.len];omega
     ·intro z hz;obtain ⟨i,hi,rfl⟩:=List.getElem_of_mem hz;have:=(hZ.get i (by have:=hZ.len;simp only at hi;omega) hi).2
      exact ⟨by have:=this.2.2.1;simp only at this ⊢;omega,by have:=this.2.2.2;simp only at this ⊢;omega⟩
     ·intro z hz;obtain ⟨i,hi,rfl⟩:=List.getElem_of_mem hz;have:=(hL.get i (by have:=hL.len;simp only at hi;omega) hi).2
      simp only at this ⊢;omega
     ·intro z hz;obtain ⟨i,hi,rfl⟩:=List.getElem_of_mem hz;exact (hZ.get i (by have:=hZ.len;simp only at hi;omega) hi).2
end
end Go.Proofs.YtbidkghlpijecaaGreatDoor
set_option maxRecDepth 100000
namespace Go.Proofs.YtbidkghlpijecaaGreatDoor
open Go.ChangeShapes Go.WideShapes Go.ChangeAt Go.RowKit Go.Deep Go.Joins
section
variable {H:Type} {enc:TypeId×Value→H} {W:World} {base:Nat} {spare:Nat→Bool} {held:Bool} {fuel:Nat} {cs:List Value} {x:DataW H×List MemPlace}
theorem vN {α:Type} {t e sz:Nat} [S:bj Tryz.prog t e sz] {x:DataW H×List MemPlace} {A:Option Addr} {n c:Nat} (h:DataW.trod enc Tryz.prog W base spare held fuel t cs=some x) (fK:cs=[.slice A n c]) : n≤c:=by
 rcases open_slice S.iK h with ⟨h1,h2⟩|⟨a,len,cap,m,k,D,Pl,h1,hb,hl,hm,D5,hx,hi⟩
 ·rw [fK] at h1;simp at h1;omega
 ·rw [fK] at h1;simp at h1;omega
theorem z7:∀ fuel cs x,DataW.trod enc Tryz.prog W base spare held fuel 9 cs=some x→(∀ y∈x.1.weights Tryz.prog 9,y≤reachBytes) → ∃ s:ByteArray,cs=encStr s∧s.size≤140737488351232:=by
 intro fuel cs x h hw;obtain ⟨s,rfl,rfl,_⟩:=DataW.trod_string Tryz.underlying9 h;refine ⟨s,rfl,?_⟩;have:=hw s.data.toList.length (by simp [DataW.weights])
 simp only [reachBytes] at this;simpa using this
theorem yI:∀ fuel cs x,DataW.trod enc Tryz.prog W base spare held fuel 91 cs=some x→(∀ y∈x.1.weights Tryz.prog 91,y≤reachBytes) → ∃ r:Slab,cs=bB r∧pQ r.At:=by
 intro fuel cs x h _;obtain ⟨xs,n,_,_,hlen,lK,hf⟩:=DataW.trod_struct Tryz.underlying91 h;have hc:Tryz.prog.cellsOf 91=3:=by kernel_rfl
 have hi:Tryz.prog.cellsOf 3=1:=by kernel_rfl
 rw [hc] at hlen
 match cs,hlen with
 | [c0,c1,c2],_ =>
   match xs,lK with
   | [y0,y1,y2],_ =>
     have h0:DataW.trod enc Tryz.prog W base spare held n 3 (List.take (Tryz.prog.cellsOf 3) (List.drop 0 [c0,c1,c2]))=some y0:=hf 0 _ rfl
     have h1:DataW.trod enc Tryz.prog W base spare held n 3 (List.take (Tryz.prog.cellsOf 3) (List.drop 1 [c0,c1,c2]))=some y1:=hf 1 _ rfl
     have h2:DataW.trod enc Tryz.prog W base spare held n 3 (List.take (Tryz.prog.cellsOf 3) (List.drop 2 [c0,c1,c2]))=some y2:=hf 2 _ rfl
     rw [hi] at h0 h1 h2;obtain ⟨a,ha,wa⟩:=fm Tryz.underlying3 h0;obtain ⟨b,hb,wb⟩:=fm Tryz.underlying3 h1;obtain ⟨c,yE,wc⟩:=fm Tryz.underlying3 h2;simp [bm] at ha hb yE;subst ha hb yE;exact ⟨⟨a,b,c⟩,rfl,wa⟩
structure aZ.kZ (c:aZ) : Prop where
 small:c.small
 size:pQ c.bp∧pQ c.dE∧pQ c.Order
 names:∀ s∈c.Names,s.size≤140737488351232
 aL:∀ x∈c.ah,pQ x.At
theorem wU:∀ fuel cs x,DataW.trod enc Tryz.prog W base spare held fuel 89 cs=some x→(∀ y∈x.1.weights Tryz.prog 89,y≤reachBytes) → ∃ r:cr,cs=bR r ∧ ∃ c:aZ,sD W r c∧c.kZ:=by
 intro fuel cs x h hw;obtain ⟨xs,n,_,rfl,hlen,lK,hf⟩:=DataW.trod_struct Tryz.underlying89 h;have hc:Tryz.prog.cellsOf 89=6:=by kernel_rfl
 have hi:Tryz.prog.cellsOf 3=1:=by kernel_rfl
 have Dl:Tryz.prog.cellsOf 61=1:=by kernel_rfl
 have Fl:Tryz.prog.cellsOf 87=1:=by kernel_rfl
 have HW:Tryz.prog.cellsOf 36=1:=by kernel_rfl
 rw [hc] at hlen
 match cs,hlen with
 | [c0,c1,c2,c3,c4,c5],_ =>
   match xs,lK with
   | [y0,y1,y2,y3,y4,y5],_ =>
     have h0:DataW.trod enc Tryz.prog W base spare held n 61 (List.take (Tryz.prog.cellsOf 61) (List.drop 0 [c0,c1,c2,c3,c4,c5]))=some y0:=hf 0 _ rfl
     have h1:DataW.trod enc Tryz.prog W base spare held n 3 (List.take (Tryz.prog.cellsOf 3) (List.drop 1 [c0,c1,c2,c3,c4,c5]))=some y1:=hf 1 _ rfl
     have h2:DataW.trod enc Tryz.prog W base spare held n 3 (List.take (Tryz.prog.cellsOf 3) (List.drop 2 [c0,c1,c2,c3,c4,c5]))=some y2:=hf 2 _ rfl
     have h3:DataW.trod enc Tryz.prog W base spare held n 3 (List.take (Tryz.prog.cellsOf 3) (List.drop 3 [c0,c1,c2,c3,c4,c5]))=some y3:=hf 3 _ rfl
     have h4:DataW.trod enc Tryz.prog W base spare held n 87 (List.take (Tryz.prog.cellsOf 87) (List.drop 4 [c0,c1,c2,c3,c4,c5]))=some y4:=hf 4 _ rfl
     have h5:DataW.trod enc Tryz.prog W base spare held n 36 (List.take (Tryz.prog.cellsOf 36) (List.drop 5 [c0,c1,c2,c3,c4,c5]))=some y5:=hf 5 _ rfl
     rw [Dl] at h0;rw [hi] at h1 h2 h3;rw [Fl] at h4;rw [HW] at h5;have w0:=dW Tryz.underlying89 (j:=0) rfl rfl hw;have w4:=dW Tryz.underlying89 (j:=4) rfl rfl hw;have w5:=dW Tryz.underlying89 (j:=5) rfl rfl hw;obtain ⟨A0,n0,k0,l0,e0,s0,b0,g0⟩:=eE (t:=61) (b:=16) (by kernel_rfl) (by kernel_rfl) z7 h0 w0;obtain ⟨a,ha,wa⟩:=fm Tryz.underlying3 h1;obtain ⟨b,hb,wb⟩:=fm Tryz.underlying3 h2;obtain ⟨c,yE,wc⟩:=fm Tryz.underlying3 h3;obtain ⟨A4,n4,k4,l4,e4,s4,b4,g4⟩:=eE (t:=87) (b:=24) (by kernel_rfl) (by kernel_rfl) yI h4 w4;obtain ⟨A5,n5,k5,l5,e5,s5,b5,_⟩:=eE (t:=36) (b:=8) (by kernel_rfl) (by kernel_rfl) (mK Tryz.underlying3) h5 w5;have kc:=vN (α := Int) h5 e5;simp [bm] at e0 ha hb yE e4 e5;subst e0 ha hb yE e4 e5;refine ⟨⟨⟨A0,n0,k0⟩,a,b,c,⟨A4,n4,k4⟩,⟨A5,n5,k5⟩⟩,rfl,⟨l0,a,b,c,l4,l5⟩,⟨rfl,rfl,rfl,s0,s4,s5,kc⟩,⟨?_,?_,?_⟩,⟨wa,wb,wc⟩,g0,g4⟩
     ·simp only [s0.len];omega
     ·simp only [s4.len];omega
     ·simp only [s5.len];omega
structure ar.kZ (s:ar) : Prop where
 small:s.small
 heap:s.Heap.kZ
 bJ:∀ c∈s.aa,c.kZ
theorem uY:∀ fuel cs x,DataW.trod enc Tryz.prog W base spare held fuel 44 cs=some x→(∀ y∈x.1.weights Tryz.prog 44,y≤reachBytes) → ∃ r:dF,cs=aH r ∧ ∃ s:ar,lg W r s∧s.kZ:=by
 intro fuel cs x h hw;obtain ⟨xs,n,_,rfl,hlen,lK,hf⟩:=DataW.trod_struct Tryz.underlying44 h;have hc:Tryz.prog.cellsOf 44=7:=by kernel_rfl
 have Dl:Tryz.prog.cellsOf 36=1:=by kernel_rfl
 have p8:Tryz.prog.cellsOf 41=5:=by kernel_rfl
 have BY:Tryz.prog.cellsOf 42=1:=by kernel_rfl
 rw [hc] at hlen
 match cs,hlen with
 | [c0,c1,c2,c3,c4,c5,c6],_ =>
   match xs,lK with
   | [y0,y1,y2],_ =>
     have h0:DataW.trod enc Tryz.prog W base spare held n 36 (List.take (Tryz.prog.cellsOf 36) (List.drop 0 [c0,c1,c2,c3,c4,c5,c6]))=some y0:=hf 0 _ rfl
     have h1:DataW.trod enc Tryz.prog W base spare held n 41 (List.take (Tryz.prog.cellsOf 41) (List.drop 1 [c0,c1,c2,c3,c4,c5,c6]))=some y1:=hf 1 _ rfl
     have h2:DataW.trod enc Tryz.prog W base spare held n 42 (List.take (Tryz.prog.cellsOf 42) (List.drop 6 [c0,c1,c2,c3,c4,c5,c6]))=some y2:=hf 2 _ rfl
     rw [Dl] at h0;rw [p8] at h1;rw [BY] at h2;have w0:=dW Tryz.underlying44 (j:=0) rfl rfl hw;have w1:=dW Tryz.underlying44 (j:=1) rfl rfl hw;have w2:=dW Tryz.underlying44 (j:=2) rfl rfl hw;obtain ⟨A0,n0,k0,l0,e0,s0,b0,_⟩:=eE (t:=36) (b:=8) (by kernel_rfl) (by kernel_rfl) (mK Tryz.underlying3) h0 w0;obtain ⟨hr,e1,hh,hR,hG⟩:=yH _ _ _ h1 w1;obtain ⟨A2,n2,k2,l2,e2,s2,b2,g2⟩:=eE (t:=42) (b:=96) (by kernel_rfl) (by kernel_rfl) wU h2 w2;obtain ⟨C,hC⟩:=oA l2 g2;have kc:=vN (α := cr) h2 e2;simp [bl] at e0 e1 e2;obtain ⟨HX,HY,HZ,H0,H2⟩:=e1;subst e0 HX HY HZ H0 H2 e2;refine ⟨⟨⟨A0,n0,k0⟩,hr,⟨A2,n2,k2⟩⟩,rfl,⟨l0,hh,C⟩,⟨s0,hR,⟨l2,s2,hC.mono fun _ _ h=>h.1,kc⟩⟩,⟨?_,hG.small,?_,?_⟩,hG,?_⟩
     ·simp only [s0.len];omega
     ·simp only [← hC.len,s2.len];omega
     ·intro z hz;obtain ⟨i,hi,rfl⟩:=List.getElem_of_mem hz;exact (hC.get i (by have:=hC.len;simp only at hi;omega) hi).2.small
     ·intro z hz;obtain ⟨i,hi,rfl⟩:=List.getElem_of_mem hz;exact (hC.get i (by have:=hC.len;simp only at hi;omega) hi).2
theorem tE {r:Reach} {b0:Nat} {v:Value} {d:DataW H} {p:List MemPlace} (hv:Value.okWide Tryz.prog W r b0 44 v) (h:DataW.Trod enc Tryz.prog W base spare held 44 v d p) (hw:∀ y∈d.weights Tryz.prog 44,y≤reachBytes) :
 ∃ (r:dF) (s:ar),v = .agg (aH r).toArray∧lg W r s∧s.kZ:=by
 obtain ⟨cs,rfl,ub⟩:=okWide_struct Tryz.underlying44 hv;obtain ⟨fuel,hf⟩:=h;obtain ⟨r,hr,hh,h1,h2⟩:=uY _ _ _ hf hw;refine ⟨r,hh,?_,h1,h2⟩;have:cs.toList=aH r:=hr
 rw [← this]
end
open Go.RowKit
theorem ar.kZ.iN {s:ar} (h:s.kZ) : s.iN :=
 ⟨h.small,fun z hz=>⟨(h.heap.bU z hz).1,(h.heap.bU z hz).2.1⟩,fun c hc x hx=>(h.bJ c hc).aL x hx,fun c hc n hn=>(h.bJ c hc).names n hn⟩
open Go.RowKit
theorem n8 (A:Option Addr) (n c:Nat) (l:List ByteArray) (x:ByteArray) (w:World) (hl:Sl w 1 encStr A n l) (hn:n≤9223372036854775807) :
 a9 Tryz.prog 188 [.slice A n c,.string x] w fun v _ => ∃ i:Int,v = .int .i64 i∧decide (0≤i)=qx l x:=by
 refine aC Tryz.func188 rfl Tryz.ntmps188 rfl ?_;have hw:=Ext.refl w;have hA:=hl.base;have lz:=hl.len;refine Wz ?_
 refine CW.loop (fun k:Nat=>[(0,.slice A n c),(1,.string x),(7,.int .i64 (n:Int)),(8,.int .i64 (k:Int))]) (fun k w'=>k≤n∧Ext w w' ∧ ∀ (i:Nat) (h:i<l.length),i<k→l[i]≠x)
  (fun k=>n-k) 0 ⟨rfl,rfl,rfl,rfl,trivial⟩ ⟨by omega,hw,fun i h hi=>by omega⟩ ?_
 clear hw;rintro k w' ⟨hk,hw,hI⟩
 by_cases cc:k<n
 ·by_cases hx:x=l[k]
  ·repeat' (first|refine Wz ?_|refine SW.st (ag hw rfl (hl.one cc rfl)) rfl ?_|(refine SW.st ((fU rfl rfl).eq (congrArg Value.bool (decide_eq_true hx))) rfl ?_))
   refine ae.aF rfl rfl ⟨_,rfl,hw,_,rfl,?_⟩;rw [gb.2 (hx ▸ List.getElem_mem (hl.lt cc))];simp
  ·repeat' (first|refine Wz ?_|refine SW.st (ag hw rfl (hl.one cc rfl)) rfl ?_|(refine SW.st ((fU rfl rfl).eq (congrArg Value.bool (decide_eq_false hx))) rfl ?_))
   refine ae.again (k+1) ⟨rfl,rfl,rfl,rfl,trivial⟩ (by omega) ⟨by omega,hw,fun i h' hi => ?_⟩;by_cases vx:i=k
   ·subst vx;exact fun e=>hx e.symm
   ·exact hI i h' (by omega)
 ·refine Wz ?_;refine ae.aF rfl rfl ⟨_,rfl,hw,_,rfl,?_⟩
  have hx:qx l x=false:=by
   cases e:qx l x
   ·rfl
   ·obtain ⟨i,hi,e⟩:=List.getElem_of_mem (gb.1 e);exact absurd e (hI i hi (by omega))
  rw [hx];simp
theorem iJ (A:Option Addr) (n c:Nat) (l:List ByteArray) (x:ByteArray) (w:World) (hl:Sl w 1 encStr A n l) (hn:n≤9223372036854775807) :
 a9 Tryz.prog 98 [.slice A n c,.string x] w fun v _=>v = .bool (qx l x):=by
 refine aC Tryz.func98 rfl Tryz.ntmps98 rfl ?_;have hw:=Ext.refl w;refine Wz ?_;refine SW.call rfl rfl (n8 _ _ _ _ _ _ (hl.ext hw) hn) fun v w1 ab hv => ?_
 obtain ⟨i,rfl,hi⟩:=hv;replace hw:=Ext.trans hw ab;refine Wz ?_;exact ae.aF rfl rfl ⟨_,rfl,hw,by rw [hi]⟩
theorem nH {α β:Type} {p : α → Bool} {q : β → Bool} {l:List α} {m:List β} (hl:l.length=m.length) (h:∀ (k:Nat) (h1:k<l.length) (h2:k<m.length),p l[k]=q m[k]) : idxOf p l=idxOf q m∧l.any p=m.any q:=by
 have e:l.map p=m.map q:=List.ext_getElem (by simp [hl]) fun k h1 h2=>by simpa using h k (by simpa using h1) (by simpa using h2)
 have a1:l.any p=m.any q:=by
  have x1:(l.map p).any id=l.any p:=by rw [List.any_map];rfl
  have x2:(m.map q).any id=m.any q:=by rw [List.any_map];rfl
  rw [← x1,← x2,e]
 have a2:l.findIdx p=m.findIdx q:=by
  have x1:(l.map p).findIdx id=l.findIdx p:=by rw [List.findIdx_map];rfl
  have x2:(m.map q).findIdx id=m.findIdx q:=by rw [List.findIdx_map];rfl
  rw [← x1,← x2,e]
 unfold idxOf;rw [a1,a2];exact ⟨rfl,rfl⟩
theorem uZ {w:World} {A:Option Addr} {n:Nat} {l l':List ByteArray} (h:Sl w 1 encStr A n l) (h':Sl w 1 encStr A n l') : l=l':=by
 have e1:=h.len;have e2:=h'.len;refine List.ext_getElem (by omega) fun k h1 h2 => ?_
 have a:=h.one (i:=k) (by omega) (u := .string l[k]) rfl;have b:=h'.one (i:=k) (by omega) (u := .string l'[k]) rfl;rw [a] at b;simpa using b
theorem wV (w:World) (n:ByteArray) : ∃ p:cr→Bool,∀ x c,sD w x c→p x=dV n c:=by
 classical
 refine ⟨fun x=>decide (∃ c,sD w x c∧dV n c=true),fun x c h => ?_⟩;cases e:dV n c
 ·refine decide_eq_false ?_;rintro ⟨c',h',e'⟩
  unfold dV at e e';rw [uZ h'.names h.names,e] at e';cases e'
 ·exact decide_eq_true ⟨c,h,e⟩
theorem u6 (x:cr) (c:aZ) (b3:Nat) (n:ByteArray) (w:World) (h3:aU w b3 9 [.string n]) (hx:sD w x c) (hn:x.Names.n≤9223372036854775807) :
 a9 Tryz.prog 204 ([.agg (bR x).toArray]++[.pointer (some ⟨b3,0,none⟩)]) w fun v _=>v = .bool (dV n c):=by
 refine aC Tryz.func204 rfl Tryz.ntmps204 rfl ?_;refine CW.seq (CW.region (SW.box rfl rfl fun b1 w1 hw gI au => ?_));replace h3:=h3.ext hw;have C6:=h3.cell (i:=0) (v := .string n) rfl;rw [add_zero] at C6;repeat' (first|refine Wz ?_|refine SW.st (az rfl C6) rfl ?_|(refine SW.call rfl rfl (iJ _ _ _ _ _ _ (hx.names.ext hw) hn) ?_;intro v w1 ab hv;subst hv;replace hw:=Ext.trans hw ab;replace au:=au.ext ab;clear ab))
 exact ae.aF rfl rfl ⟨_,rfl,hw,rfl⟩
theorem wW (r:dF) (s:ar) (n:ByteArray) (w:World) (hr:lg w r s) (hs:s.small) :
 a9 Tryz.prog 136 [.agg (aH r).toArray,.string n] w fun v _=>v = .tuple #[.int .i64 (idxOf (dV n) s.aa),.bool (s.aa.any (dV n))]:=by
 refine aC Tryz.func136 rfl Tryz.ntmps136 rfl ?_;obtain ⟨cs,hc⟩:=hr.bJ;obtain ⟨z1,z2⟩:=hc.len;have m3:=hs.bJ;obtain ⟨p,hp⟩:=wV w n;have yJ:=nH (p:=p) (q:=dV n) (l:=cs) (m:=s.aa) (by omega) fun k h1 h2=>hp _ _ (hc.each.get k h1 h2)
 refine CW.seq (CW.region (SW.box rfl rfl fun b2 w1 hw ff ax => ?_));refine SW.CK rfl rfl rfl fun b3 w2 cg bM ap => ?_
 (replace hw:=Ext.trans hw cg;replace ax:=ax.ext cg);repeat' (first|refine Wz ?_|(refine SW.st (fT (vs:=[.pointer (some ⟨b3,0,none⟩)]) rfl) rfl ?_))
 refine SW.call rfl rfl (iX _ _ _ _ _ (hc.row.ext hw) _ [.pointer (some ⟨b3,0,none⟩)] p (fun x => .agg (bR x).toArray) (fun x=>rfl) (fun x hx w1 jG=>by
  obtain ⟨k,hk,rfl⟩:=List.getElem_of_mem hx;have sR:k<s.aa.length:=by omega
  have dm:=hc.each.get k hk sR;have q1:=(hs.each _ (List.getElem_mem sR)).names;have q2:=dm.names.len;rw [hp _ _ dm];exact u6 _ _ b3 n w1 (ap.ext jG) (dm.ext (Ext.trans hw jG)) (by omega)) (by omega)) fun v w4 gf hv => ?_
 subst hv;rw [yJ.1];replace hw:=Ext.trans hw gf;have qb:=fr (dV n) s.aa;refine Wz ?_;all_goals exact ae.eY rfl rfl rfl ⟨_,rfl,hw,by rw [qb]⟩
theorem kE (r:dF) (s:ar) (n:ByteArray) (w:World) (hr:lg w r s) (hs:s.small) :
 a9 Tryz.prog 118 [.agg (aH r).toArray,.string n] w fun v _=>v = .int .i64 (idxOf (dV n) s.aa):=by
 refine aC Tryz.func118 rfl Tryz.ntmps118 rfl ?_;refine CW.seq (CW.region (SW.box rfl rfl fun b2 w1 hw ff ax => ?_));obtain ⟨cs,hc⟩:=hr.bJ;obtain ⟨z1,z2⟩:=hc.len;have m3:=hs.bJ;refine Wz ?_
 refine CW.loop (fun k:Nat=>[(1,.string n),(2,.pointer (some ⟨b2,0,none⟩)),(5,.int .i64 (k:Int))])
  (fun k w'=>k≤r.aa.n∧Ext w w'∧aU w' b2 44 (aH r) ∧ ∀ (j:Nat) (hj:j<s.aa.length),j<k→dV n s.aa[j]=false) (fun k=>r.aa.n-k) 0
  ⟨rfl,rfl,rfl,trivial⟩ ⟨by omega,hw,ax,fun j hj h=>by omega⟩ ?_
 clear hw ax;rintro i w' ⟨hk,hw,ax,hI⟩
 have hA:=hc.row.base;by_cases cy:i<r.aa.n
 ·have k9:i<cs.length:=by omega
  have jS:i<s.aa.length:=by omega
  have dm:=hc.each.get i k9 jS;have sm:=(hs.each _ (List.getElem_mem jS)).names;have q1:=dm.names.len;have g0:=hc.row.fE cy (j:=0) (u := .slice cs[i].Names.A cs[i].Names.n cs[i].Names.c) rfl;refine Wz ?_
  refine CW.loop (fun k:Nat=>[(1,.string n),(2,.pointer (some ⟨b2,0,none⟩)),(5,.int .i64 (i:Int)),(6,.int .i64 (k:Int))])
   (fun k w'=>k≤cs[i].Names.n∧Ext w w'∧aU w' b2 44 (aH r) ∧ ∀ (j:Nat) (hj:j<s.aa[i].Names.length),j<k→s.aa[i].Names[j]≠n) (fun k=>cs[i].Names.n-k) 0
   ⟨rfl,rfl,rfl,rfl,trivial⟩ ⟨by omega,hw,ax,fun j hj h=>by omega⟩ ?_
  clear hw ax;rintro k w' ⟨hk,hw,ax,hJ⟩
  have yu:=dm.names.base;by_cases cc:k<cs[i].Names.n
  ·have cG:k<s.aa[i].Names.length:=by omega
   by_cases he:s.aa[i].Names[k]=n
   ·have hh:dV n s.aa[i]=true:=gb.2 (he ▸ List.getElem_mem cG)
    repeat' (first|refine Wz ?_|refine SW.st (ag hw rfl g0) rfl ?_|refine SW.st (ag hw rfl (dm.names.one cc rfl)) rfl ?_|(refine SW.st ((fU rfl rfl).eq (congrArg Value.bool (decide_eq_true he))) rfl ?_))
    exact ae.aF rfl rfl ⟨_,rfl,hw,by rw [fG jS hh hI]⟩
   ·repeat' (first|refine Wz ?_|refine SW.st (ag hw rfl g0) rfl ?_|refine SW.st (ag hw rfl (dm.names.one cc rfl)) rfl ?_|(refine SW.st ((fU rfl rfl).eq (congrArg Value.bool (decide_eq_false he))) rfl ?_))
    exact ae.again (k+1) ⟨rfl,rfl,rfl,rfl,trivial⟩ (by omega) ⟨by omega,hw,ax,fun j hj h=>by
     by_cases e:j=k
     ·subst e;exact he
     ·exact hJ j hj (by omega)⟩
  ·have hh:dV n s.aa[i]=false:=by
    cases e:dV n s.aa[i]
    ·rfl
    ·obtain ⟨j,hj,e⟩:=List.getElem_of_mem (gb.1 e);exact absurd e (hJ j hj (by omega))
   repeat' (first|refine Wz ?_|refine SW.st (ag hw rfl g0) rfl ?_)
   exact ae.again (i+1) ⟨rfl,rfl,rfl,trivial⟩ (by omega) ⟨by omega,hw,ax,fun j hj h=>by
    by_cases e:j=i
    ·subst e;exact hh
    ·exact hI j hj (by omega)⟩
 ·refine Wz ?_;exact ae.aF rfl rfl ⟨_,rfl,hw,by rw [(fC (fun j hj=>hI j hj (by omega))).1]⟩
open Go.RowKit
open Go.RowKit
section
variable {P:Program} {L:Env} {w:World} {d:Option Nat} {T:TypeId} {pos:String} {af:Array Edge} {g:Option (Nat×Bool)}
theorem tF {t:TypeId} [c:sN P t] {x lo hi:Operand} {s r:ByteArray} {i j:Int} (hx:bG L x=some (.string s)) (gh:bG L lo=some (.int .i64 i)) (H3:bG L hi=some (.int .i64 j)) (h0 : 0≤i) (h1:i≤j) (h2:j≤s.size) (hr:s.extract i.toNat j.toNat=r) :
 St P ⟨d,.slice t x (some lo) (some hi) none,T,pos,af,g⟩ L w (.string r) :=
 ⟨fun _ a ha w' _=>by
  subst hr;have e1:=ha.eval hx;have e2:=ha.eval gh;have e3:=ha.eval H3;have h3:i≤(j.toNat:Int):=by omega
  have h4 : ¬ max j 0<i:=by omega
  generalize a.eval = ρ at *
  simp [execOp,e1,e2,e3,Instr.sliceAt,Instr.slice,Instr.sliceBounds,Instr.sliceBound,asIntOf,run_underlying c.iK,h0,h1,h2,h3,h4,show 0≤j by omega]⟩
theorem wX {t ty:TypeId} {x y:Operand} {s r:ByteArray} (hx:bG L x=some (.string s)) (hy:bG L y=some (.string r)) (hb:s.size+r.size≤9223372036854775807) : St P ⟨d,.binOp .add t x y ty,T,pos,af,g⟩ L w (.string (s++r)) :=
 ⟨fun _ a ha w' _=>by
  have e1:=ha.eval hx;have e2:=ha.eval hy;generalize a.eval = ρ at *
  have h1 : ¬ IntKind.i64.max<((s.size+r.size:Nat) : Int):=by
   have:IntKind.i64.max=9223372036854775807:=rfl
   omega
  simp only [Int.natCast_add] at h1;simp [go_sem,e1,e2,Op.stringOp,h1];omega⟩
theorem tG {t e:TypeId} {len sz:Nat} [c:vq P t len e sz] {x:Operand} {ad:Addr} (hx:bG L x=some (.pointer (some ad))) : St P ⟨d,.slice t x none none none,T,pos,af,g⟩ L w (.slice (some ad) len len) :=
 ⟨fun _ a ha w' _=>by
  have e1:=ha.eval hx;generalize a.eval = ρ at *
  simp [execOp,e1,Instr.sliceAt,Instr.sureAddr,Instr.sliceBounds,run_underlying c.iK,run_sizeOf c.size,add_zero]⟩
end
theorem yK {Z:List Value} {a b c d e f:Value} (hZ:Z.length=6) (ha:a.cells = #[a]) (hb:b.cells = #[b]) (hc:c.cells = #[c]) (hd:d.cells = #[d]) (he:e.cells = #[e]) (hf:f.cells = #[f]) :
 Instr.fill (fun i=>some (i*1,1)) Z.toArray [(0,a),(1,b),(2,c),(3,d),(4,e),(5,f)]=some #[a,b,c,d,e,f]:=by
 match Z,hZ with
 | [z0,z1,z2,z3,z4,z5],_=>simp [Instr.fill,ha,hb,hc,hd,he,hf]
theorem SW.yL {α:Type} {P:Program} {n:Nat} {ops:Array Oper} {Q:Exit→Act→World→Prop} {rest:List Oper} {L:Env} {w:World} {d:Nat} {T:TypeId} {pos:String} {af:Array Edge} {t e:TypeId} {z:Value} {bytes:Nat} {enc : α → List Value}
 [S:bj P t e 1] [E:ct P e z 1 bytes] [C:fM enc 1] {x0 x1 x2 x3 x4 x5:Operand} {u0 u1 u2 u3 u4 u5:Value} (l:List α)
 (h0:bG L x0=some u0) (h1:bG L x1=some u1) (h2:bG L x2=some u2) (h3:bG L x3=some u3) (h4:bG L x4=some u4) (h5:bG L x5=some u5)
 (ho:(u0.cells = #[u0]∧u1.cells = #[u1]∧u2.cells = #[u2]∧u3.cells = #[u3]∧u4.cells = #[u4]∧u5.cells = #[u5])) (hl:l.flatMap enc=[u0,u1,u2,u3,u4,u5]) (Eo:l.length=6)
 (hn:Nat.blt d n=true) (h:∀ g w',Ext w w'→w.heap.size≤g→Own w' w.heap.size e 1 enc (some ⟨g,0,none⟩) 6 6 l→SW P n ops (.eG Q) rest ((d,.slice (some ⟨g,0,none⟩) 6 6)::L) w') :
 SW P n ops (.eG Q) (⟨some d,.buildSlice t 6 #[(0,x0),(1,x1),(2,x2),(3,x3),(4,x4),(5,x5)],T,pos,af,none⟩::rest) L w :=
 ⟨fun q hq=>by
  obtain ⟨i,hi,hz,gV,qI⟩:=da P e (z:=z) (sz:=1) (bytes:=bytes);simp only [swp];refine wpList_buildSlice rfl t e 6 _ rfl #[u0,u1,u2,u3,u4,u5] i z S.iK hi hz (by rw [gV];omega) (by rw [gV];omega) ?_ ?_
  ·have e1:(Array.map (fun (p:Nat×Operand)=>(p.1,q.eval p.2)) #[(0,x0),(1,x1),(2,x2),(3,x3),(4,x4),(5,x5)]).toList=[(0,u0),(1,u1),(2,u2),(3,u3),(4,u4),(5,u5)]:=by
    simp [hq.eval h0,hq.eval h1,hq.eval h2,hq.eval h3,hq.eval h4,hq.eval h5]
   have e2:∀ X:Array Value,X=X.toList.toArray:=fun X=>rfl
   rw [e1,e2 (Array.map _ (Array.range _)),gV];obtain ⟨a0,a1,a2,a3,a4,a5⟩:=ho;exact yK (by simp) a0 a1 a2 a3 a4 a5
  ·refine (h w.heap.size _ (Ext.alloc w _) (Nat.le_refl _) ⟨Eo,.inr ⟨by omega,w.heap.size,_,rfl,Nat.le_refl _,aU.new w e [u0,u1,u2,u3,u4,u5],Nat.le_refl _,by simp [maxLen],by simp,?_⟩⟩).out _ (hq.put hn _);rw [hl]
   rfl⟩
end Go.Proofs.YtbidkghlpijecaaGreatDoor
