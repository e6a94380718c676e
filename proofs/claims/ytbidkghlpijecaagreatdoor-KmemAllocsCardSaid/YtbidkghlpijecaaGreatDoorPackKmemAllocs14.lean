/-
  Texts of the claim KmemAllocs, part 14: what its theorem leans on.
-/
import Derived.Test.YtbidkghlpijecaaGreatDoorPackKmemAllocs12
import Derived.Test.YtbidkghlpijecaaGreatDoorPackKmemAllocs11
import Derived.Test.YtbidkghlpijecaaGreatDoorPackKmemAllocs13
import Derived.Test.YtbidkghlpijecaaGreatDoorPackKmemAllocs2
import Derived.Test.YtbidkghlpijecaaGreatDoorRows
import Derived.ProofKit
import Derived.SizedLaws
import Derived.JoinedCond
import Derived.Deep.Slices
import Derived.Deep.Fields
import Derived.Lib.SmallJoins
import Derived.OpenShut
import Derived.Test.YtbidkghlpijecaaGreatDoorPackKmemAllocs1
import Derived.Test.YtbidkghlpijecaaGreatDoorPackKmemAllocs3
import Derived.Test.YtbidkghlpijecaaGreatDoorPackKmemAllocs4
import Derived.Test.YtbidkghlpijecaaGreatDoorPackKmemAllocs8
import Derived.Great.BuildSlice
set_option linter.unusedVariables false
set_option linter.unusedSimpArgs false
namespace Go.Proofs.YtbidkghlpijecaaGreatDoor
open Go.RowKit
set_option maxHeartbeats 8000000 in
theorem xM (r:dQ) (s:aE) (w:World) (hr:qR w r s) (hf:s.kh) :
 bo Tryz.prog 47 [.agg (aR r).toArray] w fun v _=>v = .bool (g9 s):=by
 refine aI Tryz.func47 rfl Tryz.ntmps47 rfl ?_;refine CW.seq (CW.region (SW.box rfl rfl fun b1 w1 hw gV aB => ?_));obtain ⟨cs,hc⟩:=hr.dn;obtain ⟨z1,z2⟩:=hc.len;have wl:=hr.words.len;have hs:=hf.small;have m3:=hs.dn;obtain ⟨q,hq⟩ : ∃ q,iN s.Heap=q:=⟨_,rfl⟩
 have c1:∀ w',Ext w w'→bo Tryz.prog 114 [.agg (bm r.Heap).toArray] w' fun v _=>v = .bool q:=fun w' hx=>by
  have:=xL r.Heap s.Heap w' (hr.heap.ext hx) hs.heap hf.cQ
  rwa [hq] at this
 by_cases tv:s.Words.length=4096∧q=true∧s.aa.length≤20
 ·obtain ⟨g1,g2,g3⟩:=tv;subst g2;have hH:=ig.1 hq;repeat' (first|refine Wz ?_|refine SW.want rfl rfl ?_|refine SW.st (aW rfl rfl ((fY aB))) rfl ?_|(refine SW.call rfl rfl (c1 _ hw) ?_;intro v w1 ab hv;subst hv;replace hw:=Ext.trans hw ab;replace aB:=aB.ext ab;clear ab))
  all_goals try omega
  clear c1
  refine CW.loop (fun u:Nat×Option Addr×Nat×Option Addr×Nat=>[(1,.pointer (some ⟨b1,0,none⟩)),(3,.slice u.2.1 (ca (s.aa.take u.1)).length u.2.2.1),(4,.slice u.2.2.2.1 (cS (s.aa.take u.1)).length u.2.2.2.2),(5,.int .i64 (u.1:Int))])
   (fun u w'=>u.1≤r.aa.n∧Ext w w'∧aJ w' b1 44 (aR r)∧Own w' w.heap.size 9 1 encStr u.2.1 (ca (s.aa.take u.1)).length u.2.2.1 (ca (s.aa.take u.1))∧Own w' w.heap.size 3 1 bd u.2.2.2.1 (cS (s.aa.take u.1)).length u.2.2.2.2 (cS (s.aa.take u.1)) ∧
     ∀ (i:Nat) (h:i<s.aa.length),i<u.1→rW s i h) (fun u=>r.aa.n-u.1) (0,none,0,none,0)
   ⟨rfl,by simp [ca];rfl,by simp [cS];rfl,rfl,trivial⟩ ⟨by simp only;omega,hw,aB,Own.eJ _ _ _ _ _ _,Own.eJ _ _ _ _ _ _,fun i h h'=>by simp only at h';omega⟩ ?_
  clear hw aB;rintro ⟨k,A1,c1,A2,c2⟩ w' ⟨hk,hw,aB,hN,hS,hI⟩
  simp only at hk hN hS hI ⊢;have hA:=hc.row.base;by_cases cb:k<r.aa.n
  ·have ul:k<cs.length:=by omega
   have dk:k<s.aa.length:=by omega
   have gn:=hc.each.get k ul dk;have sm:=hs.each _ (List.getElem_mem dk);have fN:=hf.names _ (List.getElem_mem dk);have q1:=gn.names.len;have q2:=gn.aS.len;have q4:=sm.names;have q5:=sm.aS;obtain ⟨⟨Ic,Ie⟩,MK,ML⟩:=xF hH k (by omega) hI;repeat' (first|refine Wz ?_|refine SW.st (aH hw rfl rfl ((hc.row.all cb))) rfl ?_)
   refine SW.alloc rfl fun b6 w1 ab eg aw => ?_
   skip;refine SW.ak aw rfl rfl rfl rfl (sO _) fun w2 gq hg => ?_
   have aj:=ab.own eg hg;have cu:w.heap.size≤b6:=Nat.le_trans hw.size eg
   replace hw:=Ext.trans hw aj;replace aB:=aB.ext aj;replace hN:=hN.ext aj;replace hS:=hS.ext aj;replace aw:=gq;clear gq ab hg aj;obtain ⟨qc,G7⟩ : ∃ qc,iY s s.aa[k]=qc:=⟨_,rfl⟩
   have cC:∀ w',Ext w w'→bo Tryz.prog 115 [.agg (aR r).toArray,.agg (dh cs[k]).toArray] w' fun v _=>v = .bool qc:=fun w' hx=>by
    have:=wh r s cs[k] s.aa[k] w' (hr.ext hx) (gn.ext hx) hs sm hH
    rwa [G7] at this
   cases qc
   ·have hF:g9 s=false:=kf fun hm=>by
     have:=ng (hm.each k dk).may
     rw [G7] at this;cases this
    rw [hF];repeat' (first|refine Wz ?_|(refine CW.bO rfl ?_)|(refine SW.call rfl rfl (cC _ hw) ?_;intro v w1 ab hv;subst hv;replace hw:=Ext.trans hw ab;replace aB:=aB.ext ab;replace aw:=aw.ext ab;replace hN:=hN.ext ab;replace hS:=hS.ext ab;clear ab))
    exact ae.aO rfl rfl ⟨_,rfl,hw,rfl⟩
   ·have Ke:=td.1 G7;repeat' (first|refine Wz ?_|(refine CW.bB rfl ?_)|(refine SW.call rfl rfl (cC _ hw) ?_;intro v w1 ab hv;subst hv;replace hw:=Ext.trans hw ab;replace aB:=aB.ext ab;replace aw:=aw.ext ab;replace hN:=hN.ext ab;replace hS:=hS.ext ab;clear ab))
    clear cC;obtain ⟨acc,v5⟩ : ∃ acc,ca (s.aa.take k)=acc:=⟨_,rfl⟩;rw [v5] at hN Ic Ie ⊢;obtain ⟨oS,v7⟩ : ∃ oS,cS (s.aa.take k)=oS:=⟨_,rfl⟩;rw [v7] at hS MK ML ⊢
    refine CW.loop (fun j:Nat=>[(1,.pointer (some ⟨b1,0,none⟩)),(3,.slice A1 acc.length c1),(4,.slice A2 oS.length c2),(5,.int .i64 (k:Int)),(6,.pointer (some ⟨b6,0,none⟩)),(7,.int .i64 (j:Int))])
     (fun j w'=>j≤k∧Ext w w'∧aJ w' b1 44 (aR r)∧aJ w' b6 89 (dh cs[k])∧Own w' w.heap.size 9 1 encStr A1 acc.length c1 acc∧Own w' w.heap.size 3 1 bd A2 oS.length c2 oS ∧ ∀ (i:Nat) (h:i<k),i<j→(s.aa[i]'(by omega)).bg≠s.aa[k].bg) (fun j=>k-j) 0
     ⟨rfl,rfl,rfl,rfl,rfl,rfl,trivial⟩ ⟨by omega,hw,aB,aw,hN,hS,fun i h h'=>by omega⟩ ?_
    clear hw aB hN hS aw;rintro j w' ⟨hj,hw,aB,aw,hN,hS,hZ⟩
    by_cases lg:j<k
    ·have gZ:=hc.row.dA (show j<r.aa.n by omega) (j:=1) (u := .int .i64 (cs[j]'(by omega)).bg) rfl;have e1:=(hc.each.get j (by omega) (by omega)).size;have e2:=gn.size;by_cases hx:(s.aa[j]'(by omega)).bg=s.aa[k].bg
     ·rw [kf fun hm=>(hm.each k dk).size j lg hx];repeat' (first|refine Wz ?_|((apply CW.aP mixed;(· kernel_rfl);rotate_left;intro w1 ab;replace hw:=Ext.trans hw ab;replace aB:=aB.ext ab;replace aw:=aw.ext ab;replace hN:=hN.ext ab;replace hS:=hS.ext ab;clear ab;rotate_right))|refine SW.st (ap hw rfl gZ) rfl ?_|exact SW.bx rfl)
      all_goals try omega
      exact ae.aO rfl rfl ⟨_,rfl,hw,rfl⟩
     ·repeat' (first|refine Wz ?_|((apply CW.aP mixed;(· kernel_rfl);rotate_left;intro w1 ab;replace hw:=Ext.trans hw ab;replace aB:=aB.ext ab;replace aw:=aw.ext ab;replace hN:=hN.ext ab;replace hS:=hS.ext ab;clear ab;rotate_right))|refine SW.st (ap hw rfl gZ) rfl ?_|exact SW.bx rfl)
      all_goals try omega
      exact ae.again (j+1) ⟨rfl,rfl,rfl,rfl,rfl,rfl,trivial⟩ (by omega) ⟨by omega,hw,aB,aw,hN,hS,fun i h h'=>by
       by_cases ei:i=j
       ·subst ei;exact hx
       ·exact hZ i h (by omega)⟩
    ·have vt:∀ (i:Nat) (h:i<k),(s.aa[i]'(by omega)).bg≠s.aa[k].bg:=fun i h=>hZ i h (by omega)
     refine Wz ?_;clear hZ
     refine CW.loop (fun u:Nat×Option Addr×Nat=>[(1,.pointer (some ⟨b1,0,none⟩)),(3,.slice u.2.1 (acc++s.aa[k].Names.take u.1).length u.2.2),(4,.slice A2 oS.length c2),(5,.int .i64 (k:Int)),(6,.pointer (some ⟨b6,0,none⟩)),(8,.int .i64 (u.1:Int))])
      (fun u w'=>u.1≤cs[k].Names.n∧Ext w w'∧aJ w' b1 44 (aR r)∧aJ w' b6 89 (dh cs[k])∧Own w' w.heap.size 9 1 encStr u.2.1 (acc++s.aa[k].Names.take u.1).length u.2.2 (acc++s.aa[k].Names.take u.1)∧Own w' w.heap.size 3 1 bd A2 oS.length c2 oS ∧
        ∀ (i:Nat) (h:i<s.aa[k].Names.length),i<u.1→gm s.aa[k].Names[i]=true∧s.aa[k].Names[i]∉acc++s.aa[k].Names.take i∧(0<i→fJ (s.aa[k].Names[i-1]'(by omega)) s.aa[k].Names[i]=true)) (fun u=>cs[k].Names.n-u.1) (0,A1,c1)
      ⟨rfl,by simp;rfl,rfl,rfl,rfl,rfl,trivial⟩ ⟨by simp only;omega,hw,aB,aw,by simpa using hN,hS,fun i h h'=>by simp only at h';omega⟩ ?_
     clear hw aB hN hS aw;rintro ⟨j,A1,c1⟩ w' ⟨hj,hw,aB,aw,hN,hS,hJ⟩
     simp only at hj hN hJ ⊢;have rX:=gn.names.base;by_cases je:j<cs[k].Names.n
     ·have kV:j<s.aa[k].Names.length:=by omega
      obtain ⟨nm,ui⟩ : ∃ nm,s.aa[k].Names[j]=nm:=⟨_,rfl⟩;have gN:=gn.names.one je (u := .string nm) (by rw [← ui];rfl);have E3:nm.size≤140737488351232:=by rw [← ui];exact fN _ (List.getElem_mem kV)
      obtain ⟨qn,G8⟩ : ∃ qn,gm nm=qn:=⟨_,rfl⟩
      have E4:∀ w',bo Tryz.prog 116 [.string nm] w' fun v _=>v = .bool qn:=fun w'=>by
       have:=xm nm w' E3
       rwa [G8] at this
      have wi:=xE (kj (l:=s.aa[k].Names) Ic j (fun i h h'=>(hJ i h h').2.1)) (fun n hn=>by
       rcases List.mem_append.1 hn with hn|hn
       ·exact Ie n hn
       ·obtain ⟨i,hi,rfl⟩:=List.mem_take_iff_getElem.1 hn;exact (hJ i (by omega) (by omega)).1)
      have jK:acc++s.aa[k].Names.take (j+1)=(acc++s.aa[k].Names.take j)++[nm]:=by rw [List.take_succ_eq_append_getElem kV,ui];simp
      have q9:(qn=false∨nm∈acc++s.aa[k].Names.take j ∨ ∃ vI : 0<j,fJ (s.aa[k].Names[j-1]'(by omega)) nm=false)→g9 s=false:=fun h=>kf fun hm=>by
       have h1:=(hm.each k dk).names.each j kV;rw [ui,v5] at h1;rcases h with h|h|⟨vI,h⟩
       ·rw [G8,h] at h1;exact absurd h1.1 (by simp)
       ·exact h1.2.1 h
       ·rw [h1.2.2 vI] at h;cases h
      have go:gm nm=true→(0<j→fJ (s.aa[k].Names[j-1]'(by omega)) nm=true)→nm∉acc++s.aa[k].Names.take j → ∀ (i:Nat) (h:i<s.aa[k].Names.length),i<j+1→gm s.aa[k].Names[i]=true∧s.aa[k].Names[i]∉acc++s.aa[k].Names.take i∧(0<i→fJ (s.aa[k].Names[i-1]'(by omega)) s.aa[k].Names[i]=true):=fun h1 h2 h3 i h h'=>by
       by_cases ei:i=j
       ·subst ei;rw [ui];exact ⟨h1,h3,h2⟩
       ·exact hJ i h (by omega)
      obtain ⟨ac,xN⟩ : ∃ ac,acc++s.aa[k].Names.take j=ac:=⟨_,rfl⟩;rw [xN] at hN wi jK q9 go ⊢;cases qn
      ·rw [q9 (.inl rfl)];repeat' (first|refine Wz ?_|((apply CW.aP mixed;(· kernel_rfl);rotate_left;intro w1 ab;replace hw:=Ext.trans hw ab;replace aB:=aB.ext ab;replace aw:=aw.ext ab;replace hN:=hN.ext ab;replace hS:=hS.ext ab;clear ab;rotate_right))|refine SW.skip rfl rfl rfl rfl ?_|refine SW.st (ap hw rfl gN) rfl ?_|refine SW.br rfl rfl (fun w1 ab=>(E4 _)) ?_|exact SW.bx rfl)
       exact ae.aO rfl rfl ⟨_,rfl,hw,rfl⟩
      ·by_cases tw : 0<j→fJ (s.aa[k].Names[j-1]'(by omega)) nm=true
       ·rcases Nat.eq_zero_or_pos j with vI|vI
        all_goals
         first
         | (have gP:=gn.names.one (show j-1<cs[k].Names.n by omega) (u := .string (s.aa[k].Names[j-1]'(by omega))) rfl
            have FU:(!fJ (s.aa[k].Names[j-1]'(by omega)) nm)=false:=by rw [tw vI];rfl)
         | skip
        all_goals
         refine Wz ?_;(apply CW.aP mixed;(· kernel_rfl);rotate_left;intro w1 ab;replace hw:=Ext.trans hw ab;replace aB:=aB.ext ab;replace aw:=aw.ext ab;replace hN:=hN.ext ab;replace hS:=hS.ext ab;clear ab;rotate_right);repeat' (first|refine Wz ?_|refine SW.want rfl rfl ?_|refine SW.st (bc (j-1) rfl rfl (by assumption) (by omega) (by omega)) rfl ?_|refine SW.st (ap hw rfl gN) rfl ?_|refine SW.st (ap hw rfl gP) rfl ?_|refine SW.br rfl rfl (fun w1 ab=>(E4 _)) ?_|(refine SW.st ((xk rfl rfl).eq (congrArg Value.bool FU)) rfl ?_)|exact SW.bx rfl)
         all_goals try omega
         refine CW.loop (fun i:Nat=>[(1,.pointer (some ⟨b1,0,none⟩)),(3,.slice A1 ac.length c1),(4,.slice A2 oS.length c2),(5,.int .i64 (k:Int)),(6,.pointer (some ⟨b6,0,none⟩)),(8,.int .i64 (j:Int)),(9,.int .i64 (i:Int))])
          (fun i w'=>i≤ac.length∧Ext w w'∧aJ w' b1 44 (aR r)∧aJ w' b6 89 (dh cs[k])∧Own w' w.heap.size 9 1 encStr A1 ac.length c1 ac∧Own w' w.heap.size 3 1 bd A2 oS.length c2 oS ∧ ∀ (m:Nat) (h:m<ac.length),m<i→ac[m]≠nm) (fun i=>ac.length-i) 0
          ⟨rfl,rfl,rfl,rfl,rfl,rfl,rfl,trivial⟩ ⟨by omega,hw,aB,aw,hN,hS,fun m h h'=>by omega⟩ ?_
         clear hw aB hN hS aw;rintro i w' ⟨hi,hw,aB,aw,hN,hS,hM⟩
         have Jd:=hN.sl.base;by_cases cf:i<ac.length
         ·have gM:=hN.sl.one cf (u := .string ac[i]) rfl;by_cases hx:ac[i]=nm
          ·have Ls:=decide_eq_true hx;rw [q9 (.inr (.inl (hx ▸ List.getElem_mem cf)))];repeat' (first|refine Wz ?_|((apply CW.aP mixed;(· kernel_rfl);rotate_left;intro w1 ab;replace hw:=Ext.trans hw ab;replace aB:=aB.ext ab;replace aw:=aw.ext ab;replace hN:=hN.ext ab;replace hS:=hS.ext ab;clear ab;rotate_right))|refine SW.st (ap hw rfl gN) rfl ?_|refine SW.st (ao rfl gM) rfl ?_|(refine SW.st ((iE rfl rfl).eq (congrArg Value.bool Ls)) rfl ?_)|exact SW.bx rfl)
           exact ae.aO rfl rfl ⟨_,rfl,hw,rfl⟩
          ·have Ls:=decide_eq_false hx;repeat' (first|refine Wz ?_|((apply CW.aP mixed;(· kernel_rfl);rotate_left;intro w1 ab;replace hw:=Ext.trans hw ab;replace aB:=aB.ext ab;replace aw:=aw.ext ab;replace hN:=hN.ext ab;replace hS:=hS.ext ab;clear ab;rotate_right))|refine SW.st (ap hw rfl gN) rfl ?_|refine SW.st (ao rfl gM) rfl ?_|(refine SW.st ((iE rfl rfl).eq (congrArg Value.bool Ls)) rfl ?_)|exact SW.bx rfl)
           exact ae.again (i+1) ⟨rfl,rfl,rfl,rfl,rfl,rfl,rfl,trivial⟩ (by omega) ⟨by omega,hw,aB,aw,hN,hS,fun m h h'=>by
            by_cases em:m=i
            ·subst em;exact hx
            ·exact hM m h (by omega)⟩
         ·have ug:nm∉ac:=fun hm=>by
           obtain ⟨m,qx,qy⟩:=List.getElem_of_mem hm;exact hM m qx (by omega) qy
          repeat' (first|refine Wz ?_|refine SW.st (ap hw rfl gN) rfl ?_)
          refine SW.bK rfl rfl rfl rfl rfl fun b w1 ab hb hB => ?_
          (replace hw:=Ext.trans hw ab;replace aB:=aB.ext ab;replace aw:=aw.ext ab;replace hN:=hN.ext ab;replace hS:=hS.ext ab);refine SW.append hN (aJ.mo (enc:=encStr) hB) hw.size rfl rfl rfl (by omega) (by omega) fun A3 c3 w2 Of hg => ?_
          replace hw:=aF hw hg (Nat.le_refl _) hN.aM;replace aB:=aB.grown hg (fun e=>hN.dm aB rfl e.symm);replace aw:=aw.grown hg (fun e=>hN.dm aw rfl e.symm);replace hS:=hS.grown hg (hS.vQ hN rfl);refine Wz ?_;exact ae.again (j+1,A3,c3) ⟨rfl,by simp only [jK,List.length_append];rfl,rfl,rfl,rfl,rfl,trivial⟩ (by simp only;omega) ⟨by simp only;omega,hw,aB,aw,by simp only [jK,List.length_append];exact Of,hS,go G8 tw ug⟩
       ·have vI : 0<j:=by
         rcases Nat.eq_zero_or_pos j with h|h
         ·exact absurd (fun h'=>by omega) tw
         ·exact h
        have Lt:fJ (s.aa[k].Names[j-1]'(by omega)) nm=false:=by
         cases e:fJ (s.aa[k].Names[j-1]'(by omega)) nm
         ·rfl
         ·exact absurd (fun _=>e) tw
        have gP:=gn.names.one (show j-1<cs[k].Names.n by omega) (u := .string (s.aa[k].Names[j-1]'(by omega))) rfl;have FU:(!fJ (s.aa[k].Names[j-1]'(by omega)) nm)=true:=by rw [Lt];rfl
        rw [q9 (.inr (.inr ⟨vI,Lt⟩))];repeat' (first|refine Wz ?_|((apply CW.aP mixed;(· kernel_rfl);rotate_left;intro w1 ab;replace hw:=Ext.trans hw ab;replace aB:=aB.ext ab;replace aw:=aw.ext ab;replace hN:=hN.ext ab;replace hS:=hS.ext ab;clear ab;rotate_right))|refine SW.want rfl rfl ?_|refine SW.st (bc (j-1) rfl rfl (by assumption) (by omega) (by omega)) rfl ?_|refine SW.st (ap hw rfl gN) rfl ?_|refine SW.st (ap hw rfl gP) rfl ?_|refine SW.br rfl rfl (fun w1 ab=>(E4 _)) ?_|(refine SW.st ((xk rfl rfl).eq (congrArg Value.bool FU)) rfl ?_)|exact SW.bx rfl)
        all_goals try omega
        exact ae.aO rfl rfl ⟨_,rfl,hw,rfl⟩
     ·have Ha:vX (ca (s.aa.take k)) s.aa[k].Names:=⟨fun i h=>by rw [v5];exact hJ i h (by omega)⟩
      rw [List.take_of_length_le (show s.aa[k].Names.length≤j by omega)] at hN ⊢;rw [← v5,← jC s.aa k dk] at hN ⊢;refine Wz ?_;clear hJ;obtain ⟨nl,MM⟩ : ∃ nl,ca (s.aa.take (k+1))=nl:=⟨_,rfl⟩;rw [MM] at hN ⊢
      refine CW.loop (fun u:Nat×Option Addr×Nat=>[(1,.pointer (some ⟨b1,0,none⟩)),(3,.slice A1 nl.length c1),(4,.slice u.2.1 (oS++(s.aa[k].ai.take u.1).map fun x=>x.At).length u.2.2),(5,.int .i64 (k:Int)),(6,.pointer (some ⟨b6,0,none⟩)),(10,.int .i64 (u.1:Int))])
       (fun u w'=>u.1≤cs[k].ai.n∧Ext w w'∧aJ w' b1 44 (aR r)∧aJ w' b6 89 (dh cs[k])∧Own w' w.heap.size 9 1 encStr A1 nl.length c1 nl∧Own w' w.heap.size 3 1 bd u.2.1 (oS++(s.aa[k].ai.take u.1).map fun x=>x.At).length u.2.2 (oS++(s.aa[k].ai.take u.1).map fun x=>x.At) ∧
         ∀ (i:Nat) (h:i<s.aa[k].ai.length),i<u.1→s.aa[k].ai[i].At∉oS++(s.aa[k].ai.take i).map fun x=>x.At) (fun u=>cs[k].ai.n-u.1) (0,A2,c2)
       ⟨rfl,rfl,by simp;rfl,rfl,rfl,rfl,trivial⟩ ⟨by simp only;omega,hw,aB,aw,hN,by simpa using hS,fun i h h'=>by simp only at h';omega⟩ ?_
      clear hw aB hN hS aw;rintro ⟨j,A2,c2⟩ w' ⟨hj,hw,aB,aw,hN,hS,hJ⟩
      simp only at hj hS hJ ⊢;have rX:=gn.aS.base;by_cases je:j<cs[k].ai.n
      ·have kV:j<s.aa[k].ai.length:=by omega
       obtain ⟨t,ht⟩ : ∃ t,s.aa[k].ai[j].At=t:=⟨_,rfl⟩;have gT:=gn.aS.dA je (j:=0) (u := .int .i64 t) (by rw [← ht];rfl)
       have wi:=Bs (kj (l:=s.aa[k].ai.map fun x=>x.At) MK j (fun i h h'=>by
        have:=hJ i (by simpa using h) h'
        simpa [List.map_take] using this)) (fun n hn=>by
        rcases List.mem_append.1 hn with hn|hn
        ·exact ML n hn
        ·obtain ⟨x,hx,rfl⟩:=List.mem_map.1 (List.mem_of_mem_take hn);exact Ke.ME hH x hx)
       rw [← List.map_take] at wi
       have jK:(oS++(s.aa[k].ai.take (j+1)).map fun x=>x.At)=(oS++(s.aa[k].ai.take j).map fun x=>x.At)++[t]:=by
        rw [List.take_succ_eq_append_getElem kV,← ht,List.map_append,List.append_assoc]
        rfl
       have FY:t∈(oS++(s.aa[k].ai.take j).map fun x=>x.At)→g9 s=false:=fun h=>kf fun hm=>by
        have h1:=(hm.each k dk).aS j kV;rw [ht,v7] at h1;exact h1 h
       have go:t∉(oS++(s.aa[k].ai.take j).map fun x=>x.At) → ∀ (i:Nat) (h:i<s.aa[k].ai.length),i<j+1→s.aa[k].ai[i].At∉oS++(s.aa[k].ai.take i).map fun x=>x.At:=fun h1 i h h'=>by
        by_cases ei:i=j
        ·subst ei;rw [ht];exact h1
        ·exact hJ i h (by omega)
       obtain ⟨ac,xN⟩ : ∃ ac,(oS++(s.aa[k].ai.take j).map fun x=>x.At)=ac:=⟨_,rfl⟩;rw [xN] at hS wi jK FY go ⊢;refine Wz ?_
       refine CW.loop (fun i:Nat=>[(1,.pointer (some ⟨b1,0,none⟩)),(3,.slice A1 nl.length c1),(4,.slice A2 ac.length c2),(5,.int .i64 (k:Int)),(6,.pointer (some ⟨b6,0,none⟩)),(10,.int .i64 (j:Int)),(11,.int .i64 (i:Int))])
        (fun i w'=>i≤ac.length∧Ext w w'∧aJ w' b1 44 (aR r)∧aJ w' b6 89 (dh cs[k])∧Own w' w.heap.size 9 1 encStr A1 nl.length c1 nl∧Own w' w.heap.size 3 1 bd A2 ac.length c2 ac ∧ ∀ (m:Nat) (h:m<ac.length),m<i→ac[m]≠t) (fun i=>ac.length-i) 0
        ⟨rfl,rfl,rfl,rfl,rfl,rfl,rfl,trivial⟩ ⟨by omega,hw,aB,aw,hN,hS,fun m h h'=>by omega⟩ ?_
       clear hw aB hN hS aw;rintro i w' ⟨hi,hw,aB,aw,hN,hS,hM⟩
       have Jd:=hS.sl.base;by_cases cf:i<ac.length
       ·have gM:=hS.sl.one cf (u := .int .i64 ac[i]) rfl;by_cases hx:ac[i]=t
        ·rw [FY (hx ▸ List.getElem_mem cf)];repeat' (first|refine Wz ?_|((apply CW.aP mixed;(· kernel_rfl);rotate_left;intro w1 ab;replace hw:=Ext.trans hw ab;replace aB:=aB.ext ab;replace aw:=aw.ext ab;replace hN:=hN.ext ab;replace hS:=hS.ext ab;clear ab;rotate_right))|refine SW.st (ap hw rfl gT) rfl ?_|refine SW.st (ao rfl gM) rfl ?_|exact SW.bx rfl)
         all_goals try omega
         exact ae.aO rfl rfl ⟨_,rfl,hw,rfl⟩
        ·repeat' (first|refine Wz ?_|((apply CW.aP mixed;(· kernel_rfl);rotate_left;intro w1 ab;replace hw:=Ext.trans hw ab;replace aB:=aB.ext ab;replace aw:=aw.ext ab;replace hN:=hN.ext ab;replace hS:=hS.ext ab;clear ab;rotate_right))|refine SW.st (ap hw rfl gT) rfl ?_|refine SW.st (ao rfl gM) rfl ?_|exact SW.bx rfl)
         all_goals try omega
         exact ae.again (i+1) ⟨rfl,rfl,rfl,rfl,rfl,rfl,rfl,trivial⟩ (by omega) ⟨by omega,hw,aB,aw,hN,hS,fun m h h'=>by
          by_cases em:m=i
          ·subst em;exact hx
          ·exact hM m h (by omega)⟩
       ·have ug:t∉ac:=fun hm=>by
         obtain ⟨m,qx,qy⟩:=List.getElem_of_mem hm;exact hM m qx (by omega) qy
        repeat' (first|refine Wz ?_|refine SW.st (ap hw rfl gT) rfl ?_)
        refine SW.bK rfl rfl rfl rfl rfl fun b w1 ab hb hB => ?_
        (replace hw:=Ext.trans hw ab;replace aB:=aB.ext ab;replace aw:=aw.ext ab;replace hN:=hN.ext ab;replace hS:=hS.ext ab);refine SW.append hS (aJ.mo (enc:=bd) hB) hw.size rfl rfl rfl (by omega) (by omega) fun A3 c3 w2 Fa hg => ?_
        replace hw:=aF hw hg (Nat.le_refl _) hS.aM;replace aB:=aB.grown hg (fun e=>hS.dm aB rfl e.symm);replace aw:=aw.grown hg (fun e=>hS.dm aw rfl e.symm);replace hN:=hN.grown hg (hN.vQ hS rfl);refine Wz ?_;exact ae.again (j+1,A3,c3) ⟨rfl,rfl,by simp only [jK,List.length_append];rfl,rfl,rfl,rfl,trivial⟩ (by simp only;omega) ⟨by simp only;omega,hw,aB,aw,hN,by simp only [jK,List.length_append];exact Fa,go ug⟩
      ·rw [List.take_of_length_le (show s.aa[k].ai.length≤j by omega),← v7,← jD s.aa k dk] at hS ⊢;rw [← MM] at hN ⊢;refine Wz ?_
       exact ae.again (k+1,A1,c1,A2,c2) ⟨rfl,rfl,rfl,rfl,trivial⟩ (by simp only;omega) ⟨by simp only;omega,hw,aB,hN,hS,fun i h h'=>by
        simp only at h';by_cases ei:i=k
        ·subst ei;exact ⟨Ke,vt,Ha,fun i h=>by rw [v7];exact hJ i h (by omega)⟩
        ·exact hI i h (by omega)⟩
  ·rw [zd ⟨g1,hH,g3,fun i h=>hI i h (by omega)⟩];refine Wz ?_;exact ae.aO rfl rfl ⟨_,rfl,hw,rfl⟩
 ·have hF:g9 s=false:=kf fun hm=>tv ⟨hm.words,by rw [← hq];exact ph hm.heap,hm.most⟩
  rw [hF];cases q
  all_goals simp only [true_and,Bool.false_eq_true,false_and,and_false,not_false_eq_true] at tv
  ·rcases (show s.Words.length≠4096∨s.Words.length=4096 by omega) with g|g
   all_goals
    repeat' (first|refine Wz ?_|refine SW.skip rfl rfl rfl rfl ?_|refine SW.st (aW rfl rfl ((fY aB))) rfl ?_|(refine SW.call rfl rfl (c1 _ hw) ?_;intro v w1 ab hv;subst hv;replace hw:=Ext.trans hw ab;replace aB:=aB.ext ab;clear ab))
    all_goals try omega
    exact ae.aO rfl rfl ⟨_,rfl,hw,rfl⟩
  ·rcases (show s.Words.length≠4096∨(s.Words.length=4096∧20<s.aa.length) by omega) with g|g
   all_goals
    repeat' (first|refine Wz ?_|refine SW.want rfl rfl ?_|refine SW.st (aW rfl rfl ((fY aB))) rfl ?_|(refine SW.call rfl rfl (c1 _ hw) ?_;intro v w1 ab hv;subst hv;replace hw:=Ext.trans hw ab;replace aB:=aB.ext ab;clear ab))
    all_goals try omega
    exact ae.aO rfl rfl ⟨_,rfl,hw,rfl⟩
open Go.ChangeShapes Go.WideShapes Go.ChangeAt Go.RowKit Go.Deep Go.Joins
theorem own:ownKnob Tryz.prog.godebug=none:=by kernel_rfl
theorem laidOut:laidOutB Tryz.prog=true:=by kernel_rfl
theorem og {H:Type} {enc:TypeId×Value→H} {P:Program} (hl:laidOutB P=true) {W W':World} (hb:Below W.heap.size W W') :
 ∀ (ts:List TypeId) (vs:List Value) (ds:List (DataW H)) (ps:List MemPlace),(∀ t∈ts,P.readableRec t=true∧t<P.types.size) →
  DataW.TrodAll enc P W 0 (fun _=>true) true ts vs ds ps→(∀ x∈ps,x.block<W.heap.size)→DataW.TrodAll enc P W' 0 (fun b=>decide (b<W.heap.size)) true ts vs ds ps
 | [],[],[],_,_,h,_=>h
 | t::ts,v::vs,d::ds,ps,Je,h,de=>by
   obtain ⟨p,q,h1,h2,rfl⟩:=h
   exact ⟨p,q,Below.trod hl (Je t (by simp)).1 (Je t (by simp)).2 h1 hb (fun x hx=>de x (by simp [hx])),
    og hl hb ts vs ds q (fun u hu=>Je u (by simp [hu])) h2 (fun x hx=>de x (by simp [hx])),rfl⟩
 | [],_::_,_,_,_,h,_=>by simp [DataW.TrodAll] at h
 | [],[],_::_,_,_,h,_=>by simp [DataW.TrodAll] at h
 | _::_,[],_,_,_,h,_=>by simp [DataW.TrodAll] at h
 | _::_,_::_,[],_,_,h,_=>by simp [DataW.TrodAll] at h
theorem Bx {H:Type} {enc:TypeId×Value→H} {P:Program} {f:Func} {s:ChangeSpec} {MN:FuncId} {W:World} {args:Array Value} {ds gs:List (DataW H)} {before:List MemPlace} {tb:TypeId}
 (hl:laidOutB P=true) (Je:∀ t∈f.params.toList,P.readableRec t=true∧t<P.types.size) (hr:f.resultTypes = #[tb]) (hb:P.underlying tb=some .bool) (hv:s.vars=[])
 (Lu:(s.fn H (ds++[])).results=[.lit (.bool true)]∧(s.fn H (ds++[])).args=ds∧(s.fn H (ds++[])).vars=[])
 (hW:DataW.Whole enc P f.params.toList s.vars false W args.toList ds gs before) (h:bo P MN args.toList W fun v _=>v = .bool true) :
 Calls P MN args W fun e W' => ∃ v,e = .returned v∧s.post enc P f false true false false W args v W':=by
 have Jf:=hW;obtain ⟨p,q,hA,hV,rfl,_,_⟩:=hW;rw [hv] at hV;obtain ⟨rfl,rfl⟩:=trodVars_none hV;simp only [List.append_nil] at Jf;have de:∀ x∈p,x.block<W.heap.size:=fun x hx=>by simpa using Jf.lt x hx
 refine Calls.mono h.out ?_;rintro e W' ⟨v,rfl,hx,rfl⟩
 obtain ⟨s1,s2,s3⟩:=Lu;refine ⟨_,rfl,ds,[],p,[],p,[],Jf,?_,?_,?_,Below.frame hx _,fun h=>by cases h⟩
 ·rw [s1,hr];exact trodAll_mk1 (shut_bool hb true)
 ·rw [s2];exact og hl hx _ _ _ _ Je hA de
 ·rw [s3,hv]
  rfl
end Go.Proofs.YtbidkghlpijecaaGreatDoor
set_option maxRecDepth 100000
namespace Go.Proofs.YtbidkghlpijecaaGreatDoor
open Go.ChangeShapes Go.WideShapes Go.ChangeAt Go.RowKit Go.Deep Go.Joins
def tB (z:Int) : Prop := -9223372036854775808≤z∧z≤9223372036854775807
section
variable {H:Type} {enc:TypeId×Value→H} {W:World} {base:Nat} {spare:Nat→Bool} {held:Bool} {fuel:Nat} {cs:List Value} {x:DataW H×List MemPlace}
theorem in64_of_wf {z:Int} (h:(Lit.int .i64 z).wf=true) : tB z:=by
 have h1:IntKind.i64.min = -9223372036854775808:=rfl
 have h2:IntKind.i64.max=9223372036854775807:=rfl
 simp only [Lit.wf,Bool.and_eq_true,decide_eq_true_eq] at h;unfold tB;omega
theorem gv {t:TypeId} (ht:Tryz.prog.underlying t=some (.int .i64)) (h:DataW.trod enc Tryz.prog W base spare held fuel t cs=some x) : ∃ z:Int,cs=bd z∧tB z:=by
 obtain ⟨z,rfl,_,hw⟩:=DataW.trod_int ht h;exact ⟨z,rfl,in64_of_wf hw⟩
end
section
variable {H:Type} {P:Program}
theorem Hg {ts:List TypeId} {ds:List (DataW H)} (h:(DataW.weightsEach P ts ds).all (· ≤ reachBytes)=true) {j:Nat} {t:TypeId} {d:DataW H} (ht:ts[j]?=some t) (hd:ds[j]?=some d) : ∀ y∈d.weights P t,y≤reachBytes:=fun y hy=>by
 simpa using List.all_eq_true.1 h _ (DataW.weights_mem_each ht hd y hy)
theorem fe {t:TypeId} {fs:Array Field} {parts:List (DataW H)} (hu:P.underlying t=some (.struct fs)) {j:Nat} {tj:TypeId} {dj:DataW H} (ht:(fs.toList.map (·.type))[j]?=some tj) (hd:parts[j]?=some dj) (h:∀ y∈(DataW.agg parts).weights P t,y≤reachBytes) : ∀ y∈dj.weights P tj,y≤reachBytes:=fun y hy=>by
 apply h;simp only [DataW.weights,hu];exact DataW.weights_mem_each ht hd y hy
end
section
variable {H:Type} {enc:TypeId×Value→H} {W:World} {base:Nat} {spare:Nat→Bool} {held:Bool} {fuel:Nat} {cs:List Value} {x:DataW H×List MemPlace}
theorem Dp (h:DataW.trod enc Tryz.prog W base spare held fuel 165 cs=some x) : ∃ r:Block,cs=aA r∧True:=by
 obtain ⟨xs,n,_,_,hlen,jO,hf⟩:=DataW.trod_struct Tryz.underlying165 h;have hc:Tryz.prog.cellsOf 165=3:=by kernel_rfl
 have hi:Tryz.prog.cellsOf 3=1:=by kernel_rfl
 rw [hc] at hlen
 match cs,hlen with
 | [c0,c1,c2],_ =>
   match xs,jO with
   | [y0,y1,y2],_ =>
     have h0:DataW.trod enc Tryz.prog W base spare held n 3 (List.take (Tryz.prog.cellsOf 3) (List.drop 0 [c0,c1,c2]))=some y0:=hf 0 _ rfl
     have h1:DataW.trod enc Tryz.prog W base spare held n 3 (List.take (Tryz.prog.cellsOf 3) (List.drop 1 [c0,c1,c2]))=some y1:=hf 1 _ rfl
     have h2:DataW.trod enc Tryz.prog W base spare held n 3 (List.take (Tryz.prog.cellsOf 3) (List.drop 2 [c0,c1,c2]))=some y2:=hf 2 _ rfl
     rw [hi] at h0 h1 h2;obtain ⟨a,ha,wa⟩:=gv Tryz.underlying3 h0;obtain ⟨b,hb,wb⟩:=gv Tryz.underlying3 h1;obtain ⟨c,Cj,wc⟩:=gv Tryz.underlying3 h2;simp [bd] at ha hb Cj;subst ha hb Cj;exact ⟨⟨a,b,c⟩,rfl,trivial⟩
end
end Go.Proofs.YtbidkghlpijecaaGreatDoor
set_option maxRecDepth 100000
namespace Go.Proofs.YtbidkghlpijecaaGreatDoor
open Go.ChangeShapes Go.WideShapes Go.ChangeAt Go.RowKit Go.Deep Go.Joins
section
variable {H:Type} {enc:TypeId×Value→H} {W:World} {base:Nat} {spare:Nat→Bool} {held:Bool} {fuel:Nat} {cs:List Value} {x:DataW H×List MemPlace}
theorem nn {P:Program} {e:TypeId}:∀ {l:List (DataW H)} {d:DataW H},d∈l → ∀ n∈d.weights P e,n∈DataW.weightsAll P e l
 | a::r,d,h,n,hn=>by
   simp only [DataW.weightsAll,List.mem_append];rcases List.mem_cons.1 h with rfl|h
   ·exact .inl hn
   ·exact .inr (nn h n hn)
theorem rZ {α β:Type} {R : α → β → Prop}:∀ (l:List α),(∀ a∈l,∃ b,R a b) → ∃ bs:List β,eA R l bs
 | [],_=>⟨[],.nil⟩
 | a::r,h=>by
   obtain ⟨b,hb⟩:=h a (by simp);obtain ⟨bs,ua⟩:=rZ r (fun x hx=>h x (by simp [hx]));refine ⟨b::bs,by simp [ua.len],fun i h1 h2 => ?_⟩;cases i with
   | zero=>exact hb
   | succ i=>exact ua.get i (by simpa using h1) (by simpa using h2)
theorem fB {α:Type} {t e sz b:Nat} [S:bu Tryz.prog t e sz] (hc:Tryz.prog.cellsOf e=sz) (ue:Tryz.prog.bytesOf e=b) {en : α → List Value} {Good : α → Prop}
 (Al:∀ fuel cs x,DataW.trod enc Tryz.prog W base spare held fuel e cs=some x→(∀ y∈x.1.weights Tryz.prog e,y≤reachBytes) → ∃ a : α,cs=en a∧Good a) (h:DataW.trod enc Tryz.prog W base spare held fuel t cs=some x) (hw:∀ y∈x.1.weights Tryz.prog t,y≤reachBytes) :
 ∃ A n c l,cs=[.slice A n c]∧Sl W sz en A n l∧n*b≤140737488351232 ∧ ∀ a∈l,Good a:=by
 rcases open_slice S.j3 h with ⟨h1,h2⟩|⟨a,len,cap,m,k,D,Pl,h1,hb,hl,hm,J6,hx,hi⟩
 ·exact ⟨none,0,0,[],h1,Sl.eJ _ _ _ _,by simp,by simp⟩
 ·have Pz:len≤m:=by rw [J6];split<;>omega
  have jx:x.1 = .slice ((List.range len).map D) ((List.range (m-len)).map fun j=>D (len+j)):=by rw [hx]
  have Og:len*b≤140737488351232:=by
   have:=hw ((((List.range len).map D).length+((List.range (m-len)).map fun j=>D (len+j)).length)*Tryz.prog.bytesOf e) (by rw [jx];simp [DataW.weights,S.j3])
   rw [ue] at this;simp only [reachBytes] at this;refine Nat.le_trans (Nat.mul_le_mul_right _ ?_) this;simp
  have hex:∀ i,i<len → ∃ q : α,Good q ∧ ∀ j u,(en q)[j]?=some u→W.cell? ((a.add (i*sz)).add j)=some u:=fun i de=>by
   obtain ⟨cs',gG,ht⟩:=hi i (by omega)
   obtain ⟨q,rfl,hg⟩:=Al _ _ _ ht (fun y hy=>by
    apply hw;rw [jx];simp only [DataW.weights,S.j3,List.mem_cons,List.mem_append];exact .inr (.inl (nn (List.mem_map.2 ⟨i,by simpa using de,rfl⟩) y hy)))
   obtain ⟨_,Kk,qO⟩:=World.cells?_some gG;rw [hc] at Kk qO;refine ⟨q,hg,fun j u hu => ?_⟩
   have hj:j<(en q).length:=by
    rcases Nat.lt_or_ge j (en q).length with h|h
    ·exact h
    ·simp [List.getElem?_eq_none h] at hu
   rw [qO j (by omega)];exact hu
  by_cases h0:len=0
  ·subst h0;exact ⟨some a,0,cap,[],h1,Sl.eJ _ _ _ _,by simp,by simp⟩
  have Oh:∃ f:Nat → α,∀ i,i<len→Good (f i) ∧ ∀ j u,(en (f i))[j]?=some u→W.cell? ((a.add (i*sz)).add j)=some u:=by
   have cG:Nonempty α := ⟨(hex 0 (by omega)).choose⟩
   exact ⟨fun i=>if h:i<len then (hex i h).choose else Classical.choice cG,fun i h=>by simp only [h,dif_pos];exact (hex i h).choose_spec⟩
  obtain ⟨f,hf⟩:=Oh;refine ⟨some a,len,cap,(List.range len).map f,h1,⟨by simp,fun _=>rfl,fun i qa j u hu => ?_⟩,Og,?_⟩
  ·simp at qa;exact (hf i qa).2 j u (by simpa using hu)
  ·intro q hq;obtain ⟨i,qa,rfl⟩:=List.mem_map.1 hq;exact (hf i (by simpa using qa)).1
theorem pF {t:TypeId} (ht:Tryz.prog.underlying t=some (.int .i64)) : ∀ fuel cs x,DataW.trod enc Tryz.prog W base spare held fuel t cs=some x→(∀ y∈x.1.weights Tryz.prog t,y≤reachBytes) → ∃ z:Int,cs=bd z∧tB z:=fun _ _ _ h _=>gv ht h
theorem vg:∀ fuel cs x,DataW.trod enc Tryz.prog W base spare held fuel 165 cs=some x→(∀ y∈x.1.weights Tryz.prog 165,y≤reachBytes) → ∃ r:Block,cs=aA r∧True:=fun _ _ _ h _=>Dp h
def ar.oD (z:ar) : Prop:=tB z.aX∧tB z.To∧z.ag.length*24≤140737488351232∧z.Types.length*8≤140737488351232
theorem Dq:∀ fuel cs x,DataW.trod enc Tryz.prog W base spare held fuel 139 cs=some x→(∀ y∈x.1.weights Tryz.prog 139,y≤reachBytes) → ∃ r:cy,cs=bp r ∧ ∃ z:ar,uj W r z∧z.oD:=by
 intro fuel cs x h hw;obtain ⟨xs,n,_,rfl,hlen,jO,hf⟩:=DataW.trod_struct Tryz.underlying139 h;have hc:Tryz.prog.cellsOf 139=4:=by kernel_rfl
 have hi:Tryz.prog.cellsOf 3=1:=by kernel_rfl
 have Hh:Tryz.prog.cellsOf 39=1:=by kernel_rfl
 have Jg:Tryz.prog.cellsOf 36=1:=by kernel_rfl
 rw [hc] at hlen
 match cs,hlen with
 | [c0,c1,c2,c3],_ =>
   match xs,jO with
   | [y0,y1,y2,y3],_ =>
     have h0:DataW.trod enc Tryz.prog W base spare held n 3 (List.take (Tryz.prog.cellsOf 3) (List.drop 0 [c0,c1,c2,c3]))=some y0:=hf 0 _ rfl
     have h1:DataW.trod enc Tryz.prog W base spare held n 3 (List.take (Tryz.prog.cellsOf 3) (List.drop 1 [c0,c1,c2,c3]))=some y1:=hf 1 _ rfl
     have h2:DataW.trod enc Tryz.prog W base spare held n 39 (List.take (Tryz.prog.cellsOf 39) (List.drop 2 [c0,c1,c2,c3]))=some y2:=hf 2 _ rfl
     have h3:DataW.trod enc Tryz.prog W base spare held n 36 (List.take (Tryz.prog.cellsOf 36) (List.drop 3 [c0,c1,c2,c3]))=some y3:=hf 3 _ rfl
     rw [hi] at h0 h1;rw [Hh] at h2;rw [Jg] at h3;have w2:=fe Tryz.underlying139 (j:=2) rfl rfl hw;have w3:=fe Tryz.underlying139 (j:=3) rfl rfl hw;obtain ⟨a,ha,wa⟩:=gv Tryz.underlying3 h0;obtain ⟨b,hb,wb⟩:=gv Tryz.underlying3 h1;obtain ⟨A2,n2,k2,l2,e2,s2,b2,_⟩:=fB (t:=39) (b:=24) (by kernel_rfl) (by kernel_rfl) vg h2 w2;obtain ⟨A3,n3,k3,l3,e3,s3,b3,_⟩:=fB (t:=36) (b:=8) (by kernel_rfl) (by kernel_rfl) (pF Tryz.underlying3) h3 w3;simp [bd] at ha hb e2 e3;subst ha hb e2 e3;refine ⟨⟨a,b,⟨A2,n2,k2⟩,⟨A3,n3,k3⟩⟩,rfl,⟨a,b,l2,l3⟩,⟨rfl,rfl,s2,s3⟩,wa,wb,?_,?_⟩
     ·simp only [s2.len];exact b2
     ·simp only [s3.len];exact b3
theorem Dr:∀ fuel cs x,DataW.trod enc Tryz.prog W base spare held fuel 142 cs=some x→(∀ y∈x.1.weights Tryz.prog 142,y≤reachBytes) → ∃ r:bM,cs=bq r ∧ ∃ l:aC,FI W r l∧l.ax.length*8≤140737488351232:=by
 intro fuel cs x h hw;obtain ⟨xs,n,_,rfl,hlen,jO,hf⟩:=DataW.trod_struct Tryz.underlying142 h;have hc:Tryz.prog.cellsOf 142=4:=by kernel_rfl
 have hi:Tryz.prog.cellsOf 3=1:=by kernel_rfl
 have Jg:Tryz.prog.cellsOf 36=1:=by kernel_rfl
 rw [hc] at hlen
 match cs,hlen with
 | [c0,c1,c2,c3],_ =>
   match xs,jO with
   | [y0,y1,y2,y3],_ =>
     have h0:DataW.trod enc Tryz.prog W base spare held n 3 (List.take (Tryz.prog.cellsOf 3) (List.drop 0 [c0,c1,c2,c3]))=some y0:=hf 0 _ rfl
     have h1:DataW.trod enc Tryz.prog W base spare held n 3 (List.take (Tryz.prog.cellsOf 3) (List.drop 1 [c0,c1,c2,c3]))=some y1:=hf 1 _ rfl
     have h2:DataW.trod enc Tryz.prog W base spare held n 3 (List.take (Tryz.prog.cellsOf 3) (List.drop 2 [c0,c1,c2,c3]))=some y2:=hf 2 _ rfl
     have h3:DataW.trod enc Tryz.prog W base spare held n 36 (List.take (Tryz.prog.cellsOf 36) (List.drop 3 [c0,c1,c2,c3]))=some y3:=hf 3 _ rfl
     rw [hi] at h0 h1 h2;rw [Jg] at h3;have w3:=fe Tryz.underlying142 (j:=3) rfl rfl hw;obtain ⟨a,ha,wa⟩:=gv Tryz.underlying3 h0;obtain ⟨b,hb,wb⟩:=gv Tryz.underlying3 h1;obtain ⟨c,Cj,wc⟩:=gv Tryz.underlying3 h2;obtain ⟨A3,n3,k3,l3,e3,s3,b3,_⟩:=fB (t:=36) (b:=8) (by kernel_rfl) (by kernel_rfl) (pF Tryz.underlying3) h3 w3;simp [bd] at ha hb Cj e3;subst ha hb Cj e3;refine ⟨⟨a,b,c,⟨A3,n3,k3⟩⟩,rfl,⟨a,b,c,l3⟩,⟨rfl,rfl,rfl,s3⟩,?_⟩;simp only [s3.len];exact b3
structure Heap.oD (h:Heap) : Prop where
 small:h.small
 cQ:∀ z∈h.aQ,z.oD
theorem Ds:∀ fuel cs x,DataW.trod enc Tryz.prog W base spare held fuel 41 cs=some x→(∀ y∈x.1.weights Tryz.prog 41,y≤reachBytes) → ∃ r:eB,cs=bm r ∧ ∃ h:Heap,wI W r h∧h.oD:=by
 intro fuel cs x h hw;obtain ⟨xs,n,_,rfl,hlen,jO,hf⟩:=DataW.trod_struct Tryz.underlying41 h;have hc:Tryz.prog.cellsOf 41=5:=by kernel_rfl
 have hi:Tryz.prog.cellsOf 3=1:=by kernel_rfl
 have I9:Tryz.prog.cellsOf 36=1:=by kernel_rfl
 have Hh:Tryz.prog.cellsOf 37=1:=by kernel_rfl
 have Jg:Tryz.prog.cellsOf 38=1:=by kernel_rfl
 have Lv:Tryz.prog.cellsOf 39=1:=by kernel_rfl
 rw [hc] at hlen
 match cs,hlen with
 | [c0,c1,c2,c3,c4],_ =>
   match xs,jO with
   | [y0,y1,y2,y3,y4],_ =>
     have h0:DataW.trod enc Tryz.prog W base spare held n 37 (List.take (Tryz.prog.cellsOf 37) (List.drop 0 [c0,c1,c2,c3,c4]))=some y0:=hf 0 _ rfl
     have h1:DataW.trod enc Tryz.prog W base spare held n 36 (List.take (Tryz.prog.cellsOf 36) (List.drop 1 [c0,c1,c2,c3,c4]))=some y1:=hf 1 _ rfl
     have h2:DataW.trod enc Tryz.prog W base spare held n 3 (List.take (Tryz.prog.cellsOf 3) (List.drop 2 [c0,c1,c2,c3,c4]))=some y2:=hf 2 _ rfl
     have h3:DataW.trod enc Tryz.prog W base spare held n 38 (List.take (Tryz.prog.cellsOf 38) (List.drop 3 [c0,c1,c2,c3,c4]))=some y3:=hf 3 _ rfl
     have h4:DataW.trod enc Tryz.prog W base spare held n 39 (List.take (Tryz.prog.cellsOf 39) (List.drop 4 [c0,c1,c2,c3,c4]))=some y4:=hf 4 _ rfl
     rw [Hh] at h0;rw [I9] at h1;rw [hi] at h2;rw [Jg] at h3;rw [Lv] at h4;have w0:=fe Tryz.underlying41 (j:=0) rfl rfl hw;have w1:=fe Tryz.underlying41 (j:=1) rfl rfl hw;have w3:=fe Tryz.underlying41 (j:=3) rfl rfl hw;have w4:=fe Tryz.underlying41 (j:=4) rfl rfl hw;obtain ⟨A0,n0,k0,l0,e0,s0,b0,g0⟩:=fB (t:=37) (b:=64) (by kernel_rfl) (by kernel_rfl) Dq h0 w0;obtain ⟨A1,n1,k1,l1,e1,s1,b1,_⟩:=fB (t:=36) (b:=8) (by kernel_rfl) (by kernel_rfl) (pF Tryz.underlying3) h1 w1;obtain ⟨b,hb,wb⟩:=gv Tryz.underlying3 h2;obtain ⟨A3,n3,k3,l3,e3,s3,b3,g3⟩:=fB (t:=38) (b:=48) (by kernel_rfl) (by kernel_rfl) Dr h3 w3;obtain ⟨A4,n4,k4,l4,e4,s4,b4,_⟩:=fB (t:=39) (b:=24) (by kernel_rfl) (by kernel_rfl) vg h4 w4;obtain ⟨Z,hZ⟩:=rZ l0 g0;obtain ⟨L,hL⟩:=rZ l3 g3;simp [bd] at e0 e1 hb e3 e4;subst e0 e1 hb e3 e4;refine ⟨⟨⟨A0,n0,k0⟩,⟨A1,n1,k1⟩,b,⟨A3,n3,k3⟩,⟨A4,n4,k4⟩⟩,rfl,⟨Z,l1,b,L,l4⟩,⟨rfl,s1,s4,⟨l0,s0,hZ.mono fun _ _ h=>h.1⟩,⟨l3,s3,hL.mono fun _ _ h=>h.1⟩⟩,⟨?_,?_,?_,?_,?_,?_⟩,?_⟩
     ·simp only [← hZ.len,s0.len];omega
     ·simp only [s1.len];omega
     ·simp only [← hL.len,s3.len];omega
     ·simp only [s4.len];omega
     ·intro z hz;obtain ⟨i,hi,rfl⟩:=List.getElem_of_mem hz;have:=(hZ.get i (by have:=hZ.len;simp only at hi;omega) hi).2
      exact ⟨by have:=this.2.2.1;simp only at this ⊢;omega,by have:=this.2.2.2;simp only at this ⊢;omega⟩
     ·intro z hz;obtain ⟨i,hi,rfl⟩:=List.getElem_of_mem hz;have:=(hL.get i (by have:=hL.len;simp only at hi;omega) hi).2
      simp only at this ⊢;omega
     ·intro z hz;obtain ⟨i,hi,rfl⟩:=List.getElem_of_mem hz;exact (hZ.get i (by have:=hZ.len;simp only at hi;omega) hi).2
end
end Go.Proofs.YtbidkghlpijecaaGreatDoor
set_option maxRecDepth 100000
namespace Go.Proofs.YtbidkghlpijecaaGreatDoor
open Go.ChangeShapes Go.WideShapes Go.ChangeAt Go.RowKit Go.Deep Go.Joins
section
variable {H:Type} {enc:TypeId×Value→H} {W:World} {base:Nat} {spare:Nat→Bool} {held:Bool} {fuel:Nat} {cs:List Value} {x:DataW H×List MemPlace}
theorem Aw {α:Type} {t e sz:Nat} [S:bu Tryz.prog t e sz] {x:DataW H×List MemPlace} {A:Option Addr} {n c:Nat} (h:DataW.trod enc Tryz.prog W base spare held fuel t cs=some x) (gG:cs=[.slice A n c]) : n≤c:=by
 rcases open_slice S.j3 h with ⟨h1,h2⟩|⟨a,len,cap,m,k,D,Pl,h1,hb,hl,hm,J6,hx,hi⟩
 ·rw [gG] at h1;simp at h1;omega
 ·rw [gG] at h1;simp at h1;omega
theorem Fb:∀ fuel cs x,DataW.trod enc Tryz.prog W base spare held fuel 9 cs=some x→(∀ y∈x.1.weights Tryz.prog 9,y≤reachBytes) → ∃ s:ByteArray,cs=encStr s∧s.size≤140737488351232:=by
 intro fuel cs x h hw;obtain ⟨s,rfl,rfl,_⟩:=DataW.trod_string Tryz.underlying9 h;refine ⟨s,rfl,?_⟩;have:=hw s.data.toList.length (by simp [DataW.weights])
 simp only [reachBytes] at this;simpa using this
theorem Dt:∀ fuel cs x,DataW.trod enc Tryz.prog W base spare held fuel 91 cs=some x→(∀ y∈x.1.weights Tryz.prog 91,y≤reachBytes) → ∃ r:Slab,cs=aY r∧tB r.At:=by
 intro fuel cs x h _;obtain ⟨xs,n,_,_,hlen,jO,hf⟩:=DataW.trod_struct Tryz.underlying91 h;have hc:Tryz.prog.cellsOf 91=3:=by kernel_rfl
 have hi:Tryz.prog.cellsOf 3=1:=by kernel_rfl
 rw [hc] at hlen
 match cs,hlen with
 | [c0,c1,c2],_ =>
   match xs,jO with
   | [y0,y1,y2],_ =>
     have h0:DataW.trod enc Tryz.prog W base spare held n 3 (List.take (Tryz.prog.cellsOf 3) (List.drop 0 [c0,c1,c2]))=some y0:=hf 0 _ rfl
     have h1:DataW.trod enc Tryz.prog W base spare held n 3 (List.take (Tryz.prog.cellsOf 3) (List.drop 1 [c0,c1,c2]))=some y1:=hf 1 _ rfl
     have h2:DataW.trod enc Tryz.prog W base spare held n 3 (List.take (Tryz.prog.cellsOf 3) (List.drop 2 [c0,c1,c2]))=some y2:=hf 2 _ rfl
     rw [hi] at h0 h1 h2;obtain ⟨a,ha,wa⟩:=gv Tryz.underlying3 h0;obtain ⟨b,hb,wb⟩:=gv Tryz.underlying3 h1;obtain ⟨c,Cj,wc⟩:=gv Tryz.underlying3 h2;simp [bd] at ha hb Cj;subst ha hb Cj;exact ⟨⟨a,b,c⟩,rfl,wa⟩
structure bf.oD (c:bf) : Prop where
 small:c.small
 size:tB c.bg∧tB c.cm∧tB c.Order
 names:∀ s∈c.Names,s.size≤140737488351232
 aS:∀ x∈c.ai,tB x.At
theorem By:∀ fuel cs x,DataW.trod enc Tryz.prog W base spare held fuel 89 cs=some x→(∀ y∈x.1.weights Tryz.prog 89,y≤reachBytes) → ∃ r:dr,cs=dh r ∧ ∃ c:bf,Cf W r c∧c.oD:=by
 intro fuel cs x h hw;obtain ⟨xs,n,_,rfl,hlen,jO,hf⟩:=DataW.trod_struct Tryz.underlying89 h;have hc:Tryz.prog.cellsOf 89=6:=by kernel_rfl
 have hi:Tryz.prog.cellsOf 3=1:=by kernel_rfl
 have I8:Tryz.prog.cellsOf 61=1:=by kernel_rfl
 have Lv:Tryz.prog.cellsOf 87=1:=by kernel_rfl
 have Oi:Tryz.prog.cellsOf 36=1:=by kernel_rfl
 rw [hc] at hlen
 match cs,hlen with
 | [c0,c1,c2,c3,c4,c5],_ =>
   match xs,jO with
   | [y0,y1,y2,y3,y4,y5],_ =>
     have h0:DataW.trod enc Tryz.prog W base spare held n 61 (List.take (Tryz.prog.cellsOf 61) (List.drop 0 [c0,c1,c2,c3,c4,c5]))=some y0:=hf 0 _ rfl
     have h1:DataW.trod enc Tryz.prog W base spare held n 3 (List.take (Tryz.prog.cellsOf 3) (List.drop 1 [c0,c1,c2,c3,c4,c5]))=some y1:=hf 1 _ rfl
     have h2:DataW.trod enc Tryz.prog W base spare held n 3 (List.take (Tryz.prog.cellsOf 3) (List.drop 2 [c0,c1,c2,c3,c4,c5]))=some y2:=hf 2 _ rfl
     have h3:DataW.trod enc Tryz.prog W base spare held n 3 (List.take (Tryz.prog.cellsOf 3) (List.drop 3 [c0,c1,c2,c3,c4,c5]))=some y3:=hf 3 _ rfl
     have h4:DataW.trod enc Tryz.prog W base spare held n 87 (List.take (Tryz.prog.cellsOf 87) (List.drop 4 [c0,c1,c2,c3,c4,c5]))=some y4:=hf 4 _ rfl
     have h5:DataW.trod enc Tryz.prog W base spare held n 36 (List.take (Tryz.prog.cellsOf 36) (List.drop 5 [c0,c1,c2,c3,c4,c5]))=some y5:=hf 5 _ rfl
     rw [I8] at h0;rw [hi] at h1 h2 h3;rw [Lv] at h4;rw [Oi] at h5;have w0:=fe Tryz.underlying89 (j:=0) rfl rfl hw;have w4:=fe Tryz.underlying89 (j:=4) rfl rfl hw;have w5:=fe Tryz.underlying89 (j:=5) rfl rfl hw;obtain ⟨A0,n0,k0,l0,e0,s0,b0,g0⟩:=fB (t:=61) (b:=16) (by kernel_rfl) (by kernel_rfl) Fb h0 w0;obtain ⟨a,ha,wa⟩:=gv Tryz.underlying3 h1;obtain ⟨b,hb,wb⟩:=gv Tryz.underlying3 h2;obtain ⟨c,Cj,wc⟩:=gv Tryz.underlying3 h3;obtain ⟨A4,n4,k4,l4,e4,s4,b4,g4⟩:=fB (t:=87) (b:=24) (by kernel_rfl) (by kernel_rfl) Dt h4 w4;obtain ⟨A5,n5,k5,l5,e5,s5,b5,_⟩:=fB (t:=36) (b:=8) (by kernel_rfl) (by kernel_rfl) (pF Tryz.underlying3) h5 w5;have kc:=Aw (α := Int) h5 e5;simp [bd] at e0 ha hb Cj e4 e5;subst e0 ha hb Cj e4 e5;refine ⟨⟨⟨A0,n0,k0⟩,a,b,c,⟨A4,n4,k4⟩,⟨A5,n5,k5⟩⟩,rfl,⟨l0,a,b,c,l4,l5⟩,⟨rfl,rfl,rfl,s0,s4,s5,kc⟩,⟨?_,?_,?_⟩,⟨wa,wb,wc⟩,g0,g4⟩
     ·simp only [s0.len];omega
     ·simp only [s4.len];omega
     ·simp only [s5.len];omega
structure aE.oD (s:aE) : Prop where
 small:s.small
 heap:s.Heap.oD
 dn:∀ c∈s.aa,c.oD
theorem zo:∀ fuel cs x,DataW.trod enc Tryz.prog W base spare held fuel 44 cs=some x→(∀ y∈x.1.weights Tryz.prog 44,y≤reachBytes) → ∃ r:dQ,cs=aR r ∧ ∃ s:aE,qR W r s∧s.oD:=by
 intro fuel cs x h hw;obtain ⟨xs,n,_,rfl,hlen,jO,hf⟩:=DataW.trod_struct Tryz.underlying44 h;have hc:Tryz.prog.cellsOf 44=7:=by kernel_rfl
 have I8:Tryz.prog.cellsOf 36=1:=by kernel_rfl
 have I9:Tryz.prog.cellsOf 41=5:=by kernel_rfl
 have Hh:Tryz.prog.cellsOf 42=1:=by kernel_rfl
 rw [hc] at hlen
 match cs,hlen with
 | [c0,c1,c2,c3,c4,c5,c6],_ =>
   match xs,jO with
   | [y0,y1,y2],_ =>
     have h0:DataW.trod enc Tryz.prog W base spare held n 36 (List.take (Tryz.prog.cellsOf 36) (List.drop 0 [c0,c1,c2,c3,c4,c5,c6]))=some y0:=hf 0 _ rfl
     have h1:DataW.trod enc Tryz.prog W base spare held n 41 (List.take (Tryz.prog.cellsOf 41) (List.drop 1 [c0,c1,c2,c3,c4,c5,c6]))=some y1:=hf 1 _ rfl
     have h2:DataW.trod enc Tryz.prog W base spare held n 42 (List.take (Tryz.prog.cellsOf 42) (List.drop 6 [c0,c1,c2,c3,c4,c5,c6]))=some y2:=hf 2 _ rfl
     rw [I8] at h0;rw [I9] at h1;rw [Hh] at h2;have w0:=fe Tryz.underlying44 (j:=0) rfl rfl hw;have w1:=fe Tryz.underlying44 (j:=1) rfl rfl hw;have w2:=fe Tryz.underlying44 (j:=2) rfl rfl hw;obtain ⟨A0,n0,k0,l0,e0,s0,b0,_⟩:=fB (t:=36) (b:=8) (by kernel_rfl) (by kernel_rfl) (pF Tryz.underlying3) h0 w0;obtain ⟨hr,e1,hh,hR,hG⟩:=Ds _ _ _ h1 w1;obtain ⟨A2,n2,k2,l2,e2,s2,b2,g2⟩:=fB (t:=42) (b:=96) (by kernel_rfl) (by kernel_rfl) By h2 w2;obtain ⟨C,hC⟩:=rZ l2 g2;have kc:=Aw (α := dr) h2 e2;simp [bm] at e0 e1 e2;obtain ⟨Oj,Ok,Ol,Om,On⟩:=e1;subst e0 Oj Ok Ol Om On e2;refine ⟨⟨⟨A0,n0,k0⟩,hr,⟨A2,n2,k2⟩⟩,rfl,⟨l0,hh,C⟩,⟨s0,hR,⟨l2,s2,hC.mono fun _ _ h=>h.1,kc⟩⟩,⟨?_,hG.small,?_,?_⟩,hG,?_⟩
     ·simp only [s0.len];omega
     ·simp only [← hC.len,s2.len];omega
     ·intro z hz;obtain ⟨i,hi,rfl⟩:=List.getElem_of_mem hz;exact (hC.get i (by have:=hC.len;simp only at hi;omega) hi).2.small
     ·intro z hz;obtain ⟨i,hi,rfl⟩:=List.getElem_of_mem hz;exact (hC.get i (by have:=hC.len;simp only at hi;omega) hi).2
theorem xO {r:Reach} {b0:Nat} {v:Value} {d:DataW H} {p:List MemPlace} (hv:Value.okWide Tryz.prog W r b0 44 v) (h:DataW.Trod enc Tryz.prog W base spare held 44 v d p) (hw:∀ y∈d.weights Tryz.prog 44,y≤reachBytes) :
 ∃ (r:dQ) (s:aE),v = .agg (aR r).toArray∧qR W r s∧s.oD:=by
 obtain ⟨cs,rfl,vt⟩:=okWide_struct Tryz.underlying44 hv;obtain ⟨fuel,hf⟩:=h;obtain ⟨r,hr,hh,h1,h2⟩:=zo _ _ _ hf hw;refine ⟨r,hh,?_,h1,h2⟩;have:cs.toList=aR r:=hr
 rw [← this]
end
open Go.RowKit
theorem aE.oD.kh {s:aE} (h:s.oD) : s.kh :=
 ⟨h.small,fun z hz=>⟨(h.heap.cQ z hz).1,(h.heap.cQ z hz).2.1⟩,fun c hc x hx=>(h.dn c hc).aS x hx,fun c hc n hn=>(h.dn c hc).names n hn⟩
open Go.RowKit
theorem rG (A:Option Addr) (n c:Nat) (l:List ByteArray) (x:ByteArray) (w:World) (hl:Sl w 1 encStr A n l) (hn:n≤9223372036854775807) :
 bo Tryz.prog 188 [.slice A n c,.string x] w fun v _ => ∃ i:Int,v = .int .i64 i∧decide (0≤i)=ux l x:=by
 refine aI Tryz.func188 rfl Tryz.ntmps188 rfl ?_;have hw:=Ext.refl w;have hA:=hl.base;have mn:=hl.len;refine Wz ?_
 refine CW.loop (fun k:Nat=>[(0,.slice A n c),(1,.string x),(7,.int .i64 (n:Int)),(8,.int .i64 (k:Int))]) (fun k w'=>k≤n∧Ext w w' ∧ ∀ (i:Nat) (h:i<l.length),i<k→l[i]≠x)
  (fun k=>n-k) 0 ⟨rfl,rfl,rfl,rfl,trivial⟩ ⟨by omega,hw,fun i h hi=>by omega⟩ ?_
 clear hw;rintro k w' ⟨hk,hw,hI⟩
 by_cases cb:k<n
 ·by_cases hx:x=l[k]
  ·repeat' (first|refine Wz ?_|refine SW.st (ap hw rfl (hl.one cb rfl)) rfl ?_|(refine SW.st ((iE rfl rfl).eq (congrArg Value.bool (decide_eq_true hx))) rfl ?_))
   refine ae.aO rfl rfl ⟨_,rfl,hw,_,rfl,?_⟩;rw [kg.2 (hx ▸ List.getElem_mem (hl.lt cb))];simp
  ·repeat' (first|refine Wz ?_|refine SW.st (ap hw rfl (hl.one cb rfl)) rfl ?_|(refine SW.st ((iE rfl rfl).eq (congrArg Value.bool (decide_eq_false hx))) rfl ?_))
   refine ae.again (k+1) ⟨rfl,rfl,rfl,rfl,trivial⟩ (by omega) ⟨by omega,hw,fun i h' hi => ?_⟩;by_cases z7:i=k
   ·subst z7;exact fun e=>hx e.symm
   ·exact hI i h' (by omega)
 ·refine Wz ?_;refine ae.aO rfl rfl ⟨_,rfl,hw,_,rfl,?_⟩
  have hx:ux l x=false:=by
   cases e:ux l x
   ·rfl
   ·obtain ⟨i,hi,e⟩:=List.getElem_of_mem (kg.1 e);exact absurd e (hI i hi (by omega))
  rw [hx];simp
theorem oI (A:Option Addr) (n c:Nat) (l:List ByteArray) (x:ByteArray) (w:World) (hl:Sl w 1 encStr A n l) (hn:n≤9223372036854775807) :
 bo Tryz.prog 98 [.slice A n c,.string x] w fun v _=>v = .bool (ux l x):=by
 refine aI Tryz.func98 rfl Tryz.ntmps98 rfl ?_;have hw:=Ext.refl w;refine Wz ?_;refine SW.call rfl rfl (rG _ _ _ _ _ _ (hl.ext hw) hn) fun v w1 ab hv => ?_
 obtain ⟨i,rfl,hi⟩:=hv;replace hw:=Ext.trans hw ab;refine Wz ?_;exact ae.aO rfl rfl ⟨_,rfl,hw,by rw [hi]⟩
theorem xP {α β:Type} {p : α → Bool} {q : β → Bool} {l:List α} {m:List β} (hl:l.length=m.length) (h:∀ (k:Nat) (h1:k<l.length) (h2:k<m.length),p l[k]=q m[k]) : idxOf p l=idxOf q m∧l.any p=m.any q:=by
 have e:l.map p=m.map q:=List.ext_getElem (by simp [hl]) fun k h1 h2=>by simpa using h k (by simpa using h1) (by simpa using h2)
 have a1:l.any p=m.any q:=by
  have x1:(l.map p).any id=l.any p:=by rw [List.any_map];rfl
  have x2:(m.map q).any id=m.any q:=by rw [List.any_map];rfl
  rw [← x1,← x2,e]
 have a2:l.findIdx p=m.findIdx q:=by
  have x1:(l.map p).findIdx id=l.findIdx p:=by rw [List.findIdx_map];rfl
  have x2:(m.map q).findIdx id=m.findIdx q:=by rw [List.findIdx_map];rfl
  rw [← x1,← x2,e]
 unfold idxOf;rw [a1,a2];exact ⟨rfl,rfl⟩
theorem zp {w:World} {A:Option Addr} {n:Nat} {l l':List ByteArray} (h:Sl w 1 encStr A n l) (h':Sl w 1 encStr A n l') : l=l':=by
 have e1:=h.len;have e2:=h'.len;refine List.ext_getElem (by omega) fun k h1 h2 => ?_
 have a:=h.one (i:=k) (by omega) (u := .string l[k]) rfl;have b:=h'.one (i:=k) (by omega) (u := .string l'[k]) rfl;rw [a] at b;simpa using b
theorem Bz (w:World) (n:ByteArray) : ∃ p:dr→Bool,∀ x c,Cf w x c→p x=ja n c:=by
 classical
 refine ⟨fun x=>decide (∃ c,Cf w x c∧ja n c=true),fun x c h => ?_⟩;cases e:ja n c
 ·refine decide_eq_false ?_;rintro ⟨c',h',e'⟩
  unfold ja at e e';rw [zp h'.names h.names,e] at e';cases e'
 ·exact decide_eq_true ⟨c,h,e⟩
theorem zq (x:dr) (c:bf) (b3:Nat) (n:ByteArray) (w:World) (h3:aJ w b3 9 [.string n]) (hx:Cf w x c) (hn:x.Names.n≤9223372036854775807) :
 bo Tryz.prog 204 ([.agg (dh x).toArray]++[.pointer (some ⟨b3,0,none⟩)]) w fun v _=>v = .bool (ja n c):=by
 refine aI Tryz.func204 rfl Tryz.ntmps204 rfl ?_;refine CW.seq (CW.region (SW.box rfl rfl fun b1 w1 hw gV aB => ?_));replace h3:=h3.ext hw;have IX:=h3.cell (i:=0) (v := .string n) rfl;rw [add_zero] at IX;repeat' (first|refine Wz ?_|refine SW.st (ao rfl IX) rfl ?_|(refine SW.call rfl rfl (oI _ _ _ _ _ _ (hx.names.ext hw) hn) ?_;intro v w1 ab hv;subst hv;replace hw:=Ext.trans hw ab;replace aB:=aB.ext ab;clear ab))
 exact ae.aO rfl rfl ⟨_,rfl,hw,rfl⟩
theorem BA (r:dQ) (s:aE) (n:ByteArray) (w:World) (hr:qR w r s) (hs:s.small) :
 bo Tryz.prog 136 [.agg (aR r).toArray,.string n] w fun v _=>v = .tuple #[.int .i64 (idxOf (ja n) s.aa),.bool (s.aa.any (ja n))]:=by
 refine aI Tryz.func136 rfl Tryz.ntmps136 rfl ?_;obtain ⟨cs,hc⟩:=hr.dn;obtain ⟨z1,z2⟩:=hc.len;have m3:=hs.dn;obtain ⟨p,hp⟩:=Bz w n;have Jh:=xP (p:=p) (q:=ja n) (l:=cs) (m:=s.aa) (by omega) fun k h1 h2=>hp _ _ (hc.each.get k h1 h2)
 refine CW.seq (CW.region (SW.box rfl rfl fun b2 w1 hw g7 aL => ?_));refine SW.ED rfl rfl rfl fun b3 w2 cq bH aq => ?_
 (replace hw:=Ext.trans hw cq;replace aL:=aL.ext cq);repeat' (first|refine Wz ?_|(refine SW.st (iz (vs:=[.pointer (some ⟨b3,0,none⟩)]) rfl) rfl ?_))
 refine SW.call rfl rfl (kI _ _ _ _ _ (hc.row.ext hw) _ [.pointer (some ⟨b3,0,none⟩)] p (fun x => .agg (dh x).toArray) (fun x=>rfl) (fun x hx w1 jx=>by
  obtain ⟨k,hk,rfl⟩:=List.getElem_of_mem hx;have oR:k<s.aa.length:=by omega
  have gn:=hc.each.get k hk oR;have q1:=(hs.each _ (List.getElem_mem oR)).names;have q2:=gn.names.len;rw [hp _ _ gn];exact zq _ _ b3 n w1 (aq.ext jx) (gn.ext (Ext.trans hw jx)) (by omega)) (by omega)) fun v w4 iK hv => ?_
 subst hv;rw [Jh.1];replace hw:=Ext.trans hw iK;have ym:=iC (ja n) s.aa;refine Wz ?_;all_goals exact ae.cx rfl rfl rfl ⟨_,rfl,hw,by rw [ym]⟩
theorem kO (r:dQ) (s:aE) (n:ByteArray) (w:World) (hr:qR w r s) (hs:s.small) :
 bo Tryz.prog 118 [.agg (aR r).toArray,.string n] w fun v _=>v = .int .i64 (idxOf (ja n) s.aa):=by
 refine aI Tryz.func118 rfl Tryz.ntmps118 rfl ?_;refine CW.seq (CW.region (SW.box rfl rfl fun b2 w1 hw g7 aL => ?_));obtain ⟨cs,hc⟩:=hr.dn;obtain ⟨z1,z2⟩:=hc.len;have m3:=hs.dn;refine Wz ?_
 refine CW.loop (fun k:Nat=>[(1,.string n),(2,.pointer (some ⟨b2,0,none⟩)),(5,.int .i64 (k:Int))])
  (fun k w'=>k≤r.aa.n∧Ext w w'∧aJ w' b2 44 (aR r) ∧ ∀ (j:Nat) (hj:j<s.aa.length),j<k→ja n s.aa[j]=false) (fun k=>r.aa.n-k) 0
  ⟨rfl,rfl,rfl,trivial⟩ ⟨by omega,hw,aL,fun j hj h=>by omega⟩ ?_
 clear hw aL;rintro i w' ⟨hk,hw,aL,hI⟩
 have hA:=hc.row.base;by_cases cf:i<r.aa.n
 ·have jE:i<cs.length:=by omega
  have kK:i<s.aa.length:=by omega
  have gn:=hc.each.get i jE kK;have sm:=(hs.each _ (List.getElem_mem kK)).names;have q1:=gn.names.len;have g0:=hc.row.dA cf (j:=0) (u := .slice cs[i].Names.A cs[i].Names.n cs[i].Names.c) rfl;refine Wz ?_
  refine CW.loop (fun k:Nat=>[(1,.string n),(2,.pointer (some ⟨b2,0,none⟩)),(5,.int .i64 (i:Int)),(6,.int .i64 (k:Int))])
   (fun k w'=>k≤cs[i].Names.n∧Ext w w'∧aJ w' b2 44 (aR r) ∧ ∀ (j:Nat) (hj:j<s.aa[i].Names.length),j<k→s.aa[i].Names[j]≠n) (fun k=>cs[i].Names.n-k) 0
   ⟨rfl,rfl,rfl,rfl,trivial⟩ ⟨by omega,hw,aL,fun j hj h=>by omega⟩ ?_
  clear hw aL;rintro k w' ⟨hk,hw,aL,hJ⟩
  have rX:=gn.names.base;by_cases cb:k<cs[i].Names.n
  ·have dk:k<s.aa[i].Names.length:=by omega
   by_cases he:s.aa[i].Names[k]=n
   ·have hh:ja n s.aa[i]=true:=kg.2 (he ▸ List.getElem_mem dk)
    repeat' (first|refine Wz ?_|refine SW.st (ap hw rfl g0) rfl ?_|refine SW.st (ap hw rfl (gn.names.one cb rfl)) rfl ?_|(refine SW.st ((iE rfl rfl).eq (congrArg Value.bool (decide_eq_true he))) rfl ?_))
    exact ae.aO rfl rfl ⟨_,rfl,hw,by rw [ib kK hh hI]⟩
   ·repeat' (first|refine Wz ?_|refine SW.st (ap hw rfl g0) rfl ?_|refine SW.st (ap hw rfl (gn.names.one cb rfl)) rfl ?_|(refine SW.st ((iE rfl rfl).eq (congrArg Value.bool (decide_eq_false he))) rfl ?_))
    exact ae.again (k+1) ⟨rfl,rfl,rfl,rfl,trivial⟩ (by omega) ⟨by omega,hw,aL,fun j hj h=>by
     by_cases e:j=k
     ·subst e;exact he
     ·exact hJ j hj (by omega)⟩
  ·have hh:ja n s.aa[i]=false:=by
    cases e:ja n s.aa[i]
    ·rfl
    ·obtain ⟨j,hj,e⟩:=List.getElem_of_mem (kg.1 e);exact absurd e (hJ j hj (by omega))
   repeat' (first|refine Wz ?_|refine SW.st (ap hw rfl g0) rfl ?_)
   exact ae.again (i+1) ⟨rfl,rfl,rfl,trivial⟩ (by omega) ⟨by omega,hw,aL,fun j hj h=>by
    by_cases e:j=i
    ·subst e;exact hh
    ·exact hI j hj (by omega)⟩
 ·refine Wz ?_;exact ae.aO rfl rfl ⟨_,rfl,hw,by rw [(fq (fun j hj=>hI j hj (by omega))).1]⟩
open Go.RowKit
theorem qz:∀ (vs X Y Z:List Value),vs.length=Y.length→setAt (X++Y++Z) X.length vs=X++vs++Z
 | [],X,Y,Z,h=>by
   have:Y=[]:=List.length_eq_zero_iff.1 (by simpa using h.symm)
   subst this;rfl
 | v::r,X,[],Z,h=>by simp at h
 | v::r,X,y::Y,Z,h=>by
   have e:=qz r (X++[v]) Y Z (by simpa using h);simp only [List.length_append,List.length_singleton] at e;simp only [setAt]
   have e2:(X++(y::Y)++Z).set X.length v=X++[v]++Y++Z:=by
    rw [List.append_assoc,List.set_append_right _ _ (Nat.le_refl _)];simp
   rw [e2,e];simp
theorem Du {sz:Nat} {u v:Value} {cs ds Z:List Value} (hu:u.cells.toList=cs) (hv:v.cells.toList=ds) (hc:cs.length=sz) (hd:ds.length=sz) (hZ:Z.length=2*sz) :
 Instr.fill (fun i=>some (i*sz,sz)) Z.toArray [(0,u),(1,v)]=some (cs++ds).toArray:=by
 have h1:u.cells.size=sz:=by rw [← Array.length_toList,hu,hc]
 have h2:v.cells.size=sz:=by rw [← Array.length_toList,hv,hd]
 have eZ:Z=[]++Z.take sz++Z.drop sz:=by simp
 have s1:setAt Z 0 cs=cs++Z.drop sz:=by
  have:=qz cs [] (Z.take sz) (Z.drop sz) (by simp;omega)
  rw [← eZ] at this;simpa using this
 have s2:setAt (cs++Z.drop sz) sz ds=cs++ds:=by
  have:=qz ds cs (Z.drop sz) [] (by simp;omega)
  rw [List.append_nil,hc] at this;simpa using this
 have fold:∀ (x:Value) (off:Nat) (X:List Value),Array.foldl (fun (cs:Array Value) (p:Value×Nat)=>cs.setIfInBounds (off+p.2) p.1) X.toArray x.cells.zipIdx=(setAt X off x.cells.toList).toArray:=fun x off X=>by
  have:=ot x.cells.toList 0 off X
  rw [Nat.add_zero] at this;rw [← this,← Array.foldl_toList];simp [Array.toList_zipIdx]
 simp only [Instr.fill];rw [if_neg (by simp;omega)];have f1:=fold u (0*sz) Z;rw [hu,Nat.zero_mul,s1] at f1;have f2:=fold v (1*sz) (cs++Z.drop sz);rw [hv,Nat.one_mul,s2] at f2;simp only [Nat.zero_mul,Nat.one_mul] at f1 f2 ⊢;simp only [f1,f2];rw [if_neg (by simp;omega)]
theorem SW.wj {α:Type} {P:Program} {n:Nat} {ops:Array Oper} {Q:Exit→Act→World→Prop} {rest:List Oper} {L:Env} {w:World} {d:Nat} {T:TypeId} {pos:String} {af:Array Edge} {t e:TypeId} {z:Value} {sz bytes:Nat} {enc : α → List Value}
 [S:bu P t e sz] [E:df P e z sz bytes] [C:fw enc sz] {x y:Operand} {u v:Value} (a b : α) (hx:bR L x=some u) (hy:bR L y=some v) (hu:u.cells.toList=enc a) (hv:v.cells.toList=enc b) (hs:Nat.ble sz 1000=true)
 (hn:Nat.blt d n=true) (h:∀ g w',Ext w w'→w.heap.size≤g→Own w' w.heap.size e sz enc (some ⟨g,0,none⟩) 2 2 [a,b]→SW P n ops (.ff Q) rest ((d,.slice (some ⟨g,0,none⟩) 2 2)::L) w') :
 SW P n ops (.ff Q) (⟨some d,.buildSlice t 2 #[(0,x),(1,y)],T,pos,af,none⟩::rest) L w :=
 ⟨fun q hq=>by
  obtain ⟨i,hi,hz,iR,ue⟩:=dG P e (z:=z) (sz:=sz) (bytes:=bytes);have hle:sz≤1000:=by simpa using hs
  have hp : 0<sz:=E.pos
  simp only [swp];refine wpList_buildSlice rfl t e 2 _ rfl (enc a++enc b).toArray i z S.j3 hi hz (by rw [iR];omega) (by rw [iR];omega) ?_ ?_
  ·have e1:(Array.map (fun (p:Nat×Operand)=>(p.1,q.eval p.2)) #[(0,x),(1,y)]).toList=[(0,u),(1,v)]:=by
    simp [hq.eval hx,hq.eval hy]
   have e2:∀ X:Array Value,X=X.toList.toArray:=fun X=>rfl
   rw [e1,e2 (Array.map _ (Array.range _)),iR];exact Du hu hv (C.len a) (C.len b) (by simp)
  ·refine (h w.heap.size _ (Ext.alloc w _) (Nat.le_refl _) ⟨rfl,.inr ⟨by omega,w.heap.size,_,rfl,Nat.le_refl _,aJ.new w e (enc a++enc b),Nat.le_refl _,by simp only [maxLen];omega,by simp [C.len];omega,?_⟩⟩).out _ (hq.put hn _);simp only [List.flatMap_cons,List.flatMap_nil,List.append_nil];exact List.take_of_length_le (by simp [C.len];omega)⟩
end Go.Proofs.YtbidkghlpijecaaGreatDoor
