/-
  Texts of the claim TopRoom, part 6: what its theorem leans on.
-/
import Derived.Test.YtbidkghlpijecaaGreatDoorPackTopRoom5
import Derived.Test.YtbidkghlpijecaaGreatDoorPackTopRoom2
import Derived.Test.YtbidkghlpijecaaGreatDoorPackTopRoom3
import Derived.Test.YtbidkghlpijecaaGreatDoorPackTopRoom4
set_option linter.unusedVariables false
set_option linter.unusedSimpArgs false
namespace Go.Proofs.YtbidkghlpijecaaGreatDoor
open Go.RowKit
structure BB (z:ab) (a o:Int) (f:Nat) (l:List Block) (a' o':Int) : Prop where
 ok:xf z.aw z.To l a' o'
 eq:dr 5 z.ag a o=dr f l a' o'
 fuel : 5≤(f:Int)+o'
 len:l.length≤z.ag.length
theorem BB.stop {z:ab} {a o:Int} {f:Nat} {l:List Block} {a' o':Int} (h:BB z a o f l a' o') (ho : ¬ o'<4∨l.any (sq (beside a' o') o')=false) : dr 5 z.ag a o=(l,a',o'):=by
 rw [h.eq];cases f with
 | zero=>rfl
 | succ f =>
   simp only [dr];rcases ho with h1|h1
   ·rw [if_neg h1]
   ·simp [h1]
theorem BB.next {z:ab} {a o:Int} {f:Nat} {l:List Block} {a' o':Int} (h:BB z a o f l a' o') (h0 : 0≤z.aw) (ho:o'<4) (ga:l.any (sq (beside a' o') o')=true) : ∃ f',BB z a o f' (gC l (beside a' o') o') (min a' (beside a' o')) (o'+1):=by
 have hf:=h.fuel;obtain ⟨g,rfl⟩ : ∃ g,f=g+1:=⟨f-1,by omega⟩;refine ⟨g,h.ok.step h0 ho ga,?_,by omega,Nat.le_trans (List.length_filter_le _ _) h.len⟩;rw [h.eq];simp only [dr,if_pos ho,ga,if_true]
set_option maxHeartbeats 8000000 in
theorem kH (r:bU) (z:ab) (a o:Int) (w:World) (hr:yU w r z) (hf:(r.ag.n+1)*24≤140737488355328) (ht:r.Types.n*8≤140737488355328) (h1 : -9223372036854775808≤r.aw∧r.aw≤9223372036854775807) (h2 : -9223372036854775808≤r.To∧r.To≤9223372036854775807) :
 bl Tryz.prog 192 [.agg (bG r).toArray,.int .i64 a,.int .i64 o] w (oL w.heap.size (bV z a o)):=by
 refine aD Tryz.func192 rfl Tryz.ntmps192 rfl ?_;refine CW.seq (CW.region (SW.box rfl rfl fun b3 w1 hw bL aq => ?_));refine SW.alloc rfl fun b6 w2 bo fk az => ?_
 have dU:w.heap.size≤b6:=Nat.le_trans hw.size fk
 have jF:b3≠b6:=by have:=aq.lt;omega
 (replace hw:=Ext.trans hw bo;replace aq:=aq.ext bo);have eF:=hr.from_;have eT:=hr.jA;have Fe:=hr.free.len;have I5:=hr.types.len;obtain ⟨q,hq⟩ : ∃ q,df z=q:=⟨_,rfl⟩
 have c1:∀ w',Ext w w'→bl Tryz.prog 176 [.agg (bG r).toArray] w' fun v _=>v = .int .i64 (if q then 0 else 8):=fun w' h=>by
  have:=gK r z w' (hr.ext h) (by omega) (by omega) h1 h2
  rwa [hq] at this
 cases q
 ·simp only [Bool.false_eq_true,if_false] at c1;rw [oO hq];repeat' (first|refine Wz ?_|(refine SW.call rfl rfl (c1 _ hw) ?_;intro v w1 aa hv;subst hv;replace hw:=Ext.trans hw aa;replace aq:=aq.ext aa;replace az:=az.ext aa;clear aa))
  refine SW.ah az rfl rfl rfl rfl (cx .zero) fun w5 ct hg => ?_
  replace hw:=hw.own dU hg;refine Wz ?_;exact ae.cA rfl rfl rfl ct rfl ⟨_,rfl,hw,.zero,rfl,dT.zero _ _⟩
 ·simp only [if_true] at c1;have hz:=dc.1 hq;obtain ⟨o1,o2,o3,o4,o5⟩:=hz.ok;repeat' (first|refine Wz ?_|(refine SW.call rfl rfl (c1 _ hw) ?_;intro v w1 aa hv;subst hv;replace hw:=Ext.trans hw aa;replace aq:=aq.ext aa;replace az:=az.ext aa;clear aa))
  clear c1;refine SW.alloc rfl fun b9 w1 aa oQ dp => ?_
  skip;refine SW.ah dp rfl rfl rfl rfl (fu.one (enc:=aA) ⟨a,o,0⟩) fun w2 jh hg => ?_
  have ao:=aa.own oQ hg;have uf:w.heap.size≤b9:=Nat.le_trans hw.size oQ
  replace hw:=Ext.trans hw ao;replace aq:=aq.ext ao;replace az:=az.ext ao;replace dp:=jh;clear jh aa hg ao
  have cF:∀ w',bl Tryz.prog 229 [.agg (bG r).toArray,.agg (aA ⟨a,o,0⟩).toArray] w' fun v _=>v = .bool (decide (dK z.aw z.To a o)):=fun w'=>by
   have:=nr r ⟨a,o,0⟩ w' (by omega)
   rwa [eF,eT] at this
  by_cases ib:dK z.aw z.To a o
  ·rw [decide_eq_true ib] at cF;obtain ⟨f1,f2,f3,f4,f5⟩:=id ib
   have cC:∀ w',Ext w w'→aT w' b9 165 (aA ⟨a,o,0⟩)→bl Tryz.prog 226 [.slice r.ag.A r.ag.n r.ag.c,.func (.func 233) #[] [.pointer (some ⟨b9,0,none⟩)].toArray] w' fun v _=>v = .bool (eK z.ag a o):=fun w' hx h9 =>
    me _ _ _ _ _ (hr.free.ext hx) _ [.pointer (some ⟨b9,0,none⟩)] (fun x=>decide (x.At<a+pw o) && decide (a<x.At+pw x.Order)) (fun x => .agg (aA x).toArray) (fun x=>rfl)
     (fun x Pq w1 j0=>by
       obtain ⟨i,hi,rfl⟩:=List.getElem_of_mem Pq;obtain ⟨g1,g2,g3,g4,g5⟩:=(hz.cU i hi).1;exact BA a o b9 _ w1 (h9.ext j0) ⟨f1,f2⟩ ⟨by omega,by omega⟩ ⟨by omega,by omega⟩ ⟨g1,g2⟩) (by omega)
   cases Dn:eK z.ag a o
   ·rw [Dn] at cC;have L2:=oN (f:=0) (t:=0) hz ib Dn;repeat' (first|refine Wz ?_|(refine CW.eY rfl ?_)|((first|refine SW.call rfl rfl (cF _) ?_|refine SW.call rfl rfl (cC _ hw dp) ?_);intro v w1 aa hv;subst hv;replace hw:=Ext.trans hw aa;replace aq:=aq.ext aa;replace az:=az.ext aa;replace dp:=dp.ext aa;clear aa)|(refine SW.st (g9 (vs:=[.pointer (some ⟨b9,0,none⟩)]) rfl) rfl ?_))
    have JM:b9+1≤_:=dp.lt
    refine SW.call rfl rfl (nk r z _ (hr.ext hw) (by omega) ht) fun v w4 dz hv => ?_
    obtain ⟨s,rfl,hs,e1,e2⟩:=hv;replace hs:=hs.low JM;(replace hw:=Ext.trans hw dz;replace aq:=aq.ext dz;replace az:=az.ext dz;replace dp:=dp.ext dz);clear JM cC cF;skip;refine SW.ah aq rfl rfl rfl rfl (cx s) fun w5 cS hg => ?_
    have hG:=aq.gr hg;replace hw:=hw.own bL hg;(replace dp:=dp.au hG rfl);have hX:=hs.free.au hG rfl;have hT:=hs.types.au hG rfl;replace az:=az.grown hg (by simpa using jF.symm);replace aq:=cS;have es:s.ag.n=z.ag.length:=by rw [e1,Fe]
    have Pr:s=⟨s.aw,s.To,⟨s.ag.A,z.ag.length,s.ag.c⟩,s.Types⟩:=by rw [← es]
    have sF:=hs.from_;have sT:=hs.jA;rw [es] at hX;rw [Pr] at aq;clear cS hg hG hs;refine Wz ?_
    obtain ⟨K,hK⟩ : ∃ K:Env→World→Prop,K=fun L' w' => ∃ l a' o' A c,gH L' [(3,.pointer (some ⟨b3,0,none⟩)),(6,.pointer (some ⟨b6,0,none⟩)),(9,.pointer (some ⟨b9,0,none⟩))]∧Ext w w'∧aT w' b3 139 [.int .i64 s.aw,.int .i64 s.To,.slice A l.length c,.slice s.Types.A s.Types.n s.Types.c]∧aT w' b6 139 (bG .zero)∧aT w' b9 165 [.int .i64 a',.int .i64 o',.int .i64 0] ∧
     Own w' (b9+1) 165 3 aA A l.length c l∧Own w' (b9+1) 3 1 bB s.Types.A s.Types.n s.Types.c z.Types∧xf z.aw z.To l a' o'∧dr 5 z.ag a o=(l,a',o')∧l.length≤z.ag.length:=⟨_,rfl⟩
    refine CW.HD K ?_ ?_
    ·refine CW.loop (fun u:Nat×List Block×Int×Int×Option Addr×Nat=>[(3,.pointer (some ⟨b3,0,none⟩)),(6,.pointer (some ⟨b6,0,none⟩)),(9,.pointer (some ⟨b9,0,none⟩))])
      (fun u w'=>Ext w w'∧aT w' b3 139 [.int .i64 s.aw,.int .i64 s.To,.slice u.2.2.2.2.1 u.2.1.length u.2.2.2.2.2,.slice s.Types.A s.Types.n s.Types.c]∧aT w' b6 139 (bG .zero)∧aT w' b9 165 [.int .i64 u.2.2.1,.int .i64 u.2.2.2.1,.int .i64 0] ∧
        Own w' (b9+1) 165 3 aA u.2.2.2.2.1 u.2.1.length u.2.2.2.2.2 u.2.1∧Own w' (b9+1) 3 1 bB s.Types.A s.Types.n s.Types.c z.Types∧BB z a o u.1 u.2.1 u.2.2.1 u.2.2.2.1) (fun u=>(5-u.2.2.2.1).toNat) (5,z.ag,a,o,s.ag.A,s.ag.c)
      ⟨rfl,rfl,rfl,trivial⟩ ⟨hw,aq,az,dp,hX,hT,⟨L2,rfl,by simp only;omega,Nat.le_refl _⟩⟩ ?_
     clear hw aq az dp hX hT L2;rintro ⟨f,l,a',o',A,c⟩ w' ⟨hw,aq,az,dp,hX,hT,hJ⟩
     simp only at aq dp hX hJ ⊢;obtain ⟨k1,k2,k3,k4,k5⟩:=hJ.ok.fit;have hlen:=hJ.len;have hp:=bM k1 k2;by_cases HI:o'<4
     ·obtain ⟨m1,m2,m3⟩:=sr (by omega) k1 HI k5;generalize xk:beside a' o'=pT at m1 m2 m3
      have FJ:=By hJ.ok.mE hJ.ok.cU pT o'
      have cD:∀ w1,Ext w' w1→bl Tryz.prog 234 [.agg (bG ⟨s.aw,s.To,⟨A,l.length,c⟩,s.Types⟩).toArray,.int .i64 pT] w1 fun v _=>v = .tuple #[.int .i64 (aZ l pT:Int),.bool (bf l pT)]:=fun w1 hx =>
       pS ⟨s.aw,s.To,⟨A,l.length,c⟩,s.Types⟩ l z.aw z.To pT w1 (hX.sl.ext hx) hJ.ok.mE hJ.ok.cU o1 (by omega) (by simp only;omega) ⟨by omega,by omega⟩
      by_cases sw:aZ l pT<l.length∧(∀ h:aZ l pT<l.length,(l[aZ l pT]).At=pT∧(l[aZ l pT]).Order=o')
      ·obtain ⟨sw,hh⟩:=sw;obtain ⟨uH,ug⟩:=hh sw;have HJ:bf l pT=true:=by unfold bf;rw [dif_pos sw];exact decide_eq_true uH
       have L4:pR l pT o'=true:=by unfold pR;rw [dif_pos sw];exact decide_eq_true ⟨uH,ug⟩
       rw [L4] at FJ;rw [HJ] at cD;have Ps:=ud hJ.ok.mE hJ.ok.cU sw uH ug;have hA:=hX.sl.base;generalize xl:aZ l pT=lb at *
       have Lj:∀ x,x=beside a' o'→x=pT:=fun x e=>e.trans xk
       refine Wz ?_;(apply CW.bg mixed;(· kernel_rfl);rotate_left;intro w1 aa;replace hw:=Ext.trans hw aa;replace aq:=aq.ext aa;replace az:=az.ext aa;replace dp:=dp.ext aa;replace hX:=hX.ext aa;replace hT:=hT.ext aa;clear aa;rotate_right);repeat' (first|refine Wz ?_|refine SW.cI rfl rfl (fun w1 aa=>(cD _ aa)) ?_|(refine SW.st (fE (r:=pw o') rfl rfl (by omega) (by omega) (by simp [pw]) (by omega) (by omega)) rfl ?_)|(refine SW.st ((jx a' o' rfl rfl rfl rfl ⟨by omega,by omega,k1,HI,k5⟩).eq (congrArg (Value.int .i64) xk)) rfl ?_)|exact SW.du rfl)
       (apply CW.bg mixed;(· kernel_rfl);rotate_left;intro w1 aa;replace hw:=Ext.trans hw aa;replace aq:=aq.ext aa;replace az:=az.ext aa;replace dp:=dp.ext aa;replace hX:=hX.ext aa;replace hT:=hT.ext aa;clear aa;rotate_right);repeat' (first|refine Wz ?_|refine SW.want rfl rfl ?_|refine SW.st (ax rfl (hX.sl.qV sw rfl)) rfl ?_|exact SW.du rfl)
       refine CW.any 8 mixed (dq (by kernel_rfl)) rfl fun w1 aa bm => ?_
       replace hw:=Ext.trans hw aa;replace aq:=aq.ext aa;replace az:=az.ext aa;replace dp:=dp.ext aa;replace hX:=hX.ext aa;replace hT:=hT.ext aa;clear aa;refine Wa ?_;refine SA.take 7 bm rfl (by kernel_rfl) (by kernel_rfl) rfl ?_;repeat ((show SW _ _ _ _ (⟨_,Op.load _ _,_,_,_,none⟩::_) _ _;refine SW.st (ax rfl (hX.sl.qV sw rfl)) rfl ?_))
       refine SW.ar ?_;refine SA.done (by kernel_rfl) ?_;repeat' (first|refine Wz ?_|(refine SW.st (vF rfl rfl) rfl ?_))
       refine SW.bp (i:=0) dp rfl rfl rfl rfl fun w5 jh hg => ?_
       have hG:=dp.gr hg;replace hw:=hw.own uf hg;replace hX:=hX.grown hg (.inr (fun e=>by have:=hX.ba _ e;omega));(replace aq:=aq.au hG rfl;replace az:=az.au hG rfl;replace hT:=hT.au hG rfl);replace dp:=jh;clear jh hg hG;refine Wz ?_;refine SW.bp (i:=1) dp rfl rfl rfl rfl fun w5 jh hg => ?_
       have hG:=dp.gr hg;replace hw:=hw.own uf hg;replace hX:=hX.grown hg (.inr (fun e=>by have:=hX.ba _ e;omega));(replace aq:=aq.au hG rfl;replace az:=az.au hG rfl;replace hT:=hT.au hG rfl);replace dp:=jh;clear jh hg hG;refine Wz ?_;refine SW.dy rfl rfl (jf A l.length c _ l _ hX lb sw (by omega) (by have:=dp.lt;omega)) fun v w6 hv => ?_
       obtain ⟨rfl,vS,hg⟩:=hv;have hG:=hX.gr hg;replace hw:=aJ hw hg (Nat.le_trans uf (Nat.le_succ _)) hX.ba;replace dp:=dp.grown hg (fun e=>by have:=hX.ba _ e.symm;omega);(replace aq:=aq.au hG rfl;replace az:=az.au hG rfl;replace hT:=hT.au hG rfl);clear hg hG;have oB:l.length-1=(l.eraseIdx lb).length:=by rw [List.length_eraseIdx_of_lt sw]
       rw [oB] at vS;rw [oB];refine Wz ?_;refine SW.bp (i:=2) aq rfl rfl rfl rfl fun w7 cS hg => ?_
       have hG:=aq.gr hg;replace hw:=hw.own bL hg;replace az:=az.grown hg (by simpa using jF.symm);(replace dp:=dp.au hG rfl;replace vS:=vS.au hG rfl;replace hT:=hT.au hG rfl);refine Wz ?_;obtain ⟨f',NV⟩:=hJ.next o1 HI (by rw [xk];exact FJ)
       rw [xk,← Ps] at NV;refine ae.again (f',l.eraseIdx lb,min a' pT,o'+1,A,c) ⟨rfl,rfl,rfl,trivial⟩ (by simp only;omega) ⟨hw,cS,az,?_,vS,hT,NV⟩;rw [uH] at dp;exact dp
      ·have L4:pR l pT o'=false:=by
        unfold pR;by_cases h:aZ l pT<l.length
        ·rw [dif_pos h];exact decide_eq_false (fun hh=>sw ⟨h,fun _=>hh⟩)
        ·rw [dif_neg h]
       rw [L4] at FJ;have tX:=hJ.stop (.inr (by rw [xk];exact FJ))
       have L5:∀ w1,Ext w w1→aT w1 b3 139 [.int .i64 s.aw,.int .i64 s.To,.slice A l.length c,.slice s.Types.A s.Types.n s.Types.c]→aT w1 b6 139 (bG .zero)→aT w1 b9 165 [.int .i64 a',.int .i64 o',.int .i64 0]→Own w1 (b9+1) 165 3 aA A l.length c l→Own w1 (b9+1) 3 1 bB s.Types.A s.Types.n s.Types.c z.Types → ∀ L',gH L' [(3,.pointer (some ⟨b3,0,none⟩)),(6,.pointer (some ⟨b6,0,none⟩)),(9,.pointer (some ⟨b9,0,none⟩))]→K L' w1:=fun w1 x1 x2 x3 x4 x5 x6 L' x7=>by
        rw [hK];exact ⟨l,a',o',A,c,x7,x1,x2,x3,x4,x5,x6,hJ.ok,tX,hJ.len⟩
       by_cases oB:aZ l pT<l.length
       ·have hA:=hX.sl.base;by_cases uH:(l[aZ l pT]).At=pT
        ·have ug : ¬ (l[aZ l pT]).Order=o':=fun h=>sw ⟨oB,fun _=>⟨uH,h⟩⟩
         have HJ:bf l pT=true:=by unfold bf;rw [dif_pos oB];exact decide_eq_true uH
         rw [HJ] at cD;generalize xl:aZ l pT=lb at *
         repeat' (first|refine Wz ?_|((apply CW.bg mixed;(· kernel_rfl);rotate_left;intro w1 aa;replace hw:=Ext.trans hw aa;replace aq:=aq.ext aa;replace az:=az.ext aa;replace dp:=dp.ext aa;replace hX:=hX.ext aa;replace hT:=hT.ext aa;clear aa;rotate_right))|refine SW.want rfl rfl ?_|refine SW.st (ax rfl (hX.sl.qV oB rfl)) rfl ?_|refine SW.cI rfl rfl (fun w1 aa=>(cD _ aa)) ?_|(refine SW.st (fE (r:=pw o') rfl rfl (by omega) (by omega) (by simp [pw]) (by omega) (by omega)) rfl ?_)|(refine SW.st ((jx a' o' rfl rfl rfl rfl ⟨by omega,by omega,k1,HI,k5⟩).eq (congrArg (Value.int .i64) xk)) rfl ?_)|exact SW.du rfl)
         exact ae.xh (K:=K) (L5 _ hw aq az dp hX hT _ ⟨rfl,rfl,rfl,trivial⟩)
        ·have HJ:bf l pT=false:=by unfold bf;rw [dif_pos oB];exact decide_eq_false uH
         rw [HJ] at cD;generalize xl:aZ l pT=lb at *
         repeat' (first|refine Wz ?_|((apply CW.bg mixed;(· kernel_rfl);rotate_left;intro w1 aa;replace hw:=Ext.trans hw aa;replace aq:=aq.ext aa;replace az:=az.ext aa;replace dp:=dp.ext aa;replace hX:=hX.ext aa;replace hT:=hT.ext aa;clear aa;rotate_right))|refine SW.skip rfl rfl rfl rfl ?_|refine SW.cI rfl rfl (fun w1 aa=>(cD _ aa)) ?_|(refine SW.st (fE (r:=pw o') rfl rfl (by omega) (by omega) (by simp [pw]) (by omega) (by omega)) rfl ?_)|(refine SW.st ((jx a' o' rfl rfl rfl rfl ⟨by omega,by omega,k1,HI,k5⟩).eq (congrArg (Value.int .i64) xk)) rfl ?_)|exact SW.du rfl)
         exact ae.xh (K:=K) (L5 _ hw aq az dp hX hT _ ⟨rfl,rfl,rfl,trivial⟩)
       ·have HJ:bf l pT=false:=by unfold bf;rw [dif_neg oB]
        rw [HJ] at cD;generalize xl:aZ l pT=lb at *
        repeat' (first|refine Wz ?_|((apply CW.bg mixed;(· kernel_rfl);rotate_left;intro w1 aa;replace hw:=Ext.trans hw aa;replace aq:=aq.ext aa;replace az:=az.ext aa;replace dp:=dp.ext aa;replace hX:=hX.ext aa;replace hT:=hT.ext aa;clear aa;rotate_right))|refine SW.skip rfl rfl rfl rfl ?_|refine SW.cI rfl rfl (fun w1 aa=>(cD _ aa)) ?_|(refine SW.st (fE (r:=pw o') rfl rfl (by omega) (by omega) (by simp [pw]) (by omega) (by omega)) rfl ?_)|(refine SW.st ((jx a' o' rfl rfl rfl rfl ⟨by omega,by omega,k1,HI,k5⟩).eq (congrArg (Value.int .i64) xk)) rfl ?_)|exact SW.du rfl)
        exact ae.xh (K:=K) (L5 _ hw aq az dp hX hT _ ⟨rfl,rfl,rfl,trivial⟩)
     ·refine Wz ?_;exact ae.xh (K:=K) (by rw [hK];exact ⟨l,a',o',A,c,⟨rfl,rfl,rfl,trivial⟩,hw,aq,az,dp,hX,hT,hJ.ok,hJ.stop (.inl HI),hJ.len⟩)
    ·clear hw aq az dp hX hT L2;subst hK;rintro L' w' ⟨l,a',o',A,c,nE,hw,aq,az,dp,hX,hT,hJ,JN,hlen⟩
     refine ae.sub nE ?_;obtain ⟨k1,k2,k3,k4,k5⟩:=hJ.fit;obtain ⟨k,hk,eV⟩:=AH hz k3 k4;have ey:k<s.Types.n:=by omega
     have Pt:=j8 hq ib Dn JN (t:=z.Types[k]) (by rw [hk];simp [List.getD_eq_getElem?_getD,List.getElem?_eq_getElem eV]);rw [Pt];have L6:l.length≤1000000000000000000:=by omega
     have hA:=hT.sl.base;have Rr:s.aw=z.aw:=sF
     repeat' (first|refine Wz ?_|refine SW.st (bc (k) rfl rfl (by assumption) (by omega) (by omega)) rfl ?_|refine SW.st (ax rfl (hT.sl.one ey rfl)) rfl ?_)
     refine SW.bp (i:=2) dp rfl rfl rfl rfl fun w5 jh hg => ?_
     have hG:=dp.gr hg;replace hw:=hw.own uf hg;replace hX:=hX.grown hg (.inr (fun e=>by have:=hX.ba _ e;omega));(replace aq:=aq.au hG rfl;replace az:=az.au hG rfl;replace hT:=hT.au hG rfl);replace dp:=jh;clear jh hg hG;repeat' (first|refine Wz ?_|(refine SW.call rfl rfl (pS ⟨s.aw,s.To,⟨A,l.length,c⟩,s.Types⟩ l z.aw z.To a' _ hX.sl hJ.mE hJ.cU o1 (by omega) L6 ⟨by omega,by omega⟩) ?_;intro v w1 aa hv;subst hv;replace hw:=Ext.trans hw aa;replace aq:=aq.ext aa;replace az:=az.ext aa;replace dp:=dp.ext aa;replace hX:=hX.ext aa;replace hT:=hT.ext aa;clear aa))
     have dg:=hX.lt_size;refine SW.dJ rfl rfl rfl rfl rfl fun vb w6 ao JO Pu => ?_
     (replace hw:=Ext.trans hw ao;replace aq:=aq.ext ao;replace az:=az.ext ao;replace dp:=dp.ext ao;replace hX:=hX.ext ao;replace hT:=hT.ext ao);skip;refine SW.dy rfl rfl (fw A l.length c _ l _ hX (aZ l a') (AK l a') ⟨a',o',z.Types[k]⟩ vb Pu (fun e=>by have:=dg _ e;omega) (Nat.le_trans (Nat.mul_le_mul_right 24 (by omega)) hf) (by have:=dp.lt;omega)) fun v w7 hv => ?_
     obtain ⟨A2,c2,rfl,vS,hg⟩:=hv;have hG:=hX.gr hg;replace hw:=aJ hw hg (Nat.le_trans uf (Nat.le_succ _)) hX.ba;replace dp:=dp.grown hg (fun e=>by have:=hX.ba _ e.symm;omega);(replace aq:=aq.au hG rfl;replace az:=az.au hG rfl;replace hT:=hT.au hG rfl);clear hg hG;refine Wz ?_;refine SW.bp (i:=2) aq rfl rfl rfl rfl fun w8 cS hg => ?_
     have hG:=aq.gr hg;replace hw:=hw.own bL hg;replace az:=az.grown hg (by simpa using jF.symm);(replace dp:=dp.au hG rfl;replace vS:=vS.au hG rfl;replace hT:=hT.au hG rfl);clear hg hG;refine Wz ?_;refine SW.ah az rfl rfl rfl rfl (cx ⟨s.aw,s.To,⟨A2,l.length+1,c2⟩,s.Types⟩) fun w9 ct hg => ?_
     have hG:=az.gr hg;replace hw:=hw.own dU hg;(replace vS:=vS.au hG rfl;replace hT:=hT.au hG rfl);refine Wz ?_;exact ae.cA rfl rfl rfl ct rfl ⟨_,rfl,hw,⟨s.aw,s.To,⟨A2,l.length+1,c2⟩,s.Types⟩,rfl,sF,sT,vS.low (by omega),hT.low (by omega)⟩
   ·rw [Dn] at cC;rw [vR hq ib Dn];repeat' (first|refine Wz ?_|(refine CW.eY rfl ?_)|((first|refine SW.call rfl rfl (cF _) ?_|refine SW.call rfl rfl (cC _ hw dp) ?_);intro v w1 aa hv;subst hv;replace hw:=Ext.trans hw aa;replace aq:=aq.ext aa;replace az:=az.ext aa;replace dp:=dp.ext aa;clear aa)|(refine SW.st (g9 (vs:=[.pointer (some ⟨b9,0,none⟩)]) rfl) rfl ?_))
    refine SW.ah az rfl rfl rfl rfl (cx .zero) fun w5 ct hg => ?_
    replace hw:=hw.own dU hg;refine Wz ?_;exact ae.cA rfl rfl rfl ct rfl ⟨_,rfl,hw,.zero,rfl,dT.zero _ _⟩
  ·rw [decide_eq_false ib] at cF;rw [rF hq ib];repeat' (first|refine Wz ?_|(refine CW.eX rfl ?_)|(refine SW.call rfl rfl (cF _) ?_;intro v w1 aa hv;subst hv;replace hw:=Ext.trans hw aa;replace aq:=aq.ext aa;replace az:=az.ext aa;replace dp:=dp.ext aa;clear aa))
   refine SW.ah az rfl rfl rfl rfl (cx .zero) fun w5 ct hg => ?_
   replace hw:=hw.own dU hg;refine Wz ?_;exact ae.cA rfl rfl rfl ct rfl ⟨_,rfl,hw,.zero,rfl,dT.zero _ _⟩
open Go.RowKit
def cK (l:List Region) (p:Int) : Bool:=l.any fun r=>decide (r.aw≤p) && decide (p<r.aw+r.aY)
def bump:List Region→List Region
 | []=>[]
 | [r]=>[⟨r.aw,r.aY+1⟩]
 | x::y::l=>x::bump (y::l)
def runs (p:Nat→Bool) : Nat→List Region
 | 0=>[]
 | i+1=>if p i then (if 0<i∧p (i-1)=true then bump (runs p i) else runs p i++[⟨(i:Int),1⟩]) else runs p i
theorem j9:∀ (l:List Region) (r:Region),bump (l++[r])=l++[⟨r.aw,r.aY+1⟩]
 | [],_=>rfl
 | [x],_=>rfl
 | x::y::l,r=>by
   have ih:=j9 (y::l) r;simp only [List.cons_append,bump] at ih ⊢;rw [ih]
structure HL (p:Nat→Bool) (k:Nat) (l:List Region) : Prop where
 GK:∀ r∈l,0≤r.aw∧1≤r.aY∧r.aw+r.aY≤(k:Int)
 len:l.length≤k
 last : 0<k→p (k-1)=true → ∃ init r,l=init++[r]∧r.aw+r.aY=(k:Int)
 below:(0<k→p (k-1)=false) → ∀ r∈l,r.aw+r.aY<(k:Int)
 sep:l.Pairwise fun a b=>a.aw+a.aY<b.aw
 iff:∀ i:Nat,i<k→(p i=true ↔ ∃ r∈l,r.aw≤(i:Int)∧(i:Int)<r.aw+r.aY)
theorem oR (p:Nat→Bool) : ∀ k,HL p k (runs p k)
 | 0=>⟨by simp [runs],by simp [runs],by simp,by simp [runs],by simp [runs],by simp⟩
 | k+1=>by
   have ih:=oR p k;simp only [runs];by_cases hp:p k=true
   ·rw [if_pos hp];by_cases hq : 0<k∧p (k-1)=true
    ·rw [if_pos hq];obtain ⟨init,r,hl,hr⟩:=ih.last hq.1 hq.2;rw [hl,j9];have HM:=ih.GK;have hlen:=ih.len;have xm:=ih.sep;have Dt:=ih.iff;rw [hl] at HM hlen xm Dt;have Rs:=HM r (by simp);refine ⟨?_,?_,?_,?_,?_,?_⟩
     ·intro x hx;simp only [List.mem_append,List.mem_singleton] at hx;rcases hx with hx|rfl
      ·have:=HM x (by simp [hx]);omega
      ·simp only;omega
     ·simp only [List.length_append,List.length_singleton] at hlen ⊢;omega
     ·intro _ _;exact ⟨init,_,rfl,by simp only;omega⟩
     ·intro h;simp at h;rw [h] at hp;cases hp
     ·rw [List.pairwise_append] at xm ⊢;refine ⟨xm.1,by simp,fun a ha b hb => ?_⟩;simp only [List.mem_singleton] at hb;subst hb;exact xm.2.2 a ha r (by simp)
     ·intro i hi;by_cases uD:i=k
      ·subst uD;simp only [hp,true_iff];exact ⟨⟨r.aw,r.aY+1⟩,by simp,by simp only;omega,by simp only;omega⟩
      ·rw [Dt i (by omega)];constructor
       ·rintro ⟨x,hx,h1,h2⟩
        simp only [List.mem_append,List.mem_singleton] at hx;rcases hx with hx|rfl
        ·exact ⟨x,by simp [hx],h1,h2⟩
        ·exact ⟨⟨x.aw,x.aY+1⟩,by simp,h1,by simp only;omega⟩
       ·rintro ⟨x,hx,h1,h2⟩
        simp only [List.mem_append,List.mem_singleton] at hx;rcases hx with hx|rfl
        ·exact ⟨x,by simp [hx],h1,h2⟩
        ·simp only at h1 h2;exact ⟨r,by simp,h1,by omega⟩
    ·rw [if_neg hq]
     have hb:∀ r∈runs p k,r.aw+r.aY<(k:Int):=ih.below (fun h0=>by
      cases hh:p (k-1) with
      | false=>rfl
      | true=>exact absurd ⟨h0,hh⟩ hq)
     refine ⟨?_,?_,?_,?_,?_,?_⟩
     ·intro x hx;simp only [List.mem_append,List.mem_singleton] at hx;rcases hx with hx|rfl
      ·have:=ih.GK x hx;omega
      ·simp only;omega
     ·have:=ih.len
      simp only [List.length_append,List.length_singleton];omega
     ·intro _ _;exact ⟨runs p k,_,rfl,by simp only;omega⟩
     ·intro h;simp at h;rw [h] at hp;cases hp
     ·rw [List.pairwise_append];refine ⟨ih.sep,by simp,fun a ha b lV => ?_⟩;simp only [List.mem_singleton] at lV;subst lV;exact hb a ha
     ·intro i hi;by_cases uD:i=k
      ·subst uD;simp only [hp,true_iff];exact ⟨⟨(i:Int),1⟩,by simp,by simp only;omega,by simp only;omega⟩
      ·rw [ih.iff i (by omega)];constructor
       ·rintro ⟨x,hx,h1,h2⟩
        exact ⟨x,by simp [hx],h1,h2⟩
       ·rintro ⟨x,hx,h1,h2⟩
        simp only [List.mem_append,List.mem_singleton] at hx;rcases hx with hx|rfl
        ·exact ⟨x,hx,h1,h2⟩
        ·simp only at h1 h2;omega
   ·rw [if_neg hp];have BC:p k=false:=by simpa using hp
    refine ⟨?_,?_,?_,?_,ih.sep,?_⟩
    ·intro x hx;have:=ih.GK x hx;omega
    ·have:=ih.len;omega
    ·intro _ h;simp at h;rw [h] at BC;cases BC
    ·intro _ x hx;have:=ih.GK x hx;omega
    ·intro i hi;by_cases uD:i=k
     ·subst uD;simp only [BC,Bool.false_eq_true,false_iff];rintro ⟨x,hx,h1,h2⟩
      have:=ih.GK x hx;omega
     ·exact ih.iff i (by omega)
def marksOf (p:Nat→Bool) (k:Nat) : List Bool:=(List.range k).map p
theorem xn (p:Nat→Bool) (k:Nat) : (marksOf p k).length=k:=by simp [marksOf]
theorem iU (p:Nat→Bool) (k i:Nat) (h:i<(marksOf p k).length) : (marksOf p k)[i]=p i:=by simp [marksOf]
theorem mH (p:Nat→Bool) (k i:Nat) (b:Bool) : (marksOf p k).set i b=marksOf (fun j=>if j=i then b else p j) k:=by
 apply List.ext_getElem (by simp [marksOf]);intro j h1 h2;rw [List.getElem_set];by_cases h:i=j
 ·subst h;simp [marksOf]
 ·have : ¬ j=i:=fun e=>h e.symm
  simp [marksOf,h,this]
theorem eu {p q:Nat→Bool} {k:Nat} (h:∀ i,i<k→p i=q i) : marksOf p k=marksOf q k:=by
 apply List.ext_getElem (by simp [marksOf]);intro j h1 h2;simp only [iU];exact h j (by simpa [marksOf] using h1)
def kk (b:Block) (i:Nat) : Bool:=decide (b.At≤(i:Int)) && decide ((i:Int)<b.At+pw b.Order)
def cy (bs:List Block) (i:Nat) : Bool:=bs.any fun b=>kk b i
def qF (bs:List Block) (b:Block) : Prop:=0≤b.At∧b.At+pw b.Order≤256∧eK bs b.At b.Order=false
instance (bs:List Block) (b:Block) : Decidable (qF bs b):=inferInstanceAs (Decidable (_∧_))
def iv (s:Option (List Block)) (b:Block) : Option (List Block):=match s with
 | none=>none
 | some bs=>if qF bs b then some (bs++[b]) else none
def aR (s:Option (List Block)) (l:List Block) : Option (List Block):=l.foldl iv s
theorem e8:∀ l,aR none l=none
 | []=>rfl
 | b::l=>e8 l
theorem bQ (s:Option (List Block)) (l m:List Block) : aR s (l++m)=aR (aR s l) m:=List.foldl_append
theorem qG (s:Option (List Block)) (l:List Block) (k:Nat) (h:k<l.length) : aR s (l.take (k+1))=iv (aR s (l.take k)) l[k]:=by
 rw [List.take_succ_eq_append_getElem h,bQ];rfl
theorem kI {s:Option (List Block)} {b:Block} {bs:List Block} (h:iv s b=some bs) : ∃ cs,s=some cs∧qF cs b∧bs=cs++[b]:=by
 cases s with
 | none=>simp [iv] at h
 | some cs =>
   simp only [iv] at h;split at h
   ·rename_i hf;injection h with h;exact ⟨cs,rfl,hf,h.symm⟩
   ·cases h
def Lk (p:Nat→Bool) (a n:Int) : Prop:=0≤a∧a<256∧n≤256-a ∧ ∀ i:Nat,a≤(i:Int)→(i:Int)<a+n→p i=false
def uh (p:Nat→Bool) (a n:Int) (i:Nat) : Bool:=p i || (decide (a≤(i:Int)) && decide ((i:Int)<a+n))
theorem lq {bs:List Block} (hb:∀ b∈bs,0≤b.At∧1≤pw b.Order) {b:Block} (h1 : 1≤pw b.Order) : Lk (cy bs) b.At (pw b.Order)↔qF bs b:=by
 constructor
 ·rintro ⟨h2,h3,h4,h5⟩
  refine ⟨h2,by omega,?_⟩;unfold eK;rw [List.any_eq_false];intro x hx hh;simp only [Bool.and_eq_true,decide_eq_true_eq] at hh;obtain ⟨k1,k2⟩:=hh;obtain ⟨q1,q2⟩:=hb x hx;have h6:=h5 (max x.At b.At).toNat (by omega) (by omega);unfold cy at h6;rw [List.any_eq_false] at h6;apply h6 x hx;simp only [kk,Bool.and_eq_true,decide_eq_true_eq];omega
 ·rintro ⟨h2,h3,h4⟩
  refine ⟨h2,by omega,by omega,fun i k1 k2 => ?_⟩;unfold cy;rw [List.any_eq_false];intro x hx hh;simp only [kk,Bool.and_eq_true,decide_eq_true_eq] at hh;unfold eK at h4;rw [List.any_eq_false] at h4;apply h4 x hx;simp only [Bool.and_eq_true,decide_eq_true_eq];omega
theorem Du (bs:List Block) (b:Block) (i:Nat) : uh (cy bs) b.At (pw b.Order) i=cy (bs++[b]) i:=by
 simp [uh,cy,kk]
def mI (s:Option (List Block)) : Prop := ∀ bs,s=some bs → ∀ x∈bs,0≤x.At∧1≤pw x.Order
theorem uI:mI (some []):=fun bs h x hx=>by cases h;simp at hx
theorem BD {s:Option (List Block)} {b:Block} (h:mI s) (hb : 1≤pw b.Order) : mI (iv s b):=fun bs JP x hx=>by
 obtain ⟨cs,rfl,hf,rfl⟩:=kI JP;rcases List.mem_append.1 hx with hx|hx
 ·exact h cs rfl x hx
 ·simp at hx;subst hx;exact ⟨hf.1,hb⟩
theorem gU {s:Option (List Block)}:∀ {l:List Block},mI s→(∀ b∈l,1≤pw b.Order)→mI (aR s l)
 | [],h,_=>h
 | b::l,h,hb=>gU (l:=l) (BD h (hb b (by simp))) (fun x hx=>hb x (by simp [hx]))
def bj (p:Int) : Block:=⟨p,0,0⟩
def aF (l:List ap) : List Block:=l.flatMap fun x=>x.an.map bj
theorem fp:pw 0=1:=by decide
def bD (a b:ap) : Prop:=a.eI<b.eI∨(a.eI=b.eI∧(a.ab<b.ab∨(a.ab=b.ab∧a.Ty<b.Ty)))
instance (a b:ap) : Decidable (bD a b):=inferInstanceAs (Decidable (_∨_))
def ic (cpus:Int) (l:ap) : Prop:=(0≤l.eI∧l.eI<cpus)∧(0≤l.ab∧l.ab≤1)∧(0≤l.Ty∧l.Ty≤2)∧(1≤l.an.length∧l.an.length≤8)
instance (c:Int) (l:ap) : Decidable (ic c l):=inferInstanceAs (Decidable (_∧_))
structure js (cpus to:Int) (ls:List ap) : Prop where
 head:∀ (i:Nat) (h:i<ls.length),ic cpus ls[i]
 next:∀ (i:Nat) (h:i+1<ls.length),bD ls[i] ls[i+1]
 gj:∀ (i:Nat) (h:i<ls.length),∀ p∈(ls[i]).an,(p<to↔(ls[i]).ab=0)
def pU (b:Block) : Prop:=(0≤b.Order∧b.Order≤4)∧(0≤b.At∧b.At≤255)∧b.At % pw b.Order=0∧fR b.Ty
structure dW (l:List Block) : Prop where
 each:∀ (i:Nat) (h:i<l.length),pU l[i]
 next:∀ (i:Nat) (h:i+1<l.length),l[i].At<l[i+1].At
structure aW (h:Heap) : Prop where
 bz:∃ z0 z1,h.aL=[z0,z1]∧aU z0∧aU z1∧z0.aw=0∧z0.To=z1.aw∧z1.To=256∧js h.bt z0.To h.aj∧(aR (some []) (z0.ag++z1.ag++aF h.aj++h.Live)).isSome=true
 cT:∃ m0 m1,h.bT=[m0,m1]∧(0≤m0∧m0≤256)∧(0≤m1∧m1≤256)
 cpus : 1≤h.bt∧h.bt≤4
 live:dW h.Live
noncomputable def fa (h:Heap) : Bool := @decide (aW h) (Classical.propDecidable _)
theorem vT {h:Heap} (a:aW h) : fa h=true:=by unfold fa;exact @decide_eq_true _ (Classical.propDecidable _) a
theorem jt {h:Heap} (a : ¬ aW h) : fa h=false:=by unfold fa;exact @decide_eq_false _ (Classical.propDecidable _) a
theorem bH {h:Heap}:fa h=true↔aW h:=by
 by_cases a:aW h
 ·simp [vT a,a]
 ·simp [jt a,a]
theorem mJ (l:List ap) (k:Nat) (h:k<l.length) : aF (l.take (k+1))=aF (l.take k)++l[k].an.map bj:=by
 unfold aF;rw [List.take_succ_eq_append_getElem h,List.flatMap_append];simp
theorem fT {s:Option (List Block)} {l m:List Block} (h:(aR s (l++m)).isSome=true) : (aR s l).isSome=true:=by
 rw [bQ] at h;cases e:aR s l with
 | none=>rw [e,e8] at h;cases h
 | some x=>rfl
open Go.RowKit
section
variable {P:Program} {L:Env} {w:World} {d:Option Nat} {T:TypeId} {pos:String} {af:Array Edge} {g:Option (Nat×Bool)}
theorem mK {t e:TypeId} {len sz:Nat} [c:uy P t len e sz] {x y:Operand} {ad:Addr} {i:Int} (k:Nat) (hx:bF L x=some (.pointer (some ad))) (hy:bF L y=some (.int .i64 i)) (hi:i=(k:Int)) (hk:k<len) :
 St P ⟨d,.indexAddr t x y,T,pos,af,g⟩ L w (.pointer (some (ad.add (k*sz)))) :=
 ⟨fun _ a ha w' _=>by
  subst hi;have e1:=ha.eval hx;have e2:=ha.eval hy;generalize a.eval = ρ at *
  simp [execOp,e1,e2,Instr.indexAt,Instr.sureAddr,asIntOf,run_underlying c.kz,run_sizeOf c.size,hk]⟩
end
theorem ae.HN {P:Program} {fn:Func} {R:Ending→World→Prop} {n:Nat} {L:Env} {w:World} (hr:fn.results = #[]) (h:R (.returned (.tuple #[])) w) : ae n (bodyPost P fn R) .ret L w :=
 ⟨fun a ha=>⟨ha.defers,_,by simpa using jk.results (rs:=[]) hr .nil ha,h⟩⟩
theorem ae.uj {P:Program} {fn:Func} {R:Ending→World→Prop} {n:Nat} {L:Env} {w:World} (hr:fn.results = #[]) (h:R (.returned (.tuple #[])) w) : ae n (bodyPost P fn R) .normal L w :=
 ⟨fun a ha=>⟨ha.defers,_,by simpa using jk.results (rs:=[]) hr .nil ha,h⟩⟩
def eM (p:Nat→Bool) (N:Nat) (bad:Bool) : List Value:=(marksOf p N).map Value.bool++[.bool bad]
theorem n8 (p:Nat→Bool) (N:Nat) (bad:Bool) : (eM p N bad).length=N+1:=by simp [eM,marksOf]
theorem sx (p:Nat→Bool) (N:Nat) (bad:Bool) : (eM p N bad)[N]?=some (.bool bad):=by
 unfold eM;rw [List.getElem?_append_right (by simp [marksOf])];simp [marksOf]
theorem BE (p:Nat→Bool) (N:Nat) (bad:Bool) {i:Nat} (h:i<N) : (eM p N bad)[i]?=some (.bool (p i)):=by
 unfold eM;rw [List.getElem?_append_left (by simp [marksOf];omega)];simp [marksOf,h]
theorem nT (p:Nat→Bool) (N:Nat) (bad b:Bool) : (eM p N bad).set N (.bool b)=eM p N b:=by
 unfold eM;rw [List.set_append_right _ _ (by simp [marksOf])];simp [marksOf]
theorem ze (p:Nat→Bool) (N:Nat) (bad:Bool) {i:Nat} (h:i<N) : (eM p N bad).set i (.bool true)=eM (fun j=>if j=i then true else p j) N bad:=by
 unfold eM;rw [List.set_append_left _ _ (by simp [marksOf];omega),← mH,List.map_set]
theorem lu {p q:Nat→Bool} {N:Nat} {bad:Bool} (h:∀ i,i<N→p i=q i) : eM p N bad=eM q N bad:=by
 unfold eM;rw [eu h]
set_option maxHeartbeats 4000000 in
theorem xo (b:Nat) (p:Nat→Bool) (bad:Bool) (N:Nat) (hN:N=256) (a n:Int) (w:World) (hB:aT w b 224 (eM p N bad)) (hn : 0≤n∧n≤16) :
 jr Tryz.prog 178 [.pointer (some ⟨b,0,none⟩),.int .i64 a,.int .i64 n] w fun v w' => ∃ p' BF,aT w' b 224 (eM p' N BF)∧w.grownBy w' (some b)∧((Lk p a n∧BF=bad∧p'=uh p a n)∨(¬ Lk p a n∧BF=true)):=by
 refine eG Tryz.func178 rfl Tryz.ntmps178 rfl ?_;have Dm:w.grownBy w (some b):=World.grownBy.refl _ _
 have hw:=Ext.refl w;by_cases gR : 0≤a∧a<256∧n≤256-a
 ·obtain ⟨h1,h2,h3⟩:=id gR;obtain ⟨k,rfl⟩:=Int.eq_ofNat_of_zero_le h1;obtain ⟨m,rfl⟩:=Int.eq_ofNat_of_zero_le hn.1;refine Wz ?_;clear hw
  refine CW.loop (fun j:Nat=>[(0,.pointer (some ⟨b,0,none⟩)),(1,.int .i64 (k:Int)),(2,.int .i64 (m:Int)),(6,.int .i64 ((k+j:Nat) : Int))])
   (fun j w'=>j≤m∧aT w' b 224 (eM (uh p k (j:Int)) N bad)∧w.grownBy w' (some b) ∧ ∀ i:Nat,k≤i→i<k+j→p i=false) (fun j=>m-j) 0
   ⟨rfl,rfl,rfl,rfl,trivial⟩ ⟨by omega,by rwa [lu (q:=p) (fun i _=>by simp [uh]<;>omega)],Dm,fun i h1 h2=>by omega⟩ ?_
  clear hB Dm;rintro j w' ⟨hj,hB,hg,hI⟩
  have hw:=Ext.refl w';by_cases Rt:j<m
  ·have dg:k+j<N:=by omega
   have hc:=hB.cell (BE _ N bad dg);have hv:uh p k (j:Int) (k+j)=p (k+j):=by simp [uh]
   rw [hv] at hc;have I7:w'.cell? (((⟨b,0,none⟩ : Addr).add 0).add ((k+j)*1))=some (.bool (p (k+j))):=by rw [add_add];simpa using hc
   cases hp:p (k+j)
   ·rw [hp] at I7;repeat' (first|refine Wz ?_|refine SW.st (ax rfl (I7)) rfl ?_|(refine SW.st (mK (k+j) rfl rfl rfl (by omega)) rfl ?_))
    have L7:(⟨b,0,none⟩ : Addr).add (k+j)=((⟨b,0,none⟩ : Addr).add 0).add ((k+j)*1):=by rw [add_add];simp
    refine SW.bp (i:=k+j) hB (by rw [L7];rfl) rfl rfl (by rw [n8];simp;omega) fun w3 q9 CU => ?_
    rw [ze _ _ _ dg,lu (q:=uh p k ((j+1:Nat) : Int)) (fun i _=>by
     by_cases e:i=k+j
     ·subst e;simp [uh];omega
     ·simp only [e,if_false,uh];congr 1
      by_cases e1:i<k+j
      ·rw [decide_eq_true (show (i:Int)<(k:Int)+(j:Int) by omega),decide_eq_true (show (i:Int)<(k:Int)+((j+1:Nat) : Int) by omega)]
      ·rw [decide_eq_false (show ¬ (i:Int)<(k:Int)+(j:Int) by omega),decide_eq_false (show ¬ (i:Int)<(k:Int)+((j+1:Nat) : Int) by omega)])] at q9
    have FI:=bR hg CU (.inl rfl);clear hw;have hw:=Ext.refl w3;refine Wz ?_;refine ae.again (j+1) ⟨rfl,rfl,rfl,rfl,trivial⟩ (by omega) ⟨by omega,q9,FI,fun i h1 h2 => ?_⟩;by_cases e:i=k+j
    ·subst e;exact hp
    ·exact hI i h1 (by omega)
   ·rw [hp] at I7;repeat' (first|refine Wz ?_|refine SW.st (ax rfl (I7)) rfl ?_|(refine SW.st (mK (k+j) rfl rfl rfl (by omega)) rfl ?_))
    subst hN;refine SW.bp (i:=256) hB rfl rfl rfl (by rw [n8];rfl) fun w3 q9 CU => ?_
    rw [nT] at q9;clear hw;have hw:=Ext.refl w3;refine Wz ?_;exact ae.HN rfl ⟨_,rfl,_,true,q9,bR hg CU (.inl rfl),.inr ⟨(fun h=>by have:=h.2.2.2 (k+j) (by omega) (by omega);rw [hp] at this;cases this),rfl⟩⟩
  ·obtain rfl:j=m:=by omega
   refine Wz ?_;exact ae.uj rfl ⟨_,rfl,_,bad,hB,hg,.inl ⟨⟨h1,h2,h3,fun i h4 h5=>hI i (by omega) (by omega)⟩,rfl,rfl⟩⟩
 ·have nD : ¬ Lk p a n:=fun h=>gR ⟨h.1,h.2.1,h.2.2.1⟩
  subst hN;repeat' (first|refine Wz ?_|refine SW.en rfl rfl rfl (fun h => ?_) (fun h => ?_))
  all_goals
   first
    | (exfalso;omega)
    | (refine SW.bp (i:=256) hB rfl rfl rfl (by rw [n8];rfl) fun w3 q9 CU => ?_
       rw [nT] at q9;clear hw;have hw:=Ext.refl w3;refine Wz ?_;exact ae.HN rfl ⟨_,rfl,_,true,q9,CU,.inr ⟨nD,rfl⟩⟩)
def mL (o t:Int) (b:Block) : Bool:=decide (b.Order=o) && decide (b.Ty=t)
theorem sy {o t:Int} {b:Block}:mL o t b=true↔b.Order=o∧b.Ty=t:=by simp [mL]
def sA (t:Int) : Int:=if t=2 then 0 else 2
def sB (t:Int) : Int:=if t=1 then 0 else 1
def n9 (o:Int) (n:Nat) : Int:=if n<5 then o+n else 4-(((n-5) / 2:Nat) : Int)
def Dv (t:Int) (n:Nat) : Int:=if n<5 then t else if (n-5) % 2=0 then sA t else sB t
def gw (l:List Block) (o t:Int) (n:Nat) : Bool:=decide (o≤n9 o n∧n9 o n≤4) && l.any (mL (n9 o n) (Dv t n))
theorem oS {o:Int} {j:Nat} (h:j<5) : n9 o j=o+j:=by unfold n9;rw [if_pos h]
theorem rG {o:Int} {j:Nat}:n9 o (5+2*j)=4-(j:Int):=by unfold n9;rw [if_neg (by omega)];omega
theorem rH {o:Int} {j:Nat}:n9 o (5+2*j+1)=4-(j:Int):=by unfold n9;rw [if_neg (by omega)];omega
theorem vU {t:Int} {j:Nat} (h:j<5) : Dv t j=t:=by unfold Dv;rw [if_pos h]
theorem vV {t:Int} {j:Nat}:Dv t (5+2*j)=sA t:=by unfold Dv;rw [if_neg (by omega),if_pos (by omega)]
theorem vW {t:Int} {j:Nat}:Dv t (5+2*j+1)=sB t:=by unfold Dv;rw [if_neg (by omega),if_neg (by omega)]
theorem Dw {l:List Block} {o t:Int} {j:Nat} (h:j<5) (ho:o+j≤4) : gw l o t j=l.any (mL (o+j) t):=by
 unfold gw;rw [oS h,vU h,decide_eq_true (by omega),Bool.true_and]
theorem Dx {l:List Block} {o t:Int} {j:Nat} (ho:o≤4-(j:Int)) : gw l o t (5+2*j)=l.any (mL (4-(j:Int)) (sA t)):=by
 unfold gw;rw [rG,vV,decide_eq_true (by omega),Bool.true_and]
theorem Dy {l:List Block} {o t:Int} {j:Nat} (ho:o≤4-(j:Int)) : gw l o t (5+2*j+1)=l.any (mL (4-(j:Int)) (sB t)):=by
 unfold gw;rw [rH,vW,decide_eq_true (by omega),Bool.true_and]
theorem xp {l:List Block} {o t:Int} {n:Nat} (h : ¬ (o≤n9 o n∧n9 o n≤4)) : gw l o t n=false:=by
 unfold gw;rw [decide_eq_false h,Bool.false_and]
inductive ie (l:List Block) (o t:Int) : Option (Nat×Bool)→Prop
 | hit {n k:Nat} (hn:n<15) (ht:gw l o t n=true) (hf:∀ m,m<n→gw l o t m=false) (hk:k<l.length) (hp:mL (n9 o n) (Dv t n) l[k]=true) (hg:∀ (j:Nat) (hj:j<l.length),j<k→mL (n9 o n) (Dv t n) l[j]=false) : ie l o t (some (k,decide (5≤n)))
 | Dz (hf:∀ m,m<15→gw l o t m=false) : ie l o t none
theorem ie.mo {l:List Block} {o t:Int} {u v:Option (Nat×Bool)} (a:ie l o t u) (b:ie l o t v) : u=v:=by
 cases a with
 | @hit n k hn ht hf hk hp hg =>
   cases b with
   | @hit n' k' DA mg yT kj BC CU =>
     rcases Nat.lt_trichotomy n n' with h|h|h
     ·rw [yT n h] at ht;cases ht
     ·subst h;rcases Nat.lt_trichotomy k k' with h|h|h
      ·rw [CU k hk h] at hp;cases hp
      ·subst h;rfl
      ·rw [hg k' kj h] at BC;cases BC
     ·rw [hf n' h] at mg;cases mg
   | Dz yT=>rw [yT n hn] at ht;cases ht
 | Dz hf =>
   cases b with
   | @hit n' k' DA mg yT kj BC CU=>rw [hf n' DA] at mg;cases mg
   | Dz=>rfl
theorem ie.ord {l:List Block} {o t:Int} {k:Nat} {s:Bool} (a:ie l o t (some (k,s))) : ∃ hk:k<l.length,o≤l[k].Order∧l[k].Order≤4:=by
 cases a with
 | hit hn ht hf hk hp hg =>
   refine ⟨hk,?_⟩;unfold gw at ht;rw [Bool.and_eq_true] at ht;have h1:=of_decide_eq_true ht.1;have h2:=(sy.1 hp).1;omega
def FK (f to t:Int) (x:Block) : Block:=if f≤x.At∧x.At+pw x.Order≤to then ⟨x.At,x.Order,t⟩ else x
def xq (b:Block) : Int:=if b.Order=4 then b.At+16 else b.At / 8*8+8
def fF (l:List Block) (b:Block) (t:Int) : List Block:=if b.Order<2 then l else l.map (FK (b.At / 8*8) (xq b) t)
def oT (z:ab) (b:Block) : Nat:=((b.At-z.aw) / 8).toNat
def gD (z:ab) (b:Block) (t:Int) : List Int:=if b.Order<2 then z.Types else if b.Order=4 then (z.Types.set (oT z b) t).set (oT z b+1) t else z.Types.set (oT z b) t
theorem jG (f to t:Int) (x:Block) : (FK f to t x).At=x.At∧(FK f to t x).Order=x.Order:=by
 unfold FK;split<;>exact ⟨rfl,rfl⟩
theorem zf (l:List Block) (b:Block) (t:Int) : (fF l b t).length=l.length:=by unfold fF;split<;>simp
theorem zg {l:List Block} {b:Block} {t:Int} (h:mE l) : mE (fF l b t):=by
 unfold fF;split
 ·exact h
 ·unfold mE at *;rw [List.pairwise_map];refine h.imp fun {x y} L8 => ?_
  rw [(jG _ _ _ x).1,(jG _ _ _ x).2,(jG _ _ _ y).1];exact L8
theorem zh {f u:Int} {l:List Block} {b:Block} {t:Int} (h:∀ x∈l,fv f u x) (ht:fR t) : ∀ x∈fF l b t,fv f u x:=by
 unfold fF;split
 ·exact h
 ·intro x hx;obtain ⟨y,hy,rfl⟩:=List.mem_map.1 hx;have hk:=h y hy;unfold fv at *;rw [(jG _ _ _ y).1,(jG _ _ _ y).2];refine ⟨hk.1,?_⟩;unfold FK;split
  ·exact ht
  ·exact hk.2
def jl (ty a q:Int) : Block:=⟨a+pw (q-1),q-1,ty⟩
def mM (ty a q:Int) (l:List Block) : List Block:=aH l (aZ l (a+pw (q-1))) (jl ty a q)
def gk (ty a:Int) : Nat→Int→List Block→List Block
 | 0,_,l=>l
 | f+1,q,l=>gk ty a f (q-1) (mM ty a q l)
def oa (z:ab) (t:Int) (st:Bool) (b:Block) : Int:=if st=true∧2≤b.Order then t else b.Ty
def lx (z:ab) (o t:Int) (b:Block) (k:Nat) (st:Bool) : ab :=
 ⟨z.aw,z.To,gk (oa z t st b) b.At (b.Order-o).toNat b.Order ((if st=true then fF z.ag b t else z.ag).eraseIdx k),if st=true then gD z b t else z.Types⟩
inductive dA (z:ab) (o t:Int) : ab×Int×Int→Prop
 | bad (h:df z=false) : dA z o t (.zero,0,8)
 | range (h:df z=true) (ho : ¬ (0≤o∧o≤4)) : dA z o t (.zero,0,1)
 | kind (h:df z=true) (ho : 0≤o∧o≤4) (ht : ¬ fR t) : dA z o t (.zero,0,2)
 | room (h:df z=true) (ho : 0≤o∧o≤4) (ht:fR t) (hp:ie z.ag o t none) : dA z o t (.zero,0,6)
 | ok {k:Nat} {st:Bool} (h:df z=true) (ho : 0≤o∧o≤4) (ht:fR t) (hk:k<z.ag.length) (hp:ie z.ag o t (some (k,st))) : dA z o t (lx z o t z.ag[k] k st,z.ag[k].At,0)
theorem dA.mo {z:ab} {o t:Int} {u v:ab×Int×Int} (a:dA z o t u) (b:dA z o t v) : u=v:=by
 cases a with
 | bad h=>cases b with
   | bad=>rfl
   | range h'|kind h'|room h'|ok h'=>rw [h] at h';cases h'
 | range h ho=>cases b with
   | bad h'=>rw [h] at h';cases h'
   | range=>rfl
   | kind _ sb|room _ sb|ok _ sb=>exact absurd sb ho
 | kind h ho ht=>cases b with
   | bad h'=>rw [h] at h';cases h'
   | range _ sb=>exact absurd ho sb
   | kind=>rfl
   | room _ _ mg|ok _ _ mg=>exact absurd mg ht
 | room h ho ht hp=>cases b with
   | bad h'=>rw [h] at h';cases h'
   | range _ sb=>exact absurd ho sb
   | kind _ _ mg=>exact absurd ht mg
   | room=>rfl
   | ok _ _ _ _ BC=>cases hp.mo BC
 | ok h ho ht hk hp=>cases b with
   | bad h'=>rw [h] at h';cases h'
   | range _ sb=>exact absurd ho sb
   | kind _ _ mg=>exact absurd ht mg
   | room _ _ _ BC=>cases hp.mo BC
   | ok _ _ _ _ BC=>cases hp.mo BC;rfl
theorem nU {α:Type} {l:List α} {i:Nat} {x y : α}:y∈aH l i x↔y=x∨y∈l:=by
 have e:l=l.take i++l.drop i:=(List.take_append_drop i l).symm
 unfold aH;constructor
 ·intro h;simp only [List.mem_append,List.mem_singleton] at h;rcases h with (h|h)|h
  ·exact .inr (List.mem_of_mem_take h)
  ·exact .inl h
  ·exact .inr (List.mem_of_mem_drop h)
 ·intro h;simp only [List.mem_append,List.mem_singleton];rcases h with h|h
  ·exact .inl (.inr h)
  ·rw [e,List.mem_append] at h;rcases h with h|h
   ·exact .inl (.inl h)
   ·exact .inr h
theorem BG {f t:Int} {l:List Block} {y:Block} (hu:mE l) (hb:∀ b∈l,fv f t b) (hy : 0≤y.Order∧y.Order≤4) (hd:∀ b∈l,b.At+pw b.Order≤y.At∨y.At+pw y.Order≤b.At) : mE (aH l (aZ l y.At) y):=by
 have e:l=l.take (aZ l y.At)++l.drop (aZ l y.At):=(List.take_append_drop _ l).symm
 have h0:=hu;unfold mE at h0;rw [e,List.pairwise_append] at h0;obtain ⟨h1,h2,h3⟩:=h0
 have hA:∀ x∈l.take (aZ l y.At),x.At+pw x.Order≤y.At:=fun x hx=>by
  obtain ⟨j,hj,rfl⟩:=List.getElem_of_mem hx;simp only [List.length_take] at hj;rw [List.getElem_take];have dg:=kF (l:=l) (a:=y.At) (k:=j) (by omega);have hp:=bM hy.1 hy.2;rcases hd _ (List.getElem_mem (show j<l.length by omega)) with h|h<;>omega
 have hB:∀ x∈l.drop (aZ l y.At),y.At+pw y.Order≤x.At:=fun x hx=>by
  obtain ⟨j,hj,rfl⟩:=List.getElem_of_mem hx;simp only [List.length_drop] at hj;rw [List.getElem_drop];have Fx:=xg (l:=l) (a:=y.At) (by omega)
  have hle:(l[aZ l y.At]'(by omega)).At≤(l[aZ l y.At+j]'(by omega)).At:=by
   rcases Nat.eq_zero_or_pos j with rfl|GL
   ·exact Int.le_refl _
   ·have:=fI hu (show aZ l y.At+j<l.length by omega) (show aZ l y.At<aZ l y.At+j by omega)
    have:=bM (hb _ (List.getElem_mem (show aZ l y.At<l.length by omega))).1.1 (hb _ (List.getElem_mem (show aZ l y.At<l.length by omega))).1.2.1
    omega
  have hm:=List.getElem_mem (show aZ l y.At+j<l.length by omega);have:=bM (hb _ hm).1.1 (hb _ hm).1.2.1
  rcases hd _ hm with h|h<;>omega
 unfold aH mE;rw [List.append_assoc,List.pairwise_append];refine ⟨h1,?_,fun a ha b lV => ?_⟩
 ·rw [List.singleton_append,List.pairwise_cons];exact ⟨hB,h2⟩
 ·rw [List.singleton_append,List.mem_cons] at lV;rcases lV with rfl|lV
  ·exact hA a ha
  ·exact h3 a ha b lV
theorem xr {f t:Int} {l:List Block} {a q ty:Int} (h:xf f t l a q) (h0 : 0≤f) (ht:t≤256) (HO:t % 16=0) (hq : 1≤q) (rD:fR ty) : xf f t (mM ty a q l) a (q-1)∧(∀ b∈l,b.At≠a+pw (q-1)):=by
 obtain ⟨f1,f2,f3,f4,f5⟩:=h.fit
 have hp:pw q=2*pw (q-1):=by
  have:=iI (o:=q-1) (by omega) (by omega)
  rwa [Int.sub_add_cancel] at this
 have hm:a % pw (q-1)=0∧(a+pw (q-1)) % pw (q-1)=0∧1≤pw (q-1)∧a+pw (q-1)<t:=by
  rcases dl f1 f2 with ⟨e1,e2⟩|⟨e1,e2⟩|⟨e1,e2⟩|⟨e1,e2⟩|⟨e1,e2⟩
  all_goals
   rw [e2] at f5 hp
   first
    | omega
    | (have e3:pw (q-1)=1:=by omega
       rw [e3];omega)
    | (have e3:pw (q-1)=2:=by omega
       rw [e3];omega)
    | (have e3:pw (q-1)=4:=by omega
       rw [e3];omega)
    | (have e3:pw (q-1)=8:=by omega
       rw [e3];omega)
 obtain ⟨m1,m2,m3,m4⟩:=hm
 have hd:∀ b∈l,b.At+pw b.Order≤a+pw (q-1)∨a+pw (q-1)+pw (q-1)≤b.At:=fun b hb=>by
  rcases h.Dk b hb with g|g<;>omega
 have cr:∀ b∈l,b.At≠a+pw (q-1):=fun b hb e=>by
  have:=bM (h.cU b hb).1.1 (h.cU b hb).1.2.1
  rcases h.Dk b hb with g|g<;>omega
 refine ⟨⟨?_,fun b hb => ?_,⟨by omega,by omega,f3,f4,m1⟩,fun b hb => ?_⟩,cr⟩
 ·exact BG (y:=jl ty a q) h.mE h.cU ⟨by simp only [jl];omega,by simp only [jl];omega⟩ hd
 ·rcases nU.1 hb with rfl|hb
  ·exact ⟨⟨by simp only [jl];omega,by simp only [jl];omega,by simp only [jl];omega,m4,m2⟩,rD⟩
  ·exact h.cU b hb
 ·rcases nU.1 hb with rfl|hb
  ·right;simp only [jl];omega
  ·rcases h.Dk b hb with g|g<;>omega
theorem BH (ty a q:Int) (l:List Block) : (mM ty a q l).length=l.length+1:=by
 have:=AK l (a+pw (q-1))
 unfold mM aH;simp;omega
theorem uJ {f t:Int} {l:List Block} (hu:mE l) (hb:∀ b∈l,fv f t b) {k:Nat} (hk:k<l.length) : xf f t (l.eraseIdx k) l[k].At l[k].Order:=by
 have hs:∀ b∈l.eraseIdx k,b∈l:=fun b h=>List.mem_of_mem_eraseIdx h
 refine ⟨?_,fun b h=>hb b (hs b h),(hb _ (List.getElem_mem hk)).1,fun b h => ?_⟩
 ·unfold mE at *;exact hu.sublist (List.eraseIdx_sublist l k)
 ·obtain ⟨j,hj,rfl⟩:=List.getElem_of_mem h;have hlen:=List.length_eraseIdx_of_lt hk;rw [List.getElem_eraseIdx];split
  ·rename_i kB;exact .inl (fI hu hk kB)
  ·rename_i kB;exact .inr (fI hu (by omega) (by omega))
theorem DB {l:List Block} {o t:Int} {j m:Nat} (hm : 5+2*j≤m) (ho : 4-(j:Int)<o) : gw l o t m=false :=
 xp (by unfold n9;rw [if_neg (by omega)];omega)
theorem FL {b:Block} (h2 : 2≤b.Order) (h4:b.Order≤4) (hm:b.At % pw b.Order=0) : b.At / 8*8≤b.At∧b.At+pw b.Order≤xq b:=by
 unfold xq;rcases dl (show 0≤b.Order by omega) h4 with ⟨e1,e2⟩|⟨e1,e2⟩|⟨e1,e2⟩|⟨e1,e2⟩|⟨e1,e2⟩<;>rw [e2] at hm ⊢<;>split<;>omega
def fb (z:ab) (b:Block) (t:Int) (st:Bool) : List Block:=if st=true then fF z.ag b t else z.ag
theorem mN {z:ab} (hz:aU z) {b:Block} {t:Int} (ht:fR t) (st:Bool) : (fb z b t st).length=z.ag.length∧mE (fb z b t st) ∧ ∀ x∈fb z b t st,fv z.aw z.To x:=by
 have hb:∀ x∈z.ag,fv z.aw z.To x:=fun x hx=>by
  obtain ⟨i,hi,rfl⟩:=List.getElem_of_mem hx;exact hz.cU i hi
 unfold fb;split
 ·exact ⟨zf _ _ _,zg (kE hz),zh hb ht⟩
 ·exact ⟨rfl,kE hz,hb⟩
theorem ns {z:ab} (hz:aU z) {t:Int} (ht:fR t) (st:Bool) {k:Nat} (hk:k<z.ag.length) :
 (fb z z.ag[k] t st)[k]'(by rw [(mN hz ht st).1];exact hk)=⟨z.ag[k].At,z.ag[k].Order,oa z t st z.ag[k]⟩:=by
 obtain ⟨f1,f2,f3,f4,f5⟩:=(hz.cU k hk).1;unfold fb oa;cases st
 ·simp
 ·simp only [if_true,true_and];unfold fF;by_cases h2:z.ag[k].Order<2
  ·simp only [if_pos h2,if_neg (show ¬ 2≤z.ag[k].Order by omega)]
  ·simp only [if_neg h2,if_pos (show 2≤z.ag[k].Order by omega),List.getElem_map];unfold FK;rw [if_pos (FL (by omega) f2 f5)]
end Go.Proofs.YtbidkghlpijecaaGreatDoor
