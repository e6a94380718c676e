/-
  Texts of the claim TopProcessors, part 6: what its theorem leans on.
-/
import Derived.Test.YtbidkghlpijecaaGreatDoorPackTopProcessors5
import Derived.Test.YtbidkghlpijecaaGreatDoorPackTopProcessors2
import Derived.Test.YtbidkghlpijecaaGreatDoorPackTopProcessors3
import Derived.Test.YtbidkghlpijecaaGreatDoorPackTopProcessors4
set_option linter.unusedVariables false
set_option linter.unusedSimpArgs false
namespace Go.Proofs.YtbidkghlpijecaaGreatDoor
open Go.RowKit
structure ES (z:ao) (a o:Int) (f:Nat) (l:List Block) (a' o':Int) : Prop where
 ok:Ar z.aK z.To l a' o'
 eq:fV 5 z.aj a o=fV f l a' o'
 fuel : 5≤(f:Int)+o'
 len:l.length≤z.aj.length
theorem ES.stop {z:ao} {a o:Int} {f:Nat} {l:List Block} {a' o':Int} (h:ES z a o f l a' o') (ho : ¬ o'<4∨l.any (xe (beside a' o') o')=false) : fV 5 z.aj a o=(l,a',o'):=by
 rw [h.eq];cases f with
 | zero=>rfl
 | succ f =>
   simp only [fV];rcases ho with h1|h1
   ·rw [if_neg h1]
   ·simp [h1]
theorem ES.next {z:ao} {a o:Int} {f:Nat} {l:List Block} {a' o':Int} (h:ES z a o f l a' o') (h0 : 0≤z.aK) (ho:o'<4) (fJ:l.any (xe (beside a' o') o')=true) : ∃ f',ES z a o f' (ku l (beside a' o') o') (min a' (beside a' o')) (o'+1):=by
 have hf:=h.fuel;obtain ⟨g,rfl⟩ : ∃ g,f=g+1:=⟨f-1,by omega⟩;refine ⟨g,h.ok.step h0 ho fJ,?_,by omega,Nat.le_trans (List.length_filter_le _ _) h.len⟩;rw [h.eq];simp only [fV,if_pos ho,fJ,if_true]
set_option maxHeartbeats 8000000 in
theorem mG (r:cU) (z:ao) (a o:Int) (w:World) (hr:Ca w r z) (hf:(r.aj.n+1)*24≤140737488355328) (ht:r.Types.n*8≤140737488355328) (h1 : -9223372036854775808≤r.aK∧r.aK≤9223372036854775807) (h2 : -9223372036854775808≤r.To∧r.To≤9223372036854775807) :
 bq Tryz.prog 192 [.agg (bX r).toArray,.int .i64 a,.int .i64 o] w (q9 w.heap.size (ee z a o)):=by
 refine aG Tryz.func192 rfl Tryz.ntmps192 rfl ?_;refine CW.seq (CW.region (SW.box rfl rfl fun b3 w1 hw bQ ax => ?_));refine SW.alloc rfl fun b6 w2 bF eu aA => ?_
 have dl:w.heap.size≤b6:=Nat.le_trans hw.size eu
 have lB:b3≠b6:=by have:=ax.lt;omega
 (replace hw:=Ext.trans hw bF;replace ax:=ax.ext bF);have eF:=hr.from_;have eT:=hr.lV;have IP:=hr.free.len;have MX:=hr.types.len;obtain ⟨q,hq⟩ : ∃ q,dO z=q:=⟨_,rfl⟩
 have c1:∀ w',Ext w w'→bq Tryz.prog 176 [.agg (bX r).toArray] w' fun v _=>v = .int .i64 (if q then 0 else 8):=fun w' h=>by
  have:=jg r z w' (hr.ext h) (by omega) (by omega) h1 h2
  rwa [hq] at this
 cases q
 ·simp only [Bool.false_eq_true,if_false] at c1;rw [rb hq];repeat' (first|refine Wz ?_|(refine SW.call rfl rfl (c1 _ hw) ?_;intro v w1 ae hv;subst hv;replace hw:=Ext.trans hw ae;replace ax:=ax.ext ae;replace aA:=aA.ext ae;clear ae))
  refine SW.ak aA rfl rfl rfl rfl (dr .zero) fun w5 bU hg => ?_
  replace hw:=hw.own dl hg;refine Wz ?_;exact ah.cX rfl rfl rfl bU rfl ⟨_,rfl,hw,.zero,rfl,fc.zero _ _⟩
 ·simp only [if_true] at c1;have hz:=ed.1 hq;obtain ⟨o1,o2,o3,o4,o5⟩:=hz.ok;repeat' (first|refine Wz ?_|(refine SW.call rfl rfl (c1 _ hw) ?_;intro v w1 ae hv;subst hv;replace hw:=Ext.trans hw ae;replace ax:=ax.ext ae;replace aA:=aA.ext ae;clear ae))
  clear c1;refine SW.alloc rfl fun b9 w1 ae oe dg => ?_
  skip;refine SW.ak dg rfl rfl rfl rfl (fP.one (enc:=aL) ⟨a,o,0⟩) fun w2 ji hg => ?_
  have ap:=ae.own oe hg;have re:w.heap.size≤b9:=Nat.le_trans hw.size oe
  replace hw:=Ext.trans hw ap;replace ax:=ax.ext ap;replace aA:=aA.ext ap;replace dg:=ji;clear ji ae hg ap
  have cF:∀ w',bq Tryz.prog 229 [.agg (bX r).toArray,.agg (aL ⟨a,o,0⟩).toArray] w' fun v _=>v = .bool (decide (fU z.aK z.To a o)):=fun w'=>by
   have:=pA r ⟨a,o,0⟩ w' (by omega)
   rwa [eF,eT] at this
  by_cases mn:fU z.aK z.To a o
  ·rw [decide_eq_true mn] at cF;obtain ⟨f1,f2,f3,f4,f5⟩:=id mn
   have cC:∀ w',Ext w w'→aW w' b9 165 (aL ⟨a,o,0⟩)→bq Tryz.prog 226 [.slice r.aj.A r.aj.n r.aj.c,.func (.func 233) #[] [.pointer (some ⟨b9,0,none⟩)].toArray] w' fun v _=>v = .bool (iC z.aj a o):=fun w' hx h9 =>
    oc _ _ _ _ _ (hr.free.ext hx) _ [.pointer (some ⟨b9,0,none⟩)] (fun x=>decide (x.At<a+pw o) && decide (a<x.At+pw x.Order)) (fun x => .agg (aL x).toArray) (fun x=>rfl)
     (fun x Tc w1 jn=>by
       obtain ⟨i,hi,rfl⟩:=List.getElem_of_mem Tc;obtain ⟨g1,g2,g3,g4,g5⟩:=(hz.dD i hi).1;exact ER a o b9 _ w1 (h9.ext jn) ⟨f1,f2⟩ ⟨by omega,by omega⟩ ⟨by omega,by omega⟩ ⟨g1,g2⟩) (by omega)
   cases EP:iC z.aj a o
   ·rw [EP] at cC;have PP:=vw (f:=0) (t:=0) hz mn EP;repeat' (first|refine Wz ?_|(refine CW.di rfl ?_)|((first|refine SW.call rfl rfl (cF _) ?_|refine SW.call rfl rfl (cC _ hw dg) ?_);intro v w1 ae hv;subst hv;replace hw:=Ext.trans hw ae;replace ax:=ax.ext ae;replace aA:=aA.ext ae;replace dg:=dg.ext ae;clear ae)|(refine SW.st (gI (vs:=[.pointer (some ⟨b9,0,none⟩)]) rfl) rfl ?_))
    have NA:b9+1≤_:=dg.lt
    refine SW.call rfl rfl (pu r z _ (hr.ext hw) (by omega) ht) fun v w4 eM hv => ?_
    obtain ⟨s,rfl,hs,e1,e2⟩:=hv;replace hs:=hs.low NA;(replace hw:=Ext.trans hw eM;replace ax:=ax.ext eM;replace aA:=aA.ext eM;replace dg:=dg.ext eM);clear NA cC cF;skip;refine SW.ak ax rfl rfl rfl rfl (dr s) fun w5 cW hg => ?_
    have hG:=ax.gr hg;replace hw:=hw.own bQ hg;(replace dg:=dg.aw hG rfl);have hX:=hs.free.aw hG rfl;have hT:=hs.types.aw hG rfl;replace aA:=aA.grown hg (by simpa using lB.symm);replace ax:=cW;have es:s.aj.n=z.aj.length:=by rw [e1,IP]
    have Td:s=⟨s.aK,s.To,⟨s.aj.A,z.aj.length,s.aj.c⟩,s.Types⟩:=by rw [← es]
    have sF:=hs.from_;have sT:=hs.lV;rw [es] at hX;rw [Td] at ax;clear cW hg hG hs;refine Wz ?_
    obtain ⟨K,hK⟩ : ∃ K:Env→World→Prop,K=fun L' w' => ∃ l a' o' A c,jd L' [(3,.pointer (some ⟨b3,0,none⟩)),(6,.pointer (some ⟨b6,0,none⟩)),(9,.pointer (some ⟨b9,0,none⟩))]∧Ext w w'∧aW w' b3 139 [.int .i64 s.aK,.int .i64 s.To,.slice A l.length c,.slice s.Types.A s.Types.n s.Types.c]∧aW w' b6 139 (bX .zero)∧aW w' b9 165 [.int .i64 a',.int .i64 o',.int .i64 0] ∧
     Own w' (b9+1) 165 3 aL A l.length c l∧Own w' (b9+1) 3 1 bK s.Types.A s.Types.n s.Types.c z.Types∧Ar z.aK z.To l a' o'∧fV 5 z.aj a o=(l,a',o')∧l.length≤z.aj.length:=⟨_,rfl⟩
    refine CW.Lu K ?_ ?_
    ·refine CW.loop (fun u:Nat×List Block×Int×Int×Option Addr×Nat=>[(3,.pointer (some ⟨b3,0,none⟩)),(6,.pointer (some ⟨b6,0,none⟩)),(9,.pointer (some ⟨b9,0,none⟩))])
      (fun u w'=>Ext w w'∧aW w' b3 139 [.int .i64 s.aK,.int .i64 s.To,.slice u.2.2.2.2.1 u.2.1.length u.2.2.2.2.2,.slice s.Types.A s.Types.n s.Types.c]∧aW w' b6 139 (bX .zero)∧aW w' b9 165 [.int .i64 u.2.2.1,.int .i64 u.2.2.2.1,.int .i64 0] ∧
        Own w' (b9+1) 165 3 aL u.2.2.2.2.1 u.2.1.length u.2.2.2.2.2 u.2.1∧Own w' (b9+1) 3 1 bK s.Types.A s.Types.n s.Types.c z.Types∧ES z a o u.1 u.2.1 u.2.2.1 u.2.2.2.1) (fun u=>(5-u.2.2.2.1).toNat) (5,z.aj,a,o,s.aj.A,s.aj.c)
      ⟨rfl,rfl,rfl,trivial⟩ ⟨hw,ax,aA,dg,hX,hT,⟨PP,rfl,by simp only;omega,Nat.le_refl _⟩⟩ ?_
     clear hw ax aA dg hX hT PP;rintro ⟨f,l,a',o',A,c⟩ w' ⟨hw,ax,aA,dg,hX,hT,hJ⟩
     simp only at ax dg hX hJ ⊢;obtain ⟨k1,k2,k3,k4,k5⟩:=hJ.ok.fit;have hlen:=hJ.len;have hp:=bT k1 k2;by_cases LB:o'<4
     ·obtain ⟨m1,m2,m3⟩:=vv (by omega) k1 LB k5;generalize Ay:beside a' o'=ss at m1 m2 m3
      have IQ:=EN hJ.ok.oE hJ.ok.dD ss o'
      have cD:∀ w1,Ext w' w1→bq Tryz.prog 234 [.agg (bX ⟨s.aK,s.To,⟨A,l.length,c⟩,s.Types⟩).toArray,.int .i64 ss] w1 fun v _=>v = .tuple #[.int .i64 (bi l ss:Int),.bool (br l ss)]:=fun w1 hx =>
       sq ⟨s.aK,s.To,⟨A,l.length,c⟩,s.Types⟩ l z.aK z.To ss w1 (hX.sl.ext hx) hJ.ok.oE hJ.ok.dD o1 (by omega) (by simp only;omega) ⟨by omega,by omega⟩
      by_cases vA:bi l ss<l.length∧(∀ h:bi l ss<l.length,(l[bi l ss]).At=ss∧(l[bi l ss]).Order=o')
      ·obtain ⟨vA,hh⟩:=vA;obtain ⟨lP,su⟩:=hh vA;have LC:br l ss=true:=by unfold br;rw [dif_pos vA];exact decide_eq_true lP
       have PQ:sn l ss o'=true:=by unfold sn;rw [dif_pos vA];exact decide_eq_true ⟨lP,su⟩
       rw [PQ] at IQ;rw [LC] at cD;have Te:=xl hJ.ok.oE hJ.ok.dD vA lP su;have hA:=hX.sl.base;generalize zf:bi l ss=lb at *
       have MY:∀ x,x=beside a' o'→x=ss:=fun x e=>e.trans Ay
       refine Wz ?_;(apply CW.bl mixed;(· kernel_rfl);rotate_left;intro w1 ae;replace hw:=Ext.trans hw ae;replace ax:=ax.ext ae;replace aA:=aA.ext ae;replace dg:=dg.ext ae;replace hX:=hX.ext ae;replace hT:=hT.ext ae;clear ae;rotate_right);repeat' (first|refine Wz ?_|refine SW.cx rfl rfl (fun w1 ae=>(cD _ ae)) ?_|(refine SW.st (fb (r:=pw o') rfl rfl (by omega) (by omega) (by simp [pw]) (by omega) (by omega)) rfl ?_)|(refine SW.st ((ll a' o' rfl rfl rfl rfl ⟨by omega,by omega,k1,LB,k5⟩).eq (congrArg (Value.int .i64) Ay)) rfl ?_)|exact SW.dF rfl)
       (apply CW.bl mixed;(· kernel_rfl);rotate_left;intro w1 ae;replace hw:=Ext.trans hw ae;replace ax:=ax.ext ae;replace aA:=aA.ext ae;replace dg:=dg.ext ae;replace hX:=hX.ext ae;replace hT:=hT.ext ae;clear ae;rotate_right);repeat' (first|refine Wz ?_|refine SW.want rfl rfl ?_|refine SW.st (aq rfl (hX.sl.fw vA rfl)) rfl ?_|exact SW.dF rfl)
       refine CW.any 8 mixed (da (by kernel_rfl)) rfl fun w1 ae aJ => ?_
       replace hw:=Ext.trans hw ae;replace ax:=ax.ext ae;replace aA:=aA.ext ae;replace dg:=dg.ext ae;replace hX:=hX.ext ae;replace hT:=hT.ext ae;clear ae;refine Wa ?_;refine SA.take 7 aJ rfl (by kernel_rfl) (by kernel_rfl) rfl ?_;repeat ((show SW _ _ _ _ (⟨_,Op.load _ _,_,_,_,none⟩::_) _ _;refine SW.st (aq rfl (hX.sl.fw vA rfl)) rfl ?_))
       refine SW.ai ?_;refine SA.done (by kernel_rfl) ?_;repeat' (first|refine Wz ?_|(refine SW.st (yY rfl rfl) rfl ?_))
       refine SW.bz (i:=0) dg rfl rfl rfl rfl fun w5 ji hg => ?_
       have hG:=dg.gr hg;replace hw:=hw.own re hg;replace hX:=hX.grown hg (.inr (fun e=>by have:=hX.bc _ e;omega));(replace ax:=ax.aw hG rfl;replace aA:=aA.aw hG rfl;replace hT:=hT.aw hG rfl);replace dg:=ji;clear ji hg hG;refine Wz ?_;refine SW.bz (i:=1) dg rfl rfl rfl rfl fun w5 ji hg => ?_
       have hG:=dg.gr hg;replace hw:=hw.own re hg;replace hX:=hX.grown hg (.inr (fun e=>by have:=hX.bc _ e;omega));(replace ax:=ax.aw hG rfl;replace aA:=aA.aw hG rfl;replace hT:=hT.aw hG rfl);replace dg:=ji;clear ji hg hG;refine Wz ?_;refine SW.dt rfl rfl (kM A l.length c _ l _ hX lb vA (by omega) (by have:=dg.lt;omega)) fun v w6 hv => ?_
       obtain ⟨rfl,zg,hg⟩:=hv;have hG:=hX.gr hg;replace hw:=aO hw hg (Nat.le_trans re (Nat.le_succ _)) hX.bc;replace dg:=dg.grown hg (fun e=>by have:=hX.bc _ e.symm;omega);(replace ax:=ax.aw hG rfl;replace aA:=aA.aw hG rfl;replace hT:=hT.aw hG rfl);clear hg hG;have xo:l.length-1=(l.eraseIdx lb).length:=by rw [List.length_eraseIdx_of_lt vA]
       rw [xo] at zg;rw [xo];refine Wz ?_;refine SW.bz (i:=2) ax rfl rfl rfl rfl fun w7 cW hg => ?_
       have hG:=ax.gr hg;replace hw:=hw.own bQ hg;replace aA:=aA.grown hg (by simpa using lB.symm);(replace dg:=dg.aw hG rfl;replace zg:=zg.aw hG rfl;replace hT:=hT.aw hG rfl);refine Wz ?_;obtain ⟨f',D4⟩:=hJ.next o1 LB (by rw [Ay];exact IQ)
       rw [Ay,← Te] at D4;refine ah.again (f',l.eraseIdx lb,min a' ss,o'+1,A,c) ⟨rfl,rfl,rfl,trivial⟩ (by simp only;omega) ⟨hw,cW,aA,?_,zg,hT,D4⟩;rw [lP] at dg;exact dg
      ·have PQ:sn l ss o'=false:=by
        unfold sn;by_cases h:bi l ss<l.length
        ·rw [dif_pos h];exact decide_eq_false (fun hh=>vA ⟨h,fun _=>hh⟩)
        ·rw [dif_neg h]
       rw [PQ] at IQ;have xc:=hJ.stop (.inr (by rw [Ay];exact IQ))
       have PR:∀ w1,Ext w w1→aW w1 b3 139 [.int .i64 s.aK,.int .i64 s.To,.slice A l.length c,.slice s.Types.A s.Types.n s.Types.c]→aW w1 b6 139 (bX .zero)→aW w1 b9 165 [.int .i64 a',.int .i64 o',.int .i64 0]→Own w1 (b9+1) 165 3 aL A l.length c l→Own w1 (b9+1) 3 1 bK s.Types.A s.Types.n s.Types.c z.Types → ∀ L',jd L' [(3,.pointer (some ⟨b3,0,none⟩)),(6,.pointer (some ⟨b6,0,none⟩)),(9,.pointer (some ⟨b9,0,none⟩))]→K L' w1:=fun w1 x1 x2 x3 x4 x5 x6 L' x7=>by
        rw [hK];exact ⟨l,a',o',A,c,x7,x1,x2,x3,x4,x5,x6,hJ.ok,xc,hJ.len⟩
       by_cases xo:bi l ss<l.length
       ·have hA:=hX.sl.base;by_cases lP:(l[bi l ss]).At=ss
        ·have su : ¬ (l[bi l ss]).Order=o':=fun h=>vA ⟨xo,fun _=>⟨lP,h⟩⟩
         have LC:br l ss=true:=by unfold br;rw [dif_pos xo];exact decide_eq_true lP
         rw [LC] at cD;generalize zf:bi l ss=lb at *
         repeat' (first|refine Wz ?_|((apply CW.bl mixed;(· kernel_rfl);rotate_left;intro w1 ae;replace hw:=Ext.trans hw ae;replace ax:=ax.ext ae;replace aA:=aA.ext ae;replace dg:=dg.ext ae;replace hX:=hX.ext ae;replace hT:=hT.ext ae;clear ae;rotate_right))|refine SW.want rfl rfl ?_|refine SW.st (aq rfl (hX.sl.fw xo rfl)) rfl ?_|refine SW.cx rfl rfl (fun w1 ae=>(cD _ ae)) ?_|(refine SW.st (fb (r:=pw o') rfl rfl (by omega) (by omega) (by simp [pw]) (by omega) (by omega)) rfl ?_)|(refine SW.st ((ll a' o' rfl rfl rfl rfl ⟨by omega,by omega,k1,LB,k5⟩).eq (congrArg (Value.int .i64) Ay)) rfl ?_)|exact SW.dF rfl)
         exact ah.Av (K:=K) (PR _ hw ax aA dg hX hT _ ⟨rfl,rfl,rfl,trivial⟩)
        ·have LC:br l ss=false:=by unfold br;rw [dif_pos xo];exact decide_eq_false lP
         rw [LC] at cD;generalize zf:bi l ss=lb at *
         repeat' (first|refine Wz ?_|((apply CW.bl mixed;(· kernel_rfl);rotate_left;intro w1 ae;replace hw:=Ext.trans hw ae;replace ax:=ax.ext ae;replace aA:=aA.ext ae;replace dg:=dg.ext ae;replace hX:=hX.ext ae;replace hT:=hT.ext ae;clear ae;rotate_right))|refine SW.skip rfl rfl rfl rfl ?_|refine SW.cx rfl rfl (fun w1 ae=>(cD _ ae)) ?_|(refine SW.st (fb (r:=pw o') rfl rfl (by omega) (by omega) (by simp [pw]) (by omega) (by omega)) rfl ?_)|(refine SW.st ((ll a' o' rfl rfl rfl rfl ⟨by omega,by omega,k1,LB,k5⟩).eq (congrArg (Value.int .i64) Ay)) rfl ?_)|exact SW.dF rfl)
         exact ah.Av (K:=K) (PR _ hw ax aA dg hX hT _ ⟨rfl,rfl,rfl,trivial⟩)
       ·have LC:br l ss=false:=by unfold br;rw [dif_neg xo]
        rw [LC] at cD;generalize zf:bi l ss=lb at *
        repeat' (first|refine Wz ?_|((apply CW.bl mixed;(· kernel_rfl);rotate_left;intro w1 ae;replace hw:=Ext.trans hw ae;replace ax:=ax.ext ae;replace aA:=aA.ext ae;replace dg:=dg.ext ae;replace hX:=hX.ext ae;replace hT:=hT.ext ae;clear ae;rotate_right))|refine SW.skip rfl rfl rfl rfl ?_|refine SW.cx rfl rfl (fun w1 ae=>(cD _ ae)) ?_|(refine SW.st (fb (r:=pw o') rfl rfl (by omega) (by omega) (by simp [pw]) (by omega) (by omega)) rfl ?_)|(refine SW.st ((ll a' o' rfl rfl rfl rfl ⟨by omega,by omega,k1,LB,k5⟩).eq (congrArg (Value.int .i64) Ay)) rfl ?_)|exact SW.dF rfl)
        exact ah.Av (K:=K) (PR _ hw ax aA dg hX hT _ ⟨rfl,rfl,rfl,trivial⟩)
     ·refine Wz ?_;exact ah.Av (K:=K) (by rw [hK];exact ⟨l,a',o',A,c,⟨rfl,rfl,rfl,trivial⟩,hw,ax,aA,dg,hX,hT,hJ.ok,hJ.stop (.inl LB),hJ.len⟩)
    ·clear hw ax aA dg hX hT PP;subst hK;rintro L' w' ⟨l,a',o',A,c,lQ,hw,ax,aA,dg,hX,hT,hJ,NB,hlen⟩
     refine ah.sub lQ ?_;obtain ⟨k1,k2,k3,k4,k5⟩:=hJ.fit;obtain ⟨k,hk,fe⟩:=DS hz k3 k4;have dY:k<s.Types.n:=by omega
     have Tf:=uD hq mn EP NB (t:=z.Types[k]) (by rw [hk];simp [List.getD_eq_getElem?_getD,List.getElem?_eq_getElem fe]);rw [Tf];have PS:l.length≤1000000000000000000:=by omega
     have hA:=hT.sl.base;have Vf:s.aK=z.aK:=sF
     repeat' (first|refine Wz ?_|refine SW.st (aZ (k) rfl rfl (by assumption) (by omega) (by omega)) rfl ?_|refine SW.st (aq rfl (hT.sl.one dY rfl)) rfl ?_)
     refine SW.bz (i:=2) dg rfl rfl rfl rfl fun w5 ji hg => ?_
     have hG:=dg.gr hg;replace hw:=hw.own re hg;replace hX:=hX.grown hg (.inr (fun e=>by have:=hX.bc _ e;omega));(replace ax:=ax.aw hG rfl;replace aA:=aA.aw hG rfl;replace hT:=hT.aw hG rfl);replace dg:=ji;clear ji hg hG;repeat' (first|refine Wz ?_|(refine SW.call rfl rfl (sq ⟨s.aK,s.To,⟨A,l.length,c⟩,s.Types⟩ l z.aK z.To a' _ hX.sl hJ.oE hJ.dD o1 (by omega) PS ⟨by omega,by omega⟩) ?_;intro v w1 ae hv;subst hv;replace hw:=Ext.trans hw ae;replace ax:=ax.ext ae;replace aA:=aA.ext ae;replace dg:=dg.ext ae;replace hX:=hX.ext ae;replace hT:=hT.ext ae;clear ae))
     have dL:=hX.lt_size;refine SW.dR rfl rfl rfl rfl rfl fun vb w6 ap NC Tg => ?_
     (replace hw:=Ext.trans hw ap;replace ax:=ax.ext ap;replace aA:=aA.ext ap;replace dg:=dg.ext ap;replace hX:=hX.ext ap;replace hT:=hT.ext ap);skip;refine SW.dt rfl rfl (gm A l.length c _ l _ hX (bi l a') (DV l a') ⟨a',o',z.Types[k]⟩ vb Tg (fun e=>by have:=dL _ e;omega) (Nat.le_trans (Nat.mul_le_mul_right 24 (by omega)) hf) (by have:=dg.lt;omega)) fun v w7 hv => ?_
     obtain ⟨A2,c2,rfl,zg,hg⟩:=hv;have hG:=hX.gr hg;replace hw:=aO hw hg (Nat.le_trans re (Nat.le_succ _)) hX.bc;replace dg:=dg.grown hg (fun e=>by have:=hX.bc _ e.symm;omega);(replace ax:=ax.aw hG rfl;replace aA:=aA.aw hG rfl;replace hT:=hT.aw hG rfl);clear hg hG;refine Wz ?_;refine SW.bz (i:=2) ax rfl rfl rfl rfl fun w8 cW hg => ?_
     have hG:=ax.gr hg;replace hw:=hw.own bQ hg;replace aA:=aA.grown hg (by simpa using lB.symm);(replace dg:=dg.aw hG rfl;replace zg:=zg.aw hG rfl;replace hT:=hT.aw hG rfl);clear hg hG;refine Wz ?_;refine SW.ak aA rfl rfl rfl rfl (dr ⟨s.aK,s.To,⟨A2,l.length+1,c2⟩,s.Types⟩) fun w9 bU hg => ?_
     have hG:=aA.gr hg;replace hw:=hw.own dl hg;(replace zg:=zg.aw hG rfl;replace hT:=hT.aw hG rfl);refine Wz ?_;exact ah.cX rfl rfl rfl bU rfl ⟨_,rfl,hw,⟨s.aK,s.To,⟨A2,l.length+1,c2⟩,s.Types⟩,rfl,sF,sT,zg.low (by omega),hT.low (by omega)⟩
   ·rw [EP] at cC;rw [ze hq mn EP];repeat' (first|refine Wz ?_|(refine CW.di rfl ?_)|((first|refine SW.call rfl rfl (cF _) ?_|refine SW.call rfl rfl (cC _ hw dg) ?_);intro v w1 ae hv;subst hv;replace hw:=Ext.trans hw ae;replace ax:=ax.ext ae;replace aA:=aA.ext ae;replace dg:=dg.ext ae;clear ae)|(refine SW.st (gI (vs:=[.pointer (some ⟨b9,0,none⟩)]) rfl) rfl ?_))
    refine SW.ak aA rfl rfl rfl rfl (dr .zero) fun w5 bU hg => ?_
    replace hw:=hw.own dl hg;refine Wz ?_;exact ah.cX rfl rfl rfl bU rfl ⟨_,rfl,hw,.zero,rfl,fc.zero _ _⟩
  ·rw [decide_eq_false mn] at cF;rw [uC hq mn];repeat' (first|refine Wz ?_|(refine CW.dh rfl ?_)|(refine SW.call rfl rfl (cF _) ?_;intro v w1 ae hv;subst hv;replace hw:=Ext.trans hw ae;replace ax:=ax.ext ae;replace aA:=aA.ext ae;replace dg:=dg.ext ae;clear ae))
   refine SW.ak aA rfl rfl rfl rfl (dr .zero) fun w5 bU hg => ?_
   replace hw:=hw.own dl hg;refine Wz ?_;exact ah.cX rfl rfl rfl bU rfl ⟨_,rfl,hw,.zero,rfl,fc.zero _ _⟩
open Go.RowKit
def dC (l:List Region) (p:Int) : Bool:=l.any fun r=>decide (r.aK≤p) && decide (p<r.aK+r.aE)
def bump:List Region→List Region
 | []=>[]
 | [r]=>[⟨r.aK,r.aE+1⟩]
 | x::y::l=>x::bump (y::l)
def runs (p:Nat→Bool) : Nat→List Region
 | 0=>[]
 | i+1=>if p i then (if 0<i∧p (i-1)=true then bump (runs p i) else runs p i++[⟨(i:Int),1⟩]) else runs p i
theorem lX:∀ (l:List Region) (r:Region),bump (l++[r])=l++[⟨r.aK,r.aE+1⟩]
 | [],_=>rfl
 | [x],_=>rfl
 | x::y::l,r=>by
   have ih:=lX (y::l) r;simp only [List.cons_append,bump] at ih ⊢;rw [ih]
structure LD (p:Nat→Bool) (k:Nat) (l:List Region) : Prop where
 Kl:∀ r∈l,0≤r.aK∧1≤r.aE∧r.aK+r.aE≤(k:Int)
 len:l.length≤k
 last : 0<k→p (k-1)=true → ∃ init r,l=init++[r]∧r.aK+r.aE=(k:Int)
 below:(0<k→p (k-1)=false) → ∀ r∈l,r.aK+r.aE<(k:Int)
 sep:l.Pairwise fun a b=>a.aK+a.aE<b.aK
 iff:∀ i:Nat,i<k→(p i=true ↔ ∃ r∈l,r.aK≤(i:Int)∧(i:Int)<r.aK+r.aE)
theorem rf (p:Nat→Bool) : ∀ k,LD p k (runs p k)
 | 0=>⟨by simp [runs],by simp [runs],by simp,by simp [runs],by simp [runs],by simp⟩
 | k+1=>by
   have ih:=rf p k;simp only [runs];by_cases hp:p k=true
   ·rw [if_pos hp];by_cases hq : 0<k∧p (k-1)=true
    ·rw [if_pos hq];obtain ⟨init,r,hl,hr⟩:=ih.last hq.1 hq.2;rw [hl,lX];have LF:=ih.Kl;have hlen:=ih.len;have Az:=ih.sep;have GG:=ih.iff;rw [hl] at LF hlen Az GG;have Vg:=LF r (by simp);refine ⟨?_,?_,?_,?_,?_,?_⟩
     ·intro x hx;simp only [List.mem_append,List.mem_singleton] at hx;rcases hx with hx|rfl
      ·have:=LF x (by simp [hx]);omega
      ·simp only;omega
     ·simp only [List.length_append,List.length_singleton] at hlen ⊢;omega
     ·intro _ _;exact ⟨init,_,rfl,by simp only;omega⟩
     ·intro h;simp at h;rw [h] at hp;cases hp
     ·rw [List.pairwise_append] at Az ⊢;refine ⟨Az.1,by simp,fun a ha b hb => ?_⟩;simp only [List.mem_singleton] at hb;subst hb;exact Az.2.2 a ha r (by simp)
     ·intro i hi;by_cases z9:i=k
      ·subst z9;simp only [hp,true_iff];exact ⟨⟨r.aK,r.aE+1⟩,by simp,by simp only;omega,by simp only;omega⟩
      ·rw [GG i (by omega)];constructor
       ·rintro ⟨x,hx,h1,h2⟩
        simp only [List.mem_append,List.mem_singleton] at hx;rcases hx with hx|rfl
        ·exact ⟨x,by simp [hx],h1,h2⟩
        ·exact ⟨⟨x.aK,x.aE+1⟩,by simp,h1,by simp only;omega⟩
       ·rintro ⟨x,hx,h1,h2⟩
        simp only [List.mem_append,List.mem_singleton] at hx;rcases hx with hx|rfl
        ·exact ⟨x,by simp [hx],h1,h2⟩
        ·simp only at h1 h2;exact ⟨r,by simp,h1,by omega⟩
    ·rw [if_neg hq]
     have hb:∀ r∈runs p k,r.aK+r.aE<(k:Int):=ih.below (fun h0=>by
      cases hh:p (k-1) with
      | false=>rfl
      | true=>exact absurd ⟨h0,hh⟩ hq)
     refine ⟨?_,?_,?_,?_,?_,?_⟩
     ·intro x hx;simp only [List.mem_append,List.mem_singleton] at hx;rcases hx with hx|rfl
      ·have:=ih.Kl x hx;omega
      ·simp only;omega
     ·have:=ih.len
      simp only [List.length_append,List.length_singleton];omega
     ·intro _ _;exact ⟨runs p k,_,rfl,by simp only;omega⟩
     ·intro h;simp at h;rw [h] at hp;cases hp
     ·rw [List.pairwise_append];refine ⟨ih.sep,by simp,fun a ha b ka => ?_⟩;simp only [List.mem_singleton] at ka;subst ka;exact hb a ha
     ·intro i hi;by_cases z9:i=k
      ·subst z9;simp only [hp,true_iff];exact ⟨⟨(i:Int),1⟩,by simp,by simp only;omega,by simp only;omega⟩
      ·rw [ih.iff i (by omega)];constructor
       ·rintro ⟨x,hx,h1,h2⟩
        exact ⟨x,by simp [hx],h1,h2⟩
       ·rintro ⟨x,hx,h1,h2⟩
        simp only [List.mem_append,List.mem_singleton] at hx;rcases hx with hx|rfl
        ·exact ⟨x,hx,h1,h2⟩
        ·simp only at h1 h2;omega
   ·rw [if_neg hp];have ET:p k=false:=by simpa using hp
    refine ⟨?_,?_,?_,?_,ih.sep,?_⟩
    ·intro x hx;have:=ih.Kl x hx;omega
    ·have:=ih.len;omega
    ·intro _ h;simp at h;rw [h] at ET;cases ET
    ·intro _ x hx;have:=ih.Kl x hx;omega
    ·intro i hi;by_cases z9:i=k
     ·subst z9;simp only [ET,Bool.false_eq_true,false_iff];rintro ⟨x,hx,h1,h2⟩
      have:=ih.Kl x hx;omega
     ·exact ih.iff i (by omega)
def marksOf (p:Nat→Bool) (k:Nat) : List Bool:=(List.range k).map p
theorem AA (p:Nat→Bool) (k:Nat) : (marksOf p k).length=k:=by simp [marksOf]
theorem kD (p:Nat→Bool) (k i:Nat) (h:i<(marksOf p k).length) : (marksOf p k)[i]=p i:=by simp [marksOf]
theorem oF (p:Nat→Bool) (k i:Nat) (b:Bool) : (marksOf p k).set i b=marksOf (fun j=>if j=i then b else p j) k:=by
 apply List.ext_getElem (by simp [marksOf]);intro j h1 h2;rw [List.getElem_set];by_cases h:i=j
 ·subst h;simp [marksOf]
 ·have : ¬ j=i:=fun e=>h e.symm
  simp [marksOf,h,this]
theorem fr {p q:Nat→Bool} {k:Nat} (h:∀ i,i<k→p i=q i) : marksOf p k=marksOf q k:=by
 apply List.ext_getElem (by simp [marksOf]);intro j h1 h2;simp only [kD];exact h j (by simpa [marksOf] using h1)
def nb (b:Block) (i:Nat) : Bool:=decide (b.At≤(i:Int)) && decide ((i:Int)<b.At+pw b.Order)
def dx (bs:List Block) (i:Nat) : Bool:=bs.any fun b=>nb b i
def tx (bs:List Block) (b:Block) : Prop:=0≤b.At∧b.At+pw b.Order≤256∧iC bs b.At b.Order=false
instance (bs:List Block) (b:Block) : Decidable (tx bs b):=inferInstanceAs (Decidable (_∧_))
def j1 (s:Option (List Block)) (b:Block) : Option (List Block):=match s with
 | none=>none
 | some bs=>if tx bs b then some (bs++[b]) else none
def bh (s:Option (List Block)) (l:List Block) : Option (List Block):=l.foldl j1 s
theorem fW:∀ l,bh none l=none
 | []=>rfl
 | b::l=>fW l
theorem cA (s:Option (List Block)) (l m:List Block) : bh s (l++m)=bh (bh s l) m:=List.foldl_append
theorem tz (s:Option (List Block)) (l:List Block) (k:Nat) (h:k<l.length) : bh s (l.take (k+1))=j1 (bh s (l.take k)) l[k]:=by
 rw [List.take_succ_eq_append_getElem h,cA];rfl
theorem mH {s:Option (List Block)} {b:Block} {bs:List Block} (h:j1 s b=some bs) : ∃ cs,s=some cs∧tx cs b∧bs=cs++[b]:=by
 cases s with
 | none=>simp [j1] at h
 | some cs =>
   simp only [j1] at h;split at h
   ·rename_i hf;injection h with h;exact ⟨cs,rfl,hf,h.symm⟩
   ·cases h
def MZ (p:Nat→Bool) (a n:Int) : Prop:=0≤a∧a<256∧n≤256-a ∧ ∀ i:Nat,a≤(i:Int)→(i:Int)<a+n→p i=false
def xp (p:Nat→Bool) (a n:Int) (i:Nat) : Bool:=p i || (decide (a≤(i:Int)) && decide ((i:Int)<a+n))
theorem pB {bs:List Block} (hb:∀ b∈bs,0≤b.At∧1≤pw b.Order) {b:Block} (h1 : 1≤pw b.Order) : MZ (dx bs) b.At (pw b.Order)↔tx bs b:=by
 constructor
 ·rintro ⟨h2,h3,h4,h5⟩
  refine ⟨h2,by omega,?_⟩;unfold iC;rw [List.any_eq_false];intro x hx hh;simp only [Bool.and_eq_true,decide_eq_true_eq] at hh;obtain ⟨k1,k2⟩:=hh;obtain ⟨q1,q2⟩:=hb x hx;have h6:=h5 (max x.At b.At).toNat (by omega) (by omega);unfold dx at h6;rw [List.any_eq_false] at h6;apply h6 x hx;simp only [nb,Bool.and_eq_true,decide_eq_true_eq];omega
 ·rintro ⟨h2,h3,h4⟩
  refine ⟨h2,by omega,by omega,fun i k1 k2 => ?_⟩;unfold dx;rw [List.any_eq_false];intro x hx hh;simp only [nb,Bool.and_eq_true,decide_eq_true_eq] at hh;unfold iC at h4;rw [List.any_eq_false] at h4;apply h4 x hx;simp only [Bool.and_eq_true,decide_eq_true_eq];omega
theorem GH (bs:List Block) (b:Block) (i:Nat) : xp (dx bs) b.At (pw b.Order) i=dx (bs++[b]) i:=by
 simp [xp,dx,nb]
def oG (s:Option (List Block)) : Prop := ∀ bs,s=some bs → ∀ x∈bs,0≤x.At∧1≤pw x.Order
theorem xK:oG (some []):=fun bs h x hx=>by cases h;simp at hx
theorem EU {s:Option (List Block)} {b:Block} (h:oG s) (hb : 1≤pw b.Order) : oG (j1 s b):=fun bs ND x hx=>by
 obtain ⟨cs,rfl,hf,rfl⟩:=mH ND;rcases List.mem_append.1 hx with hx|hx
 ·exact h cs rfl x hx
 ·simp at hx;subst hx;exact ⟨hf.1,hb⟩
theorem jq {s:Option (List Block)}:∀ {l:List Block},oG s→(∀ b∈l,1≤pw b.Order)→oG (bh s l)
 | [],h,_=>h
 | b::l,h,hb=>jq (l:=l) (EU h (hb b (by simp))) (fun x hx=>hb x (by simp [hx]))
def bL (p:Int) : Block:=⟨p,0,0⟩
def aR (l:List ay) : List Block:=l.flatMap fun x=>x.av.map bL
theorem gM:pw 0=1:=by decide
def bZ (a b:ay) : Prop:=a.fT<b.fT∨(a.fT=b.fT∧(a.ao<b.ao∨(a.ao=b.ao∧a.Ty<b.Ty)))
instance (a b:ay) : Decidable (bZ a b):=inferInstanceAs (Decidable (_∨_))
def jK (cpus:Int) (l:ay) : Prop:=(0≤l.fT∧l.fT<cpus)∧(0≤l.ao∧l.ao≤1)∧(0≤l.Ty∧l.Ty≤2)∧(1≤l.av.length∧l.av.length≤8)
instance (c:Int) (l:ay) : Decidable (jK c l):=inferInstanceAs (Decidable (_∧_))
structure k9 (cpus to:Int) (ls:List ay) : Prop where
 head:∀ (i:Nat) (h:i<ls.length),jK cpus ls[i]
 next:∀ (i:Nat) (h:i+1<ls.length),bZ ls[i] ls[i+1]
 iG:∀ (i:Nat) (h:i<ls.length),∀ p∈(ls[i]).av,(p<to↔(ls[i]).ao=0)
def sv (b:Block) : Prop:=(0≤b.Order∧b.Order≤4)∧(0≤b.At∧b.At≤255)∧b.At % pw b.Order=0∧ik b.Ty
structure ff (l:List Block) : Prop where
 each:∀ (i:Nat) (h:i<l.length),sv l[i]
 next:∀ (i:Nat) (h:i+1<l.length),l[i].At<l[i+1].At
structure bp (h:Heap) : Prop where
 cj:∃ z0 z1,h.bf=[z0,z1]∧bD z0∧bD z1∧z0.aK=0∧z0.To=z1.aK∧z1.To=256∧k9 h.bw z0.To h.au∧(bh (some []) (z0.aj++z1.aj++aR h.au++h.Live)).isSome=true
 dA:∃ m0 m1,h.dk=[m0,m1]∧(0≤m0∧m0≤256)∧(0≤m1∧m1≤256)
 cpus : 1≤h.bw∧h.bw≤4
 live:ff h.Live
noncomputable def fX (h:Heap) : Bool := @decide (bp h) (Classical.propDecidable _)
theorem zh {h:Heap} (a:bp h) : fX h=true:=by unfold fX;exact @decide_eq_true _ (Classical.propDecidable _) a
theorem lc {h:Heap} (a : ¬ bp h) : fX h=false:=by unfold fX;exact @decide_eq_false _ (Classical.propDecidable _) a
theorem cG {h:Heap}:fX h=true↔bp h:=by
 by_cases a:bp h
 ·simp [zh a,a]
 ·simp [lc a,a]
theorem oH (l:List ay) (k:Nat) (h:k<l.length) : aR (l.take (k+1))=aR (l.take k)++l[k].av.map bL:=by
 unfold aR;rw [List.take_succ_eq_append_getElem h,List.flatMap_append];simp
theorem hU {s:Option (List Block)} {l m:List Block} (h:(bh s (l++m)).isSome=true) : (bh s l).isSome=true:=by
 rw [cA] at h;cases e:bh s l with
 | none=>rw [e,fW] at h;cases h
 | some x=>rfl
open Go.RowKit
section
variable {P:Program} {L:Env} {w:World} {d:Option Nat} {T:TypeId} {pos:String} {af:Array Edge} {g:Option (Nat×Bool)}
theorem oI {t e:TypeId} {len sz:Nat} [c:va P t len e sz] {x y:Operand} {ad:Addr} {i:Int} (k:Nat) (hx:cg L x=some (.pointer (some ad))) (hy:cg L y=some (.int .i64 i)) (hi:i=(k:Int)) (hk:k<len) :
 St P ⟨d,.indexAddr t x y,T,pos,af,g⟩ L w (.pointer (some (ad.add (k*sz)))) :=
 ⟨fun _ a ha w' _=>by
  subst hi;have e1:=ha.eval hx;have e2:=ha.eval hy;generalize a.eval = ρ at *
  simp [execOp,e1,e2,Instr.indexAt,Instr.sureAddr,asIntOf,run_underlying c.mB,run_sizeOf c.size,hk]⟩
end
theorem ah.LG {P:Program} {fn:Func} {R:Ending→World→Prop} {n:Nat} {L:Env} {w:World} (hr:fn.results = #[]) (h:R (.returned (.tuple #[])) w) : ah n (bodyPost P fn R) .ret L w :=
 ⟨fun a ha=>⟨ha.defers,_,by simpa using kW.results (rs:=[]) hr .nil ha,h⟩⟩
theorem ah.vB {P:Program} {fn:Func} {R:Ending→World→Prop} {n:Nat} {L:Env} {w:World} (hr:fn.results = #[]) (h:R (.returned (.tuple #[])) w) : ah n (bodyPost P fn R) .normal L w :=
 ⟨fun a ha=>⟨ha.defers,_,by simpa using kW.results (rs:=[]) hr .nil ha,h⟩⟩
def fK (p:Nat→Bool) (N:Nat) (bad:Bool) : List Value:=(marksOf p N).map Value.bool++[.bool bad]
theorem qu (p:Nat→Bool) (N:Nat) (bad:Bool) : (fK p N bad).length=N+1:=by simp [fK,marksOf]
theorem vC (p:Nat→Bool) (N:Nat) (bad:Bool) : (fK p N bad)[N]?=some (.bool bad):=by
 unfold fK;rw [List.getElem?_append_right (by simp [marksOf])];simp [marksOf]
theorem EV (p:Nat→Bool) (N:Nat) (bad:Bool) {i:Nat} (h:i<N) : (fK p N bad)[i]?=some (.bool (p i)):=by
 unfold fK;rw [List.getElem?_append_left (by simp [marksOf];omega)];simp [marksOf,h]
theorem pZ (p:Nat→Bool) (N:Nat) (bad b:Bool) : (fK p N bad).set N (.bool b)=fK p N b:=by
 unfold fK;rw [List.set_append_right _ _ (by simp [marksOf])];simp [marksOf]
theorem Cu (p:Nat→Bool) (N:Nat) (bad:Bool) {i:Nat} (h:i<N) : (fK p N bad).set i (.bool true)=fK (fun j=>if j=i then true else p j) N bad:=by
 unfold fK;rw [List.set_append_left _ _ (by simp [marksOf];omega),← oF,List.map_set]
theorem nk {p q:Nat→Bool} {N:Nat} {bad:Bool} (h:∀ i,i<N→p i=q i) : fK p N bad=fK q N bad:=by
 unfold fK;rw [fr h]
set_option maxHeartbeats 4000000 in
theorem AB (b:Nat) (p:Nat→Bool) (bad:Bool) (N:Nat) (hN:N=256) (a n:Int) (w:World) (hB:aW w b 224 (fK p N bad)) (hn : 0≤n∧n≤16) :
 jw Tryz.prog 178 [.pointer (some ⟨b,0,none⟩),.int .i64 a,.int .i64 n] w fun v w' => ∃ p' EW,aW w' b 224 (fK p' N EW)∧w.grownBy w' (some b)∧((MZ p a n∧EW=bad∧p'=xp p a n)∨(¬ MZ p a n∧EW=true)):=by
 refine dM Tryz.func178 rfl Tryz.ntmps178 rfl ?_;have Ge:w.grownBy w (some b):=World.grownBy.refl _ _
 have hw:=Ext.refl w;by_cases df : 0≤a∧a<256∧n≤256-a
 ·obtain ⟨h1,h2,h3⟩:=id df;obtain ⟨k,rfl⟩:=Int.eq_ofNat_of_zero_le h1;obtain ⟨m,rfl⟩:=Int.eq_ofNat_of_zero_le hn.1;refine Wz ?_;clear hw
  refine CW.loop (fun j:Nat=>[(0,.pointer (some ⟨b,0,none⟩)),(1,.int .i64 (k:Int)),(2,.int .i64 (m:Int)),(6,.int .i64 ((k+j:Nat) : Int))])
   (fun j w'=>j≤m∧aW w' b 224 (fK (xp p k (j:Int)) N bad)∧w.grownBy w' (some b) ∧ ∀ i:Nat,k≤i→i<k+j→p i=false) (fun j=>m-j) 0
   ⟨rfl,rfl,rfl,rfl,trivial⟩ ⟨by omega,by rwa [nk (q:=p) (fun i _=>by simp [xp]<;>omega)],Ge,fun i h1 h2=>by omega⟩ ?_
  clear hB Ge;rintro j w' ⟨hj,hB,hg,hI⟩
  have hw:=Ext.refl w';by_cases Vh:j<m
  ·have dL:k+j<N:=by omega
   have hc:=hB.cell (EV _ N bad dL);have hv:xp p k (j:Int) (k+j)=p (k+j):=by simp [xp]
   rw [hv] at hc;have ot:w'.cell? (((⟨b,0,none⟩ : Addr).add 0).add ((k+j)*1))=some (.bool (p (k+j))):=by rw [add_add];simpa using hc
   cases hp:p (k+j)
   ·rw [hp] at ot;repeat' (first|refine Wz ?_|refine SW.st (aq rfl (ot)) rfl ?_|(refine SW.st (oI (k+j) rfl rfl rfl (by omega)) rfl ?_))
    have PT:(⟨b,0,none⟩ : Addr).add (k+j)=((⟨b,0,none⟩ : Addr).add 0).add ((k+j)*1):=by rw [add_add];simp
    refine SW.bz (i:=k+j) hB (by rw [PT];rfl) rfl rfl (by rw [qu];simp;omega) fun w3 tV Gf => ?_
    rw [Cu _ _ _ dL,nk (q:=xp p k ((j+1:Nat) : Int)) (fun i _=>by
     by_cases e:i=k+j
     ·subst e;simp [xp];omega
     ·simp only [e,if_false,xp];congr 1
      by_cases e1:i<k+j
      ·rw [decide_eq_true (show (i:Int)<(k:Int)+(j:Int) by omega),decide_eq_true (show (i:Int)<(k:Int)+((j+1:Nat) : Int) by omega)]
      ·rw [decide_eq_false (show ¬ (i:Int)<(k:Int)+(j:Int) by omega),decide_eq_false (show ¬ (i:Int)<(k:Int)+((j+1:Nat) : Int) by omega)])] at tV
    have xJ:=bH hg Gf (.inl rfl);clear hw;have hw:=Ext.refl w3;refine Wz ?_;refine ah.again (j+1) ⟨rfl,rfl,rfl,rfl,trivial⟩ (by omega) ⟨by omega,tV,xJ,fun i h1 h2 => ?_⟩;by_cases e:i=k+j
    ·subst e;exact hp
    ·exact hI i h1 (by omega)
   ·rw [hp] at ot;repeat' (first|refine Wz ?_|refine SW.st (aq rfl (ot)) rfl ?_|(refine SW.st (oI (k+j) rfl rfl rfl (by omega)) rfl ?_))
    subst hN;refine SW.bz (i:=256) hB rfl rfl rfl (by rw [qu];rfl) fun w3 tV Gf => ?_
    rw [pZ] at tV;clear hw;have hw:=Ext.refl w3;refine Wz ?_;exact ah.LG rfl ⟨_,rfl,_,true,tV,bH hg Gf (.inl rfl),.inr ⟨(fun h=>by have:=h.2.2.2 (k+j) (by omega) (by omega);rw [hp] at this;cases this),rfl⟩⟩
  ·obtain rfl:j=m:=by omega
   refine Wz ?_;exact ah.vB rfl ⟨_,rfl,_,bad,hB,hg,.inl ⟨⟨h1,h2,h3,fun i h4 h5=>hI i (by omega) (by omega)⟩,rfl,rfl⟩⟩
 ·have m9 : ¬ MZ p a n:=fun h=>df ⟨h.1,h.2.1,h.2.2.1⟩
  subst hN;repeat' (first|refine Wz ?_|refine SW.cw rfl rfl rfl (fun h => ?_) (fun h => ?_))
  all_goals
   first
    | (exfalso;omega)
    | (refine SW.bz (i:=256) hB rfl rfl rfl (by rw [qu];rfl) fun w3 tV Gf => ?_
       rw [pZ] at tV;clear hw;have hw:=Ext.refl w3;refine Wz ?_;exact ah.LG rfl ⟨_,rfl,_,true,tV,Gf,.inr ⟨m9,rfl⟩⟩)
def oJ (o t:Int) (b:Block) : Bool:=decide (b.Order=o) && decide (b.Ty=t)
theorem GI {o t:Int} {b:Block}:oJ o t b=true↔b.Order=o∧b.Ty=t:=by simp [oJ]
def xq (t:Int) : Int:=if t=2 then 0 else 2
def xr (t:Int) : Int:=if t=1 then 0 else 1
def rh (o:Int) (n:Nat) : Int:=if n<5 then o+n else 4-(((n-5) / 2:Nat) : Int)
def Jd (t:Int) (n:Nat) : Int:=if n<5 then t else if (n-5) % 2=0 then xq t else xr t
def jr (l:List Block) (o t:Int) (n:Nat) : Bool:=decide (o≤rh o n∧rh o n≤4) && l.any (oJ (rh o n) (Jd t n))
theorem uE {o:Int} {j:Nat} (h:j<5) : rh o j=o+j:=by unfold rh;rw [if_pos h]
theorem zj {o:Int} {j:Nat}:rh o (5+2*j)=4-(j:Int):=by unfold rh;rw [if_neg (by omega)];omega
theorem zm {o:Int} {j:Nat}:rh o (5+2*j+1)=4-(j:Int):=by unfold rh;rw [if_neg (by omega)];omega
theorem Cv {t:Int} {j:Nat} (h:j<5) : Jd t j=t:=by unfold Jd;rw [if_pos h]
theorem Cw {t:Int} {j:Nat}:Jd t (5+2*j)=xq t:=by unfold Jd;rw [if_neg (by omega),if_pos (by omega)]
theorem Cx {t:Int} {j:Nat}:Jd t (5+2*j+1)=xr t:=by unfold Jd;rw [if_neg (by omega),if_neg (by omega)]
theorem GJ {l:List Block} {o t:Int} {j:Nat} (h:j<5) (ho:o+j≤4) : jr l o t j=l.any (oJ (o+j) t):=by
 unfold jr;rw [uE h,Cv h,decide_eq_true (by omega),Bool.true_and]
theorem GK {l:List Block} {o t:Int} {j:Nat} (ho:o≤4-(j:Int)) : jr l o t (5+2*j)=l.any (oJ (4-(j:Int)) (xq t)):=by
 unfold jr;rw [zj,Cw,decide_eq_true (by omega),Bool.true_and]
theorem GL {l:List Block} {o t:Int} {j:Nat} (ho:o≤4-(j:Int)) : jr l o t (5+2*j+1)=l.any (oJ (4-(j:Int)) (xr t)):=by
 unfold jr;rw [zm,Cx,decide_eq_true (by omega),Bool.true_and]
theorem AD {l:List Block} {o t:Int} {n:Nat} (h : ¬ (o≤rh o n∧rh o n≤4)) : jr l o t n=false:=by
 unfold jr;rw [decide_eq_false h,Bool.false_and]
inductive jL (l:List Block) (o t:Int) : Option (Nat×Bool)→Prop
 | hit {n k:Nat} (hn:n<15) (ht:jr l o t n=true) (hf:∀ m,m<n→jr l o t m=false) (hk:k<l.length) (hp:oJ (rh o n) (Jd t n) l[k]=true) (hg:∀ (j:Nat) (hj:j<l.length),j<k→oJ (rh o n) (Jd t n) l[j]=false) : jL l o t (some (k,decide (5≤n)))
 | Je (hf:∀ m,m<15→jr l o t m=false) : jL l o t none
theorem jL.ir {l:List Block} {o t:Int} {u v:Option (Nat×Bool)} (a:jL l o t u) (b:jL l o t v) : u=v:=by
 cases a with
 | @hit n k hn ht hf hk hp hg =>
   cases b with
   | @hit n' k' p7 og B9 j6 ET Gf =>
     rcases Nat.lt_trichotomy n n' with h|h|h
     ·rw [B9 n h] at ht;cases ht
     ·subst h;rcases Nat.lt_trichotomy k k' with h|h|h
      ·rw [Gf k hk h] at hp;cases hp
      ·subst h;rfl
      ·rw [hg k' j6 h] at ET;cases ET
     ·rw [hf n' h] at og;cases og
   | Je B9=>rw [B9 n hn] at ht;cases ht
 | Je hf =>
   cases b with
   | @hit n' k' p7 og B9 j6 ET Gf=>rw [hf n' p7] at og;cases og
   | Je=>rfl
theorem jL.ord {l:List Block} {o t:Int} {k:Nat} {s:Bool} (a:jL l o t (some (k,s))) : ∃ hk:k<l.length,o≤l[k].Order∧l[k].Order≤4:=by
 cases a with
 | hit hn ht hf hk hp hg =>
   refine ⟨hk,?_⟩;unfold jr at ht;rw [Bool.and_eq_true] at ht;have h1:=of_decide_eq_true ht.1;have h2:=(GI.1 hp).1;omega
def Jf (f to t:Int) (x:Block) : Block:=if f≤x.At∧x.At+pw x.Order≤to then ⟨x.At,x.Order,t⟩ else x
def AE (b:Block) : Int:=if b.Order=4 then b.At+16 else b.At / 8*8+8
def ia (l:List Block) (b:Block) (t:Int) : List Block:=if b.Order<2 then l else l.map (Jf (b.At / 8*8) (AE b) t)
def ri (z:ao) (b:Block) : Nat:=((b.At-z.aK) / 8).toNat
def iZ (z:ao) (b:Block) (t:Int) : List Int:=if b.Order<2 then z.Types else if b.Order=4 then (z.Types.set (ri z b) t).set (ri z b+1) t else z.Types.set (ri z b) t
theorem mo (f to t:Int) (x:Block) : (Jf f to t x).At=x.At∧(Jf f to t x).Order=x.Order:=by
 unfold Jf;split<;>exact ⟨rfl,rfl⟩
theorem Cy (l:List Block) (b:Block) (t:Int) : (ia l b t).length=l.length:=by unfold ia;split<;>simp
theorem Cz {l:List Block} {b:Block} {t:Int} (h:oE l) : oE (ia l b t):=by
 unfold ia;split
 ·exact h
 ·unfold oE at *;rw [List.pairwise_map];refine h.imp fun {x y} PU => ?_
  rw [(mo _ _ _ x).1,(mo _ _ _ x).2,(mo _ _ _ y).1];exact PU
theorem CA {f u:Int} {l:List Block} {b:Block} {t:Int} (h:∀ x∈l,gl f u x) (ht:ik t) : ∀ x∈ia l b t,gl f u x:=by
 unfold ia;split
 ·exact h
 ·intro x hx;obtain ⟨y,hy,rfl⟩:=List.mem_map.1 hx;have hk:=h y hy;unfold gl at *;rw [(mo _ _ _ y).1,(mo _ _ _ y).2];refine ⟨hk.1,?_⟩;unfold Jf;split
  ·exact ht
  ·exact hk.2
def kX (ty a q:Int) : Block:=⟨a+pw (q-1),q-1,ty⟩
def oK (ty a q:Int) (l:List Block) : List Block:=aN l (bi l (a+pw (q-1))) (kX ty a q)
def kc (ty a:Int) : Nat→Int→List Block→List Block
 | 0,_,l=>l
 | f+1,q,l=>kc ty a f (q-1) (oK ty a q l)
def tW (z:ao) (t:Int) (st:Bool) (b:Block) : Int:=if st=true∧2≤b.Order then t else b.Ty
def qv (z:ao) (o t:Int) (b:Block) (k:Nat) (st:Bool) : ao :=
 ⟨z.aK,z.To,kc (tW z t st b) b.At (b.Order-o).toNat b.Order ((if st=true then ia z.aj b t else z.aj).eraseIdx k),if st=true then iZ z b t else z.Types⟩
inductive fL (z:ao) (o t:Int) : ao×Int×Int→Prop
 | bad (h:dO z=false) : fL z o t (.zero,0,8)
 | range (h:dO z=true) (ho : ¬ (0≤o∧o≤4)) : fL z o t (.zero,0,1)
 | kind (h:dO z=true) (ho : 0≤o∧o≤4) (ht : ¬ ik t) : fL z o t (.zero,0,2)
 | room (h:dO z=true) (ho : 0≤o∧o≤4) (ht:ik t) (hp:jL z.aj o t none) : fL z o t (.zero,0,6)
 | ok {k:Nat} {st:Bool} (h:dO z=true) (ho : 0≤o∧o≤4) (ht:ik t) (hk:k<z.aj.length) (hp:jL z.aj o t (some (k,st))) : fL z o t (qv z o t z.aj[k] k st,z.aj[k].At,0)
theorem fL.ir {z:ao} {o t:Int} {u v:ao×Int×Int} (a:fL z o t u) (b:fL z o t v) : u=v:=by
 cases a with
 | bad h=>cases b with
   | bad=>rfl
   | range h'|kind h'|room h'|ok h'=>rw [h] at h';cases h'
 | range h ho=>cases b with
   | bad h'=>rw [h] at h';cases h'
   | range=>rfl
   | kind _ vj|room _ vj|ok _ vj=>exact absurd vj ho
 | kind h ho ht=>cases b with
   | bad h'=>rw [h] at h';cases h'
   | range _ vj=>exact absurd ho vj
   | kind=>rfl
   | room _ _ og|ok _ _ og=>exact absurd og ht
 | room h ho ht hp=>cases b with
   | bad h'=>rw [h] at h';cases h'
   | range _ vj=>exact absurd ho vj
   | kind _ _ og=>exact absurd ht og
   | room=>rfl
   | ok _ _ _ _ ET=>cases hp.ir ET
 | ok h ho ht hk hp=>cases b with
   | bad h'=>rw [h] at h';cases h'
   | range _ vj=>exact absurd ho vj
   | kind _ _ og=>exact absurd ht og
   | room _ _ _ ET=>cases hp.ir ET
   | ok _ _ _ _ ET=>cases hp.ir ET;rfl
theorem p9 {α:Type} {l:List α} {i:Nat} {x y : α}:y∈aN l i x↔y=x∨y∈l:=by
 have e:l=l.take i++l.drop i:=(List.take_append_drop i l).symm
 unfold aN;constructor
 ·intro h;simp only [List.mem_append,List.mem_singleton] at h;rcases h with (h|h)|h
  ·exact .inr (List.mem_of_mem_take h)
  ·exact .inl h
  ·exact .inr (List.mem_of_mem_drop h)
 ·intro h;simp only [List.mem_append,List.mem_singleton];rcases h with h|h
  ·exact .inl (.inr h)
  ·rw [e,List.mem_append] at h;rcases h with h|h
   ·exact .inl (.inl h)
   ·exact .inr h
theorem EX {f t:Int} {l:List Block} {y:Block} (hu:oE l) (hb:∀ b∈l,gl f t b) (hy : 0≤y.Order∧y.Order≤4) (hd:∀ b∈l,b.At+pw b.Order≤y.At∨y.At+pw y.Order≤b.At) : oE (aN l (bi l y.At) y):=by
 have e:l=l.take (bi l y.At)++l.drop (bi l y.At):=(List.take_append_drop _ l).symm
 have h0:=hu;unfold oE at h0;rw [e,List.pairwise_append] at h0;obtain ⟨h1,h2,h3⟩:=h0
 have hA:∀ x∈l.take (bi l y.At),x.At+pw x.Order≤y.At:=fun x hx=>by
  obtain ⟨j,hj,rfl⟩:=List.getElem_of_mem hx;simp only [List.length_take] at hj;rw [List.getElem_take];have dL:=mE (l:=l) (a:=y.At) (k:=j) (by omega);have hp:=bT hy.1 hy.2;rcases hd _ (List.getElem_mem (show j<l.length by omega)) with h|h<;>omega
 have hB:∀ x∈l.drop (bi l y.At),y.At+pw y.Order≤x.At:=fun x hx=>by
  obtain ⟨j,hj,rfl⟩:=List.getElem_of_mem hx;simp only [List.length_drop] at hj;rw [List.getElem_drop];have Lj:=Au (l:=l) (a:=y.At) (by omega)
  have hle:(l[bi l y.At]'(by omega)).At≤(l[bi l y.At+j]'(by omega)).At:=by
   rcases Nat.eq_zero_or_pos j with rfl|Km
   ·exact Int.le_refl _
   ·have:=gL hu (show bi l y.At+j<l.length by omega) (show bi l y.At<bi l y.At+j by omega)
    have:=bT (hb _ (List.getElem_mem (show bi l y.At<l.length by omega))).1.1 (hb _ (List.getElem_mem (show bi l y.At<l.length by omega))).1.2.1
    omega
  have hm:=List.getElem_mem (show bi l y.At+j<l.length by omega);have:=bT (hb _ hm).1.1 (hb _ hm).1.2.1
  rcases hd _ hm with h|h<;>omega
 unfold aN oE;rw [List.append_assoc,List.pairwise_append];refine ⟨h1,?_,fun a ha b ka => ?_⟩
 ·rw [List.singleton_append,List.pairwise_cons];exact ⟨hB,h2⟩
 ·rw [List.singleton_append,List.mem_cons] at ka;rcases ka with rfl|ka
  ·exact hA a ha
  ·exact h3 a ha b ka
theorem AF {f t:Int} {l:List Block} {a q ty:Int} (h:Ar f t l a q) (h0 : 0≤f) (ht:t≤256) (LH:t % 16=0) (hq : 1≤q) (si:ik ty) : Ar f t (oK ty a q l) a (q-1)∧(∀ b∈l,b.At≠a+pw (q-1)):=by
 obtain ⟨f1,f2,f3,f4,f5⟩:=h.fit
 have hp:pw q=2*pw (q-1):=by
  have:=ks (o:=q-1) (by omega) (by omega)
  rwa [Int.sub_add_cancel] at this
 have hm:a % pw (q-1)=0∧(a+pw (q-1)) % pw (q-1)=0∧1≤pw (q-1)∧a+pw (q-1)<t:=by
  rcases dU f1 f2 with ⟨e1,e2⟩|⟨e1,e2⟩|⟨e1,e2⟩|⟨e1,e2⟩|⟨e1,e2⟩
  all_goals
   rw [e2] at f5 hp
   first
    | omega
    | (have e3:pw (q-1)=1:=by omega
       rw [e3];omega)
    | (have e3:pw (q-1)=2:=by omega
       rw [e3];omega)
    | (have e3:pw (q-1)=4:=by omega
       rw [e3];omega)
    | (have e3:pw (q-1)=8:=by omega
       rw [e3];omega)
 obtain ⟨m1,m2,m3,m4⟩:=hm
 have hd:∀ b∈l,b.At+pw b.Order≤a+pw (q-1)∨a+pw (q-1)+pw (q-1)≤b.At:=fun b hb=>by
  rcases h.GC b hb with g|g<;>omega
 have bW:∀ b∈l,b.At≠a+pw (q-1):=fun b hb e=>by
  have:=bT (h.dD b hb).1.1 (h.dD b hb).1.2.1
  rcases h.GC b hb with g|g<;>omega
 refine ⟨⟨?_,fun b hb => ?_,⟨by omega,by omega,f3,f4,m1⟩,fun b hb => ?_⟩,bW⟩
 ·exact EX (y:=kX ty a q) h.oE h.dD ⟨by simp only [kX];omega,by simp only [kX];omega⟩ hd
 ·rcases p9.1 hb with rfl|hb
  ·exact ⟨⟨by simp only [kX];omega,by simp only [kX];omega,by simp only [kX];omega,m4,m2⟩,si⟩
  ·exact h.dD b hb
 ·rcases p9.1 hb with rfl|hb
  ·right;simp only [kX];omega
  ·rcases h.GC b hb with g|g<;>omega
theorem EY (ty a q:Int) (l:List Block) : (oK ty a q l).length=l.length+1:=by
 have:=DV l (a+pw (q-1))
 unfold oK aN;simp;omega
theorem xL {f t:Int} {l:List Block} (hu:oE l) (hb:∀ b∈l,gl f t b) {k:Nat} (hk:k<l.length) : Ar f t (l.eraseIdx k) l[k].At l[k].Order:=by
 have hs:∀ b∈l.eraseIdx k,b∈l:=fun b h=>List.mem_of_mem_eraseIdx h
 refine ⟨?_,fun b h=>hb b (hs b h),(hb _ (List.getElem_mem hk)).1,fun b h => ?_⟩
 ·unfold oE at *;exact hu.sublist (List.eraseIdx_sublist l k)
 ·obtain ⟨j,hj,rfl⟩:=List.getElem_of_mem h;have hlen:=List.length_eraseIdx_of_lt hk;rw [List.getElem_eraseIdx];split
  ·rename_i na;exact .inl (gL hu hk na)
  ·rename_i na;exact .inr (gL hu (by omega) (by omega))
theorem GM {l:List Block} {o t:Int} {j m:Nat} (hm : 5+2*j≤m) (ho : 4-(j:Int)<o) : jr l o t m=false :=
 AD (by unfold rh;rw [if_neg (by omega)];omega)
theorem Jg {b:Block} (h2 : 2≤b.Order) (h4:b.Order≤4) (hm:b.At % pw b.Order=0) : b.At / 8*8≤b.At∧b.At+pw b.Order≤AE b:=by
 unfold AE;rcases dU (show 0≤b.Order by omega) h4 with ⟨e1,e2⟩|⟨e1,e2⟩|⟨e1,e2⟩|⟨e1,e2⟩|⟨e1,e2⟩<;>rw [e2] at hm ⊢<;>split<;>omega
def iD (z:ao) (b:Block) (t:Int) (st:Bool) : List Block:=if st=true then ia z.aj b t else z.aj
theorem rj {z:ao} (hz:bD z) {b:Block} {t:Int} (ht:ik t) (st:Bool) : (iD z b t st).length=z.aj.length∧oE (iD z b t st) ∧ ∀ x∈iD z b t st,gl z.aK z.To x:=by
 have hb:∀ x∈z.aj,gl z.aK z.To x:=fun x hx=>by
  obtain ⟨i,hi,rfl⟩:=List.getElem_of_mem hx;exact hz.dD i hi
 unfold iD;split
 ·exact ⟨Cy _ _ _,Cz (mD hz),CA hb ht⟩
 ·exact ⟨rfl,mD hz,hb⟩
theorem sw {z:ao} (hz:bD z) {t:Int} (ht:ik t) (st:Bool) {k:Nat} (hk:k<z.aj.length) :
 (iD z z.aj[k] t st)[k]'(by rw [(rj hz ht st).1];exact hk)=⟨z.aj[k].At,z.aj[k].Order,tW z t st z.aj[k]⟩:=by
 obtain ⟨f1,f2,f3,f4,f5⟩:=(hz.dD k hk).1;unfold iD tW;cases st
 ·simp
 ·simp only [if_true,true_and];unfold ia;by_cases h2:z.aj[k].Order<2
  ·simp only [if_pos h2,if_neg (show ¬ 2≤z.aj[k].Order by omega)]
  ·simp only [if_neg h2,if_pos (show 2≤z.aj[k].Order by omega),List.getElem_map];unfold Jf;rw [if_pos (Jg (by omega) f2 f5)]
end Go.Proofs.YtbidkghlpijecaaGreatDoor
