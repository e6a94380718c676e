/-
  Texts of the claim KmemAllocs, part 16: what its theorem leans on.
-/
import Derived.Test.YtbidkghlpijecaaGreatDoorPackKmemAllocs10
import Derived.Test.YtbidkghlpijecaaGreatDoorPackKmemAllocs7
import Derived.Test.YtbidkghlpijecaaGreatDoorPackKmemAllocs2
import Derived.Test.YtbidkghlpijecaaGreatDoorPackKmemAllocs15
import Derived.Test.YtbidkghlpijecaaGreatDoorPackKmemAllocs13
import Derived.Test.YtbidkghlpijecaaGreatDoorPackKmemAllocs8
import Derived.Test.YtbidkghlpijecaaGreatDoorPackKmemAllocs11
import Derived.Test.YtbidkghlpijecaaGreatDoorPackKmemAllocs12
import Derived.Test.YtbidkghlpijecaaGreatDoorPackKmemAllocs6
import Derived.Test.YtbidkghlpijecaaGreatDoorPackKmemAllocs9
import Derived.Test.YtbidkghlpijecaaGreatDoorPackKmemAllocs4
set_option linter.unusedVariables false
set_option linter.unusedSimpArgs false
namespace Go.Proofs.YtbidkghlpijecaaGreatDoor
open Go.RowKit
structure kn (w:World) (lo:Nat) (R:List bM) (L:List aC) : Prop where
 each:eA (ky w lo) R L
section
variable {w w':World} {lo t:Nat} {R:List bM} {L:List aC} {y:bM} {x:aC}
theorem kn.ext (h:kn w lo R L) (hx:Ext w w') : kn w' lo R L:=⟨h.each.mono fun _ _ h=>h.ext hx⟩
theorem kn.ay (h:kn w lo R L) (hG:oa w w' t) (cG:Nat.beq t 3=false) : kn w' lo R L:=⟨h.each.mono fun _ _ h=>h.ay hG cG⟩
theorem kn.nil (w:World) (lo:Nat) : kn w lo [] []:=⟨eA.nil⟩
theorem kn.snoc (h:kn w lo R L) (hr:ky w lo y x) : kn w lo (R++[y]) (L++[x]):=⟨h.each.snoc hr⟩
end
set_option maxHeartbeats 16000000 in
theorem xU (r:eB) (L:List aC) (ls:List bM) (x:aC) (y:bM) (lo:Nat) (w:World) (hl:cX w lo r.av ls L) (hy:ky w lo y x) (hs:rT L) (fy:lo≤w.heap.size) (cG : 0<y.ax.n) (hn:(r.av.n+1)*48≤140737488355328) :
 bo Tryz.prog 128 [.agg (bm r).toArray,.int .i64 y.dO,.int .i64 y.ar,.int .i64 y.Ty,.slice y.ax.A y.ax.n y.ax.c] w fun v w' => ∃ s R,v = .agg (bm ⟨r.aQ,r.bJ,r.bY,s,r.Live⟩).toArray∧cX w' lo s R (jB L x):=by
 refine aI Tryz.func128 rfl Tryz.ntmps128 rfl ?_;refine CW.seq (CW.region (SW.box rfl rfl fun b5 w1 hw il cd => ?_));have nS:=il;refine SW.alloc rfl fun jM w2 cq ij aN => ?_
 have ki:w.heap.size≤jM:=Nat.le_trans hw.size ij
 have wo:b5≠jM:=by have:=cd.lt;omega
 (replace hw:=Ext.trans hw cq;replace cd:=cd.ext cq);obtain ⟨l1,l2⟩:=hl.rd.len;have hA:=hl.row.sl.base;have y1:=hy.cpu;have y2:=hy.fu;have y3:=hy.ty;refine Wz ?_;refine SW.alloc rfl fun sJ w1 ab ra bC => ?_
 skip;refine SW.ak bC rfl rfl rfl rfl (sM y) fun w2 m8 hg => ?_
 have aj:=ab.own ra hg;have pE:w.heap.size≤sJ:=Nat.le_trans hw.size ra
 replace hw:=Ext.trans hw aj;replace cd:=cd.ext aj;replace aN:=aN.ext aj;replace bC:=m8;clear m8 ab hg aj;refine Wz ?_;have dk:=fK L x;replace bC:aJ w2 sJ 142 (bq y):=bC;have z0:(bX L x 0).length=0:=by simp [bX]
 have q0:decide (aZ L x<0)=decide ((y.ax.n:Int)=0):=by rw [decide_eq_false (by omega),decide_eq_false (by omega)]
 refine CW.loop (fun t:Nat×Option Addr×Nat×List bM=>[(1,.int .i64 y.dO),(2,.int .i64 y.ar),(3,.int .i64 y.Ty),(5,.pointer (some ⟨b5,0,none⟩)),(10,.pointer (some ⟨jM,0,none⟩)),(11,.pointer (some ⟨sJ,0,none⟩)),(12,.slice t.2.1 (bX L x t.1).length t.2.2.1),(13,.bool (decide (aZ L x<t.1))),(14,.int .i64 (t.1:Int))])
  (fun t w'=>t.1≤r.av.n∧Ext w w'∧aJ w' b5 41 (bm r)∧aJ w' jM 41 (bm .zero)∧aJ w' sJ 142 (bq y)∧Own w' (sJ+1) 142 4 bq t.2.1 (bX L x t.1).length t.2.2.1 t.2.2.2∧kn w' lo t.2.2.2 (bX L x t.1)) (fun t=>r.av.n-t.1) (0,none,0,[])
  ⟨rfl,rfl,rfl,rfl,rfl,rfl,by simp only;rw [z0];rfl,by simp only;rw [q0];rfl,rfl,trivial⟩ ⟨by omega,hw,cd,aN,bC,by simpa [bX] using Own.eJ _ _ _ _ _ _,by simpa [bX] using kn.nil _ _⟩ ?_
 clear hw cd aN bC;rintro ⟨i,A,c,R⟩ w' ⟨hi,hw,cd,aN,bC,hO,hE⟩
 simp only at hi hO hE ⊢
 have hlen:(bX L x i).length≤i+1:=by
  unfold bX;split
  ·simp;omega
  ·split<;>simp<;>omega
 have F0:i≤aZ L x→(bX L x i).length≤i:=fun h=>by rw [bX,if_pos h];simp;omega
 have zw:∀ m:Nat,m≤r.av.n→(m+1)*48≤140737488355328∧m+1≤9223372036854775807:=fun m hm=>by omega
 by_cases cf:i<r.av.n
 ·have qY:(bX L x i).length≤r.av.n:=by omega
  have kK:i<L.length:=by omega
  have lE:i<ls.length:=by omega
  have xx:=hl.each.get i lE kK;have e1:=xx.cpu;have e2:=xx.fu;have e3:=xx.ty;have g0:=hl.row.sl.dA cf (j:=0) (u := .int .i64 ls[i].dO) rfl;have g1:=hl.row.sl.dA cf (j:=1) (u := .int .i64 ls[i].ar) rfl;have g2:=hl.row.sl.dA cf (j:=2) (u := .int .i64 ls[i].Ty) rfl;obtain ⟨p,hp⟩ : ∃ p,decide (bz x L[i])=p:=⟨_,rfl⟩
  have cA:∀ w',bo Tryz.prog 198 [.agg (bq y).toArray,.agg (bq ls[i]).toArray] w' fun v _=>v = .bool p:=fun w'=>by
   have:=sW y ls[i] x L[i] w' ⟨y1,y2,y3⟩ xx.rd.key
   rwa [hp] at this
  rcases Nat.lt_trichotomy i (aZ L x) with hk|hk|hk
  ·have ha:=l7 hk;have Ji:p=false:=by rw [← hp];exact decide_eq_false (j0 ha).2.2
   subst Ji;have Jj : ¬ (ls[i].dO=y.dO∧ls[i].ar=y.ar∧ls[i].Ty=y.Ty):=by have:=(j0 ha).1;unfold dl at this;omega
   have ee:=yW hk;have el:(bX L x (i+1)).length=(bX L x i).length+1:=by rw [ee];simp
   have d0:decide (aZ L x<i)=false:=decide_eq_false (by omega)
   have d1:decide (aZ L x<i+1)=false:=decide_eq_false (by omega)
   rw [d0];repeat' (first|refine Wz ?_|((apply CW.aP mixed;(· kernel_rfl);rotate_left;intro w1 ab;replace hw:=Ext.trans hw ab;replace cd:=cd.ext ab;replace aN:=aN.ext ab;replace bC:=bC.ext ab;replace hO:=hO.ext ab;replace hE:=hE.ext ab;clear ab;rotate_right))|refine SW.cV rfl rfl rfl (fun h => ?_) (fun h => ?_)|refine SW.want rfl rfl ?_|refine SW.st (ap hw rfl g0) rfl ?_|refine SW.st (ap hw rfl g1) rfl ?_|refine SW.st (ap hw rfl g2) rfl ?_|refine SW.st (aH hw rfl rfl ((hl.row.sl.all cf))) rfl ?_|refine SW.br rfl rfl (fun w1 ab=>(cA _)) ?_|exact SW.bx rfl)
   all_goals try omega
   all_goals
    refine SW.bK rfl rfl rfl rfl rfl fun b w4 aj hb hB => ?_
    (replace hw:=Ext.trans hw aj;replace cd:=cd.ext aj;replace aN:=aN.ext aj;replace bC:=bC.ext aj;replace hO:=hO.ext aj;replace hE:=hE.ext aj);refine SW.append hO (aJ.mo (enc:=bq) (x:=ls[i]) hB) bC.lt rfl rfl rfl (zw _ qY).1 (zw _ qY).2 fun A2 c2 w5 fU hg => ?_
    have hG:=hO.gr hg;replace hw:=aF hw hg (Nat.le_trans pE (Nat.le_succ _)) hO.aM;replace bC:=bC.grown hg (fun e=>Nat.not_succ_le_self _ (hO.aM sJ e.symm));(replace cd:=cd.ay hG rfl;replace aN:=aN.ay hG rfl;replace hE:=hE.ay hG rfl);refine Wz ?_;refine ae.again (i+1,A2,c2,R++[ls[i]]) ⟨rfl,rfl,rfl,rfl,rfl,rfl,by simp only;rw [el];rfl,by simp only;rw [d1];rfl,rfl,trivial⟩ (by simp only;omega) ⟨by simp only;omega,hw,cd,aN,bC,by simp only;rw [el];exact fU,?_⟩;simp only;rw [ee];exact hE.snoc ((hl.each.get i lE kK).ext hw)
  ·have eh:∃ q,bV L x=q:=⟨_,rfl⟩
   obtain ⟨q,hq⟩:=eh;have d0:decide (aZ L x<i)=false:=decide_eq_false (by omega)
   have d1:decide (aZ L x<i+1)=true:=decide_eq_true (by omega)
   have Ep:(bX L x i).length+1≤r.av.n:=by have:=F0 (by omega);omega
   rw [d0];cases q
   ·have ha:bz x L[i]:=by
     have:=Ar hq (by omega)
     simpa only [← hk] using this
    have Ji:p=true:=by rw [← hp];exact decide_eq_true ha
    subst Ji;have Jj : ¬ (ls[i].dO=y.dO∧ls[i].ar=y.ar∧ls[i].Ty=y.Ty):=by have:=(j0 ha).2.1;unfold dl at this;omega
    have ee:=Bd hk kK hq;have el:(bX L x (i+1)).length=(bX L x i).length+1+1:=by rw [ee];simp
    repeat' (first|refine Wz ?_|((apply CW.aP mixed;(· kernel_rfl);rotate_left;intro w1 ab;replace hw:=Ext.trans hw ab;replace cd:=cd.ext ab;replace aN:=aN.ext ab;replace bC:=bC.ext ab;replace hO:=hO.ext ab;replace hE:=hE.ext ab;clear ab;rotate_right))|refine SW.want rfl rfl ?_|refine SW.st (aH hw rfl rfl ((hl.row.sl.all cf))) rfl ?_|refine SW.br rfl rfl (fun w1 ab=>(cA _)) ?_|exact SW.bx rfl)
    refine SW.bK rfl rfl rfl rfl rfl fun b w4 aj hb hB => ?_
    (replace hw:=Ext.trans hw aj;replace cd:=cd.ext aj;replace aN:=aN.ext aj;replace bC:=bC.ext aj;replace hO:=hO.ext aj;replace hE:=hE.ext aj);refine SW.append hO (aJ.mo (enc:=bq) (x:=y) hB) bC.lt rfl rfl rfl (zw _ qY).1 (zw _ qY).2 fun A2 c2 w5 fU hg => ?_
    have hG:=hO.gr hg;replace hw:=aF hw hg (Nat.le_trans pE (Nat.le_succ _)) hO.aM;replace bC:=bC.grown hg (fun e=>Nat.not_succ_le_self _ (hO.aM sJ e.symm));(replace cd:=cd.ay hG rfl;replace aN:=aN.ay hG rfl;replace hE:=hE.ay hG rfl);replace hE:=hE.snoc (hy.ext hw);replace hO:=fU;clear fU;repeat' (first|refine Wz ?_|refine SW.cV rfl rfl rfl (fun h => ?_) (fun h => ?_)|refine SW.st (ap hw rfl g0) rfl ?_|refine SW.st (ap hw rfl g1) rfl ?_|refine SW.st (ap hw rfl g2) rfl ?_|refine SW.st (aH hw rfl rfl ((hl.row.sl.all cf))) rfl ?_)
    all_goals try omega
    all_goals
     refine SW.bK rfl rfl rfl rfl rfl fun b w4 aj hb hB => ?_
     (replace hw:=Ext.trans hw aj;replace cd:=cd.ext aj;replace aN:=aN.ext aj;replace bC:=bC.ext aj;replace hO:=hO.ext aj;replace hE:=hE.ext aj);refine SW.append hO (aJ.mo (enc:=bq) (x:=ls[i]) hB) bC.lt rfl rfl rfl (zw _ Ep).1 (zw _ Ep).2 fun A2 c2 w5 gB hg => ?_
     have hG:=hO.gr hg;replace hw:=aF hw hg (Nat.le_trans pE (Nat.le_succ _)) hO.aM;replace bC:=bC.grown hg (fun e=>Nat.not_succ_le_self _ (hO.aM sJ e.symm));(replace cd:=cd.ay hG rfl;replace aN:=aN.ay hG rfl;replace hE:=hE.ay hG rfl);refine Wz ?_;refine ae.again (i+1,A2,c2,R++[y]++[ls[i]]) ⟨rfl,rfl,rfl,rfl,rfl,rfl,by simp only;rw [el];rfl,by simp only;rw [d1];rfl,rfl,trivial⟩ (by simp only;omega) ⟨by simp only;omega,hw,cd,aN,bC,by simp only;rw [el];exact gB,?_⟩;simp only;rw [ee];exact hE.snoc ((hl.each.get i lE kK).ext hw)
   ·obtain ⟨Ot,ma⟩:=jk hq;have Jk:dl L[i] x:=by simpa only [← hk] using ma
    have Ji:p=false:=by rw [← hp];exact decide_eq_false (by unfold bz dl at *;omega)
    subst Ji;obtain ⟨k1,k2,k3⟩:=id Jk;have ee:=xt hk hq;have el:(bX L x (i+1)).length=(bX L x i).length+1:=by rw [ee];simp
    repeat' (first|refine Wz ?_|(first|refine CW.bO rfl ?_|(apply CW.aP mixed;(· kernel_rfl);rotate_left;intro w1 ab;replace hw:=Ext.trans hw ab;replace cd:=cd.ext ab;replace aN:=aN.ext ab;replace bC:=bC.ext ab;replace hO:=hO.ext ab;replace hE:=hE.ext ab;clear ab;rotate_right))|refine SW.want rfl rfl ?_|refine SW.st (ap hw rfl g0) rfl ?_|refine SW.st (ap hw rfl g1) rfl ?_|refine SW.st (ap hw rfl g2) rfl ?_|refine SW.st (aH hw rfl rfl ((hl.row.sl.all cf))) rfl ?_|refine SW.br rfl rfl (fun w1 ab=>(cA _)) ?_|exact SW.bx rfl)
    all_goals try omega
    refine SW.bK rfl rfl rfl rfl rfl fun b w4 aj hb hB => ?_
    (replace hw:=Ext.trans hw aj;replace cd:=cd.ext aj;replace aN:=aN.ext aj;replace bC:=bC.ext aj;replace hO:=hO.ext aj;replace hE:=hE.ext aj);refine SW.append hO (aJ.mo (enc:=bq) (x:=y) hB) bC.lt rfl rfl rfl (zw _ qY).1 (zw _ qY).2 fun A2 c2 w5 fU hg => ?_
    have hG:=hO.gr hg;replace hw:=aF hw hg (Nat.le_trans pE (Nat.le_succ _)) hO.aM;replace bC:=bC.grown hg (fun e=>Nat.not_succ_le_self _ (hO.aM sJ e.symm));(replace cd:=cd.ay hG rfl;replace aN:=aN.ay hG rfl;replace hE:=hE.ay hG rfl);refine Wz ?_;refine ae.again (i+1,A2,c2,R++[y]) ⟨rfl,rfl,rfl,rfl,rfl,rfl,by simp only;rw [el];rfl,by simp only;rw [d1];rfl,rfl,trivial⟩ (by simp only;omega) ⟨by simp only;omega,hw,cd,aN,bC,by simp only;rw [el];exact fU,?_⟩;simp only;rw [ee];exact hE.snoc (hy.ext hw)
  ·have Lw:aZ L x<L.length:=by omega
   have ha:bz x L[i]:=by
    have h0:=hs.get kK hk;have h1:=Aq Lw;unfold bz at *;omega
   have Jj : ¬ (ls[i].dO=y.dO∧ls[i].ar=y.ar∧ls[i].Ty=y.Ty):=by have:=(j0 ha).2.1;unfold dl at this;omega
   have ee:=xu hk kK;have el:(bX L x (i+1)).length=(bX L x i).length+1:=by rw [ee];simp
   have d0:decide (aZ L x<i)=true:=decide_eq_true (by omega)
   have d1:decide (aZ L x<i+1)=true:=decide_eq_true (by omega)
   rw [d0];repeat' (first|refine Wz ?_|((apply CW.aP mixed;(· kernel_rfl);rotate_left;intro w1 ab;replace hw:=Ext.trans hw ab;replace cd:=cd.ext ab;replace aN:=aN.ext ab;replace bC:=bC.ext ab;replace hO:=hO.ext ab;replace hE:=hE.ext ab;clear ab;rotate_right))|refine SW.cV rfl rfl rfl (fun h => ?_) (fun h => ?_)|refine SW.skip rfl rfl rfl rfl ?_|refine SW.st (ap hw rfl g0) rfl ?_|refine SW.st (ap hw rfl g1) rfl ?_|refine SW.st (ap hw rfl g2) rfl ?_|refine SW.st (aH hw rfl rfl ((hl.row.sl.all cf))) rfl ?_|exact SW.bx rfl)
   all_goals try omega
   all_goals
    refine SW.bK rfl rfl rfl rfl rfl fun b w4 aj hb hB => ?_
    (replace hw:=Ext.trans hw aj;replace cd:=cd.ext aj;replace aN:=aN.ext aj;replace bC:=bC.ext aj;replace hO:=hO.ext aj;replace hE:=hE.ext aj);refine SW.append hO (aJ.mo (enc:=bq) (x:=ls[i]) hB) bC.lt rfl rfl rfl (zw _ qY).1 (zw _ qY).2 fun A2 c2 w5 fU hg => ?_
    have hG:=hO.gr hg;replace hw:=aF hw hg (Nat.le_trans pE (Nat.le_succ _)) hO.aM;replace bC:=bC.grown hg (fun e=>Nat.not_succ_le_self _ (hO.aM sJ e.symm));(replace cd:=cd.ay hG rfl;replace aN:=aN.ay hG rfl;replace hE:=hE.ay hG rfl);refine Wz ?_;refine ae.again (i+1,A2,c2,R++[ls[i]]) ⟨rfl,rfl,rfl,rfl,rfl,rfl,by simp only;rw [el];rfl,by simp only;rw [d1];rfl,rfl,trivial⟩ (by simp only;omega) ⟨by simp only;omega,hw,cd,aN,bC,by simp only;rw [el];exact fU,?_⟩;simp only;rw [ee];exact hE.snoc ((hl.each.get i lE kK).ext hw)
 ·have ei:i=L.length:=by omega
  subst ei;by_cases hk:aZ L x<L.length
  ·have ee:=xv hk;rw [ee] at hO hE;rw [ee,decide_eq_true hk];repeat' (first|refine Wz ?_|(refine CW.bB rfl ?_))
   refine SW.bA (i:=3) cd rfl rfl rfl rfl fun w6 fX hg => ?_
   have hG:=cd.gr hg;replace hw:=hw.own nS hg;replace aN:=aN.grown hg (by simpa using Ne.symm wo);(replace hO:=hO.ay hG rfl;replace hE:=hE.ay hG rfl);refine Wz ?_;refine SW.ak aN rfl rfl rfl rfl (cn ⟨r.aQ,r.bJ,r.bY,⟨A,_,c⟩,r.Live⟩) fun w7 bF hg => ?_
   have hG:=aN.gr hg;replace hw:=hw.own ki hg;(replace hO:=hO.ay hG rfl;replace hE:=hE.ay hG rfl);refine Wz ?_;exact ae.mr rfl rfl bF rfl ⟨_,rfl,hw,⟨A,_,c⟩,R,rfl,⟨hO.low (by omega),hE.each⟩⟩
  ·have qY:(bX L x L.length).length≤r.av.n:=by have:=F0 (by omega);omega
   have ee:=xw hk;rw [decide_eq_false hk];repeat' (first|refine Wz ?_|(refine CW.bO rfl ?_))
   refine SW.bK rfl rfl rfl rfl rfl fun b w4 aj hb hB => ?_
   (replace hw:=Ext.trans hw aj;replace cd:=cd.ext aj;replace aN:=aN.ext aj;replace bC:=bC.ext aj;replace hO:=hO.ext aj;replace hE:=hE.ext aj);refine SW.append hO (aJ.mo (enc:=bq) (x:=y) hB) bC.lt rfl rfl rfl (zw _ qY).1 (zw _ qY).2 fun A2 c2 w5 fU hg => ?_
   have hG:=hO.gr hg;replace hw:=aF hw hg (Nat.le_trans pE (Nat.le_succ _)) hO.aM;replace bC:=bC.grown hg (fun e=>Nat.not_succ_le_self _ (hO.aM sJ e.symm));(replace cd:=cd.ay hG rfl;replace aN:=aN.ay hG rfl;replace hE:=hE.ay hG rfl);replace hE:=hE.snoc (hy.ext hw);rw [ee] at hE;refine Wz ?_;refine SW.bA (i:=3) cd rfl rfl rfl rfl fun w6 fX hg => ?_
   have hG:=cd.gr hg;replace hw:=hw.own nS hg;replace aN:=aN.grown hg (by simpa using Ne.symm wo);(replace fU:=fU.ay hG rfl;replace hE:=hE.ay hG rfl);refine Wz ?_;refine SW.ak aN rfl rfl rfl rfl (cn ⟨r.aQ,r.bJ,r.bY,⟨A2,_,c2⟩,r.Live⟩) fun w7 bF hg => ?_
   have hG:=aN.gr hg;replace hw:=hw.own ki hg;(replace fU:=fU.ay hG rfl;replace hE:=hE.ay hG rfl);refine Wz ?_;exact ae.mr rfl rfl bF rfl ⟨_,rfl,hw,⟨A2,_,c2⟩,R++[y],rfl,⟨fU.low (by omega),hE.each⟩⟩
open Go.RowKit
open Go.RowKit
open Go.RowKit
structure Ou (h:Heap) : Prop where
 small:h.small
 ve:∀ z∈h.aQ,qX z
def ct (s:aE) (i:Nat) (p:Heap×bf) : aE:=⟨s.Words,p.1,s.aa.set i p.2⟩
structure Ov (c:bf) : Prop where
 small:c.small
 at_:∀ x∈c.ai,-9223372036854775808≤x.At∧x.At≤9223372036854775807
theorem aE.kh.jh {s:aE} (h:s.kh) : Ou s.Heap:=⟨h.small.heap,h.cQ⟩
theorem aE.kh.Lx {s:aE} (h:s.kh) {i:Nat} (hi:i<s.aa.length) : Ov s.aa[i]:=⟨h.small.each _ (List.getElem_mem hi),h.aS _ (List.getElem_mem hi)⟩
open Go.RowKit
theorem jT {α:Type} {p : α → Bool} {l:List α} (h:l.any p=true) : ∃ (i:Nat) (hi:i<l.length),p l[i]=true∧(∀ (j:Nat) (hj:j<l.length),j<i→p l[j]=false)∧idxOf p l=(i:Int):=by
 have h1:l.findIdx p<l.length:=List.findIdx_lt_length_of_exists (by simpa using h)
 exact ⟨l.findIdx p,h1,List.findIdx_getElem (w:=h1),fun j hj iL=>by simpa using List.not_of_lt_findIdx iL,by unfold idxOf;rw [if_pos h]⟩
noncomputable def me (s:aE) (n:ByteArray) (cpu:Int) : Int:=if g9 s then (if s.aa.any (ja n) then (if 0≤cpu∧cpu<s.Heap.bY then 0 else 1) else 4) else 8
theorem zx {s:aE} {n:ByteArray} {cpu:Int} (h:g9 s=false) : me s n cpu=8:=by simp [me,h]
theorem zy {s:aE} {n:ByteArray} {cpu:Int} (h:g9 s=true) (h1:s.aa.any (ja n)=false) : me s n cpu=4:=by simp only [me,h,h1,if_true,Bool.false_eq_true,if_false]
theorem zz {s:aE} {n:ByteArray} {cpu:Int} (h:g9 s=true) (h1:s.aa.any (ja n)=true) (h2 : ¬ (0≤cpu∧cpu<s.Heap.bY)) : me s n cpu=1:=by simp only [me,h,h1,if_true,if_neg h2]
theorem DB {s:aE} {n:ByteArray} {cpu:Int} (h:g9 s=true) (h1:s.aa.any (ja n)=true) (h2 : 0≤cpu∧cpu<s.Heap.bY) : me s n cpu=0:=by simp only [me,h,h1,if_true,if_pos h2]
theorem wq {s:aE} {n:ByteArray} {cpu:Int} (h:me s n cpu=0) : g9 s=true∧s.aa.any (ja n)=true∧0≤cpu∧cpu<s.Heap.bY:=by
 unfold me at h;split at h
 ·rename_i h0;split at h
  ·rename_i h1;split at h
   ·rename_i h2;exact ⟨h0,h1,h2⟩
   ·omega
  ·omega
 ·omega
def Hj (lo:Nat) (s:aE) (n:ByteArray) (cpu:Int) (v:Value) (w:World) : Prop :=
 (me s n cpu≠0∧v = .tuple #[.agg (aR .zero).toArray,.int .i64 0,.int .i64 (me s n cpu)]) ∨
 (me s n cpu=0 ∧ ∃ q cs,v = .tuple #[.agg (aR q).toArray,.int .i64 (idxOf (ja n) s.aa),.int .i64 0]∧SX w lo q s cs∧SI w lo q s cs)
theorem nH {s:aE} {i:Nat} {p:Heap×bf}:(ct s i p).aa.length=s.aa.length:=List.length_set
theorem oK {s:aE} {i:Nat} (hi:i<s.aa.length) : ct s i (s.Heap,s.aa[i])=s:=by
 cases s
 simp [ct]
section
variable {w w':World} {lo:Nat} {r:dQ} {s:aE} {cs:List dr} {i:Nat} {p:Heap×bf}
theorem nW.rows (h:SX w lo r (ct s i p) cs) : cs.length=s.aa.length∧r.aa.n=s.aa.length:=by
 have h1:=h.row.len;have h2:=h.each.len;rw [nH] at h2;omega
theorem nW.get (h:SX w lo r (ct s i p) cs) (hi:i<cs.length) (qa:i<s.aa.length) : mF w lo cs[i] p.2:=by
 have:=h.each.get i hi (by rw [nH];exact qa)
 simpa [ct] using this
theorem nW.Fc {n':Nat} {l':List Slab} (h:SX w lo r (ct s i p) cs) (hi:i<cs.length) (qa:i<s.aa.length) (hO:Own w' lo 91 3 aY cs[i].ai.A n' cs[i].ai.c l') (hg:w.grownBy w' (aU cs[i].ai.A cs[i].ai.c)) :
 nW w' lo r (ct s i (p.1,⟨p.2.Names,p.2.bg,p.2.cm,p.2.Order,l',p.2.au⟩)) cs (cs.set i ⟨cs[i].Names,cs[i].bg,cs[i].cm,cs[i].Order,⟨cs[i].ai.A,n',cs[i].ai.c⟩,cs[i].au⟩):=by
 have:=h.aS hi (by rw [nH];exact qa) hO hg
 simpa [ct] using this
theorem nW.tD {n' c':Nat} {A':Option Addr} {l':List Slab} (h:SX w lo r (ct s i p) cs) (fy:lo≤w.heap.size) (hi:i<cs.length) (qa:i<s.aa.length) (hx:Ext w w') (hO:Own w' w.heap.size 91 3 aY A' n' c' l') :
 nW w' lo r (ct s i (p.1,⟨p.2.Names,p.2.bg,p.2.cm,p.2.Order,l',p.2.au⟩)) cs (cs.set i ⟨cs[i].Names,cs[i].bg,cs[i].cm,cs[i].Order,⟨A',n',c'⟩,cs[i].au⟩):=by
 have:=h.DA fy hi (by rw [nH];exact qa) hx hO
 simpa [ct] using this
end
open Go.RowKit
theorem dN.Jl {l:List Int} {most x:Int} {acc:List Int} {r:Option (List Int)} (h:dN l most x acc r) : (acc.length:Int)≤most → ∀ out,r=some out→(out.length:Int)≤most:=by
 induction h with
 | done out=>intro ha o e;cases e;exact ha
 | bad=>intro _ _ e;cases e
 | @step k out r h1 hk h3 h ih =>
   intro ha o e;exact ih (by rw [List.length_append];simp;omega) o e
open Go.RowKit
def Ly (s:aE) (h:Heap) : aE:=⟨s.Words,h,s.aa⟩
open Go.RowKit
theorem BH {w:World} (h:mb w) : ∀ j v,(kL.map (Value.int .i64))[j]?=some v→w.cell? ((⟨0,0,none⟩ : Addr).add j)=some v:=fun j v hv=>by
 rcases Nat.lt_or_ge j 6 with hj|hj
 ·have:=h.sl.one (i:=j) (u:=v) hj (by
   rcases (show j=0∨j=1∨j=2∨j=3∨j=4∨j=5 by omega) with rfl|rfl|rfl|rfl|rfl|rfl<;>simpa [kL,bd] using hv)
  simpa using this
 ·rw [List.getElem?_eq_none (by simp [kL];omega)] at hv;cases hv
def kP (j:Nat) : Int:=(2:Int) ^ j
theorem Jm {j:Nat} (h:j<6) : kP j∈kL∧kL[j]?=some (kP j)∧1≤kP j∧kP j≤32:=by
 unfold kP;rcases (show j=0∨j=1∨j=2∨j=3∨j=4∨j=5 by omega) with rfl|rfl|rfl|rfl|rfl|rfl<;>decide
open Go.RowKit
structure SJ (G:Nat→Prop) (w:World) (lo:Nat) (r:dQ) (s:aE) (cs:List dr) : Prop where
 ints:∃ m1 m2,lo≤m1∧fC w m1 m2 r.Heap s.Heap ∧ ∀ g,((∃ u∈cs,aU u.au.A u.au.c=some g)∨G g)→(g<m1∨m2≤g)∧aU r.Words.A r.Words.c≠some g
 sep:∀ u∈cs,∀ g,G g→aU u.au.A u.au.c≠some g
section
variable {w w':World} {lo t:Nat} {r:dQ} {s:aE} {cs:List dr} {i:Nat} {p:Heap×bf} {G:Nat→Prop}
theorem SJ.rows {cs':List dr} {s':aE} (h:SJ G w lo r s cs) (hh:s'.Heap=s.Heap) (hc:∀ u∈cs',∃ v∈cs,aU u.au.A u.au.c=aU v.au.A v.au.c) : SJ G w lo r s' cs':=by
 obtain ⟨m1,m2,h1,h2,h3⟩:=h.ints;refine ⟨⟨m1,m2,h1,by rw [hh];exact h2,fun g e=>h3 g ?_⟩,fun u hu => ?_⟩
 ·rcases e with ⟨u,hu,e⟩|e
  ·obtain ⟨v,hv,e2⟩:=hc u hu;exact .inl ⟨v,hv,e2 ▸ e⟩
  ·exact .inr e
 ·obtain ⟨v,hv,e2⟩:=hc u hu;rw [e2];exact h.sep v hv
theorem SI.sj (h:SI w lo r s cs) : SJ (fun _=>False) w lo r s cs:=by
 obtain ⟨m1,m2,h1,h2,h3,h4,h5⟩:=h.ints;refine ⟨⟨m1,m2,h1,h4,fun g e => ?_⟩,fun u hu g e=>e.elim⟩;rcases e with ⟨u,hu,e⟩|e
 ·obtain ⟨j,hj,rfl⟩:=List.getElem_of_mem hu;have:=(h5.get j hj (by rw [← h5.len];exact hj)).a8.aM g e
  exact ⟨.inr this,fun e2=>by have:=h3 g e2;omega⟩
 ·exact e.elim
theorem SJ.ext (h:SJ G w lo r s cs) (hx:Ext w w') : SJ G w' lo r s cs:=by
 obtain ⟨m1,m2,h1,h2,h3⟩:=h.ints;exact ⟨⟨m1,m2,h1,h2.ext hx,h3⟩,h.sep⟩
theorem SJ.ay (h:SJ G w lo r s cs) (hG:oa w w' t) (cG:(Nat.beq t 3 || (Nat.beq t 165 || (Nat.beq t 139 || Nat.beq t 142)))=false) : SJ G w' lo r s cs:=by
 obtain ⟨m1,m2,h1,h2,h3⟩:=h.ints;exact ⟨⟨m1,m2,h1,h2.ay hG cG,h3⟩,h.sep⟩
theorem SJ.ne (h:SJ G w lo r s cs) {g:Nat} (hg:G g) (hi:i<cs.length) : some g≠aU cs[i].au.A cs[i].au.c:=fun e=>h.sep _ (List.getElem_mem hi) g hg e.symm
theorem nW.act {l':List Int} (h:SX w lo r (ct s i p) cs) (hJ:SJ G w lo r (ct s i p) cs) (hi:i<cs.length) (qa:i<s.aa.length) (hO:Own w' lo 3 1 bd cs[i].au.A cs[i].au.n cs[i].au.c l') (hg:w.grownBy w' (aU cs[i].au.A cs[i].au.c)) :
 SX w' lo r (ct s i (p.1,⟨p.2.Names,p.2.bg,p.2.cm,p.2.Order,p.2.ai,l'⟩)) cs∧SJ G w' lo r (ct s i (p.1,⟨p.2.Names,p.2.bg,p.2.cm,p.2.Order,p.2.ai,l'⟩)) cs:=by
 obtain ⟨m1,m2,h1,h2,h3⟩:=hJ.ints;have hc:=h.get hi qa;have hG:=hc.a8.gr hg;have Jn:cs.set i cs[i]=cs:=List.set_getElem_self hi
 have hh:fC w' m1 m2 r.Heap p.1:=by
  cases e:aU cs[i].au.A cs[i].au.c with
  | none=>rw [e] at hg;exact h2.ay (⟨none,hg,fun k hk=>by cases hk⟩ : oa w w' 44) rfl
  | some g=>rw [e] at hg;exact h2.Dz hg hG (h3 g (.inl ⟨_,List.getElem_mem hi,e⟩)).1
 have Jo:Own w' lo 3 1 bd r.Words.A r.Words.n r.Words.c s.Words:=h.words.apart hg fun g e e2=>(h3 g (.inl ⟨_,List.getElem_mem hi,e2⟩)).2 e
 refine ⟨⟨Jo,hh.own.low h1,h.row.ay hG rfl,?_,h.pair⟩,⟨⟨m1,m2,h1,hh,h3⟩,hJ.sep⟩⟩;have:=eA.setAt (x:=cs[i]) (R':=mF w' lo) h.each (i:=i) (y:=⟨p.2.Names,p.2.bg,p.2.cm,p.2.Order,p.2.ai,l'⟩) ⟨hc.size,hc.ji,hc.order,hc.names.ay hG rfl,hc.aS.ay hG rfl,hO⟩ fun j h1 h2 iL ho=>⟨ho.size,ho.ji,ho.order,ho.names.ay hG rfl,ho.aS.ay hG rfl,ho.a8.grown hg (qA (.inl (lG h.pair hi h1 iL).a8))⟩
 rw [Jn] at this;simpa [ct] using this
theorem nW.fresh {X:fF} {l':List Int} {H:eB} {h':Heap} {m:Nat} (h:SX w lo r (ct s i p) cs) (fy:lo≤m) (hm:∀ u∈cs,∀ g,aU u.au.A u.au.c=some g→g<m) (MT:∀ g,G g→g<m ∧ ∀ u∈cs,aU u.au.A u.au.c≠some g) (hX:Own w m 3 1 bd X.A X.n X.c l') (hH:iD w m H h') :
 SX w lo ⟨X,H,r.aa⟩ (ct ⟨l',s.Heap,s.aa⟩ i (h',p.2)) cs∧SJ G w lo ⟨X,H,r.aa⟩ (ct ⟨l',s.Heap,s.aa⟩ i (h',p.2)) cs:=by
 have key:∀ g,((∃ u∈cs,aU u.au.A u.au.c=some g)∨G g)→g<m:=fun g e=>by
  rcases e with ⟨u,hu,e⟩|e
  ·exact hm u hu g e
  ·exact (MT g e).1
 refine ⟨⟨hX.low fy,hH.low fy,h.row,h.each,h.pair⟩,⟨m,w.heap.size,fy,hH.mc,fun g e=>⟨.inl (key g e),fun e2 => ?_⟩⟩,fun u hu g e=>(MT g e).2 u hu⟩;have:=key g e
 have:=hX.aM g e2
 omega
theorem nW.nI {n' c':Nat} {A':Option Addr} {l':List Slab} (h:SX w lo r (ct s i p) cs) (hi:i<cs.length) (qa:i<s.aa.length) (hO:Own w' lo 91 3 aY A' n' c' l') (hg:w.grownBy w' (aU cs[i].ai.A cs[i].ai.c)) (kU:∀ k,aU A' c'=some k→aU cs[i].ai.A cs[i].ai.c=some k∨w.heap.size≤k) :
 nW w' lo r (ct s i (p.1,⟨p.2.Names,p.2.bg,p.2.cm,p.2.Order,l',p.2.au⟩)) cs (cs.set i ⟨cs[i].Names,cs[i].bg,cs[i].cm,cs[i].Order,⟨A',n',c'⟩,cs[i].au⟩):=by
 have hc:=h.get hi qa;have hG:=hc.aS.gr hg;refine ⟨h.words.ay hG rfl,h.heap.ay hG rfl,h.row.ay hG rfl,?_,?_⟩
 ·have:=eA.setAt (R':=mF w' lo) (i:=i) (x:=⟨cs[i].Names,cs[i].bg,cs[i].cm,cs[i].Order,⟨A',n',c'⟩,cs[i].au⟩) (y:=⟨p.2.Names,p.2.bg,p.2.cm,p.2.Order,l',p.2.au⟩) h.each ⟨hc.size,hc.ji,hc.order,hc.names.ay hG rfl,hO,hc.a8.ay hG rfl⟩ fun j h1 h2 iL ho=>⟨ho.size,ho.ji,ho.order,ho.names.ay hG rfl,ho.aS.grown hg (qA (.inl (lG h.pair hi h1 iL).aS)),ho.a8.ay hG rfl⟩
  simpa [ct] using this
 ·refine tC h.pair fun j hj iL => ?_
  have hp:=lG h.pair hi hj iL;have de:=(h.each.get j hj (by rw [← h.each.len];exact hj)).aS.lt_size
  have ha:apart ⟨A',n',c'⟩ cs[j].ai:=fun k e e2=>by
   rcases kU k e with e3|e3
   ·exact hp.aS k e3 e2
   ·have:=de k e2;omega
  exact ⟨⟨hp.names,ha,hp.a8⟩,⟨dR hp.names,dR ha,dR hp.a8⟩⟩
theorem nW.Ax (h:SX w lo r s cs) : ∀ u∈cs,∀ g,aU u.au.A u.au.c=some g→g<w.heap.size:=fun u hu g e=>by
 obtain ⟨j,hj,rfl⟩:=List.getElem_of_mem hu;exact (h.each.get j hj (by rw [← h.each.len];exact hj)).a8.lt_size g e
end
theorem BI {x y x' y':Block} (h:gU x y) (e1:x'.At=x.At) (e2:x'.Order=x.Order) (e3:y'.At=y.At) (e4:y'.Order=y.Order) : gU x' y':=by
 unfold gU at *;rw [e1,e2,e3,e4];exact h
theorem BJ {z:ar} (hz:bU z) {b:Block} {t:Int} (st:Bool) : xn (eH z b t st):=by
 have h:=xo hz;unfold eH;split
 ·unfold eD;split
  ·exact h
  ·unfold xn at *;rw [List.pairwise_map];exact h.imp fun {x y} KM=>BI KM (lX _ _ _ x).1 (lX _ _ _ x).2 (lX _ _ _ y).1 (lX _ _ _ y).2
 ·exact h
theorem xV {a q:Int} (h1 : 1≤q) (h4:q≤4) (hm:a % pw q=0) : beside (a+pw (q-1)) (q-1)=a∧(a+pw (q-1)) % pw (q-1)=0:=by
 have hp:pw q=2*pw (q-1):=by
  have:=jf (o:=q-1) (by omega) (by omega)
  rwa [Int.sub_add_cancel] at this
 unfold beside;rcases ev (show 0≤q-1 by omega) (show q-1≤4 by omega) with ⟨e1,e2⟩|⟨e1,e2⟩|⟨e1,e2⟩|⟨e1,e2⟩|⟨e1,e2⟩<;>rw [hp,e2] at hm<;>rw [e2]<;>(refine ⟨?_,by omega⟩)<;>split<;>omega
theorem DC {f t:Int} {l:List Block} {a q ty:Int} (h:vC f t l a q) (hn:xn l) (hq : 1≤q) : xn (m6 ty a q l):=by
 obtain ⟨f1,f2,f3,f4,f5⟩:=h.fit;obtain ⟨hb,hm⟩:=xV hq f2 f5
 have hp:pw q=2*pw (q-1):=by
  have:=jf (o:=q-1) (by omega) (by omega)
  rwa [Int.sub_add_cancel] at this
 have FG:=bE (o:=q-1) (by omega) (by omega)
 have cG:∀ x∈l,x.At≠a:=fun x hx e=>by
  have:=bE (h.c8 x hx).1.1 (h.c8 x hx).1.2.1
  rcases h.Cb x hx with g|g<;>omega
 have e:l=l.take (bG l (a+pw (q-1)))++l.drop (bG l (a+pw (q-1))):=(List.take_append_drop _ l).symm
 have h0:=hn;unfold xn at h0;rw [e,List.pairwise_append] at h0;obtain ⟨h1,h2,h3⟩:=h0
 have hA:∀ x∈l.take (bG l (a+pw (q-1))),gU x (jL ty a q):=fun x hx=>by
  have jO:=List.mem_of_mem_take hx;obtain ⟨j,hj,rfl⟩:=List.getElem_of_mem hx;simp only [List.length_take] at hj;rw [List.getElem_take] at jO ⊢;have de:=mS (l:=l) (a:=a+pw (q-1)) (k:=j) (by omega);refine ⟨?_,fun hh => ?_⟩
  ·simp only [jL];rcases h.Cb _ jO with g|g<;>omega
  ·obtain ⟨_,_,hh⟩:=hh;simp only [jL,hb] at hh;exact cG _ jO hh
 have hB:∀ x∈l.drop (bG l (a+pw (q-1))),gU (jL ty a q) x:=fun x hx=>by
  have jO:=List.mem_of_mem_drop hx;obtain ⟨j,hj,rfl⟩:=List.getElem_of_mem hx;simp only [List.length_drop] at hj;rw [List.getElem_drop] at jO ⊢;have ym:=Ab (l:=l) (a:=a+pw (q-1)) (by omega)
  have hle:(l[bG l (a+pw (q-1))]'(by omega)).At≤(l[bG l (a+pw (q-1))+j]'(by omega)).At:=by
   rcases Nat.eq_zero_or_pos j with rfl|vI
   ·exact Int.le_refl _
   ·have:=fr h.nQ (show bG l (a+pw (q-1))+j<l.length by omega) (show bG l (a+pw (q-1))<bG l (a+pw (q-1))+j by omega)
    have:=bE (h.c8 _ (List.getElem_mem (show bG l (a+pw (q-1))<l.length by omega))).1.1 (h.c8 _ (List.getElem_mem (show bG l (a+pw (q-1))<l.length by omega))).1.2.1
    omega
  have Kl:=(h.c8 _ jO).1;have Lz:=bE Kl.1 Kl.2.1;refine ⟨?_,fun hh => ?_⟩
  ·simp only [jL];rcases h.Cb _ jO with g|g<;>omega
  ·obtain ⟨g4,g5,hh⟩:=hh;have g6:=(lY Kl.1 g4 Kl.2.2.2.2).1;simp only [jL] at g5 hh;rw [← hh,← g5,hb] at g6;exact cG _ jO g6.symm
 unfold m6 aV xn;rw [List.append_assoc,List.pairwise_append];refine ⟨h1,?_,fun x hx y hy => ?_⟩
 ·rw [List.singleton_append,List.pairwise_cons];exact ⟨hB,h2⟩
 ·rw [List.singleton_append,List.mem_cons] at hy;rcases hy with rfl|hy
  ·exact hA x hx
  ·exact h3 x hx y hy
theorem vh {f t ty:Int} (h0 : 0≤f) (ht:t≤256) (GJ:t % 16=0) (nC:fp ty) {a:Int}:∀ (k:Nat) (q:Int) (l:List Block),(k:Int)≤q→vC f t l a q→xn l→vC f t (iW ty a k q l) a (q-k)∧xn (iW ty a k q l)
 | 0,q,l,_,h,hn=>by
   refine ⟨?_,hn⟩;have:q-((0:Nat) : Int)=q:=by omega
   rw [this];exact h
 | k+1,q,l,hk,h,hn=>by
   have hq : 1≤q:=by omega
   have:=vh h0 ht GJ nC k (q-1) (m6 ty a q l) (by omega) (sG h h0 ht GJ hq nC).1 (DC h hn hq)
   rw [iW];rwa [show q-1-(k:Int)=q-((k+1:Nat) : Int) by omega] at this
structure F1 (z z':ar) : Prop where
 may:bU z'
 from_:z'.aX=z.aX
 j6:z'.To=z.To
theorem gl.yN {z:ar} {o t:Int} {u:ar×Int×Int} (h:gl z o t u) (h0:u.2.2=0) : F1 z u.1∧(∃ x∈z.ag,x.At=u.2.1)∧ed z=true:=by
 cases h with
 | bad|range|kind|room=>simp at h0
 | @ok k st hq ho ht hk hp =>
   have hz:=dH.1 hq;obtain ⟨o1,o2,o3,o4,o5⟩:=hz.ok;obtain ⟨_,HZ,J9⟩:=hp.ord;obtain ⟨l1,l2,l3⟩:=pn hz (b:=z.ag[k]) ht st;have ES:k<(eH z z.ag[k] t st).length:=by omega
   have AV:=qg hz ht st hk;have hJ:=qf l2 l3 ES;rw [AV] at hJ;simp only at hJ;have hn:xn ((eH z z.ag[k] t st).eraseIdx k):=(BJ hz st).sublist (List.eraseIdx_sublist _ _)
   have mR:=hz.c8 k hk;have CB:fp (kZ z t st z.ag[k]):=by unfold kZ;split;exact ht;exact mR.2
   have hS:=vh (ty:=kZ z t st z.ag[k]) o1 o3 o5 CB (z.ag[k].Order-o).toNat z.ag[k].Order _ (by omega) hJ hn;have e:(if st=true then eD z.ag z.ag[k] t else z.ag)=eH z z.ag[k] t st:=rfl
   refine ⟨⟨⟨hz.ok,?_,?_,fun i hi => ?_,fun i hi => ?_⟩,rfl,rfl⟩,⟨z.ag[k],List.getElem_mem hk,rfl⟩,hq⟩
   ·simp only [m7];have hlen:=hz.len;split
    ·unfold dC;split
     ·exact hlen
     ·split<;>simpa using hlen
    ·exact hlen
   ·simp only [m7];intro v hv;split at hv
    ·unfold dC at hv;split at hv
     ·exact hz.types v hv
     ·split at hv
      ·rcases List.mem_or_eq_of_mem_set hv with hv|rfl
       ·rcases List.mem_or_eq_of_mem_set hv with hv|rfl
        ·exact hz.types v hv
        ·exact ht
       ·exact ht
      ·rcases List.mem_or_eq_of_mem_set hv with hv|rfl
       ·exact hz.types v hv
       ·exact ht
    ·exact hz.types v hv
   ·exact hS.1.c8 _ (List.getElem_mem hi)
   ·have hn:=hS.2;unfold xn at hn;rw [List.pairwise_iff_getElem] at hn;exact hn i (i+1) (by simp only [m7] at hi;exact Nat.lt_of_succ_lt hi) hi (Nat.lt_succ_self i)
def dL (fl:Int) : Int:=if 0≤fl∧fl≤15 then (if fl / 2 % 4=0 then 0 else if fl / 2 % 4=1 then 1 else if fl / 2 % 4=2 then 2 else -1) else -1
theorem xW {fl:Int} (h : 0≤dL fl) : (0≤fl∧fl≤15)∧fp (dL fl):=by
 unfold dL fp at *;split at h
 ·rename_i hf;rw [if_pos hf];refine ⟨hf,?_⟩;repeat' split
  all_goals omega
 ·omega
def rH (s:ar×ar) (zi:Int) : ar:=if zi=0 then s.1 else s.2
def k7 (s:ar×ar) (zi:Int) (z:ar) : ar×ar:=if zi=0 then (z,s.2) else (s.1,z)
def nt (m0 m1:Int) (s:ar×ar) (zi fl:Int) : Int:=(if 8≤fl then (if zi=0 then m0 else m1) / 2 else (if zi=0 then m0 else m1))+(if zi=0∧fl % 2=0 then (s.2.To-s.2.aX) / 32 else 0)
def dv (m0 m1:Int) (s:ar×ar) (zi o fl:Int) : Prop:=nt m0 m1 s zi fl≤dI (rH s zi).ag-pw o
instance (m0 m1:Int) (s:ar×ar) (zi o fl:Int) : Decidable (dv m0 m1 s zi o fl):=inferInstanceAs (Decidable (_≤_))
inductive fi (m0 m1 zi t fl:Int) : ar×ar→List Int→(ar×ar)×List Int→Prop
 | full {s:ar×ar} {l:List Int} (h:l.length=3) : fi m0 m1 zi t fl s l (s,l)
 | jU {s:ar×ar} {l:List Int} (h:l.length<3) (he : ¬ dv m0 m1 s zi 0 fl) : fi m0 m1 zi t fl s l (s,l)
 | none {s:ar×ar} {l:List Int} {u:ar×Int×Int} (h:l.length<3) (he:dv m0 m1 s zi 0 fl) (ht:gl (rH s zi) 0 t u) (hu:u.2.2≠0) : fi m0 m1 zi t fl s l (s,l)
 | more {s:ar×ar} {l:List Int} {u:ar×Int×Int} {r:(ar×ar)×List Int} (h:l.length<3) (he:dv m0 m1 s zi 0 fl) (ht:gl (rH s zi) 0 t u) (hu:u.2.2=0) (hr:fi m0 m1 zi t fl (k7 s zi u.1) (l++[u.2.1]) r) : fi m0 m1 zi t fl s l r
theorem fi.jy {m0 m1 zi t fl:Int} {s:ar×ar} {l:List Int} {r r':(ar×ar)×List Int} (h:fi m0 m1 zi t fl s l r) : fi m0 m1 zi t fl s l r'→r=r':=by
 induction h with
 | full h=>intro k;cases k with
   | full=>rfl
   | jU h'|none h'|more h'=>omega
 | jU h he=>intro k;cases k with
   | full h'=>omega
   | jU=>rfl
   | none _ lM|more _ lM=>exact absurd lM he
 | none h he ht hu=>intro k;cases k with
   | full h'=>omega
   | jU _ lM=>exact absurd he lM
   | none=>rfl
   | more _ _ mD BK=>rw [ht.jy mD] at hu;exact absurd BK hu
 | more h he ht hu hr ih=>intro k;cases k with
   | full h'=>omega
   | jU _ lM=>exact absurd he lM
   | none _ _ mD BK=>rw [ht.jy mD] at hu;exact absurd hu BK
   | more _ _ mD BK my =>
     have e:=ht.jy mD;subst e;exact ih my
def dp (x:aC) (pg:List Int) : aC:=⟨x.dO,x.ar,x.Ty,pg⟩
def rI (L:List aC) (x:aC) (pg:List Int) : List aC:=if pg.length≤1 then L.eraseIdx (aZ L x) else L.set (aZ L x) (dp x pg.dropLast)
def fZ (L:List aC) (x:aC) (pg:List Int) : List aC:=if pg=[] then L else jB L (dp x pg)
inductive im (m0 m1 cpu zi o t fl:Int) (s:ar×ar) (L:List aC) : Option ((ar×ar)×List aC×Int)→Prop
 | list (ho:o=0) (hk:bV L ⟨cpu,zi,t,[]⟩=true) (hp:dD L ⟨cpu,zi,t,[]⟩≠[]) : im m0 m1 cpu zi o t fl s L (some (s,rI L ⟨cpu,zi,t,[]⟩ (dD L ⟨cpu,zi,t,[]⟩),(dD L ⟨cpu,zi,t,[]⟩).getLast hp))
 | jU (hn : ¬ (o=0∧bV L ⟨cpu,zi,t,[]⟩=true)) (he : ¬ dv m0 m1 s zi o fl) : im m0 m1 cpu zi o t fl s L none
 | none {u:ar×Int×Int} (hn : ¬ (o=0∧bV L ⟨cpu,zi,t,[]⟩=true)) (he:dv m0 m1 s zi o fl) (ht:gl (rH s zi) o t u) (hu:u.2.2≠0) : im m0 m1 cpu zi o t fl s L none
 | ve {u:ar×Int×Int} (ho : 0<o) (he:dv m0 m1 s zi o fl) (ht:gl (rH s zi) o t u) (hu:u.2.2=0) : im m0 m1 cpu zi o t fl s L (some (k7 s zi u.1,L,u.2.1))
 | fill {u:ar×Int×Int} {r:(ar×ar)×List Int} (ho:o=0) (hk:bV L ⟨cpu,zi,t,[]⟩=false) (he:dv m0 m1 s zi o fl) (ht:gl (rH s zi) o t u) (hu:u.2.2=0) (hr:fi m0 m1 zi t fl (k7 s zi u.1) [] r) : im m0 m1 cpu zi o t fl s L (some (r.1,fZ L ⟨cpu,zi,t,[]⟩ r.2,u.2.1))
theorem im.jy {m0 m1 cpu zi o t fl:Int} {s:ar×ar} {L:List aC} {r r':Option ((ar×ar)×List aC×Int)} (h:im m0 m1 cpu zi o t fl s L r) (k:im m0 m1 cpu zi o t fl s L r') : r=r':=by
 cases h with
 | list ho hk hp=>cases k with
   | list=>rfl
   | jU hn|none hn=>exact absurd ⟨ho,hk⟩ hn
   | ve sc=>omega
   | fill _ oR=>rw [hk] at oR;cases oR
 | jU hn he=>cases k with
   | list ho hk=>exact absurd ⟨ho,hk⟩ hn
   | jU=>rfl
   | none _ lM|ve _ lM|fill _ _ lM=>exact absurd lM he
 | none hn he ht hu=>cases k with
   | list ho hk=>exact absurd ⟨ho,hk⟩ hn
   | jU _ lM=>exact absurd he lM
   | none=>rfl
   | ve _ _ mD BK|fill _ _ _ mD BK=>rw [ht.jy mD] at hu;exact absurd BK hu
 | ve ho he ht hu=>cases k with
   | list sc=>omega
   | jU _ lM=>exact absurd he lM
   | none _ _ mD BK=>rw [ht.jy mD] at hu;exact absurd hu BK
   | ve _ _ mD=>rw [ht.jy mD]
   | fill sc=>omega
 | fill ho hk he ht hu hr=>cases k with
   | list _ oR=>rw [hk] at oR;cases oR
   | jU _ lM=>exact absurd he lM
   | none _ _ mD BK=>rw [ht.jy mD] at hu;exact absurd hu BK
   | ve sc=>omega
   | fill _ _ _ mD _ my =>
     have e:=ht.jy mD;subst e;rw [hr.jy my]
inductive iq (m0 m1 cpu o t fl:Int) (s:ar×ar) (L:List aC) : Option ((ar×ar)×List aC×Int)→Prop
 | vS {r:(ar×ar)×List aC×Int} (hf:fl % 2=0) (h:im m0 m1 cpu 1 o t fl s L (some r)) : iq m0 m1 cpu o t fl s L (some r)
 | low {r:Option ((ar×ar)×List aC×Int)} (hf:fl % 2=0→im m0 m1 cpu 1 o t fl s L none) (h:im m0 m1 cpu 0 o t fl s L r) : iq m0 m1 cpu o t fl s L r
theorem iq.jy {m0 m1 cpu o t fl:Int} {s:ar×ar} {L:List aC} {r r':Option ((ar×ar)×List aC×Int)} (h:iq m0 m1 cpu o t fl s L r) (k:iq m0 m1 cpu o t fl s L r') : r=r':=by
 cases h with
 | vS hf h=>cases k with
   | vS _ h'=>exact h.jy h'
   | low uh=>cases h.jy (uh hf)
 | low hf h=>cases k with
   | vS uh h'=>cases h'.jy (hf uh)
   | low _ h'=>exact h.jy h'
def bT (h:Heap) (i:Nat) : Int:=h.bJ.getD i 0
def k8 (h:Heap) (s:ar×ar) (L:List aC) (lv:List Block) : Heap:=⟨[s.1,s.2],h.bJ,h.bY,L,lv⟩
def gD (h:Heap) (at_ o t:Int) : List Block:=aV h.Live (bG h.Live at_) ⟨at_,o,t⟩
inductive di (h:Heap) (cpu o fl:Int) : Heap×Int×Int→Prop
 | bad (hb:iN h=false) : di h cpu o fl (.zero,0,8)
 | range (hb:iN h=true) (hr : ¬ ((0≤cpu∧cpu<h.bY)∧0≤o∧o≤4)) : di h cpu o fl (.zero,0,1)
 | form (hb:iN h=true) (hr:(0≤cpu∧cpu<h.bY)∧0≤o∧o≤4) (ht:dL fl<0) : di h cpu o fl (.zero,0,3)
 | once {z0 z1:ar} {r:(ar×ar)×List aC×Int} (hb:iN h=true) (hr:(0≤cpu∧cpu<h.bY)∧0≤o∧o≤4) (ht : 0≤dL fl) (hz:h.aQ=[z0,z1]) (ha:iq (bT h 0) (bT h 1) cpu o (dL fl) fl (z0,z1) h.av (some r)) :
    di h cpu o fl (k8 h r.1 r.2.1 (gD h r.2.2 o (dL fl)),r.2.2,0)
 | nu {z0 z1:ar} {r:(ar×ar)×List aC×Int} (hb:iN h=true) (hr:(0≤cpu∧cpu<h.bY)∧0≤o∧o≤4) (ht : 0≤dL fl) (hz:h.aQ=[z0,z1]) (ha:iq (bT h 0) (bT h 1) cpu o (dL fl) fl (z0,z1) h.av none)
    (h2:iq (bT h 0) (bT h 1) cpu o (dL fl) fl (dt (z0,z1) (aT h.av)) [] (some r)) : di h cpu o fl (k8 h r.1 r.2.1 (gD h r.2.2 o (dL fl)),r.2.2,0)
 | room {z0 z1:ar} (hb:iN h=true) (hr:(0≤cpu∧cpu<h.bY)∧0≤o∧o≤4) (ht : 0≤dL fl) (hz:h.aQ=[z0,z1]) (ha:iq (bT h 0) (bT h 1) cpu o (dL fl) fl (z0,z1) h.av none)
    (h2:iq (bT h 0) (bT h 1) cpu o (dL fl) fl (dt (z0,z1) (aT h.av)) [] none) : di h cpu o fl (.zero,0,6)
theorem di.jy {h:Heap} {cpu o fl:Int} {u v:Heap×Int×Int} (a:di h cpu o fl u) (b:di h cpu o fl v) : u=v:=by
 cases a with
 | bad hb=>cases b with
   | bad=>rfl
   | range jJ|form jJ|once jJ|nu jJ|room jJ=>rw [hb] at jJ;cases jJ
 | range hb hr=>cases b with
   | bad jJ=>rw [hb] at jJ;cases jJ
   | range=>rfl
   | form _ my|once _ my|nu _ my|room _ my=>exact absurd my hr
 | form hb hr ht=>cases b with
   | bad jJ=>rw [hb] at jJ;cases jJ
   | range _ my=>exact absurd hr my
   | form=>rfl
   | once _ _ mD|nu _ _ mD|room _ _ mD=>omega
 | once hb hr ht hz ha=>cases b with
   | bad jJ=>rw [hb] at jJ;cases jJ
   | range _ my=>exact absurd hr my
   | form _ _ mD=>omega
   | once _ _ _ lN gh=>rw [hz] at lN;simp only [List.cons.injEq,and_true] at lN;obtain ⟨rfl,rfl⟩:=lN;cases ha.jy gh;rfl
   | nu _ _ _ lN gh|room _ _ _ lN gh=>rw [hz] at lN;simp only [List.cons.injEq,and_true] at lN;obtain ⟨rfl,rfl⟩:=lN;cases ha.jy gh
 | nu hb hr ht hz ha h2=>cases b with
   | bad jJ=>rw [hb] at jJ;cases jJ
   | range _ my=>exact absurd hr my
   | form _ _ mD=>omega
   | once _ _ _ lN gh=>rw [hz] at lN;simp only [List.cons.injEq,and_true] at lN;obtain ⟨rfl,rfl⟩:=lN;cases ha.jy gh
   | nu _ _ _ lN gh mx=>rw [hz] at lN;simp only [List.cons.injEq,and_true] at lN;obtain ⟨rfl,rfl⟩:=lN;cases h2.jy mx;rfl
   | room _ _ _ lN gh mx=>rw [hz] at lN;simp only [List.cons.injEq,and_true] at lN;obtain ⟨rfl,rfl⟩:=lN;cases h2.jy mx
 | room hb hr ht hz ha h2=>cases b with
   | bad jJ=>rw [hb] at jJ;cases jJ
   | range _ my=>exact absurd hr my
   | form _ _ mD=>omega
   | once _ _ _ lN gh=>rw [hz] at lN;simp only [List.cons.injEq,and_true] at lN;obtain ⟨rfl,rfl⟩:=lN;cases ha.jy gh
   | nu _ _ _ lN gh mx=>rw [hz] at lN;simp only [List.cons.injEq,and_true] at lN;obtain ⟨rfl,rfl⟩:=lN;cases h2.jy mx
   | room=>rfl
structure VS (s:ar×ar) : Prop where
 nU:bU s.1
 mH:bU s.2
 pr:s.1.aX=0
 Ao:s.1.To=s.2.aX
 EW:s.2.To=256
theorem VS.rH {s:ar×ar} (h:VS s) (zi:Int) : bU (rH s zi):=by unfold Go.Proofs.YtbidkghlpijecaaGreatDoor.rH;split;exact h.nU;exact h.mH
theorem VS.qw {s:ar×ar} (h:VS s) {zi:Int} {z':ar} (hk:F1 (Go.Proofs.YtbidkghlpijecaaGreatDoor.rH s zi) z') : VS (k7 s zi z'):=by
 obtain ⟨k1,k2,k3⟩:=hk;unfold Go.Proofs.YtbidkghlpijecaaGreatDoor.rH at k2 k3;unfold k7;split
 ·rename_i e;rw [if_pos e] at k2 k3;exact ⟨k1,h.mH,by rw [k2];exact h.pr,by rw [k3];exact h.Ao,h.EW⟩
 ·rename_i e;rw [if_neg e] at k2 k3;exact ⟨h.nU,k1,h.pr,by rw [k2];exact h.Ao,by rw [k3];exact h.EW⟩
theorem fi.vs {m0 m1 zi t fl:Int} {s:ar×ar} {l:List Int} {r:(ar×ar)×List Int} (h:fi m0 m1 zi t fl s l r) : VS s→VS r.1∧r.2.length≤3:=by
 induction h with
 | full h=>exact fun k=>⟨k,by simp only;omega⟩
 | jU h he=>exact fun k=>⟨k,by simp only;omega⟩
 | none h=>exact fun k=>⟨k,by simp only;omega⟩
 | more h he ht hu hr ih=>exact fun k=>ih (k.qw (ht.yN hu).1)
theorem nT.vs {s:ar×ar} {bs:List Block} (h:nT s bs) : VS s:=⟨h.nU,h.mH,h.pr,h.Ao,h.EW⟩
def tE (s:ar×ar) (L:List aC) (a:Int) : Prop:=(∃ x∈s.1.ag,x.At=a)∨(∃ x∈s.2.ag,x.At=a) ∨ ∃ l∈L,a∈l.ax
theorem im.found {m0 m1 cpu zi o t fl:Int} {s:ar×ar} {L:List aC} {r:(ar×ar)×List aC×Int} (h:im m0 m1 cpu zi o t fl s L (some r)) (hv:VS s) : VS r.1∧tE s L r.2.2:=by
 have fz:∀ {u:ar×Int×Int},gl (rH s zi) o t u→u.2.2=0→VS (k7 s zi u.1)∧tE s L u.2.1:=fun {u} ht hu=>by
  obtain ⟨k1,⟨x,hx,e⟩,_⟩:=ht.yN hu;refine ⟨hv.qw k1,?_⟩;unfold rH at hx;split at hx
  ·exact .inl ⟨x,hx,e⟩
  ·exact .inr (.inl ⟨x,hx,e⟩)
 cases h with
 | list ho hk hp =>
   refine ⟨hv,.inr (.inr ?_)⟩;obtain ⟨hl,_⟩:=jk hk;refine ⟨_,List.getElem_mem hl,?_⟩;have e:=iX hk hl;have hm:∀ a,a∈dD L ⟨cpu,zi,t,[]⟩→a∈L[aZ L ⟨cpu,zi,t,[]⟩].ax:=fun a ha=>by rw [e] at ha;exact ha
   exact hm _ (List.getLast_mem hp)
 | ve ho he ht hu=>exact fz ht hu
 | fill ho hk he ht hu hr=>exact ⟨(hr.vs (fz ht hu).1).1,(fz ht hu).2⟩
theorem iq.found {m0 m1 cpu o t fl:Int} {s:ar×ar} {L:List aC} {r:(ar×ar)×List aC×Int} (h:iq m0 m1 cpu o t fl s L (some r)) (hv:VS s) : VS r.1∧tE s L r.2.2:=by
 cases h with
 | vS _ h=>exact h.found hv
 | low _ h=>exact h.found hv
theorem zA {L:List aC} {y:aC} (hs:rT L) (hk:bV L y=false) : rT (aV L (aZ L y) y):=by
 have h0:=hs;unfold rT at h0 ⊢;rw [← List.take_append_drop (aZ L y) L,List.pairwise_append] at h0;obtain ⟨h1,h2,h3⟩:=h0
 have hT:∀ z∈L.take (aZ L y),bz z y:=fun z hz=>by
  obtain ⟨j,hj,rfl⟩:=List.getElem_of_mem hz;rw [List.length_take] at hj;rw [List.getElem_take];exact l7 (by omega)
 have hD:∀ z∈L.drop (aZ L y),bz y z:=fun z hz=>by
  obtain ⟨j,hj,rfl⟩:=List.getElem_of_mem hz;rw [List.length_drop] at hj;rw [List.getElem_drop];have h:=Ar hk (by omega);rcases Nat.eq_zero_or_pos j with rfl|vI
  ·exact h
  ·exact qT h (hs.get (show aZ L y+j<L.length by omega) (by omega))
 unfold aV;rw [List.append_assoc,List.pairwise_append];refine ⟨h1,?_,fun a ha b hb => ?_⟩
 ·rw [List.singleton_append,List.pairwise_cons];exact ⟨hD,h2⟩
 ·rw [List.singleton_append,List.mem_cons] at hb;rcases hb with rfl|hb
  ·exact hT a ha
  ·exact h3 a ha b hb
section
variable {L:List aC} {x:aC} {pg:List Int}
theorem ko:dl x (dp x pg):=⟨rfl,rfl,rfl⟩
theorem lH:fZ L x []=L:=by simp [fZ]
theorem qC (hk:bV L x=false) (hp:pg≠[]) : fZ L x pg=aV L (aZ L (dp x pg)) (dp x pg):=by
 rw [fZ,if_neg hp,oF (by rw [← (ju (L:=L) (ko (x:=x) (pg:=pg))).2];exact hk)]
theorem wu (hs:rT L) (hk:bV L x=false) : rT (fZ L x pg):=by
 by_cases hp:pg=[]
 ·subst hp;rw [lH];exact hs
 ·rw [qC hk hp];exact zA hs (by rw [← (ju (L:=L) (ko (x:=x) (pg:=pg))).2];exact hk)
theorem vi (hk:bV L x=false) : ∀ l∈fZ L x pg,l∈L∨l=dp x pg:=fun l hl=>by
 by_cases hp:pg=[]
 ·subst hp;rw [lH] at hl;exact .inl hl
 ·rw [qC hk hp] at hl;unfold aV at hl;rw [List.mem_append,List.mem_append,List.mem_singleton] at hl;rcases hl with (hl|hl)|hl
  ·exact .inl (List.mem_of_mem_take hl)
  ·exact .inr hl
  ·exact .inl (List.mem_of_mem_drop hl)
theorem vj (hk:bV L x=false) : (fZ L x pg).length≤L.length+1:=by
 by_cases hp:pg=[]
 ·subst hp;rw [lH];omega
 ·rw [qC hk hp,du _ (fK _ _)];omega
theorem zB (hk:bV L x=false) (a:Int) : jB (fZ L x pg) ⟨x.dO,x.ar,x.Ty,dD (fZ L x pg) x++[a]⟩=fZ L x (pg++[a]):=by
 have cG:pg++[a]≠[]:=by simp
 by_cases hp:pg=[]
 ·subst hp;rw [lH,lB hk,fZ,if_neg cG];rfl
 ·have e:fZ L x pg=jB L (dp x pg):=by rw [fZ,if_neg hp]
  obtain ⟨e1,e2⟩:=ju (L:=jB L (dp x pg)) (ko (x:=x) (pg:=pg));obtain ⟨e3,e4⟩:=C4 (L:=L) (x:=dp x pg);obtain ⟨de,k6⟩:=List.getElem?_eq_some_iff.1 (xr (L:=L) (x:=dp x pg))
  have Er:dD (jB L (dp x pg)) x=pg:=by
   rw [iX (by rw [e2];exact e4) (by rw [e1,e3];exact de)];simp only [e1,e3,k6]
   rfl
  rw [e,Er,fZ,if_neg cG];have ma:dl (dp x pg) (⟨x.dO,x.ar,x.Ty,pg++[a]⟩ : aC):=⟨rfl,rfl,rfl⟩
  obtain ⟨e5,e6⟩:=ju (L:=jB L (dp x pg)) ma;rw [oE (by rw [← e6];exact e4),← e5,e3];exact C5 ma
end
theorem DD {x:aC} {L:List aC} {pg:List Int} (h : 1<pg.length) : rI L x pg=L.set (aZ L x) (dp x pg.dropLast):=by rw [rI,if_neg (by omega)]
theorem zC {x:aC} {L:List aC} {pg:List Int} (h:pg.length=1) : rI L x pg=L.eraseIdx (aZ L x):=by rw [rI,if_pos (by omega)]
theorem tF {l:List Int} (h:l≠[]) {i:Nat} (hi:i<l.length) (e:i=l.length-1) : l.getLast h=l[i]:=by
 subst e;rw [List.getLast_eq_getElem]
theorem mu.Ay {h:Heap} {z0 z1:ar} (f:mu h z0 z1) {a:Int} {i:Nat} (ha:a=(i:Int)) (hc:dP (z0.ag++z1.ag++aT h.av) i=true) : ∀ b∈h.Live,b.At≠a:=fun b hb e=>by
 obtain ⟨l,m,e1⟩:=List.append_of_mem hb;have fP:=f.all;rw [e1,← List.append_assoc] at fP;have hf:=l6 fP;obtain ⟨j,hj,rfl⟩:=List.getElem_of_mem hb;have Jp:=(f.live.each j hj).1;have hp:=bE Jp.1 Jp.2;obtain ⟨_,_,ho⟩:=hf;unfold dP at hc;rw [List.any_eq_true] at hc;obtain ⟨y,hy,Jq⟩:=hc;unfold qe at Jq;rw [Bool.and_eq_true,decide_eq_true_eq,decide_eq_true_eq] at Jq
 have:e8 (z0.ag++z1.ag++aT h.av++l) h.Live[j].At h.Live[j].Order=true:=by
  unfold e8;rw [List.any_eq_true];refine ⟨y,List.mem_append_left _ hy,?_⟩;rw [Bool.and_eq_true,decide_eq_true_eq,decide_eq_true_eq];omega
 rw [ho] at this;cases this
theorem pH {z:ar} (hz:bU z) {x:Block} (hx:x∈z.ag) : ∃ i:Nat,x.At=(i:Int)∧i<256∧dP z.ag i=true:=by
 obtain ⟨j,hj,rfl⟩:=List.getElem_of_mem hx;have h1:=(hz.c8 j hj).1;have h2:=hz.ok;obtain ⟨o1,o2,o3,o4,o5⟩:=h2;have hp:=bE h1.1 h1.2.1;obtain ⟨b1,b2,b3,b4,b5⟩:=h1;refine ⟨z.ag[j].At.toNat,by omega,by omega,?_⟩;unfold dP;rw [List.any_eq_true];refine ⟨_,hx,?_⟩;unfold qe;rw [Bool.and_eq_true,decide_eq_true_eq,decide_eq_true_eq];omega
theorem nJ {h:Heap} {z0 z1:ar} (f:mu h z0 z1) {a:Int} (ha:tE (z0,z1) h.av a) : ∃ i:Nat,a=(i:Int)∧i<256∧dP (z0.ag++z1.ag++aT h.av) i=true:=by
 rcases ha with ⟨x,hx,rfl⟩|⟨x,hx,rfl⟩|⟨l,hl,hp⟩
 ·obtain ⟨i,h1,h2,h3⟩:=pH f.d.nU hx;exact ⟨i,h1,h2,by rw [fh,fh,h3];rfl⟩
 ·obtain ⟨i,h1,h2,h3⟩:=pH f.d.mH hx;exact ⟨i,h1,h2,by rw [fh,fh,h3];simp⟩
 ·have hm:db a∈aT h.av:=by
   unfold aT;rw [List.mem_flatMap];exact ⟨l,hl,List.mem_map_of_mem hp⟩
  obtain ⟨j,hj,e⟩:=List.getElem_of_mem hm;have hN:=f.d.next hj;rw [e] at hN;have h1:=hN.at_;simp only [db] at h1;refine ⟨a.toNat,by omega,by omega,?_⟩;rw [fh]
  have:dP (aT h.av) a.toNat=true:=by
   unfold dP;rw [List.any_eq_true];refine ⟨_,hm,?_⟩;unfold qe;rw [Bool.and_eq_true,decide_eq_true_eq,decide_eq_true_eq];have:pw 0=1:=by decide
   change a≤_∧_<a+pw 0
   omega
  rw [this];simp
theorem ga {h:Heap} {z0 z1:ar} (d:lA h z0 z1) : nT (dt (z0,z1) (aT h.av)) (z0.ag++z1.ag++aT h.av):=by
 have:=d.inv (aT h.av).length (Nat.le_refl _)
 rwa [List.take_length] at this
theorem mf {h:Heap} {z0 z1:ar} (f:mu h z0 z1) {a:Int} (ha:tE (dt (z0,z1) (aT h.av)) [] a) : ∃ i:Nat,a=(i:Int)∧i<256∧dP (z0.ag++z1.ag++aT h.av) i=true:=by
 have hD:=ga f.d;rcases ha with ⟨x,hx,rfl⟩|⟨x,hx,rfl⟩|⟨l,hl,hp⟩
 ·obtain ⟨i,h1,h2,h3⟩:=pH hD.nU hx;exact ⟨i,h1,h2,by rw [← hD.Cg,h3];rfl⟩
 ·obtain ⟨i,h1,h2,h3⟩:=pH hD.mH hx;exact ⟨i,h1,h2,by rw [← hD.Cg,h3];simp⟩
 ·simp at hl
theorem tG {h:Heap} {z0 z1:ar} (f:mu h z0 z1) : h.Live.length≤256:=by
 have hu:=rV f.live;rw [List.pairwise_iff_getElem] at hu
 have key:∀ (i:Nat) (hi:i<h.Live.length),(i:Int)≤h.Live[i].At:=by
  intro i;induction i with
  | zero=>intro hi;have:=(f.next hi).at_;exact this.1
  | succ i ih=>intro hi;have h1:=ih (by omega);have h2:=hu i (i+1) (by omega) hi (by omega);omega
 rcases Nat.lt_or_ge 256 h.Live.length with h1|h1
 ·have h2:=key 256 h1;have h3:=(f.next h1).at_;omega
 ·exact h1
open Go.RowKit
theorem im.lists {m0 m1 cpu zi o t f:Int} {s:ar×ar} {L:List aC} {r:(ar×ar)×List aC×Int} (h:im m0 m1 cpu zi o t f s L (some r)) (hv:VS s) (hL:∀ l∈L,l.ax.length≤8) : r.2.1.length≤L.length+1 ∧ ∀ l∈r.2.1,l.ax.length≤8:=by
 cases h with
 | list ho hk hp =>
   obtain ⟨hl,_⟩:=jk hk;have e:=iX hk hl;have h8:=hL _ (List.getElem_mem hl);rw [← e] at h8;simp only;unfold rI;split
   ·exact ⟨by have:=List.length_eraseIdx_le L (aZ L ⟨cpu,zi,t,[]⟩);omega,fun l hl=>hL l (List.mem_of_mem_eraseIdx hl)⟩
   ·refine ⟨by rw [List.length_set];omega,fun l hl => ?_⟩;rcases List.mem_or_eq_of_mem_set hl with h1|rfl
    ·exact hL l h1
    ·simp only [dp,List.length_dropLast];omega
 | ve ho he ht hu=>exact ⟨by simp only;omega,hL⟩
 | @fill u r' ho hk he ht hu hr =>
   have h3:=(hr.vs (hv.qw (ht.yN hu).1)).2
   exact ⟨vj hk,fun l hl=>by
    rcases vi hk l hl with h1|rfl
    ·exact hL l h1
    ·simp only [dp];omega⟩
theorem iq.lists {m0 m1 cpu o t f:Int} {s:ar×ar} {L:List aC} {r:(ar×ar)×List aC×Int} (h:iq m0 m1 cpu o t f s L (some r)) (hv:VS s) (hL:∀ l∈L,l.ax.length≤8) : r.2.1.length≤L.length+1 ∧ ∀ l∈r.2.1,l.ax.length≤8:=by
 cases h with
 | vS _ h=>exact h.lists hv hL
 | low _ h=>exact h.lists hv hL
theorem di.small {h:Heap} {cpu o f:Int} {u:Heap×Int×Int} (a:di h cpu o f u) (hs:h.small) : u.1.small:=by
 have hz:(Heap.zero).small:=by constructor<;>simp [Heap.zero]
 have key:∀ (z0 z1:ar) (F:mu h z0 z1) (s:ar×ar) (L:List aC) (x:Int) (t:Int),VS s→L.length≤257→(∀ l∈L,l.ax.length≤8)→(k8 h s L (gD h x o t)).small:=fun z0 z1 F s L x t hv h1 h2=>by
  have Lt:=ka hv.nU;have wV:=ka hv.mH;have mn:=tG F
  have FP:(gD h x o t).length≤257:=by
   unfold gD;have sw:bG h.Live x≤h.Live.length:=List.findIdx_le_length
   rw [du _ sw];omega
  refine ⟨by simp [k8],hs.ck,?_,?_,fun z hz => ?_,fun l hl => ?_⟩
  ·simp only [k8];omega
  ·simp only [k8];omega
  ·simp only [k8,List.mem_cons,List.not_mem_nil,or_false] at hz;rcases hz with rfl|rfl
   ·omega
   ·omega
  ·have:=h2 l hl;omega
 cases a with
 | bad|range|form|room=>exact hz
 | once hb hr ht hz ha =>
   obtain ⟨z0,z1,F⟩:=lC (ig.1 hb);rw [F.d.cQ] at hz;simp only [List.cons.injEq,and_true] at hz;obtain ⟨rfl,rfl⟩:=hz;have hv:=F.d.start.vs;obtain ⟨g1,g2⟩:=ha.lists hv (fun l hl=>(F.lists l hl).2);have:=F.count
   exact key _ _ F _ _ _ _ (ha.found hv).1 (by omega) g2
 | nu hb hr ht hz ha h2 =>
   obtain ⟨z0,z1,F⟩:=lC (ig.1 hb);rw [F.d.cQ] at hz;simp only [List.cons.injEq,and_true] at hz;obtain ⟨rfl,rfl⟩:=hz;have hv:=(ga F.d).vs;obtain ⟨g1,g2⟩:=h2.lists hv (fun l hl=>by simp at hl);simp only [List.length_nil] at g1;exact key _ _ F _ _ _ _ (h2.found hv).1 (by omega) g2
theorem di.at_ {h:Heap} {cpu o f:Int} {u:Heap×Int×Int} (a:di h cpu o f u) (he:u.2.2=0) : 0≤u.2.1∧u.2.1<256:=by
 cases a with
 | bad|range|form|room=>simp at he
 | once hb hr ht hz ha =>
   obtain ⟨z0,z1,F⟩:=lC (ig.1 hb);rw [F.d.cQ] at hz;simp only [List.cons.injEq,and_true] at hz;obtain ⟨rfl,rfl⟩:=hz;obtain ⟨i,e,h1,_⟩:=nJ F (ha.found F.d.start.vs).2;simp only at e ⊢;omega
 | nu hb hr ht hz ha h2 =>
   obtain ⟨z0,z1,F⟩:=lC (ig.1 hb);rw [F.d.cQ] at hz;simp only [List.cons.injEq,and_true] at hz;obtain ⟨rfl,rfl⟩:=hz;obtain ⟨i,e,h1,_⟩:=mf F (h2.found (ga F.d).vs).2;simp only at e ⊢;omega
end Go.Proofs.YtbidkghlpijecaaGreatDoor
