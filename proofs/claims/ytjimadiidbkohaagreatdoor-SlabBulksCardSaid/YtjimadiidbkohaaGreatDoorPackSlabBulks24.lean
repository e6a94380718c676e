/-
  Texts of the claim SlabBulks, part 24: what its theorem leans on.
-/
import Derived.Test.YtjimadiidbkohaaGreatDoorPackSlabBulks23
import Derived.Test.YtjimadiidbkohaaGreatDoorPackSlabBulks2
import Derived.Test.YtjimadiidbkohaaGreatDoorPackSlabBulks11
import Derived.Test.YtjimadiidbkohaaGreatDoorPackSlabBulks19
import Derived.Test.YtjimadiidbkohaaGreatDoorPackSlabBulks13
import Derived.Test.YtjimadiidbkohaaGreatDoorPackSlabBulks8
import Derived.Test.YtjimadiidbkohaaGreatDoorPackSlabBulks14
set_option linter.unusedVariables false
set_option linter.unusedSimpArgs false
namespace Go.Proofs.YtjimadiidbkohaaGreatDoor
open Go.RowKit
structure oH (k:HK) (p:HP) (o:Option Nat) : Prop where
 m:∀ g,o=some g→ob k.m≠some g
 t0:∀ g,o=some g→ob p.u0.Types≠some g
 t1:∀ g,o=some g→ob p.u1.Types≠some g
 pg:∀ g,o=some g → ∀ y∈p.ls,ob y.aw≠some g
theorem oH.nil (k:HK) (p:HP) : oH k p none:=⟨fun g e=>(by cases e),fun g e=>(by cases e),fun g e=>(by cases e),fun g e=>(by cases e)⟩
theorem RQ.fresh {wb w:World} {k:HK} {p:HP} {s:aq×aq} {L:List aA} {o:Option Nat} (Q:RQ wb w k p s L) (h:∀ g,o=some g→w.heap.size≤g) : oH k p o:=by
 refine ⟨fun g e e2 => ?_,fun g e e2 => ?_,fun g e e2 => ?_,fun g e y hy e2 => ?_⟩
 ·have:=h g e;have:=Q.cn.lt_size g e2;omega
 ·have:=h g e;have:=Q.zs.z0.types.lt_size g e2;omega
 ·have:=h g e;have:=Q.zs.z1.types.lt_size g e2;omega
 ·obtain ⟨j,hj,rfl⟩:=List.getElem_of_mem hy;have:=h g e
  have:=(Q.ls.each.get j hj (by rw [← Q.ls.each.len];exact hj)).cu.lt_size g e2
  omega
theorem oH.either {k:HK} {p:HP} {o o':Option Nat} (h:oH k p o) (h':∀ g,o'=some g→o=some g∨oH k p (some g)) : oH k p o':=by
 refine ⟨fun g e => ?_,fun g e => ?_,fun g e => ?_,fun g e => ?_⟩
 ·rcases h' g e with h1|h1
  ·exact h.m g h1
  ·exact h1.m g rfl
 ·rcases h' g e with h1|h1
  ·exact h.t0 g h1
  ·exact h1.t0 g rfl
 ·rcases h' g e with h1|h1
  ·exact h.t1 g h1
  ·exact h1.t1 g rfl
 ·rcases h' g e with h1|h1
  ·exact h.pg g h1
  ·exact h1.pg g rfl
theorem oH.ku {k:HK} {p:HP} {o:Option Nat} {n zi:Nat} {u:ct} (h:oH k p o) (c8:∀ g,o=some g→g<n) (hu:∀ g,aQ u.Types.A u.Types.c=some g→n≤g) : oH k (ku p zi u) o:=by
 have hn:∀ g,o=some g→ob u.Types≠some g:=fun g e e2=>by have:=c8 g e;have:=hu g e2;omega
 unfold Proofs.YtjimadiidbkohaaGreatDoor.ku;split
 ·exact ⟨h.m,hn,h.t1,h.pg⟩
 ·exact ⟨h.m,h.t0,hn,h.pg⟩
theorem RQ.Al {wb w w':World} {k:HK} {p:HP} {s:aq×aq} {L:List aA} {o:Option Nat} (Q:RQ wb w k p s L) (hg:w.grownBy w' o) (hG:nY w w' 3) (hn:oH k p o) (hb:∀ g,o=some g→wb.heap.size≤g) : RQ wb w' k p s L:=by
 refine ⟨Q.zs.EG hg hG (fun g e u hu => ?_),Q.cn.apart hg (fun g e e2=>hn.m g e2 e),Q.live.ay hG rfl,⟨Q.ls.row.ay hG rfl,⟨Q.ls.each.len,fun j h1 h2 => ?_⟩⟩,aF Q.base hg (Nat.le_refl _) hb⟩
 ·simp only [List.mem_cons,List.not_mem_nil,or_false] at hu;rcases hu with rfl|rfl
  ·exact hn.t0 g e
  ·exact hn.t1 g e
 ·have hj:=Q.ls.each.get j h1 h2;exact ⟨hj.cpu,hj.fC,hj.ty,hj.cu.apart hg (fun g e e2=>hn.pg g e2 _ (List.getElem_mem h1) e)⟩
theorem Sl.FT {α:Type} {w:World} {sz:Nat} {enc : α → List Value} {A:Option Addr} {n:Nat} {l:List α} (h:Sl w sz enc A n l) {i:Nat} {x : α} (hi:i<l.length) (hx:l[i]=x) : ∀ (j:Nat) (v:Value),(enc x)[j]?=some v→w.cell? (((A.getD default).add (i*sz)).add j)=some v:=fun j v hj=>by
 subst hx;exact h.cell i hi j v hj
def Hi:Option ((aq×aq)×List aA×Int)→Int
 | Option.none => -1
 | some q=>q.2.2
set_option maxHeartbeats 16000000 in
theorem qy (k:HK) (p:HP) (s:aq×aq) (L:List aA) (m0 m1 cpu:Int) (zi:Nat) (o t f:Int) (wb w:World) (Q:RQ wb w k p s L) (hM:n9 k.M m0 m1) (hv:VS s) (hs:rH L) (Am:∀ l∈L,1≤l.aw.length∧l.aw.length≤8) (wg:L.length≤256) (jc:zi<2) (ho : 0≤o∧o≤4) (hf : 0≤f∧f≤15) :
 il Tryz.prog 56 [.agg (bm (k.h p)).toArray,.int .i64 cpu,.int .i64 (zi:Int),.int .i64 o,.int .i64 t,.int .i64 f] w fun v w' => ∃ q,g7 m0 m1 cpu zi o t f s L q ∧ ∃ p',v = .tuple #[.agg (bm (k.h p')).toArray,.int .i64 (Hi q)]∧RQ wb w' k p' (Dv s q) (BF L q)∧G2 w w' k.g k.g:=by
 refine dC Tryz.func56 rfl Tryz.ntmps56 rfl ?_;refine CW.seq (CW.region (SW.box rfl rfl fun b6 w1 hw fb ax => ?_));refine SW.alloc rfl fun nq w2 cJ mv aX => ?_
 have dr:w.heap.size≤b6:=fb
 have eD:w.heap.size≤nq:=Nat.le_trans hw.size mv
 have cG:b6≠nq:=by have:=ax.lt;omega
 replace aX:aI w2 nq 27 (bm .zero):=aX;(replace hw:=Ext.trans hw cJ;replace ax:=ax.ext cJ);have Ol:=Q.base;have Q0:=Q;replace Q:=Q.ext hw;have hE:=(G2.refl w k.g k.g).ext hw;have tB:wb.heap.size≤w.heap.size:=Ol.size
 obtain ⟨l1,l2⟩:=Q.ls.rd.len;obtain ⟨uz,GY,nK⟩:=Q.fC hv jc;have uU:=hv.rm (zi:Int);obtain ⟨z,hz⟩ : ∃ z,rm s (zi:Int)=z:=⟨_,rfl⟩;rw [hz] at nK uU;obtain ⟨q1,q2,q3,q4⟩:=kN nK uU;have hA:=Q.zs.row.sl.base;have IJ:∀ l∈L,l.aw.length*8≤140737488355328:=fun l hl=>by have:=Am l hl;omega
 have cE:∀ w' (b:Bool),decide (dv m0 m1 s zi o f)=b→RQ wb w' k p s L→bt Tryz.prog 89 [.agg (bm (k.h p)).toArray,.int .i64 (zi:Int),.int .i64 o,.int .i64 f] w' fun v _=>v = .bool b:=fun w' b hb hq=>by
  have:=tA k p s L m0 m1 zi o f wb w' hq hM hv jc ho hf
  rwa [hb] at this
 rcases (show (o=0∧bU L ⟨cpu,(zi:Int),t,[]⟩=true)∨((o=0∧bU L ⟨cpu,(zi:Int),t,[]⟩=false)∨0<o) by
  cases e:bU L ⟨cpu,(zi:Int),t,[]⟩
  ·by_cases h0:o=0
   ·exact .inr (.inl ⟨h0,rfl⟩)
   ·exact .inr (.inr (by omega))
  ·by_cases h0:o=0
   ·exact .inl ⟨h0,rfl⟩
   ·exact .inr (.inr (by omega))) with ⟨FN,qK⟩|dp
 ·obtain ⟨di,mc⟩:=jt qK;have GZ:=Am _ (List.getElem_mem di);have Ea:=jj qK di;obtain ⟨oK,x9⟩ : ∃ oK,dE L ⟨cpu,(zi:Int),t,[]⟩=oK:=⟨_,rfl⟩;rw [← Ea,x9] at GZ;clear Ea mc;refine Wz ?_;refine SW.call rfl rfl (ox (k.h p) L p.ls ⟨cpu,(zi:Int),t,[]⟩ _ Q.ls.rd hs (by simp only;omega) IJ) fun v w4 aj hv => ?_
  obtain ⟨A,c,rfl,hP⟩:=hv;rw [x9] at hP;replace hP:=hP.low (Q.low);simp only [x9];(replace hw:=Ext.trans hw aj;replace ax:=ax.ext aj;replace aX:=aX.ext aj;replace Q:=Q.ext aj;replace hE:=hE.ext aj);have C2:oK≠[]:=fun e=>by rw [e] at GZ;simp at GZ
  have qQ:oK.length-1<oK.length:=by omega
  have AI:=ti C2 qQ rfl;obtain ⟨a,ha⟩ : ∃ a,oK.getLast C2=a:=⟨_,rfl⟩;rw [ha] at AI
  have ur:g7 m0 m1 cpu zi o t f s L (some (s,rn L ⟨cpu,(zi:Int),t,[]⟩ oK,a)):=by
   have:=g7.list (m0:=m0) (m1:=m1) (fl:=f) (s:=s) FN qK (by rw [x9];exact C2)
   simp only [x9,ha] at this;exact this
  have Ld:=hP.le;have Fv:=hP.sl.base;have pU:=hP.pre (i:=oK.length-1) (by omega);rw [← List.dropLast_eq_take] at pU;refine Wz ?_;refine CW.jf 16 17 (fun w2=>Own w2 wb.heap.size 3 1 bf A oK.length c oK) mixed (by kernel_rfl) fun w1 ab aG => ?_
  replace hw:=Ext.trans hw ab;replace ax:=ax.ext ab;replace aX:=aX.ext ab;replace Q:=Q.ext ab;replace hE:=hE.ext ab;replace hP:=hP.ext ab;replace pU:=pU.ext ab;clear ab;refine Wf ?_;refine SF.take 8 [] [] aG rfl (by kernel_rfl) (by kernel_rfl) (by kernel_rfl) ?_;repeat ((refine SW.st (dc (k:=oK.length-1) rfl (congrArg (fun z=>some (Value.int .i64 z)) (by omega)) (by omega)) rfl ?_))
  refine SW.ai ?_;refine SF.dM 10 [] aG rfl (by kernel_rfl) (by kernel_rfl) (by kernel_rfl) (bd rfl) (fun w2 hS=>bd rfl) rfl ?_;refine SF.dM 11 [] aG rfl (by kernel_rfl) (by kernel_rfl) (by kernel_rfl) (bd rfl) (fun w2 hS=>bd rfl) rfl ?_;refine SF.dM 12 [] aG rfl (by kernel_rfl) (by kernel_rfl) (by kernel_rfl) (eY rfl) (fun w2 hS=>eY rfl) rfl ?_;refine SF.dM 13 [] aG rfl (by kernel_rfl) (by kernel_rfl) (by kernel_rfl) (iI rfl rfl (by omega) (by omega)) (fun w2 hS=>iI rfl rfl (by omega) (by omega)) rfl ?_;refine SF.dM 14 [] aG rfl (by kernel_rfl) (by kernel_rfl) (by kernel_rfl) (aZ (oK.length-1) rfl rfl (by assumption) (by omega) (by omega)) (fun w2 hS=>aZ (oK.length-1) rfl rfl (by assumption) (by omega) (by omega)) rfl ?_;refine SF.dM 15 [] aG rfl (by kernel_rfl) (by kernel_rfl) (by kernel_rfl) (ak rfl (hP.sl.one qQ (congrArg bf AI.symm))) (fun w2 hS=>ak rfl (hS.sl.one qQ (congrArg bf AI.symm))) rfl ?_;refine SF.one 9 rfl (by kernel_rfl) rfl ?_;refine SW.call rfl rfl (j0 (k.h p) L p.ls (dn ⟨cpu,(zi:Int),t,[]⟩ oK.dropLast) ⟨cpu,(zi:Int),t,⟨A,oK.length-1,c⟩⟩ wb.heap.size _ Q.ls ⟨rfl,rfl,rfl,pU⟩ hs Q.low (by simp only;omega)) fun v w5 aj hv => ?_
  obtain ⟨sl,R,rfl,BC⟩:=hv;(replace hw:=Ext.trans hw aj;replace ax:=ax.ext aj;replace aX:=aX.ext aj;replace Q:=Q.ext aj;replace hE:=hE.ext aj;replace hP:=hP.ext aj);refine SW.nil (ae.sf aj ?_);refine SF.turn rfl (by kernel_rfl) rfl ?_;refine SW.ap aX rfl rfl rfl rfl (cS ⟨⟨some ⟨k.g,0,none⟩,2,k.c⟩,k.m,k.cp,sl,k.lv⟩) fun w6 bL hg => ?_
  have hG:=aX.gr hg;have Q6:=Q.own hg (Nat.le_trans tB eD) hG rfl;have BQ:=hE.new hg eD;rw [DS hs qK] at BC;have Hj:=BC.ay hG rfl;have hS:=hP.ay hG rfl;refine SW.nil (ae.sg hS ?_);refine SG.last rfl (by kernel_rfl) (by kernel_rfl) ?_;refine Wz ?_;exact ae.fU rfl rfl rfl bL rfl ⟨_,rfl,_,ur,⟨p.u0,p.u1,sl,R⟩,rfl,⟨Q6.zs,Q6.cn,Q6.live,Hj,Q6.base⟩,BQ⟩
 ·have ll : ¬ (o=0∧bU L ⟨cpu,(zi:Int),t,[]⟩=true):=fun h=>by
   rcases dp with h1|h1
   ·rw [h.2] at h1;cases h1.2
   ·omega
  have Ls:=dp;by_cases he:dv m0 m1 s zi o f
  ·have FU:=fun w'=>cE w' true (decide_eq_true he)
   rcases dp with dp|dp
   focus
    obtain ⟨FN,qK⟩:=dp;have Ea:=lD qK;refine Wz ?_;refine SW.call rfl rfl (ox (k.h p) L p.ls ⟨cpu,(zi:Int),t,[]⟩ _ Q.ls.rd hs (by simp only;omega) IJ) fun v w4 aj hv => ?_
    obtain ⟨A,c,rfl,hP⟩:=hv;rw [Ea] at hP;simp only [Ea,List.length_nil];clear hP;(replace hw:=Ext.trans hw aj;replace ax:=ax.ext aj;replace aX:=aX.ext aj;replace Q:=Q.ext aj;replace hE:=hE.ext aj;replace nK:=nK.ext aj)
   all_goals
    repeat' (first|refine Wz ?_|(refine CW.bA rfl ?_)|refine SW.st (aY rfl rfl ((Q.zs.row.sl.FT jc GY))) rfl ?_|(refine SW.call rfl rfl (FU _ Q) ?_;intro v w1 ab hv;subst hv;replace hw:=Ext.trans hw ab;replace ax:=ax.ext ab;replace aX:=aX.ext ab;replace Q:=Q.ext ab;replace hE:=hE.ext ab;replace nK:=nK.ext ab;clear ab))
    refine SW.call rfl rfl (qU uz z o t _ nK.rd q1 q2 ⟨by omega,by omega⟩ ⟨by omega,by omega⟩) fun v w4 aj Bq => ?_
    obtain ⟨u,hT,r',rfl,tP⟩:=Bq;replace tP:=tP.low Q.low;(replace hw:=Ext.trans hw aj;replace ax:=ax.ext aj;replace aX:=aX.ext aj;replace Q:=Q.ext aj;replace hE:=hE.ext aj);refine Wz ?_;refine SW.alloc rfl fun pf w1 ab qW cl => ?_
    skip;refine SW.ap cl rfl rfl rfl rfl (cw r') fun w2 jC hg => ?_
    have aj:=ab.own qW hg;have vk:w.heap.size≤pf:=Nat.le_trans hw.size qW
    replace hw:=Ext.trans hw aj;replace ax:=ax.ext aj;replace aX:=aX.ext aj;replace Q:=Q.ext aj;replace hE:=hE.ext aj;replace tP:=tP.ext aj;replace cl:=jC;clear jC ab hg aj;rw [← hz] at hT;refine Classical.byCases (p := ¬ u.2.2=0) (fun hu => ?_) (fun hu => ?_)
    focus
     refine Wz ?_;refine SW.ap aX rfl rfl rfl rfl (cS (k.h p)) fun w6 bL hg => ?_
     have hG:=aX.gr hg;have Q6:=Q.own hg (Nat.le_trans tB eD) hG rfl;have BQ:=hE.new hg eD;refine Wz ?_;exact ae.fU rfl rfl rfl bL rfl ⟨_,rfl,_,.none ll he hT hu,p,rfl,Q6,BQ⟩
    replace hu:=Classical.not_not.1 hu;refine Wz ?_;refine SW.iA (enc:=bo) zi r' Q.zs.row rfl rfl jc fun w5 Du hg => ?_
    rw [Q.zs.own] at hg;have hG:=Q.zs.gr hg;have Q5:=Q.BA jc Du hg tP;replace hE:=hE.GN hg;(replace ax:=ax.ay hG rfl;replace aX:=aX.ay hG rfl);have sX:VS (la s (zi:Int) u.1):=hv.qi (hT.vC hu).1
    clear Q hw Du tP nK hG hg;have hw:=Ext.refl w5
   ·obtain ⟨a,ha⟩ : ∃ a,u.2.1=a:=⟨_,rfl⟩
    have tv:∀ r,fr m0 m1 zi t f (la s (zi:Int) u.1) [] r→g7 m0 m1 cpu zi o t f s L (some (r.1,gn L ⟨cpu,(zi:Int),t,[]⟩ r.2,a)):=fun r hr=>by
     rw [← ha];exact .fill FN qK he hT hu hr
    obtain ⟨s5,MI⟩ : ∃ s5,la s (zi:Int) u.1=s5:=⟨_,rfl⟩;obtain ⟨p5,Lt⟩ : ∃ p5,ku p zi r'=p5:=⟨_,rfl⟩;have e5:p5.li=p.li∧p5.ls=p.ls:=by rw [← Lt];exact jw
    rw [MI] at Q5 sX tv;rw [Lt] at Q5;refine Wz ?_
    refine CW.loop (fun v:HP×(aq×aq)×List Int×Option Addr×Nat=>[(1,.int .i64 cpu),(2,.int .i64 (zi:Int)),(4,.int .i64 t),(5,.int .i64 f),(6,.pointer (some ⟨b6,0,none⟩)),(12,.pointer (some ⟨nq,0,none⟩)),(16,.int .i64 a),(18,.slice v.2.2.2.1 v.2.2.1.length v.2.2.2.2)])
     (fun v w'=>v.2.2.1.length≤3∧RQ wb w' k v.1 v.2.1 L∧v.1.li=p.li∧v.1.ls=p.ls∧VS v.2.1∧aI w' b6 27 (bm (k.h p))∧aI w' nq 27 (bm .zero)∧G2 w w' k.g k.g∧Own w' w.heap.size 3 1 bf v.2.2.2.1 v.2.2.1.length v.2.2.2.2 v.2.2.1∧oH k v.1 (aQ v.2.2.2.1 v.2.2.2.2) ∧ ∀ r,fr m0 m1 zi t f v.2.1 v.2.2.1 r→fr m0 m1 zi t f s5 [] r) (fun v=>3-v.2.2.1.length) (p5,s5,[],none,0)
     ⟨rfl,rfl,rfl,rfl,rfl,rfl,by rw [← ha];rfl,rfl,trivial⟩ ⟨by simp,Q5,e5.1,e5.2,sX,ax,aX,hE,Own.dS _ _ _ _ _ _,oH.nil _ _,fun r h=>h⟩ ?_
    clear hw ax aX hE Q5 sX cl MI Lt e5 hT FU cE hu;rintro ⟨p6,s6,pg,A,c⟩ w' ⟨Lb,Q,e1,e2,x8,ax,aX,hE,hP,hN,kR⟩
    simp only at Lb Q e1 e2 x8 hP hN kR ⊢;have hw:=Ext.refl w';have Om:k.h p6=k.h p:=by simp only [HK.h,e1]
    obtain ⟨uz,GY,nK⟩:=Q.fC x8 jc;have uU:=x8.rm (zi:Int);obtain ⟨z,hz⟩ : ∃ z,rm s6 (zi:Int)=z:=⟨_,rfl⟩;rw [hz] at nK uU;obtain ⟨q1,q2,q3,q4⟩:=kN nK uU;have hA:=Q.zs.row.sl.base
    have cE:∀ w' (b:Bool),decide (dv m0 m1 s6 zi 0 f)=b→RQ wb w' k p6 s6 L→bt Tryz.prog 89 [.agg (bm (k.h p)).toArray,.int .i64 (zi:Int),.int .i64 0,.int .i64 f] w' fun v _=>v = .bool b:=fun w' b hb hq=>by
     have:=tA k p6 s6 L m0 m1 zi 0 f wb w' hq hM x8 jc (by decide) hf
     rwa [hb,Om] at this
    have On:=Q.ls;by_cases c8:pg.length<3
    ·by_cases Jk:dv m0 m1 s6 zi 0 f
     ·have FU:=fun w'=>cE w' true (decide_eq_true Jk)
      repeat' (first|refine Wz ?_|refine SW.st (aY rfl rfl ((Q.zs.row.sl.FT jc GY))) rfl ?_|(refine SW.call rfl rfl (FU _ Q) ?_;intro v w1 ab hv;subst hv;replace hw:=Ext.trans hw ab;replace ax:=ax.ext ab;replace aX:=aX.ext ab;replace Q:=Q.ext ab;replace hE:=hE.ext ab;replace nK:=nK.ext ab;replace hP:=hP.ext ab;clear ab))
      have Lu:=hP.lt_size;refine SW.call rfl rfl (qU uz z 0 t _ nK.rd q1 q2 ⟨by omega,by omega⟩ ⟨by omega,by omega⟩) fun v w4 aj Bq => ?_
      obtain ⟨u,hT,r',rfl,tP⟩:=Bq;have C9:=tP.types.aL;replace tP:=tP.low Q.low;(replace hw:=Ext.trans hw aj;replace ax:=ax.ext aj;replace aX:=aX.ext aj;replace Q:=Q.ext aj;replace hE:=hE.ext aj;replace hP:=hP.ext aj);refine Wz ?_;refine SW.alloc rfl fun O3 w2 aj Jl Lv => ?_
      skip;refine SW.ap Lv rfl rfl rfl rfl (cw r') fun w3 MJ hg => ?_
      have tI:=aj.own Jl hg;(replace hw:=Ext.trans hw tI;replace ax:=ax.ext tI;replace aX:=aX.ext tI;replace Q:=Q.ext tI;replace hE:=hE.ext tI;replace hP:=hP.ext tI;replace tP:=tP.ext tI);clear hw hg;have hw:=Ext.refl w3;rw [← hz] at hT;by_cases hu:u.2.2=0
      ·refine Wz ?_;refine SW.iA (enc:=bo) zi r' Q.zs.row rfl rfl jc fun w5 Du hg => ?_
       rw [Q.zs.own] at hg;have hG:=Q.zs.gr hg;have Q5:=Q.BA jc Du hg tP;replace hE:=hE.GN hg;(replace ax:=ax.ay hG rfl;replace aX:=aX.ay hG rfl;replace hP:=hP.ay hG rfl);have sX:VS (la s6 (zi:Int) u.1):=x8.qi (hT.vC hu).1
       have MK:oH k (ku p6 zi r') (aQ A c):=hN.ku Lu C9
       have zy:∀ r,fr m0 m1 zi t f (la s6 (zi:Int) u.1) (pg++[u.2.1]) r→fr m0 m1 zi t f s5 [] r:=fun r hr=>kR _ (.more c8 Jk hT hu hr)
       clear Q hw Du tP nK hG hg kR hN On;have hw:=Ext.refl w5;refine Wz ?_;refine SW.bD rfl rfl rfl rfl rfl fun b w8 aj hb hB => ?_
       (replace hw:=Ext.trans hw aj;replace ax:=ax.ext aj;replace aX:=aX.ext aj;replace Q5:=Q5.ext aj;replace hE:=hE.ext aj;replace hP:=hP.ext aj);refine SW.mb hP (aI.lj (enc:=bf) hB) hE.size (by decide) rfl rfl rfl (by omega) (by omega) fun A3 c3 w9 gi hg kV => ?_
       have hG:=hP.gr hg;have Oo:oH k (ku p6 zi r') (aQ A3 c3):=MK.either fun g e=>(kV g e).imp id (fun h=>Q5.fresh (fun g' e'=>by cases e';exact h))
       have Q9:=Q5.Al hg hG MK (fun g e=>Nat.le_trans tB (hP.aL g e));replace hE:=hE.step hg (fun g e => .inr (.inr (hP.aL g e)));(replace ax:=ax.ay hG rfl;replace aX:=aX.ay hG rfl);refine Wz ?_;exact ae.again (ku p6 zi r',la s6 (zi:Int) u.1,pg++[u.2.1],A3,c3) ⟨rfl,rfl,rfl,rfl,rfl,rfl,rfl,by simp only [List.length_append,List.length_singleton];rfl,trivial⟩ (by simp;omega) ⟨by simp;omega,Q9,jw.1.trans e1,jw.2.trans e2,sX,ax,aX,hE,by simp only [List.length_append,List.length_singleton];exact gi,Oo,zy⟩
      ·have hF:fr m0 m1 zi t f s6 pg (s6,pg) := .none c8 Jk hT hu
       refine Wz ?_;have yh:∀ w',RQ wb w' k p6 s6 L→cQ w' wb.heap.size p.li p.ls L:=fun w' q=>by have:=q.ls;rwa [e1,e2] at this
       refine SW.call rfl rfl (j0 (k.h p) L p.ls (dn ⟨cpu,(zi:Int),t,[]⟩ pg) ⟨cpu,(zi:Int),t,⟨A,pg.length,c⟩⟩ wb.heap.size _ (yh _ Q) ⟨rfl,rfl,rfl,hP.low tB⟩ hs Q.low (by simp only;omega)) fun v w5 aj hv => ?_
       obtain ⟨sl,R,rfl,BC⟩:=hv;clear yh;(replace hw:=Ext.trans hw aj;replace ax:=ax.ext aj;replace aX:=aX.ext aj;replace Q:=Q.ext aj;replace hE:=hE.ext aj;replace hP:=hP.ext aj);refine Wz ?_;refine SW.ap aX rfl rfl rfl rfl (cS ⟨⟨some ⟨k.g,0,none⟩,2,k.c⟩,k.m,k.cp,sl,k.lv⟩) fun w6 bL hg => ?_
       have hG:=aX.gr hg;have Q6:=Q.own hg (Nat.le_trans tB eD) hG rfl;have BQ:=hE.new hg eD;rw [qx hs qK] at BC;have Hj:=BC.ay hG rfl;refine Wz ?_;exact ae.fU rfl rfl rfl bL rfl ⟨_,rfl,_,tv _ (kR _ hF),⟨p6.u0,p6.u1,sl,R⟩,rfl,⟨Q6.zs,Q6.cn,Q6.live,Hj,Q6.base⟩,BQ⟩
     ·have hF:fr m0 m1 zi t f s6 pg (s6,pg) := .jY c8 Jk
      have FU:=fun w'=>cE w' false (decide_eq_false Jk)
      repeat' (first|refine Wz ?_|(refine SW.call rfl rfl (FU _ Q) ?_;intro v w1 ab hv;subst hv;replace hw:=Ext.trans hw ab;replace ax:=ax.ext ab;replace aX:=aX.ext ab;replace Q:=Q.ext ab;replace hE:=hE.ext ab;replace nK:=nK.ext ab;replace hP:=hP.ext ab;clear ab))
      have yh:∀ w',RQ wb w' k p6 s6 L→cQ w' wb.heap.size p.li p.ls L:=fun w' q=>by have:=q.ls;rwa [e1,e2] at this
      refine SW.call rfl rfl (j0 (k.h p) L p.ls (dn ⟨cpu,(zi:Int),t,[]⟩ pg) ⟨cpu,(zi:Int),t,⟨A,pg.length,c⟩⟩ wb.heap.size _ (yh _ Q) ⟨rfl,rfl,rfl,hP.low tB⟩ hs Q.low (by simp only;omega)) fun v w5 aj hv => ?_
      obtain ⟨sl,R,rfl,BC⟩:=hv;clear yh;(replace hw:=Ext.trans hw aj;replace ax:=ax.ext aj;replace aX:=aX.ext aj;replace Q:=Q.ext aj;replace hE:=hE.ext aj;replace hP:=hP.ext aj);refine Wz ?_;refine SW.ap aX rfl rfl rfl rfl (cS ⟨⟨some ⟨k.g,0,none⟩,2,k.c⟩,k.m,k.cp,sl,k.lv⟩) fun w6 bL hg => ?_
      have hG:=aX.gr hg;have Q6:=Q.own hg (Nat.le_trans tB eD) hG rfl;have BQ:=hE.new hg eD;rw [qx hs qK] at BC;have Hj:=BC.ay hG rfl;refine Wz ?_;exact ae.fU rfl rfl rfl bL rfl ⟨_,rfl,_,tv _ (kR _ hF),⟨p6.u0,p6.u1,sl,R⟩,rfl,⟨Q6.zs,Q6.cn,Q6.live,Hj,Q6.base⟩,BQ⟩
    ·have hF:fr m0 m1 zi t f s6 pg (s6,pg) := .full (by omega)
     refine Wz ?_;have yh:∀ w',RQ wb w' k p6 s6 L→cQ w' wb.heap.size p.li p.ls L:=fun w' q=>by have:=q.ls;rwa [e1,e2] at this
     refine SW.call rfl rfl (j0 (k.h p) L p.ls (dn ⟨cpu,(zi:Int),t,[]⟩ pg) ⟨cpu,(zi:Int),t,⟨A,pg.length,c⟩⟩ wb.heap.size _ (yh _ Q) ⟨rfl,rfl,rfl,hP.low tB⟩ hs Q.low (by simp only;omega)) fun v w5 aj hv => ?_
     obtain ⟨sl,R,rfl,BC⟩:=hv;clear yh;(replace hw:=Ext.trans hw aj;replace ax:=ax.ext aj;replace aX:=aX.ext aj;replace Q:=Q.ext aj;replace hE:=hE.ext aj;replace hP:=hP.ext aj);refine Wz ?_;refine SW.ap aX rfl rfl rfl rfl (cS ⟨⟨some ⟨k.g,0,none⟩,2,k.c⟩,k.m,k.cp,sl,k.lv⟩) fun w6 bL hg => ?_
     have hG:=aX.gr hg;have Q6:=Q.own hg (Nat.le_trans tB eD) hG rfl;have BQ:=hE.new hg eD;rw [qx hs qK] at BC;have Hj:=BC.ay hG rfl;refine Wz ?_;exact ae.fU rfl rfl rfl bL rfl ⟨_,rfl,_,tv _ (kR _ hF),⟨p6.u0,p6.u1,sl,R⟩,rfl,⟨Q6.zs,Q6.cn,Q6.live,Hj,Q6.base⟩,BQ⟩
   ·refine Wz ?_;refine SW.ap aX rfl rfl rfl rfl (cS (k.h p)) fun w6 bL hg => ?_
    have hG:=aX.gr hg;have Q6:=Q5.own hg (Nat.le_trans tB eD) hG rfl;have BQ:=hE.new hg eD;refine Wz ?_;exact ae.fU rfl rfl rfl bL rfl ⟨_,rfl,_,.qI dp he hT hu,ku p zi r',by rw [show k.h (ku p zi r')=k.h p by simp only [HK.h,jw.1]];rfl,Q6,BQ⟩
  ·have FU:=fun w'=>cE w' false (decide_eq_false he)
   rcases dp with dp|dp
   focus
    obtain ⟨FN,qK⟩:=dp;have Ea:=lD qK;refine Wz ?_;refine SW.call rfl rfl (ox (k.h p) L p.ls ⟨cpu,(zi:Int),t,[]⟩ _ Q.ls.rd hs (by simp only;omega) IJ) fun v w4 aj hv => ?_
    obtain ⟨A,c,rfl,hP⟩:=hv;rw [Ea] at hP;simp only [Ea,List.length_nil];clear hP;(replace hw:=Ext.trans hw aj;replace ax:=ax.ext aj;replace aX:=aX.ext aj;replace Q:=Q.ext aj;replace hE:=hE.ext aj)
   all_goals
    repeat' (first|refine Wz ?_|(refine CW.bG rfl ?_)|(refine SW.call rfl rfl (FU _ Q) ?_;intro v w1 ab hv;subst hv;replace hw:=Ext.trans hw ab;replace ax:=ax.ext ab;replace aX:=aX.ext ab;replace Q:=Q.ext ab;replace hE:=hE.ext ab;clear ab))
    refine SW.ap aX rfl rfl rfl rfl (cS (k.h p)) fun w6 bL hg => ?_
    have hG:=aX.gr hg;have Q6:=Q.own hg (Nat.le_trans tB eD) hG rfl;have BQ:=hE.new hg eD;refine Wz ?_;exact ae.fU rfl rfl rfl bL rfl ⟨_,rfl,_,.jY ll he,p,rfl,Q6,BQ⟩
open Go.RowKit
set_option maxHeartbeats 2000000 in
theorem yi (h:Heap) (z0 z1:aq) (hd:lC h z0 z1) (hs:h.small) (m:fR) (cp:Int) (li lv:fR) (ls:List bO) (u0 u1:ct) (g c:Nat) (w w0:World) (hw:Ext w w0)
 (hZ:ec w0 w.heap.size g c u0 u1 (z0,z1)) (hR:na w0 w.heap.size m li lv ls h) :
 il Tryz.prog 55 [.agg (bm ⟨⟨some ⟨g,0,none⟩,2,c⟩,m,cp,li,lv⟩).toArray] w0 fun v w'=>v = .agg (bm ⟨⟨some ⟨g,0,none⟩,2,c⟩,m,cp,.nil,lv⟩).toArray∧Ext w w'∧G2 w0 w' g g∧na w' w.heap.size m li lv ls h ∧ ∃ u0 u1,ec w' w.heap.size g c u0 u1 (dt (z0,z1) (aS h.av)):=by
 refine dC Tryz.func55 rfl Tryz.ntmps55 rfl ?_;have Mx:w.heap.size≤g:=hZ.yQ
 have hE:=G2.refl w0 g g;have kB:=hR.lists.rd.len;have s4:=hs.lists;refine CW.seq (CW.region (SW.box rfl rfl fun b1 w1 aj ik aB => ?_));have Jm:w.heap.size≤b1:=Nat.le_trans hw.size ik
 have Jn:=ik;(replace hw:=Ext.trans hw aj;replace hZ:=hZ.ext aj;replace hR:=hR.ext aj;replace hE:=hE.ext aj);refine SW.alloc rfl fun b2 w2 cJ im aK => ?_
 have pQ:w.heap.size≤b2:=Nat.le_trans hw.size im
 have Lw:w0.heap.size≤b2:=Nat.le_trans aj.size im
 have cG:b1≠b2:=by have:=aB.lt;omega
 (replace hw:=Ext.trans hw cJ;replace aB:=aB.ext cJ;replace hZ:=hZ.ext cJ;replace hR:=hR.ext cJ;replace hE:=hE.ext cJ);repeat' (first|refine Wy ?_|fail)
 refine CW.loop (fun t:Nat×ct×ct=>[(1,.pointer (some ⟨b1,0,none⟩)),(2,.pointer (some ⟨b2,0,none⟩)),(3,.int .i64 (t.1:Int))])
  (fun t w'=>t.1≤li.n∧Ext w w'∧G2 w0 w' g g∧aI w' b1 27 (bm ⟨⟨some ⟨g,0,none⟩,2,c⟩,m,cp,li,lv⟩)∧aI w' b2 27 (bm .zero)∧ec w' w.heap.size g c t.2.1 t.2.2 (iN h z0 z1 (gX h.av t.1))∧na w' w.heap.size m li lv ls h) (fun t=>li.n-t.1) (0,u0,u1)
  ⟨rfl,rfl,rfl,trivial⟩ ⟨by omega,hw,hE,aB,aK,by simpa [iN,gX,aS,dt] using hZ,hR⟩ ?_
 clear hw hE aB aK hZ hR ik im;rintro ⟨i,u0,u1⟩ w' ⟨hi,hw,hE,aB,aK,hZ,hR⟩
 simp only at hi hZ ⊢;by_cases ck:i<li.n
 ·have kM:i<h.av.length:=by omega
  have lE:i<ls.length:=by omega
  have rI:=(hR.lists.each.get i lE kM).cu.sl.len;have Kn:=hs.cu _ (List.getElem_mem kM);repeat' (first|refine Wy ?_|refine SW.st (ak rfl (aB.cell (i:=3) (v := .slice li.A li.n li.c) rfl)) rfl ?_)
  refine CW.loop (fun t:Nat×ct×ct=>[(1,.pointer (some ⟨b1,0,none⟩)),(2,.pointer (some ⟨b2,0,none⟩)),(3,.int .i64 (i:Int)),(4,.int .i64 (t.1:Int))])
   (fun t w'=>t.1≤ls[i].aw.n∧Ext w w'∧G2 w0 w' g g∧aI w' b1 27 (bm ⟨⟨some ⟨g,0,none⟩,2,c⟩,m,cp,li,lv⟩)∧aI w' b2 27 (bm .zero)∧ec w' w.heap.size g c t.2.1 t.2.2 (iN h z0 z1 (gX h.av i+t.1))∧na w' w.heap.size m li lv ls h) (fun t=>ls[i].aw.n-t.1) (0,u0,u1)
   ⟨rfl,rfl,rfl,rfl,trivial⟩ ⟨by omega,hw,hE,aB,aK,hZ,hR⟩ ?_
  clear hw hE aB aK hZ hR;rintro ⟨j,u0,u1⟩ w' ⟨hj,hw,hE,aB,aK,hZ,hR⟩
  simp only at hj hZ ⊢;have Am:=hR.lists.each.get i lE kM;have uu:=Am.cu.sl.base;have hA:=hR.lists.row.sl.base;have f3:=hR.lists.row.sl.dA ck (j:=3) (u := .slice ls[i].aw.A ls[i].aw.n ls[i].aw.c) rfl;by_cases jo:j<ls[i].aw.n
  ·have kW:j<h.av[i].aw.length:=by omega
   obtain ⟨hK,Lk⟩:=Ah kM kW;have hN:=hd.next hK;have hD:=hd.inv (gX h.av i+j) (by omega);have hT:=l7 (z0,z1) (aS h.av) _ hK;rw [Lk] at hN hT;have Ew:iN h z0 z1 (gX h.av i+(j+1))=iM (iN h z0 z1 (gX h.av i+j)) (cX h.av[i].aw[j]):=hT
   repeat' (first|refine Wy ?_|refine SW.st (ak rfl (aB.cell (i:=3) (v := .slice li.A li.n li.c) rfl)) rfl ?_|refine SW.st (ak rfl f3) rfl ?_)
   refine CW.any 10 mixed (cq (by kernel_rfl)) rfl fun w1 ab aG => ?_
   replace hw:=Ext.trans hw ab;replace aB:=aB.ext ab;replace aK:=aK.ext ab;replace hZ:=hZ.ext ab;replace hR:=hR.ext ab;replace hE:=hE.ext ab;clear ab;refine SA.take 0 aG rfl (by kernel_rfl) (by kernel_rfl) rfl ?_;repeat ((show SW _ _ _ _ (⟨_,Op.load _ _,_,_,_,none⟩::_) _ _;refine SW.st (aY rfl rfl ((fun _ _=>aB.cell))) rfl ?_))
   refine SW.ai ?_;refine SA.take 1 aG rfl (by kernel_rfl) (by kernel_rfl) rfl ?_;repeat ((show SW _ _ _ _ (⟨_,Op.fieldAddr _ _ _,_,_,_,none⟩::_) _ _;refine SW.st (aC rfl) rfl ?_))
   refine SW.ai ?_;refine SA.take 2 aG rfl (by kernel_rfl) (by kernel_rfl) rfl ?_;repeat ((show SW _ _ _ _ (⟨_,Op.load _ _,_,_,_,none⟩::_) _ _;refine SW.st (ak rfl (aB.cell (i:=3) (v := .slice li.A li.n li.c) rfl)) rfl ?_))
   refine SW.ai ?_;refine SA.take 3 aG rfl (by kernel_rfl) (by kernel_rfl) rfl ?_;repeat (refine SW.pure rfl rfl ?_)
   refine SW.ai ?_;refine SA.take 4 aG rfl (by kernel_rfl) (by kernel_rfl) rfl ?_;repeat ((show SW _ _ _ _ (⟨_,Op.indexAddr _ _ _,_,_,_,none⟩::_) _ _;refine SW.st (bk rfl rfl (by assumption) (by omega)) rfl ?_))
   refine SW.ai ?_;refine SA.take 5 aG rfl (by kernel_rfl) (by kernel_rfl) rfl ?_;repeat ((show SW _ _ _ _ (⟨_,Op.fieldAddr _ _ _,_,_,_,none⟩::_) _ _;refine SW.st (aC rfl) rfl ?_))
   refine SW.ai ?_;refine SA.take 6 aG rfl (by kernel_rfl) (by kernel_rfl) rfl ?_;repeat ((show SW _ _ _ _ (⟨_,Op.load _ _,_,_,_,none⟩::_) _ _;refine SW.st (ak rfl (hR.lists.row.sl.dA ck (j:=3) (u := .slice ls[i].aw.A ls[i].aw.n ls[i].aw.c) rfl)) rfl ?_))
   refine SW.ai ?_;refine SA.take 7 aG rfl (by kernel_rfl) (by kernel_rfl) rfl ?_;repeat (refine SW.pure rfl rfl ?_)
   refine SW.ai ?_;refine SA.take 8 aG rfl (by kernel_rfl) (by kernel_rfl) rfl ?_;repeat ((show SW _ _ _ _ (⟨_,Op.indexAddr _ _ _,_,_,_,none⟩::_) _ _;refine SW.st (bk rfl rfl (by assumption) (by omega)) rfl ?_))
   refine SW.ai ?_;refine SA.take 9 aG rfl (by kernel_rfl) (by kernel_rfl) rfl ?_;repeat ((show SW _ _ _ _ (⟨_,Op.load _ _,_,_,_,none⟩::_) _ _;refine SW.st (ak rfl ((hR.lists.each.get i lE kM).cu.sl.one jo rfl)) rfl ?_))
   refine SW.ai ?_;refine SA.done (by kernel_rfl) ?_;refine SW.db rfl rfl (vM m cp li lv u0 u1 _ _ (cX h.av[i].aw[j]) w.heap.size g c _ hZ hw.size hD hN) fun v w5 hv => ?_
   obtain ⟨rfl,hg,u2,u3,B7⟩:=hv;have hG:=hZ.gr hg;replace hw:=hw.own Mx hg;replace hE:=hE.GN hg;replace aB:=aB.ay hG rfl;replace aK:=aK.ay hG rfl;replace hR:=hR.ay hG rfl;refine SW.ap aB rfl rfl rfl rfl (cS ⟨⟨some ⟨g,0,none⟩,2,c⟩,m,cp,li,lv⟩) fun w6 pp wY => ?_
   have ML:=aB.gr wY;replace hw:=hw.own Jm wY;replace hE:=hE.new wY Jn;replace B7:=B7.ay ML rfl;replace hR:=hR.ay ML rfl;replace aK:=aK.grown wY (by simpa using Ne.symm cG);repeat' (first|refine Wy ?_|fail);refine ae.again (j+1,u2,u3) ⟨rfl,rfl,rfl,rfl,trivial⟩ (by simp only;omega) ⟨by simp only;omega,hw,hE,pp,aK,?_,hR⟩;simp only;rw [Ew];exact B7
  ·have ej:gX h.av i+j=gX h.av (i+1):=by rw [sH kM];omega
   rw [ej] at hZ;repeat' (first|refine Wy ?_|refine SW.st (ak rfl (aB.cell (i:=3) (v := .slice li.A li.n li.c) rfl)) rfl ?_|refine SW.st (ak rfl f3) rfl ?_)
   exact ae.again (i+1,u0,u1) ⟨rfl,rfl,rfl,trivial⟩ (by simp only;omega) ⟨by simp only;omega,hw,hE,aB,aK,hZ,hR⟩
 ·have ei:i=h.av.length:=by omega
  have G1:iN h z0 z1 (gX h.av i)=dt (z0,z1) (aS h.av):=by
   rw [ei,vJ,iN,List.take_of_length_le (Nat.le_refl _)]
  rw [G1] at hZ;repeat' (first|refine Wy ?_|refine SW.st (ak rfl (aB.cell (i:=3) (v := .slice li.A li.n li.c) rfl)) rfl ?_)
  refine SW.bB (i:=3) aB rfl rfl rfl rfl fun w6 pp hg => ?_
  have hG:=aB.gr hg;replace hw:=hw.own Jm hg;replace hE:=hE.new hg Jn;replace aK:=aK.grown hg (by simpa using Ne.symm cG);replace hR:=hR.ay hG rfl;replace hZ:=hZ.ay hG rfl;repeat' (first|refine Wy ?_|refine SW.st (aY rfl rfl ((fun _ _=>pp.cell))) rfl ?_)
  refine SW.ap aK rfl rfl rfl rfl (cS ⟨⟨some ⟨g,0,none⟩,2,c⟩,m,cp,.nil,lv⟩) fun w7 bL hg => ?_
  have hG:=aK.gr hg;replace hw:=hw.own pQ hg;repeat' (first|refine Wy ?_|fail);exact ae.mn rfl rfl bL rfl ⟨_,rfl,rfl,hw,hE.new hg Lw,hR.ay hG rfl,u0,u1,hZ.ay hG rfl⟩
open Go.RowKit
inductive lh (h:Heap) (cpu o t f:Int) (z0 z1:aq) : Nat→Int→aq×aq→List aA→Prop
 | start:lh h cpu o t f z0 z1 0 (-1) (z0,z1) h.av
 | DT (ha:g9 (bR h 0) (bR h 1) cpu o t f (z0,z1) h.av none) : lh h cpu o t f z0 z1 1 (-1) (z0,z1) h.av
 | HD {r:(aq×aq)×List aA×Int} (ha:g9 (bR h 0) (bR h 1) cpu o t f (z0,z1) h.av (some r)) : lh h cpu o t f z0 z1 1 r.2.2 r.1 r.2.1
 | DU (ha:g9 (bR h 0) (bR h 1) cpu o t f (z0,z1) h.av none) (h2:g9 (bR h 0) (bR h 1) cpu o t f (dt (z0,z1) (aS h.av)) [] none) : lh h cpu o t f z0 z1 2 (-1) (dt (z0,z1) (aS h.av)) []
 | HE {r:(aq×aq)×List aA×Int} (ha:g9 (bR h 0) (bR h 1) cpu o t f (z0,z1) h.av none) (h2:g9 (bR h 0) (bR h 1) cpu o t f (dt (z0,z1) (aS h.av)) [] (some r)) : lh h cpu o t f z0 z1 2 r.2.2 r.1 r.2.1
structure wA (h:Heap) (cpu o t f:Int) (z0 z1:aq) (j:Nat) (s:aq×aq) (L:List aA) : Prop where
 vs:VS s
 yX:rH L
 cu:∀ l∈L,1≤l.aw.length∧l.aw.length≤8
 count:L.length≤256
 pos:∀ r,g9 (bR h 0) (bR h 1) cpu o t f s L (some r)→0≤r.2.2
 next:∀ q,g9 (bR h 0) (bR h 1) cpu o t f s L q→lh h cpu o t f z0 z1 (j+1) (Hi q) (Dv s q) (BF L q)
theorem vl {h:Heap} {cpu o t f:Int} {z0 z1:aq} (F:mr h z0 z1) : wA h cpu o t f z0 z1 0 (z0,z1) h.av :=
 ⟨F.d.start.vs,F.yX,F.lists,F.count,fun r hr=>by obtain ⟨i,e,_⟩:=lK F (hr.found F.d.start.vs).2;omega,fun q hq=>by cases q with
  | none=>exact .DT hq
  | some r=>exact .HD hq⟩
theorem BR {h:Heap} {cpu o t f:Int} {z0 z1:aq} (F:mr h z0 z1) (ha:g9 (bR h 0) (bR h 1) cpu o t f (z0,z1) h.av none) : wA h cpu o t f z0 z1 1 (dt (z0,z1) (aS h.av)) [] :=
 ⟨(fu F.d).vs,List.Pairwise.nil,fun l hl=>by simp at hl,by simp,fun r hr=>by obtain ⟨i,e,_⟩:=ks F (hr.found (fu F.d).vs).2;omega,fun q hq=>by cases q with
  | none=>exact .DU ha hq
  | some r=>exact .HE ha hq⟩
theorem lh.done {h:Heap} {cpu o f:Int} {z0 z1:aq} (hq:ja h=true) (hc:(0≤cpu∧cpu<h.bX)∧0≤o∧o≤4) (ht : 0≤dN f) (F:mr h z0 z1) {j:Nat} {a:Int} {s:aq×aq} {L:List aA} (R:lh h cpu o (dN f) f z0 z1 j a s L) (hj : ¬ (j<2∧a<0)) :
 (a = -1∧dJ h cpu o f (.zero,0,6))∨((0≤a∧a<256)∧(∀ b∈h.Live,b.At≠a)∧dJ h cpu o f (lc h s L (gp h a o (dN f)),a,0)):=by
 cases R with
 | start=>omega
 | DT=>omega
 | HD ha =>
   obtain ⟨i,e,hi,DE⟩:=lK F (ha.found F.d.start.vs).2;exact .inr ⟨by omega,F.rO e DE,.once hq hc ht F.d.cx ha⟩
 | DU ha h2=>exact .inl ⟨rfl,.room hq hc ht F.d.cx ha h2⟩
 | HE ha h2 =>
   obtain ⟨i,e,hi,DE⟩:=ks F (h2.found (fu F.d).vs).2;exact .inr ⟨by omega,F.rO e DE,.mu hq hc ht F.d.cx ha h2⟩
set_option maxHeartbeats 8000000 in
theorem uv (r:eI) (h:Heap) (cpu o f:Int) (w:World) (hr:wH w r h) (hs:h.small) (C8:∀ z∈h.aN,mq z) :
 bt Tryz.prog 30 [.agg (bm r).toArray,.int .i64 cpu,.int .i64 o,.int .i64 f] w fun v w' => ∃ u,dJ h cpu o f u∧fM w.heap.size u v w':=by
 refine aM Tryz.func30 rfl Tryz.ntmps30 rfl ?_;refine CW.seq (CW.region (SW.box rfl rfl fun b4 w1 hw my bY => ?_));refine SW.alloc rfl fun b8 w2 cJ kZ bu => ?_
 have jA:w.heap.size≤b8:=Nat.le_trans hw.size kZ
 replace bu:aI w2 b8 27 (bm .zero):=bu;(replace hw:=Ext.trans hw cJ;replace bY:=bY.ext cJ);have eC:=hr.er;obtain ⟨q,hq⟩ : ∃ q,ja h=q:=⟨_,rfl⟩
 have c1:∀ w',Ext w w'→bt Tryz.prog 51 [.agg (bm r).toArray] w' fun v _=>v = .bool q:=fun w' hx=>by
  have:=xD r h w' (hr.ext hx) hs C8
  rwa [hq] at this
 cases q
 ·repeat' (first|refine Wz ?_|(refine CW.bG rfl ?_)|(refine SW.call rfl rfl (c1 _ hw) ?_;intro v w1 ab hv;subst hv;replace hw:=Ext.trans hw ab;replace bY:=bY.ext ab;replace bu:=bu.ext ab;clear ab))
  refine SW.ap bu rfl rfl rfl rfl (cS .zero) fun w5 bL hg => ?_
  replace hw:=hw.own jA hg;refine Wz ?_;exact ae.dB rfl rfl rfl rfl bL rfl ⟨_,rfl,hw,_,.bad hq,fM.zero 8 _ _⟩
 ·have hm:=fP.1 hq;obtain ⟨z0,z1,F⟩:=jE hm;have CG:=hm.er;by_cases hc:(0≤cpu∧cpu<h.bX)∧0≤o∧o≤4
  ·obtain ⟨t,zA⟩ : ∃ t,dN f=t:=⟨_,rfl⟩
   have c2:∀ w',bt Tryz.prog 54 [.int .i64 f] w' fun v _=>v = .int .i64 t:=fun w'=>by
    have:=uq f w'
    rwa [zA] at this
   by_cases ht : 0≤t
   ·have Hy : 0≤dN f:=by rw [zA];exact ht
    obtain ⟨hf,nz⟩:=xU Hy;repeat' (first|refine Wz ?_|(refine CW.bA rfl ?_)|((first|refine SW.call rfl rfl (c1 _ hw) ?_|refine SW.call rfl rfl (c2 _) ?_|refine SW.call rfl rfl (bK _ _ _ _) ?_);intro v w1 ab hv;subst hv;replace hw:=Ext.trans hw ab;replace bY:=bY.ext ab;replace bu:=bu.ext ab;clear ab))
    all_goals try omega
    refine SW.call rfl rfl (jX r h _ (hr.ext hw) hs) fun v w4 iS hv => ?_
    obtain ⟨s,rfl,DC⟩:=hv;replace DC:=DC.low hw.size;(replace hw:=Ext.trans hw iS;replace bY:=bY.ext iS;replace bu:=bu.ext iS);clear c1 c2;obtain ⟨g,c,u0,u1,ls,eZ,hZ,hR⟩:=DC.split F.d.cx;have G3:=DC.er;clear DC;obtain ⟨sz,m,cp,li,lv⟩:=s;simp only at eZ hR G3;subst eZ;skip;have MM:=bu.lt;refine SW.alloc rfl fun nq w1 ab mv aX => ?_
    skip;refine SW.ap aX rfl rfl rfl rfl (cS ⟨⟨some ⟨g,0,none⟩,2,c⟩,m,cp,li,lv⟩) fun w2 dI hg => ?_
    have aj:=ab.own mv hg;have eD:w.heap.size≤nq:=Nat.le_trans hw.size mv
    replace hw:=Ext.trans hw aj;replace bY:=bY.ext aj;replace bu:=bu.ext aj;replace hZ:=hZ.ext aj;replace hR:=hR.ext aj;replace aX:=dI;clear dI ab hg aj;have tC:b8≠nq:=by omega
    have Q:RQ w w2 ⟨nq,g,c,m,lv,cp,h.bJ,h.Live⟩ ⟨u0,u1,li,ls⟩ (z0,z1) h.av:=⟨hZ,hR.cn,hR.live,hR.lists,hw⟩
    obtain ⟨k,hk⟩ : ∃ k:HK,k=⟨nq,g,c,m,lv,cp,h.bJ,h.Live⟩:=⟨_,rfl⟩;obtain ⟨p0,HI⟩ : ∃ p:HP,p=⟨u0,u1,li,ls⟩:=⟨_,rfl⟩;have dI:aI w2 nq 27 (bm (k.h p0)):=by rw [hk,HI];exact aX
    rw [← hk,← HI] at Q;have E3:k.V=h.Live:=by rw [hk]
    have FO:k.M=h.bJ:=by rw [hk]
    have JS:k.cp=h.bX:=by rw [hk];exact G3
    clear aX bY hZ hR hk HI G3;have HJ:n9 k.M (bR h 0) (bR h 1):=by rw [FO];exact yb hm
    have KZ:f.tmod 2=f % 2:=Int.tmod_eq_emod_of_nonneg (by omega)
    have kB:=tm F;refine Wz ?_
    refine CW.loop (fun v:Nat×Int×HP×(aq×aq)×List aA=>[(1,.int .i64 cpu),(2,.int .i64 o),(3,.int .i64 f),(8,.pointer (some ⟨b8,0,none⟩)),(11,.int .i64 t),(12,.pointer (some ⟨nq,0,none⟩)),(13,.int .i64 v.2.1),(14,.int .i64 (v.1:Int))])
     (fun v w'=>v.1≤2∧lh h cpu o t f z0 z1 v.1 v.2.1 v.2.2.2.1 v.2.2.2.2∧RQ w w' k v.2.2.1 v.2.2.2.1 v.2.2.2.2∧aI w' b8 27 (bm .zero)∧aI w' nq 27 (bm (k.h v.2.2.1))) (fun v=>2-v.1) (0,-1,p0,(z0,z1),h.av)
     ⟨rfl,rfl,rfl,rfl,rfl,rfl,rfl,rfl,trivial⟩ ⟨by simp only;omega,.start,Q,bu,dI⟩ ?_
    clear hw Q bu dI;rintro ⟨j,a,p1,s1,L1⟩ w' ⟨hj,HN,Q,bu,aX⟩
    simp only at hj HN Q aX ⊢;have hw:=Ext.refl w';by_cases Lx:j<2∧a<0
    ·have dp:(j=0∧s1=(z0,z1)∧L1=h.av)∨(j=1∧s1=(z0,z1)∧L1=h.av∧g9 (bR h 0) (bR h 1) cpu o t f (z0,z1) h.av none):=by
      cases HN with
      | start=>exact .inl ⟨rfl,rfl,rfl⟩
      | DT ha=>exact .inr ⟨rfl,rfl,rfl,ha⟩
      | HD ha=>have:=(vl F).pos _ ha;omega
      | DU=>omega
      | HE=>omega
     clear HN;have O4:=Lx.1;have O5:=Lx.2;rcases dp with ⟨uJ,rfl,rfl⟩|⟨IW,rfl,rfl,MN⟩
     focus
      have RS:wA h cpu o t f z0 z1 j (z0,z1) h.av:=by rw [uJ];exact vl F
      obtain ⟨s1,tO⟩ : ∃ s1,(z0,z1)=s1:=⟨_,rfl⟩;obtain ⟨L1,Jo⟩ : ∃ L1,h.av=L1:=⟨_,rfl⟩;rw [tO,Jo] at Q RS;have Oq:(j:Int)≠1:=by omega
      clear tO Jo uJ
     rotate_left
     focus
      have RS:wA h cpu o t f z0 z1 j (dt (z0,z1) (aS h.av)) []:=by rw [IW];exact BR F MN
      have Av:b8≠k.g:=fun e=>Q.zs.row.dm bu rfl (by rw [Q.zs.own,e])
      have wB:nq≠k.g:=fun e=>Q.zs.row.dm aX rfl (by rw [Q.zs.own,e])
      refine Wz ?_;refine SW.db rfl rfl (yi h z0 z1 F.d hs k.m k.cp p1.li k.lv p1.ls p1.u0 p1.u1 k.g k.c w _ Q.base Q.zs ⟨by rw [← FO];exact Q.cn,by rw [← E3];exact Q.live,Q.ls⟩) fun v w6 hv => ?_
      obtain ⟨rfl,Ot,hE,Ly,u2,u3,B7⟩:=hv;replace bu:=hE.cV bu Av Av;replace aX:=hE.cV aX wB wB;have Q2:RQ w w6 k ⟨u2,u3,.nil,[]⟩ (dt (z0,z1) (aS h.av)) []:=⟨B7,by rw [FO];exact Ly.cn,by rw [E3];exact Ly.live,cQ.nil _ _,Ot⟩
      clear Q hw Ly B7 hE;have hw:=Ext.refl w6;skip;refine SW.ap aX rfl rfl rfl rfl (cS (k.h ⟨u2,u3,.nil,[]⟩)) fun w7 dI hg => ?_
      have hG:=aX.gr hg;have Q:=Q2.own hg eD hG rfl;replace bu:=bu.grown hg (by simpa using tC);replace aX:aI w7 nq 27 (bm (k.h ⟨u2,u3,.nil,[]⟩)):=dI;clear dI hg hG hw Q2;have hw:=Ext.refl w7;obtain ⟨p1,Fj⟩ : ∃ p1:HP,(⟨u2,u3,.nil,[]⟩ : HP)=p1:=⟨_,rfl⟩;rw [Fj] at Q aX;obtain ⟨s1,tO⟩ : ∃ s1,dt (z0,z1) (aS h.av)=s1:=⟨_,rfl⟩;obtain ⟨L1,Jo⟩ : ∃ L1:List aA,[]=L1:=⟨_,rfl⟩;rw [tO,Jo] at Q RS;have Oq:(j:Int)=1:=by omega
      clear tO Jo IW MN Fj
     all_goals
      obtain ⟨Lz,tO,Hk,DV,kV,jS⟩:=RS;have Av:b8≠k.g:=fun e=>Q.zs.row.dm bu rfl (by rw [Q.zs.own,e])
      have wB:nq≠k.g:=fun e=>Q.zs.row.dm aX rfl (by rw [Q.zs.own,e])
      by_cases HH:f % 2=0
      ·refine Wz ?_;refine SW.db rfl rfl (qy k p1 s1 L1 _ _ cpu 1 o t f w _ Q HJ Lz tO Hk DV (by decide) hc.2 hf) fun v w6 x8 => ?_
       obtain ⟨q1,rN,p2,rfl,Q2,Ba⟩:=x8;replace bu:=Ba.cV bu Av Av;replace aX:=Ba.cV aX wB wB;clear hw;have hw:=Ext.refl w6;refine Wz ?_;refine SW.ap aX rfl rfl rfl rfl (cS (k.h p2)) fun w7 dI hg => ?_
       have hG:=aX.gr hg;replace Q2:=Q2.own hg eD hG rfl;replace bu:=bu.grown hg (by simpa using tC);replace aX:=dI;clear dI hg hG hw;have hw:=Ext.refl w7;cases q1 with
       | some r1 =>
         have BS:g9 (bR h 0) (bR h 1) cpu o t f s1 L1 (some r1) := .uh HH rN
         have hp:=kV _ BS;have LA:Hi (some r1)=r1.2.2:=rfl
         simp only [LA];refine Wz ?_;all_goals try omega
         exact ae.again (j+1,Hi (some r1),p2,Dv s1 (some r1),BF L1 (some r1)) ⟨rfl,rfl,rfl,rfl,rfl,rfl,rfl,rfl,trivial⟩ (by simp only;omega) ⟨by simp only;omega,jS _ BS,Q2,bu,aX⟩
       | none =>
         have Fv:=rN;clear rN;simp only [Dv,BF] at Q2;have LA:Hi none = -1:=rfl
         simp only [LA];refine Wz ?_;refine SW.db rfl rfl (qy k p2 s1 L1 _ _ cpu 0 o t f w _ Q2 HJ Lz tO Hk DV (by decide) hc.2 hf) fun v w6 x8 => ?_
         obtain ⟨q1,rN,p3,rfl,Q3,Ba⟩:=x8;replace bu:=Ba.cV bu Av Av;replace aX:=Ba.cV aX wB wB;clear hw;have hw:=Ext.refl w6;refine Wz ?_;refine SW.ap aX rfl rfl rfl rfl (cS (k.h p3)) fun w7 dI hg => ?_
         have hG:=aX.gr hg;replace Q3:=Q3.own hg eD hG rfl;replace bu:=bu.grown hg (by simpa using tC);replace aX:=dI;clear dI hg hG hw;have hw:=Ext.refl w7;have BS:g9 (bR h 0) (bR h 1) cpu o t f s1 L1 q1 := .low (fun _=>Fv) rN
         refine Wz ?_;exact ae.again (j+1,Hi q1,p3,Dv s1 q1,BF L1 q1) ⟨rfl,rfl,rfl,rfl,rfl,rfl,rfl,rfl,trivial⟩ (by simp only;omega) ⟨by simp only;omega,jS _ BS,Q3,bu,aX⟩
      ·refine Wz ?_;refine SW.db rfl rfl (qy k p1 s1 L1 _ _ cpu 0 o t f w _ Q HJ Lz tO Hk DV (by decide) hc.2 hf) fun v w6 x8 => ?_
       obtain ⟨q1,rN,p2,rfl,Q2,Ba⟩:=x8;replace bu:=Ba.cV bu Av Av;replace aX:=Ba.cV aX wB wB;clear hw;have hw:=Ext.refl w6;refine Wz ?_;refine SW.ap aX rfl rfl rfl rfl (cS (k.h p2)) fun w7 dI hg => ?_
       have hG:=aX.gr hg;replace Q2:=Q2.own hg eD hG rfl;replace bu:=bu.grown hg (by simpa using tC);replace aX:=dI;clear dI hg hG hw;have hw:=Ext.refl w7;have BS:g9 (bR h 0) (bR h 1) cpu o t f s1 L1 q1 := .low (fun e=>absurd e HH) rN
       refine Wz ?_;exact ae.again (j+1,Hi q1,p2,Dv s1 q1,BF L1 q1) ⟨rfl,rfl,rfl,rfl,rfl,rfl,rfl,rfl,trivial⟩ (by simp only;omega) ⟨by simp only;omega,jS _ BS,Q2,bu,aX⟩
    ·have hD:=lh.done hq hc Hy F (by rw [zA];exact HN) Lx;rw [zA] at hD;rcases hD with ⟨ha,G5⟩|⟨ha,cG,G5⟩
     ·refine Wz ?_;all_goals try omega
      all_goals
       refine SW.ap bu rfl rfl rfl rfl (cS .zero) fun w5 bL hg => ?_
       replace hw:=Q.base.own jA hg;refine Wz ?_;exact ae.dB rfl rfl rfl rfl bL rfl ⟨_,rfl,hw,_,G5,fM.zero 6 _ _⟩
     ·have Ou:=Q.live.len;rw [E3] at Ou;have hV:=Q.live;rw [E3] at hV;have hZ:=Q.zs;have hM:=Q.cn;rw [FO] at hM;have hL:=Q.ls;have tL:=Q.base;have Ov:aU h.Live (Cx h.Live a) ⟨a,o,t⟩=gp h a o t:=by unfold gp;rw [Cy cG]
      rcases (show j<2 ∨ ¬ j<2 by omega) with Ow|Ow
      all_goals
       refine Wz ?_;refine SW.call rfl rfl (kY k.lv.A k.lv.n k.lv.c h.Live ⟨a,o,t⟩ _ hV.sl (by omega)) fun v w9 aj hv => ?_
       obtain ⟨B,c',rfl,hB⟩:=hv;replace hB:=hB.low tL.size;simp only [Ov] at hB;replace tL:=tL.trans aj;(replace hw:=Ext.trans hw aj;replace bu:=bu.ext aj;replace aX:=aX.ext aj;replace hZ:=hZ.ext aj;replace hM:=hM.ext aj;replace hL:=hL.ext aj);refine Wz ?_;refine SW.bB (i:=4) aX rfl rfl rfl rfl fun vh dI hg => ?_
       have hG:=aX.gr hg;replace tL:=tL.own eD hg;replace bu:=bu.grown hg (by simpa using tC);(replace hZ:=hZ.ay hG rfl;replace hM:=hM.ay hG rfl;replace hL:=hL.ay hG rfl;replace hB:=hB.ay hG rfl);clear hw;have hw:=Ext.refl vh;replace aX:aI vh nq 27 (bm ⟨⟨some ⟨k.g,0,none⟩,2,k.c⟩,k.m,k.cp,p1.li,⟨B,k.lv.n+1,c'⟩⟩):=dI;refine Wz ?_;refine SW.ap bu rfl rfl rfl rfl (cS ⟨⟨some ⟨k.g,0,none⟩,2,k.c⟩,k.m,k.cp,p1.li,⟨B,k.lv.n+1,c'⟩⟩) fun DF bL hg => ?_
       have hG:=bu.gr hg;replace tL:=tL.own jA hg;(replace hZ:=hZ.ay hG rfl;replace hM:=hM.ay hG rfl;replace hL:=hL.ay hG rfl;replace hB:=hB.ay hG rfl);refine Wz ?_;exact ae.dB rfl rfl rfl rfl bL rfl ⟨_,rfl,tL,_,G5,⟨⟨some ⟨k.g,0,none⟩,2,k.c⟩,k.m,k.cp,p1.li,⟨B,k.lv.n+1,c'⟩⟩,rfl,⟨JS,hM,hB,⟨[p1.u0,p1.u1],⟨hZ.row,eH.two hZ.z0 hZ.z1⟩⟩,⟨p1.ls,hL⟩⟩⟩
   ·repeat' (first|refine Wz ?_|(refine CW.bA rfl ?_)|((first|refine SW.call rfl rfl (c1 _ hw) ?_|refine SW.call rfl rfl (c2 _) ?_|refine SW.call rfl rfl (bK _ _ _ _) ?_);intro v w1 ab hv;subst hv;replace hw:=Ext.trans hw ab;replace bY:=bY.ext ab;replace bu:=bu.ext ab;clear ab))
    all_goals try omega
    refine SW.ap bu rfl rfl rfl rfl (cS .zero) fun w5 bL hg => ?_
    replace hw:=hw.own jA hg;refine Wz ?_;exact ae.dB rfl rfl rfl rfl bL rfl ⟨_,rfl,hw,_,.form hq hc (by rw [zA];omega),fM.zero 3 _ _⟩
  ·repeat' (first|refine Wz ?_|(refine CW.bA rfl ?_)|refine SW.eG rfl rfl rfl (fun h => ?_) (fun h => ?_)|((first|refine SW.call rfl rfl (c1 _ hw) ?_|refine SW.call rfl rfl (bK _ _ _ _) ?_);intro v w1 ab hv;subst hv;replace hw:=Ext.trans hw ab;replace bY:=bY.ext ab;replace bu:=bu.ext ab;clear ab))
   all_goals try omega
   all_goals
    refine SW.ap bu rfl rfl rfl rfl (cS .zero) fun w5 bL hg => ?_
    replace hw:=hw.own jA hg;refine Wz ?_;exact ae.dB rfl rfl rfl rfl bL rfl ⟨_,rfl,hw,_,.range hq hc,fM.zero 1 _ _⟩
open Go.RowKit
theorem BU (u:de) (c:bg) (t:Int) (w:World) (hr:B5 w u c) (hn:u.au.n≤9223372036854775807) :
 bt Tryz.prog 29 [.agg (df u).toArray,.int .i64 t] w fun v _=>v = .bool (decide (t∈c.au)):=by
 refine aM Tryz.func29 rfl Tryz.ntmps29 rfl ?_;refine CW.seq (CW.region (SW.box rfl rfl fun b2 w1 hw im aK => ?_));have hA:=hr.ba.base;have kB:=hr.ba.len;have hl:=hr.ba;refine Wz ?_
 refine CW.loop (fun k:Nat=>[(1,.int .i64 t),(2,.pointer (some ⟨b2,0,none⟩)),(5,.int .i64 (k:Int))]) (fun k w'=>k≤u.au.n∧Ext w w'∧aI w' b2 46 (df u) ∧ ∀ (i:Nat) (h:i<c.au.length),i<k→c.au[i]≠t)
  (fun k=>u.au.n-k) 0 ⟨rfl,rfl,rfl,trivial⟩ ⟨by omega,hw,aK,fun i h hi=>by omega⟩ ?_
 clear hw aK;rintro k w' ⟨hk,hw,aK,hI⟩
 by_cases cb:k<u.au.n
 ·have di:k<c.au.length:=by omega
  by_cases hx:c.au[k]=t
  ·repeat' (first|refine Wz ?_|refine SW.st (ao hw rfl (hl.one cb (congrArg bf (rfl:c.au[k]=c.au[k])))) rfl ?_)
   all_goals try omega
   exact ae.aO rfl rfl ⟨_,rfl,hw,by rw [decide_eq_true (hx ▸ List.getElem_mem di)]⟩
  ·repeat' (first|refine Wz ?_|refine SW.st (ao hw rfl (hl.one cb (congrArg bf (rfl:c.au[k]=c.au[k])))) rfl ?_)
   all_goals try omega
   refine ae.again (k+1) ⟨rfl,rfl,rfl,trivial⟩ (by omega) ⟨by omega,hw,aK,fun i h' hi => ?_⟩;by_cases zW:i=k
   ·subst zW;exact hx
   ·exact hI i h' (by omega)
 ·refine Wz ?_;refine ae.aO rfl rfl ⟨_,rfl,hw,?_⟩;rw [decide_eq_false];intro hm;obtain ⟨i,hi,e⟩:=List.getElem_of_mem hm;exact hI i hi (by omega) e
end Go.Proofs.YtjimadiidbkohaaGreatDoor
