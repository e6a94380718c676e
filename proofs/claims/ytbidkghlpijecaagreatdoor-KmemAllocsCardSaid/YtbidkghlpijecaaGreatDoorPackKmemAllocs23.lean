/-
  Texts of the claim KmemAllocs, part 23: what its theorem leans on.
-/
import Derived.Test.YtbidkghlpijecaaGreatDoorPackKmemAllocs22
import Derived.Test.YtbidkghlpijecaaGreatDoorPackKmemAllocs2
import Derived.Test.YtbidkghlpijecaaGreatDoorPackKmemAllocs15
import Derived.Test.YtbidkghlpijecaaGreatDoorPackKmemAllocs18
import Derived.Test.YtbidkghlpijecaaGreatDoorPackKmemAllocs13
import Derived.Test.YtbidkghlpijecaaGreatDoorPackKmemAllocs8
set_option linter.unusedVariables false
set_option linter.unusedSimpArgs false
namespace Go.Proofs.YtbidkghlpijecaaGreatDoor
open Go.RowKit
structure oP (k:HK) (p:HP) (o:Option Nat) : Prop where
 m:∀ g,o=some g→ob k.m≠some g
 t0:∀ g,o=some g→ob p.u0.Types≠some g
 t1:∀ g,o=some g→ob p.u1.Types≠some g
 pg:∀ g,o=some g → ∀ y∈p.ls,ob y.ax≠some g
theorem oP.nil (k:HK) (p:HP) : oP k p none:=⟨fun g e=>(by cases e),fun g e=>(by cases e),fun g e=>(by cases e),fun g e=>(by cases e)⟩
theorem RQ.fresh {wb w:World} {k:HK} {p:HP} {s:ar×ar} {L:List aC} {o:Option Nat} (Q:RQ wb w k p s L) (h:∀ g,o=some g→w.heap.size≤g) : oP k p o:=by
 refine ⟨fun g e e2 => ?_,fun g e e2 => ?_,fun g e e2 => ?_,fun g e y hy e2 => ?_⟩
 ·have:=h g e;have:=Q.ck.lt_size g e2;omega
 ·have:=h g e;have:=Q.zs.z0.types.lt_size g e2;omega
 ·have:=h g e;have:=Q.zs.z1.types.lt_size g e2;omega
 ·obtain ⟨j,hj,rfl⟩:=List.getElem_of_mem hy;have:=h g e
  have:=(Q.ls.each.get j hj (by rw [← Q.ls.each.len];exact hj)).bL.lt_size g e2
  omega
theorem oP.either {k:HK} {p:HP} {o o':Option Nat} (h:oP k p o) (h':∀ g,o'=some g→o=some g∨oP k p (some g)) : oP k p o':=by
 refine ⟨fun g e => ?_,fun g e => ?_,fun g e => ?_,fun g e => ?_⟩
 ·rcases h' g e with h1|h1
  ·exact h.m g h1
  ·exact h1.m g rfl
 ·rcases h' g e with h1|h1
  ·exact h.t0 g h1
  ·exact h1.t0 g rfl
 ·rcases h' g e with h1|h1
  ·exact h.t1 g h1
  ·exact h1.t1 g rfl
 ·rcases h' g e with h1|h1
  ·exact h.pg g h1
  ·exact h1.pg g rfl
theorem oP.ku {k:HK} {p:HP} {o:Option Nat} {n zi:Nat} {u:cy} (h:oP k p o) (de:∀ g,o=some g→g<n) (hu:∀ g,aU u.Types.A u.Types.c=some g→n≤g) : oP k (ku p zi u) o:=by
 have hn:∀ g,o=some g→ob u.Types≠some g:=fun g e e2=>by have:=de g e;have:=hu g e2;omega
 unfold Proofs.YtbidkghlpijecaaGreatDoor.ku;split
 ·exact ⟨h.m,hn,h.t1,h.pg⟩
 ·exact ⟨h.m,h.t0,hn,h.pg⟩
theorem RQ.Dz {wb w w':World} {k:HK} {p:HP} {s:ar×ar} {L:List aC} {o:Option Nat} (Q:RQ wb w k p s L) (hg:w.grownBy w' o) (hG:oa w w' 3) (hn:oP k p o) (hb:∀ g,o=some g→wb.heap.size≤g) : RQ wb w' k p s L:=by
 refine ⟨Q.zs.E7 hg hG (fun g e u hu => ?_),Q.ck.apart hg (fun g e e2=>hn.m g e2 e),Q.live.ay hG rfl,⟨Q.ls.row.ay hG rfl,⟨Q.ls.each.len,fun j h1 h2 => ?_⟩⟩,aF Q.base hg (Nat.le_refl _) hb⟩
 ·simp only [List.mem_cons,List.not_mem_nil,or_false] at hu;rcases hu with rfl|rfl
  ·exact hn.t0 g e
  ·exact hn.t1 g e
 ·have hj:=Q.ls.each.get j h1 h2;exact ⟨hj.cpu,hj.fu,hj.ty,hj.bL.apart hg (fun g e e2=>hn.pg g e2 _ (List.getElem_mem h1) e)⟩
theorem Sl.Ge {α:Type} {w:World} {sz:Nat} {enc : α → List Value} {A:Option Addr} {n:Nat} {l:List α} (h:Sl w sz enc A n l) {i:Nat} {x : α} (hi:i<l.length) (hx:l[i]=x) : ∀ (j:Nat) (v:Value),(enc x)[j]?=some v→w.cell? (((A.getD default).add (i*sz)).add j)=some v:=fun j v hj=>by
 subst hx;exact h.cell i hi j v hj
def HG:Option ((ar×ar)×List aC×Int)→Int
 | Option.none => -1
 | some q=>q.2.2
set_option maxHeartbeats 16000000 in
theorem qI (k:HK) (p:HP) (s:ar×ar) (L:List aC) (m0 m1 cpu:Int) (zi:Nat) (o t f:Int) (wb w:World) (Q:RQ wb w k p s L) (hM:oh k.M m0 m1) (hv:VS s) (hs:rT L) (As:∀ l∈L,1≤l.ax.length∧l.ax.length≤8) (wi:L.length≤256) (iP:zi<2) (ho : 0≤o∧o≤4) (hf : 0≤f∧f≤15) :
 gX Tryz.prog 159 [.agg (bm (k.h p)).toArray,.int .i64 cpu,.int .i64 (zi:Int),.int .i64 o,.int .i64 t,.int .i64 f] w fun v w' => ∃ q,im m0 m1 cpu zi o t f s L q ∧ ∃ p',v = .tuple #[.agg (bm (k.h p')).toArray,.int .i64 (HG q)]∧RQ wb w' k p' (DI s q) (BS L q)∧G2 w w' k.g k.g:=by
 refine dB Tryz.func159 rfl Tryz.ntmps159 rfl ?_;refine CW.seq (CW.region (SW.box rfl rfl fun b6 w1 hw eg aw => ?_));refine SW.alloc rfl fun rc w2 cq ol bl => ?_
 have cu:w.heap.size≤b6:=eg
 have fO:w.heap.size≤rc:=Nat.le_trans hw.size ol
 have cG:b6≠rc:=by have:=aw.lt;omega
 replace bl:aJ w2 rc 41 (bm .zero):=bl;(replace hw:=Ext.trans hw cq;replace aw:=aw.ext cq);have OX:=Q.base;have Q0:=Q;replace Q:=Q.ext hw;have hE:=(G2.refl w k.g k.g).ext hw;have tQ:wb.heap.size≤w.heap.size:=OX.size
 obtain ⟨l1,l2⟩:=Q.ls.rd.len;obtain ⟨uz,Hm,nN⟩:=Q.fu hv iP;have vf:=hv.rH (zi:Int);obtain ⟨z,hz⟩ : ∃ z,rH s (zi:Int)=z:=⟨_,rfl⟩;rw [hz] at nN vf;obtain ⟨q1,q2,q3,q4⟩:=kM nN vf;have hA:=Q.zs.row.sl.base;have Jb:∀ l∈L,l.ax.length*8≤140737488355328:=fun l hl=>by have:=As l hl;omega
 have cE:∀ w' (b:Bool),decide (dv m0 m1 s zi o f)=b→RQ wb w' k p s L→bo Tryz.prog 218 [.agg (bm (k.h p)).toArray,.int .i64 (zi:Int),.int .i64 o,.int .i64 f] w' fun v _=>v = .bool b:=fun w' b hb hq=>by
  have:=tP k p s L m0 m1 zi o f wb w' hq hM hv iP ho hf
  rwa [hb] at this
 rcases (show (o=0∧bV L ⟨cpu,(zi:Int),t,[]⟩=true)∨((o=0∧bV L ⟨cpu,(zi:Int),t,[]⟩=false)∨0<o) by
  cases e:bV L ⟨cpu,(zi:Int),t,[]⟩
  ·by_cases h0:o=0
   ·exact .inr (.inl ⟨h0,rfl⟩)
   ·exact .inr (.inr (by omega))
  ·by_cases h0:o=0
   ·exact .inl ⟨h0,rfl⟩
   ·exact .inr (.inr (by omega))) with ⟨F9,qV⟩|cU
 ·obtain ⟨dk,ma⟩:=jk qV;have Hn:=As _ (List.getElem_mem dk);have Er:=iX qV dk;obtain ⟨oT,ya⟩ : ∃ oT,dD L ⟨cpu,(zi:Int),t,[]⟩=oT:=⟨_,rfl⟩;rw [← Er,ya] at Hn;clear Er ma;refine Wz ?_;refine SW.call rfl rfl (oH (k.h p) L p.ls ⟨cpu,(zi:Int),t,[]⟩ _ Q.ls.rd hs (by simp only;omega) Jb) fun v w4 aj hv => ?_
  obtain ⟨A,c,rfl,hP⟩:=hv;rw [ya] at hP;replace hP:=hP.low (Q.low);simp only [ya];(replace hw:=Ext.trans hw aj;replace aw:=aw.ext aj;replace bl:=bl.ext aj;replace Q:=Q.ext aj;replace hE:=hE.ext aj);have Dk:oT≠[]:=fun e=>by rw [e] at Hn;simp at Hn
  have rb:oT.length-1<oT.length:=by omega
  have AN:=tF Dk rb rfl;obtain ⟨a,ha⟩ : ∃ a,oT.getLast Dk=a:=⟨_,rfl⟩;rw [ha] at AN
  have uF:im m0 m1 cpu zi o t f s L (some (s,rI L ⟨cpu,(zi:Int),t,[]⟩ oT,a)):=by
   have:=im.list (m0:=m0) (m1:=m1) (fl:=f) (s:=s) F9 qV (by rw [ya];exact Dk)
   simp only [ya,ha] at this;exact this
  have LH:=hP.le;have FW:=hP.sl.base;have qb:=hP.pre (i:=oT.length-1) (by omega);rw [← List.dropLast_eq_take] at qb;refine Wz ?_;refine CW.iS 16 17 (fun w2=>Own w2 wb.heap.size 3 1 bd A oT.length c oT) mixed (by kernel_rfl) fun w1 ab aG => ?_
  replace hw:=Ext.trans hw ab;replace aw:=aw.ext ab;replace bl:=bl.ext ab;replace Q:=Q.ext ab;replace hE:=hE.ext ab;replace hP:=hP.ext ab;replace qb:=qb.ext ab;clear ab;refine Wf ?_;refine SF.take 8 [] [] aG rfl (by kernel_rfl) (by kernel_rfl) (by kernel_rfl) ?_;repeat ((refine SW.st (dg (k:=oT.length-1) rfl (congrArg (fun z=>some (Value.int .i64 z)) (by omega)) (by omega)) rfl ?_))
  refine SW.ah ?_;refine SF.dK 10 [] aG rfl (by kernel_rfl) (by kernel_rfl) (by kernel_rfl) (ba rfl) (fun w2 hS=>ba rfl) rfl ?_;refine SF.dK 11 [] aG rfl (by kernel_rfl) (by kernel_rfl) (by kernel_rfl) (ba rfl) (fun w2 hS=>ba rfl) rfl ?_;refine SF.dK 12 [] aG rfl (by kernel_rfl) (by kernel_rfl) (by kernel_rfl) (eV rfl) (fun w2 hS=>eV rfl) rfl ?_;refine SF.dK 13 [] aG rfl (by kernel_rfl) (by kernel_rfl) (by kernel_rfl) (iy rfl rfl (by omega) (by omega)) (fun w2 hS=>iy rfl rfl (by omega) (by omega)) rfl ?_;refine SF.dK 14 [] aG rfl (by kernel_rfl) (by kernel_rfl) (by kernel_rfl) (bc (oT.length-1) rfl rfl (by assumption) (by omega) (by omega)) (fun w2 hS=>bc (oT.length-1) rfl rfl (by assumption) (by omega) (by omega)) rfl ?_;refine SF.dK 15 [] aG rfl (by kernel_rfl) (by kernel_rfl) (by kernel_rfl) (ao rfl (hP.sl.one rb (congrArg bd AN.symm))) (fun w2 hS=>ao rfl (hS.sl.one rb (congrArg bd AN.symm))) rfl ?_;refine SF.one 9 rfl (by kernel_rfl) rfl ?_;refine SW.call rfl rfl (jV (k.h p) L p.ls (dp ⟨cpu,(zi:Int),t,[]⟩ oT.dropLast) ⟨cpu,(zi:Int),t,⟨A,oT.length-1,c⟩⟩ wb.heap.size _ Q.ls ⟨rfl,rfl,rfl,qb⟩ hs Q.low (by simp only;omega)) fun v w5 aj hv => ?_
  obtain ⟨sl,R,rfl,BP⟩:=hv;(replace hw:=Ext.trans hw aj;replace aw:=aw.ext aj;replace bl:=bl.ext aj;replace Q:=Q.ext aj;replace hE:=hE.ext aj;replace hP:=hP.ext aj);refine SW.nil (ae.sf aj ?_);refine SF.turn rfl (by kernel_rfl) rfl ?_;refine SW.ak bl rfl rfl rfl rfl (cn ⟨⟨some ⟨k.g,0,none⟩,2,k.c⟩,k.m,k.cp,sl,k.lv⟩) fun w6 bF hg => ?_
  have hG:=bl.gr hg;have Q6:=Q.own hg (Nat.le_trans tQ fO) hG rfl;have B1:=hE.new hg fO;rw [D7 hs qV] at BP;have HH:=BP.ay hG rfl;have hS:=hP.ay hG rfl;refine SW.nil (ae.sg hS ?_);refine SG.last rfl (by kernel_rfl) (by kernel_rfl) ?_;refine Wz ?_;exact ae.fI rfl rfl rfl bF rfl ⟨_,rfl,_,uF,⟨p.u0,p.u1,sl,R⟩,rfl,⟨Q6.zs,Q6.ck,Q6.live,HH,Q6.base⟩,B1⟩
 ·have lf : ¬ (o=0∧bV L ⟨cpu,(zi:Int),t,[]⟩=true):=fun h=>by
   rcases cU with h1|h1
   ·rw [h.2] at h1;cases h1.2
   ·omega
  have LY:=cU;by_cases he:dv m0 m1 s zi o f
  ·have Gf:=fun w'=>cE w' true (decide_eq_true he)
   rcases cU with cU|cU
   focus
    obtain ⟨F9,qV⟩:=cU;have Er:=lB qV;refine Wz ?_;refine SW.call rfl rfl (oH (k.h p) L p.ls ⟨cpu,(zi:Int),t,[]⟩ _ Q.ls.rd hs (by simp only;omega) Jb) fun v w4 aj hv => ?_
    obtain ⟨A,c,rfl,hP⟩:=hv;rw [Er] at hP;simp only [Er,List.length_nil];clear hP;(replace hw:=Ext.trans hw aj;replace aw:=aw.ext aj;replace bl:=bl.ext aj;replace Q:=Q.ext aj;replace hE:=hE.ext aj;replace nN:=nN.ext aj)
   all_goals
    repeat' (first|refine Wz ?_|(refine CW.bB rfl ?_)|refine SW.st (aW rfl rfl ((Q.zs.row.sl.Ge iP Hm))) rfl ?_|(refine SW.call rfl rfl (Gf _ Q) ?_;intro v w1 ab hv;subst hv;replace hw:=Ext.trans hw ab;replace aw:=aw.ext ab;replace bl:=bl.ext ab;replace Q:=Q.ext ab;replace hE:=hE.ext ab;replace nN:=nN.ext ab;clear ab))
    refine SW.call rfl rfl (ri uz z o t _ nN.rd q1 q2 ⟨by omega,by omega⟩ ⟨by omega,by omega⟩) fun v w4 aj Bp => ?_
    obtain ⟨u,hT,r',rfl,uc⟩:=Bp;replace uc:=uc.low Q.low;(replace hw:=Ext.trans hw aj;replace aw:=aw.ext aj;replace bl:=bl.ext aj;replace Q:=Q.ext aj;replace hE:=hE.ext aj);refine Wz ?_;refine SW.alloc rfl fun Aj w1 ab Gg dz => ?_
    skip;refine SW.ak dz rfl rfl rfl rfl (cJ r') fun w2 qQ hg => ?_
    have aj:=ab.own Gg hg;have Nc:w.heap.size≤Aj:=Nat.le_trans hw.size Gg
    replace hw:=Ext.trans hw aj;replace aw:=aw.ext aj;replace bl:=bl.ext aj;replace Q:=Q.ext aj;replace hE:=hE.ext aj;replace uc:=uc.ext aj;replace dz:=qQ;clear qQ ab hg aj;rw [← hz] at hT;refine Classical.byCases (p := ¬ u.2.2=0) (fun hu => ?_) (fun hu => ?_)
    focus
     refine Wz ?_;refine SW.ak bl rfl rfl rfl rfl (cn (k.h p)) fun w6 bF hg => ?_
     have hG:=bl.gr hg;have Q6:=Q.own hg (Nat.le_trans tQ fO) hG rfl;have B1:=hE.new hg fO;refine Wz ?_;exact ae.fI rfl rfl rfl bF rfl ⟨_,rfl,_,.none lf he hT hu,p,rfl,Q6,B1⟩
    replace hu:=Classical.not_not.1 hu;refine Wz ?_;refine SW.ik (enc:=bp) zi r' Q.zs.row rfl rfl iP fun w5 DH hg => ?_
    rw [Q.zs.own] at hg;have hG:=Q.zs.gr hg;have Q5:=Q.BN iP DH hg uc;replace hE:=hE.Hi hg;(replace aw:=aw.ay hG rfl;replace bl:=bl.ay hG rfl);have th:VS (k7 s (zi:Int) u.1):=hv.qw (hT.yN hu).1
    clear Q hw DH uc nN hG hg;have hw:=Ext.refl w5
   ·obtain ⟨a,ha⟩ : ∃ a,u.2.1=a:=⟨_,rfl⟩
    have tL:∀ r,fi m0 m1 zi t f (k7 s (zi:Int) u.1) [] r→im m0 m1 cpu zi o t f s L (some (r.1,fZ L ⟨cpu,(zi:Int),t,[]⟩ r.2,a)):=fun r hr=>by
     rw [← ha];exact .fill F9 qV he hT hu hr
    obtain ⟨s5,Nd⟩ : ∃ s5,k7 s (zi:Int) u.1=s5:=⟨_,rfl⟩;obtain ⟨p5,LZ⟩ : ∃ p5,ku p zi r'=p5:=⟨_,rfl⟩;have e5:p5.li=p.li∧p5.ls=p.ls:=by rw [← LZ];exact jm
    rw [Nd] at Q5 th tL;rw [LZ] at Q5;refine Wz ?_
    refine CW.loop (fun v:HP×(ar×ar)×List Int×Option Addr×Nat=>[(1,.int .i64 cpu),(2,.int .i64 (zi:Int)),(4,.int .i64 t),(5,.int .i64 f),(6,.pointer (some ⟨b6,0,none⟩)),(12,.pointer (some ⟨rc,0,none⟩)),(16,.int .i64 a),(18,.slice v.2.2.2.1 v.2.2.1.length v.2.2.2.2)])
     (fun v w'=>v.2.2.1.length≤3∧RQ wb w' k v.1 v.2.1 L∧v.1.li=p.li∧v.1.ls=p.ls∧VS v.2.1∧aJ w' b6 41 (bm (k.h p))∧aJ w' rc 41 (bm .zero)∧G2 w w' k.g k.g∧Own w' w.heap.size 3 1 bd v.2.2.2.1 v.2.2.1.length v.2.2.2.2 v.2.2.1∧oP k v.1 (aU v.2.2.2.1 v.2.2.2.2) ∧ ∀ r,fi m0 m1 zi t f v.2.1 v.2.2.1 r→fi m0 m1 zi t f s5 [] r) (fun v=>3-v.2.2.1.length) (p5,s5,[],none,0)
     ⟨rfl,rfl,rfl,rfl,rfl,rfl,by rw [← ha];rfl,rfl,trivial⟩ ⟨by simp,Q5,e5.1,e5.2,th,aw,bl,hE,Own.eJ _ _ _ _ _ _,oP.nil _ _,fun r h=>h⟩ ?_
    clear hw aw bl hE Q5 th dz Nd LZ e5 hT Gf cE hu;rintro ⟨p6,s6,pg,A,c⟩ w' ⟨LF,Q,e1,e2,vn,aw,bl,hE,hP,hN,kQ⟩
    simp only at LF Q e1 e2 vn hP hN kQ ⊢;have hw:=Ext.refl w';have OY:k.h p6=k.h p:=by simp only [HK.h,e1]
    obtain ⟨uz,Hm,nN⟩:=Q.fu vn iP;have vf:=vn.rH (zi:Int);obtain ⟨z,hz⟩ : ∃ z,rH s6 (zi:Int)=z:=⟨_,rfl⟩;rw [hz] at nN vf;obtain ⟨q1,q2,q3,q4⟩:=kM nN vf;have hA:=Q.zs.row.sl.base
    have cE:∀ w' (b:Bool),decide (dv m0 m1 s6 zi 0 f)=b→RQ wb w' k p6 s6 L→bo Tryz.prog 218 [.agg (bm (k.h p)).toArray,.int .i64 (zi:Int),.int .i64 0,.int .i64 f] w' fun v _=>v = .bool b:=fun w' b hb hq=>by
     have:=tP k p6 s6 L m0 m1 zi 0 f wb w' hq hM vn iP (by decide) hf
     rwa [hb,OY] at this
    have OZ:=Q.ls;by_cases de:pg.length<3
    ·by_cases JO:dv m0 m1 s6 zi 0 f
     ·have Gf:=fun w'=>cE w' true (decide_eq_true JO)
      repeat' (first|refine Wz ?_|refine SW.st (aW rfl rfl ((Q.zs.row.sl.Ge iP Hm))) rfl ?_|(refine SW.call rfl rfl (Gf _ Q) ?_;intro v w1 ab hv;subst hv;replace hw:=Ext.trans hw ab;replace aw:=aw.ext ab;replace bl:=bl.ext ab;replace Q:=Q.ext ab;replace hE:=hE.ext ab;replace nN:=nN.ext ab;replace hP:=hP.ext ab;clear ab))
      have L0:=hP.lt_size;refine SW.call rfl rfl (ri uz z 0 t _ nN.rd q1 q2 ⟨by omega,by omega⟩ ⟨by omega,by omega⟩) fun v w4 aj Bp => ?_
      obtain ⟨u,hT,r',rfl,uc⟩:=Bp;have C9:=uc.types.aM;replace uc:=uc.low Q.low;(replace hw:=Ext.trans hw aj;replace aw:=aw.ext aj;replace bl:=bl.ext aj;replace Q:=Q.ext aj;replace hE:=hE.ext aj;replace hP:=hP.ext aj);refine Wz ?_;refine SW.alloc rfl fun PI w2 aj JP L2 => ?_
      skip;refine SW.ak L2 rfl rfl rfl rfl (cJ r') fun w3 Nf hg => ?_
      have tX:=aj.own JP hg;(replace hw:=Ext.trans hw tX;replace aw:=aw.ext tX;replace bl:=bl.ext tX;replace Q:=Q.ext tX;replace hE:=hE.ext tX;replace hP:=hP.ext tX;replace uc:=uc.ext tX);clear hw hg;have hw:=Ext.refl w3;rw [← hz] at hT;by_cases hu:u.2.2=0
      ·refine Wz ?_;refine SW.ik (enc:=bp) zi r' Q.zs.row rfl rfl iP fun w5 DH hg => ?_
       rw [Q.zs.own] at hg;have hG:=Q.zs.gr hg;have Q5:=Q.BN iP DH hg uc;replace hE:=hE.Hi hg;(replace aw:=aw.ay hG rfl;replace bl:=bl.ay hG rfl;replace hP:=hP.ay hG rfl);have th:VS (k7 s6 (zi:Int) u.1):=vn.qw (hT.yN hu).1
       have Ng:oP k (ku p6 zi r') (aU A c):=hN.ku L0 C9
       have zG:∀ r,fi m0 m1 zi t f (k7 s6 (zi:Int) u.1) (pg++[u.2.1]) r→fi m0 m1 zi t f s5 [] r:=fun r hr=>kQ _ (.more de JO hT hu hr)
       clear Q hw DH uc nN hG hg kQ hN OZ;have hw:=Ext.refl w5;refine Wz ?_;refine SW.bK rfl rfl rfl rfl rfl fun b w8 aj hb hB => ?_
       (replace hw:=Ext.trans hw aj;replace aw:=aw.ext aj;replace bl:=bl.ext aj;replace Q5:=Q5.ext aj;replace hE:=hE.ext aj;replace hP:=hP.ext aj);refine SW.wg hP (aJ.mo (enc:=bd) hB) hE.size (by decide) rfl rfl rfl (by omega) (by omega) fun A3 c3 w9 fU hg kU => ?_
       have hG:=hP.gr hg;have O0:oP k (ku p6 zi r') (aU A3 c3):=Ng.either fun g e=>(kU g e).imp id (fun h=>Q5.fresh (fun g' e'=>by cases e';exact h))
       have Q9:=Q5.Dz hg hG Ng (fun g e=>Nat.le_trans tQ (hP.aM g e));replace hE:=hE.step hg (fun g e => .inr (.inr (hP.aM g e)));(replace aw:=aw.ay hG rfl;replace bl:=bl.ay hG rfl);refine Wz ?_;exact ae.again (ku p6 zi r',k7 s6 (zi:Int) u.1,pg++[u.2.1],A3,c3) ⟨rfl,rfl,rfl,rfl,rfl,rfl,rfl,by simp only [List.length_append,List.length_singleton];rfl,trivial⟩ (by simp;omega) ⟨by simp;omega,Q9,jm.1.trans e1,jm.2.trans e2,th,aw,bl,hE,by simp only [List.length_append,List.length_singleton];exact fU,O0,zG⟩
      ·have hF:fi m0 m1 zi t f s6 pg (s6,pg) := .none de JO hT hu
       refine Wz ?_;have yh:∀ w',RQ wb w' k p6 s6 L→cX w' wb.heap.size p.li p.ls L:=fun w' q=>by have:=q.ls;rwa [e1,e2] at this
       refine SW.call rfl rfl (jV (k.h p) L p.ls (dp ⟨cpu,(zi:Int),t,[]⟩ pg) ⟨cpu,(zi:Int),t,⟨A,pg.length,c⟩⟩ wb.heap.size _ (yh _ Q) ⟨rfl,rfl,rfl,hP.low tQ⟩ hs Q.low (by simp only;omega)) fun v w5 aj hv => ?_
       obtain ⟨sl,R,rfl,BP⟩:=hv;clear yh;(replace hw:=Ext.trans hw aj;replace aw:=aw.ext aj;replace bl:=bl.ext aj;replace Q:=Q.ext aj;replace hE:=hE.ext aj;replace hP:=hP.ext aj);refine Wz ?_;refine SW.ak bl rfl rfl rfl rfl (cn ⟨⟨some ⟨k.g,0,none⟩,2,k.c⟩,k.m,k.cp,sl,k.lv⟩) fun w6 bF hg => ?_
       have hG:=bl.gr hg;have Q6:=Q.own hg (Nat.le_trans tQ fO) hG rfl;have B1:=hE.new hg fO;rw [qH hs qV] at BP;have HH:=BP.ay hG rfl;refine Wz ?_;exact ae.fI rfl rfl rfl bF rfl ⟨_,rfl,_,tL _ (kQ _ hF),⟨p6.u0,p6.u1,sl,R⟩,rfl,⟨Q6.zs,Q6.ck,Q6.live,HH,Q6.base⟩,B1⟩
     ·have hF:fi m0 m1 zi t f s6 pg (s6,pg) := .jU de JO
      have Gf:=fun w'=>cE w' false (decide_eq_false JO)
      repeat' (first|refine Wz ?_|(refine SW.call rfl rfl (Gf _ Q) ?_;intro v w1 ab hv;subst hv;replace hw:=Ext.trans hw ab;replace aw:=aw.ext ab;replace bl:=bl.ext ab;replace Q:=Q.ext ab;replace hE:=hE.ext ab;replace nN:=nN.ext ab;replace hP:=hP.ext ab;clear ab))
      have yh:∀ w',RQ wb w' k p6 s6 L→cX w' wb.heap.size p.li p.ls L:=fun w' q=>by have:=q.ls;rwa [e1,e2] at this
      refine SW.call rfl rfl (jV (k.h p) L p.ls (dp ⟨cpu,(zi:Int),t,[]⟩ pg) ⟨cpu,(zi:Int),t,⟨A,pg.length,c⟩⟩ wb.heap.size _ (yh _ Q) ⟨rfl,rfl,rfl,hP.low tQ⟩ hs Q.low (by simp only;omega)) fun v w5 aj hv => ?_
      obtain ⟨sl,R,rfl,BP⟩:=hv;clear yh;(replace hw:=Ext.trans hw aj;replace aw:=aw.ext aj;replace bl:=bl.ext aj;replace Q:=Q.ext aj;replace hE:=hE.ext aj;replace hP:=hP.ext aj);refine Wz ?_;refine SW.ak bl rfl rfl rfl rfl (cn ⟨⟨some ⟨k.g,0,none⟩,2,k.c⟩,k.m,k.cp,sl,k.lv⟩) fun w6 bF hg => ?_
      have hG:=bl.gr hg;have Q6:=Q.own hg (Nat.le_trans tQ fO) hG rfl;have B1:=hE.new hg fO;rw [qH hs qV] at BP;have HH:=BP.ay hG rfl;refine Wz ?_;exact ae.fI rfl rfl rfl bF rfl ⟨_,rfl,_,tL _ (kQ _ hF),⟨p6.u0,p6.u1,sl,R⟩,rfl,⟨Q6.zs,Q6.ck,Q6.live,HH,Q6.base⟩,B1⟩
    ·have hF:fi m0 m1 zi t f s6 pg (s6,pg) := .full (by omega)
     refine Wz ?_;have yh:∀ w',RQ wb w' k p6 s6 L→cX w' wb.heap.size p.li p.ls L:=fun w' q=>by have:=q.ls;rwa [e1,e2] at this
     refine SW.call rfl rfl (jV (k.h p) L p.ls (dp ⟨cpu,(zi:Int),t,[]⟩ pg) ⟨cpu,(zi:Int),t,⟨A,pg.length,c⟩⟩ wb.heap.size _ (yh _ Q) ⟨rfl,rfl,rfl,hP.low tQ⟩ hs Q.low (by simp only;omega)) fun v w5 aj hv => ?_
     obtain ⟨sl,R,rfl,BP⟩:=hv;clear yh;(replace hw:=Ext.trans hw aj;replace aw:=aw.ext aj;replace bl:=bl.ext aj;replace Q:=Q.ext aj;replace hE:=hE.ext aj;replace hP:=hP.ext aj);refine Wz ?_;refine SW.ak bl rfl rfl rfl rfl (cn ⟨⟨some ⟨k.g,0,none⟩,2,k.c⟩,k.m,k.cp,sl,k.lv⟩) fun w6 bF hg => ?_
     have hG:=bl.gr hg;have Q6:=Q.own hg (Nat.le_trans tQ fO) hG rfl;have B1:=hE.new hg fO;rw [qH hs qV] at BP;have HH:=BP.ay hG rfl;refine Wz ?_;exact ae.fI rfl rfl rfl bF rfl ⟨_,rfl,_,tL _ (kQ _ hF),⟨p6.u0,p6.u1,sl,R⟩,rfl,⟨Q6.zs,Q6.ck,Q6.live,HH,Q6.base⟩,B1⟩
   ·refine Wz ?_;refine SW.ak bl rfl rfl rfl rfl (cn (k.h p)) fun w6 bF hg => ?_
    have hG:=bl.gr hg;have Q6:=Q5.own hg (Nat.le_trans tQ fO) hG rfl;have B1:=hE.new hg fO;refine Wz ?_;exact ae.fI rfl rfl rfl bF rfl ⟨_,rfl,_,.ve cU he hT hu,ku p zi r',by rw [show k.h (ku p zi r')=k.h p by simp only [HK.h,jm.1]];rfl,Q6,B1⟩
  ·have Gf:=fun w'=>cE w' false (decide_eq_false he)
   rcases cU with cU|cU
   focus
    obtain ⟨F9,qV⟩:=cU;have Er:=lB qV;refine Wz ?_;refine SW.call rfl rfl (oH (k.h p) L p.ls ⟨cpu,(zi:Int),t,[]⟩ _ Q.ls.rd hs (by simp only;omega) Jb) fun v w4 aj hv => ?_
    obtain ⟨A,c,rfl,hP⟩:=hv;rw [Er] at hP;simp only [Er,List.length_nil];clear hP;(replace hw:=Ext.trans hw aj;replace aw:=aw.ext aj;replace bl:=bl.ext aj;replace Q:=Q.ext aj;replace hE:=hE.ext aj)
   all_goals
    repeat' (first|refine Wz ?_|(refine CW.bO rfl ?_)|(refine SW.call rfl rfl (Gf _ Q) ?_;intro v w1 ab hv;subst hv;replace hw:=Ext.trans hw ab;replace aw:=aw.ext ab;replace bl:=bl.ext ab;replace Q:=Q.ext ab;replace hE:=hE.ext ab;clear ab))
    refine SW.ak bl rfl rfl rfl rfl (cn (k.h p)) fun w6 bF hg => ?_
    have hG:=bl.gr hg;have Q6:=Q.own hg (Nat.le_trans tQ fO) hG rfl;have B1:=hE.new hg fO;refine Wz ?_;exact ae.fI rfl rfl rfl bF rfl ⟨_,rfl,_,.jU lf he,p,rfl,Q6,B1⟩
open Go.RowKit
set_option maxHeartbeats 2000000 in
theorem yi (h:Heap) (z0 z1:ar) (hd:lA h z0 z1) (hs:h.small) (m:fF) (cp:Int) (li lv:fF) (ls:List bM) (u0 u1:cy) (g c:Nat) (w w0:World) (hw:Ext w w0)
 (hZ:dT w0 w.heap.size g c u0 u1 (z0,z1)) (hR:nr w0 w.heap.size m li lv ls h) :
 gX Tryz.prog 158 [.agg (bm ⟨⟨some ⟨g,0,none⟩,2,c⟩,m,cp,li,lv⟩).toArray] w0 fun v w'=>v = .agg (bm ⟨⟨some ⟨g,0,none⟩,2,c⟩,m,cp,.nil,lv⟩).toArray∧Ext w w'∧G2 w0 w' g g∧nr w' w.heap.size m li lv ls h ∧ ∃ u0 u1,dT w' w.heap.size g c u0 u1 (dt (z0,z1) (aT h.av)):=by
 refine dB Tryz.func158 rfl Tryz.ntmps158 rfl ?_;have M0:w.heap.size≤g:=hZ.zm
 have hE:=G2.refl w0 g g;have mn:=hR.lists.rd.len;have s4:=hs.lists;refine CW.seq (CW.region (SW.box rfl rfl fun b1 w1 aj gV aB => ?_));have JQ:w.heap.size≤b1:=Nat.le_trans hw.size gV
 have JR:=gV;(replace hw:=Ext.trans hw aj;replace hZ:=hZ.ext aj;replace hR:=hR.ext aj;replace hE:=hE.ext aj);refine SW.alloc rfl fun b2 w2 cq g7 aL => ?_
 have pY:w.heap.size≤b2:=Nat.le_trans hw.size g7
 have L4:w0.heap.size≤b2:=Nat.le_trans aj.size g7
 have cG:b1≠b2:=by have:=aB.lt;omega
 (replace hw:=Ext.trans hw cq;replace aB:=aB.ext cq;replace hZ:=hZ.ext cq;replace hR:=hR.ext cq;replace hE:=hE.ext cq);repeat' (first|refine Wy ?_|fail)
 refine CW.loop (fun t:Nat×cy×cy=>[(1,.pointer (some ⟨b1,0,none⟩)),(2,.pointer (some ⟨b2,0,none⟩)),(3,.int .i64 (t.1:Int))])
  (fun t w'=>t.1≤li.n∧Ext w w'∧G2 w0 w' g g∧aJ w' b1 41 (bm ⟨⟨some ⟨g,0,none⟩,2,c⟩,m,cp,li,lv⟩)∧aJ w' b2 41 (bm .zero)∧dT w' w.heap.size g c t.2.1 t.2.2 (iH h z0 z1 (gC h.av t.1))∧nr w' w.heap.size m li lv ls h) (fun t=>li.n-t.1) (0,u0,u1)
  ⟨rfl,rfl,rfl,trivial⟩ ⟨by omega,hw,hE,aB,aL,by simpa [iH,gC,aT,dt] using hZ,hR⟩ ?_
 clear hw hE aB aL hZ hR gV g7;rintro ⟨i,u0,u1⟩ w' ⟨hi,hw,hE,aB,aL,hZ,hR⟩
 simp only at hi hZ ⊢;by_cases cf:i<li.n
 ·have kK:i<h.av.length:=by omega
  have lE:i<ls.length:=by omega
  have tg:=(hR.lists.each.get i lE kK).bL.sl.len;have Lu:=hs.bL _ (List.getElem_mem kK);repeat' (first|refine Wy ?_|refine SW.st (ao rfl (aB.cell (i:=3) (v := .slice li.A li.n li.c) rfl)) rfl ?_)
  refine CW.loop (fun t:Nat×cy×cy=>[(1,.pointer (some ⟨b1,0,none⟩)),(2,.pointer (some ⟨b2,0,none⟩)),(3,.int .i64 (i:Int)),(4,.int .i64 (t.1:Int))])
   (fun t w'=>t.1≤ls[i].ax.n∧Ext w w'∧G2 w0 w' g g∧aJ w' b1 41 (bm ⟨⟨some ⟨g,0,none⟩,2,c⟩,m,cp,li,lv⟩)∧aJ w' b2 41 (bm .zero)∧dT w' w.heap.size g c t.2.1 t.2.2 (iH h z0 z1 (gC h.av i+t.1))∧nr w' w.heap.size m li lv ls h) (fun t=>ls[i].ax.n-t.1) (0,u0,u1)
   ⟨rfl,rfl,rfl,rfl,trivial⟩ ⟨by omega,hw,hE,aB,aL,hZ,hR⟩ ?_
  clear hw hE aB aL hZ hR;rintro ⟨j,u0,u1⟩ w' ⟨hj,hw,hE,aB,aL,hZ,hR⟩
  simp only at hj hZ ⊢;have As:=hR.lists.each.get i lE kK;have uG:=As.bL.sl.base;have hA:=hR.lists.row.sl.base;have f3:=hR.lists.row.sl.dA cf (j:=3) (u := .slice ls[i].ax.A ls[i].ax.n ls[i].ax.c) rfl;by_cases je:j<ls[i].ax.n
  ·have kV:j<h.av[i].ax.length:=by omega
   obtain ⟨hK,LN⟩:=Ap kK kV;have hN:=hd.next hK;have hD:=hd.inv (gC h.av i+j) (by omega);have hT:=lZ (z0,z1) (aT h.av) _ hK;rw [LN] at hN hT;have EP:iH h z0 z1 (gC h.av i+(j+1))=iG (iH h z0 z1 (gC h.av i+j)) (db h.av[i].ax[j]):=hT
   repeat' (first|refine Wy ?_|refine SW.st (ao rfl (aB.cell (i:=3) (v := .slice li.A li.n li.c) rfl)) rfl ?_|refine SW.st (ao rfl f3) rfl ?_)
   refine CW.any 10 mixed (cj (by kernel_rfl)) rfl fun w1 ab aG => ?_
   replace hw:=Ext.trans hw ab;replace aB:=aB.ext ab;replace aL:=aL.ext ab;replace hZ:=hZ.ext ab;replace hR:=hR.ext ab;replace hE:=hE.ext ab;clear ab;refine SA.take 0 aG rfl (by kernel_rfl) (by kernel_rfl) rfl ?_;repeat ((show SW _ _ _ _ (⟨_,Op.load _ _,_,_,_,none⟩::_) _ _;refine SW.st (aW rfl rfl ((fun _ _=>aB.cell))) rfl ?_))
   refine SW.ah ?_;refine SA.take 1 aG rfl (by kernel_rfl) (by kernel_rfl) rfl ?_;repeat ((show SW _ _ _ _ (⟨_,Op.fieldAddr _ _ _,_,_,_,none⟩::_) _ _;refine SW.st (aD rfl) rfl ?_))
   refine SW.ah ?_;refine SA.take 2 aG rfl (by kernel_rfl) (by kernel_rfl) rfl ?_;repeat ((show SW _ _ _ _ (⟨_,Op.load _ _,_,_,_,none⟩::_) _ _;refine SW.st (ao rfl (aB.cell (i:=3) (v := .slice li.A li.n li.c) rfl)) rfl ?_))
   refine SW.ah ?_;refine SA.take 3 aG rfl (by kernel_rfl) (by kernel_rfl) rfl ?_;repeat (refine SW.pure rfl rfl ?_)
   refine SW.ah ?_;refine SA.take 4 aG rfl (by kernel_rfl) (by kernel_rfl) rfl ?_;repeat ((show SW _ _ _ _ (⟨_,Op.indexAddr _ _ _,_,_,_,none⟩::_) _ _;refine SW.st (bj rfl rfl (by assumption) (by omega)) rfl ?_))
   refine SW.ah ?_;refine SA.take 5 aG rfl (by kernel_rfl) (by kernel_rfl) rfl ?_;repeat ((show SW _ _ _ _ (⟨_,Op.fieldAddr _ _ _,_,_,_,none⟩::_) _ _;refine SW.st (aD rfl) rfl ?_))
   refine SW.ah ?_;refine SA.take 6 aG rfl (by kernel_rfl) (by kernel_rfl) rfl ?_;repeat ((show SW _ _ _ _ (⟨_,Op.load _ _,_,_,_,none⟩::_) _ _;refine SW.st (ao rfl (hR.lists.row.sl.dA cf (j:=3) (u := .slice ls[i].ax.A ls[i].ax.n ls[i].ax.c) rfl)) rfl ?_))
   refine SW.ah ?_;refine SA.take 7 aG rfl (by kernel_rfl) (by kernel_rfl) rfl ?_;repeat (refine SW.pure rfl rfl ?_)
   refine SW.ah ?_;refine SA.take 8 aG rfl (by kernel_rfl) (by kernel_rfl) rfl ?_;repeat ((show SW _ _ _ _ (⟨_,Op.indexAddr _ _ _,_,_,_,none⟩::_) _ _;refine SW.st (bj rfl rfl (by assumption) (by omega)) rfl ?_))
   refine SW.ah ?_;refine SA.take 9 aG rfl (by kernel_rfl) (by kernel_rfl) rfl ?_;repeat ((show SW _ _ _ _ (⟨_,Op.load _ _,_,_,_,none⟩::_) _ _;refine SW.st (ao rfl ((hR.lists.each.get i lE kK).bL.sl.one je rfl)) rfl ?_))
   refine SW.ah ?_;refine SA.done (by kernel_rfl) ?_;refine SW.da rfl rfl (we m cp li lv u0 u1 _ _ (db h.av[i].ax[j]) w.heap.size g c _ hZ hw.size hD hN) fun v w5 hv => ?_
   obtain ⟨rfl,hg,u2,u3,Ci⟩:=hv;have hG:=hZ.gr hg;replace hw:=hw.own M0 hg;replace hE:=hE.Hi hg;replace aB:=aB.ay hG rfl;replace aL:=aL.ay hG rfl;replace hR:=hR.ay hG rfl;refine SW.ak aB rfl rfl rfl rfl (cn ⟨⟨some ⟨g,0,none⟩,2,c⟩,m,cp,li,lv⟩) fun w6 px wZ => ?_
   have Nh:=aB.gr wZ;replace hw:=hw.own JQ wZ;replace hE:=hE.new wZ JR;replace Ci:=Ci.ay Nh rfl;replace hR:=hR.ay Nh rfl;replace aL:=aL.grown wZ (by simpa using Ne.symm cG);repeat' (first|refine Wy ?_|fail);refine ae.again (j+1,u2,u3) ⟨rfl,rfl,rfl,rfl,trivial⟩ (by simp only;omega) ⟨by simp only;omega,hw,hE,px,aL,?_,hR⟩;simp only;rw [EP];exact Ci
  ·have ej:gC h.av i+j=gC h.av (i+1):=by rw [sU kK];omega
   rw [ej] at hZ;repeat' (first|refine Wy ?_|refine SW.st (ao rfl (aB.cell (i:=3) (v := .slice li.A li.n li.c) rfl)) rfl ?_|refine SW.st (ao rfl f3) rfl ?_)
   exact ae.again (i+1,u0,u1) ⟨rfl,rfl,rfl,trivial⟩ (by simp only;omega) ⟨by simp only;omega,hw,hE,aB,aL,hZ,hR⟩
 ·have ei:i=h.av.length:=by omega
  have Hp:iH h z0 z1 (gC h.av i)=dt (z0,z1) (aT h.av):=by
   rw [ei,vT,iH,List.take_of_length_le (Nat.le_refl _)]
  rw [Hp] at hZ;repeat' (first|refine Wy ?_|refine SW.st (ao rfl (aB.cell (i:=3) (v := .slice li.A li.n li.c) rfl)) rfl ?_)
  refine SW.bA (i:=3) aB rfl rfl rfl rfl fun w6 px hg => ?_
  have hG:=aB.gr hg;replace hw:=hw.own JQ hg;replace hE:=hE.new hg JR;replace aL:=aL.grown hg (by simpa using Ne.symm cG);replace hR:=hR.ay hG rfl;replace hZ:=hZ.ay hG rfl;repeat' (first|refine Wy ?_|refine SW.st (aW rfl rfl ((fun _ _=>px.cell))) rfl ?_)
  refine SW.ak aL rfl rfl rfl rfl (cn ⟨⟨some ⟨g,0,none⟩,2,c⟩,m,cp,.nil,lv⟩) fun w7 bF hg => ?_
  have hG:=aL.gr hg;replace hw:=hw.own pY hg;repeat' (first|refine Wy ?_|fail);exact ae.mr rfl rfl bF rfl ⟨_,rfl,rfl,hw,hE.new hg L4,hR.ay hG rfl,u0,u1,hZ.ay hG rfl⟩
open Go.RowKit
inductive ld (h:Heap) (cpu o t f:Int) (z0 z1:ar) : Nat→Int→ar×ar→List aC→Prop
 | start:ld h cpu o t f z0 z1 0 (-1) (z0,z1) h.av
 | D8 (ha:iq (bT h 0) (bT h 1) cpu o t f (z0,z1) h.av none) : ld h cpu o t f z0 z1 1 (-1) (z0,z1) h.av
 | Ic {r:(ar×ar)×List aC×Int} (ha:iq (bT h 0) (bT h 1) cpu o t f (z0,z1) h.av (some r)) : ld h cpu o t f z0 z1 1 r.2.2 r.1 r.2.1
 | D9 (ha:iq (bT h 0) (bT h 1) cpu o t f (z0,z1) h.av none) (h2:iq (bT h 0) (bT h 1) cpu o t f (dt (z0,z1) (aT h.av)) [] none) : ld h cpu o t f z0 z1 2 (-1) (dt (z0,z1) (aT h.av)) []
 | Ie {r:(ar×ar)×List aC×Int} (ha:iq (bT h 0) (bT h 1) cpu o t f (z0,z1) h.av none) (h2:iq (bT h 0) (bT h 1) cpu o t f (dt (z0,z1) (aT h.av)) [] (some r)) : ld h cpu o t f z0 z1 2 r.2.2 r.1 r.2.1
structure wF (h:Heap) (cpu o t f:Int) (z0 z1:ar) (j:Nat) (s:ar×ar) (L:List aC) : Prop where
 vs:VS s
 y8:rT L
 bL:∀ l∈L,1≤l.ax.length∧l.ax.length≤8
 count:L.length≤256
 pos:∀ r,iq (bT h 0) (bT h 1) cpu o t f s L (some r)→0≤r.2.2
 next:∀ q,iq (bT h 0) (bT h 1) cpu o t f s L q→ld h cpu o t f z0 z1 (j+1) (HG q) (DI s q) (BS L q)
theorem vq {h:Heap} {cpu o t f:Int} {z0 z1:ar} (F:mu h z0 z1) : wF h cpu o t f z0 z1 0 (z0,z1) h.av :=
 ⟨F.d.start.vs,F.y8,F.lists,F.count,fun r hr=>by obtain ⟨i,e,_⟩:=nJ F (hr.found F.d.start.vs).2;omega,fun q hq=>by cases q with
  | none=>exact .D8 hq
  | some r=>exact .Ic hq⟩
theorem B3 {h:Heap} {cpu o t f:Int} {z0 z1:ar} (F:mu h z0 z1) (ha:iq (bT h 0) (bT h 1) cpu o t f (z0,z1) h.av none) : wF h cpu o t f z0 z1 1 (dt (z0,z1) (aT h.av)) [] :=
 ⟨(ga F.d).vs,List.Pairwise.nil,fun l hl=>by simp at hl,by simp,fun r hr=>by obtain ⟨i,e,_⟩:=mf F (hr.found (ga F.d).vs).2;omega,fun q hq=>by cases q with
  | none=>exact .D9 ha hq
  | some r=>exact .Ie ha hq⟩
theorem ld.done {h:Heap} {cpu o f:Int} {z0 z1:ar} (hq:iN h=true) (hc:(0≤cpu∧cpu<h.bY)∧0≤o∧o≤4) (ht : 0≤dL f) (F:mu h z0 z1) {j:Nat} {a:Int} {s:ar×ar} {L:List aC} (R:ld h cpu o (dL f) f z0 z1 j a s L) (hj : ¬ (j<2∧a<0)) :
 (a = -1∧di h cpu o f (.zero,0,6))∨((0≤a∧a<256)∧(∀ b∈h.Live,b.At≠a)∧di h cpu o f (k8 h s L (gD h a o (dL f)),a,0)):=by
 cases R with
 | start=>omega
 | D8=>omega
 | Ic ha =>
   obtain ⟨i,e,hi,DQ⟩:=nJ F (ha.found F.d.start.vs).2;exact .inr ⟨by omega,F.Ay e DQ,.once hq hc ht F.d.cQ ha⟩
 | D9 ha h2=>exact .inl ⟨rfl,.room hq hc ht F.d.cQ ha h2⟩
 | Ie ha h2 =>
   obtain ⟨i,e,hi,DQ⟩:=mf F (h2.found (ga F.d).vs).2;exact .inr ⟨by omega,F.Ay e DQ,.nu hq hc ht F.d.cQ ha h2⟩
set_option maxHeartbeats 8000000 in
theorem om (r:eB) (h:Heap) (cpu o f:Int) (w:World) (hr:wI w r h) (hs:h.small) (C8:∀ z∈h.aQ,qX z) :
 bo Tryz.prog 70 [.agg (bm r).toArray,.int .i64 cpu,.int .i64 o,.int .i64 f] w fun v w' => ∃ u,di h cpu o f u∧fE w.heap.size u v w':=by
 refine aI Tryz.func70 rfl Tryz.ntmps70 rfl ?_;refine CW.seq (CW.region (SW.box rfl rfl fun b4 w1 hw mA bZ => ?_));refine SW.alloc rfl fun b8 w2 cq kY bw => ?_
 have jr:w.heap.size≤b8:=Nat.le_trans hw.size kY
 replace bw:aJ w2 b8 41 (bm .zero):=bw;(replace hw:=Ext.trans hw cq;replace bZ:=bZ.ext cq);have eC:=hr.dY;obtain ⟨q,hq⟩ : ∃ q,iN h=q:=⟨_,rfl⟩
 have c1:∀ w',Ext w w'→bo Tryz.prog 114 [.agg (bm r).toArray] w' fun v _=>v = .bool q:=fun w' hx=>by
  have:=xL r h w' (hr.ext hx) hs C8
  rwa [hq] at this
 cases q
 ·repeat' (first|refine Wz ?_|(refine CW.bO rfl ?_)|(refine SW.call rfl rfl (c1 _ hw) ?_;intro v w1 ab hv;subst hv;replace hw:=Ext.trans hw ab;replace bZ:=bZ.ext ab;replace bw:=bw.ext ab;clear ab))
  refine SW.ak bw rfl rfl rfl rfl (cn .zero) fun w5 bF hg => ?_
  replace hw:=hw.own jr hg;refine Wz ?_;exact ae.cl rfl rfl rfl rfl bF rfl ⟨_,rfl,hw,_,.bad hq,fE.zero 8 _ _⟩
 ·have hm:=ig.1 hq;obtain ⟨z0,z1,F⟩:=lC hm;have CS:=hm.dY;by_cases hc:(0≤cpu∧cpu<h.bY)∧0≤o∧o≤4
  ·obtain ⟨t,zI⟩ : ∃ t,dL f=t:=⟨_,rfl⟩
   have c2:∀ w',bo Tryz.prog 157 [.int .i64 f] w' fun v _=>v = .int .i64 t:=fun w'=>by
    have:=uE f w'
    rwa [zI] at this
   by_cases ht : 0≤t
   ·have FZ : 0≤dL f:=by rw [zI];exact ht
    obtain ⟨hf,nC⟩:=xW FZ;repeat' (first|refine Wz ?_|(refine CW.bB rfl ?_)|((first|refine SW.call rfl rfl (c1 _ hw) ?_|refine SW.call rfl rfl (c2 _) ?_|refine SW.call rfl rfl (bP _ _ _ _) ?_);intro v w1 ab hv;subst hv;replace hw:=Ext.trans hw ab;replace bZ:=bZ.ext ab;replace bw:=bw.ext ab;clear ab))
    all_goals try omega
    refine SW.call rfl rfl (jS r h _ (hr.ext hw) hs) fun v w4 iK hv => ?_
    obtain ⟨s,rfl,DO⟩:=hv;replace DO:=DO.low hw.size;(replace hw:=Ext.trans hw iK;replace bZ:=bZ.ext iK;replace bw:=bw.ext iK);clear c1 c2;obtain ⟨g,c,u0,u1,ls,eZ,hZ,hR⟩:=DO.split F.d.cQ;have Hq:=DO.dY;clear DO;obtain ⟨sz,m,cp,li,lv⟩:=s;simp only at eZ hR Hq;subst eZ;skip;have Ni:=bw.lt;refine SW.alloc rfl fun rc w1 ab ol bl => ?_
    skip;refine SW.ak bl rfl rfl rfl rfl (cn ⟨⟨some ⟨g,0,none⟩,2,c⟩,m,cp,li,lv⟩) fun w2 fD hg => ?_
    have aj:=ab.own ol hg;have fO:w.heap.size≤rc:=Nat.le_trans hw.size ol
    replace hw:=Ext.trans hw aj;replace bZ:=bZ.ext aj;replace bw:=bw.ext aj;replace hZ:=hZ.ext aj;replace hR:=hR.ext aj;replace bl:=fD;clear fD ab hg aj;have tR:b8≠rc:=by omega
    have Q:RQ w w2 ⟨rc,g,c,m,lv,cp,h.bJ,h.Live⟩ ⟨u0,u1,li,ls⟩ (z0,z1) h.av:=⟨hZ,hR.ck,hR.live,hR.lists,hw⟩
    obtain ⟨k,hk⟩ : ∃ k:HK,k=⟨rc,g,c,m,lv,cp,h.bJ,h.Live⟩:=⟨_,rfl⟩;obtain ⟨p0,Il⟩ : ∃ p:HP,p=⟨u0,u1,li,ls⟩:=⟨_,rfl⟩;have fD:aJ w2 rc 41 (bm (k.h p0)):=by rw [hk,Il];exact bl
    rw [← hk,← Il] at Q;have Fp:k.V=h.Live:=by rw [hk]
    have Ga:k.M=h.bJ:=by rw [hk]
    have Ko:k.cp=h.bY:=by rw [hk];exact Hq
    clear bl bZ hZ hR hk Il Hq;have Im:oh k.M (bT h 0) (bT h 1):=by rw [Ga];exact yd hm
    have LA:f.tmod 2=f % 2:=Int.tmod_eq_emod_of_nonneg (by omega)
    have mn:=tG F;refine Wz ?_
    refine CW.loop (fun v:Nat×Int×HP×(ar×ar)×List aC=>[(1,.int .i64 cpu),(2,.int .i64 o),(3,.int .i64 f),(8,.pointer (some ⟨b8,0,none⟩)),(11,.int .i64 t),(12,.pointer (some ⟨rc,0,none⟩)),(13,.int .i64 v.2.1),(14,.int .i64 (v.1:Int))])
     (fun v w'=>v.1≤2∧ld h cpu o t f z0 z1 v.1 v.2.1 v.2.2.2.1 v.2.2.2.2∧RQ w w' k v.2.2.1 v.2.2.2.1 v.2.2.2.2∧aJ w' b8 41 (bm .zero)∧aJ w' rc 41 (bm (k.h v.2.2.1))) (fun v=>2-v.1) (0,-1,p0,(z0,z1),h.av)
     ⟨rfl,rfl,rfl,rfl,rfl,rfl,rfl,rfl,trivial⟩ ⟨by simp only;omega,.start,Q,bw,fD⟩ ?_
    clear hw Q bw fD;rintro ⟨j,a,p1,s1,L1⟩ w' ⟨hj,Iq,Q,bw,bl⟩
    simp only at hj Iq Q bl ⊢;have hw:=Ext.refl w';by_cases L5:j<2∧a<0
    ·have cU:(j=0∧s1=(z0,z1)∧L1=h.av)∨(j=1∧s1=(z0,z1)∧L1=h.av∧iq (bT h 0) (bT h 1) cpu o t f (z0,z1) h.av none):=by
      cases Iq with
      | start=>exact .inl ⟨rfl,rfl,rfl⟩
      | D8 ha=>exact .inr ⟨rfl,rfl,rfl,ha⟩
      | Ic ha=>have:=(vq F).pos _ ha;omega
      | D9=>omega
      | Ie=>omega
     clear Iq;have PJ:=L5.1;have PK:=L5.2;rcases cU with ⟨vI,rfl,rfl⟩|⟨Jp,rfl,rfl,Nj⟩
     focus
      have RS:wF h cpu o t f z0 z1 j (z0,z1) h.av:=by rw [vI];exact vq F
      obtain ⟨s1,ub⟩ : ∃ s1,(z0,z1)=s1:=⟨_,rfl⟩;obtain ⟨L1,JS⟩ : ∃ L1,h.av=L1:=⟨_,rfl⟩;rw [ub,JS] at Q RS;have O1:(j:Int)≠1:=by omega
      clear ub JS vI
     rotate_left
     focus
      have RS:wF h cpu o t f z0 z1 j (dt (z0,z1) (aT h.av)) []:=by rw [Jp];exact B3 F Nj
      have AA:b8≠k.g:=fun e=>Q.zs.row.dm bw rfl (by rw [Q.zs.own,e])
      have wG:rc≠k.g:=fun e=>Q.zs.row.dm bl rfl (by rw [Q.zs.own,e])
      refine Wz ?_;refine SW.da rfl rfl (yi h z0 z1 F.d hs k.m k.cp p1.li k.lv p1.ls p1.u0 p1.u1 k.g k.c w _ Q.base Q.zs ⟨by rw [← Ga];exact Q.ck,by rw [← Fp];exact Q.live,Q.ls⟩) fun v w6 hv => ?_
      obtain ⟨rfl,LV,hE,L6,u2,u3,Ci⟩:=hv;replace bw:=hE.c8 bw AA AA;replace bl:=hE.c8 bl wG wG;have Q2:RQ w w6 k ⟨u2,u3,.nil,[]⟩ (dt (z0,z1) (aT h.av)) []:=⟨Ci,by rw [Ga];exact L6.ck,by rw [Fp];exact L6.live,cX.nil _ _,LV⟩
      clear Q hw L6 Ci hE;have hw:=Ext.refl w6;skip;refine SW.ak bl rfl rfl rfl rfl (cn (k.h ⟨u2,u3,.nil,[]⟩)) fun w7 fD hg => ?_
      have hG:=bl.gr hg;have Q:=Q2.own hg fO hG rfl;replace bw:=bw.grown hg (by simpa using tR);replace bl:aJ w7 rc 41 (bm (k.h ⟨u2,u3,.nil,[]⟩)):=fD;clear fD hg hG hw Q2;have hw:=Ext.refl w7;obtain ⟨p1,FG⟩ : ∃ p1:HP,(⟨u2,u3,.nil,[]⟩ : HP)=p1:=⟨_,rfl⟩;rw [FG] at Q bl;obtain ⟨s1,ub⟩ : ∃ s1,dt (z0,z1) (aT h.av)=s1:=⟨_,rfl⟩;obtain ⟨L1,JS⟩ : ∃ L1:List aC,[]=L1:=⟨_,rfl⟩;rw [ub,JS] at Q RS;have O1:(j:Int)=1:=by omega
      clear ub JS Jp Nj FG
     all_goals
      obtain ⟨L7,ub,HI,Ea,kU,jK⟩:=RS;have AA:b8≠k.g:=fun e=>Q.zs.row.dm bw rfl (by rw [Q.zs.own,e])
      have wG:rc≠k.g:=fun e=>Q.zs.row.dm bl rfl (by rw [Q.zs.own,e])
      by_cases Ik:f % 2=0
      ·refine Wz ?_;refine SW.da rfl rfl (qI k p1 s1 L1 _ _ cpu 1 o t f w _ Q Im L7 ub HI Ea (by decide) hc.2 hf) fun v w6 vn => ?_
       obtain ⟨q1,rX,p2,rfl,Q2,Bw⟩:=vn;replace bw:=Bw.c8 bw AA AA;replace bl:=Bw.c8 bl wG wG;clear hw;have hw:=Ext.refl w6;refine Wz ?_;refine SW.ak bl rfl rfl rfl rfl (cn (k.h p2)) fun w7 fD hg => ?_
       have hG:=bl.gr hg;replace Q2:=Q2.own hg fO hG rfl;replace bw:=bw.grown hg (by simpa using tR);replace bl:=fD;clear fD hg hG hw;have hw:=Ext.refl w7;cases q1 with
       | some r1 =>
         have B4:iq (bT h 0) (bT h 1) cpu o t f s1 L1 (some r1) := .vS Ik rX
         have hp:=kU _ B4;have L8:HG (some r1)=r1.2.2:=rfl
         simp only [L8];refine Wz ?_;all_goals try omega
         exact ae.again (j+1,HG (some r1),p2,DI s1 (some r1),BS L1 (some r1)) ⟨rfl,rfl,rfl,rfl,rfl,rfl,rfl,rfl,trivial⟩ (by simp only;omega) ⟨by simp only;omega,jK _ B4,Q2,bw,bl⟩
       | none =>
         have FW:=rX;clear rX;simp only [DI,BS] at Q2;have L8:HG none = -1:=rfl
         simp only [L8];refine Wz ?_;refine SW.da rfl rfl (qI k p2 s1 L1 _ _ cpu 0 o t f w _ Q2 Im L7 ub HI Ea (by decide) hc.2 hf) fun v w6 vn => ?_
         obtain ⟨q1,rX,p3,rfl,Q3,Bw⟩:=vn;replace bw:=Bw.c8 bw AA AA;replace bl:=Bw.c8 bl wG wG;clear hw;have hw:=Ext.refl w6;refine Wz ?_;refine SW.ak bl rfl rfl rfl rfl (cn (k.h p3)) fun w7 fD hg => ?_
         have hG:=bl.gr hg;replace Q3:=Q3.own hg fO hG rfl;replace bw:=bw.grown hg (by simpa using tR);replace bl:=fD;clear fD hg hG hw;have hw:=Ext.refl w7;have B4:iq (bT h 0) (bT h 1) cpu o t f s1 L1 q1 := .low (fun _=>FW) rX
         refine Wz ?_;exact ae.again (j+1,HG q1,p3,DI s1 q1,BS L1 q1) ⟨rfl,rfl,rfl,rfl,rfl,rfl,rfl,rfl,trivial⟩ (by simp only;omega) ⟨by simp only;omega,jK _ B4,Q3,bw,bl⟩
      ·refine Wz ?_;refine SW.da rfl rfl (qI k p1 s1 L1 _ _ cpu 0 o t f w _ Q Im L7 ub HI Ea (by decide) hc.2 hf) fun v w6 vn => ?_
       obtain ⟨q1,rX,p2,rfl,Q2,Bw⟩:=vn;replace bw:=Bw.c8 bw AA AA;replace bl:=Bw.c8 bl wG wG;clear hw;have hw:=Ext.refl w6;refine Wz ?_;refine SW.ak bl rfl rfl rfl rfl (cn (k.h p2)) fun w7 fD hg => ?_
       have hG:=bl.gr hg;replace Q2:=Q2.own hg fO hG rfl;replace bw:=bw.grown hg (by simpa using tR);replace bl:=fD;clear fD hg hG hw;have hw:=Ext.refl w7;have B4:iq (bT h 0) (bT h 1) cpu o t f s1 L1 q1 := .low (fun e=>absurd e Ik) rX
       refine Wz ?_;exact ae.again (j+1,HG q1,p2,DI s1 q1,BS L1 q1) ⟨rfl,rfl,rfl,rfl,rfl,rfl,rfl,rfl,trivial⟩ (by simp only;omega) ⟨by simp only;omega,jK _ B4,Q2,bw,bl⟩
    ·have hD:=ld.done hq hc FZ F (by rw [zI];exact Iq) L5;rw [zI] at hD;rcases hD with ⟨ha,Hs⟩|⟨ha,cG,Hs⟩
     ·refine Wz ?_;all_goals try omega
      all_goals
       refine SW.ak bw rfl rfl rfl rfl (cn .zero) fun w5 bF hg => ?_
       replace hw:=Q.base.own jr hg;refine Wz ?_;exact ae.cl rfl rfl rfl rfl bF rfl ⟨_,rfl,hw,_,Hs,fE.zero 6 _ _⟩
     ·have O2:=Q.live.len;rw [Fp] at O2;have hV:=Q.live;rw [Fp] at hV;have hZ:=Q.zs;have hM:=Q.ck;rw [Ga] at hM;have hL:=Q.ls;have ua:=Q.base;have O3:aV h.Live (CJ h.Live a) ⟨a,o,t⟩=gD h a o t:=by unfold gD;rw [CK cG]
      rcases (show j<2 ∨ ¬ j<2 by omega) with O4|O4
      all_goals
       refine Wz ?_;refine SW.call rfl rfl (kX k.lv.A k.lv.n k.lv.c h.Live ⟨a,o,t⟩ _ hV.sl (by omega)) fun v w9 aj hv => ?_
       obtain ⟨B,c',rfl,hB⟩:=hv;replace hB:=hB.low ua.size;simp only [O3] at hB;replace ua:=ua.trans aj;(replace hw:=Ext.trans hw aj;replace bw:=bw.ext aj;replace bl:=bl.ext aj;replace hZ:=hZ.ext aj;replace hM:=hM.ext aj;replace hL:=hL.ext aj);refine Wz ?_;refine SW.bA (i:=4) bl rfl rfl rfl rfl fun qG fD hg => ?_
       have hG:=bl.gr hg;replace ua:=ua.own fO hg;replace bw:=bw.grown hg (by simpa using tR);(replace hZ:=hZ.ay hG rfl;replace hM:=hM.ay hG rfl;replace hL:=hL.ay hG rfl;replace hB:=hB.ay hG rfl);clear hw;have hw:=Ext.refl qG;replace bl:aJ qG rc 41 (bm ⟨⟨some ⟨k.g,0,none⟩,2,k.c⟩,k.m,k.cp,p1.li,⟨B,k.lv.n+1,c'⟩⟩):=fD;refine Wz ?_;refine SW.ak bw rfl rfl rfl rfl (cn ⟨⟨some ⟨k.g,0,none⟩,2,k.c⟩,k.m,k.cp,p1.li,⟨B,k.lv.n+1,c'⟩⟩) fun Ck bF hg => ?_
       have hG:=bw.gr hg;replace ua:=ua.own jr hg;(replace hZ:=hZ.ay hG rfl;replace hM:=hM.ay hG rfl;replace hL:=hL.ay hG rfl;replace hB:=hB.ay hG rfl);refine Wz ?_;exact ae.cl rfl rfl rfl rfl bF rfl ⟨_,rfl,ua,_,Hs,⟨⟨some ⟨k.g,0,none⟩,2,k.c⟩,k.m,k.cp,p1.li,⟨B,k.lv.n+1,c'⟩⟩,rfl,⟨Ko,hM,hB,⟨[p1.u0,p1.u1],⟨hZ.row,eA.two hZ.z0 hZ.z1⟩⟩,⟨p1.ls,hL⟩⟩⟩
   ·repeat' (first|refine Wz ?_|(refine CW.bB rfl ?_)|((first|refine SW.call rfl rfl (c1 _ hw) ?_|refine SW.call rfl rfl (c2 _) ?_|refine SW.call rfl rfl (bP _ _ _ _) ?_);intro v w1 ab hv;subst hv;replace hw:=Ext.trans hw ab;replace bZ:=bZ.ext ab;replace bw:=bw.ext ab;clear ab))
    all_goals try omega
    refine SW.ak bw rfl rfl rfl rfl (cn .zero) fun w5 bF hg => ?_
    replace hw:=hw.own jr hg;refine Wz ?_;exact ae.cl rfl rfl rfl rfl bF rfl ⟨_,rfl,hw,_,.form hq hc (by rw [zI];omega),fE.zero 3 _ _⟩
  ·repeat' (first|refine Wz ?_|(refine CW.bB rfl ?_)|refine SW.gQ rfl rfl rfl (fun h => ?_) (fun h => ?_)|((first|refine SW.call rfl rfl (c1 _ hw) ?_|refine SW.call rfl rfl (bP _ _ _ _) ?_);intro v w1 ab hv;subst hv;replace hw:=Ext.trans hw ab;replace bZ:=bZ.ext ab;replace bw:=bw.ext ab;clear ab))
   all_goals try omega
   all_goals
    refine SW.ak bw rfl rfl rfl rfl (cn .zero) fun w5 bF hg => ?_
    replace hw:=hw.own jr hg;refine Wz ?_;exact ae.cl rfl rfl rfl rfl bF rfl ⟨_,rfl,hw,_,.range hq hc,fE.zero 1 _ _⟩
open Go.RowKit
theorem B5 (u:dr) (c:bf) (t:Int) (w:World) (hr:Cf w u c) (hn:u.au.n≤9223372036854775807) :
 bo Tryz.prog 120 [.agg (dh u).toArray,.int .i64 t] w fun v _=>v = .bool (decide (t∈c.au)):=by
 refine aI Tryz.func120 rfl Tryz.ntmps120 rfl ?_;refine CW.seq (CW.region (SW.box rfl rfl fun b2 w1 hw g7 aL => ?_));have hA:=hr.a8.base;have mn:=hr.a8.len;have hl:=hr.a8;refine Wz ?_
 refine CW.loop (fun k:Nat=>[(1,.int .i64 t),(2,.pointer (some ⟨b2,0,none⟩)),(5,.int .i64 (k:Int))]) (fun k w'=>k≤u.au.n∧Ext w w'∧aJ w' b2 89 (dh u) ∧ ∀ (i:Nat) (h:i<c.au.length),i<k→c.au[i]≠t)
  (fun k=>u.au.n-k) 0 ⟨rfl,rfl,rfl,trivial⟩ ⟨by omega,hw,aL,fun i h hi=>by omega⟩ ?_
 clear hw aL;rintro k w' ⟨hk,hw,aL,hI⟩
 by_cases cb:k<u.au.n
 ·have dk:k<c.au.length:=by omega
  by_cases hx:c.au[k]=t
  ·repeat' (first|refine Wz ?_|refine SW.st (ap hw rfl (hl.one cb (congrArg bd (rfl:c.au[k]=c.au[k])))) rfl ?_)
   all_goals try omega
   exact ae.aO rfl rfl ⟨_,rfl,hw,by rw [decide_eq_true (hx ▸ List.getElem_mem dk)]⟩
  ·repeat' (first|refine Wz ?_|refine SW.st (ap hw rfl (hl.one cb (congrArg bd (rfl:c.au[k]=c.au[k])))) rfl ?_)
   all_goals try omega
   refine ae.again (k+1) ⟨rfl,rfl,rfl,trivial⟩ (by omega) ⟨by omega,hw,aL,fun i h' hi => ?_⟩;by_cases z7:i=k
   ·subst z7;exact hx
   ·exact hI i h' (by omega)
 ·refine Wz ?_;refine ae.aO rfl rfl ⟨_,rfl,hw,?_⟩;rw [decide_eq_false];intro hm;obtain ⟨i,hi,e⟩:=List.getElem_of_mem hm;exact hI i hi (by omega) e
end Go.Proofs.YtbidkghlpijecaaGreatDoor
