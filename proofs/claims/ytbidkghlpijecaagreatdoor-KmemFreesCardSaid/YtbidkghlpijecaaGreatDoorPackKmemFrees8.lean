/-
  Texts of the claim KmemFrees, part 8: what its theorem leans on.
-/
import Derived.Test.YtbidkghlpijecaaGreatDoorPackKmemFrees7
import Derived.Test.YtbidkghlpijecaaGreatDoorPackKmemFrees2
import Derived.Test.YtbidkghlpijecaaGreatDoorPackKmemFrees5
import Derived.Test.YtbidkghlpijecaaGreatDoorPackKmemFrees4
set_option linter.unusedVariables false
set_option linter.unusedSimpArgs false
namespace Go.Proofs.YtbidkghlpijecaaGreatDoor
open Go.RowKit
def dK (z:ay) : Prop:=(-9223372036854775808≤z.aR∧z.aR≤9223372036854775807)∧(-9223372036854775808≤z.To∧z.To≤9223372036854775807)
def lN (h:Heap) : Prop:=h.aI.length=2∧h.bE.length=2∧1≤h.bt∧h.bt≤4
instance (h:Heap) : Decidable (lN h):=inferInstanceAs (Decidable (_∧_))
theorem bq.C1 {h:Heap} (a:bq h) : lN h:=by
 obtain ⟨z0,z1,e,_⟩:=a.bU;obtain ⟨m0,m1,e',_⟩:=a.di;exact ⟨by rw [e];rfl,by rw [e'];rfl,a.dc⟩
structure ov (h:Heap) (z0 z1:ay) : Prop where
 one:cb z0
 two:cb z1
 from_:z0.aR=0
 xw:z0.To=z1.aR
 jF:z1.To=256
 di:h.bE.any qv=false
theorem bq.front {h:Heap} {z0 z1:ay} (a:bq h) (e:h.aI=[z0,z1]) : ov h z0 z1:=by
 obtain ⟨y0,y1,e',a1,a2,a3,a4,a5,_⟩:=a.bU;rw [e] at e';simp only [List.cons.injEq,and_true] at e';obtain ⟨rfl,rfl⟩:=e';obtain ⟨m0,m1,e',b1,b2⟩:=a.di;exact ⟨a1,a2,a3,a4,a5,by rw [e'];simp [qv];omega⟩
def iF (h:Heap) (z0 z1:ay) : Option (List Block):=aY (some []) (z0.ao++z1.ao)
theorem bq.rest {h:Heap} {z0 z1:ay} (a:bq h) (e:h.aI=[z0,z1]) : iY h.bt z0.To h.ak∧kq h.Live∧(aY (aY (iF h z0 z1) (aT h.ak)) h.Live).isSome=true:=by
 obtain ⟨y0,y1,e',a1,a2,a3,a4,a5,a6,a7⟩:=a.bU;rw [e] at e';simp only [List.cons.injEq,and_true] at e';obtain ⟨rfl,rfl⟩:=e';refine ⟨a6,a.live,?_⟩;rw [a8,a8] at a7;exact a7
theorem bq.of {h:Heap} {z0 z1:ay} (e:h.aI=[z0,z1]) (hd:lN h) (hf:ov h z0 z1) (h1:iY h.bt z0.To h.ak) (h2:kq h.Live) (h3:(aY (aY (iF h z0 z1) (aT h.ak)) h.Live).isSome=true) : bq h:=by
 refine ⟨⟨z0,z1,e,hf.one,hf.two,hf.from_,hf.xw,hf.jF,h1,?_⟩,?_,hd.2.2,h2⟩
 ·rw [a8,a8];exact h3
 ·obtain ⟨m0,m1,em⟩:=lM hd.2.1;have:=hf.di
  rw [em] at this;simp [qv] at this;exact ⟨m0,m1,em,by omega,by omega⟩
set_option maxHeartbeats 8000000 in
theorem po (r:eu) (h:Heap) (w:World) (hr:sC w r h) (hs:h.small) (zS:∀ z∈h.aI,dK z) :
 a9 Tryz.prog 88 [.agg (bl r).toArray] w fun v _=>v = .int .i64 (if gQ h then 0 else 8):=by
 refine aC Tryz.func88 rfl Tryz.ntmps88 rfl ?_;refine CW.seq (CW.region (SW.box rfl rfl fun b1 w1 hw gI au => ?_));have ku:=hr.dc;have CO:=hr.di.len;obtain ⟨EV,lW⟩:=hr.bU;obtain ⟨BA,Hi⟩:=lW.len;clear lW BA EV;by_cases hd:lN h
 ·obtain ⟨d1,d2,d3⟩:=id hd;obtain ⟨r0,r1,z0,z1,gB⟩:=hr.two d1;have kv:=gB.eq;have hA:=gB.row.base;have Cn:=zS z0 (by rw [kv];simp);have wA:=zS z1 (by rw [kv];simp);have s0:=hs.free z0 (by rw [kv];simp);have s1:=hs.free z1 (by rw [kv];simp);have Hj:=gB.z0.from_;have F7:=gB.z0.jF;have Hk:=gB.z1.from_;have Hl:=gB.z1.jF;have l0:=gB.z0.free.len;have l1:=gB.z1.free.len;have t0:=gB.z0.types.len;have t1:=gB.z1.types.len;unfold dK at Cn wA;obtain ⟨q0,BB⟩ : ∃ q,fa z0=q:=⟨_,rfl⟩;obtain ⟨q1,pp⟩ : ∃ q,fa z1=q:=⟨_,rfl⟩
  have c0:∀ w',Ext w w'→a9 Tryz.prog 176 [.agg (cd r0).toArray] w' fun v _=>v = .int .i64 (if q0 then 0 else 8):=fun w' hx=>by
   have:=jP r0 z0 w' (gB.z0.ext hx) (by omega) (by omega) (by omega) (by omega)
   rwa [BB] at this
  have c1:∀ w',Ext w w'→a9 Tryz.prog 176 [.agg (cd r1).toArray] w' fun v _=>v = .int .i64 (if q1 then 0 else 8):=fun w' hx=>by
   have:=jP r1 z1 w' (gB.z1.ext hx) (by omega) (by omega) (by omega) (by omega)
   rwa [pp] at this
  have As:(q0=true∧q1=true)∨(q0=false)∨(q0=true∧q1=false):=by cases q0<;>cases q1<;>simp
  rcases As with ⟨rfl,rfl⟩|rfl|⟨rfl,rfl⟩
  all_goals simp only [if_true,Bool.false_eq_true,if_false] at c0 c1
  repeat' (first|refine Wz ?_|refine SW.st (aV (0) rfl rfl (by assumption) (by omega) (by omega)) rfl ?_|refine SW.st (aV (1) rfl rfl (by assumption) (by omega) (by omega)) rfl ?_|refine SW.st (aA hw rfl rfl ((gB.c0))) rfl ?_|refine SW.st (aA hw rfl rfl ((gB.c1))) rfl ?_|((first|refine SW.call rfl rfl (c0 _ hw) ?_|refine SW.call rfl rfl (c1 _ hw) ?_);intro v w1 ab hv;subst hv;replace hw:=Ext.trans hw ab;replace au:=au.ext ab;clear ab))
  rotate_left
  ·exact ae.aF rfl rfl ⟨_,rfl,hw,by rw [c9 (fun hh=>by have:=dz.2 (hh.front kv).one;rw [BB] at this;cases this)];rfl⟩
  ·exact ae.aF rfl rfl ⟨_,rfl,hw,by rw [c9 (fun hh=>by have:=dz.2 (hh.front kv).two;rw [pp] at this;cases this)];rfl⟩
  clear c0 c1;have sG:=dz.1 BB;have te:=dz.1 pp
  have cO:∀ w',Ext w w'→a9 Tryz.prog 96 [.slice r.bE.A r.bE.n r.bE.c,.func (.func 177) #[] ([] : List Value).toArray] w' fun v _=>v = .bool (h.bE.any qv):=fun w' h =>
   dO _ _ _ _ _ (hr.di.ext h) _ [] qv (fun x => .int .i64 x) (fun x=>rfl) (fun x _ w1 _=>yg x w1) (by omega)
  obtain ⟨qm,EW⟩ : ∃ q,h.bE.any qv=q:=⟨_,rfl⟩;rw [EW] at cO;have fK:(r0.aR=0∧r0.To=r1.aR∧r1.To=256∧qm=false)∨r0.aR≠0∨(r0.aR=0∧r0.To≠r1.aR)∨(r0.aR=0∧r0.To=r1.aR∧r1.To≠256)∨(r0.aR=0∧r0.To=r1.aR∧r1.To=256∧qm=true):=by cases qm<;>simp<;>omega
  rcases fK with ⟨d1,d2,d3,rfl⟩|d|⟨d1,d⟩|⟨d1,d2,d⟩|⟨d1,d2,d3,rfl⟩
  repeat' (first|refine Wz ?_|((apply CW.aM mixed;(· kernel_rfl);rotate_left;intro w1 ab;replace hw:=Ext.trans hw ab;replace au:=au.ext ab;clear ab;rotate_right))|refine SW.st (aV (0) rfl rfl (by assumption) (by omega) (by omega)) rfl ?_|refine SW.st (aV (1) rfl rfl (by assumption) (by omega) (by omega)) rfl ?_|refine SW.st (ag hw rfl (gB.c0 0 _ rfl)) rfl ?_|refine SW.st (ag hw rfl (gB.c0 1 _ rfl)) rfl ?_|refine SW.st (ag hw rfl (gB.c1 0 _ rfl)) rfl ?_|refine SW.st (ag hw rfl (gB.c1 1 _ rfl)) rfl ?_|refine SW.bf rfl rfl (fun w1 ab=>(cO _ (Ext.trans hw ab))) ?_|exact SW.br rfl)
  rotate_left
  iterate 3 exact ae.aF rfl rfl ⟨_,rfl,hw,by rw [c9 (fun hh=>by have:=hh.front kv;have:=this.from_;have:=(hh.front kv).xw;have:=(hh.front kv).jF;omega)];rfl⟩
  ·exact ae.aF rfl rfl ⟨_,rfl,hw,by rw [c9 (fun hh=>by have:=(hh.front kv).di;rw [EW] at this;cases this)];rfl⟩
  have BC:ov h z0 z1:=⟨sG,te,by omega,by omega,by omega,EW⟩
  clear cO;have hn:=gB.n
  have iQ:∀ z∈h.aI,∀ b∈z.ao,0≤b.Order∧b.Order≤4:=fun z hz b hb=>by
   obtain ⟨i,hi,rfl⟩:=List.getElem_of_mem hb;rw [kv] at hz;simp only [List.mem_cons,List.not_mem_nil,or_false] at hz;rcases hz with rfl|rfl
   ·exact ⟨(sG.gd i hi).1.1,(sG.gd i hi).1.2.1⟩
   ·exact ⟨(te.gd i hi).1.1,(te.gd i hi).1.2.1⟩
  have F8:∀ k,kn (aY (some []) ((h.aI.take k).flatMap ay.ao)):=fun k=>fH qR fun x hx=>by
   obtain ⟨z,hz,hx⟩:=List.mem_flatMap.1 hx;have:=iQ z (List.mem_of_mem_take hz) x hx
   exact (cu this.1 this.2).1
  refine SW.box rfl rfl fun b3 w2 cg bM ap => ?_
  have bO:w.heap.size≤b3:=Nat.le_trans hw.size bM
  have hM:Marks w2 b3 256 (some []):=by
   refine Eq.mp (congrArg (fun c=>aU w2 b3 224 c) ?_) ap;kernel_rfl
  clear ap;(replace hw:=Ext.trans hw cg;replace au:=au.ext cg);repeat' (first|refine Wz ?_|fail)
  refine CW.loop (fun k:Nat=>[(1,.pointer (some ⟨b1,0,none⟩)),(3,.pointer (some ⟨b3,0,none⟩)),(81,.slice r.aI.A r.aI.n r.aI.c),(82,.int .i64 (r.aI.n:Int)),(83,.int .i64 (k:Int))])
   (fun k w'=>k≤2∧Ext w w'∧aU w' b1 41 (bl r)∧Marks w' b3 256 (aY (some []) ((h.aI.take k).flatMap ay.ao))) (fun k=>2-k) 0
   ⟨rfl,rfl,rfl,rfl,rfl,trivial⟩ ⟨by omega,hw,au,hM⟩ ?_
  clear hw au hM cg;rintro k w' ⟨hk,hw,au,hM⟩
  by_cases C2:k<2
  ·have Ed:k<h.aI.length:=by omega
   have ez:=gB.row.all (i:=k) (by omega)
   have yh:p7 w ([r0,r1][k]'(by simpa using C2)) h.aI[k]:=by
    simp only [kv];have:k=0∨k=1:=by omega
    rcases this with rfl|rfl
    ·exact gB.z0
    ·exact gB.z1
   generalize Hm:([r0,r1][k]'(by simpa using C2))=rk at ez yh
   have mj:=iQ h.aI[k] (List.getElem_mem _);have EX:=hs.free h.aI[k] (List.getElem_mem _)
   have sH:(h.aI.take (k+1)).flatMap ay.ao=(h.aI.take k).flatMap ay.ao++h.aI[k].ao:=by
    rw [List.take_succ_eq_append_getElem Ed,List.flatMap_append];simp
   generalize h.aI[k]=zk at yh mj EX sH
   have Hn:=yh.free.base;have oW:=yh.free.len;repeat' (first|refine Wz ?_|refine SW.st (aA hw rfl rfl ((ez))) rfl ?_)
   refine SW.alloc rfl fun b5 w1 ab gm bY => ?_
   skip;refine SW.aj bY rfl rfl rfl rfl (dh _) fun w2 fg hg => ?_
   have ai:=ab.own gm hg;have mh:w.heap.size≤b5:=Nat.le_trans hw.size gm
   replace hw:=Ext.trans hw ai;replace au:=au.ext ai;replace hM:=hM.ext ai;replace bY:=fg;clear fg ab hg ai;repeat' (first|refine Wz ?_|fail)
   refine CW.loop (fun j:Nat=>[(1,.pointer (some ⟨b1,0,none⟩)),(3,.pointer (some ⟨b3,0,none⟩)),(81,.slice r.aI.A r.aI.n r.aI.c),(82,.int .i64 (r.aI.n:Int)),(83,.int .i64 (k:Int)),(88,.slice rk.ao.A rk.ao.n rk.ao.c),(89,.int .i64 (rk.ao.n:Int)),(90,.int .i64 (j:Int))])
    (fun j w'=>j≤rk.ao.n∧Ext w w'∧aU w' b1 41 (bl r)∧Marks w' b3 256 (aY (aY (some []) ((h.aI.take k).flatMap ay.ao)) (zk.ao.take j))) (fun j=>rk.ao.n-j) 0
    ⟨rfl,rfl,rfl,rfl,rfl,rfl,rfl,rfl,trivial⟩ ⟨by omega,hw,au,hM⟩ ?_
   clear hw au hM bY gm mh;rintro j w' ⟨hj,hw,au,hM⟩
   by_cases fF:j<rk.ao.n
   ·have jq:j<zk.ao.length:=by omega
    obtain ⟨o1,o2⟩:=mj zk.ao[j] (List.getElem_mem _);have hp:=cu o1 o2;repeat' (first|refine Wz ?_|refine SW.st (aA hw rfl rfl ((yh.free.all fF))) rfl ?_)
    refine SW.alloc rfl fun b7 w1 ab j5 iV => ?_
    skip;refine SW.aj iV rfl rfl rfl rfl (fM.one (enc:=aE) _) fun w2 cY hg => ?_
    have ai:=ab.own j5 hg;have qj:w.heap.size≤b7:=Nat.le_trans hw.size j5
    replace hw:=Ext.trans hw ai;replace au:=au.ext ai;replace hM:=hM.ext ai;replace iV:=cY;clear cY ab hg ai;repeat' (first|refine Wz ?_|fail);refine CW.any 6 mixed (bZ (by kernel_rfl)) rfl fun w1 ab bd => ?_
    replace hw:=Ext.trans hw ab;replace au:=au.ext ab;replace hM:=hM.ext ab;replace iV:=iV.ext ab;clear ab;refine Wa ?_;refine SA.take 5 bd rfl (by kernel_rfl) (by kernel_rfl) rfl ?_;repeat ((refine SW.st (fB (r:=pw zk.ao[j].Order) rfl rfl (by omega) (by omega) (by simp [pw]) (by omega) (by omega)) rfl ?_))
    refine SW.aq ?_;refine SA.done (by kernel_rfl) ?_;refine SW.ie rfl rfl (m9 b3 _ zk.ao[j] 256 rfl _ hM (fH (F8 k) fun x hx=>by have:=mj x (List.mem_of_mem_take hx);exact (cu this.1 this.2).1) ⟨by omega,by omega⟩) fun v w5 hv => ?_
    obtain ⟨uN,uu⟩:=hv;have hG:=hM.gr uu;replace hw:=hw.own bO uu;(replace au:=au.aD hG rfl);rw [← ns _ _ _ jq] at uN;repeat' (first|refine Wz ?_|fail);exact ae.again (j+1) ⟨rfl,rfl,rfl,rfl,rfl,rfl,rfl,rfl,trivial⟩ (by omega) ⟨by omega,hw,au,uN⟩
   ·obtain rfl:j=rk.ao.n:=by omega
    rw [List.take_of_length_le (l:=zk.ao) (by omega),← a8,← sH] at hM;repeat' (first|refine Wz ?_|fail);exact ae.again (k+1) ⟨rfl,rfl,rfl,rfl,rfl,trivial⟩ (by omega) ⟨by omega,hw,au,hM⟩
  ·obtain rfl:k=2:=by omega
   have EY:=F8 2;have Ho:aY (some []) ((h.aI.take 2).flatMap ay.ao)=iF h z0 z1:=by rw [kv];simp [iF]
   rw [Ho] at hM EY;repeat' (first|refine Wz ?_|fail);obtain ⟨ls,Co⟩:=hr.lists;have lz:=Co.len.2;have zn:=hs.lists;clear Co ls;refine SW.ie rfl rfl (wy r h r0 r1 z0 z1 b3 256 rfl (iF h z0 z1) w _ hw bO gB hM EY (by omega)) fun v w5 hv => ?_
   obtain ⟨fI,uu,rY⟩:=hv;have hG:=hM.gr uu;replace hw:=fI;(replace au:=au.aD hG rfl);clear hM fI uu hG;rcases rY with ⟨rfl,hL,hM⟩|⟨rfl,lc⟩
   rotate_left
   ·repeat' (first|refine Wz ?_|(refine CW.cU rfl ?_))
    exact ae.aF rfl rfl ⟨_,rfl,hw,by rw [c9 (fun hh=>lc ⟨(hh.rest kv).1,dR (m:=h.Live) (by rw [a8];exact (hh.rest kv).2.2)⟩)];rfl⟩
   have F9:kn (aY (iF h z0 z1) (aT h.ak)):=fH EY fun x hx=>by
    unfold aT at hx;obtain ⟨y,_,hy⟩:=List.mem_flatMap.1 hx;obtain ⟨p,_,rfl⟩:=List.mem_map.1 hy;simp [bz,ij]
   have Au:bq h→(aY (aY (iF h z0 z1) (aT h.ak)) h.Live).isSome=true:=fun hh=>(hh.rest kv).2.2
   have Ga:kq h.Live→(aY (aY (iF h z0 z1) (aT h.ak)) h.Live).isSome=true→bq h:=fun a b=>bq.of kv hd BC hL a b
   generalize aY (iF h z0 z1) (aT h.ak)=S at hM F9 Au Ga
   have C3:=hr.live;have CP:=hr.live.len;have EZ:=hr.live.base;have Hp:=hs.live;repeat' (first|refine Wz ?_|fail)
   refine CW.loop (fun k:Nat=>[(1,.pointer (some ⟨b1,0,none⟩)),(3,.pointer (some ⟨b3,0,none⟩)),(108,.slice r.Live.A r.Live.n r.Live.c),(109,.int .i64 (r.Live.n:Int)),(110,.int .i64 (k:Int))])
    (fun k w'=>k≤r.Live.n∧Ext w w'∧aU w' b1 41 (bl r)∧Marks w' b3 256 (aY S (h.Live.take k))∧pn h.Live k) (fun k=>r.Live.n-k) 0
    ⟨rfl,rfl,rfl,rfl,rfl,trivial⟩ ⟨by omega,hw,au,hM,.nil _⟩ ?_
   clear hw au hM;rintro k w' ⟨hk,hw,au,hM,hP⟩
   by_cases cc:k<r.Live.n
   ·have cG:k<h.Live.length:=by omega
    have BD:k-1<r.Live.n:=by omega
    have nZ:bq h→o7 h.Live[k]∧(0<k→(h.Live[k-1]'(by omega)).At<h.Live[k].At):=fun hh=>⟨hh.live.each k cG,fun h0=>by
     have:=hh.live.next (k-1) (by omega)
     simpa only [show k-1+1=k by omega] using this⟩
    have qX:=C3.fE BD (j:=0) rfl;repeat' (first|refine Wz ?_|refine SW.st (aA hw rfl rfl ((C3.all cc))) rfl ?_)
    refine SW.alloc rfl fun b9 w1 ab jl cn => ?_
    repeat' (first|refine Wz ?_|fail);refine SW.aj cn rfl rfl rfl rfl (fM.one (enc:=aE) _) fun w2 fu hg => ?_
    have ai:=ab.own jl hg;have mz:w.heap.size≤b9:=Nat.le_trans hw.size jl
    replace hw:=Ext.trans hw ai;replace au:=au.ext ai;replace hM:=hM.ext ai;replace cn:=fu;clear fu ab hg ai;repeat' (first|refine Wz ?_|fail);have wB:qW h.Live[k]→(0<k→(h.Live[k-1]'(by omega)).At<h.Live[k].At)→pn h.Live (k+1):=fun a b=>hP.snoc cG a fun h0=>b h0
    have sH:=ns S h.Live k cG;generalize Hq:h.Live[k]=bb at cn nZ wB sH
    generalize Ey:(h.Live[k-1]'(by omega)).At=pv at nZ wB qX
    simp only [qW,o7,j3] at nZ wB
    have hp:bb.Order<0∨4<bb.Order∨(1≤pw bb.Order∧pw bb.Order≤16):=by
     by_cases h1 : 0≤bb.Order
     ·by_cases h2:bb.Order≤4
      ·exact .inr (.inr (cu h1 h2))
      ·omega
     ·omega
    have em:bb.At<0∨bb.At.tmod (pw bb.Order)=bb.At % pw bb.Order:=by
     by_cases h1 : 0≤bb.At
     ·exact .inr (Int.tmod_eq_emod_of_nonneg h1)
     ·omega
    have fK:bb.Order<0∨(0≤bb.Order∧(4<bb.Order∨(bb.Order≤4∧(bb.At<0∨(0≤bb.At∧(bb.At.tmod (pw bb.Order)≠0∨(bb.At.tmod (pw bb.Order)=0∧(bb.Ty<0∨(0≤bb.Ty∧(3≤bb.Ty∨(bb.Ty<3∧((0<k∧bb.At≤pv)∨k=0∨(0<k∧pv<bb.At)))))))))))) ):=by omega
    rcases fK with d|⟨d1,d|⟨d2,d|⟨d3,d|⟨d4,d|⟨d5,d|⟨d6,⟨lh,d⟩|lh|⟨lh,d⟩⟩⟩⟩⟩⟩⟩
    all_goals (apply CW.aM mixed;(· kernel_rfl);rotate_left;intro w1 ab;replace hw:=Ext.trans hw ab;replace au:=au.ext ab;replace cn:=cn.ext ab;replace hM:=hM.ext ab;clear ab;rotate_right)
    repeat' (first|refine Wz ?_|refine SW.st (aV (k-1) rfl rfl (by assumption) (by omega) (by omega)) rfl ?_|refine SW.st (ag hw rfl qX) rfl ?_|(refine SW.st (fB (r:=pw bb.Order) rfl rfl (by omega) (by omega) (by simp [pw]) (by omega) (by omega)) rfl ?_)|exact SW.br rfl)
    iterate 7 exact ae.aF rfl rfl ⟨_,rfl,hw,by rw [c9 (fun hh=>by have:=nZ hh;omega)];rfl⟩
    all_goals
     replace wB:=wB ⟨⟨d1,d2⟩,d3,by omega,by omega⟩ (fun h0=>by omega);refine CW.any 6 mixed (bZ (by kernel_rfl)) rfl fun w1 ab bd => ?_
     replace hw:=Ext.trans hw ab;replace au:=au.ext ab;replace hM:=hM.ext ab;replace cn:=cn.ext ab;clear ab;refine Wa ?_;refine SA.take 5 bd rfl (by kernel_rfl) (by kernel_rfl) rfl ?_;repeat ((refine SW.st (fB (r:=pw bb.Order) rfl rfl (by omega) (by omega) (by simp [pw]) (by omega) (by omega)) rfl ?_))
     refine SW.aq ?_;refine SA.done (by kernel_rfl) ?_
     refine SW.ie rfl rfl (m9 b3 _ bb 256 rfl _ hM (fH F9 fun x hx=>by
      obtain ⟨i,hi,rfl⟩:=List.getElem_of_mem hx;rw [List.getElem_take];have:=(hP.each i (by simp at hi;omega) (by simp at hi;omega)).1
      exact (cu this.1 this.2).1) ⟨by omega,by omega⟩) fun v w5 hv => ?_
     obtain ⟨uN,uu⟩:=hv;have hG:=hM.gr uu;replace hw:=hw.own bO uu;(replace au:=au.aD hG rfl);rw [← sH] at uN;repeat' (first|refine Wz ?_|fail);exact ae.again (k+1) ⟨rfl,rfl,rfl,rfl,rfl,trivial⟩ (by omega) ⟨by omega,hw,au,uN,wB⟩
   ·obtain rfl:k=r.Live.n:=by omega
    rw [List.take_of_length_le (by omega)] at hM;have k6:=hM.bad rfl;cases hS:aY S h.Live with
    | none =>
      rw [hS] at k6;repeat' (first|refine Wz ?_|(refine CW.cU rfl ?_)|refine SW.st (az rfl k6) rfl ?_)
      exact ae.aF rfl rfl ⟨_,rfl,hw,by rw [c9 (fun hh=>by have:=Au hh;rw [hS] at this;cases this)];rfl⟩
    | some bs =>
      rw [hS] at k6;repeat' (first|refine Wz ?_|(refine CW.cj rfl ?_)|refine SW.st (az rfl k6) rfl ?_)
      exact ae.aF rfl rfl ⟨_,rfl,hw,by rw [mn (Ga (hP.ok (s:=S) (by omega) (by rw [hS];rfl)) (by rw [hS];rfl))];rfl⟩
 ·rw [c9 (fun hh=>hd hh.C1)];have fK:r.aI.n≠2∨(r.aI.n=2∧(r.bE.n≠2∨(r.bE.n=2∧(r.bt<1∨(1≤r.bt∧4<r.bt))))):=by unfold lN at hd;omega
  rcases fK with d|⟨d1,d|⟨d2,d|⟨d3,d⟩⟩⟩
  repeat' (first|refine Wz ?_|fail);all_goals exact ae.aF rfl rfl ⟨_,rfl,hw,rfl⟩
open Go.RowKit
theorem qY {α:Type} {p q : α → Bool}:∀ {l:List α},(∀ x∈l,p x=true→q x=true)→(∃ x∈l,p x=false∧q x=true)→l.countP p<l.countP q
 | [],_,h=>by obtain ⟨x,hx,_⟩:=h;simp at hx
 | a::l,h1,h2=>by
   rw [List.countP_cons,List.countP_cons];have hle:l.countP p≤l.countP q:=List.countP_mono_left (fun x hx=>h1 x (by simp [hx]))
   obtain ⟨x,hx,hp,hq⟩:=h2;rcases List.mem_cons.1 hx with rfl|hx
   ·simp [hp,hq];omega
   ·have ih:=qY (l:=l) (fun y hy=>h1 y (by simp [hy])) ⟨x,hx,hp,hq⟩;have:=h1 a (by simp)
    cases C4:p a<;>cases Hr:q a<;>simp [C4,Hr] at this ⊢<;>omega
theorem pq:∀ {l:List Block} {cs bs:List Block},(∀ b∈l,1≤pw b.Order)→aY (some cs) l=some bs→cs.length≤(List.range 256).countP (dI cs)→(∀ x∈cs,0≤x.At∧1≤pw x.Order)→bs.length≤(List.range 256).countP (dI bs)
 | [],cs,bs,_,h,hc,_=>by injection h with h;subst h;exact hc
 | b::l,cs,bs,hp,h,hc,hg=>by
   have h':aY (ig (some cs) b) l=some bs:=h
   cases e:ig (some cs) b with
   | none=>rw [e,ed] at h';cases h'
   | some ds =>
     rw [e] at h';obtain ⟨qw,e1,hf,rfl⟩:=jw e;injection e1 with e1
     subst e1;have h1:=hp b (by simp);have mg:=(ou hg h1).2 hf;refine pq (fun x hx=>hp x (by simp [hx])) h' ?_ (fun x hx => ?_)
     ·have:=qY (p:=dI cs) (q:=dI (cs++[b])) (l:=List.range 256) (fun x _ hx=>by simp only [dI,List.any_append,Bool.or_eq_true] at hx ⊢;exact .inl hx)
       ⟨b.At.toNat,by simp;have:=hf.1;have:=hf.2.1;omega,mg.2.2.2 _ (by have:=hf.1;omega) (by have:=hf.1;omega),by
        simp only [dI,List.any_append,Bool.or_eq_true];right;have:=hf.1
        simp [ot];omega⟩
      simp;omega
     ·rcases List.mem_append.1 hx with hx|hx
      ·exact hg x hx
      ·simp at hx;subst hx;exact ⟨hf.1,h1⟩
theorem pr {l bs:List Block} (hp:∀ b∈l,1≤pw b.Order) (h:aY (some []) l=some bs) : bs.length≤256:=by
 have:=pq hp h (by simp) (fun x hx=>by simp at hx)
 have h2:(List.range 256).countP (dI bs)≤(List.range 256).length:=List.countP_le_length
 simp at h2;omega
section
variable {P:Program} {n:Nat} {ops:Array Oper} {Q:Exit→Act→World→Prop} {rest:List Oper} {L:Env} {w:World}
theorem SW.uO {d:Nat} {fo:Operand} {f:FuncId} {cap:List Value} {xs:List Operand} {vs:List Value} {ts:Array TypeId} {T:TypeId} {pos:String} {af:Array Edge} {R:Value→World→Prop}
 [Body P f] (hf:bG L fo=some (.func (.func f) #[] cap.toArray)) (hx:mN L xs=some vs) (hn:Nat.blt d n=true) (hc:kt P f (vs++cap) w R) (h:∀ v w',R v w'→SW P n ops (.eG Q) rest ((d,v)::L) w') :
 SW P n ops (.eG Q) (⟨some d,.call ⟨.value fo,xs.toArray,ts⟩,T,pos,af,none⟩::rest) L w :=
 ⟨fun a ha=>by
  simp only [swp,wpList,Region.wanted,if_true];refine .inl ?_;unfold Oper.wp;rw [mR (ha.eval hf),Oper.upon_enter,ha.lZ hx];refine Calls.mono hc.out ?_;rintro e w' ⟨v,rfl,hv⟩
  exact (h v w' hv).out _ (ha.put hn v)⟩
end
structure Kp (w w':World) : Prop where
 k:∀ (g:Nat) (t:TypeId) (cs:List Value),aU w g t cs→Nat.beq 165 t=false→Nat.beq 39 t=false→aU w' g t cs
theorem Kp.refl (w:World) : Kp w w:=⟨fun _ _ _ h _ _=>h⟩
theorem Kp.ext {w w1 w2:World} (h:Kp w w1) (hx:Ext w1 w2) : Kp w w2:=⟨fun g t cs hb h1 h2=>(h.k g t cs hb h1 h2).ext hx⟩
theorem Kp.Hs {w w1 w2:World} (h:Kp w w1) (hG:oo w1 w2 165) : Kp w w2:=⟨fun g t cs hb h1 h2=>(h.k g t cs hb h1 h2).aD hG h1⟩
theorem Kp.Ht {w w1 w2:World} (h:Kp w w1) (hG:oo w1 w2 39) : Kp w w2:=⟨fun g t cs hb h1 h2=>(h.k g t cs hb h1 h2).aD hG h2⟩
structure n6 (w:World) (lo b:Nat) (l:List Block) : Prop where
 ex:∃ A c,aU w b 39 [.slice A l.length c]∧Own w lo 165 3 aE A l.length c l
theorem n6.ext {w w':World} {lo b:Nat} {l:List Block} (h:n6 w lo b l) (hx:Ext w w') : n6 w' lo b l:=by
 obtain ⟨A,c,h1,h2⟩:=h.ex;exact ⟨A,c,h1.ext hx,h2.ext hx⟩
theorem Av (b:Nat) : (⟨b,0,none⟩ : Addr).add 0=⟨b,0,none⟩:=by unfold Addr.add;simp
theorem aU.cell0 {w:World} {b:Nat} {t:TypeId} {cs:List Value} (h:aU w b t cs) {v:Value} (hv:cs[0]?=some v) : w.cell? ⟨b,0,none⟩=some v:=by
 rw [← Av];exact h.cell hv
def BE (w wE:World) (b:Nat) (l:List Block) (x:Block) (v:Value) (w':World) : Prop:=Ext w w'∧Kp wE w'∧((v = .bool true∧jv l x∧n6 w' w.heap.size b (l++[x]))∨(v = .bool false ∧ ¬ jv l x∧n6 w' w.heap.size b l))
set_option maxHeartbeats 4000000 in
theorem pt (b:Nat) (l:List Block) (x:Block) (w wE:World) (hw:Ext w wE) (Al:w.heap.size≤b) (hS:n6 wE w.heap.size b l) (gH:∀ y∈l,dr 0 256 y) (hlen:l.length≤256) (hx:dr 0 256 x) :
 kt Tryz.prog 196 [.agg (aE x).toArray,.pointer (some ⟨b,0,none⟩)] wE (BE w wE b l x):=by
 refine fy Tryz.func196 rfl Tryz.ntmps196 rfl ?_;have hK:=Kp.refl wE;obtain ⟨A,c,hB,hO⟩:=hS.ex;clear hS;obtain ⟨⟨o1,o2,a1,a2,a3⟩,ty⟩:=id hx;have hp:=cu o1 o2;refine CW.seq (CW.region (SW.box rfl rfl fun b2 w2 cg ff ax => ?_));(replace hw:=Ext.trans hw cg;replace hB:=hB.ext cg;replace hO:=hO.ext cg;replace hK:=hK.ext cg);have Hu:=hB.cell0 rfl
 have cO:∀ w',Ext w w'→Sl w' 3 aE A l.length l→a9 Tryz.prog 197 [.slice A l.length c,.int .i64 x.At,.int .i64 x.Order] w' fun v _=>v = .bool (dZ l x.At x.Order):=fun w' _ h =>
  mv _ _ _ _ 0 256 _ _ _ h gH (by omega) (by omega) (by omega) ⟨by omega,by omega⟩ ⟨o1,o2⟩
 obtain ⟨q,hq⟩ : ∃ q,dZ l x.At x.Order=q:=⟨_,rfl⟩;rw [hq] at cO;have fK:(q=true)∨(q=false∧256<x.At+pw x.Order)∨(q=false∧x.At+pw x.Order≤256):=by cases q<;>simp<;>omega
 rcases fK with rfl|⟨rfl,d⟩|⟨rfl,d⟩
 repeat' (first|refine Wz ?_|((apply CW.aM mixed;(· kernel_rfl);rotate_left;intro w1 ab;replace hw:=Ext.trans hw ab;replace hB:=hB.ext ab;replace hO:=hO.ext ab;replace ax:=ax.ext ab;replace hK:=hK.ext ab;clear ab;rotate_right))|refine SW.st (az rfl Hu) rfl ?_|refine SW.bf rfl rfl (fun w1 ab=>(cO _ (Ext.trans hw ab) (hO.sl.ext ab))) ?_|refine SW.bf rfl rfl (fun w1 ab=>(dA _ (by omega) _)) ?_|exact SW.br rfl)
 iterate 2 exact ae.aF rfl rfl ⟨_,rfl,hw,hK,.inr ⟨rfl,fun hf=>by have h1:=hf.2.1;have h2:=hf.2.2;simp [hq] at h2<;>omega,⟨A,c,hB,hO⟩⟩⟩
 have Ee:=hB.cell0 rfl;repeat' (first|refine Wz ?_|refine SW.st (az rfl Ee) rfl ?_)
 refine SW.bW rfl rfl rfl rfl rfl fun b4 w4 ai bA Hv => ?_
 (replace hw:=Ext.trans hw ai;replace hB:=hB.ext ai;replace hO:=hO.ext ai;replace hK:=hK.ext ai);refine SW.append hO (aU.kf (enc:=aE) Hv) hw.size rfl rfl rfl (by omega) (by omega) fun A2 c2 w5 nu hg => ?_
 have hG:=hO.gr hg;replace hw:=aK hw hg (Nat.le_refl _) hO.aN;replace hK:=hK.Hs hG;(replace hB:=hB.aD hG rfl);refine SW.bT (i:=0) hB (by rw [Av];rfl) rfl rfl rfl fun w6 nU hg => ?_
 have hG:=hB.gr hg;replace hw:=hw.own Al hg;replace hK:=hK.Ht hG;(replace nu:=nu.aD hG rfl);refine Wz ?_;exact ae.aF rfl rfl ⟨_,rfl,hw,hK,.inl ⟨rfl,⟨a1,d,hq⟩,⟨A2,c2,by simpa using nU,by simpa using nu⟩⟩⟩
theorem kU {l:List Block} (h:kq l) : l.Pairwise fun x y=>x.At<y.At:=by
 have key:∀ (d i:Nat) (hj:i+d+1<l.length),(l[i]'(by omega)).At<l[i+d+1].At:=by
  intro d;induction d with
  | zero=>intro i hj;exact h.next i hj
  | succ d ih=>intro i hj;exact Int.lt_trans (ih i (by omega)) (h.next (i+d+1) (by omega))
 rw [List.pairwise_iff_getElem];intro i j hi hj jN;have:=key (j-i-1) i (by omega)
 have e:i+(j-i-1)+1=j:=by omega
 simp only [e] at this;exact this
theorem fZ {l:List Block} {a:Int} (h:bc l a=true) : ∃ hk:bF l a<l.length,l[bF l a].At=a:=by
 unfold bc at h;split at h
 ·rename_i hk;exact ⟨hk,of_decide_eq_true h⟩
 ·cases h
theorem pu {l:List Block} (hu:l.Pairwise fun x y=>x.At<y.At) {a:Int} {k:Nat} (hk:k<l.length) (h:l[k].At=a) : bF l a=k∧bc l a=true:=by
 rw [List.pairwise_iff_getElem] at hu;have e:bF l a=k:=vz (by omega) (fun j hj iB=>by have:=hu j k hj hk iB;omega) (fun _=>by omega)
 refine ⟨e,?_⟩;unfold bc;simp only [e,dif_pos hk];exact decide_eq_true h
theorem uP {l:List Block} {a:Int} (h:∀ (k:Nat) (hk:k<l.length),l[k].At≠a) : bc l a=false:=by
 unfold bc;split
 ·rename_i hk;exact decide_eq_false (h _ hk)
 ·rfl
theorem yi {l:List Block} (hu:l.Pairwise fun x y=>x.At<y.At) {k:Nat} (hk:k<l.length) {a o:Int} (ha:l[k].At=a) (ho:l[k].Order=o) : l.eraseIdx k=ba l a o:=by
 rw [List.pairwise_iff_getElem] at hu
 have cQ:∀ (j:Nat) (hj:j<l.length),j≠k→lV a o l[j]=false:=fun j hj iB=>by
  cases hh:lV a o l[j] with
  | false=>rfl
  | true =>
    obtain ⟨e1,e2⟩:=eR.1 hh;rcases Nat.lt_trichotomy j k with h1|h1|h1
    ·have:=hu j k hj hk h1;omega
    ·exact absurd h1 iB
    ·have:=hu k j hk hj h1;omega
 have e:l=l.take k++l[k]::l.drop (k+1):=by simp
 have hL:∀ x∈l.take k,lV a o x=false:=fun x hx=>by
  obtain ⟨j,hj,rfl⟩:=List.getElem_of_mem hx;simp at hj;rw [List.getElem_take];exact cQ j (by omega) (by omega)
 have hR:∀ x∈l.drop (k+1),lV a o x=false:=fun x hx=>by
  obtain ⟨j,hj,rfl⟩:=List.getElem_of_mem hx;simp at hj;rw [List.getElem_drop];exact cQ _ (by omega) (by omega)
 have hm:lV a o l[k]=true:=eR.2 ⟨ha,ho⟩
 unfold ba;rw [List.eraseIdx_eq_take_drop_succ]
 conv=>rhs;rw [e]
 rw [List.filter_append,List.filter_cons];simp only [hm,Bool.not_true,Bool.false_eq_true,if_false];rw [List.filter_eq_self.2 (fun x hx=>by simp [hL x hx]),List.filter_eq_self.2 (fun x hx=>by simp [hR x hx])]
noncomputable def nB (z:ay) (a:Int) : Int:=z.Types.getD ((a-z.aR) / 8).toNat 0
noncomputable def keyOf (z0 z1:ay) (cpu a:Int) : aJ:=⟨cpu,if a<z0.To then 0 else 1,if a<z0.To then nB z0 a else nB z1 a,[]⟩
def jc (x:aJ) (pg:List Int) : aJ:=⟨x.dq,x.ay,x.Ty,pg⟩
noncomputable def mA (h:Heap) (z0 z1:ay) (b:Block) (lv:List Block) : Heap:=⟨[(dS (z0,z1) b).1,(dS (z0,z1) b).2],h.bE,h.bt,h.ak,lv⟩
noncomputable def eB (h:Heap) (z0 z1:ay) (x:aJ) (pg:List Int) (lv:List Block) : Heap :=
 if 8<pg.length then ⟨[(cx (z0,z1) ((pg.take 4).map bz)).1,(cx (z0,z1) ((pg.take 4).map bz)).2],h.bE,h.bt,eW h.ak (jc x (pg.drop 4)),lv⟩ else ⟨[z0,z1],h.bE,h.bt,eW h.ak (jc x pg),lv⟩
noncomputable def lO (h:Heap) (cpu a:Int) : Heap:=match h.aI with
 | [z0,z1]=>if 0<(h.Live.getD (bF h.Live a) ⟨0,0,0⟩).Order then mA h z0 z1 (h.Live.getD (bF h.Live a) ⟨0,0,0⟩) (h.Live.eraseIdx (bF h.Live a)) else eB h z0 z1 (keyOf z0 z1 cpu a) (cm h.ak (keyOf z0 z1 cpu a)++[a]) (h.Live.eraseIdx (bF h.Live a))
 | _=>⟨[],[],0,[],[]⟩
noncomputable def fv (h:Heap) (cpu a:Int) : Int×Heap :=
 if gQ h then (if 0≤cpu∧cpu<h.bt then (if bc h.Live a then (0,lO h cpu a) else (4,⟨[],[],0,[],[]⟩)) else (1,⟨[],[],0,[],[]⟩)) else (8,⟨[],[],0,[],[]⟩)
theorem rZ {h:Heap} {cpu a:Int} (hb:gQ h=false) : fv h cpu a=(8,⟨[],[],0,[],[]⟩):=by simp [fv,hb]
theorem r3 {h:Heap} {cpu a:Int} (hb:gQ h=true) (hc : ¬ (0≤cpu∧cpu<h.bt)) : fv h cpu a=(1,⟨[],[],0,[],[]⟩):=by simp only [fv,hb,if_true,if_neg hc]
theorem r4 {h:Heap} {cpu a:Int} (hb:gQ h=true) (hc : 0≤cpu∧cpu<h.bt) (hf:bc h.Live a=false) : fv h cpu a=(4,⟨[],[],0,[],[]⟩):=by simp only [fv,hb,if_true,if_pos hc,hf,Bool.false_eq_true,if_false]
theorem ow {h:Heap} {cpu a:Int} (hb:gQ h=true) (hc : 0≤cpu∧cpu<h.bt) (hf:bc h.Live a=true) : fv h cpu a=(0,lO h cpu a):=by simp only [fv,hb,if_true,if_pos hc,hf]
theorem lP {h:Heap} {z0 z1:ay} {cpu a:Int} (hz:h.aI=[z0,z1]) {k:Nat} (hk:k<h.Live.length) (e:bF h.Live a=k) (ho : 0<h.Live[k].Order) : lO h cpu a=mA h z0 z1 h.Live[k] (h.Live.eraseIdx k):=by
 have:h.Live.getD k ⟨0,0,0⟩=h.Live[k]:=by rw [List.getD_eq_getElem?_getD,List.getElem?_eq_getElem hk];rfl
 simp only [lO,hz,e,this,if_pos ho]
theorem lQ {h:Heap} {z0 z1:ay} {cpu a:Int} (hz:h.aI=[z0,z1]) {k:Nat} (hk:k<h.Live.length) (e:bF h.Live a=k) (ho : ¬ 0<h.Live[k].Order) : lO h cpu a=eB h z0 z1 (keyOf z0 z1 cpu a) (cm h.ak (keyOf z0 z1 cpu a)++[a]) (h.Live.eraseIdx k):=by
 have:h.Live.getD k ⟨0,0,0⟩=h.Live[k]:=by rw [List.getD_eq_getElem?_getD,List.getElem?_eq_getElem hk];rfl
 simp only [lO,hz,e,this,if_neg ho]
structure mB (h:Heap) (z0 z1:ay) : Prop where
 d:nt h z0 z1
 r5:zp h.ak
 live:kq h.Live
 lists:∀ l∈h.ak,1≤l.aw.length∧l.aw.length≤8
 all:(aY (some []) (z0.ao++z1.ao++aT h.ak++h.Live)).isSome=true
 dc : 1≤h.bt∧h.bt≤4
 count:h.ak.length≤256
theorem qZ {l m:List Block} {a o:Int} (h:∀ x∈l,x∈m) (ho:dZ m a o=false) : dZ l a o=false:=by
 unfold dZ at *;rw [List.any_eq_false] at *;exact fun x hx=>ho x (h x hx)
theorem jZ.sub {l m:List Block} {b:Block} (h:jZ m b) (hs:∀ x∈l,x∈m) : jZ l b:=⟨h.ord,h.at_,h.al,⟨h.fits.1,h.fits.2.1,qZ hs h.fits.2.2⟩,fun x hx=>h.kZ x (hs x hx)⟩
theorem mB.next {h:Heap} {z0 z1:ay} (f:mB h z0 z1) {k:Nat} (hk:k<h.Live.length) : jZ (z0.ao++z1.ao) h.Live[k]:=by
 have gH:=f.all;have e:z0.ao++z1.ao++aT h.ak++h.Live=(z0.ao++z1.ao++aT h.ak++h.Live.take k)++h.Live[k]::h.Live.drop (k+1):=by simp
 rw [e] at gH;have hf:=mq gH;have hl:=f.live.each k hk;have hs:∀ x∈z0.ao++z1.ao,x∈z0.ao++z1.ao++aT h.ak++h.Live.take k:=fun x hx=>List.mem_append_left _ (List.mem_append_left _ hx)
 obtain ⟨l1,l2,l3,l4⟩:=hl;refine ⟨l1,by omega,l3,⟨hf.1,hf.2.1,qZ hs hf.2.2⟩,fun x hx => ?_⟩;rcases List.mem_append.1 hx with hx|hx
 ·exact iv f.d.nW x hx
 ·exact iv f.d.nX x hx
theorem mB.BF {h:Heap} {z0 z1:ay} (f:mB h z0 z1) {i j:Nat} (hi:i<h.ak.length) (hj:j<h.ak[i].aw.length) : jZ (z0.ao++z1.ao++(h.ak[i].aw.take j).map bz) (bz h.ak[i].aw[j]):=by
 obtain ⟨hK,Hw⟩:=vA hi hj;have hN:=f.d.next hK;rw [Hw] at hN;refine hN.sub fun x hx => ?_
 rcases List.mem_append.1 hx with hx|hx
 ·exact List.mem_append_left _ hx
 ·refine List.mem_append_right _ ?_;obtain ⟨p,hp,rfl⟩:=List.mem_map.1 hx;obtain ⟨m,hm,rfl⟩:=List.getElem_of_mem hp;simp only [List.length_take] at hm;rw [List.getElem_take];obtain ⟨hM,Hx⟩:=vA hi (show m<h.ak[i].aw.length by omega);rw [← Hx];exact List.mem_take_iff_getElem.2 ⟨lI h.ak i+m,by omega,rfl⟩
theorem mB.inv {h:Heap} {z0 z1:ay} (f:mB h z0 z1) {i:Nat} (hi:i<h.ak.length) : ∀ j,j≤h.ak[i].aw.length→mZ (cx (z0,z1) ((h.ak[i].aw.take j).map bz)) (z0.ao++z1.ao++(h.ak[i].aw.take j).map bz)
 | 0,_=>by simpa [cx] using f.d.start
 | j+1,hj=>by
   have ih:=(f.inv hi j (by omega)).back (f.BF hi (show j<_ by omega))
   have e:(h.ak[i].aw.take (j+1)).map bz=(h.ak[i].aw.take j).map bz++[bz h.ak[i].aw[j]]:=by
    rw [List.take_succ_eq_append_getElem (by omega),List.map_append];rfl
   rw [e,← List.append_assoc,iC];exact ih.1
theorem px {h:Heap} (hm:bq h) : ∃ z0 z1,mB h z0 z1:=by
 obtain ⟨z0,z1,h1,h2,h3,h4,h5,h6,h7,h8⟩:=hm.bU;have hd:nt h z0 z1:=⟨h1,h2,h3,h4,h5,h6,dR h8⟩
 have hl:∀ l∈h.ak,1≤l.aw.length∧l.aw.length≤8:=fun l hl=>by
  obtain ⟨i,hi,rfl⟩:=List.getElem_of_mem hl;exact (h7.head i hi).2.2.2
 refine ⟨z0,z1,hd,rR h7,hm.live,hl,h8,hm.dc,?_⟩
 have key:∀ k,k≤h.ak.length→k≤lI h.ak k:=by
  intro k;induction k with
  | zero=>intro _;omega
  | succ k ih =>
    intro hk;have:=ih (by omega)
    have:=(hl _ (List.getElem_mem (show k<h.ak.length by omega))).1
    rw [x8 (show k<h.ak.length by omega)];omega
 have hc:=key _ (Nat.le_refl _);rw [zO] at hc
 have hb:(aT h.ak).length≤256:=by
  obtain ⟨bs,sX⟩:=Option.isSome_iff_exists.1 hd.all;have h9:=pr hd.pw sX;have e:=ja sX;rw [List.nil_append] at e;subst e;simp only [List.length_append] at h9;omega
 omega
theorem yj {x y:Int} (h1 : 0≤x) (h2:x≤64) (h3 : 0≤y) (h4:y≤64) : 0≤x*y∧x*y≤4096 :=
 ⟨Int.mul_nonneg h1 h3,by have:=Int.mul_le_mul h2 h4 h3 (by omega:(0:Int)≤64);omega⟩
def jm (size iM t a:Int) : Bool:=decide (0≤a-t*16) && decide (a-t*16<iM*size) && decide ((a-t*16) % size=0)
theorem yl {size iM t a:Int} {k:Nat} (hs : 1≤size) (hk:(k:Int)<iM) (h:a=16*t+k*size) : jm size iM t a=true:=by
 have e:a-t*16=k*size:=by omega
 unfold jm;rw [e,decide_eq_true (Int.mul_nonneg (by omega) (by omega)),decide_eq_true (Int.mul_lt_mul_of_pos_right hk (by omega)),decide_eq_true (Int.mul_emod_left _ _)]
 rfl
theorem wC {size iM t a:Int} (hs : 1≤size) (h:∀ k:Nat,(k:Int)<iM→a≠16*t+k*size) : jm size iM t a=false:=by
 cases e:jm size iM t a
 ·rfl
 ·exfalso;unfold jm at e;simp only [Bool.and_eq_true,decide_eq_true_eq] at e;obtain ⟨⟨e1,e2⟩,e3⟩:=e;have h1:(a-t*16) / size<iM:=Int.ediv_lt_of_lt_mul (by omega) e2
  have h2 : 0≤(a-t*16) / size:=Int.ediv_nonneg e1 (by omega)
  have h3:=Int.mul_ediv_add_emod (a-t*16) size;obtain ⟨k,hk⟩:=Int.eq_ofNat_of_zero_le h2;rw [hk] at h1 h3;rw [e3,Int.mul_comm] at h3;exact h k h1 (by omega)
def gD (ws:List Int) (size iM:Int) (x:Slab) (out:List Int) : Prop:=dn ws iM x.lf [] (some out)∧(out.length:Int)=x.ao ∧ ∀ a∈out,jm size iM x.At a=true
theorem dn.mem {l:List Int} {most x:Int} {acc:List Int} {r:Option (List Int)} (h:dn l most x acc r) : (∀ a∈acc,0≤a∧a<(l.length:Int)) → ∀ out,r=some out → ∀ a∈out,0≤a∧a<(l.length:Int):=by
 induction h with
 | done out=>intro ha o e;cases e;exact ha
 | bad=>intro _ _ e;cases e
 | @step k out r h1 hk h3 h ih =>
   intro ha o e;refine ih (fun a hm => ?_) o e;rcases List.mem_append.1 hm with hm|hm
   ·exact ha a hm
   ·simp at hm;subst hm;exact ⟨by omega,by omega⟩
theorem gD.mM {ws:List Int} {size iM:Int} {x:Slab} {out BG:List Int} (h:gD ws size iM x out) (h':gD ws size iM x BG) : out=BG:=by
 have:=h.1.mM h'.1
 injection this
def r6 (l:List Block) (a:Int) : Int:=if bc l a then (l.getD (bF l a) ⟨0,0,0⟩).Order else -1
theorem r7 {l:List Block} {a:Int} (h:bc l a=true) (hk:bF l a<l.length) : r6 l a=l[bF l a].Order:=by
 unfold r6;rw [if_pos h];simp [List.getD,hk]
theorem nb {l:List Block} {a:Int} (h:bc l a=false) : r6 l a = -1:=by
 unfold r6;rw [h]
 rfl
structure jR (s:ar) (c:aZ) (i:Nat) (h:i<c.ah.length) : Prop where
 live:r6 s.Heap.Live c.ah[i].At=c.Order
 next : 0<i→(c.ah[i-1]'(by omega)).At<c.ah[i].At
 chain:∃ out,gD s.Words c.bp c.dE c.ah[i] out
def uj (t:Int) (x:Slab) : Bool:=decide (x.At=t)
def uQ (c:aZ) (i:Nat) (h:i<c.aG.length) : Prop:=c.aG[i] = -1∨(c.aG[i]∉c.aG.take i∧c.ah.any (uj c.aG[i])=true)
structure gR (s:ar) (c:aZ) : Prop where
 lay:dk c.bp=(c.Order,c.dE,0)
 names : 0<c.Names.length
 bh:(c.aG.length:Int)=s.Heap.bt
 aL:∀ (i:Nat) (h:i<c.ah.length),jR s c i h
 BH:∀ (i:Nat) (h:i<c.aG.length),uQ c i h
noncomputable def gp (s:ar) (c:aZ) : Bool := @decide (gR s c) (Classical.propDecidable _)
theorem kw {s:ar} {c:aZ} (a:gR s c) : gp s c=true:=by unfold gp;exact @decide_eq_true _ (Classical.propDecidable _) a
theorem dU {s:ar} {c:aZ} (a : ¬ gR s c) : gp s c=false:=by unfold gp;exact @decide_eq_false _ (Classical.propDecidable _) a
theorem py {s:ar} {c:aZ}:gp s c=true↔gR s c:=by
 by_cases a:gR s c
 ·simp [kw a,a]
 ·simp [dU a,a]
theorem gq {x o n:Int} (h:dk x=(o,n,0)) : (1≤x∧x≤64)∧(0≤o∧o≤2)∧(1≤n∧n≤64):=by
 unfold dk at h;split at h
 ·rename_i hx;have k1 : 64 / x≤64:=Int.ediv_le_self _ (by omega)
  have k2 : 1≤64 / x:=by rw [Int.le_ediv_iff_mul_le (by omega)];omega
  have k3 : 16 / x≤16:=Int.ediv_le_self _ (by omega)
  have k4 : 32 / x≤32:=Int.ediv_le_self _ (by omega)
  split at h
  ·simp only [Prod.mk.injEq] at h;omega
  ·split at h
   ·simp only [Prod.mk.injEq] at h;omega
   ·simp only [Prod.mk.injEq] at h;omega
 ·simp only [Prod.mk.injEq] at h;omega
def bI (cs:List aZ) : List ByteArray:=cs.flatMap fun c=>c.Names
def bX (cs:List aZ) : List Int:=cs.flatMap fun c=>c.ah.map fun x=>x.At
structure r8 (acc l:List ByteArray) : Prop where
 each:∀ (k:Nat) (h:k<l.length),fh l[k]=true∧l[k]∉acc++l.take k∧(0<k→eQ (l[k-1]'(by omega)) l[k]=true)
def zT (acc:List Int) (l:List Slab) : Prop := ∀ (k:Nat) (h:k<l.length),l[k].At∉acc++(l.take k).map fun x=>x.At
structure ox (s:ar) (i:Nat) (h:i<s.aa.length) : Prop where
 may:gR s s.aa[i]
 size:∀ (j:Nat) (hj:j<i),(s.aa[j]'(by omega)).bp≠s.aa[i].bp
 names:r8 (bI (s.aa.take i)) s.aa[i].Names
 aL:zT (bX (s.aa.take i)) s.aa[i].ah
structure dB (s:ar) : Prop where
 words:s.Words.length=4096
 heap:bq s.Heap
 most:s.aa.length≤20
 each:∀ (i:Nat) (h:i<s.aa.length),ox s i h
noncomputable def eD (s:ar) : Bool := @decide (dB s) (Classical.propDecidable _)
theorem uR {s:ar} (a:dB s) : eD s=true:=by unfold eD;exact @decide_eq_true _ (Classical.propDecidable _) a
theorem iG {s:ar} (a : ¬ dB s) : eD s=false:=by unfold eD;exact @decide_eq_false _ (Classical.propDecidable _) a
theorem ga {s:ar}:eD s=true↔dB s:=by
 by_cases a:dB s
 ·simp [uR a,a]
 ·simp [iG a,a]
theorem gW (cs:List aZ) (i:Nat) (h:i<cs.length) : bI (cs.take (i+1))=bI (cs.take i)++cs[i].Names:=by
 unfold bI;rw [List.take_succ_eq_append_getElem h,List.flatMap_append];simp
theorem gY (cs:List aZ) (i:Nat) (h:i<cs.length) : bX (cs.take (i+1))=bX (cs.take i)++cs[i].ah.map fun x=>x.At:=by
 unfold bX;rw [List.take_succ_eq_append_getElem h,List.flatMap_append];simp
open Go.RowKit
theorem ym {z:Int} (h1 : -18446744073709551616<z) (h2:z < -9223372036854775808) : IntKind.i64.wrap z=z+18446744073709551616:=by
 simp [IntKind.wrap,IntKind.bits,IntKind.signed];omega
theorem pz (r:cr) (t a:Int) (w:World) (hs : 1≤r.bp∧r.bp≤64) (hp : 1≤r.dE∧r.dE≤64) (ht : 0≤t∧t≤255) (ha : -9223372036854775808≤a∧a≤9223372036854775807) :
 a9 Tryz.prog 93 [.agg (bR r).toArray,.int .i64 t,.int .i64 a] w fun v _=>v = .bool (jm r.bp r.dE t a):=by
 refine aC Tryz.func93 rfl Tryz.ntmps93 rfl ?_;refine CW.seq (CW.region (SW.box rfl rfl fun b1 w1 hw gI au => ?_));have hm:=yj (x:=r.dE) (y:=r.bp) (by omega) (by omega) (by omega) (by omega);unfold jm;by_cases gh:a-t*16 < -9223372036854775808
 ·have e:=ym (z:=a-t*16) (by omega) gh;rw [decide_eq_false (show ¬ 0≤a-t*16 by omega)];repeat' (first|refine Wz ?_|(refine SW.st ((od rfl rfl).eq (congrArg (Value.int .i64) e)) rfl ?_))
  all_goals try omega
  exact ae.aF rfl rfl ⟨_,rfl,hw,rfl⟩
 ·by_cases h0 : 0≤a-t*16
  ·have e:(a-t*16).tmod r.bp=(a-t*16) % r.bp:=Int.tmod_eq_emod_of_nonneg h0
   rw [decide_eq_true h0];by_cases h1:a-t*16<r.dE*r.bp
   ·rw [decide_eq_true h1];refine Wz ?_;all_goals try omega
    refine ae.aF rfl rfl ⟨_,rfl,hw,?_⟩;rw [e];rfl
   ·rw [decide_eq_false h1];refine Wz ?_;all_goals try omega
    exact ae.aF rfl rfl ⟨_,rfl,hw,rfl⟩
  ·rw [decide_eq_false h0];refine Wz ?_;all_goals try omega
   exact ae.aF rfl rfl ⟨_,rfl,hw,rfl⟩
theorem mC (r:cr) (t a:Int) (w:World) (hs : 1≤r.bp∧r.bp≤64) (hp : 1≤r.dE∧r.dE≤64) (ht : 0≤t∧t≤255) :
 a9 Tryz.prog 201 [.agg (bR r).toArray,.int .i64 t,.int .i64 a] w fun v _=>v = .bool (jm r.bp r.dE t a):=by
 refine aC Tryz.func201 rfl Tryz.ntmps201 rfl ?_;refine CW.seq (CW.region (SW.box rfl rfl fun b1 w1 hw gI au => ?_));refine Wz ?_
 refine CW.loop (fun k:Nat=>[(1,.int .i64 t),(2,.int .i64 a),(3,.pointer (some ⟨b1,0,none⟩)),(7,.int .i64 (k:Int))]) (fun k w'=>(k:Int)≤r.dE∧Ext w w'∧aU w' b1 89 (bR r) ∧ ∀ i:Nat,i<k→a≠16*t+i*r.bp) (fun k=>r.dE.toNat-k) 0
  ⟨rfl,rfl,rfl,rfl,trivial⟩ ⟨by omega,hw,au,fun i h=>by omega⟩ ?_
 clear hw au;rintro k w' ⟨hk,hw,au,hI⟩
 by_cases cc:(k:Int)<r.dE
 ·have hm:=yj (x:=(k:Int)) (y:=r.bp) (by omega) (by omega) (by omega) (by omega);by_cases hx:a=16*t+k*r.bp
  ·rw [yl hs.1 cc hx];refine Wz ?_;all_goals try omega
   exact ae.aF rfl rfl ⟨_,rfl,hw,rfl⟩
  ·refine Wz ?_;all_goals try omega
   exact ae.again (k+1) ⟨rfl,rfl,rfl,rfl,trivial⟩ (by omega) ⟨by omega,hw,au,fun i h=>by
    by_cases e:i=k
    ·subst e;exact hx
    ·exact hI i (by omega)⟩
 ·rw [wC hs.1 (fun i h=>hI i (by omega))];refine Wz ?_;exact ae.aF rfl rfl ⟨_,rfl,hw,rfl⟩
theorem uS (a:Int) (b4 b5:Nat) (q:cr) (x:Slab) (w:World) (h4:aU w b4 89 (bR q)) (h5:aU w b5 91 (bB x))
 (hs : 1≤q.bp∧q.bp≤64) (hp : 1≤q.dE∧q.dE≤64) (ht : 0≤x.At∧x.At≤255) (ha : 0≤a∧a<9223372036854775807) :
 a9 Tryz.prog 185 ([.int .i64 a]++[.pointer (some ⟨b4,0,none⟩),.pointer (some ⟨b5,0,none⟩)]) w fun v _=>v = .bool (!jm q.bp q.dE x.At a):=by
 refine aC Tryz.func185 rfl Tryz.ntmps185 rfl ?_;have hw:=Ext.refl w;repeat' (first|refine Wz ?_|(refine SW.call rfl rfl (pz q x.At a _ hs hp ht (by omega)) ?_;intro v w1 ab hv;subst hv;replace hw:=Ext.trans hw ab;clear ab))
 exact ae.aF rfl rfl ⟨_,rfl,hw,rfl⟩
def gU (lo:Nat) (ws:List Int) (size iM:Int) (x:Slab) (v:Value) (w:World) : Prop :=
 (∃ out A k,gD ws size iM x out∧v = .tuple #[.slice A out.length k,.bool true]∧Own w lo 3 1 bm A out.length k out∧out.length≤17592186044416) ∨
 ((∀ out,¬ gD ws size iM x out)∧v = .tuple #[.slice none 0 0,.bool false])
theorem q8 (r:dF) (q:cr) (x:Slab) (ws:List Int) (w:World) (hl:Sl w 1 bm r.Words.A r.Words.n ws) (hn:r.Words.n*8≤140737488355328)
 (hs : 1≤q.bp∧q.bp≤64) (hp : 1≤q.dE∧q.dE≤64) (ht : 0≤x.At∧x.At≤255) :
 a9 Tryz.prog 94 [.agg (aH r).toArray,.agg (bR q).toArray,.agg (bB x).toArray] w fun v w'=>gU w.heap.size ws q.bp q.dE x v w':=by
 refine aC Tryz.func94 rfl Tryz.ntmps94 rfl ?_;refine CW.seq (CW.region (SW.box rfl rfl fun b3 w1 hw bM ap => ?_));refine SW.box rfl rfl fun b4 w2 cg iL bA => ?_
 (replace hw:=Ext.trans hw cg;replace ap:=ap.ext cg);refine SW.box rfl rfl fun b5 w3 jI gm bY => ?_
 (replace hw:=Ext.trans hw jI;replace ap:=ap.ext jI;replace bA:=bA.ext jI);refine Wz ?_;have gh:=hw.size;refine SW.call rfl rfl (uE _ _ _ _ _ _ _ (hl.ext hw) hn) fun v w4 gf hv => ?_
 obtain ⟨E0,hF,hV⟩:=hv;(replace hw:=Ext.trans hw gf;replace ap:=ap.ext gf;replace bA:=bA.ext gf;replace bY:=bY.ext gf);have C5:=hl.len;rcases E0 with _|out
 ·subst hV;refine Wz ?_;refine ae.eY rfl rfl rfl ⟨_,rfl,hw,.inr ⟨fun o h => ?_,rfl⟩⟩;have:=hF.mM h.1
  cases this
 ·obtain ⟨A,k,rfl,hO,hlen⟩:=hV;replace hO:=hO.low gh;by_cases iQ:(out.length:Int)=x.ao
  ·have cC:∀ w',Ext w4 w'→a9 Tryz.prog 96 [.slice A out.length k,.func (.func 185) #[] [.pointer (some ⟨b4,0,none⟩),.pointer (some ⟨b5,0,none⟩)].toArray] w' fun v _=>v = .bool (out.any fun a => !jm q.bp q.dE x.At a):=fun w' hx =>
    dO _ _ _ _ _ (hO.sl.ext hx) _ [.pointer (some ⟨b4,0,none⟩),.pointer (some ⟨b5,0,none⟩)] (fun a => !jm q.bp q.dE x.At a) (fun x => .int .i64 x) (fun x=>rfl)
     (fun a ha w1 jG=>by
       have hm:=hF.mem (by simp) out rfl a ha;exact uS a b4 b5 q x w1 ((bA.ext hx).ext jG) ((bY.ext hx).ext jG) hs hp ht ⟨hm.1,by omega⟩) (by omega)
   have Hy:=Ext.refl w4;repeat' (first|refine Wz ?_|(refine SW.st (fT (vs:=[.pointer (some ⟨b4,0,none⟩),.pointer (some ⟨b5,0,none⟩)]) rfl) rfl ?_))
   refine SW.call rfl rfl (cC _ Hy) fun v w5 fI hv => ?_
   (replace hw:=Ext.trans hw fI;replace hO:=hO.ext fI);subst hv;cases jk:out.any fun a => !jm q.bp q.dE x.At a
   ·refine Wz ?_;refine ae.eY rfl rfl rfl ⟨_,rfl,hw,.inl ⟨out,A,k,⟨hF,iQ,fun a ha => ?_⟩,rfl,hO,hlen⟩⟩;rw [List.any_eq_false] at jk;simpa using jk a ha
   ·refine Wz ?_;refine ae.eY rfl rfl rfl ⟨_,rfl,hw,.inr ⟨fun o h => ?_,rfl⟩⟩;obtain ⟨a,ha,Gb⟩:=List.any_eq_true.1 jk;have e:=hF.mM h.1;injection e with e
    subst e;rw [h.2.2 a ha] at Gb;cases Gb
  ·refine Wz ?_;all_goals try omega
   refine ae.eY rfl rfl rfl ⟨_,rfl,hw,.inr ⟨fun o h => ?_,rfl⟩⟩;have e:=hF.mM h.1;injection e with e
   subst e;exact iQ h.2.1
theorem pA (r:dF) (q:cr) (x:Slab) (ws:List Int) (w:World) (hl:Sl w 1 bm r.Words.A r.Words.n ws) (hn:r.Words.n*8≤140737488355328)
 (hs : 1≤q.bp∧q.bp≤64) (hp : 1≤q.dE∧q.dE≤64) (ht : 0≤x.At∧x.At≤255) :
 a9 Tryz.prog 199 [.agg (aH r).toArray,.agg (bR q).toArray,.agg (bB x).toArray] w fun v w'=>gU w.heap.size ws q.bp q.dE x v w':=by
 refine aC Tryz.func199 rfl Tryz.ntmps199 rfl ?_;refine CW.seq (CW.region (SW.box rfl rfl fun b3 w1 hw bM ap => ?_));refine SW.box rfl rfl fun b4 w2 cg iL bA => ?_
 (replace hw:=Ext.trans hw cg;replace ap:=ap.ext cg);refine SW.box rfl rfl fun b5 w3 jI gm bY => ?_
 (replace hw:=Ext.trans hw jI;replace ap:=ap.ext jI;replace bA:=bA.ext jI);refine Wz ?_;have gh:=hw.size;refine SW.call rfl rfl (rN _ _ _ _ _ _ _ (hl.ext hw) hn) fun v w4 gf hv => ?_
 obtain ⟨E0,hF,hV⟩:=hv;(replace hw:=Ext.trans hw gf;replace ap:=ap.ext gf;replace bA:=bA.ext gf;replace bY:=bY.ext gf);have C5:=hl.len;rcases E0 with _|out
 ·subst hV;refine Wz ?_;refine ae.eY rfl rfl rfl ⟨_,rfl,hw,.inr ⟨fun o h => ?_,rfl⟩⟩;have:=hF.mM h.1
  cases this
 ·obtain ⟨A,k,rfl,hO,hlen⟩:=hV;replace hO:=hO.low gh;by_cases iQ:(out.length:Int)=x.ao
  ·refine Wz ?_;all_goals try omega
   refine CW.loop (fun j:Nat=>[(4,.pointer (some ⟨b4,0,none⟩)),(5,.pointer (some ⟨b5,0,none⟩)),(8,.slice A out.length k),(10,.int .i64 (j:Int))]) (fun j w'=>j≤out.length∧Ext w w'∧Own w' w.heap.size 3 1 bm A out.length k out∧aU w' b4 89 (bR q)∧aU w' b5 91 (bB x) ∧ ∀ (i:Nat) (h:i<out.length),i<j→jm q.bp q.dE x.At out[i]=true) (fun j=>out.length-j) 0
    ⟨rfl,rfl,rfl,rfl,trivial⟩ ⟨by omega,hw,hO,bA,bY,fun i h h'=>by omega⟩ ?_
   clear hw hO bA bY ap;rintro j w' ⟨hj,hw,hO,bA,bY,hI⟩
   have Gc:=hO.sl.base;by_cases fF:j<out.length
   ·have cO:∀ w',a9 Tryz.prog 201 [.agg (bR q).toArray,.int .i64 x.At,.int .i64 out[j]] w' fun v _=>v = .bool (jm q.bp q.dE x.At out[j]):=fun w'=>mC q x.At out[j] w' hs hp ht
    cases ho:jm q.bp q.dE x.At out[j]
    ·rw [ho] at cO;repeat' (first|refine Wz ?_|(first|refine CW.cU rfl ?_|(apply CW.aM mixed;(· kernel_rfl);rotate_left;intro w1 ab;replace hw:=Ext.trans hw ab;replace hO:=hO.ext ab;replace bA:=bA.ext ab;replace bY:=bY.ext ab;clear ab;rotate_right))|refine SW.st (az rfl (hO.sl.one fF rfl)) rfl ?_|refine SW.bf rfl rfl (fun w1 ab=>(cO _)) ?_|exact SW.br rfl)
     refine ae.eY rfl rfl rfl ⟨_,rfl,hw,.inr ⟨fun o h => ?_,rfl⟩⟩;have e:=hF.mM h.1;injection e with e
     subst e;rw [h.2.2 _ (List.getElem_mem fF)] at ho;cases ho
    ·rw [ho] at cO;repeat' (first|refine Wz ?_|(first|refine CW.cj rfl ?_|(apply CW.aM mixed;(· kernel_rfl);rotate_left;intro w1 ab;replace hw:=Ext.trans hw ab;replace hO:=hO.ext ab;replace bA:=bA.ext ab;replace bY:=bY.ext ab;clear ab;rotate_right))|refine SW.st (az rfl (hO.sl.one fF rfl)) rfl ?_|refine SW.bf rfl rfl (fun w1 ab=>(cO _)) ?_|exact SW.br rfl)
     exact ae.again (j+1) ⟨rfl,rfl,rfl,rfl,trivial⟩ (by omega) ⟨by omega,hw,hO,bA,bY,fun i h h'=>by
      by_cases e:i=j
      ·subst e;exact ho
      ·exact hI i h (by omega)⟩
   ·refine Wz ?_;refine ae.eY rfl rfl rfl ⟨_,rfl,hw,.inl ⟨out,A,k,⟨hF,iQ,fun a ha => ?_⟩,rfl,hO,hlen⟩⟩;obtain ⟨i,hi,rfl⟩:=List.getElem_of_mem ha;exact hI i hi (by omega)
  ·refine Wz ?_;all_goals try omega
   refine ae.eY rfl rfl rfl ⟨_,rfl,hw,.inr ⟨fun o h => ?_,rfl⟩⟩;have e:=hF.mM h.1;injection e with e
   subst e;exact iQ h.2.1
open Go.RowKit
def r9 (y:bP) (x:aJ) : Prop:=y.dq=x.dq∧y.ay=x.ay∧y.Ty=x.Ty
theorem Am.key {w:World} {r:bP} {l:aJ} (h:Am w r l) : r9 r l:=⟨h.cpu,h.fL,h.ty⟩
theorem q9 (r:eu) (L:List aJ) (ls:List bP) (x:aJ) (y:bP) (w:World) (hl:oU w r.ak ls L) (hk:r9 y x) (hn:r.ak.n≤1000000000000000000) :
 a9 Tryz.prog 113 [.agg (bl r).toArray,.agg (bg y).toArray] w fun v _=>v = .tuple #[.int .i64 (aQ L x:Int),.bool (ck L x)]:=by
 refine aC Tryz.func113 rfl Tryz.ntmps113 rfl ?_;refine CW.seq (CW.region (SW.box rfl rfl fun b2 w1 hw ff ax => ?_));refine SW.box rfl rfl fun b3 w2 cg bM ap => ?_
 (replace hw:=Ext.trans hw cg;replace ax:=ax.ext cg);obtain ⟨l1,l2⟩:=hl.len;have hA:=hl.row.base;refine Wz ?_
 refine CW.loop (fun i:Nat=>[(2,.pointer (some ⟨b2,0,none⟩)),(3,.pointer (some ⟨b3,0,none⟩)),(6,.int .i64 (i:Int))])
  (fun i w'=>i≤r.ak.n∧Ext w w'∧aU w' b2 41 (bl r)∧aU w' b3 142 (bg y) ∧ ∀ (k:Nat) (h:k<L.length),k<i→bk L[k] x) (fun i=>r.ak.n-i) 0
  ⟨rfl,rfl,rfl,trivial⟩ ⟨by omega,hw,ax,ap,fun k h h'=>by omega⟩ ?_
 clear hw ax ap;rintro i w' ⟨hi,hw,ax,ap,hI⟩
 by_cases cy:i<r.ak.n
 ·have jS:i<L.length:=by omega
  have th:i<ls.length:=by omega
  have wD:=hl.each.get i th jS;obtain ⟨q,hq⟩ : ∃ q,decide (bk L[i] x)=q:=⟨_,rfl⟩;obtain ⟨p,hp⟩ : ∃ p,decide (bk x L[i])=p:=⟨_,rfl⟩
  have cL:∀ w',a9 Tryz.prog 194 [.agg (bg ls[i]).toArray,.agg (bg y).toArray] w' fun v _=>v = .bool q:=fun w'=>by
   have:=na ls[i] y L[i] x w' wD.key hk
   rwa [hq] at this
  have cR:∀ w',a9 Tryz.prog 194 [.agg (bg y).toArray,.agg (bg ls[i]).toArray] w' fun v _=>v = .bool p:=fun w'=>by
   have:=na y ls[i] x L[i] w' hk wD.key
   rwa [hp] at this
  cases q
  ·have lc:=of_decide_eq_false hq;have ek:aQ L x=i:=kT (by omega) hI (fun _=>lc)
   have eh:ck L x = !p:=by
    unfold ck;simp only [ek,dif_pos jS,← hp];rcases qS L[i] x with e|e|e
    ·exact absurd e lc
    ·have : ¬ bk x L[i]:=by unfold bk du at *;omega
     simp [e,this]
    ·have:=(jx e).2.1
     simp [e,this]
   rw [ek,eh];cases p
   all_goals
    repeat' (first|refine Wz ?_|((apply CW.aM mixed;(· kernel_rfl);rotate_left;intro w1 ab;replace hw:=Ext.trans hw ab;replace ax:=ax.ext ab;replace ap:=ap.ext ab;clear ab;rotate_right))|refine SW.st (aA hw rfl rfl ((hl.row.all cy))) rfl ?_|refine SW.bf rfl rfl (fun w1 ab=>(cL _)) ?_|refine SW.bf rfl rfl (fun w1 ab=>(cR _)) ?_|exact SW.br rfl)
    exact ae.eY rfl rfl rfl ⟨_,rfl,hw,rfl⟩
  ·have E1:=of_decide_eq_true hq;repeat' (first|refine Wz ?_|((apply CW.aM mixed;(· kernel_rfl);rotate_left;intro w1 ab;replace hw:=Ext.trans hw ab;replace ax:=ax.ext ab;replace ap:=ap.ext ab;clear ab;rotate_right))|refine SW.st (aA hw rfl rfl ((hl.row.all cy))) rfl ?_|refine SW.bf rfl rfl (fun w1 ab=>(cL _)) ?_|exact SW.br rfl)
   exact ae.again (i+1) ⟨rfl,rfl,rfl,trivial⟩ (by omega) ⟨by omega,hw,ax,ap,fun k h h'=>by
    by_cases e:k=i
    ·subst e;exact E1
    ·exact hI k h (by omega)⟩
 ·have ek:aQ L x=i:=kT (by omega) hI (fun h=>by omega)
  have eh:ck L x=false:=by unfold ck;rw [dif_neg (by omega)]
  rw [ek,eh];repeat' (first|refine Wz ?_|((apply CW.aM mixed;(· kernel_rfl);rotate_left;intro w1 ab;replace hw:=Ext.trans hw ab;replace ax:=ax.ext ab;replace ap:=ap.ext ab;clear ab;rotate_right))|exact SW.br rfl)
  exact ae.eY rfl rfl rfl ⟨_,rfl,hw,rfl⟩
theorem kx (A:Option Addr) (n c:Nat) (l:List Block) (a:Int) (w:World) (hl:Sl w 3 aE A n l) (f:FuncId) [Body Tryz.prog f] (cv:Block→Int) (hf:∀ x∈l,∀ w',Ext w w'→a9 Tryz.prog f ([.agg (aE x).toArray,.int .i64 a]++[]) w' fun v _=>v = .int .i64 (cv x))
 (cQ:∀ x∈l,cv x≠0) (hn:n≤1000000000000000000) : a9 Tryz.prog 105 [.slice A n c,.int .i64 a,.func (.func f) #[] #[]] w fun v _ => ∃ i:Nat,v = .tuple #[.int .i64 (i:Int),.bool false]:=by
 refine aC Tryz.func105 rfl Tryz.ntmps105 rfl ?_;have hw:=Ext.refl w;have hA:=hl.base;have lz:=hl.len;refine Wz ?_
 refine CW.loop (fun s:Nat×Nat=>[(0,.slice A n c),(1,.int .i64 a),(2,.func (.func f) #[] #[]),(8,.int .i64 (n:Int)),(9,.int .i64 (s.1:Int)),(10,.int .i64 (s.2:Int))])
  (fun s w'=>s.1≤s.2∧s.2≤n∧Ext w w') (fun s=>s.2-s.1) (0,n)
  ⟨rfl,rfl,rfl,rfl,rfl,rfl,trivial⟩ ⟨by omega,by omega,hw⟩ ?_
 clear hw;rintro ⟨i,j⟩ w' ⟨jN,fF,hw⟩
 simp only at jN fF ⊢;by_cases dH:i<j
 ·have hk:(i+j) / 2<n:=by omega
  have cG:=hl.lt hk;have mj:=fun w1 h1=>hf (l[(i+j) / 2]) (List.getElem_mem cG) w1 h1
  repeat' (first|refine Wz ?_|refine SW.st (aA hw rfl rfl ((hl.all hk))) rfl ?_|(refine SW.st ((my Tryz.underlying3 mx rfl).eq (congrArg (Value.int .u64) (wrap_u64 (by omega) (by omega)))) rfl ?_)|(refine SW.st ((my mx Tryz.underlying3 rfl).eq (congrArg (Value.int .i64) (gw (by omega) (by omega)))) rfl ?_)|(refine SW.st (vF rfl rfl) rfl ?_))
  refine SW.l9 (cap:=[]) rfl rfl rfl (mj _ hw) fun v w1 ab hv => ?_
  subst hv;replace hw:=Ext.trans hw ab;by_cases CY:cv l[(i+j) / 2]<0
  ·refine Wz ?_;exact ae.again ((i+j) / 2+1,j) ⟨rfl,rfl,rfl,rfl,congrArg (fun z=>some (Value.int .i64 z)) (by omega),rfl,trivial⟩ (by simp only;omega) ⟨by simp only;omega,fF,hw⟩
  ·refine Wz ?_;exact ae.again (i,(i+j) / 2) ⟨rfl,rfl,rfl,rfl,rfl,congrArg (fun z=>some (Value.int .i64 z)) (by omega),trivial⟩ (by simp only;omega) ⟨by simp only;omega,by simp only;omega,hw⟩
 ·obtain rfl:i=j:=by omega
  by_cases cy:i<n
  ·have cG:=hl.lt cy;have mj:=fun w1 h1=>hf (l[i]) (List.getElem_mem cG) w1 h1
   have h0:=cQ (l[i]) (List.getElem_mem cG);repeat' (first|refine Wz ?_|refine SW.st (aA hw rfl rfl ((hl.all cy))) rfl ?_)
   refine SW.l9 (cap:=[]) rfl rfl rfl (mj _ hw) fun v w1 ab hv => ?_
   subst hv;replace hw:=Ext.trans hw ab;refine Wz ?_;refine ae.eY rfl rfl rfl ⟨_,rfl,hw,i,?_⟩;rw [decide_eq_false h0]
  ·refine Wz ?_;exact ae.eY rfl rfl rfl ⟨_,rfl,hw,i,rfl⟩
theorem nC (x:Block) (a:Int) (w:World) : a9 Tryz.prog 191 ([.agg (aE x).toArray,.int .i64 a]++[]) w fun v _=>v = .int .i64 (IntKind.i64.wrap (x.At-a)):=by
 refine aC Tryz.func191 rfl Tryz.ntmps191 rfl ?_;refine CW.seq (CW.region (SW.box rfl rfl fun b1 w1 hw gI au => ?_));repeat' (first|refine Wz ?_|(refine SW.st (od rfl rfl) rfl ?_))
 exact ae.aF rfl rfl ⟨_,rfl,hw,rfl⟩
theorem wrap_zero {z:Int} (h1 : -18446744073709551616<z) (h2:z<18446744073709551616) (h:IntKind.i64.wrap z=0) : z=0:=by
 simp [IntKind.wrap,IntKind.bits,IntKind.signed] at h;omega
def vH (l:List Block) (a:Int) (v:Value) : Prop:=(bc l a=true→v = .tuple #[.int .i64 (bF l a:Int),.bool true])∧(bc l a=false → ∃ i:Nat,v = .tuple #[.int .i64 (i:Int),.bool false])
theorem wF (r:eu) (l:List Block) (a:Int) (w:World) (hl:Sl w 3 aE r.Live.A r.Live.n l) (hu:l.Pairwise fun x y=>x.At<y.At) (hb:∀ b∈l,0≤b.At∧b.At≤255) (hn:r.Live.n≤1000000000000000000) (ha : -9223372036854775808≤a∧a≤9223372036854775807) :
 a9 Tryz.prog 107 [.agg (bl r).toArray,.int .i64 a] w fun v _=>vH l a v:=by
 refine aC Tryz.func107 rfl Tryz.ntmps107 rfl ?_;refine CW.seq (CW.region (SW.box rfl rfl fun b1 w1 hw gI au => ?_));refine Wz ?_;by_cases cy : -1000000≤a∧a≤1000000
 ·refine SW.call rfl rfl (fA _ _ _ _ a _ (hl.ext hw) _ (fun x hx w' _=>by
   have:=nC x a w'
   have h:=hb x hx;rwa [gw (by omega) (by omega)] at this) hu hn) fun v w2 cg hv => ?_
  subst hv;replace hw:=Ext.trans hw cg;refine Wz ?_;refine ae.eY rfl rfl rfl ⟨_,rfl,hw,?_⟩;exact ⟨fun h=>by rw [h];rfl,fun h=>⟨bF l a,by rw [h];rfl⟩⟩
 ·have hf:bc l a=false:=by
   unfold bc;split
   ·rename_i h;have:=hb _ (List.getElem_mem h)
    exact decide_eq_false (by omega)
   ·rfl
  refine SW.call rfl rfl (kx _ _ _ _ a _ (hl.ext hw) _ (fun x=>IntKind.i64.wrap (x.At-a)) (fun x hx w' _=>nC x a w') (fun x hx h0=>by
   have h:=hb x hx;have:=wrap_zero (by omega) (by omega) h0
   omega) hn) fun v w2 cg hv => ?_
  obtain ⟨i,rfl⟩:=hv;replace hw:=Ext.trans hw cg;refine Wz ?_;refine ae.eY rfl rfl rfl ⟨_,rfl,hw,?_⟩;exact ⟨fun h=>absurd (hf.symm.trans h) (by simp),fun _=>⟨i,rfl⟩⟩
theorem uT (r:eu) (L:List aJ) (ls:List bP) (x:aJ) (w:World) (hl:oU w r.ak ls L) (hs:zp L) (hn:r.ak.n≤1000000000000000000) (hp:∀ l∈L,l.aw.length*8≤140737488355328) :
 a9 Tryz.prog 127 [.agg (bl r).toArray,.int .i64 x.dq,.int .i64 x.ay,.int .i64 x.Ty] w fun v w' => ∃ A c,v = .slice A (cm L x).length c∧Own w' w.heap.size 3 1 bm A (cm L x).length c (cm L x):=by
 refine aC Tryz.func127 rfl Tryz.ntmps127 rfl ?_;refine CW.seq (CW.region (SW.box rfl rfl fun b4 w1 hw iL bA => ?_));obtain ⟨l1,l2⟩:=hl.len;have hA:=hl.row.base;refine Wz ?_
 refine CW.loop (fun i:Nat=>[(1,.int .i64 x.dq),(2,.int .i64 x.ay),(3,.int .i64 x.Ty),(4,.pointer (some ⟨b4,0,none⟩)),(9,.int .i64 (i:Int))])
  (fun i w'=>i≤r.ak.n∧Ext w w'∧aU w' b4 41 (bl r) ∧ ∀ (k:Nat) (h:k<L.length),k<i → ¬ du L[k] x) (fun i=>r.ak.n-i) 0
  ⟨rfl,rfl,rfl,rfl,rfl,trivial⟩ ⟨by omega,hw,bA,fun k h h'=>by omega⟩ ?_
 clear hw bA;rintro i w' ⟨hi,hw,bA,hI⟩
 by_cases cy:i<r.ak.n
 ·have jS:i<L.length:=by omega
  have th:i<ls.length:=by omega
  have wD:=hl.each.get i th jS;have e1:=wD.cpu;have e2:=wD.fL;have e3:=wD.ty;have Cp:=wD.cw.len;have F3:=hp _ (List.getElem_mem jS);have g0:=hl.row.fE cy (j:=0) (u := .int .i64 ls[i].dq) rfl;have g1:=hl.row.fE cy (j:=1) (u := .int .i64 ls[i].ay) rfl;have g2:=hl.row.fE cy (j:=2) (u := .int .i64 ls[i].Ty) rfl;have g3:=hl.row.fE cy (j:=3) (u := .slice ls[i].aw.A ls[i].aw.n ls[i].aw.c) rfl;by_cases hk:du L[i] x
  ·obtain ⟨k1,k2,k3⟩:=id hk;obtain ⟨ek,eh⟩:=Bn hs jS hk
   have ep:cm L x=L[i].aw:=by
    rw [iw eh (by omega)];simp only [ek]
   rw [ep];repeat' (first|refine Wz ?_|refine SW.st (ag hw rfl g0) rfl ?_|refine SW.st (ag hw rfl g1) rfl ?_|refine SW.st (ag hw rfl g2) rfl ?_|refine SW.st (ag hw rfl g3) rfl ?_)
   all_goals try omega
   refine SW.call rfl rfl (eH _ _ _ _ _ (wD.cw.ext hw) (by omega)) fun v w4 ai hv => ?_
   obtain ⟨X,c4,rfl,hX⟩:=hv;replace hX:=hX.low hw.size;replace hw:=Ext.trans hw ai;refine Wz ?_;refine ae.aF rfl rfl ⟨_,rfl,hw,X,c4,by rw [Cp],by rw [Cp];exact hX⟩
  ·have sR : ¬ (ls[i].dq=x.dq∧ls[i].ay=x.ay∧ls[i].Ty=x.Ty):=by unfold du at hk;omega
   repeat' (first|refine Wz ?_|refine SW.dv rfl rfl rfl (fun h => ?_) (fun h => ?_)|refine SW.st (ag hw rfl g0) rfl ?_|refine SW.st (ag hw rfl g1) rfl ?_|refine SW.st (ag hw rfl g2) rfl ?_)
   all_goals try omega
   all_goals
    exact ae.again (i+1) ⟨rfl,rfl,rfl,rfl,rfl,trivial⟩ (by omega) ⟨by omega,hw,bA,fun k h h'=>by
     by_cases e:k=i
     ·subst e;exact hk
     ·exact hI k h (by omega)⟩
 ·have ep:cm L x=[]:=iy (x9 fun k hk=>hI k hk (by omega))
  rw [ep];refine Wz ?_;exact ae.aF rfl rfl ⟨_,rfl,hw,none,0,rfl,Own.er _ _ _ _ _ _⟩
end Go.Proofs.YtbidkghlpijecaaGreatDoor
