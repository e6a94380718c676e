/-
  Texts of the claim SlabAllocs, part 11: what its theorem leans on.
-/
import Derived.Test.YtjimadiidbkohaaGreatDoorPackSlabAllocs10
import Derived.Test.YtjimadiidbkohaaGreatDoorPackSlabAllocs2
import Derived.Test.YtjimadiidbkohaaGreatDoorPackSlabAllocs9
import Derived.Test.YtjimadiidbkohaaGreatDoorPackSlabAllocs5
import Derived.Test.YtjimadiidbkohaaGreatDoorPackSlabAllocs8
import Derived.Test.YtjimadiidbkohaaGreatDoorPackSlabAllocs4
set_option linter.unusedVariables false
set_option linter.unusedSimpArgs false
namespace Go.Proofs.YtjimadiidbkohaaGreatDoor
open Go.RowKit
def qC (z:aq) : Prop:=(-9223372036854775808≤z.aW∧z.aW≤9223372036854775807)∧(-9223372036854775808≤z.To∧z.To≤9223372036854775807)
def oo (h:Heap) : Prop:=h.aQ.length=2∧h.bH.length=2∧1≤h.bW∧h.bW≤4
instance (h:Heap) : Decidable (oo h):=inferInstanceAs (Decidable (_∧_))
theorem bD.Ig {h:Heap} (a:bD h) : oo h:=by
 obtain ⟨z0,z1,e,_⟩:=a.cK;obtain ⟨m0,m1,e',_⟩:=a.cj;exact ⟨by rw [e];rfl,by rw [e'];rfl,a.dU⟩
structure rB (h:Heap) (z0 z1:aq) : Prop where
 one:bR z0
 two:bR z1
 from_:z0.aW=0
 zM:z0.To=z1.aW
 jZ:z1.To=256
 cj:h.bH.any tY=false
theorem bD.front {h:Heap} {z0 z1:aq} (a:bD h) (e:h.aQ=[z0,z1]) : rB h z0 z1:=by
 obtain ⟨y0,y1,e',a1,a2,a3,a4,a5,_⟩:=a.cK;rw [e] at e';simp only [List.cons.injEq,and_true] at e';obtain ⟨rfl,rfl⟩:=e';obtain ⟨m0,m1,e',b1,b2⟩:=a.cj;exact ⟨a1,a2,a3,a4,a5,by rw [e'];simp [tY];omega⟩
def j6 (h:Heap) (z0 z1:aq) : Option (List Block):=bi (some []) (z0.ag++z1.ag)
theorem bD.rest {h:Heap} {z0 z1:aq} (a:bD h) (e:h.aQ=[z0,z1]) : kB h.bW z0.To h.av∧mL h.Live∧(bi (bi (j6 h z0 z1) (aS h.av)) h.Live).isSome=true:=by
 obtain ⟨y0,y1,e',a1,a2,a3,a4,a5,a6,a7⟩:=a.cK;rw [e] at e';simp only [List.cons.injEq,and_true] at e';obtain ⟨rfl,rfl⟩:=e';refine ⟨a6,a.live,?_⟩;rw [br,br] at a7;exact a7
theorem bD.of {h:Heap} {z0 z1:aq} (e:h.aQ=[z0,z1]) (hd:oo h) (hf:rB h z0 z1) (h1:kB h.bW z0.To h.av) (h2:mL h.Live) (h3:(bi (bi (j6 h z0 z1) (aS h.av)) h.Live).isSome=true) : bD h:=by
 refine ⟨⟨z0,z1,e,hf.one,hf.two,hf.from_,hf.zM,hf.jZ,h1,?_⟩,?_,hd.2.2,h2⟩
 ·rw [br,br];exact h3
 ·obtain ⟨m0,m1,em⟩:=pX hd.2.1;have:=hf.cj
  rw [em] at this;simp [tY] at this;exact ⟨m0,m1,em,by omega,by omega⟩
set_option maxHeartbeats 8000000 in
theorem sH (r:ez) (h:Heap) (w:World) (hr:v9 w r h) (hs:h.small) (CH:∀ z∈h.aQ,qC z) :
 bt Tryz.prog 34 [.agg (bm r).toArray] w fun v _=>v = .int .i64 (if iK h then 0 else 8):=by
 refine aL Tryz.func34 rfl Tryz.ntmps34 rfl ?_;refine CW.seq (CW.region (SW.box rfl rfl fun b1 w1 hw gK aA => ?_));have Cf:=hr.dU;have Jh:=hr.cj.len;obtain ⟨Kg,tW⟩:=hr.cK;obtain ⟨Gk,Ap⟩:=tW.len;clear tW Gk Kg;by_cases hd:oo h
 ·obtain ⟨d1,d2,d3⟩:=id hd;obtain ⟨r0,r1,z0,z1,jf⟩:=hr.two d1;have lV:=jf.eq;have hA:=jf.row.base;have E1:=CH z0 (by rw [lV];simp);have pd:=CH z1 (by rw [lV];simp);have s0:=hs.free z0 (by rw [lV];simp);have s1:=hs.free z1 (by rw [lV];simp);have M1:=jf.z0.from_;have M2:=jf.z0.jZ;have M3:=jf.z1.from_;have M4:=jf.z1.jZ;have l0:=jf.z0.free.len;have l1:=jf.z1.free.len;have t0:=jf.z0.types.len;have t1:=jf.z1.types.len;unfold qC at E1 pd;obtain ⟨q0,Gl⟩ : ∃ q,dZ z0=q:=⟨_,rfl⟩;obtain ⟨q1,qD⟩ : ∃ q,dZ z1=q:=⟨_,rfl⟩
  have c0:∀ w',Ext w w'→bt Tryz.prog 59 [.agg (bo r0).toArray] w' fun v _=>v = .int .i64 (if q0 then 0 else 8):=fun w' hx=>by
   have:=j1 r0 z0 w' (jf.z0.ext hx) (by omega) (by omega) (by omega) (by omega)
   rwa [Gl] at this
  have c1:∀ w',Ext w w'→bt Tryz.prog 59 [.agg (bo r1).toArray] w' fun v _=>v = .int .i64 (if q1 then 0 else 8):=fun w' hx=>by
   have:=j1 r1 z1 w' (jf.z1.ext hx) (by omega) (by omega) (by omega) (by omega)
   rwa [qD] at this
  have Kh:(q0=true∧q1=true)∨(q0=false)∨(q0=true∧q1=false):=by cases q0<;>cases q1<;>simp
  rcases Kh with ⟨rfl,rfl⟩|rfl|⟨rfl,rfl⟩
  all_goals simp only [if_true,Bool.false_eq_true,if_false] at c0 c1
  repeat' (first|refine Wz ?_|refine SW.st (aY (0) rfl rfl (by assumption) (by omega) (by omega)) rfl ?_|refine SW.st (aY (1) rfl rfl (by assumption) (by omega) (by omega)) rfl ?_|refine SW.st (aH hw rfl rfl ((jf.c0))) rfl ?_|refine SW.st (aH hw rfl rfl ((jf.c1))) rfl ?_|((first|refine SW.call rfl rfl (c0 _ hw) ?_|refine SW.call rfl rfl (c1 _ hw) ?_);intro v w1 ab hv;subst hv;replace hw:=Ext.trans hw ab;replace aA:=aA.ext ab;clear ab))
  rotate_left
  ·exact ae.aN rfl rfl ⟨_,rfl,hw,by rw [dI (fun hh=>by have:=dC.2 (hh.front lV).one;rw [Gl] at this;cases this)];rfl⟩
  ·exact ae.aN rfl rfl ⟨_,rfl,hw,by rw [dI (fun hh=>by have:=dC.2 (hh.front lV).two;rw [qD] at this;cases this)];rfl⟩
  clear c0 c1;have sI:=dC.1 Gl;have By:=dC.1 qD
  have cO:∀ w',Ext w w'→bt Tryz.prog 60 [.slice r.bH.A r.bH.n r.bH.c,.func (.func 61) #[] ([] : List Value).toArray] w' fun v _=>v = .bool (h.bH.any tY):=fun w' h =>
   gq _ _ _ _ _ (hr.cj.ext h) _ [] tY (fun x => .int .i64 x) (fun x=>rfl) (fun x _ w1 _=>CG x w1) (by omega)
  obtain ⟨qm,Ki⟩ : ∃ q,h.bH.any tY=q:=⟨_,rfl⟩;rw [Ki] at cO;have ic:(r0.aW=0∧r0.To=r1.aW∧r1.To=256∧qm=false)∨r0.aW≠0∨(r0.aW=0∧r0.To≠r1.aW)∨(r0.aW=0∧r0.To=r1.aW∧r1.To≠256)∨(r0.aW=0∧r0.To=r1.aW∧r1.To=256∧qm=true):=by cases qm<;>simp<;>omega
  rcases ic with ⟨d1,d2,d3,rfl⟩|d|⟨d1,d⟩|⟨d1,d2,d⟩|⟨d1,d2,d3,rfl⟩
  repeat' (first|refine Wz ?_|((apply CW.aO mixed;(· kernel_rfl);rotate_left;intro w1 ab;replace hw:=Ext.trans hw ab;replace aA:=aA.ext ab;clear ab;rotate_right))|refine SW.st (aY (0) rfl rfl (by assumption) (by omega) (by omega)) rfl ?_|refine SW.st (aY (1) rfl rfl (by assumption) (by omega) (by omega)) rfl ?_|refine SW.st (ao hw rfl (jf.c0 0 _ rfl)) rfl ?_|refine SW.st (ao hw rfl (jf.c0 1 _ rfl)) rfl ?_|refine SW.st (ao hw rfl (jf.c1 0 _ rfl)) rfl ?_|refine SW.st (ao hw rfl (jf.c1 1 _ rfl)) rfl ?_|refine SW.bq rfl rfl (fun w1 ab=>(cO _ (Ext.trans hw ab))) ?_|exact SW.bx rfl)
  rotate_left
  iterate 3 exact ae.aN rfl rfl ⟨_,rfl,hw,by rw [dI (fun hh=>by have:=hh.front lV;have:=this.from_;have:=(hh.front lV).zM;have:=(hh.front lV).jZ;omega)];rfl⟩
  ·exact ae.aN rfl rfl ⟨_,rfl,hw,by rw [dI (fun hh=>by have:=(hh.front lV).cj;rw [Ki] at this;cases this)];rfl⟩
  have CI:rB h z0 z1:=⟨sI,By,by omega,by omega,by omega,Ki⟩
  clear cO;have hn:=jf.n
  have fG:∀ z∈h.aQ,∀ b∈z.ag,0≤b.Order∧b.Order≤4:=fun z hz b hb=>by
   obtain ⟨i,hi,rfl⟩:=List.getElem_of_mem hb;rw [lV] at hz;simp only [List.mem_cons,List.not_mem_nil,or_false] at hz;rcases hz with rfl|rfl
   ·exact ⟨(sI.cU i hi).1.1,(sI.cU i hi).1.2.1⟩
   ·exact ⟨(By.cU i hi).1.1,(By.cU i hi).1.2.1⟩
  have LG:∀ k,mJ (bi (some []) ((h.aQ.take k).flatMap aq.ag)):=fun k=>g9 uu fun x hx=>by
   obtain ⟨z,hz,hx⟩:=List.mem_flatMap.1 hx;have:=fG z (List.mem_of_mem_take hz) x hx
   exact (bG this.1 this.2).1
  refine SW.box rfl rfl fun b3 w2 cw bK ar => ?_
  have cn:w.heap.size≤b3:=Nat.le_trans hw.size bK
  have hM:Marks w2 b3 256 (some []):=by
   refine Eq.mp (congrArg (fun c=>aJ w2 b3 105 c) ?_) ar;kernel_rfl
  clear ar;(replace hw:=Ext.trans hw cw;replace aA:=aA.ext cw);repeat' (first|refine Wz ?_|fail)
  refine CW.loop (fun k:Nat=>[(1,.pointer (some ⟨b1,0,none⟩)),(3,.pointer (some ⟨b3,0,none⟩)),(81,.slice r.aQ.A r.aQ.n r.aQ.c),(82,.int .i64 (r.aQ.n:Int)),(83,.int .i64 (k:Int))])
   (fun k w'=>k≤2∧Ext w w'∧aJ w' b1 27 (bm r)∧Marks w' b3 256 (bi (some []) ((h.aQ.take k).flatMap aq.ag))) (fun k=>2-k) 0
   ⟨rfl,rfl,rfl,rfl,rfl,trivial⟩ ⟨by omega,hw,aA,hM⟩ ?_
  clear hw aA hM cw;rintro k w' ⟨hk,hw,aA,hM⟩
  by_cases CJ:k<2
  ·have Jl:k<h.aQ.length:=by omega
   have dt:=jf.row.all (i:=k) (by omega)
   have CK:tN w ([r0,r1][k]'(by simpa using CJ)) h.aQ[k]:=by
    simp only [lV];have:k=0∨k=1:=by omega
    rcases this with rfl|rfl
    ·exact jf.z0
    ·exact jf.z1
   generalize M5:([r0,r1][k]'(by simpa using CJ))=rk at dt CK
   have oP:=fG h.aQ[k] (List.getElem_mem _);have EZ:=hs.free h.aQ[k] (List.getElem_mem _)
   have BF:(h.aQ.take (k+1)).flatMap aq.ag=(h.aQ.take k).flatMap aq.ag++h.aQ[k].ag:=by
    rw [List.take_succ_eq_append_getElem Jl,List.flatMap_append];simp
   generalize h.aQ[k]=zk at CK oP EZ BF
   have M6:=CK.free.base;have tS:=CK.free.len;repeat' (first|refine Wz ?_|refine SW.st (aH hw rfl rfl ((dt))) rfl ?_)
   refine SW.alloc rfl fun b5 w1 ab ig cd => ?_
   skip;refine SW.ap cd rfl rfl rfl rfl (ct _) fun w2 fW hg => ?_
   have aj:=ab.own ig hg;have nE:w.heap.size≤b5:=Nat.le_trans hw.size ig
   replace hw:=Ext.trans hw aj;replace aA:=aA.ext aj;replace hM:=hM.ext aj;replace cd:=fW;clear fW ab hg aj;repeat' (first|refine Wz ?_|fail)
   refine CW.loop (fun j:Nat=>[(1,.pointer (some ⟨b1,0,none⟩)),(3,.pointer (some ⟨b3,0,none⟩)),(81,.slice r.aQ.A r.aQ.n r.aQ.c),(82,.int .i64 (r.aQ.n:Int)),(83,.int .i64 (k:Int)),(88,.slice rk.ag.A rk.ag.n rk.ag.c),(89,.int .i64 (rk.ag.n:Int)),(90,.int .i64 (j:Int))])
    (fun j w'=>j≤rk.ag.n∧Ext w w'∧aJ w' b1 27 (bm r)∧Marks w' b3 256 (bi (bi (some []) ((h.aQ.take k).flatMap aq.ag)) (zk.ag.take j))) (fun j=>rk.ag.n-j) 0
    ⟨rfl,rfl,rfl,rfl,rfl,rfl,rfl,rfl,trivial⟩ ⟨by omega,hw,aA,hM⟩ ?_
   clear hw aA hM cd ig nE;rintro j w' ⟨hj,hw,aA,hM⟩
   by_cases iZ:j<rk.ag.n
   ·have kO:j<zk.ag.length:=by omega
    obtain ⟨o1,o2⟩:=oP zk.ag[j] (List.getElem_mem _);have hp:=bG o1 o2;repeat' (first|refine Wz ?_|refine SW.st (aH hw rfl rfl ((CK.free.all iZ))) rfl ?_)
    refine SW.alloc rfl fun b7 w1 ab lc jS => ?_
    skip;refine SW.ap jS rfl rfl rfl rfl (fB.one (enc:=az) _) fun w2 dF hg => ?_
    have aj:=ab.own lc hg;have qS:w.heap.size≤b7:=Nat.le_trans hw.size lc
    replace hw:=Ext.trans hw aj;replace aA:=aA.ext aj;replace hM:=hM.ext aj;replace jS:=dF;clear dF ab hg aj;repeat' (first|refine Wz ?_|fail);refine CW.any 6 mixed (cl (by kernel_rfl)) rfl fun w1 ab aG => ?_
    replace hw:=Ext.trans hw ab;replace aA:=aA.ext ab;replace hM:=hM.ext ab;replace jS:=jS.ext ab;clear ab;refine Wa ?_;refine SA.take 5 aG rfl (by kernel_rfl) (by kernel_rfl) rfl ?_;repeat ((refine SW.st (fD (r:=pw zk.ag[j].Order) rfl rfl (by omega) (by omega) (by simp [pw]) (by omega) (by omega)) rfl ?_))
    refine SW.ah ?_;refine SA.done (by kernel_rfl) ?_;refine SW.cV rfl rfl (pV b3 _ zk.ag[j] 256 rfl _ hM (g9 (LG k) fun x hx=>by have:=oP x (List.mem_of_mem_take hx);exact (bG this.1 this.2).1) ⟨by omega,by omega⟩) fun v w5 hv => ?_
    obtain ⟨yu,xT⟩:=hv;have hG:=hM.gr xT;replace hw:=hw.own cn xT;(replace aA:=aA.ay hG rfl);rw [← qv _ _ _ kO] at yu;repeat' (first|refine Wz ?_|fail);exact ae.again (j+1) ⟨rfl,rfl,rfl,rfl,rfl,rfl,rfl,rfl,trivial⟩ (by omega) ⟨by omega,hw,aA,yu⟩
   ·obtain rfl:j=rk.ag.n:=by omega
    rw [List.take_of_length_le (l:=zk.ag) (by omega),← br,← BF] at hM;repeat' (first|refine Wz ?_|fail);exact ae.again (k+1) ⟨rfl,rfl,rfl,rfl,rfl,trivial⟩ (by omega) ⟨by omega,hw,aA,hM⟩
  ·obtain rfl:k=2:=by omega
   have Kj:=LG 2;have M7:bi (some []) ((h.aQ.take 2).flatMap aq.ag)=j6 h z0 z1:=by rw [lV];simp [j6]
   rw [M7] at hM Kj;repeat' (first|refine Wz ?_|fail);obtain ⟨ls,Hd⟩:=hr.lists;have ma:=Hd.len.2;have DD:=hs.lists;clear Hd ls;refine SW.cV rfl rfl (AH r h r0 r1 z0 z1 b3 256 rfl (j6 h z0 z1) w _ hw cn jf hM Kj (by omega)) fun v w5 hv => ?_
   obtain ⟨jv,xT,sD⟩:=hv;have hG:=hM.gr xT;replace hw:=jv;(replace aA:=aA.ay hG rfl);clear hM jv xT hG;rcases sD with ⟨rfl,hL,hM⟩|⟨rfl,k6⟩
   rotate_left
   ·repeat' (first|refine Wz ?_|(refine CW.bF rfl ?_))
    exact ae.aN rfl rfl ⟨_,rfl,hw,by rw [dI (fun hh=>k6 ⟨(hh.rest lV).1,eY (m:=h.Live) (by rw [br];exact (hh.rest lV).2.2)⟩)];rfl⟩
   have LH:mJ (bi (j6 h z0 z1) (aS h.av)):=g9 Kj fun x hx=>by
    unfold aS at hx;obtain ⟨y,_,hy⟩:=List.mem_flatMap.1 hx;obtain ⟨p,_,rfl⟩:=List.mem_map.1 hy;simp [cX,jK]
   have E4:bD h→(bi (bi (j6 h z0 z1) (aS h.av)) h.Live).isSome=true:=fun hh=>(hh.rest lV).2.2
   have LI:mL h.Live→(bi (bi (j6 h z0 z1) (aS h.av)) h.Live).isSome=true→bD h:=fun a b=>bD.of lV hd CI hL a b
   generalize bi (j6 h z0 z1) (aS h.av)=S at hM LH E4 LI
   have E5:=hr.live;have F9:=hr.live.len;have M8:=hr.live.base;have M9:=hs.live;repeat' (first|refine Wz ?_|fail)
   refine CW.loop (fun k:Nat=>[(1,.pointer (some ⟨b1,0,none⟩)),(3,.pointer (some ⟨b3,0,none⟩)),(108,.slice r.Live.A r.Live.n r.Live.c),(109,.int .i64 (r.Live.n:Int)),(110,.int .i64 (k:Int))])
    (fun k w'=>k≤r.Live.n∧Ext w w'∧aJ w' b1 27 (bm r)∧Marks w' b3 256 (bi S (h.Live.take k))∧sG h.Live k) (fun k=>r.Live.n-k) 0
    ⟨rfl,rfl,rfl,rfl,rfl,trivial⟩ ⟨by omega,hw,aA,hM,.nil _⟩ ?_
   clear hw aA hM;rintro k w' ⟨hk,hw,aA,hM,hP⟩
   by_cases bY:k<r.Live.n
   ·have de:k<h.Live.length:=by omega
    have Ei:k-1<r.Live.n:=by omega
    have q9:bD h→r4 h.Live[k]∧(0<k→(h.Live[k-1]'(by omega)).At<h.Live[k].At):=fun hh=>⟨hh.live.each k de,fun h0=>by
     have:=hh.live.next (k-1) (by omega)
     simpa only [show k-1+1=k by omega] using this⟩
    have uE:=E5.dv Ei (j:=0) rfl;repeat' (first|refine Wz ?_|refine SW.st (aH hw rfl rfl ((E5.all bY))) rfl ?_)
    refine SW.alloc rfl fun b9 w1 ab oa bk => ?_
    repeat' (first|refine Wz ?_|fail);refine SW.ap bk rfl rfl rfl rfl (fB.one (enc:=az) _) fun w2 gg hg => ?_
    have aj:=ab.own oa hg;have qV:w.heap.size≤b9:=Nat.le_trans hw.size oa
    replace hw:=Ext.trans hw aj;replace aA:=aA.ext aj;replace hM:=hM.ext aj;replace bk:=gg;clear gg ab hg aj;repeat' (first|refine Wz ?_|fail);have AJ:uD h.Live[k]→(0<k→(h.Live[k-1]'(by omega)).At<h.Live[k].At)→sG h.Live (k+1):=fun a b=>hP.snoc de a fun h0=>b h0
    have BF:=qv S h.Live k de;generalize Kk:h.Live[k]=bb at bk q9 AJ BF
    generalize JF:(h.Live[k-1]'(by omega)).At=pv at q9 AJ uE
    simp only [uD,r4,fi] at q9 AJ
    have hp:bb.Order<0∨4<bb.Order∨(1≤pw bb.Order∧pw bb.Order≤16):=by
     by_cases h1 : 0≤bb.Order
     ·by_cases h2:bb.Order≤4
      ·exact .inr (.inr (bG h1 h2))
      ·omega
     ·omega
    have em:bb.At<0∨bb.At.tmod (pw bb.Order)=bb.At % pw bb.Order:=by
     by_cases h1 : 0≤bb.At
     ·exact .inr (Int.tmod_eq_emod_of_nonneg h1)
     ·omega
    have ic:bb.Order<0∨(0≤bb.Order∧(4<bb.Order∨(bb.Order≤4∧(bb.At<0∨(0≤bb.At∧(bb.At.tmod (pw bb.Order)≠0∨(bb.At.tmod (pw bb.Order)=0∧(bb.Ty<0∨(0≤bb.Ty∧(3≤bb.Ty∨(bb.Ty<3∧((0<k∧bb.At≤pv)∨k=0∨(0<k∧pv<bb.At)))))))))))) ):=by omega
    rcases ic with d|⟨d1,d|⟨d2,d|⟨d3,d|⟨d4,d|⟨d5,d|⟨d6,⟨pJ,d⟩|pJ|⟨pJ,d⟩⟩⟩⟩⟩⟩⟩
    all_goals (apply CW.aO mixed;(· kernel_rfl);rotate_left;intro w1 ab;replace hw:=Ext.trans hw ab;replace aA:=aA.ext ab;replace bk:=bk.ext ab;replace hM:=hM.ext ab;clear ab;rotate_right)
    repeat' (first|refine Wz ?_|refine SW.st (aY (k-1) rfl rfl (by assumption) (by omega) (by omega)) rfl ?_|refine SW.st (ao hw rfl uE) rfl ?_|(refine SW.st (fD (r:=pw bb.Order) rfl rfl (by omega) (by omega) (by simp [pw]) (by omega) (by omega)) rfl ?_)|exact SW.bx rfl)
    iterate 7 exact ae.aN rfl rfl ⟨_,rfl,hw,by rw [dI (fun hh=>by have:=q9 hh;omega)];rfl⟩
    all_goals
     replace AJ:=AJ ⟨⟨d1,d2⟩,d3,by omega,by omega⟩ (fun h0=>by omega);refine CW.any 6 mixed (cl (by kernel_rfl)) rfl fun w1 ab aG => ?_
     replace hw:=Ext.trans hw ab;replace aA:=aA.ext ab;replace hM:=hM.ext ab;replace bk:=bk.ext ab;clear ab;refine Wa ?_;refine SA.take 5 aG rfl (by kernel_rfl) (by kernel_rfl) rfl ?_;repeat ((refine SW.st (fD (r:=pw bb.Order) rfl rfl (by omega) (by omega) (by simp [pw]) (by omega) (by omega)) rfl ?_))
     refine SW.ah ?_;refine SA.done (by kernel_rfl) ?_
     refine SW.cV rfl rfl (pV b3 _ bb 256 rfl _ hM (g9 LH fun x hx=>by
      obtain ⟨i,hi,rfl⟩:=List.getElem_of_mem hx;rw [List.getElem_take];have:=(hP.each i (by simp at hi;omega) (by simp at hi;omega)).1
      exact (bG this.1 this.2).1) ⟨by omega,by omega⟩) fun v w5 hv => ?_
     obtain ⟨yu,xT⟩:=hv;have hG:=hM.gr xT;replace hw:=hw.own cn xT;(replace aA:=aA.ay hG rfl);rw [← BF] at yu;repeat' (first|refine Wz ?_|fail);exact ae.again (k+1) ⟨rfl,rfl,rfl,rfl,rfl,trivial⟩ (by omega) ⟨by omega,hw,aA,yu,AJ⟩
   ·obtain rfl:k=r.Live.n:=by omega
    rw [List.take_of_length_le (by omega)] at hM;have nC:=hM.bad rfl;cases hS:bi S h.Live with
    | none =>
      rw [hS] at nC;repeat' (first|refine Wz ?_|(refine CW.bF rfl ?_)|refine SW.st (ak rfl nC) rfl ?_)
      exact ae.aN rfl rfl ⟨_,rfl,hw,by rw [dI (fun hh=>by have:=E4 hh;rw [hS] at this;cases this)];rfl⟩
    | some bs =>
      rw [hS] at nC;repeat' (first|refine Wz ?_|(refine CW.bA rfl ?_)|refine SW.st (ak rfl nC) rfl ?_)
      exact ae.aN rfl rfl ⟨_,rfl,hw,by rw [oU (LI (hP.ok (s:=S) (by omega) (by rw [hS];rfl)) (by rw [hS];rfl))];rfl⟩
 ·rw [dI (fun hh=>hd hh.Ig)];have ic:r.aQ.n≠2∨(r.aQ.n=2∧(r.bH.n≠2∨(r.bH.n=2∧(r.bW<1∨(1≤r.bW∧4<r.bW))))):=by unfold oo at hd;omega
  rcases ic with d|⟨d1,d|⟨d2,d|⟨d3,d⟩⟩⟩
  repeat' (first|refine Wz ?_|fail);all_goals exact ae.aN rfl rfl ⟨_,rfl,hw,rfl⟩
open Go.RowKit
theorem uF {α:Type} {p q : α → Bool}:∀ {l:List α},(∀ x∈l,p x=true→q x=true)→(∃ x∈l,p x=false∧q x=true)→l.countP p<l.countP q
 | [],_,h=>by obtain ⟨x,hx,_⟩:=h;simp at hx
 | a::l,h1,h2=>by
   rw [List.countP_cons,List.countP_cons];have hle:l.countP p≤l.countP q:=List.countP_mono_left (fun x hx=>h1 x (by simp [hx]))
   obtain ⟨x,hx,hp,hq⟩:=h2;rcases List.mem_cons.1 hx with rfl|hx
   ·simp [hp,hq];omega
   ·have ih:=uF (l:=l) (fun y hy=>h1 y (by simp [hy])) ⟨x,hx,hp,hq⟩;have:=h1 a (by simp)
    cases Na:p a<;>cases Nb:q a<;>simp [Na,Nb] at this ⊢<;>omega
theorem sJ:∀ {l:List Block} {cs bs:List Block},(∀ b∈l,1≤pw b.Order)→bi (some cs) l=some bs→cs.length≤(List.range 256).countP (dM cs)→(∀ x∈cs,0≤x.At∧1≤pw x.Order)→bs.length≤(List.range 256).countP (dM bs)
 | [],cs,bs,_,h,hc,_=>by injection h with h;subst h;exact hc
 | b::l,cs,bs,hp,h,hc,hg=>by
   have h':bi (jJ (some cs) b) l=some bs:=h
   cases e:jJ (some cs) b with
   | none=>rw [e,fc] at h';cases h'
   | some ds =>
     rw [e] at h';obtain ⟨cs',e1,hf,rfl⟩:=lg e;injection e1 with e1
     subst e1;have h1:=hp b (by simp);have jc:=(rr hg h1).2 hf;refine sJ (fun x hx=>hp x (by simp [hx])) h' ?_ (fun x hx => ?_)
     ·have:=uF (p:=dM cs) (q:=dM (cs++[b])) (l:=List.range 256) (fun x _ hx=>by simp only [dM,List.any_append,Bool.or_eq_true] at hx ⊢;exact .inl hx)
       ⟨b.At.toNat,by simp;have:=hf.1;have:=hf.2.1;omega,jc.2.2.2 _ (by have:=hf.1;omega) (by have:=hf.1;omega),by
        simp only [dM,List.any_append,Bool.or_eq_true];right;have:=hf.1
        simp [pO];omega⟩
      simp;omega
     ·rcases List.mem_append.1 hx with hx|hx
      ·exact hg x hx
      ·simp at hx;subst hx;exact ⟨hf.1,h1⟩
theorem sK {l bs:List Block} (hp:∀ b∈l,1≤pw b.Order) (h:bi (some []) l=some bs) : bs.length≤256:=by
 have:=sJ hp h (by simp) (fun x hx=>by simp at hx)
 have h2:(List.range 256).countP (dM bs)≤(List.range 256).length:=List.countP_le_length
 simp at h2;omega
section
variable {P:Program} {n:Nat} {ops:Array Oper} {Q:Exit→Act→World→Prop} {rest:List Oper} {L:Env} {w:World}
theorem SW.yv {d:Nat} {fo:Operand} {f:FuncId} {cap:List Value} {xs:List Operand} {vs:List Value} {ts:Array TypeId} {T:TypeId} {pos:String} {af:Array Edge} {R:Value→World→Prop}
 [Body P f] (hf:ca L fo=some (.func (.func f) #[] cap.toArray)) (hx:pB L xs=some vs) (hn:Nat.blt d n=true) (hc:gL P f (vs++cap) w R) (h:∀ v w',R v w'→SW P n ops (.fr Q) rest ((d,v)::L) w') :
 SW P n ops (.fr Q) (⟨some d,.call ⟨.value fo,xs.toArray,ts⟩,T,pos,af,none⟩::rest) L w :=
 ⟨fun a ha=>by
  simp only [swp,wpList,Region.wanted,if_true];refine .inl ?_;unfold Oper.wp;rw [pD (ha.eval hf),Oper.upon_enter,ha.oF hx];refine Calls.mono hc.out ?_;rintro e w' ⟨v,rfl,hv⟩
  exact (h v w' hv).out _ (ha.put hn v)⟩
end
structure Kp (w w':World) : Prop where
 k:∀ (g:Nat) (t:TypeId) (cs:List Value),aJ w g t cs→Nat.beq 77 t=false→Nat.beq 25 t=false→aJ w' g t cs
theorem Kp.refl (w:World) : Kp w w:=⟨fun _ _ _ h _ _=>h⟩
theorem Kp.ext {w w1 w2:World} (h:Kp w w1) (hx:Ext w1 w2) : Kp w w2:=⟨fun g t cs hb h1 h2=>(h.k g t cs hb h1 h2).ext hx⟩
theorem Kp.Nc {w w1 w2:World} (h:Kp w w1) (hG:n9 w1 w2 77) : Kp w w2:=⟨fun g t cs hb h1 h2=>(h.k g t cs hb h1 h2).ay hG h1⟩
theorem Kp.He {w w1 w2:World} (h:Kp w w1) (hG:n9 w1 w2 25) : Kp w w2:=⟨fun g t cs hb h1 h2=>(h.k g t cs hb h1 h2).ay hG h2⟩
structure ra (w:World) (lo b:Nat) (l:List Block) : Prop where
 ex:∃ A c,aJ w b 25 [.slice A l.length c]∧Own w lo 77 3 az A l.length c l
theorem ra.ext {w w':World} {lo b:Nat} {l:List Block} (h:ra w lo b l) (hx:Ext w w') : ra w' lo b l:=by
 obtain ⟨A,c,h1,h2⟩:=h.ex;exact ⟨A,c,h1.ext hx,h2.ext hx⟩
theorem E6 (b:Nat) : (⟨b,0,none⟩ : Addr).add 0=⟨b,0,none⟩:=by unfold Addr.add;simp
theorem aJ.cell0 {w:World} {b:Nat} {t:TypeId} {cs:List Value} (h:aJ w b t cs) {v:Value} (hv:cs[0]?=some v) : w.cell? ⟨b,0,none⟩=some v:=by
 rw [← E6];exact h.cell hv
def Gm (w wE:World) (b:Nat) (l:List Block) (x:Block) (v:Value) (w':World) : Prop:=Ext w w'∧Kp wE w'∧((v = .bool true∧lf l x∧ra w' w.heap.size b (l++[x]))∨(v = .bool false ∧ ¬ lf l x∧ra w' w.heap.size b l))
set_option maxHeartbeats 4000000 in
theorem sL (b:Nat) (l:List Block) (x:Block) (w wE:World) (hw:Ext w wE) (DA:w.heap.size≤b) (hS:ra wE w.heap.size b l) (fO:∀ y∈l,dB 0 256 y) (hlen:l.length≤256) (hx:dB 0 256 x) :
 gL Tryz.prog 79 [.agg (az x).toArray,.pointer (some ⟨b,0,none⟩)] wE (Gm w wE b l x):=by
 refine dw Tryz.func79 rfl Tryz.ntmps79 rfl ?_;have hK:=Kp.refl wE;obtain ⟨A,c,hB,hO⟩:=hS.ex;clear hS;obtain ⟨⟨o1,o2,a1,a2,a3⟩,ty⟩:=id hx;have hp:=bG o1 o2;refine CW.seq (CW.region (SW.box rfl rfl fun b2 w2 cw gQ aK => ?_));(replace hw:=Ext.trans hw cw;replace hB:=hB.ext cw;replace hO:=hO.ext cw;replace hK:=hK.ext cw);have Nd:=hB.cell0 rfl
 have cO:∀ w',Ext w w'→Sl w' 3 az A l.length l→bt Tryz.prog 80 [.slice A l.length c,.int .i64 x.At,.int .i64 x.Order] w' fun v _=>v = .bool (eX l x.At x.Order):=fun w' _ h =>
  oQ _ _ _ _ 0 256 _ _ _ h fO (by omega) (by omega) (by omega) ⟨by omega,by omega⟩ ⟨o1,o2⟩
 obtain ⟨q,hq⟩ : ∃ q,eX l x.At x.Order=q:=⟨_,rfl⟩;rw [hq] at cO;have ic:(q=true)∨(q=false∧256<x.At+pw x.Order)∨(q=false∧x.At+pw x.Order≤256):=by cases q<;>simp<;>omega
 rcases ic with rfl|⟨rfl,d⟩|⟨rfl,d⟩
 repeat' (first|refine Wz ?_|((apply CW.aO mixed;(· kernel_rfl);rotate_left;intro w1 ab;replace hw:=Ext.trans hw ab;replace hB:=hB.ext ab;replace hO:=hO.ext ab;replace aK:=aK.ext ab;replace hK:=hK.ext ab;clear ab;rotate_right))|refine SW.st (ak rfl Nd) rfl ?_|refine SW.bq rfl rfl (fun w1 ab=>(cO _ (Ext.trans hw ab) (hO.sl.ext ab))) ?_|refine SW.bq rfl rfl (fun w1 ab=>(dc _ (by omega) _)) ?_|exact SW.bx rfl)
 iterate 2 exact ae.aN rfl rfl ⟨_,rfl,hw,hK,.inr ⟨rfl,fun hf=>by have h1:=hf.2.1;have h2:=hf.2.2;simp [hq] at h2<;>omega,⟨A,c,hB,hO⟩⟩⟩
 have Jm:=hB.cell0 rfl;repeat' (first|refine Wz ?_|refine SW.st (ak rfl Jm) rfl ?_)
 refine SW.bJ rfl rfl rfl rfl rfl fun b4 w4 aj bX Nf => ?_
 (replace hw:=Ext.trans hw aj;replace hB:=hB.ext aj;replace hO:=hO.ext aj;replace hK:=hK.ext aj);refine SW.append hO (aJ.mb (enc:=az) Nf) hw.size rfl rfl rfl (by omega) (by omega) fun A2 c2 w5 gx hg => ?_
 have hG:=hO.gr hg;replace hw:=aE hw hg (Nat.le_refl _) hO.aM;replace hK:=hK.Nc hG;(replace hB:=hB.ay hG rfl);refine SW.bB (i:=0) hB (by rw [E6];rfl) rfl rfl rfl fun w6 qR hg => ?_
 have hG:=hB.gr hg;replace hw:=hw.own DA hg;replace hK:=hK.He hG;(replace gx:=gx.ay hG rfl);refine Wz ?_;exact ae.aN rfl rfl ⟨_,rfl,hw,hK,.inl ⟨rfl,⟨a1,d,hq⟩,⟨A2,c2,by simpa using qR,by simpa using gx⟩⟩⟩
theorem rC {l:List Block} (h:mL l) : l.Pairwise fun x y=>x.At<y.At:=by
 have key:∀ (d i:Nat) (hj:i+d+1<l.length),(l[i]'(by omega)).At<l[i+d+1].At:=by
  intro d;induction d with
  | zero=>intro i hj;exact h.next i hj
  | succ d ih=>intro i hj;exact Int.lt_trans (ih i (by omega)) (h.next (i+d+1) (by omega))
 rw [List.pairwise_iff_getElem];intro i j hi hj kP;have:=key (j-i-1) i (by omega)
 have e:i+(j-i-1)+1=j:=by omega
 simp only [e] at this;exact this
theorem pe {l:List Block} {a:Int} (h:cc l a=true) : ∃ hk:bE l a<l.length,l[bE l a].At=a:=by
 unfold cc at h;split at h
 ·rename_i hk;exact ⟨hk,of_decide_eq_true h⟩
 ·cases h
theorem yw {l:List Block} (hu:l.Pairwise fun x y=>x.At<y.At) {a:Int} {k:Nat} (hk:k<l.length) (h:l[k].At=a) : bE l a=k∧cc l a=true:=by
 rw [List.pairwise_iff_getElem] at hu;have e:bE l a=k:=zx (by omega) (fun j hj k7=>by have:=hu j k hj hk k7;omega) (fun _=>by omega)
 refine ⟨e,?_⟩;unfold cc;simp only [e,dif_pos hk];exact decide_eq_true h
theorem yx {l:List Block} {a:Int} (h:∀ (k:Nat) (hk:k<l.length),l[k].At≠a) : cc l a=false:=by
 unfold cc;split
 ·rename_i hk;exact decide_eq_false (h _ hk)
 ·rfl
structure mg (h:Heap) (z0 z1:aq) : Prop where
 d:ll h z0 z1
 yy:rz h.av
 live:mL h.Live
 lists:∀ l∈h.av,1≤l.aw.length∧l.aw.length≤8
 all:(bi (some []) (z0.ag++z1.ag++aS h.av++h.Live)).isSome=true
 dU : 1≤h.bW∧h.bW≤4
 count:h.av.length≤256
theorem AK {l m:List Block} {a o:Int} (h:∀ x∈l,x∈m) (ho:eX m a o=false) : eX l a o=false:=by
 unfold eX at *;rw [List.any_eq_false] at *;exact fun x hx=>ho x (h x hx)
theorem mg.next {h:Heap} {z0 z1:aq} (f:mg h z0 z1) {k:Nat} (hk:k<h.Live.length) : qx (z0.ag++z1.ag) h.Live[k]:=by
 have fO:=f.all;have e:z0.ag++z1.ag++aS h.av++h.Live=(z0.ag++z1.ag++aS h.av++h.Live.take k)++h.Live[k]::h.Live.drop (k+1):=by simp
 rw [e] at fO;have hf:=lR fO;have hl:=f.live.each k hk;have hs:∀ x∈z0.ag++z1.ag,x∈z0.ag++z1.ag++aS h.av++h.Live.take k:=fun x hx=>List.mem_append_left _ (List.mem_append_left _ hx)
 obtain ⟨l1,l2,l3,l4⟩:=hl;refine ⟨l1,by omega,l3,⟨hf.1,hf.2.1,AK hs hf.2.2⟩,fun x hx => ?_⟩;rcases List.mem_append.1 hx with hx|hx
 ·exact jU f.d.nG x hx
 ·exact jU f.d.ms x hx
theorem lq {h:Heap} (hm:bD h) : ∃ z0 z1,mg h z0 z1:=by
 obtain ⟨z0,z1,h1,h2,h3,h4,h5,h6,h7,h8⟩:=hm.cK;have hd:ll h z0 z1:=⟨h1,h2,h3,h4,h5,h6,eY h8⟩
 have hl:∀ l∈h.av,1≤l.aw.length∧l.aw.length≤8:=fun l hl=>by
  obtain ⟨i,hi,rfl⟩:=List.getElem_of_mem hl;exact (h7.head i hi).2.2.2
 refine ⟨z0,z1,hd,vu h7,hm.live,hl,h8,hm.dU,?_⟩
 have key:∀ k,k≤h.av.length→k≤gz h.av k:=by
  intro k;induction k with
  | zero=>intro _;omega
  | succ k ih =>
    intro hk;have:=ih (by omega)
    have:=(hl _ (List.getElem_mem (show k<h.av.length by omega))).1
    rw [sw (show k<h.av.length by omega)];omega
 have hc:=key _ (Nat.le_refl _);rw [vt] at hc
 have hb:(aS h.av).length≤256:=by
  obtain ⟨bs,tC⟩:=Option.isSome_iff_exists.1 hd.all;have h9:=sK hd.pw tC;have e:=kD tC;rw [List.nil_append] at e;subst e;simp only [List.length_append] at h9;omega
 omega
open Go.RowKit
set_option maxHeartbeats 4000000 in
theorem jM (r:ez) (h:Heap) (w:World) (hr:v9 w r h) (hs:h.small) :
 bt Tryz.prog 13 [.agg (bm r).toArray] w fun v w' => ∃ s,v = .agg (bm s).toArray∧iH w' w.heap.size s h:=by
 refine aL Tryz.func13 rfl Tryz.ntmps13 rfl ?_;refine CW.seq (CW.region (SW.box rfl rfl fun b1 w1 hw gK aA => ?_));refine SW.alloc rfl fun b2 w2 cw gQ aK => ?_
 have pH:w.heap.size≤b2:=Nat.le_trans hw.size gQ
 have yg:b2≠b1:=by have:=aA.lt;omega
 (replace hw:=Ext.trans hw cw;replace aA:=aA.ext cw);obtain ⟨zs,hz⟩:=hr.cK;obtain ⟨ls,hl⟩:=hr.lists;have Jh:=hr.cj.len;have F9:=hr.live.len;have s1:=hs.cj;have s2:=hs.live;have s3:=hs.cK;have s4:=hs.lists;obtain ⟨z1,z2⟩:=hz.len;obtain ⟨l1,l2⟩:=hl.len;refine Wz ?_
 obtain ⟨K,hK⟩ : ∃ K:Env→World→Prop,K=fun L' w' => ∃ X c1 Y d1 b3,ev L' [(1,.pointer (some ⟨b1,0,none⟩)),(2,.pointer (some ⟨b2,0,none⟩)),(3,.pointer (some ⟨b3,0,none⟩))]∧Ext w w'∧aJ w' b1 27 (bm r)∧aJ w' b2 27 (bm .zero) ∧
  aJ w' b3 27 (bm ⟨.nil,⟨X,r.bH.n,c1⟩,r.bW,.nil,⟨Y,r.Live.n,d1⟩⟩)∧Own w' w.heap.size 3 1 bh X r.bH.n c1 h.bH∧Own w' w.heap.size 77 3 az Y r.Live.n d1 h.Live∧w.heap.size≤b3∧b1≠b3∧b2≠b3:=⟨_,rfl⟩
 refine CW.cut K ?_ ?_
 ·refine CW.any 10 mixed (cl (by kernel_rfl)) rfl fun w1 ab aG => ?_
  replace hw:=Ext.trans hw ab;replace aA:=aA.ext ab;replace aK:=aK.ext ab;clear ab;refine Wa ?_;refine SA.two 2 9 rfl rfl (by kernel_rfl) rfl rfl ?_ ?_
  ·refine SW.call rfl rfl (gd _ _ _ _ _ (hr.cj.ext hw) (by omega)) fun v w4 aj hv => ?_
   obtain ⟨X,c4,rfl,hX⟩:=hv;replace hX:=hX.low hw.size;replace hw:=Ext.trans hw aj;replace aA:=aA.ext aj;replace aK:=aK.ext aj;try replace ar:=ar.ext aj
   refine SW.nil (ae.sa aj ?_);refine SA.two 7 9 rfl rfl (by kernel_rfl) rfl rfl ?_ ?_
   ·refine SW.call rfl rfl (lG _ _ _ _ _ (hr.live.ext hw) (by omega)) fun v w4 aj hv => ?_
    obtain ⟨Y,d4,rfl,hY⟩:=hv;replace hY:=hY.low hw.size;replace hX:=hX.ext aj;replace hw:=Ext.trans hw aj;replace aA:=aA.ext aj;replace aK:=aK.ext aj;try replace ar:=ar.ext aj
    refine SW.nil (ae.sa aj ?_);refine Wa ?_;refine SA.one 9 rfl (by kernel_rfl) rfl ?_;refine SW.alloc rfl fun b3 w4 aj bK ar => ?_
    have cn:w.heap.size≤b3:=Nat.le_trans hw.size bK
    have eu:b1≠b3:=by have:=aA.lt;omega
    have ed:b2≠b3:=by have:=aK.lt;omega
    replace hw:=Ext.trans hw aj;replace aA:=aA.ext aj;replace aK:=aK.ext aj;try replace hX:=hX.ext aj
    try replace hY:=hY.ext aj
    refine SW.nil (ae.sa aj ?_);refine SA.done (by kernel_rfl) ?_;skip;refine SW.ap ar rfl rfl rfl rfl (cQ ⟨.nil,⟨X,r.bH.n,c4⟩,r.bW,.nil,⟨Y,r.Live.n,d4⟩⟩) fun w5 bP hg => ?_
    have hG:=ar.gr hg;replace hw:=hw.own cn hg;(replace hX:=hX.ay hG rfl;replace hY:=hY.ay hG rfl);replace aA:=aA.grown hg (by simpa using eu);replace aK:=aK.grown hg (by simpa using ed);refine Wz ?_;exact ae.cut (K:=K) (by rw [hK];exact ⟨X,c4,Y,d4,b3,⟨rfl,rfl,rfl,trivial⟩,hw,aA,aK,bP,hX,hY,cn,eu,ed⟩)
   ·refine SW.alloc rfl fun b3 w4 aj bK ar => ?_
    have cn:w.heap.size≤b3:=Nat.le_trans hw.size bK
    have eu:b1≠b3:=by have:=aA.lt;omega
    have ed:b2≠b3:=by have:=aK.lt;omega
    replace hw:=Ext.trans hw aj;replace aA:=aA.ext aj;replace aK:=aK.ext aj;try replace hX:=hX.ext aj
    try replace hY:=hY.ext aj
    refine SW.nil (ae.sa aj ?_);refine SA.one 7 rfl (by kernel_rfl) rfl ?_;refine SW.call rfl rfl (lG _ _ _ _ _ (hr.live.ext hw) (by omega)) fun v w4 aj hv => ?_
    obtain ⟨Y,d4,rfl,hY⟩:=hv;replace hY:=hY.low hw.size;replace hX:=hX.ext aj;replace hw:=Ext.trans hw aj;replace aA:=aA.ext aj;replace aK:=aK.ext aj;try replace ar:=ar.ext aj
    refine SW.nil (ae.sa aj ?_);refine Wa ?_;refine SA.done (by kernel_rfl) ?_;skip;refine SW.ap ar rfl rfl rfl rfl (cQ ⟨.nil,⟨X,r.bH.n,c4⟩,r.bW,.nil,⟨Y,r.Live.n,d4⟩⟩) fun w5 bP hg => ?_
    have hG:=ar.gr hg;replace hw:=hw.own cn hg;(replace hX:=hX.ay hG rfl;replace hY:=hY.ay hG rfl);replace aA:=aA.grown hg (by simpa using eu);replace aK:=aK.grown hg (by simpa using ed);refine Wz ?_;exact ae.cut (K:=K) (by rw [hK];exact ⟨X,c4,Y,d4,b3,⟨rfl,rfl,rfl,trivial⟩,hw,aA,aK,bP,hX,hY,cn,eu,ed⟩)
  ·refine SW.alloc rfl fun b3 w4 aj bK ar => ?_
   have cn:w.heap.size≤b3:=Nat.le_trans hw.size bK
   have eu:b1≠b3:=by have:=aA.lt;omega
   have ed:b2≠b3:=by have:=aK.lt;omega
   replace hw:=Ext.trans hw aj;replace aA:=aA.ext aj;replace aK:=aK.ext aj;try replace hX:=hX.ext aj
   try replace hY:=hY.ext aj
   refine SW.nil (ae.sa aj ?_);refine SA.one 2 rfl (by kernel_rfl) rfl ?_;refine SW.call rfl rfl (gd _ _ _ _ _ (hr.cj.ext hw) (by omega)) fun v w4 aj hv => ?_
   obtain ⟨X,c4,rfl,hX⟩:=hv;replace hX:=hX.low hw.size;replace hw:=Ext.trans hw aj;replace aA:=aA.ext aj;replace aK:=aK.ext aj;try replace ar:=ar.ext aj
   refine SW.nil (ae.sa aj ?_);refine SA.one 7 rfl (by kernel_rfl) rfl ?_;refine SW.call rfl rfl (lG _ _ _ _ _ (hr.live.ext hw) (by omega)) fun v w4 aj hv => ?_
   obtain ⟨Y,d4,rfl,hY⟩:=hv;replace hY:=hY.low hw.size;replace hX:=hX.ext aj;replace hw:=Ext.trans hw aj;replace aA:=aA.ext aj;replace aK:=aK.ext aj;try replace ar:=ar.ext aj
   refine SW.nil (ae.sa aj ?_);refine Wa ?_;refine SA.done (by kernel_rfl) ?_;skip;refine SW.ap ar rfl rfl rfl rfl (cQ ⟨.nil,⟨X,r.bH.n,c4⟩,r.bW,.nil,⟨Y,r.Live.n,d4⟩⟩) fun w5 bP hg => ?_
   have hG:=ar.gr hg;replace hw:=hw.own cn hg;(replace hX:=hX.ay hG rfl;replace hY:=hY.ay hG rfl);replace aA:=aA.grown hg (by simpa using eu);replace aK:=aK.grown hg (by simpa using ed);refine Wz ?_;exact ae.cut (K:=K) (by rw [hK];exact ⟨X,c4,Y,d4,b3,⟨rfl,rfl,rfl,trivial⟩,hw,aA,aK,bP,hX,hY,cn,eu,ed⟩)
 ·clear aA aK hw;subst hK;rintro L' w' ⟨X,c4,Y,d4,b3,fq,hw,aA,aK,ar,hX,hY,cn,eu,ed⟩
  refine ae.sub fq ?_;refine Wz ?_
  refine CW.loop (fun s:Nat×Option Addr×Nat×List cq=>[(1,.pointer (some ⟨b1,0,none⟩)),(2,.pointer (some ⟨b2,0,none⟩)),(3,.pointer (some ⟨b3,0,none⟩)),(4,.int .i64 (s.1:Int))])
   (fun s w'=>s.1≤r.aQ.n∧Ext w w'∧aJ w' b1 27 (bm r)∧aJ w' b2 27 (bm .zero)∧aJ w' b3 27 (bm ⟨⟨s.2.1,s.1,s.2.2.1⟩,⟨X,r.bH.n,c4⟩,r.bW,.nil,⟨Y,r.Live.n,d4⟩⟩)∧Own w' w.heap.size 3 1 bh X r.bH.n c4 h.bH∧Own w' w.heap.size 77 3 az Y r.Live.n d4 h.Live ∧
     fU w' w.heap.size ⟨s.2.1,s.1,s.2.2.1⟩ s.2.2.2 (h.aQ.take s.1)) (fun s=>r.aQ.n-s.1) (0,none,0,[]) ⟨rfl,rfl,rfl,rfl,trivial⟩ ⟨by omega,hw,aA,aK,ar,hX,hY,fU.nil _ _⟩ ?_
  clear aA aK ar hX hY hw fq;rintro ⟨k,A,c,zr⟩ w' ⟨hk,hw,aA,aK,ar,hX,hY,hO⟩
  simp only at hk ar hO ⊢;have hA:=hz.row.base;by_cases bY:k<r.aQ.n
  ·have As:=hz.each.get k (by omega) (by omega);have cf:h.aQ[k]'(by omega)∈h.aQ:=List.getElem_mem _
   have q:=hs.free _ cf;have q1:=As.free.len;have q2:=As.types.len;repeat' (first|refine Wz ?_|refine SW.st (aH hw rfl rfl ((hz.row.all bY))) rfl ?_)
   refine SW.call rfl rfl (lL _ _ _ (As.ext hw) (by omega) (by omega)) fun v w4 aj hv => ?_
   obtain ⟨s,rfl,js⟩:=hv;replace js:=js.low hw.size;(replace hw:=Ext.trans hw aj;replace aA:=aA.ext aj;replace aK:=aK.ext aj;replace ar:=ar.ext aj;replace hX:=hX.ext aj;replace hY:=hY.ext aj;replace hO:=hO.ext aj);refine SW.alloc rfl fun b5 w1 ab ig cd => ?_
   skip;refine SW.ap cd rfl rfl rfl rfl (ct s) fun w2 fW hg => ?_
   have aj:=ab.own ig hg;have nE:w.heap.size≤b5:=Nat.le_trans hw.size ig
   replace hw:=Ext.trans hw aj;replace aA:=aA.ext aj;replace aK:=aK.ext aj;replace ar:=ar.ext aj;replace hX:=hX.ext aj;replace hY:=hY.ext aj;replace hO:=hO.ext aj;replace js:=js.ext aj;replace cd:=fW;clear fW ab hg aj;refine Wz ?_;refine SW.bJ rfl rfl rfl rfl rfl fun b w4 aj hb hB => ?_
   (replace hw:=Ext.trans hw aj;replace aA:=aA.ext aj;replace aK:=aK.ext aj;replace ar:=ar.ext aj;replace cd:=cd.ext aj;replace hX:=hX.ext aj;replace hY:=hY.ext aj;replace hO:=hO.ext aj;replace js:=js.ext aj);refine SW.append hO.row (aJ.mb (enc:=bo) hB) hw.size rfl rfl rfl (by simp only;omega) (by simp only;omega) fun A2 c2 w5 fT hg => ?_
   have hG:=hO.row.gr hg;replace hw:=aE hw hg (Nat.le_refl _) hO.row.aM;(replace aA:=aA.ay hG rfl;replace aK:=aK.ay hG rfl;replace ar:=ar.ay hG rfl;replace hX:=hX.ay hG rfl;replace hY:=hY.ay hG rfl;replace js:=js.ay hG rfl);have hE:=hO.each.mono fun _ _ h=>h.ay hG rfl
   refine Wz ?_;refine SW.bB (i:=0) ar rfl rfl rfl rfl fun w6 cS hg => ?_
   have hG:=ar.gr hg;replace hw:=hw.own cn hg;replace aA:=aA.grown hg (by simpa using eu);replace aK:=aK.grown hg (by simpa using ed);(replace hX:=hX.ay hG rfl;replace hY:=hY.ay hG rfl;replace js:=js.ay hG rfl;replace fT:=fT.ay hG rfl);replace hE:=hE.mono fun _ _ h=>h.ay hG rfl
   refine Wz ?_;refine ae.again (k+1,A2,c2,zr++[s]) ⟨rfl,rfl,rfl,rfl,trivial⟩ (by simp only;omega) ⟨by simp only;omega,hw,aA,aK,cS,hX,hY,fT,?_⟩;rw [List.take_succ_eq_append_getElem (by omega)];exact hE.snoc js
  ·obtain rfl:k=r.aQ.n:=by omega
   rw [List.take_of_length_le (by omega)] at hO;refine Wz ?_
   refine CW.loop (fun s:Nat×Option Addr×Nat×List bL=>[(1,.pointer (some ⟨b1,0,none⟩)),(2,.pointer (some ⟨b2,0,none⟩)),(3,.pointer (some ⟨b3,0,none⟩)),(6,.int .i64 (s.1:Int))])
    (fun s w'=>s.1≤r.av.n∧Ext w w'∧aJ w' b1 27 (bm r)∧aJ w' b2 27 (bm .zero)∧aJ w' b3 27 (bm ⟨⟨A,r.aQ.n,c⟩,⟨X,r.bH.n,c4⟩,r.bW,⟨s.2.1,s.1,s.2.2.1⟩,⟨Y,r.Live.n,d4⟩⟩)∧Own w' w.heap.size 3 1 bh X r.bH.n c4 h.bH∧Own w' w.heap.size 77 3 az Y r.Live.n d4 h.Live ∧
      fU w' w.heap.size ⟨A,r.aQ.n,c⟩ zr h.aQ∧cJ w' w.heap.size ⟨s.2.1,s.1,s.2.2.1⟩ s.2.2.2 (h.av.take s.1)) (fun s=>r.av.n-s.1) (0,none,0,[]) ⟨rfl,rfl,rfl,rfl,trivial⟩ ⟨by omega,hw,aA,aK,ar,hX,hY,hO,cJ.nil _ _⟩ ?_
   clear aA aK ar hX hY hw hO;rintro ⟨k,B,d,lr⟩ w' ⟨hk,hw,aA,aK,ar,hX,hY,hO,hP⟩
   simp only at hk ar hP ⊢;have hA:=hl.row.base;by_cases bY:k<r.av.n
   ·have tS:=hl.each.get k (by omega) (by omega);have cf:h.av[k]'(by omega)∈h.av:=List.getElem_mem _
    have q:=hs.cr _ cf;have q1:=tS.cr.len;repeat' (first|refine Wz ?_|refine SW.st (aH hw rfl rfl ((hl.row.all bY))) rfl ?_)
    have Gb:=hP.row.lt_size;refine SW.alloc rfl fun b7 w1 ab lc jS => ?_
    skip;refine SW.ap jS rfl rfl rfl rfl (sn _) fun w2 dF hg => ?_
    have aj:=ab.own lc hg;have qS:w.heap.size≤b7:=Nat.le_trans hw.size lc
    replace hw:=Ext.trans hw aj;replace aA:=aA.ext aj;replace aK:=aK.ext aj;replace ar:=ar.ext aj;replace hX:=hX.ext aj;replace hY:=hY.ext aj;replace hO:=hO.ext aj;replace hP:=hP.ext aj;replace jS:=dF;clear dF ab hg aj;refine Wz ?_;refine SW.call rfl rfl (gd _ _ _ _ _ (tS.cr.ext hw) (by omega)) fun v w4 aj hv => ?_
    obtain ⟨W,e4,rfl,hW⟩:=hv;replace hW:=hW.low hw.size;(replace hw:=Ext.trans hw aj;replace aA:=aA.ext aj;replace aK:=aK.ext aj;replace ar:=ar.ext aj;replace jS:=jS.ext aj;replace hX:=hX.ext aj;replace hY:=hY.ext aj;replace hO:=hO.ext aj;replace hP:=hP.ext aj);refine Wz ?_;refine SW.bB (i:=3) jS rfl rfl rfl rfl fun w5 dF hg => ?_
    have hG:=jS.gr hg;replace hw:=hw.own qS hg;(replace aA:=aA.ay hG rfl;replace aK:=aK.ay hG rfl;replace ar:=ar.ay hG rfl;replace hX:=hX.ay hG rfl;replace hY:=hY.ay hG rfl;replace hO:=hO.ay hG rfl;replace hW:=hW.ay hG rfl);replace hP:cJ w5 w.heap.size ⟨B,k,d⟩ lr (h.av.take k):=⟨hP.row.grown hg (.inr (fun e=>by have:=Gb _ e;omega)),hP.each.mono fun _ _ h=>h.ay hG rfl⟩;refine Wz ?_;refine SW.bJ rfl rfl rfl rfl rfl fun b w6 aj hb hB => ?_
    (replace hw:=Ext.trans hw aj;replace aA:=aA.ext aj;replace aK:=aK.ext aj;replace ar:=ar.ext aj;replace hX:=hX.ext aj;replace hY:=hY.ext aj;replace hO:=hO.ext aj;replace hP:=hP.ext aj;replace hW:=hW.ext aj);refine SW.append hP.row (aJ.mb (enc:=bp) (x:=⟨ls[k].dL,ls[k].aq,ls[k].Ty,⟨W,_,e4⟩⟩) hB) hw.size rfl rfl rfl (by simp only;omega) (by simp only;omega) fun A2 c2 w7 Gc hg => ?_
    have hG:=hP.row.gr hg;replace hw:=aE hw hg (Nat.le_refl _) hP.row.aM;(replace aA:=aA.ay hG rfl;replace aK:=aK.ay hG rfl;replace ar:=ar.ay hG rfl;replace hX:=hX.ay hG rfl;replace hY:=hY.ay hG rfl;replace hO:=hO.ay hG rfl;replace hW:=hW.ay hG rfl);have hE:=hP.each.mono fun _ _ h=>h.ay hG rfl
    refine Wz ?_;refine SW.bB (i:=3) ar rfl rfl rfl rfl fun w8 cS hg => ?_
    have hG:=ar.gr hg;replace hw:=hw.own cn hg;replace aA:=aA.grown hg (by simpa using eu);replace aK:=aK.grown hg (by simpa using ed);(replace hX:=hX.ay hG rfl;replace hY:=hY.ay hG rfl;replace hO:=hO.ay hG rfl;replace Gc:=Gc.ay hG rfl;replace hW:=hW.ay hG rfl);replace hE:=hE.mono fun _ _ h=>h.ay hG rfl
    refine Wz ?_;refine ae.again (k+1,A2,c2,lr++[⟨ls[k].dL,ls[k].aq,ls[k].Ty,⟨W,_,e4⟩⟩]) ⟨rfl,rfl,rfl,rfl,trivial⟩ (by simp only;omega) ⟨by simp only;omega,hw,aA,aK,cS,hX,hY,hO,Gc,?_⟩;rw [List.take_succ_eq_append_getElem (by omega)];exact hE.snoc ⟨tS.cpu,tS.fp,tS.ty,hW⟩
   ·obtain rfl:k=r.av.n:=by omega
    rw [List.take_of_length_le (by omega)] at hP;refine Wz ?_;refine SW.ap aK rfl rfl rfl rfl (cQ _) fun w5 bP hg => ?_
    have hG:=aK.gr hg;replace hw:=hw.own pH hg;(replace hX:=hX.ay hG rfl;replace hY:=hY.ay hG rfl;replace hO:=hO.ay hG rfl;replace hP:=hP.ay hG rfl);refine Wz ?_;exact ae.me rfl rfl bP rfl ⟨_,rfl,hw,⟨_,_,r.bW,_,_⟩,rfl,hr.dU,hX,hY,⟨zr,hO⟩,⟨lr,hP⟩⟩
open Go.RowKit
structure mV (w:World) (lo:Nat) (m li lv:fE) (ls:List bL) (h:Heap) : Prop where
 cj:Own w lo 3 1 bh m.A m.n m.c h.bH
 live:Own w lo 77 3 az lv.A lv.n lv.c h.Live
 lists:cJ w lo li ls h.av
section
variable {w w':World} {lo t:Nat} {m li lv:fE} {ls:List bL} {h:Heap}
theorem mV.ext (a:mV w lo m li lv ls h) (hx:Ext w w') : mV w' lo m li lv ls h:=⟨a.cj.ext hx,a.live.ext hx,a.lists.ext hx⟩
theorem mV.ay (a:mV w lo m li lv ls h) (hG:n9 w w' t) (cG:(Nat.beq t 3 || (Nat.beq t 77 || Nat.beq t 62))=false) : mV w' lo m li lv ls h:=by
 simp only [Bool.or_eq_false_iff] at cG;obtain ⟨h1,h2,h3⟩:=cG;exact ⟨a.cj.ay hG h1,a.live.ay hG h2,a.lists.ay hG (by simp [h1,h3])⟩
theorem iH.split {r:ez} (a:iH w lo r h) {z0 z1:aq} (hz:h.aQ=[z0,z1]) : ∃ g c u0 u1 ls,r.aQ=⟨some ⟨g,0,none⟩,2,c⟩∧dR w lo g c u0 u1 (z0,z1)∧mV w lo r.bH r.av r.Live ls h:=by
 obtain ⟨zs,tW⟩:=a.cK;obtain ⟨ls,Hd⟩:=a.lists;have l0:=tW.each.len;rw [hz] at l0;obtain ⟨u0,u1,rfl⟩:=pX (show zs.length=2 from l0);have l1:=tW.row.len;have h0:=tW.each.get 0 (by simp) (by simp [hz]);have h1:=tW.each.get 1 (by simp) (by simp [hz]);simp only [hz] at h0 h1;have hc : 0<r.aQ.c:=by have:=tW.row.le;simp at l1;omega
 obtain ⟨g,rest,hA,fC,_⟩:=tW.row.opened hc;refine ⟨g,r.aQ.c,u0,u1,ls,?_,⟨?_,h0,h1,fC,hc⟩,⟨a.cj,a.live,Hd⟩⟩
 ·rw [← hA];have:(2:Nat)=r.aQ.n:=l1
  rw [this]
 ·have:=tW.row
  rw [hA,← l1] at this;exact this
end
structure G2 (w0 w:World) (g b:Nat) : Prop where
 os:w.os=w0.os
 tape:w.tape=w0.tape
 output:w.output=w0.output
 size:w0.heap.size≤w.heap.size
 block:∀ k,k<w0.heap.size→k≠g→k≠b→w.heap[k]?=w0.heap[k]?
section
variable {w0 w w':World} {g b k t:Nat} {cs:List Value}
theorem G2.refl (w:World) (g b:Nat) : G2 w w g b:=⟨rfl,rfl,rfl,Nat.le_refl _,fun _ _ _ _=>rfl⟩
theorem G2.step (h:G2 w0 w g b) {row:Option Nat} (hg:w.grownBy w' row) (hr:∀ k,row=some k→k=g∨k=b∨w0.heap.size≤k) : G2 w0 w' g b :=
 ⟨hg.os.trans h.os,hg.tape.trans h.tape,hg.output.trans h.output,Nat.le_trans h.size hg.size,fun k hk h1 h2=>by
  rw [hg.block k (Nat.lt_of_lt_of_le hk h.size) (fun e=>by rcases hr k e.symm with e|e|e<;>omega)];exact h.block k hk h1 h2⟩
theorem G2.ext (h:G2 w0 w g b) (hx:Ext w w') : G2 w0 w' g b:=h.step (hx.gr none) (fun k e=>by cases e)
theorem G2.Gn (h:G2 w0 w g b) (hg:w.grownBy w' (some g)) : G2 w0 w' g b:=h.step hg (fun k e=>by cases e;exact .inl rfl)
theorem G2.new (h:G2 w0 w g b) (hg:w.grownBy w' (some k)) (hk:w0.heap.size≤k) : G2 w0 w' g b:=h.step hg (fun i e=>by cases e;exact .inr (.inr hk))
theorem G2.cU (h:G2 w0 w g b) (hB:aJ w0 k t cs) (h1:k≠g) (h2:k≠b) : aJ w k t cs:=(h.block k hB.lt h1 h2).trans hB
end
noncomputable def iB (h:Heap) (z0 z1:aq) (k:Nat) : aq×aq:=dp (z0,z1) ((aS h.av).take k)
open Go.RowKit
noncomputable def mW (z:aq) : Int×Int:=if dZ z then (dE z.ag,0) else (0,8)
theorem yA (A:Option Addr) (n c:Nat) (l:List Block) (w:World) (hl:Sl w 3 az A n l) (jc:∀ b∈l,0≤b.Order∧b.Order≤4) (hn:n≤100000000000000000) :
 bt Tryz.prog 116 [.slice A n c] w fun v _=>v = .int .i64 (dE l):=by
 refine aL Tryz.func116 rfl Tryz.ntmps116 rfl ?_;have hw:=Ext.refl w;have hA:=hl.base;repeat' (first|refine Wz ?_|(first|refine CW.gi rfl (fun h => ?_) (fun h => ?_)|refine CW.gj rfl (fun h => ?_) (fun h => ?_)|refine CW.bF rfl ?_|refine CW.bA rfl ?_|refine CW.cond rfl (fun h => ?_) (fun h => ?_))|refine SW.cb rfl rfl rfl (fun h => ?_) (fun h => ?_)|refine SW.ew rfl rfl rfl (fun h => ?_) (fun h => ?_)|refine SW.want rfl rfl ?_|refine SW.skip rfl rfl rfl rfl ?_|refine SW.jC rfl rfl rfl ?_|refine SW.split rfl rfl rfl (fun h => ?_) (fun h => ?_))
 refine CW.loop (fun k:Nat=>[(0,.slice A n c),(3,.int .i64 (dE (l.take k))),(4,.int .i64 (k:Int))]) (fun k w'=>k≤n∧Ext w w'∧0≤dE (l.take k)∧dE (l.take k)≤16*(k:Int)) (fun k=>n-k) 0 ⟨rfl,rfl,rfl,trivial⟩ ⟨by omega,hw,by simp [dE],by simp [dE]⟩ ?_;clear hw;rintro k w' ⟨hk,hw,Ou,tE⟩
 by_cases bY:k<n
 ·have de:=hl.lt bY;obtain ⟨f1,f2⟩:=jc l[k] (List.getElem_mem de);have hp:=bG f1 f2;have et:=lH l k de;repeat' (first|refine Wz ?_|(first|refine CW.gi rfl (fun h => ?_) (fun h => ?_)|refine CW.gj rfl (fun h => ?_) (fun h => ?_)|refine CW.bF rfl ?_|refine CW.bA rfl ?_|refine CW.cond rfl (fun h => ?_) (fun h => ?_))|refine SW.cb rfl rfl rfl (fun h => ?_) (fun h => ?_)|refine SW.ew rfl rfl rfl (fun h => ?_) (fun h => ?_)|refine SW.want rfl rfl ?_|refine SW.skip rfl rfl rfl rfl ?_|refine SW.jC rfl rfl rfl ?_|refine SW.split rfl rfl rfl (fun h => ?_) (fun h => ?_)|refine SW.st (aX rfl rfl ((hl.all bY))) rfl ?_|refine SW.st (aH hw rfl rfl ((hl.all bY))) rfl ?_|refine SW.st (ak rfl (hl.dv bY rfl)) rfl ?_|refine SW.st (ao hw rfl (hl.dv bY rfl)) rfl ?_|(refine SW.call rfl rfl (dc _ (by omega) _) ?_;intro v w1 ab hv;subst hv;replace hw:=Ext.trans hw ab;clear ab))
  exact ae.again (k+1) ⟨rfl,by rw [et];rfl,rfl,trivial⟩ (by omega) ⟨by omega,hw,by omega,by omega⟩
 ·repeat' (first|refine Wz ?_|(first|refine CW.gi rfl (fun h => ?_) (fun h => ?_)|refine CW.gj rfl (fun h => ?_) (fun h => ?_)|refine CW.bF rfl ?_|refine CW.bA rfl ?_|refine CW.cond rfl (fun h => ?_) (fun h => ?_))|refine SW.cb rfl rfl rfl (fun h => ?_) (fun h => ?_)|refine SW.ew rfl rfl rfl (fun h => ?_) (fun h => ?_)|refine SW.want rfl rfl ?_|refine SW.skip rfl rfl rfl rfl ?_|refine SW.jC rfl rfl rfl ?_|refine SW.split rfl rfl rfl (fun h => ?_) (fun h => ?_))
  refine ae.aN rfl rfl ⟨_,rfl,hw,?_⟩;rw [List.take_of_length_le (by have:=hl.len;omega)]
theorem yB (r:cq) (z:aq) (w:World) (hr:tN w r z) (hf:r.ag.n≤100000000000000000) (ht:r.Types.n≤1000000000000000000) (h1 : -9223372036854775808≤r.aW∧r.aW≤9223372036854775807) (h2 : -9223372036854775808≤r.To∧r.To≤9223372036854775807) :
 bt Tryz.prog 131 [.agg (bo r).toArray] w fun v _=>v = .tuple #[.int .i64 (mW z).1,.int .i64 (mW z).2]:=by
 refine aL Tryz.func131 rfl Tryz.ntmps131 rfl ?_;refine CW.seq (CW.region (SW.box rfl rfl fun b1 w1 hw gK aA => ?_));have BW:=hr.free.len;obtain ⟨q,hq⟩ : ∃ q,dZ z=q:=⟨_,rfl⟩
 have c1:∀ w',Ext w w'→bt Tryz.prog 59 [.agg (bo r).toArray] w' fun v _=>v = .int .i64 (if q then 0 else 8):=fun w' h=>by
  have:=j1 r z w' (hr.ext h) (by omega) (by omega) h1 h2
  rwa [hq] at this
 cases q
 ·have e:mW z=(0,8):=by simp [mW,hq]
  rw [e];simp only [Bool.false_eq_true,if_false] at c1;repeat' (first|refine Wz ?_|(first|refine CW.gi rfl (fun h => ?_) (fun h => ?_)|refine CW.gj rfl (fun h => ?_) (fun h => ?_)|refine CW.bF rfl ?_|refine CW.bA rfl ?_|refine CW.cond rfl (fun h => ?_) (fun h => ?_))|refine SW.cb rfl rfl rfl (fun h => ?_) (fun h => ?_)|refine SW.ew rfl rfl rfl (fun h => ?_) (fun h => ?_)|refine SW.want rfl rfl ?_|refine SW.skip rfl rfl rfl rfl ?_|refine SW.jC rfl rfl rfl ?_|refine SW.split rfl rfl rfl (fun h => ?_) (fun h => ?_)|refine SW.st (aH hw rfl rfl ((fun _ _=>aA.cell))) rfl ?_|(refine SW.call rfl rfl (c1 _ hw) ?_;intro v w1 ab hv;subst hv;replace hw:=Ext.trans hw ab;replace aA:=aA.ext ab;clear ab))
  exact ae.cu rfl rfl rfl ⟨_,rfl,hw,rfl⟩
 ·simp only [if_true] at c1;have hz:=dC.1 hq;have e:mW z=(dE z.ag,0):=by simp [mW,hq]
  rw [e];repeat' (first|refine Wz ?_|(first|refine CW.gi rfl (fun h => ?_) (fun h => ?_)|refine CW.gj rfl (fun h => ?_) (fun h => ?_)|refine CW.bF rfl ?_|refine CW.bA rfl ?_|refine CW.cond rfl (fun h => ?_) (fun h => ?_))|refine SW.cb rfl rfl rfl (fun h => ?_) (fun h => ?_)|refine SW.ew rfl rfl rfl (fun h => ?_) (fun h => ?_)|refine SW.want rfl rfl ?_|refine SW.skip rfl rfl rfl rfl ?_|refine SW.jC rfl rfl rfl ?_|refine SW.split rfl rfl rfl (fun h => ?_) (fun h => ?_)|refine SW.st (aH hw rfl rfl ((fun _ _=>aA.cell))) rfl ?_|refine SW.st (ao hw rfl (aA.cell rfl)) rfl ?_|(refine SW.call rfl rfl (c1 _ hw) ?_;intro v w1 ab hv;subst hv;replace hw:=Ext.trans hw ab;replace aA:=aA.ext ab;clear ab))
  refine CW.loop (fun k:Nat=>[(5,.int .i64 (dE (z.ag.take k))),(14,.slice r.ag.A r.ag.n r.ag.c),(15,.int .i64 (r.ag.n:Int)),(16,.int .i64 (k:Int))]) (fun k w'=>k≤r.ag.n∧Ext w w') (fun k=>r.ag.n-k) 0 ⟨rfl,rfl,rfl,rfl,trivial⟩ ⟨by omega,hw⟩ ?_;clear hw aA;rintro k w' ⟨hk,hw⟩
  have hA:=hr.free.base;by_cases bY:k<r.ag.n
  ·have de:=hr.free.lt bY;obtain ⟨f1,f2,_⟩:=(hz.cU k de).1;have hp:=bG f1 f2;have et:=lH z.ag k de;have hs:=jb hz k (by omega);repeat' (first|refine Wz ?_|(first|refine CW.gi rfl (fun h => ?_) (fun h => ?_)|refine CW.gj rfl (fun h => ?_) (fun h => ?_)|refine CW.bF rfl ?_|refine CW.bA rfl ?_|refine CW.cond rfl (fun h => ?_) (fun h => ?_))|refine SW.cb rfl rfl rfl (fun h => ?_) (fun h => ?_)|refine SW.ew rfl rfl rfl (fun h => ?_) (fun h => ?_)|refine SW.want rfl rfl ?_|refine SW.skip rfl rfl rfl rfl ?_|refine SW.jC rfl rfl rfl ?_|refine SW.split rfl rfl rfl (fun h => ?_) (fun h => ?_)|refine SW.st (aX rfl rfl ((hr.free.all bY))) rfl ?_|refine SW.st (aH hw rfl rfl ((hr.free.all bY))) rfl ?_)
   refine SW.alloc rfl fun b7 w3 jQ lc jS => ?_
   have qS:w.heap.size≤b7:=Nat.le_trans hw.size lc
   replace hw:=Ext.trans hw jQ;repeat' (first|refine Wz ?_|(first|refine CW.gi rfl (fun h => ?_) (fun h => ?_)|refine CW.gj rfl (fun h => ?_) (fun h => ?_)|refine CW.bF rfl ?_|refine CW.bA rfl ?_|refine CW.cond rfl (fun h => ?_) (fun h => ?_))|refine SW.cb rfl rfl rfl (fun h => ?_) (fun h => ?_)|refine SW.ew rfl rfl rfl (fun h => ?_) (fun h => ?_)|refine SW.want rfl rfl ?_|refine SW.skip rfl rfl rfl rfl ?_|refine SW.jC rfl rfl rfl ?_|refine SW.split rfl rfl rfl (fun h => ?_) (fun h => ?_))
   refine SW.ap jS rfl rfl rfl rfl (fB.one (enc:=az) _) fun w4 dF hg => ?_
   replace hw:=hw.own qS hg;repeat' (first|refine Wz ?_|(first|refine CW.gi rfl (fun h => ?_) (fun h => ?_)|refine CW.gj rfl (fun h => ?_) (fun h => ?_)|refine CW.bF rfl ?_|refine CW.bA rfl ?_|refine CW.cond rfl (fun h => ?_) (fun h => ?_))|refine SW.cb rfl rfl rfl (fun h => ?_) (fun h => ?_)|refine SW.ew rfl rfl rfl (fun h => ?_) (fun h => ?_)|refine SW.want rfl rfl ?_|refine SW.skip rfl rfl rfl rfl ?_|refine SW.jC rfl rfl rfl ?_|refine SW.split rfl rfl rfl (fun h => ?_) (fun h => ?_)|refine SW.st (ao hw rfl (dF.cell rfl)) rfl ?_|(refine SW.st (fD (r:=pw (z.ag[k]).Order) rfl rfl (by omega) (by omega) (by simp [pw]) (by omega) (by omega)) rfl ?_))
   exact ae.again (k+1) ⟨by rw [et];rfl,rfl,rfl,rfl,trivial⟩ (by omega) ⟨by omega,hw⟩
  ·repeat' (first|refine Wz ?_|(first|refine CW.gi rfl (fun h => ?_) (fun h => ?_)|refine CW.gj rfl (fun h => ?_) (fun h => ?_)|refine CW.bF rfl ?_|refine CW.bA rfl ?_|refine CW.cond rfl (fun h => ?_) (fun h => ?_))|refine SW.cb rfl rfl rfl (fun h => ?_) (fun h => ?_)|refine SW.ew rfl rfl rfl (fun h => ?_) (fun h => ?_)|refine SW.want rfl rfl ?_|refine SW.skip rfl rfl rfl rfl ?_|refine SW.jC rfl rfl rfl ?_|refine SW.split rfl rfl rfl (fun h => ?_) (fun h => ?_))
   refine ae.cu rfl rfl rfl ⟨_,rfl,hw,?_⟩;rw [List.take_of_length_le (by omega)]
open Go.RowKit
theorem ey.two {α β:Type} {R : α → β → Prop} {a b : α} {c d : β} (h1:R a c) (h2:R b d) : ey R [a,b] [c,d]:=ey.snoc (ey.snoc ey.nil h1) h2
open Go.RowKit
end Go.Proofs.YtjimadiidbkohaaGreatDoor
