/-
  Texts of the claim SlabAllocs, part 13: what its theorem leans on.
-/
import Derived.Test.YtjimadiidbkohaaGreatDoorPackSlabAllocs11
import Derived.Test.YtjimadiidbkohaaGreatDoorPackSlabAllocs12
import Derived.Test.YtjimadiidbkohaaGreatDoorPackSlabAllocs8
set_option linter.unusedVariables false
set_option linter.unusedSimpArgs false
namespace Go.Proofs.YtjimadiidbkohaaGreatDoor
open Go.RowKit
def mX (L:List Block) : Prop:=bi (some []) L=some L ∧ ∀ y∈L,dB 0 256 y
theorem mX.nil:mX []:=⟨rfl,fun y h=>by simp at h⟩
theorem mX.len {L:List Block} (h:mX L) : L.length≤256:=sK (fun b hb=>(bG (h.2 b hb).1.1 (h.2 b hb).1.2.1).1) h.1
theorem mX.add {L:List Block} {b:Block} (h:mX L) (hb:dB 0 256 b) (hf:lf L b) : mX (L++[b]):=by
 refine ⟨?_,fun y hy => ?_⟩
 ·rw [br,h.1];show jJ (some L) b=_
  simp [jJ,hf]
 ·rcases List.mem_append.1 hy with hy|hy
  ·exact h.2 y hy
  ·simp at hy;subst hy;exact hb
theorem mX.no {L M:List Block} {b:Block} (h:mX L) (hf : ¬ lf L b) : bi (some []) (L++[b]++M)=none:=by
 rw [br,br,h.1];have:bi (some L) [b]=none:=by show jJ (some L) b=none;simp [jJ,hf]
 rw [this,fc]
theorem dB.wide {f t:Int} {b:Block} (h:dB f t b) (h0 : 0≤f) (ht:t≤256) : dB 0 256 b:=by
 obtain ⟨⟨o1,o2,a1,a2,a3⟩,ty⟩:=h;exact ⟨⟨o1,o2,by omega,by omega,a3⟩,ty⟩
theorem xf {zs:List aq} {k j:Nat} (hk:k<zs.length) (hj:j<(zs[k]).ag.length) : ∃ M,zs.flatMap aq.ag=((zs.take k).flatMap aq.ag++(zs[k]).ag.take j)++[(zs[k]).ag[j]]++M:=by
 refine ⟨(zs[k]).ag.drop (j+1)++(zs.drop (k+1)).flatMap aq.ag,?_⟩;have e1:zs=zs.take k++([zs[k]]++zs.drop (k+1)):=by simp
 have e2:(zs[k]).ag=(zs[k]).ag.take j++([(zs[k]).ag[j]]++(zs[k]).ag.drop (j+1)):=by simp
 conv=>lhs;rw [e1,List.flatMap_append,List.flatMap_append]
 simp only [List.flatMap_cons,List.flatMap_nil,List.append_nil]
 conv=>lhs;rw [e2]
 simp only [List.append_assoc]
theorem bD.all {h:Heap} (a:bD h) : (bi (some []) (h.aQ.flatMap aq.ag++aS h.av++h.Live)).isSome=true:=by
 obtain ⟨z0,z1,e,_,_,_,_,_,_,a7⟩:=a.cK;rw [e];simpa using a7
set_option maxHeartbeats 8000000 in
theorem xg (r:ez) (h:Heap) (w:World) (hr:v9 w r h) (hs:h.small) (CH:∀ z∈h.aQ,qC z) :
 bt Tryz.prog 51 [.agg (bm r).toArray] w fun v _=>v = .bool (iK h):=by
 refine aL Tryz.func51 rfl Tryz.ntmps51 rfl ?_
 refine CW.seq (CW.region (SW.box rfl rfl fun b1 w1 hw gK aA => ?_))
 have Cf:=hr.dU
 have Jh:=hr.cj.len
 obtain ⟨Kg,tW⟩:=hr.cK
 obtain ⟨Gk,Ap⟩:=tW.len
 clear tW Gk Kg
 by_cases hd:oo h
 ·obtain ⟨d1,d2,d3⟩:=id hd
  obtain ⟨r0,r1,z0,z1,jf⟩:=hr.two d1
  obtain ⟨m0,m1,em⟩:=pX d2
  have E8:=hr.cj
  rw [em] at E8
  have Ov:=hr.cj.base
  have HZ : 0<r.bH.n:=by omega
  have HY : 1<r.bH.n:=by omega
  have g0:w.cell? ((r.bH.A.getD default).add (0*1))=some (.int .i64 m0):=E8.one HZ rfl
  have g1:w.cell? ((r.bH.A.getD default).add (1*1))=some (.int .i64 m1):=E8.one HY rfl
  have lV:=jf.eq
  have hA:=jf.row.base
  have E1:=CH z0 (by rw [lV];simp)
  have pd:=CH z1 (by rw [lV];simp)
  have s0:=hs.free z0 (by rw [lV];simp)
  have s1:=hs.free z1 (by rw [lV];simp)
  have M1:=jf.z0.from_
  have M2:=jf.z0.jZ
  have M3:=jf.z1.from_
  have M4:=jf.z1.jZ
  have l0:=jf.z0.free.len
  have l1:=jf.z1.free.len
  have t0:=jf.z0.types.len
  have t1:=jf.z1.types.len
  unfold qC at E1 pd
  obtain ⟨q0,Gl⟩ : ∃ q,dZ z0=q:=⟨_,rfl⟩
  obtain ⟨q1,qD⟩ : ∃ q,dZ z1=q:=⟨_,rfl⟩
  have c0:∀ w',Ext w w'→bt Tryz.prog 78 [.agg (bo r0).toArray] w' fun v _=>v = .bool q0:=fun w' hx=>by
   have:=ky r0 z0 w' (jf.z0.ext hx) (by omega) (by omega) (by omega) (by omega)
   rwa [Gl] at this
  have c1:∀ w',Ext w w'→bt Tryz.prog 78 [.agg (bo r1).toArray] w' fun v _=>v = .bool q1:=fun w' hx=>by
   have:=ky r1 z1 w' (jf.z1.ext hx) (by omega) (by omega) (by omega) (by omega)
   rwa [qD] at this
  have Kh:(q0=true∧q1=true)∨(q0=false)∨(q0=true∧q1=false):=by cases q0<;>cases q1<;>simp
  rcases Kh with ⟨rfl,rfl⟩|rfl|⟨rfl,rfl⟩
  repeat' (first|(first|refine CW.seq ?_|refine CW.region ?_|refine CW.kL rfl (by with_reducible rfl) ?_|refine CW.bF rfl ?_|refine CW.bA rfl ?_|refine CW.skip ?_|refine CW.ret ?_)|(first|refine ae.seq ?_|refine ae.fF ?_)|refine SW.nil ?_|(show SW _ _ _ _ (⟨_,_,_,_,_,some _⟩::_) _ _;first|refine SW.bU rfl rfl (by with_reducible rfl) ?_|refine SW.dQ rfl rfl rfl (by omega) ?_|refine SW.want rfl rfl ?_|refine SW.skip rfl rfl rfl rfl ?_)|refine SW.pure rfl rfl ?_|(show SW _ _ _ _ (⟨_,Op.fieldAddr _ _ _,_,_,_,none⟩::_) _ _;refine SW.st (aC rfl) rfl ?_)|(show SW _ _ _ _ (⟨_,Op.indexAddr _ _ _,_,_,_,none⟩::_) _ _;first|refine SW.st (aY (0) rfl rfl (by assumption) (by omega) (by omega)) rfl ?_|refine SW.st (aY (1) rfl rfl (by assumption) (by omega) (by omega)) rfl ?_)|(show SW _ _ _ _ (⟨_,Op.call ⟨.builtin .len,_,_⟩,_,_,_,none⟩::_) _ _;refine SW.st (eQ rfl) rfl ?_)|(show SW _ _ _ _ (⟨_,Op.load _ _,_,_,_,none⟩::_) _ _;first|refine SW.st (ak rfl (aA.cell rfl)) rfl ?_|refine SW.st (aH hw rfl rfl ((jf.c0))) rfl ?_|refine SW.st (aH hw rfl rfl ((jf.c1))) rfl ?_)|(show SW _ _ _ _ (⟨_,Op.call ⟨.value (.func _),_,_⟩,_,_,_,none⟩::_) _ _;first|(refine SW.call rfl rfl (c0 _ hw) ?_;intro v w1 ab hv;subst hv;replace hw:=Ext.trans hw ab;replace aA:=aA.ext ab;clear ab)|(refine SW.call rfl rfl (c1 _ hw) ?_;intro v w1 ab hv;subst hv;replace hw:=Ext.trans hw ab;replace aA:=aA.ext ab;clear ab)|(refine SW.call rfl rfl (bM _ _ _ _) ?_;intro v w1 ab hv;subst hv;replace hw:=Ext.trans hw ab;replace aA:=aA.ext ab;clear ab)))
  rotate_left
  ·exact ae.aN rfl rfl ⟨_,rfl,hw,by rw [dI (fun hh=>by have:=dC.2 (hh.front lV).one;rw [Gl] at this;cases this)]⟩
  ·exact ae.aN rfl rfl ⟨_,rfl,hw,by rw [dI (fun hh=>by have:=dC.2 (hh.front lV).two;rw [qD] at this;cases this)]⟩
  clear c0 c1
  have sI:=dC.1 Gl
  have By:=dC.1 qD
  have ic:(r0.aW=0∧r1.aW=r0.To∧r1.To=256∧(0≤m0∧m0≤256)∧(0≤m1∧m1≤256))∨r0.aW≠0∨(r0.aW=0∧r1.aW≠r0.To)∨(r0.aW=0∧r1.aW=r0.To∧r1.To≠256)∨(r0.aW=0∧r1.aW=r0.To∧r1.To=256 ∧ ¬ (0≤m0∧m0≤256))∨(r0.aW=0∧r1.aW=r0.To∧r1.To=256∧(0≤m0∧m0≤256) ∧ ¬ (0≤m1∧m1≤256)):=by omega
  have LJ:bD h→(0≤m0∧m0≤256)∧(0≤m1∧m1≤256):=fun hh=>by
   have:=(hh.front lV).cj
   rw [em] at this
   simp [tY] at this
   omega
  rcases ic with ⟨d1,d2,d3,d4,d5⟩|d|⟨d1,d⟩|⟨d1,d2,d⟩|⟨d1,d2,d3,d⟩|⟨d1,d2,d3,d4,d⟩
  repeat' (first|(first|refine CW.seq ?_|refine CW.region ?_|refine CW.kL rfl (by with_reducible rfl) ?_|refine CW.nf rfl (by omega) ?_|refine CW.oE rfl (by omega) ?_|refine CW.skip ?_|refine CW.ret ?_|(apply CW.aO mixed;(· kernel_rfl);rotate_left;intro w1 ab;replace hw:=Ext.trans hw ab;replace aA:=aA.ext ab;clear ab;rotate_right))|(first|refine ae.seq ?_|refine ae.fF ?_)|refine SW.nil ?_|(show SW _ _ _ _ (⟨_,_,_,_,_,some _⟩::_) _ _;first|refine SW.bU rfl rfl (by with_reducible rfl) ?_|refine SW.kK rfl rfl (by with_reducible rfl) rfl ?_|refine SW.gw rfl rfl rfl (by omega) ?_|refine SW.dQ rfl rfl rfl (by omega) ?_)|refine SW.pure rfl rfl ?_|(show SW _ _ _ _ (⟨_,Op.fieldAddr _ _ _,_,_,_,none⟩::_) _ _;refine SW.st (aC rfl) rfl ?_)|(show SW _ _ _ _ (⟨_,Op.indexAddr _ _ _,_,_,_,none⟩::_) _ _;first|refine SW.st (bj rfl rfl (by assumption) (by omega)) rfl ?_|refine SW.st (aY (0) rfl rfl (by assumption) (by omega) (by omega)) rfl ?_|refine SW.st (aY (1) rfl rfl (by assumption) (by omega) (by omega)) rfl ?_)|(show SW _ _ _ _ (⟨_,Op.load _ _,_,_,_,none⟩::_) _ _;first|refine SW.st (ak rfl (aA.cell rfl)) rfl ?_|refine SW.st (ao hw rfl (jf.c0 0 _ rfl)) rfl ?_|refine SW.st (ao hw rfl (jf.c0 1 _ rfl)) rfl ?_|refine SW.st (ao hw rfl (jf.c1 0 _ rfl)) rfl ?_|refine SW.st (ao hw rfl (jf.c1 1 _ rfl)) rfl ?_|refine SW.st (ao hw rfl g0) rfl ?_|refine SW.st (ao hw rfl g1) rfl ?_)|(show SW _ _ _ _ (⟨_,Op.call ⟨.value (.func _),_,_⟩,_,_,_,none⟩::_) _ _;refine SW.bq rfl rfl (fun w1 ab=>(bM _ _ _ _)) ?_)|exact SW.bx rfl)
  rotate_left
  iterate 5 exact ae.aN rfl rfl ⟨_,rfl,hw,by rw [dI (fun hh=>by have h1:=(hh.front lV).from_;have h2:=(hh.front lV).zM;have h3:=(hh.front lV).jZ;have h4:=LJ hh;omega)]⟩
  clear LJ g0 g1 E8
  have Nh : 0≤z0.aW∧z0.aW≤z0.To∧z0.To≤256:=⟨sI.ok.1,sI.ok.2.1,sI.ok.2.2.1⟩
  have CI:rB h z0 z1:=⟨sI,By,by omega,by omega,by omega,by rw [em];simp [tY];omega⟩
  have hn:=jf.n
  have uG:∀ z∈h.aQ,∀ b∈z.ag,dB 0 256 b:=fun z hz b hb=>by
   obtain ⟨i,hi,rfl⟩:=List.getElem_of_mem hb
   rw [lV] at hz
   simp only [List.mem_cons,List.not_mem_nil,or_false] at hz
   rcases hz with rfl|rfl
   ·exact (sI.cU i hi).wide sI.ok.1 sI.ok.2.2.1
   ·exact (By.cU i hi).wide By.ok.1 By.ok.2.2.1
  refine SW.alloc rfl fun b3 w2 cw bK ar => ?_
  have cn:w.heap.size≤b3:=Nat.le_trans hw.size bK
  (replace hw:=Ext.trans hw cw;replace aA:=aA.ext cw)
  have hS:ra w2 w.heap.size b3 []:=⟨none,0,ar,Own.eR _ _ _ _ _ _⟩
  clear ar
  repeat' (first|(first|refine CW.seq ?_|refine CW.region ?_|refine CW.block ?_)|(refine ae.seq ?_)|refine SW.nil ?_|refine SW.pure rfl rfl ?_|(refine SW.st (iv (vs:=[.pointer (some ⟨b3,0,none⟩)]) rfl) rfl ?_))
  refine CW.loop (fun k:Nat=>[(1,.pointer (some ⟨b1,0,none⟩)),(3,.pointer (some ⟨b3,0,none⟩)),(4,.func (.func 79) #[] ([.pointer (some ⟨b3,0,none⟩)] : List Value).toArray),(5,.int .i64 (k:Int))])
   (fun k w'=>k≤2∧Ext w w'∧aJ w' b1 27 (bm r)∧ra w' w.heap.size b3 ((h.aQ.take k).flatMap aq.ag)∧mX ((h.aQ.take k).flatMap aq.ag)) (fun k=>2-k) 0
   ⟨rfl,rfl,rfl,rfl,trivial⟩ ⟨by omega,hw,aA,hS,mX.nil⟩ ?_
  clear hw aA hS cw
  rintro k w' ⟨hk,hw,aA,hS,hF⟩
  by_cases CJ:k<2
  ·have Jl:k<h.aQ.length:=by omega
   have dt:=jf.row.all (i:=k) (by omega)
   have CK:tN w ([r0,r1][k]'(by simpa using CJ)) h.aQ[k]:=by
    simp only [lV]
    have:k=0∨k=1:=by omega
    rcases this with rfl|rfl
    ·exact jf.z0
    ·exact jf.z1
   generalize M5:([r0,r1][k]'(by simpa using CJ))=rk at dt CK
   have oP:=uG h.aQ[k] (List.getElem_mem _)
   have EZ:=hs.free h.aQ[k] (List.getElem_mem _)
   have BF:(h.aQ.take (k+1)).flatMap aq.ag=(h.aQ.take k).flatMap aq.ag++h.aQ[k].ag:=by
    rw [List.take_succ_eq_append_getElem Jl,List.flatMap_append];simp
   have k6:∀ (j:Nat) (hj:j<h.aQ[k].ag.length),mX ((h.aQ.take k).flatMap aq.ag++h.aQ[k].ag.take j) → ¬ lf ((h.aQ.take k).flatMap aq.ag++h.aQ[k].ag.take j) h.aQ[k].ag[j] → ¬ bD h:=fun j hj hf hx hh=>by
    obtain ⟨M,hM⟩:=xf Jl hj
    have:=hh.all
    have e:=hf.no hx (M:=M++aS h.av++h.Live)
    rw [hM] at this
    simp only [List.append_assoc] at this e
    rw [e] at this
    cases this
   generalize h.aQ[k]=zk at CK oP EZ BF k6
   have M6:=CK.free.base
   have tS:=CK.free.len
   repeat' (first|(first|refine CW.seq ?_|refine CW.region ?_|refine CW.block ?_|refine CW.iY rfl (by omega) ?_|refine CW.skip ?_)|(refine ae.seq ?_)|refine SW.nil ?_|refine SW.pure rfl rfl ?_)
   refine CW.loop (fun j:Nat=>[(1,.pointer (some ⟨b1,0,none⟩)),(3,.pointer (some ⟨b3,0,none⟩)),(4,.func (.func 79) #[] ([.pointer (some ⟨b3,0,none⟩)] : List Value).toArray),(5,.int .i64 (k:Int)),(6,.int .i64 (j:Int))])
    (fun j w'=>j≤rk.ag.n∧Ext w w'∧aJ w' b1 27 (bm r)∧ra w' w.heap.size b3 ((h.aQ.take k).flatMap aq.ag++zk.ag.take j)∧mX ((h.aQ.take k).flatMap aq.ag++zk.ag.take j)) (fun j=>rk.ag.n-j) 0
    ⟨rfl,rfl,rfl,rfl,rfl,trivial⟩ ⟨by omega,hw,aA,by simpa using hS,by simpa using hF⟩ ?_
   clear hw aA hS hF
   rintro j w' ⟨hj,hw,aA,hS,hF⟩
   by_cases iZ:j<rk.ag.n
   ·have kO:j<zk.ag.length:=by omega
    have HD:=oP zk.ag[j] (List.getElem_mem _)
    have Hf:zk.ag.take (j+1)=zk.ag.take j++[zk.ag[j]]:=List.take_succ_eq_append_getElem kO
    repeat' (first|(first|refine CW.seq ?_|refine CW.region ?_|refine CW.block ?_|refine CW.iY rfl (by omega) ?_|refine CW.skip ?_)|(refine ae.seq ?_)|refine SW.nil ?_|refine SW.pure rfl rfl ?_|(show SW _ _ _ _ (⟨_,Op.fieldAddr _ _ _,_,_,_,none⟩::_) _ _;refine SW.st (aC rfl) rfl ?_)|(show SW _ _ _ _ (⟨_,Op.indexAddr _ _ _,_,_,_,none⟩::_) _ _;refine SW.st (bj rfl rfl (by assumption) (by omega)) rfl ?_)|(show SW _ _ _ _ (⟨_,Op.call ⟨.builtin .len,_,_⟩,_,_,_,none⟩::_) _ _;refine SW.st (eQ rfl) rfl ?_)|(show SW _ _ _ _ (⟨_,Op.load _ _,_,_,_,none⟩::_) _ _;first|refine SW.st (ak rfl (aA.cell rfl)) rfl ?_|refine SW.st (ao hw rfl (dt 2 _ rfl)) rfl ?_|refine SW.st (aH hw rfl rfl ((CK.free.all iZ))) rfl ?_))
    refine SW.yv rfl rfl rfl (sL b3 _ zk.ag[j] w _ hw cn hS hF.2 hF.len HD) fun v w5 hv => ?_
    obtain ⟨jv,hK,sD⟩:=hv
    replace hw:=jv
    replace aA:=hK.k _ _ _ aA rfl rfl
    rcases sD with ⟨rfl,hf,mx⟩|⟨rfl,hf,mx⟩
    ·rw [List.append_assoc,← Hf] at mx
     have CL:=hF.add HD hf
     rw [List.append_assoc,← Hf] at CL
     repeat' (first|(first|refine CW.region ?_|refine CW.bA rfl ?_|refine CW.skip ?_)|(first|refine ae.seq ?_|refine ae.cU ?_)|refine SW.nil ?_|refine SW.pure rfl rfl ?_|(show SW _ _ _ _ (⟨_,Op.binOp _ _ _ _ _,_,_,_,none⟩::_) _ _;refine SW.st (kM rfl rfl (by omega) (by omega)) rfl ?_))
     exact ae.again (j+1) ⟨rfl,rfl,rfl,rfl,rfl,trivial⟩ (by omega) ⟨by omega,hw,aA,mx,CL⟩
    ·repeat' (first|(first|refine CW.seq ?_|refine CW.region ?_|refine CW.bF rfl ?_|refine CW.ret ?_)|(first|refine ae.seq ?_|refine ae.fF ?_|refine ae.iq ?_|refine ae.eK ?_)|refine SW.nil ?_|refine SW.pure rfl rfl ?_)
     exact ae.aN rfl rfl ⟨_,rfl,hw,by rw [dI (k6 j kO hF hf)]⟩
   ·obtain rfl:j=rk.ag.n:=by omega
    rw [List.take_of_length_le (l:=zk.ag) (by omega),← BF] at hS hF
    repeat' (first|(first|refine CW.seq ?_|refine CW.region ?_|refine CW.im rfl (by omega) ?_|refine CW.exit ?_)|(first|refine ae.seq ?_|refine ae.il ?_|refine ae.hit ?_|refine ae.cU ?_|refine ae.fh ?_)|refine SW.nil ?_|refine SW.pure rfl rfl ?_|(show SW _ _ _ _ (⟨_,Op.fieldAddr _ _ _,_,_,_,none⟩::_) _ _;refine SW.st (aC rfl) rfl ?_)|(show SW _ _ _ _ (⟨_,Op.binOp _ _ _ _ _,_,_,_,none⟩::_) _ _;refine SW.st (kM rfl rfl (by omega) (by omega)) rfl ?_)|(show SW _ _ _ _ (⟨_,Op.indexAddr _ _ _,_,_,_,none⟩::_) _ _;refine SW.st (bj rfl rfl (by assumption) (by omega)) rfl ?_)|(show SW _ _ _ _ (⟨_,Op.call ⟨.builtin .len,_,_⟩,_,_,_,none⟩::_) _ _;refine SW.st (eQ rfl) rfl ?_)|(show SW _ _ _ _ (⟨_,Op.load _ _,_,_,_,none⟩::_) _ _;first|refine SW.st (ak rfl (aA.cell rfl)) rfl ?_|refine SW.st (ao hw rfl (dt 2 _ rfl)) rfl ?_))
    exact ae.again (k+1) ⟨rfl,rfl,rfl,rfl,trivial⟩ (by omega) ⟨by omega,hw,aA,hS,hF⟩
  ·obtain rfl:k=2:=by omega
   rw [List.take_of_length_le (by omega)] at hS hF
   have Jn:=fun hh:bD h=>hh.all
   have LK:h.aQ.flatMap aq.ag=z0.ag++z1.ag:=by rw [lV];simp
   generalize h.aQ.flatMap aq.ag=F at hS hF Jn LK
   have LL:=hF.1
   obtain ⟨ls,hl⟩:=hr.lists
   obtain ⟨wy,LF⟩:=hl.len
   have Ow:=hl.row.base
   have DD:=hs.lists
   repeat' (first|(first|refine CW.seq ?_|refine CW.region ?_|refine CW.block ?_|refine CW.im rfl (by omega) ?_|refine CW.exit ?_)|(first|refine ae.seq ?_|refine ae.il ?_|refine ae.hit ?_|refine ae.fh ?_)|refine SW.nil ?_|refine SW.pure rfl rfl ?_)
   refine CW.loop (fun k:Nat=>[(1,.pointer (some ⟨b1,0,none⟩)),(3,.pointer (some ⟨b3,0,none⟩)),(4,.func (.func 79) #[] ([.pointer (some ⟨b3,0,none⟩)] : List Value).toArray),(7,.int .i64 (k:Int))])
    (fun k w'=>k≤r.av.n∧Ext w w'∧aJ w' b1 27 (bm r)∧ra w' w.heap.size b3 (F++aS (h.av.take k))∧mX (F++aS (h.av.take k))∧vy h.bW z0.To h.av k) (fun k=>r.av.n-k) 0
    ⟨rfl,rfl,rfl,rfl,trivial⟩ ⟨by omega,hw,aA,by simpa [aS] using hS,by simpa [aS] using hF,.nil _ _ _⟩ ?_
   clear hw aA hS hF
   rintro k w' ⟨hk,hw,aA,hS,hF,hP⟩
   by_cases bY:k<r.av.n
   ·have de:k<ls.length:=by omega
    have qA:k<h.av.length:=by omega
    have AI:=hl.each.get k de qA
    have Kc:=AI.cpu
    have Kd:=AI.fp
    have c9:=AI.ty
    have MY:=AI.cr.len
    have MZ:=AI.cr.base
    have zR:=AI.cr
    have dt:=hl.row.all bY
    have fJ:=hl.row.all (i:=k-1) (show k-1<r.av.n by omega)
    repeat' (first|(first|refine CW.seq ?_|refine CW.region ?_|refine CW.block ?_|refine CW.iY rfl (by omega) ?_|refine CW.skip ?_)|(refine ae.seq ?_)|refine SW.nil ?_|refine SW.pure rfl rfl ?_|(show SW _ _ _ _ (⟨_,Op.fieldAddr _ _ _,_,_,_,none⟩::_) _ _;refine SW.st (aC rfl) rfl ?_)|(show SW _ _ _ _ (⟨_,Op.indexAddr _ _ _,_,_,_,none⟩::_) _ _;refine SW.st (bj rfl rfl (by assumption) (by omega)) rfl ?_)|(show SW _ _ _ _ (⟨_,Op.call ⟨.builtin .len,_,_⟩,_,_,_,none⟩::_) _ _;refine SW.st (eQ rfl) rfl ?_)|(show SW _ _ _ _ (⟨_,Op.load _ _,_,_,_,none⟩::_) _ _;first|refine SW.st (ak rfl (aA.cell rfl)) rfl ?_|refine SW.st (aH hw rfl rfl ((dt))) rfl ?_))
    refine SW.alloc rfl fun b8 w1 ab kR bu => ?_
    skip
    refine SW.ap bu rfl rfl rfl rfl (fB.one (enc:=bp) _) fun w2 iQ hg => ?_
    have aj:=ab.own kR hg
    have jl:w.heap.size≤b8:=Nat.le_trans hw.size kR
    replace hw:=Ext.trans hw aj
    replace aA:=aA.ext aj
    replace hS:=hS.ext aj
    replace bu:=iQ
    clear iQ ab hg aj
    repeat' (first|(refine CW.seq ?_)|(refine ae.seq ?_)|refine SW.nil ?_)
    by_cases xO:mK r.bW h.av[k]
    ·obtain ⟨e1,e2,e3,e4⟩:=id xO
     obtain ⟨q,hq⟩ : ∃ q,decide (bz (h.av[k-1]'(by omega)) h.av[k])=q:=⟨_,rfl⟩
     have yr:=hl.each.get (k-1) (by omega) (by omega)
     have cL:∀ w',bt Tryz.prog 82 [.agg (bp (ls[k-1]'(by omega))).toArray,.agg (bp ls[k]).toArray] w' fun v _=>v = .bool q:=fun w'=>by
      have:=sr (ls[k-1]'(by omega)) ls[k] (h.av[k-1]'(by omega)) h.av[k] w' ⟨yr.cpu,yr.fp,yr.ty⟩ ⟨Kc,Kd,c9⟩
      rwa [hq] at this
     have cy:(0<k∧q=false)∨(0<k∧q=true)∨k=0:=by cases q<;>simp<;>omega
     rcases cy with ⟨pJ,rfl⟩|⟨pJ,rfl⟩|pJ
     repeat' (first|(first|refine CW.seq ?_|refine CW.region ?_|refine CW.block ?_|refine CW.rI rfl (by with_reducible rfl) ?_|refine CW.im rfl (by omega) ?_|refine CW.nf rfl (by omega) ?_|refine CW.skip ?_|refine CW.ret ?_|(apply CW.aO mixed;(· kernel_rfl);rotate_left;intro w1 ab;replace hw:=Ext.trans hw ab;replace aA:=aA.ext ab;replace bu:=bu.ext ab;replace hS:=hS.ext ab;clear ab;rotate_right))|(first|refine ae.seq ?_|refine ae.fF ?_|refine ae.iq ?_|refine ae.eK ?_)|refine SW.nil ?_|(show SW _ _ _ _ (⟨_,_,_,_,_,some _⟩::_) _ _;first|refine SW.fP rfl rfl (by with_reducible rfl) ?_|refine SW.bU rfl rfl (by with_reducible rfl) ?_|refine SW.gn rfl rfl (by with_reducible rfl) rfl ?_|refine SW.ji rfl rfl rfl (by omega) ?_|refine SW.jj rfl rfl rfl (by omega) ?_|refine SW.dQ rfl rfl rfl (by omega) ?_)|refine SW.pure rfl rfl ?_|(show SW _ _ _ _ (⟨_,Op.fieldAddr _ _ _,_,_,_,none⟩::_) _ _;refine SW.st (aC rfl) rfl ?_)|(show SW _ _ _ _ (⟨_,Op.binOp _ _ _ _ _,_,_,_,none⟩::_) _ _;refine SW.st (iu rfl rfl (by omega) (by omega)) rfl ?_)|(show SW _ _ _ _ (⟨_,Op.indexAddr _ _ _,_,_,_,none⟩::_) _ _;refine SW.st (aY (k-1) rfl rfl (by assumption) (by omega) (by omega)) rfl ?_)|(show SW _ _ _ _ (⟨_,Op.call ⟨.builtin .len,_,_⟩,_,_,_,none⟩::_) _ _;refine SW.st (eQ rfl) rfl ?_)|(show SW _ _ _ _ (⟨_,Op.load _ _,_,_,_,none⟩::_) _ _;first|refine SW.st (ak rfl (bu.cell rfl)) rfl ?_|refine SW.st (ak rfl (aA.cell rfl)) rfl ?_|refine SW.st (aH hw rfl rfl ((fJ))) rfl ?_|refine SW.st (aX rfl rfl ((fun _ _=>bu.cell))) rfl ?_)|(show SW _ _ _ _ (⟨_,Op.call ⟨.value (.func _),_,_⟩,_,_,_,none⟩::_) _ _;first|refine SW.bq rfl rfl (fun w1 ab=>(cL _)) ?_|refine SW.bq rfl rfl (fun w1 ab=>(bM _ _ _ _)) ?_)|exact SW.bx rfl)
     ·exact ae.aN rfl rfl ⟨_,rfl,hw,by rw [dI (fun hh=>by
       have:=(hh.rest lV).1.next (k-1) (by omega)
       simp only [show k-1+1=k by omega] at this
       exact of_decide_eq_false hq this)]⟩
     all_goals
      have Ke:∀ (h0 : 0<k),bz (h.av[k-1]'(by omega)) h.av[k]:=fun h0=>by first|exact of_decide_eq_true hq|omega
      clear cL hq dt fJ
      have Ik:∀ (j:Nat) (hj:j<h.av[k].aw.length),mX (F++aS (h.av.take k)++(h.av[k].aw.take j).map cX) → ¬ lf (F++aS (h.av.take k)++(h.av[k].aw.take j).map cX) (cX h.av[k].aw[j]) → ¬ bD h:=fun j hj hf hx hh=>by
       have:=eY (Jn hh)
       have e:=hf.no hx (M:=[])
       have e2:bi (bi (some F) (aS (h.av.take k))) ((h.av[k].aw.take (j+1)).map cX)=none:=by
        have e0:bi (some []) F=some F:=by
         have h1:=LL
         exact h1
        rw [List.take_succ_eq_append_getElem hj,List.map_append,← e0,← br,← br]
        simpa using e
       have e3:=qz qA (by omega) e2
       rw [br,LL,e3] at this
       cases this
      refine CW.loop (fun j:Nat=>[(1,.pointer (some ⟨b1,0,none⟩)),(3,.pointer (some ⟨b3,0,none⟩)),(4,.func (.func 79) #[] ([.pointer (some ⟨b3,0,none⟩)] : List Value).toArray),(7,.int .i64 (k:Int)),(8,.pointer (some ⟨b8,0,none⟩)),(9,.int .i64 (j:Int))])
       (fun j w'=>j≤ls[k].aw.n∧Ext w w'∧aJ w' b1 27 (bm r)∧aJ w' b8 62 (bp ls[k])∧ra w' w.heap.size b3 (F++aS (h.av.take k)++(h.av[k].aw.take j).map cX)∧mX (F++aS (h.av.take k)++(h.av[k].aw.take j).map cX) ∧ ∀ (i:Nat) (hi:i<h.av[k].aw.length),i<j→(h.av[k].aw[i]<z0.To↔h.av[k].aq=0)) (fun j=>ls[k].aw.n-j) 0
       ⟨rfl,rfl,rfl,rfl,rfl,rfl,trivial⟩ ⟨by omega,hw,aA,bu,by simpa using hS,by simpa using hF,fun i _ h=>by omega⟩ ?_
      clear hw aA bu hS hF kR jl
      rintro j w' ⟨hj,hw,aA,bu,hS,hF,hZ⟩
      by_cases iZ:j<ls[k].aw.n
      ·have kO:j<h.av[k].aw.length:=by omega
       have k6:=Ik j kO hF
       have Hf:(h.av[k].aw.take (j+1)).map cX=(h.av[k].aw.take j).map cX++[cX h.av[k].aw[j]]:=by rw [List.take_succ_eq_append_getElem kO,List.map_append];rfl
       have Jo:=zR.one iZ rfl
       have q9:bD h→(h.av[k].aw[j]<z0.To↔h.av[k].aq=0)∧0≤h.av[k].aw[j]∧h.av[k].aw[j]<256:=fun hh=>by
        refine ⟨(hh.rest lV).1.fp k qA _ (List.getElem_mem _),?_⟩
        have h1:=eY (Jn hh)
        have h2:=qB h1 (cX h.av[k].aw[j]) (List.mem_append_right _ (List.mem_flatMap.2 ⟨h.av[k],List.getElem_mem _,List.mem_map.2 ⟨_,List.getElem_mem _,rfl⟩⟩))
        simp only [cX,jK] at h2
        omega
       generalize hp:h.av[k].aw[j]=p at k6 Hf Jo q9
       have ic:((ls[k].aq=0 ∧ ¬ (r0.aW≤p∧p≤r0.To-1))∨(ls[k].aq=1 ∧ ¬ (r1.aW≤p∧p≤r1.To-1)))∨((ls[k].aq=0∧(r0.aW≤p∧p≤r0.To-1))∨(ls[k].aq=1∧(r1.aW≤p∧p≤r1.To-1))):=by omega
       rcases ic with ic|ic
       ·have tM : ¬ bD h:=fun hh=>by
         have:=q9 hh
         omega
        rw [dI tM]
        rcases ic with ⟨a,d⟩|⟨a,d⟩
        repeat' (first|(first|refine CW.seq ?_|refine CW.region ?_|refine CW.block ?_|refine CW.kL rfl (by with_reducible rfl) ?_|refine CW.iY rfl (by omega) ?_|refine CW.skip ?_|refine CW.ret ?_|(apply CW.aO mixed;(· kernel_rfl);rotate_left;intro w1 ab;replace hw:=Ext.trans hw ab;replace aA:=aA.ext ab;replace bu:=bu.ext ab;replace hS:=hS.ext ab;clear ab;rotate_right))|(first|refine ae.seq ?_|refine ae.fF ?_|refine ae.iq ?_|refine ae.eK ?_)|refine SW.nil ?_|(show SW _ _ _ _ (⟨_,_,_,_,_,some _⟩::_) _ _;first|refine SW.kK rfl rfl (by with_reducible rfl) rfl ?_|refine SW.gw rfl rfl rfl (by omega) ?_)|refine SW.pure rfl rfl ?_|(show SW _ _ _ _ (⟨_,Op.fieldAddr _ _ _,_,_,_,none⟩::_) _ _;refine SW.st (aC rfl) rfl ?_)|(show SW _ _ _ _ (⟨_,Op.binOp _ _ _ _ _,_,_,_,none⟩::_) _ _;refine SW.st (iu rfl rfl (by omega) (by omega)) rfl ?_)|(show SW _ _ _ _ (⟨_,Op.indexAddr _ _ _,_,_,_,none⟩::_) _ _;first|refine SW.st (bj rfl rfl (by assumption) (by omega)) rfl ?_|refine SW.st (aY (0) rfl rfl (by assumption) (by omega) (by omega)) rfl ?_|refine SW.st (aY (1) rfl rfl (by assumption) (by omega) (by omega)) rfl ?_)|(show SW _ _ _ _ (⟨_,Op.call ⟨.builtin .len,_,_⟩,_,_,_,none⟩::_) _ _;refine SW.st (eQ rfl) rfl ?_)|(show SW _ _ _ _ (⟨_,Op.load _ _,_,_,_,none⟩::_) _ _;first|refine SW.st (ak rfl (bu.cell rfl)) rfl ?_|refine SW.st (ak rfl (aA.cell rfl)) rfl ?_|refine SW.st (ao hw rfl (jf.c0 0 _ rfl)) rfl ?_|refine SW.st (ao hw rfl (jf.c0 1 _ rfl)) rfl ?_|refine SW.st (ao hw rfl (jf.c1 0 _ rfl)) rfl ?_|refine SW.st (ao hw rfl (jf.c1 1 _ rfl)) rfl ?_|refine SW.st (ao hw rfl Jo) rfl ?_)|(show SW _ _ _ _ (⟨_,Op.call ⟨.value (.func _),_,_⟩,_,_,_,none⟩::_) _ _;refine SW.bq rfl rfl (fun w1 ab=>(bM _ _ _ _)) ?_)|exact SW.bx rfl)
        all_goals exact ae.aN rfl rfl ⟨_,rfl,hw,rfl⟩
       ·have Il:(p<z0.To↔h.av[k].aq=0)∧dB 0 256 (cX p):=by
         simp only [dB,eU,cX,jK,fi]
         omega
        obtain ⟨Ni,Im⟩:=Il
        rcases ic with ⟨a,d⟩|⟨a,d⟩
        all_goals
         repeat' (first|(first|refine CW.seq ?_|refine CW.region ?_|refine CW.block ?_|refine CW.iY rfl (by omega) ?_|refine CW.skip ?_)|(refine ae.seq ?_)|refine SW.nil ?_|refine SW.pure rfl rfl ?_|(show SW _ _ _ _ (⟨_,Op.fieldAddr _ _ _,_,_,_,none⟩::_) _ _;refine SW.st (aC rfl) rfl ?_)|(show SW _ _ _ _ (⟨_,Op.call ⟨.builtin .len,_,_⟩,_,_,_,none⟩::_) _ _;refine SW.st (eQ rfl) rfl ?_)|(show SW _ _ _ _ (⟨_,Op.load _ _,_,_,_,none⟩::_) _ _;refine SW.st (ak rfl (bu.cell rfl)) rfl ?_))
         refine CW.any 30 mixed (cl (by kernel_rfl)) rfl fun w1 ab aG => ?_
         replace hw:=Ext.trans hw ab;replace aA:=aA.ext ab;replace bu:=bu.ext ab;replace hS:=hS.ext ab;clear ab
         refine SA.take 0 aG rfl (by kernel_rfl) (by kernel_rfl) rfl ?_
         repeat ((show SW _ _ _ _ (⟨_,Op.fieldAddr _ _ _,_,_,_,none⟩::_) _ _;refine SW.st (aC rfl) rfl ?_))
         refine SW.ah ?_
         refine SA.take 1 aG rfl (by kernel_rfl) (by kernel_rfl) rfl ?_
         repeat ((show SW _ _ _ _ (⟨_,Op.load _ _,_,_,_,none⟩::_) _ _;refine SW.st (ak rfl (bu.cell rfl)) rfl ?_))
         refine SW.ah ?_
         refine SA.take 2 aG rfl (by kernel_rfl) (by kernel_rfl) rfl ?_
         repeat (refine SW.pure rfl rfl ?_)
         refine SW.ah ?_
         refine SA.take 3 aG rfl (by kernel_rfl) (by kernel_rfl) rfl ?_
         repeat ((show SW _ _ _ _ (⟨_,Op.indexAddr _ _ _,_,_,_,none⟩::_) _ _;refine SW.st (bj rfl rfl (by assumption) (by omega)) rfl ?_))
         refine SW.ah ?_
         refine SA.take 4 aG rfl (by kernel_rfl) (by kernel_rfl) rfl ?_
         repeat ((show SW _ _ _ _ (⟨_,Op.load _ _,_,_,_,none⟩::_) _ _;refine SW.st (ao hw rfl Jo) rfl ?_))
         refine SW.ah ?_
         refine SA.take 5 aG rfl (by kernel_rfl) (by kernel_rfl) rfl ?_
         repeat ((show SW _ _ _ _ (⟨_,Op.fieldAddr _ _ _,_,_,_,none⟩::_) _ _;refine SW.st (aC rfl) rfl ?_))
         refine SW.ah ?_
         refine SA.take 6 aG rfl (by kernel_rfl) (by kernel_rfl) rfl ?_
         repeat ((show SW _ _ _ _ (⟨_,Op.load _ _,_,_,_,none⟩::_) _ _;refine SW.st (ak rfl (aA.cell rfl)) rfl ?_))
         refine SW.ah ?_
         refine SA.take 7 aG rfl (by kernel_rfl) (by kernel_rfl) rfl ?_
         repeat ((show SW _ _ _ _ (⟨_,Op.fieldAddr _ _ _,_,_,_,none⟩::_) _ _;refine SW.st (aC rfl) rfl ?_))
         refine SW.ah ?_
         refine SA.take 8 aG rfl (by kernel_rfl) (by kernel_rfl) rfl ?_
         repeat ((show SW _ _ _ _ (⟨_,Op.load _ _,_,_,_,none⟩::_) _ _;refine SW.st (ak rfl (bu.cell rfl)) rfl ?_))
         refine SW.ah ?_
         refine SA.take 9 aG rfl (by kernel_rfl) (by kernel_rfl) rfl ?_
         repeat ((show SW _ _ _ _ (⟨_,Op.indexAddr _ _ _,_,_,_,none⟩::_) _ _;first|refine SW.st (aY (0) rfl rfl (by assumption) (by omega) (by omega)) rfl ?_|refine SW.st (aY (1) rfl rfl (by assumption) (by omega) (by omega)) rfl ?_))
         refine SW.ah ?_
         refine SA.take 10 aG rfl (by kernel_rfl) (by kernel_rfl) rfl ?_
         repeat ((show SW _ _ _ _ (⟨_,Op.fieldAddr _ _ _,_,_,_,none⟩::_) _ _;refine SW.st (aC rfl) rfl ?_))
         refine SW.ah ?_
         refine SA.take 11 aG rfl (by kernel_rfl) (by kernel_rfl) rfl ?_
         repeat ((show SW _ _ _ _ (⟨_,Op.load _ _,_,_,_,none⟩::_) _ _;first|refine SW.st (ao hw rfl (jf.c0 0 _ rfl)) rfl ?_|refine SW.st (ao hw rfl (jf.c1 0 _ rfl)) rfl ?_))
         refine SW.ah ?_
         refine SA.take 12 aG rfl (by kernel_rfl) (by kernel_rfl) rfl ?_
         repeat ((show SW _ _ _ _ (⟨_,Op.fieldAddr _ _ _,_,_,_,none⟩::_) _ _;refine SW.st (aC rfl) rfl ?_))
         refine SW.ah ?_
         refine SA.take 13 aG rfl (by kernel_rfl) (by kernel_rfl) rfl ?_
         repeat ((show SW _ _ _ _ (⟨_,Op.load _ _,_,_,_,none⟩::_) _ _;refine SW.st (ak rfl (aA.cell rfl)) rfl ?_))
         refine SW.ah ?_
         refine SA.take 14 aG rfl (by kernel_rfl) (by kernel_rfl) rfl ?_
         repeat ((show SW _ _ _ _ (⟨_,Op.fieldAddr _ _ _,_,_,_,none⟩::_) _ _;refine SW.st (aC rfl) rfl ?_))
         refine SW.ah ?_
         refine SA.take 15 aG rfl (by kernel_rfl) (by kernel_rfl) rfl ?_
         repeat ((show SW _ _ _ _ (⟨_,Op.load _ _,_,_,_,none⟩::_) _ _;refine SW.st (ak rfl (bu.cell rfl)) rfl ?_))
         refine SW.ah ?_
         refine SA.take 16 aG rfl (by kernel_rfl) (by kernel_rfl) rfl ?_
         repeat ((show SW _ _ _ _ (⟨_,Op.indexAddr _ _ _,_,_,_,none⟩::_) _ _;first|refine SW.st (aY (0) rfl rfl (by assumption) (by omega) (by omega)) rfl ?_|refine SW.st (aY (1) rfl rfl (by assumption) (by omega) (by omega)) rfl ?_))
         refine SW.ah ?_
         refine SA.take 17 aG rfl (by kernel_rfl) (by kernel_rfl) rfl ?_
         repeat ((show SW _ _ _ _ (⟨_,Op.fieldAddr _ _ _,_,_,_,none⟩::_) _ _;refine SW.st (aC rfl) rfl ?_))
         refine SW.ah ?_
         refine SA.take 18 aG rfl (by kernel_rfl) (by kernel_rfl) rfl ?_
         repeat ((show SW _ _ _ _ (⟨_,Op.load _ _,_,_,_,none⟩::_) _ _;first|refine SW.st (ao hw rfl (jf.c0 1 _ rfl)) rfl ?_|refine SW.st (ao hw rfl (jf.c1 1 _ rfl)) rfl ?_))
         refine SW.ah ?_
         refine SA.take 19 aG rfl (by kernel_rfl) (by kernel_rfl) rfl ?_
         repeat ((show SW _ _ _ _ (⟨_,Op.binOp _ _ _ _ _,_,_,_,none⟩::_) _ _;refine SW.st (iu rfl rfl (by omega) (by omega)) rfl ?_))
         refine SW.ah ?_
         refine SA.one 20 rfl (by kernel_rfl) rfl ?_
         refine SW.call rfl rfl (bM _ _ _ _) fun v w5 aj hv => ?_
         subst hv
         (replace hw:=Ext.trans hw aj;replace aA:=aA.ext aj;replace bu:=bu.ext aj;replace hS:=hS.ext aj)
         refine SW.nil (ae.sa aj ?_)
         refine SA.take 21 aG rfl (by kernel_rfl) (by kernel_rfl) rfl ?_
         repeat (refine SW.pure rfl rfl ?_)
         refine SW.ah ?_
         refine SA.take 22 aG rfl (by kernel_rfl) (by kernel_rfl) rfl ?_
         repeat (refine SW.pure rfl rfl ?_)
         refine SW.ah ?_
         refine SA.take 23 aG rfl (by kernel_rfl) (by kernel_rfl) rfl ?_
         repeat (first|(show SW _ _ _ _ (⟨_,_,_,_,_,some _⟩::_) _ _;first|refine SW.bU rfl rfl (by with_reducible rfl) ?_|refine SW.dQ rfl rfl rfl (by omega) ?_)|refine SW.pure rfl rfl ?_)
         refine SW.ah ?_
         refine SA.take 24 aG rfl (by kernel_rfl) (by kernel_rfl) rfl ?_
         repeat (first|(show SW _ _ _ _ (⟨_,_,_,_,_,some _⟩::_) _ _;refine SW.bU rfl rfl (by with_reducible rfl) ?_)|(show SW _ _ _ _ (⟨_,Op.fieldAddr _ _ _,_,_,_,none⟩::_) _ _;refine SW.st (aC rfl) rfl ?_))
         refine SW.ah ?_
         refine SA.take 25 aG rfl (by kernel_rfl) (by kernel_rfl) rfl ?_
         repeat (first|(show SW _ _ _ _ (⟨_,_,_,_,_,some _⟩::_) _ _;refine SW.bU rfl rfl (by with_reducible rfl) ?_)|(show SW _ _ _ _ (⟨_,Op.load _ _,_,_,_,none⟩::_) _ _;refine SW.st (ak rfl (bu.cell rfl)) rfl ?_))
         refine SW.ah ?_
         refine SA.take 26 aG rfl (by kernel_rfl) (by kernel_rfl) rfl ?_
         repeat (first|(show SW _ _ _ _ (⟨_,_,_,_,_,some _⟩::_) _ _;refine SW.bU rfl rfl (by with_reducible rfl) ?_)|refine SW.pure rfl rfl ?_)
         refine SW.ah ?_
         refine SA.take 27 aG rfl (by kernel_rfl) (by kernel_rfl) rfl ?_
         repeat (first|(show SW _ _ _ _ (⟨_,_,_,_,_,some _⟩::_) _ _;refine SW.bU rfl rfl (by with_reducible rfl) ?_)|(show SW _ _ _ _ (⟨_,Op.indexAddr _ _ _,_,_,_,none⟩::_) _ _;refine SW.st (bj rfl rfl (by assumption) (by omega)) rfl ?_))
         refine SW.ah ?_
         refine SA.take 28 aG rfl (by kernel_rfl) (by kernel_rfl) rfl ?_
         repeat (first|(show SW _ _ _ _ (⟨_,_,_,_,_,some _⟩::_) _ _;refine SW.bU rfl rfl (by with_reducible rfl) ?_)|(show SW _ _ _ _ (⟨_,Op.load _ _,_,_,_,none⟩::_) _ _;refine SW.st (ao hw rfl Jo) rfl ?_))
         refine SW.ah ?_
         refine SA.take 29 aG rfl (by kernel_rfl) (by kernel_rfl) rfl ?_
         repeat (first|(show SW _ _ _ _ (⟨_,_,_,_,_,some _⟩::_) _ _;refine SW.bU rfl rfl (by with_reducible rfl) ?_)|(show SW _ _ _ _ (⟨_,Op.build _ _,_,_,_,none⟩::_) _ _;refine SW.st (fQ rfl rfl) rfl ?_))
         refine SW.ah ?_
         refine SA.done (by kernel_rfl) ?_
         repeat' ((show SW _ _ _ _ (⟨_,_,_,_,_,some _⟩::_) _ _;refine SW.bU rfl rfl (by with_reducible rfl) ?_))
         refine SW.yv rfl rfl rfl (sL b3 _ (cX p) w _ hw cn hS hF.2 hF.len Im) fun v w6 hv => ?_
         obtain ⟨DF,hK,sD⟩:=hv
         replace hw:=DF
         replace aA:=hK.k _ _ _ aA rfl rfl
         replace bu:=hK.k _ _ _ bu rfl rfl
         rcases sD with ⟨rfl,hf,mx⟩|⟨rfl,hf,mx⟩
         ·rw [List.append_assoc,← Hf] at mx
          have CL:=hF.add Im hf
          rw [List.append_assoc,← Hf] at CL
          repeat' (first|(first|refine CW.region ?_|refine CW.im rfl (by omega) ?_|refine CW.skip ?_)|(first|refine ae.seq ?_|refine ae.cU ?_|refine ae.np ?_)|refine SW.nil ?_|(show SW _ _ _ _ (⟨_,_,_,_,_,some _⟩::_) _ _;refine SW.bU rfl rfl (by with_reducible rfl) ?_)|refine SW.pure rfl rfl ?_|(show SW _ _ _ _ (⟨_,Op.binOp _ _ _ _ _,_,_,_,none⟩::_) _ _;refine SW.st (kM rfl rfl (by omega) (by omega)) rfl ?_))
          refine ae.again (j+1) ⟨rfl,rfl,rfl,rfl,rfl,rfl,trivial⟩ (by omega) ⟨by omega,hw,aA,bu,mx,CL,fun i hi kP => ?_⟩
          by_cases e:i=j
          ·subst e;rw [hp];exact Ni
          ·exact hZ i hi (by omega)
         ·repeat' (first|(first|refine CW.seq ?_|refine CW.region ?_|refine CW.bF rfl ?_|refine CW.ret ?_)|(first|refine ae.seq ?_|refine ae.fF ?_|refine ae.iq ?_|refine ae.eK ?_|refine ae.np ?_)|refine SW.nil ?_|(show SW _ _ _ _ (⟨_,_,_,_,_,some _⟩::_) _ _;refine SW.bU rfl rfl (by with_reducible rfl) ?_)|refine SW.pure rfl rfl ?_)
          exact ae.aN rfl rfl ⟨_,rfl,hw,by rw [dI (k6 hf)]⟩
      ·obtain rfl:j=ls[k].aw.n:=by omega
       rw [List.take_of_length_le (l:=h.av[k].aw) (by omega),List.append_assoc,← kC _ _ qA] at hS hF
       repeat' (first|(first|refine CW.seq ?_|refine CW.region ?_|refine CW.im rfl (by omega) ?_|refine CW.exit ?_)|(first|refine ae.seq ?_|refine ae.il ?_|refine ae.hit ?_|refine ae.cU ?_|refine ae.fh ?_)|refine SW.nil ?_|refine SW.pure rfl rfl ?_|(show SW _ _ _ _ (⟨_,Op.fieldAddr _ _ _,_,_,_,none⟩::_) _ _;refine SW.st (aC rfl) rfl ?_)|(show SW _ _ _ _ (⟨_,Op.binOp _ _ _ _ _,_,_,_,none⟩::_) _ _;refine SW.st (kM rfl rfl (by omega) (by omega)) rfl ?_)|(show SW _ _ _ _ (⟨_,Op.call ⟨.builtin .len,_,_⟩,_,_,_,none⟩::_) _ _;refine SW.st (eQ rfl) rfl ?_)|(show SW _ _ _ _ (⟨_,Op.load _ _,_,_,_,none⟩::_) _ _;refine SW.st (ak rfl (bu.cell rfl)) rfl ?_))
       refine ae.again (k+1) ⟨rfl,rfl,rfl,rfl,trivial⟩ (by omega) ⟨by omega,hw,aA,hS,hF,hP.snoc qA (by rwa [← Cf]) Ke fun p hp => ?_⟩
       obtain ⟨i,hi,rfl⟩:=List.getElem_of_mem hp
       exact hZ i hi (by omega)
    ·have k6 : ¬ bD h:=fun hh=>xO (by have:=(hh.rest lV).1.head k qA;rwa [← Cf] at this)
     rw [dI k6]
     have Kf : ¬ (((0≤ls[k].dL∧ls[k].dL<r.bW)∧(0≤ls[k].aq∧ls[k].aq≤1)∧(0≤ls[k].Ty∧ls[k].Ty≤2)∧(1≤ls[k].aw.n∧ls[k].aw.n≤8))):=fun hh=>xO (by unfold mK;omega)
     have ic : ¬ (0≤ls[k].dL∧ls[k].dL≤r.bW-1)∨((0≤ls[k].dL∧ls[k].dL≤r.bW-1)∧(¬ (0≤ls[k].aq∧ls[k].aq≤1)∨((0≤ls[k].aq∧ls[k].aq≤1)∧(¬ (0≤ls[k].Ty∧ls[k].Ty≤2)∨((0≤ls[k].Ty∧ls[k].Ty≤2) ∧ ¬ (1≤ls[k].aw.n∧ls[k].aw.n≤8)))))):=by omega
     rcases ic with d|⟨d1,d|⟨d2,d|⟨d3,d⟩⟩⟩
     repeat' (first|(first|refine CW.seq ?_|refine CW.region ?_|refine CW.kL rfl (by with_reducible rfl) ?_|refine CW.ret ?_|(apply CW.aO mixed;(· kernel_rfl);rotate_left;intro w1 ab;replace hw:=Ext.trans hw ab;replace aA:=aA.ext ab;replace bu:=bu.ext ab;replace hS:=hS.ext ab;clear ab;rotate_right))|(first|refine ae.seq ?_|refine ae.fF ?_|refine ae.iq ?_|refine ae.eK ?_)|refine SW.nil ?_|(show SW _ _ _ _ (⟨_,_,_,_,_,some _⟩::_) _ _;first|refine SW.bU rfl rfl (by with_reducible rfl) ?_|refine SW.kK rfl rfl (by with_reducible rfl) rfl ?_|refine SW.nX rfl rfl (by with_reducible rfl) rfl ?_|refine SW.gw rfl rfl rfl (by omega) ?_|refine SW.dQ rfl rfl rfl (by omega) ?_)|refine SW.pure rfl rfl ?_|(show SW _ _ _ _ (⟨_,Op.fieldAddr _ _ _,_,_,_,none⟩::_) _ _;refine SW.st (aC rfl) rfl ?_)|(show SW _ _ _ _ (⟨_,Op.binOp _ _ _ _ _,_,_,_,none⟩::_) _ _;refine SW.st (iu rfl rfl (by omega) (by omega)) rfl ?_)|(show SW _ _ _ _ (⟨_,Op.call ⟨.builtin .len,_,_⟩,_,_,_,none⟩::_) _ _;refine SW.st (eQ rfl) rfl ?_)|(show SW _ _ _ _ (⟨_,Op.load _ _,_,_,_,none⟩::_) _ _;first|refine SW.st (ak rfl (bu.cell rfl)) rfl ?_|refine SW.st (ak rfl (aA.cell rfl)) rfl ?_)|(show SW _ _ _ _ (⟨_,Op.call ⟨.value (.func _),_,_⟩,_,_,_,none⟩::_) _ _;refine SW.bq rfl rfl (fun w1 ab=>(bM _ _ _ _)) ?_)|exact SW.bx rfl)
     all_goals exact ae.aN rfl rfl ⟨_,rfl,hw,rfl⟩
   ·obtain rfl:k=r.av.n:=by omega
    rw [List.take_of_length_le (by omega)] at hS hF
    have hL:=hP.all (by omega)
    repeat' (first|(first|refine CW.seq ?_|refine CW.region ?_|refine CW.block ?_|refine CW.im rfl (by omega) ?_|refine CW.exit ?_)|(first|refine ae.seq ?_|refine ae.il ?_|refine ae.hit ?_|refine ae.fh ?_)|refine SW.nil ?_|refine SW.pure rfl rfl ?_|(show SW _ _ _ _ (⟨_,Op.fieldAddr _ _ _,_,_,_,none⟩::_) _ _;refine SW.st (aC rfl) rfl ?_)|(show SW _ _ _ _ (⟨_,Op.call ⟨.builtin .len,_,_⟩,_,_,_,none⟩::_) _ _;refine SW.st (eQ rfl) rfl ?_)|(show SW _ _ _ _ (⟨_,Op.load _ _,_,_,_,none⟩::_) _ _;refine SW.st (ak rfl (aA.cell rfl)) rfl ?_))
    have E5:=hr.live
    have F9:=hr.live.len
    have M8:=hr.live.base
    have M9:=hs.live
    refine CW.loop (fun k:Nat=>[(1,.pointer (some ⟨b1,0,none⟩)),(3,.pointer (some ⟨b3,0,none⟩)),(4,.func (.func 79) #[] ([.pointer (some ⟨b3,0,none⟩)] : List Value).toArray),(10,.int .i64 (k:Int))])
     (fun k w'=>k≤r.Live.n∧Ext w w'∧aJ w' b1 27 (bm r)∧ra w' w.heap.size b3 (F++aS h.av++h.Live.take k)∧mX (F++aS h.av++h.Live.take k)∧sG h.Live k) (fun k=>r.Live.n-k) 0
     ⟨rfl,rfl,rfl,rfl,trivial⟩ ⟨by omega,hw,aA,by simpa using hS,by simpa using hF,.nil _⟩ ?_
    clear hw aA hS hF hP
    rintro k w' ⟨hk,hw,aA,hS,hF,hP⟩
    by_cases bY:k<r.Live.n
    ·have de:k<h.Live.length:=by omega
     have Ei:k-1<r.Live.n:=by omega
     have q9:bD h→r4 h.Live[k]∧(0<k→(h.Live[k-1]'(by omega)).At<h.Live[k].At):=fun hh=>⟨hh.live.each k de,fun h0=>by
      have:=hh.live.next (k-1) (by omega)
      simpa only [show k-1+1=k by omega] using this⟩
     have k6 : ¬ lf (F++aS h.av++h.Live.take k) h.Live[k] → ¬ bD h:=fun hx hh=>by
      have:=Jn hh
      have e:=hF.no hx (M:=h.Live.drop (k+1))
      have e1:h.Live.take k++([h.Live[k]]++h.Live.drop (k+1))=h.Live:=by simp
      rw [List.append_assoc,List.append_assoc (F++aS h.av),e1] at e
      rw [e] at this
      cases this
     have uE:=E5.dv Ei (j:=0) rfl
     repeat' (first|(first|refine CW.seq ?_|refine CW.region ?_|refine CW.block ?_|refine CW.iY rfl (by omega) ?_|refine CW.skip ?_)|(refine ae.seq ?_)|refine SW.nil ?_|refine SW.pure rfl rfl ?_|(show SW _ _ _ _ (⟨_,Op.fieldAddr _ _ _,_,_,_,none⟩::_) _ _;refine SW.st (aC rfl) rfl ?_)|(show SW _ _ _ _ (⟨_,Op.indexAddr _ _ _,_,_,_,none⟩::_) _ _;refine SW.st (bj rfl rfl (by assumption) (by omega)) rfl ?_)|(show SW _ _ _ _ (⟨_,Op.call ⟨.builtin .len,_,_⟩,_,_,_,none⟩::_) _ _;refine SW.st (eQ rfl) rfl ?_)|(show SW _ _ _ _ (⟨_,Op.load _ _,_,_,_,none⟩::_) _ _;first|refine SW.st (ak rfl (aA.cell rfl)) rfl ?_|refine SW.st (aH hw rfl rfl ((E5.all bY))) rfl ?_))
     refine SW.alloc rfl fun se w1 ab qE bC => ?_
     skip
     refine SW.ap bC rfl rfl rfl rfl (fB.one (enc:=az) _) fun w2 mR hg => ?_
     have aj:=ab.own qE hg
     have pf:w.heap.size≤se:=Nat.le_trans hw.size qE
     replace hw:=Ext.trans hw aj
     replace aA:=aA.ext aj
     replace hS:=hS.ext aj
     replace bC:=mR
     clear mR ab hg aj
     repeat' (first|(refine CW.seq ?_)|(refine ae.seq ?_)|refine SW.nil ?_)
     have AJ:uD h.Live[k]→(0<k→(h.Live[k-1]'(by omega)).At<h.Live[k].At)→sG h.Live (k+1):=fun a b=>hP.snoc de a fun h0=>b h0
     have BF:h.Live.take (k+1)=h.Live.take k++[h.Live[k]]:=List.take_succ_eq_append_getElem de
     generalize Kk:h.Live[k]=bb at bC q9 AJ BF k6
     generalize JF:(h.Live[k-1]'(by omega)).At=pv at q9 AJ uE
     simp only [uD,r4,fi] at q9 AJ
     have hp:bb.Order<0∨4<bb.Order∨(1≤pw bb.Order∧pw bb.Order≤16):=by
      by_cases h1 : 0≤bb.Order
      ·by_cases h2:bb.Order≤4
       ·exact .inr (.inr (bG h1 h2))
       ·omega
      ·omega
     have em:bb.At<0∨bb.At.tmod (pw bb.Order)=bb.At % pw bb.Order:=by
      by_cases h1 : 0≤bb.At
      ·exact .inr (Int.tmod_eq_emod_of_nonneg h1)
      ·omega
     have ic:(¬ (0≤bb.Order∧bb.Order≤4)∨((0≤bb.Order∧bb.Order≤4)∧(¬ (0≤bb.At∧bb.At≤255)∨((0≤bb.At∧bb.At≤255)∧(bb.At.tmod (pw bb.Order)≠0∨(bb.At.tmod (pw bb.Order)=0∧(¬ (0≤bb.Ty∧bb.Ty≤2)∨((0≤bb.Ty∧bb.Ty≤2)∧0<k∧bb.At≤pv))))))))∨(((0≤bb.Order∧bb.Order≤4)∧(0≤bb.At∧bb.At≤255)∧bb.At.tmod (pw bb.Order)=0∧(0≤bb.Ty∧bb.Ty≤2))∧(k=0∨(0<k∧pv<bb.At))):=by omega
     rcases ic with ic|⟨⟨d1,d2,d3,d4⟩,ic⟩
     ·have tM : ¬ bD h:=fun hh=>by
       have:=q9 hh
       omega
      rw [dI tM]
      rcases ic with d|⟨d1,d|⟨d2,d|⟨d3,d|⟨d4,pJ,d⟩⟩⟩⟩
      repeat' (first|(first|refine CW.seq ?_|refine CW.region ?_|refine CW.kL rfl (by with_reducible rfl) ?_|refine CW.ret ?_|(apply CW.aO mixed;(· kernel_rfl);rotate_left;intro w1 ab;replace hw:=Ext.trans hw ab;replace aA:=aA.ext ab;replace bC:=bC.ext ab;replace hS:=hS.ext ab;clear ab;rotate_right))|(first|refine ae.seq ?_|refine ae.fF ?_|refine ae.iq ?_|refine ae.eK ?_)|refine SW.nil ?_|(show SW _ _ _ _ (⟨_,_,_,_,_,some _⟩::_) _ _;first|refine SW.fP rfl rfl (by with_reducible rfl) ?_|refine SW.bU rfl rfl (by with_reducible rfl) ?_|refine SW.kK rfl rfl (by with_reducible rfl) rfl ?_|refine SW.nX rfl rfl (by with_reducible rfl) rfl ?_|refine SW.ji rfl rfl rfl (by omega) ?_|refine SW.gw rfl rfl rfl (by omega) ?_|refine SW.dQ rfl rfl rfl (by omega) ?_)|refine SW.pure rfl rfl ?_|(show SW _ _ _ _ (⟨_,Op.fieldAddr _ _ _,_,_,_,none⟩::_) _ _;refine SW.st (aC rfl) rfl ?_)|(show SW _ _ _ _ (⟨_,Op.binOp _ _ _ _ _,_,_,_,none⟩::_) _ _;first|refine SW.st (iu rfl rfl (by omega) (by omega)) rfl ?_|refine SW.st (nY rfl rfl (by omega)) rfl ?_)|(show SW _ _ _ _ (⟨_,Op.indexAddr _ _ _,_,_,_,none⟩::_) _ _;refine SW.st (aY (k-1) rfl rfl (by assumption) (by omega) (by omega)) rfl ?_)|(show SW _ _ _ _ (⟨_,Op.load _ _,_,_,_,none⟩::_) _ _;first|refine SW.st (ak rfl (bC.cell rfl)) rfl ?_|refine SW.st (ak rfl (aA.cell rfl)) rfl ?_|refine SW.st (ao hw rfl uE) rfl ?_)|(show SW _ _ _ _ (⟨_,Op.call ⟨.value (.func _),_,_⟩,_,_,_,none⟩::_) _ _;first|refine SW.bq rfl rfl (fun w1 ab=>(bM _ _ _ _)) ?_|refine SW.bq rfl rfl (fun w1 ab=>(dc _ (by omega) _)) ?_)|exact SW.bx rfl)
      all_goals exact ae.aN rfl rfl ⟨_,rfl,hw,rfl⟩
     ·have Im:dB 0 256 bb:=by
       simp only [dB,eU,fi]
       omega
      replace AJ:=AJ ⟨d1,d2.1,by omega,d4⟩ (fun h0=>by omega)
      rcases ic with pJ|⟨pJ,d⟩
      all_goals
       refine CW.any 44 mixed (cl (by kernel_rfl)) rfl fun w1 ab aG => ?_
       replace hw:=Ext.trans hw ab;replace aA:=aA.ext ab;replace bC:=bC.ext ab;replace hS:=hS.ext ab;clear ab
       refine SA.take 0 aG rfl (by kernel_rfl) (by kernel_rfl) rfl ?_
       repeat ((show SW _ _ _ _ (⟨_,Op.fieldAddr _ _ _,_,_,_,none⟩::_) _ _;refine SW.st (aC rfl) rfl ?_))
       refine SW.ah ?_
       refine SA.take 1 aG rfl (by kernel_rfl) (by kernel_rfl) rfl ?_
       repeat ((show SW _ _ _ _ (⟨_,Op.load _ _,_,_,_,none⟩::_) _ _;refine SW.st (ak rfl (bC.cell rfl)) rfl ?_))
       refine SW.ah ?_
       refine SA.one 2 rfl (by kernel_rfl) rfl ?_
       refine SW.call rfl rfl (bM _ _ _ _) fun v w5 aj hv => ?_
       subst hv
       (replace hw:=Ext.trans hw aj;replace aA:=aA.ext aj;replace bC:=bC.ext aj;replace hS:=hS.ext aj)
       refine SW.nil (ae.sa aj ?_)
       refine SA.take 3 aG rfl (by kernel_rfl) (by kernel_rfl) rfl ?_
       repeat (refine SW.pure rfl rfl ?_)
       refine SW.ah ?_
       refine SA.take 4 aG rfl (by kernel_rfl) (by kernel_rfl) rfl ?_
       repeat (refine SW.pure rfl rfl ?_)
       refine SW.ah ?_
       refine SA.take 5 aG rfl (by kernel_rfl) (by kernel_rfl) rfl ?_
       repeat (first|(show SW _ _ _ _ (⟨_,_,_,_,_,some _⟩::_) _ _;first|refine SW.bU rfl rfl (by with_reducible rfl) ?_|refine SW.dQ rfl rfl rfl (by omega) ?_)|(show SW _ _ _ _ (⟨_,Op.fieldAddr _ _ _,_,_,_,none⟩::_) _ _;refine SW.st (aC rfl) rfl ?_))
       refine SW.ah ?_
       refine SA.take 6 aG rfl (by kernel_rfl) (by kernel_rfl) rfl ?_
       repeat (first|(show SW _ _ _ _ (⟨_,_,_,_,_,some _⟩::_) _ _;refine SW.bU rfl rfl (by with_reducible rfl) ?_)|(show SW _ _ _ _ (⟨_,Op.load _ _,_,_,_,none⟩::_) _ _;refine SW.st (ak rfl (bC.cell rfl)) rfl ?_))
       refine SW.ah ?_
       refine SA.one 7 rfl (by kernel_rfl) rfl ?_
       refine SW.want rfl rfl ?_
       refine SW.call rfl rfl (bM _ _ _ _) fun v w5 aj hv => ?_
       subst hv
       (replace hw:=Ext.trans hw aj;replace aA:=aA.ext aj;replace bC:=bC.ext aj;replace hS:=hS.ext aj)
       refine SW.nil (ae.sa aj ?_)
       refine SA.take 8 aG rfl (by kernel_rfl) (by kernel_rfl) rfl ?_
       repeat (first|(show SW _ _ _ _ (⟨_,_,_,_,_,some _⟩::_) _ _;refine SW.bU rfl rfl (by with_reducible rfl) ?_)|refine SW.pure rfl rfl ?_)
       refine SW.ah ?_
       refine SA.take 9 aG rfl (by kernel_rfl) (by kernel_rfl) rfl ?_
       repeat (refine SW.pure rfl rfl ?_)
       refine SW.ah ?_
       refine SA.take 10 aG rfl (by kernel_rfl) (by kernel_rfl) rfl ?_
       repeat (refine SW.pure rfl rfl ?_)
       refine SW.ah ?_
       refine SA.take 11 aG rfl (by kernel_rfl) (by kernel_rfl) rfl ?_
       repeat (first|(show SW _ _ _ _ (⟨_,_,_,_,_,some _⟩::_) _ _;first|refine SW.bU rfl rfl (by with_reducible rfl) ?_|refine SW.dQ rfl rfl rfl (by omega) ?_)|(show SW _ _ _ _ (⟨_,Op.fieldAddr _ _ _,_,_,_,none⟩::_) _ _;refine SW.st (aC rfl) rfl ?_))
       refine SW.ah ?_
       refine SA.take 12 aG rfl (by kernel_rfl) (by kernel_rfl) rfl ?_
       repeat (first|(show SW _ _ _ _ (⟨_,_,_,_,_,some _⟩::_) _ _;refine SW.bU rfl rfl (by with_reducible rfl) ?_)|(show SW _ _ _ _ (⟨_,Op.load _ _,_,_,_,none⟩::_) _ _;refine SW.st (ak rfl (bC.cell rfl)) rfl ?_))
       refine SW.ah ?_
       refine SA.take 13 aG rfl (by kernel_rfl) (by kernel_rfl) rfl ?_
       repeat (first|(show SW _ _ _ _ (⟨_,_,_,_,_,some _⟩::_) _ _;refine SW.bU rfl rfl (by with_reducible rfl) ?_)|(show SW _ _ _ _ (⟨_,Op.fieldAddr _ _ _,_,_,_,none⟩::_) _ _;refine SW.st (aC rfl) rfl ?_))
       refine SW.ah ?_
       refine SA.take 14 aG rfl (by kernel_rfl) (by kernel_rfl) rfl ?_
       repeat (first|(show SW _ _ _ _ (⟨_,_,_,_,_,some _⟩::_) _ _;refine SW.bU rfl rfl (by with_reducible rfl) ?_)|(show SW _ _ _ _ (⟨_,Op.load _ _,_,_,_,none⟩::_) _ _;refine SW.st (ak rfl (bC.cell rfl)) rfl ?_))
       refine SW.ah ?_
       refine SA.one 15 rfl (by kernel_rfl) rfl ?_
       refine SW.want rfl rfl ?_
       refine SW.call rfl rfl (dc _ (by omega) _) fun v w5 aj hv => ?_
       subst hv
       (replace hw:=Ext.trans hw aj;replace aA:=aA.ext aj;replace bC:=bC.ext aj;replace hS:=hS.ext aj)
       refine SW.nil (ae.sa aj ?_)
       refine SA.take 16 aG rfl (by kernel_rfl) (by kernel_rfl) rfl ?_
       repeat (first|(show SW _ _ _ _ (⟨_,_,_,_,_,some _⟩::_) _ _;refine SW.bU rfl rfl (by with_reducible rfl) ?_)|(show SW _ _ _ _ (⟨_,Op.binOp _ _ _ _ _,_,_,_,none⟩::_) _ _;refine SW.st (nY rfl rfl (by omega)) rfl ?_))
       refine SW.ah ?_
       refine SA.take 17 aG rfl (by kernel_rfl) (by kernel_rfl) rfl ?_
       repeat (first|(show SW _ _ _ _ (⟨_,_,_,_,_,some _⟩::_) _ _;refine SW.bU rfl rfl (by with_reducible rfl) ?_)|refine SW.pure rfl rfl ?_)
       refine SW.ah ?_
       refine SA.take 18 aG rfl (by kernel_rfl) (by kernel_rfl) rfl ?_
       repeat (refine SW.pure rfl rfl ?_)
       refine SW.ah ?_
       refine SA.take 19 aG rfl (by kernel_rfl) (by kernel_rfl) rfl ?_
       repeat (refine SW.pure rfl rfl ?_)
       refine SW.ah ?_
       refine SA.take 20 aG rfl (by kernel_rfl) (by kernel_rfl) rfl ?_
       repeat (first|(show SW _ _ _ _ (⟨_,_,_,_,_,some _⟩::_) _ _;first|refine SW.bU rfl rfl (by with_reducible rfl) ?_|refine SW.dQ rfl rfl rfl (by omega) ?_)|(show SW _ _ _ _ (⟨_,Op.fieldAddr _ _ _,_,_,_,none⟩::_) _ _;refine SW.st (aC rfl) rfl ?_))
       refine SW.ah ?_
       refine SA.take 21 aG rfl (by kernel_rfl) (by kernel_rfl) rfl ?_
       repeat (first|(show SW _ _ _ _ (⟨_,_,_,_,_,some _⟩::_) _ _;refine SW.bU rfl rfl (by with_reducible rfl) ?_)|(show SW _ _ _ _ (⟨_,Op.load _ _,_,_,_,none⟩::_) _ _;refine SW.st (ak rfl (bC.cell rfl)) rfl ?_))
       refine SW.ah ?_
       refine SA.one 22 rfl (by kernel_rfl) rfl ?_
       refine SW.want rfl rfl ?_
       refine SW.call rfl rfl (bM _ _ _ _) fun v w5 aj hv => ?_
       subst hv
       (replace hw:=Ext.trans hw aj;replace aA:=aA.ext aj;replace bC:=bC.ext aj;replace hS:=hS.ext aj)
       refine SW.nil (ae.sa aj ?_)
       refine SA.take 23 aG rfl (by kernel_rfl) (by kernel_rfl) rfl ?_
       repeat (first|(show SW _ _ _ _ (⟨_,_,_,_,_,some _⟩::_) _ _;refine SW.bU rfl rfl (by with_reducible rfl) ?_)|refine SW.pure rfl rfl ?_)
       refine SW.ah ?_
       refine SA.take 24 aG rfl (by kernel_rfl) (by kernel_rfl) rfl ?_
       repeat (refine SW.pure rfl rfl ?_)
       refine SW.ah ?_
       refine SA.take 25 aG rfl (by kernel_rfl) (by kernel_rfl) rfl ?_
       repeat (refine SW.pure rfl rfl ?_)
       refine SW.ah ?_
       refine SA.take 26 aG rfl (by kernel_rfl) (by kernel_rfl) rfl ?_
       repeat (first|(show SW _ _ _ _ (⟨_,_,_,_,_,some _⟩::_) _ _;first|refine SW.bU rfl rfl (by with_reducible rfl) ?_|refine SW.dQ rfl rfl rfl (by omega) ?_)|refine SW.pure rfl rfl ?_)
       refine SW.ah ?_
       refine SA.take 27 aG rfl (by kernel_rfl) (by kernel_rfl) rfl ?_
       repeat (first|(show SW _ _ _ _ (⟨_,_,_,_,_,some _⟩::_) _ _;refine SW.bU rfl rfl (by with_reducible rfl) ?_)|refine SW.pure rfl rfl ?_)
       refine SW.ah ?_
       refine SA.take 28 aG rfl (by kernel_rfl) (by kernel_rfl) rfl ?_
       repeat (first|(show SW _ _ _ _ (⟨_,_,_,_,_,some _⟩::_) _ _;refine SW.bU rfl rfl (by with_reducible rfl) ?_)|refine SW.pure rfl rfl ?_)
       refine SW.ah ?_
       refine SA.take 29 aG rfl (by kernel_rfl) (by kernel_rfl) rfl ?_
       repeat (first|(show SW _ _ _ _ (⟨_,_,_,_,_,some _⟩::_) _ _;first|refine SW.fP rfl rfl (by with_reducible rfl) ?_|refine SW.gn rfl rfl (by with_reducible rfl) rfl ?_|refine SW.ji rfl rfl rfl (by omega) ?_|refine SW.jj rfl rfl rfl (by omega) ?_)|(show SW _ _ _ _ (⟨_,Op.fieldAddr _ _ _,_,_,_,none⟩::_) _ _;refine SW.st (aC rfl) rfl ?_))
       refine SW.ah ?_
       refine SA.take 30 aG rfl (by kernel_rfl) (by kernel_rfl) rfl ?_
       repeat (first|(show SW _ _ _ _ (⟨_,_,_,_,_,some _⟩::_) _ _;first|refine SW.fP rfl rfl (by with_reducible rfl) ?_|refine SW.gn rfl rfl (by with_reducible rfl) rfl ?_)|(show SW _ _ _ _ (⟨_,Op.load _ _,_,_,_,none⟩::_) _ _;refine SW.st (ak rfl (aA.cell rfl)) rfl ?_))
       refine SW.ah ?_
       refine SA.take 31 aG rfl (by kernel_rfl) (by kernel_rfl) rfl ?_
       repeat (first|(show SW _ _ _ _ (⟨_,_,_,_,_,some _⟩::_) _ _;first|refine SW.fP rfl rfl (by with_reducible rfl) ?_|refine SW.gn rfl rfl (by with_reducible rfl) rfl ?_)|refine SW.pure rfl rfl ?_)
       refine SW.ah ?_
       refine SA.take 32 aG rfl (by kernel_rfl) (by kernel_rfl) rfl ?_
       repeat (first|(show SW _ _ _ _ (⟨_,_,_,_,_,some _⟩::_) _ _;first|refine SW.fP rfl rfl (by with_reducible rfl) ?_|refine SW.gn rfl rfl (by with_reducible rfl) rfl ?_)|(show SW _ _ _ _ (⟨_,Op.binOp _ _ _ _ _,_,_,_,none⟩::_) _ _;refine SW.st (iu rfl rfl (by omega) (by omega)) rfl ?_))
       refine SW.ah ?_
       refine SA.take 33 aG rfl (by kernel_rfl) (by kernel_rfl) rfl ?_
       repeat (first|(show SW _ _ _ _ (⟨_,_,_,_,_,some _⟩::_) _ _;first|refine SW.fP rfl rfl (by with_reducible rfl) ?_|refine SW.gn rfl rfl (by with_reducible rfl) rfl ?_)|(show SW _ _ _ _ (⟨_,Op.indexAddr _ _ _,_,_,_,none⟩::_) _ _;refine SW.st (aY (k-1) rfl rfl (by assumption) (by omega) (by omega)) rfl ?_))
       refine SW.ah ?_
       refine SA.take 34 aG rfl (by kernel_rfl) (by kernel_rfl) rfl ?_
       repeat (first|(show SW _ _ _ _ (⟨_,_,_,_,_,some _⟩::_) _ _;first|refine SW.fP rfl rfl (by with_reducible rfl) ?_|refine SW.gn rfl rfl (by with_reducible rfl) rfl ?_)|(show SW _ _ _ _ (⟨_,Op.fieldAddr _ _ _,_,_,_,none⟩::_) _ _;refine SW.st (aC rfl) rfl ?_))
       refine SW.ah ?_
       refine SA.take 35 aG rfl (by kernel_rfl) (by kernel_rfl) rfl ?_
       repeat (first|(show SW _ _ _ _ (⟨_,_,_,_,_,some _⟩::_) _ _;first|refine SW.fP rfl rfl (by with_reducible rfl) ?_|refine SW.gn rfl rfl (by with_reducible rfl) rfl ?_)|(show SW _ _ _ _ (⟨_,Op.load _ _,_,_,_,none⟩::_) _ _;refine SW.st (ao hw rfl uE) rfl ?_))
       refine SW.ah ?_
       refine SA.take 36 aG rfl (by kernel_rfl) (by kernel_rfl) rfl ?_
       repeat (first|(show SW _ _ _ _ (⟨_,_,_,_,_,some _⟩::_) _ _;first|refine SW.fP rfl rfl (by with_reducible rfl) ?_|refine SW.gn rfl rfl (by with_reducible rfl) rfl ?_)|(show SW _ _ _ _ (⟨_,Op.fieldAddr _ _ _,_,_,_,none⟩::_) _ _;refine SW.st (aC rfl) rfl ?_))
       refine SW.ah ?_
       refine SA.take 37 aG rfl (by kernel_rfl) (by kernel_rfl) rfl ?_
       repeat (first|(show SW _ _ _ _ (⟨_,_,_,_,_,some _⟩::_) _ _;first|refine SW.fP rfl rfl (by with_reducible rfl) ?_|refine SW.gn rfl rfl (by with_reducible rfl) rfl ?_)|(show SW _ _ _ _ (⟨_,Op.load _ _,_,_,_,none⟩::_) _ _;refine SW.st (ak rfl (bC.cell rfl)) rfl ?_))
       refine SW.ah ?_
       refine SA.take 38 aG rfl (by kernel_rfl) (by kernel_rfl) rfl ?_
       repeat (first|(show SW _ _ _ _ (⟨_,_,_,_,_,some _⟩::_) _ _;first|refine SW.fP rfl rfl (by with_reducible rfl) ?_|refine SW.gn rfl rfl (by with_reducible rfl) rfl ?_)|refine SW.pure rfl rfl ?_)
       refine SW.ah ?_
       refine SA.take 39 aG rfl (by kernel_rfl) (by kernel_rfl) rfl ?_
       repeat (first|(show SW _ _ _ _ (⟨_,_,_,_,_,some _⟩::_) _ _;refine SW.bU rfl rfl (by with_reducible rfl) ?_)|refine SW.pure rfl rfl ?_)
       refine SW.ah ?_
       refine SA.take 40 aG rfl (by kernel_rfl) (by kernel_rfl) rfl ?_
       repeat (refine SW.pure rfl rfl ?_)
       refine SW.ah ?_
       refine SA.take 41 aG rfl (by kernel_rfl) (by kernel_rfl) rfl ?_
       repeat (refine SW.pure rfl rfl ?_)
       refine SW.ah ?_
       refine SA.take 42 aG rfl (by kernel_rfl) (by kernel_rfl) rfl ?_
       repeat (first|(show SW _ _ _ _ (⟨_,_,_,_,_,some _⟩::_) _ _;first|refine SW.bU rfl rfl (by with_reducible rfl) ?_|refine SW.jj rfl rfl rfl (by omega) ?_)|refine SW.pure rfl rfl ?_)
       refine SW.ah ?_
       refine SA.take 43 aG rfl (by kernel_rfl) (by kernel_rfl) rfl ?_
       repeat (first|(show SW _ _ _ _ (⟨_,_,_,_,_,some _⟩::_) _ _;refine SW.bU rfl rfl (by with_reducible rfl) ?_)|(show SW _ _ _ _ (⟨_,Op.load _ _,_,_,_,none⟩::_) _ _;refine SW.st (aX rfl rfl ((fun _ _=>bC.cell))) rfl ?_))
       refine SW.ah ?_
       refine SA.done (by kernel_rfl) ?_
       repeat' ((show SW _ _ _ _ (⟨_,_,_,_,_,some _⟩::_) _ _;refine SW.bU rfl rfl (by with_reducible rfl) ?_))
       refine SW.yv rfl rfl rfl (sL b3 _ bb w _ hw cn hS hF.2 hF.len Im) fun v w6 hv => ?_
       obtain ⟨DF,hK,sD⟩:=hv
       replace hw:=DF
       replace aA:=hK.k _ _ _ aA rfl rfl
       rcases sD with ⟨rfl,hf,mx⟩|⟨rfl,hf,mx⟩
       ·rw [List.append_assoc,← BF] at mx
        have CL:=hF.add Im hf
        rw [List.append_assoc,← BF] at CL
        repeat' (first|(first|refine CW.region ?_|refine CW.bA rfl ?_|refine CW.skip ?_)|(first|refine ae.seq ?_|refine ae.cU ?_|refine ae.np ?_)|refine SW.nil ?_|(show SW _ _ _ _ (⟨_,_,_,_,_,some _⟩::_) _ _;refine SW.bU rfl rfl (by with_reducible rfl) ?_)|refine SW.pure rfl rfl ?_|(show SW _ _ _ _ (⟨_,Op.binOp _ _ _ _ _,_,_,_,none⟩::_) _ _;refine SW.st (kM rfl rfl (by omega) (by omega)) rfl ?_))
        exact ae.again (k+1) ⟨rfl,rfl,rfl,rfl,trivial⟩ (by omega) ⟨by omega,hw,aA,mx,CL,AJ⟩
       ·repeat' (first|(first|refine CW.seq ?_|refine CW.region ?_|refine CW.bF rfl ?_|refine CW.ret ?_)|(first|refine ae.seq ?_|refine ae.fF ?_|refine ae.iq ?_|refine ae.eK ?_|refine ae.np ?_)|refine SW.nil ?_|(show SW _ _ _ _ (⟨_,_,_,_,_,some _⟩::_) _ _;refine SW.bU rfl rfl (by with_reducible rfl) ?_)|refine SW.pure rfl rfl ?_)
        exact ae.aN rfl rfl ⟨_,rfl,hw,by rw [dI (k6 hf)]⟩
    ·obtain rfl:k=r.Live.n:=by omega
     rw [List.take_of_length_le (by omega)] at hS hF
     have E9:(bi (bi (j6 h z0 z1) (aS h.av)) h.Live).isSome=true:=by
      have:=hF.1
      rw [LK,br,br] at this
      unfold j6
      rw [this]
      rfl
     have Nj:bD h:=bD.of lV hd CI hL (hP.ok (by omega) E9) E9
     repeat' (first|(first|refine CW.seq ?_|refine CW.region ?_|refine CW.im rfl (by omega) ?_|refine CW.ret ?_|refine CW.exit ?_)|(first|refine ae.seq ?_|refine ae.il ?_|refine ae.hit ?_|refine ae.fh ?_)|refine SW.nil ?_|refine SW.pure rfl rfl ?_|(show SW _ _ _ _ (⟨_,Op.fieldAddr _ _ _,_,_,_,none⟩::_) _ _;refine SW.st (aC rfl) rfl ?_)|(show SW _ _ _ _ (⟨_,Op.call ⟨.builtin .len,_,_⟩,_,_,_,none⟩::_) _ _;refine SW.st (eQ rfl) rfl ?_)|(show SW _ _ _ _ (⟨_,Op.load _ _,_,_,_,none⟩::_) _ _;refine SW.st (ak rfl (aA.cell rfl)) rfl ?_))
     exact ae.aN rfl rfl ⟨_,rfl,hw,by rw [oU Nj]⟩
 ·rw [dI (fun hh=>hd hh.Ig)]
  have ic:r.aQ.n≠2∨(r.aQ.n=2∧(r.bH.n≠2∨(r.bH.n=2 ∧ ¬ (1≤r.bW∧r.bW≤4)))):=by unfold oo at hd;omega
  rcases ic with d|⟨d1,d|⟨d2,d⟩⟩
  repeat' (first|(first|refine CW.seq ?_|refine CW.region ?_|refine CW.kL rfl (by with_reducible rfl) ?_|refine CW.ret ?_)|(first|refine ae.seq ?_|refine ae.fF ?_)|refine SW.nil ?_|(show SW _ _ _ _ (⟨_,_,_,_,_,some _⟩::_) _ _;first|refine SW.bU rfl rfl (by with_reducible rfl) ?_|refine SW.kK rfl rfl (by with_reducible rfl) rfl ?_|refine SW.gw rfl rfl rfl (by omega) ?_|refine SW.dQ rfl rfl rfl (by omega) ?_)|refine SW.pure rfl rfl ?_|(show SW _ _ _ _ (⟨_,Op.fieldAddr _ _ _,_,_,_,none⟩::_) _ _;refine SW.st (aC rfl) rfl ?_)|(show SW _ _ _ _ (⟨_,Op.call ⟨.builtin .len,_,_⟩,_,_,_,none⟩::_) _ _;refine SW.st (eQ rfl) rfl ?_)|(show SW _ _ _ _ (⟨_,Op.load _ _,_,_,_,none⟩::_) _ _;refine SW.st (ak rfl (aA.cell rfl)) rfl ?_)|(show SW _ _ _ _ (⟨_,Op.call ⟨.value (.func _),_,_⟩,_,_,_,none⟩::_) _ _;(refine SW.call rfl rfl (bM _ _ _ _) ?_;intro v w1 ab hv;subst hv;replace hw:=Ext.trans hw ab;replace aA:=aA.ext ab;clear ab)))
  all_goals exact ae.aN rfl rfl ⟨_,rfl,hw,rfl⟩
open Go.RowKit
open Go.RowKit
end Go.Proofs.YtjimadiidbkohaaGreatDoor
