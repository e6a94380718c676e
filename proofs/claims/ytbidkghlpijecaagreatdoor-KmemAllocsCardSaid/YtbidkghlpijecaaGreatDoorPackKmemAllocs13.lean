/-
  Texts of the claim KmemAllocs, part 13: what its theorem leans on.
-/
import Derived.Test.YtbidkghlpijecaaGreatDoorPackKmemAllocs9
set_option linter.unusedVariables false
set_option linter.unusedSimpArgs false
namespace Go.Proofs.YtbidkghlpijecaaGreatDoor
open Go.RowKit
def nk (L:List Block) : Prop:=bi (some []) L=some L ∧ ∀ y∈L,dE 0 256 y
theorem nk.nil:nk []:=⟨rfl,fun y h=>by simp at h⟩
theorem nk.len {L:List Block} (h:nk L) : L.length≤256:=ta (fun b hb=>(bE (h.2 b hb).1.1 (h.2 b hb).1.2.1).1) h.1
theorem nk.add {L:List Block} {b:Block} (h:nk L) (hb:dE 0 256 b) (hf:lp L b) : nk (L++[b]):=by
 refine ⟨?_,fun y hy => ?_⟩
 ·rw [bt,h.1];show jP (some L) b=_
  simp [jP,hf]
 ·rcases List.mem_append.1 hy with hy|hy
  ·exact h.2 y hy
  ·simp at hy;subst hy;exact hb
theorem nk.no {L M:List Block} {b:Block} (h:nk L) (hf : ¬ lp L b) : bi (some []) (L++[b]++M)=none:=by
 rw [bt,bt,h.1];have:bi (some L) [b]=none:=by show jP (some L) b=none;simp [jP,hf]
 rw [this,fg]
theorem dE.wide {f t:Int} {b:Block} (h:dE f t b) (h0 : 0≤f) (ht:t≤256) : dE 0 256 b:=by
 obtain ⟨⟨o1,o2,a1,a2,a3⟩,ty⟩:=h;exact ⟨⟨o1,o2,by omega,by omega,a3⟩,ty⟩
theorem xK {zs:List ar} {k j:Nat} (hk:k<zs.length) (hj:j<(zs[k]).ag.length) : ∃ M,zs.flatMap ar.ag=((zs.take k).flatMap ar.ag++(zs[k]).ag.take j)++[(zs[k]).ag[j]]++M:=by
 refine ⟨(zs[k]).ag.drop (j+1)++(zs.drop (k+1)).flatMap ar.ag,?_⟩;have e1:zs=zs.take k++([zs[k]]++zs.drop (k+1)):=by simp
 have e2:(zs[k]).ag=(zs[k]).ag.take j++([(zs[k]).ag[j]]++(zs[k]).ag.drop (j+1)):=by simp
 conv=>lhs;rw [e1,List.flatMap_append,List.flatMap_append]
 simp only [List.flatMap_cons,List.flatMap_nil,List.append_nil]
 conv=>lhs;rw [e2]
 simp only [List.append_assoc]
theorem bD.all {h:Heap} (a:bD h) : (bi (some []) (h.aQ.flatMap ar.ag++aT h.av++h.Live)).isSome=true:=by
 obtain ⟨z0,z1,e,_,_,_,_,_,_,a7⟩:=a.cQ;rw [e];simpa using a7
set_option maxHeartbeats 8000000 in
theorem xL (r:eB) (h:Heap) (w:World) (hr:wI w r h) (hs:h.small) (C8:∀ z∈h.aQ,qX z) :
 bo Tryz.prog 114 [.agg (bm r).toArray] w fun v _=>v = .bool (iN h):=by
 refine aI Tryz.func114 rfl Tryz.ntmps114 rfl ?_
 refine CW.seq (CW.region (SW.box rfl rfl fun b1 w1 hw gV aB => ?_))
 have CS:=hr.dY
 have Ka:=hr.ck.len
 obtain ⟨K9,uw⟩:=hr.cQ
 obtain ⟨G3,AW⟩:=uw.len
 clear uw G3 K9
 by_cases hd:oG h
 ·obtain ⟨d1,d2,d3⟩:=id hd
  obtain ⟨r0,r1,z0,z1,jl⟩:=hr.two d1
  obtain ⟨m0,m1,em⟩:=qt d2
  have FR:=hr.ck
  rw [em] at FR
  have Px:=hr.ck.base
  have I8 : 0<r.bJ.n:=by omega
  have I9 : 1<r.bJ.n:=by omega
  have g0:w.cell? ((r.bJ.A.getD default).add (0*1))=some (.int .i64 m0):=FR.one I8 rfl
  have g1:w.cell? ((r.bJ.A.getD default).add (1*1))=some (.int .i64 m1):=FR.one I9 rfl
  have l8:=jl.eq
  have hA:=jl.row.base
  have FN:=C8 z0 (by rw [l8];simp)
  have px:=C8 z1 (by rw [l8];simp)
  have s0:=hs.free z0 (by rw [l8];simp)
  have s1:=hs.free z1 (by rw [l8];simp)
  have NQ:=jl.z0.from_
  have NR:=jl.z0.j6
  have NS:=jl.z1.from_
  have NT:=jl.z1.j6
  have l0:=jl.z0.free.len
  have l1:=jl.z1.free.len
  have t0:=jl.z0.types.len
  have t1:=jl.z1.types.len
  unfold qX at FN px
  obtain ⟨q0,G4⟩ : ∃ q,ed z0=q:=⟨_,rfl⟩
  obtain ⟨q1,qY⟩ : ∃ q,ed z1=q:=⟨_,rfl⟩
  have c0:∀ w',Ext w w'→bo Tryz.prog 195 [.agg (bp r0).toArray] w' fun v _=>v = .bool q0:=fun w' hx=>by
   have:=kE r0 z0 w' (jl.z0.ext hx) (by omega) (by omega) (by omega) (by omega)
   rwa [G4] at this
  have c1:∀ w',Ext w w'→bo Tryz.prog 195 [.agg (bp r1).toArray] w' fun v _=>v = .bool q1:=fun w' hx=>by
   have:=kE r1 z1 w' (jl.z1.ext hx) (by omega) (by omega) (by omega) (by omega)
   rwa [qY] at this
  have La:(q0=true∧q1=true)∨(q0=false)∨(q0=true∧q1=false):=by cases q0<;>cases q1<;>simp
  rcases La with ⟨rfl,rfl⟩|rfl|⟨rfl,rfl⟩
  repeat' (first|(first|refine CW.seq ?_|refine CW.region ?_|refine CW.kS rfl (by with_reducible rfl) ?_|refine CW.bO rfl ?_|refine CW.bB rfl ?_|refine CW.skip ?_|refine CW.ret ?_)|(first|refine ae.seq ?_|refine ae.fG ?_)|refine SW.nil ?_|(show SW _ _ _ _ (⟨_,_,_,_,_,some _⟩::_) _ _;first|refine SW.bW rfl rfl (by with_reducible rfl) ?_|refine SW.dS rfl rfl rfl (by omega) ?_|refine SW.want rfl rfl ?_|refine SW.skip rfl rfl rfl rfl ?_)|refine SW.pure rfl rfl ?_|(show SW _ _ _ _ (⟨_,Op.fieldAddr _ _ _,_,_,_,none⟩::_) _ _;refine SW.st (aD rfl) rfl ?_)|(show SW _ _ _ _ (⟨_,Op.indexAddr _ _ _,_,_,_,none⟩::_) _ _;first|refine SW.st (bc (0) rfl rfl (by assumption) (by omega) (by omega)) rfl ?_|refine SW.st (bc (1) rfl rfl (by assumption) (by omega) (by omega)) rfl ?_)|(show SW _ _ _ _ (⟨_,Op.call ⟨.builtin .len,_,_⟩,_,_,_,none⟩::_) _ _;refine SW.st (eV rfl) rfl ?_)|(show SW _ _ _ _ (⟨_,Op.load _ _,_,_,_,none⟩::_) _ _;first|refine SW.st (ao rfl (aB.cell rfl)) rfl ?_|refine SW.st (aH hw rfl rfl ((jl.c0))) rfl ?_|refine SW.st (aH hw rfl rfl ((jl.c1))) rfl ?_)|(show SW _ _ _ _ (⟨_,Op.call ⟨.value (.func _),_,_⟩,_,_,_,none⟩::_) _ _;first|(refine SW.call rfl rfl (c0 _ hw) ?_;intro v w1 ab hv;subst hv;replace hw:=Ext.trans hw ab;replace aB:=aB.ext ab;clear ab)|(refine SW.call rfl rfl (c1 _ hw) ?_;intro v w1 ab hv;subst hv;replace hw:=Ext.trans hw ab;replace aB:=aB.ext ab;clear ab)|(refine SW.call rfl rfl (bP _ _ _ _) ?_;intro v w1 ab hv;subst hv;replace hw:=Ext.trans hw ab;replace aB:=aB.ext ab;clear ab)))
  rotate_left
  ·exact ae.aO rfl rfl ⟨_,rfl,hw,by rw [dM (fun hh=>by have:=dH.2 (hh.front l8).one;rw [G4] at this;cases this)]⟩
  ·exact ae.aO rfl rfl ⟨_,rfl,hw,by rw [dM (fun hh=>by have:=dH.2 (hh.front l8).two;rw [qY] at this;cases this)]⟩
  clear c0 c1
  have sZ:=dH.1 G4
  have Cc:=dH.1 qY
  have gG:(r0.aX=0∧r1.aX=r0.To∧r1.To=256∧(0≤m0∧m0≤256)∧(0≤m1∧m1≤256))∨r0.aX≠0∨(r0.aX=0∧r1.aX≠r0.To)∨(r0.aX=0∧r1.aX=r0.To∧r1.To≠256)∨(r0.aX=0∧r1.aX=r0.To∧r1.To=256 ∧ ¬ (0≤m0∧m0≤256))∨(r0.aX=0∧r1.aX=r0.To∧r1.To=256∧(0≤m0∧m0≤256) ∧ ¬ (0≤m1∧m1≤256)):=by omega
  have MH:bD h→(0≤m0∧m0≤256)∧(0≤m1∧m1≤256):=fun hh=>by
   have:=(hh.front l8).ck
   rw [em] at this
   simp [uv] at this
   omega
  rcases gG with ⟨d1,d2,d3,d4,d5⟩|d|⟨d1,d⟩|⟨d1,d2,d⟩|⟨d1,d2,d3,d⟩|⟨d1,d2,d3,d4,d⟩
  repeat' (first|(first|refine CW.seq ?_|refine CW.region ?_|refine CW.kS rfl (by with_reducible rfl) ?_|refine CW.ny rfl (by omega) ?_|refine CW.oU rfl (by omega) ?_|refine CW.skip ?_|refine CW.ret ?_|(apply CW.aP mixed;(· kernel_rfl);rotate_left;intro w1 ab;replace hw:=Ext.trans hw ab;replace aB:=aB.ext ab;clear ab;rotate_right))|(first|refine ae.seq ?_|refine ae.fG ?_)|refine SW.nil ?_|(show SW _ _ _ _ (⟨_,_,_,_,_,some _⟩::_) _ _;first|refine SW.bW rfl rfl (by with_reducible rfl) ?_|refine SW.kR rfl rfl (by with_reducible rfl) rfl ?_|refine SW.gx rfl rfl rfl (by omega) ?_|refine SW.dS rfl rfl rfl (by omega) ?_)|refine SW.pure rfl rfl ?_|(show SW _ _ _ _ (⟨_,Op.fieldAddr _ _ _,_,_,_,none⟩::_) _ _;refine SW.st (aD rfl) rfl ?_)|(show SW _ _ _ _ (⟨_,Op.indexAddr _ _ _,_,_,_,none⟩::_) _ _;first|refine SW.st (bj rfl rfl (by assumption) (by omega)) rfl ?_|refine SW.st (bc (0) rfl rfl (by assumption) (by omega) (by omega)) rfl ?_|refine SW.st (bc (1) rfl rfl (by assumption) (by omega) (by omega)) rfl ?_)|(show SW _ _ _ _ (⟨_,Op.load _ _,_,_,_,none⟩::_) _ _;first|refine SW.st (ao rfl (aB.cell rfl)) rfl ?_|refine SW.st (ap hw rfl (jl.c0 0 _ rfl)) rfl ?_|refine SW.st (ap hw rfl (jl.c0 1 _ rfl)) rfl ?_|refine SW.st (ap hw rfl (jl.c1 0 _ rfl)) rfl ?_|refine SW.st (ap hw rfl (jl.c1 1 _ rfl)) rfl ?_|refine SW.st (ap hw rfl g0) rfl ?_|refine SW.st (ap hw rfl g1) rfl ?_)|(show SW _ _ _ _ (⟨_,Op.call ⟨.value (.func _),_,_⟩,_,_,_,none⟩::_) _ _;refine SW.br rfl rfl (fun w1 ab=>(bP _ _ _ _)) ?_)|exact SW.bx rfl)
  rotate_left
  iterate 5 exact ae.aO rfl rfl ⟨_,rfl,hw,by rw [dM (fun hh=>by have h1:=(hh.front l8).from_;have h2:=(hh.front l8).Ao;have h3:=(hh.front l8).j6;have h4:=MH hh;omega)]⟩
  clear MH g0 g1 FR
  have Oc : 0≤z0.aX∧z0.aX≤z0.To∧z0.To≤256:=⟨sZ.ok.1,sZ.ok.2.1,sZ.ok.2.2.1⟩
  have C9:rU h z0 z1:=⟨sZ,Cc,by omega,by omega,by omega,by rw [em];simp [uv];omega⟩
  have hn:=jl.n
  have vf:∀ z∈h.aQ,∀ b∈z.ag,dE 0 256 b:=fun z hz b hb=>by
   obtain ⟨i,hi,rfl⟩:=List.getElem_of_mem hb
   rw [l8] at hz
   simp only [List.mem_cons,List.not_mem_nil,or_false] at hz
   rcases hz with rfl|rfl
   ·exact (sZ.c8 i hi).wide sZ.ok.1 sZ.ok.2.2.1
   ·exact (Cc.c8 i hi).wide Cc.ok.1 Cc.ok.2.2.1
  refine SW.alloc rfl fun b3 w2 cq bH aq => ?_
  have cw:w.heap.size≤b3:=Nat.le_trans hw.size bH
  (replace hw:=Ext.trans hw cq;replace aB:=aB.ext cq)
  have hS:rD w2 w.heap.size b3 []:=⟨none,0,aq,Own.eJ _ _ _ _ _ _⟩
  clear aq
  repeat' (first|(first|refine CW.seq ?_|refine CW.region ?_|refine CW.block ?_)|(refine ae.seq ?_)|refine SW.nil ?_|refine SW.pure rfl rfl ?_|(refine SW.st (iz (vs:=[.pointer (some ⟨b3,0,none⟩)]) rfl) rfl ?_))
  refine CW.loop (fun k:Nat=>[(1,.pointer (some ⟨b1,0,none⟩)),(3,.pointer (some ⟨b3,0,none⟩)),(4,.func (.func 196) #[] ([.pointer (some ⟨b3,0,none⟩)] : List Value).toArray),(5,.int .i64 (k:Int))])
   (fun k w'=>k≤2∧Ext w w'∧aJ w' b1 41 (bm r)∧rD w' w.heap.size b3 ((h.aQ.take k).flatMap ar.ag)∧nk ((h.aQ.take k).flatMap ar.ag)) (fun k=>2-k) 0
   ⟨rfl,rfl,rfl,rfl,trivial⟩ ⟨by omega,hw,aB,hS,nk.nil⟩ ?_
  clear hw aB hS cq
  rintro k w' ⟨hk,hw,aB,hS,hF⟩
  by_cases Da:k<2
  ·have Kb:k<h.aQ.length:=by omega
   have dw:=jl.row.all (i:=k) (by omega)
   have Db:uj w ([r0,r1][k]'(by simpa using Da)) h.aQ[k]:=by
    simp only [l8]
    have:k=0∨k=1:=by omega
    rcases this with rfl|rfl
    ·exact jl.z0
    ·exact jl.z1
   generalize NU:([r0,r1][k]'(by simpa using Da))=rk at dw Db
   have pa:=vf h.aQ[k] (List.getElem_mem _)
   have FL:=hs.free h.aQ[k] (List.getElem_mem _)
   have Ch:(h.aQ.take (k+1)).flatMap ar.ag=(h.aQ.take k).flatMap ar.ag++h.aQ[k].ag:=by
    rw [List.take_succ_eq_append_getElem Kb,List.flatMap_append];simp
   have lf:∀ (j:Nat) (hj:j<h.aQ[k].ag.length),nk ((h.aQ.take k).flatMap ar.ag++h.aQ[k].ag.take j) → ¬ lp ((h.aQ.take k).flatMap ar.ag++h.aQ[k].ag.take j) h.aQ[k].ag[j] → ¬ bD h:=fun j hj hf hx hh=>by
    obtain ⟨M,hM⟩:=xK Kb hj
    have:=hh.all
    have e:=hf.no hx (M:=M++aT h.av++h.Live)
    rw [hM] at this
    simp only [List.append_assoc] at this e
    rw [e] at this
    cases this
   generalize h.aQ[k]=zk at Db pa FL Ch lf
   have NV:=Db.free.base
   have uq:=Db.free.len
   repeat' (first|(first|refine CW.seq ?_|refine CW.region ?_|refine CW.block ?_|refine CW.jd rfl (by omega) ?_|refine CW.skip ?_)|(refine ae.seq ?_)|refine SW.nil ?_|refine SW.pure rfl rfl ?_)
   refine CW.loop (fun j:Nat=>[(1,.pointer (some ⟨b1,0,none⟩)),(3,.pointer (some ⟨b3,0,none⟩)),(4,.func (.func 196) #[] ([.pointer (some ⟨b3,0,none⟩)] : List Value).toArray),(5,.int .i64 (k:Int)),(6,.int .i64 (j:Int))])
    (fun j w'=>j≤rk.ag.n∧Ext w w'∧aJ w' b1 41 (bm r)∧rD w' w.heap.size b3 ((h.aQ.take k).flatMap ar.ag++zk.ag.take j)∧nk ((h.aQ.take k).flatMap ar.ag++zk.ag.take j)) (fun j=>rk.ag.n-j) 0
    ⟨rfl,rfl,rfl,rfl,rfl,trivial⟩ ⟨by omega,hw,aB,by simpa using hS,by simpa using hF⟩ ?_
   clear hw aB hS hF
   rintro j w' ⟨hj,hw,aB,hS,hF⟩
   by_cases je:j<rk.ag.n
   ·have kV:j<zk.ag.length:=by omega
    have ID:=pa zk.ag[j] (List.getElem_mem _)
    have Ib:zk.ag.take (j+1)=zk.ag.take j++[zk.ag[j]]:=List.take_succ_eq_append_getElem kV
    repeat' (first|(first|refine CW.seq ?_|refine CW.region ?_|refine CW.block ?_|refine CW.jd rfl (by omega) ?_|refine CW.skip ?_)|(refine ae.seq ?_)|refine SW.nil ?_|refine SW.pure rfl rfl ?_|(show SW _ _ _ _ (⟨_,Op.fieldAddr _ _ _,_,_,_,none⟩::_) _ _;refine SW.st (aD rfl) rfl ?_)|(show SW _ _ _ _ (⟨_,Op.indexAddr _ _ _,_,_,_,none⟩::_) _ _;refine SW.st (bj rfl rfl (by assumption) (by omega)) rfl ?_)|(show SW _ _ _ _ (⟨_,Op.call ⟨.builtin .len,_,_⟩,_,_,_,none⟩::_) _ _;refine SW.st (eV rfl) rfl ?_)|(show SW _ _ _ _ (⟨_,Op.load _ _,_,_,_,none⟩::_) _ _;first|refine SW.st (ao rfl (aB.cell rfl)) rfl ?_|refine SW.st (ap hw rfl (dw 2 _ rfl)) rfl ?_|refine SW.st (aH hw rfl rfl ((Db.free.all je))) rfl ?_))
    refine SW.yZ rfl rfl rfl (tc b3 _ zk.ag[j] w _ hw cw hS hF.2 hF.len ID) fun v w5 hv => ?_
    obtain ⟨iV,hK,s8⟩:=hv
    replace hw:=iV
    replace aB:=hK.k _ _ _ aB rfl rfl
    rcases s8 with ⟨rfl,hf,mJ⟩|⟨rfl,hf,mJ⟩
    ·rw [List.append_assoc,← Ib] at mJ
     have Dn:=hF.add ID hf
     rw [List.append_assoc,← Ib] at Dn
     repeat' (first|(first|refine CW.region ?_|refine CW.bB rfl ?_|refine CW.skip ?_)|(first|refine ae.seq ?_|refine ae.c8 ?_)|refine SW.nil ?_|refine SW.pure rfl rfl ?_|(show SW _ _ _ _ (⟨_,Op.binOp _ _ _ _ _,_,_,_,none⟩::_) _ _;refine SW.st (kT rfl rfl (by omega) (by omega)) rfl ?_))
     exact ae.again (j+1) ⟨rfl,rfl,rfl,rfl,rfl,trivial⟩ (by omega) ⟨by omega,hw,aB,mJ,Dn⟩
    ·repeat' (first|(first|refine CW.seq ?_|refine CW.region ?_|refine CW.bO rfl ?_|refine CW.ret ?_)|(first|refine ae.seq ?_|refine ae.fG ?_|refine ae.iv ?_|refine ae.eU ?_)|refine SW.nil ?_|refine SW.pure rfl rfl ?_)
     exact ae.aO rfl rfl ⟨_,rfl,hw,by rw [dM (lf j kV hF hf)]⟩
   ·obtain rfl:j=rk.ag.n:=by omega
    rw [List.take_of_length_le (l:=zk.ag) (by omega),← Ch] at hS hF
    repeat' (first|(first|refine CW.seq ?_|refine CW.region ?_|refine CW.iu rfl (by omega) ?_|refine CW.exit ?_)|(first|refine ae.seq ?_|refine ae.ir ?_|refine ae.hit ?_|refine ae.c8 ?_|refine ae.fk ?_)|refine SW.nil ?_|refine SW.pure rfl rfl ?_|(show SW _ _ _ _ (⟨_,Op.fieldAddr _ _ _,_,_,_,none⟩::_) _ _;refine SW.st (aD rfl) rfl ?_)|(show SW _ _ _ _ (⟨_,Op.binOp _ _ _ _ _,_,_,_,none⟩::_) _ _;refine SW.st (kT rfl rfl (by omega) (by omega)) rfl ?_)|(show SW _ _ _ _ (⟨_,Op.indexAddr _ _ _,_,_,_,none⟩::_) _ _;refine SW.st (bj rfl rfl (by assumption) (by omega)) rfl ?_)|(show SW _ _ _ _ (⟨_,Op.call ⟨.builtin .len,_,_⟩,_,_,_,none⟩::_) _ _;refine SW.st (eV rfl) rfl ?_)|(show SW _ _ _ _ (⟨_,Op.load _ _,_,_,_,none⟩::_) _ _;first|refine SW.st (ao rfl (aB.cell rfl)) rfl ?_|refine SW.st (ap hw rfl (dw 2 _ rfl)) rfl ?_))
    exact ae.again (k+1) ⟨rfl,rfl,rfl,rfl,trivial⟩ (by omega) ⟨by omega,hw,aB,hS,hF⟩
  ·obtain rfl:k=2:=by omega
   rw [List.take_of_length_le (by omega)] at hS hF
   have Ki:=fun hh:bD h=>hh.all
   have MI:h.aQ.flatMap ar.ag=z0.ag++z1.ag:=by rw [l8];simp
   generalize h.aQ.flatMap ar.ag=F at hS hF Ki MI
   have MJ:=hF.1
   obtain ⟨ls,hl⟩:=hr.lists
   obtain ⟨wV,Mw⟩:=hl.len
   have Py:=hl.row.base
   have El:=hs.lists
   repeat' (first|(first|refine CW.seq ?_|refine CW.region ?_|refine CW.block ?_|refine CW.iu rfl (by omega) ?_|refine CW.exit ?_)|(first|refine ae.seq ?_|refine ae.ir ?_|refine ae.hit ?_|refine ae.fk ?_)|refine SW.nil ?_|refine SW.pure rfl rfl ?_)
   refine CW.loop (fun k:Nat=>[(1,.pointer (some ⟨b1,0,none⟩)),(3,.pointer (some ⟨b3,0,none⟩)),(4,.func (.func 196) #[] ([.pointer (some ⟨b3,0,none⟩)] : List Value).toArray),(7,.int .i64 (k:Int))])
    (fun k w'=>k≤r.av.n∧Ext w w'∧aJ w' b1 41 (bm r)∧rD w' w.heap.size b3 (F++aT (h.av.take k))∧nk (F++aT (h.av.take k))∧vV h.bY z0.To h.av k) (fun k=>r.av.n-k) 0
    ⟨rfl,rfl,rfl,rfl,trivial⟩ ⟨by omega,hw,aB,by simpa [aT] using hS,by simpa [aT] using hF,.nil _ _ _⟩ ?_
   clear hw aB hS hF
   rintro k w' ⟨hk,hw,aB,hS,hF,hP⟩
   by_cases cb:k<r.av.n
   ·have dk:k<ls.length:=by omega
    have qV:k<h.av.length:=by omega
    have Bh:=hl.each.get k dk qV
    have KX:=Bh.cpu
    have KY:=Bh.fu
    have de:=Bh.ty
    have NN:=Bh.bL.len
    have NO:=Bh.bL.base
    have As:=Bh.bL
    have dw:=hl.row.all cb
    have fL:=hl.row.all (i:=k-1) (show k-1<r.av.n by omega)
    repeat' (first|(first|refine CW.seq ?_|refine CW.region ?_|refine CW.block ?_|refine CW.jd rfl (by omega) ?_|refine CW.skip ?_)|(refine ae.seq ?_)|refine SW.nil ?_|refine SW.pure rfl rfl ?_|(show SW _ _ _ _ (⟨_,Op.fieldAddr _ _ _,_,_,_,none⟩::_) _ _;refine SW.st (aD rfl) rfl ?_)|(show SW _ _ _ _ (⟨_,Op.indexAddr _ _ _,_,_,_,none⟩::_) _ _;refine SW.st (bj rfl rfl (by assumption) (by omega)) rfl ?_)|(show SW _ _ _ _ (⟨_,Op.call ⟨.builtin .len,_,_⟩,_,_,_,none⟩::_) _ _;refine SW.st (eV rfl) rfl ?_)|(show SW _ _ _ _ (⟨_,Op.load _ _,_,_,_,none⟩::_) _ _;first|refine SW.st (ao rfl (aB.cell rfl)) rfl ?_|refine SW.st (aH hw rfl rfl ((dw))) rfl ?_))
    refine SW.alloc rfl fun b8 w1 ab kY bw => ?_
    skip
    refine SW.ak bw rfl rfl rfl rfl (fw.one (enc:=bq) _) fun w2 iU hg => ?_
    have aj:=ab.own kY hg
    have jr:w.heap.size≤b8:=Nat.le_trans hw.size kY
    replace hw:=Ext.trans hw aj
    replace aB:=aB.ext aj
    replace hS:=hS.ext aj
    replace bw:=iU
    clear iU ab hg aj
    repeat' (first|(refine CW.seq ?_)|(refine ae.seq ?_)|refine SW.nil ?_)
    by_cases yu:mV r.bY h.av[k]
    ·obtain ⟨e1,e2,e3,e4⟩:=id yu
     obtain ⟨q,hq⟩ : ∃ q,decide (bz (h.av[k-1]'(by omega)) h.av[k])=q:=⟨_,rfl⟩
     have yX:=hl.each.get (k-1) (by omega) (by omega)
     have cL:∀ w',bo Tryz.prog 198 [.agg (bq (ls[k-1]'(by omega))).toArray,.agg (bq ls[k]).toArray] w' fun v _=>v = .bool q:=fun w'=>by
      have:=sW (ls[k-1]'(by omega)) ls[k] (h.av[k-1]'(by omega)) h.av[k] w' ⟨yX.cpu,yX.fu,yX.ty⟩ ⟨KX,KY,de⟩
      rwa [hq] at this
     have cU:(0<k∧q=false)∨(0<k∧q=true)∨k=0:=by cases q<;>simp<;>omega
     rcases cU with ⟨p7,rfl⟩|⟨p7,rfl⟩|p7
     repeat' (first|(first|refine CW.seq ?_|refine CW.region ?_|refine CW.block ?_|refine CW.r6 rfl (by with_reducible rfl) ?_|refine CW.iu rfl (by omega) ?_|refine CW.ny rfl (by omega) ?_|refine CW.skip ?_|refine CW.ret ?_|(apply CW.aP mixed;(· kernel_rfl);rotate_left;intro w1 ab;replace hw:=Ext.trans hw ab;replace aB:=aB.ext ab;replace bw:=bw.ext ab;replace hS:=hS.ext ab;clear ab;rotate_right))|(first|refine ae.seq ?_|refine ae.fG ?_|refine ae.iv ?_|refine ae.eU ?_)|refine SW.nil ?_|(show SW _ _ _ _ (⟨_,_,_,_,_,some _⟩::_) _ _;first|refine SW.fQ rfl rfl (by with_reducible rfl) ?_|refine SW.bW rfl rfl (by with_reducible rfl) ?_|refine SW.gp rfl rfl (by with_reducible rfl) rfl ?_|refine SW.jn rfl rfl rfl (by omega) ?_|refine SW.jo rfl rfl rfl (by omega) ?_|refine SW.dS rfl rfl rfl (by omega) ?_)|refine SW.pure rfl rfl ?_|(show SW _ _ _ _ (⟨_,Op.fieldAddr _ _ _,_,_,_,none⟩::_) _ _;refine SW.st (aD rfl) rfl ?_)|(show SW _ _ _ _ (⟨_,Op.binOp _ _ _ _ _,_,_,_,none⟩::_) _ _;refine SW.st (iy rfl rfl (by omega) (by omega)) rfl ?_)|(show SW _ _ _ _ (⟨_,Op.indexAddr _ _ _,_,_,_,none⟩::_) _ _;refine SW.st (bc (k-1) rfl rfl (by assumption) (by omega) (by omega)) rfl ?_)|(show SW _ _ _ _ (⟨_,Op.call ⟨.builtin .len,_,_⟩,_,_,_,none⟩::_) _ _;refine SW.st (eV rfl) rfl ?_)|(show SW _ _ _ _ (⟨_,Op.load _ _,_,_,_,none⟩::_) _ _;first|refine SW.st (ao rfl (bw.cell rfl)) rfl ?_|refine SW.st (ao rfl (aB.cell rfl)) rfl ?_|refine SW.st (aH hw rfl rfl ((fL))) rfl ?_|refine SW.st (aW rfl rfl ((fun _ _=>bw.cell))) rfl ?_)|(show SW _ _ _ _ (⟨_,Op.call ⟨.value (.func _),_,_⟩,_,_,_,none⟩::_) _ _;first|refine SW.br rfl rfl (fun w1 ab=>(cL _)) ?_|refine SW.br rfl rfl (fun w1 ab=>(bP _ _ _ _)) ?_)|exact SW.bx rfl)
     ·exact ae.aO rfl rfl ⟨_,rfl,hw,by rw [dM (fun hh=>by
       have:=(hh.rest l8).1.next (k-1) (by omega)
       simp only [show k-1+1=k by omega] at this
       exact of_decide_eq_false hq this)]⟩
     all_goals
      have KZ:∀ (h0 : 0<k),bz (h.av[k-1]'(by omega)) h.av[k]:=fun h0=>by first|exact of_decide_eq_true hq|omega
      clear cL hq dw fL
      have Ja:∀ (j:Nat) (hj:j<h.av[k].ax.length),nk (F++aT (h.av.take k)++(h.av[k].ax.take j).map db) → ¬ lp (F++aT (h.av.take k)++(h.av[k].ax.take j).map db) (db h.av[k].ax[j]) → ¬ bD h:=fun j hj hf hx hh=>by
       have:=fa (Ki hh)
       have e:=hf.no hx (M:=[])
       have e2:bi (bi (some F) (aT (h.av.take k))) ((h.av[k].ax.take (j+1)).map db)=none:=by
        have e0:bi (some []) F=some F:=by
         have h1:=MJ
         exact h1
        rw [List.take_succ_eq_append_getElem hj,List.map_append,← e0,← bt,← bt]
        simpa using e
       have e3:=qU qV (by omega) e2
       rw [bt,MJ,e3] at this
       cases this
      refine CW.loop (fun j:Nat=>[(1,.pointer (some ⟨b1,0,none⟩)),(3,.pointer (some ⟨b3,0,none⟩)),(4,.func (.func 196) #[] ([.pointer (some ⟨b3,0,none⟩)] : List Value).toArray),(7,.int .i64 (k:Int)),(8,.pointer (some ⟨b8,0,none⟩)),(9,.int .i64 (j:Int))])
       (fun j w'=>j≤ls[k].ax.n∧Ext w w'∧aJ w' b1 41 (bm r)∧aJ w' b8 142 (bq ls[k])∧rD w' w.heap.size b3 (F++aT (h.av.take k)++(h.av[k].ax.take j).map db)∧nk (F++aT (h.av.take k)++(h.av[k].ax.take j).map db) ∧ ∀ (i:Nat) (hi:i<h.av[k].ax.length),i<j→(h.av[k].ax[i]<z0.To↔h.av[k].ar=0)) (fun j=>ls[k].ax.n-j) 0
       ⟨rfl,rfl,rfl,rfl,rfl,rfl,trivial⟩ ⟨by omega,hw,aB,bw,by simpa using hS,by simpa using hF,fun i _ h=>by omega⟩ ?_
      clear hw aB bw hS hF kY jr
      rintro j w' ⟨hj,hw,aB,bw,hS,hF,hZ⟩
      by_cases je:j<ls[k].ax.n
      ·have kV:j<h.av[k].ax.length:=by omega
       have lf:=Ja j kV hF
       have Ib:(h.av[k].ax.take (j+1)).map db=(h.av[k].ax.take j).map db++[db h.av[k].ax[j]]:=by rw [List.take_succ_eq_append_getElem kV,List.map_append];rfl
       have Kj:=As.one je rfl
       have rC:bD h→(h.av[k].ax[j]<z0.To↔h.av[k].ar=0)∧0≤h.av[k].ax[j]∧h.av[k].ax[j]<256:=fun hh=>by
        refine ⟨(hh.rest l8).1.fu k qV _ (List.getElem_mem _),?_⟩
        have h1:=fa (Ki hh)
        have h2:=qW h1 (db h.av[k].ax[j]) (List.mem_append_right _ (List.mem_flatMap.2 ⟨h.av[k],List.getElem_mem _,List.mem_map.2 ⟨_,List.getElem_mem _,rfl⟩⟩))
        simp only [db,jQ] at h2
        omega
       generalize hp:h.av[k].ax[j]=p at lf Ib Kj rC
       have gG:((ls[k].ar=0 ∧ ¬ (r0.aX≤p∧p≤r0.To-1))∨(ls[k].ar=1 ∧ ¬ (r1.aX≤p∧p≤r1.To-1)))∨((ls[k].ar=0∧(r0.aX≤p∧p≤r0.To-1))∨(ls[k].ar=1∧(r1.aX≤p∧p≤r1.To-1))):=by omega
       rcases gG with gG|gG
       ·have ui : ¬ bD h:=fun hh=>by
         have:=rC hh
         omega
        rw [dM ui]
        rcases gG with ⟨a,d⟩|⟨a,d⟩
        repeat' (first|(first|refine CW.seq ?_|refine CW.region ?_|refine CW.block ?_|refine CW.kS rfl (by with_reducible rfl) ?_|refine CW.jd rfl (by omega) ?_|refine CW.skip ?_|refine CW.ret ?_|(apply CW.aP mixed;(· kernel_rfl);rotate_left;intro w1 ab;replace hw:=Ext.trans hw ab;replace aB:=aB.ext ab;replace bw:=bw.ext ab;replace hS:=hS.ext ab;clear ab;rotate_right))|(first|refine ae.seq ?_|refine ae.fG ?_|refine ae.iv ?_|refine ae.eU ?_)|refine SW.nil ?_|(show SW _ _ _ _ (⟨_,_,_,_,_,some _⟩::_) _ _;first|refine SW.kR rfl rfl (by with_reducible rfl) rfl ?_|refine SW.gx rfl rfl rfl (by omega) ?_)|refine SW.pure rfl rfl ?_|(show SW _ _ _ _ (⟨_,Op.fieldAddr _ _ _,_,_,_,none⟩::_) _ _;refine SW.st (aD rfl) rfl ?_)|(show SW _ _ _ _ (⟨_,Op.binOp _ _ _ _ _,_,_,_,none⟩::_) _ _;refine SW.st (iy rfl rfl (by omega) (by omega)) rfl ?_)|(show SW _ _ _ _ (⟨_,Op.indexAddr _ _ _,_,_,_,none⟩::_) _ _;first|refine SW.st (bj rfl rfl (by assumption) (by omega)) rfl ?_|refine SW.st (bc (0) rfl rfl (by assumption) (by omega) (by omega)) rfl ?_|refine SW.st (bc (1) rfl rfl (by assumption) (by omega) (by omega)) rfl ?_)|(show SW _ _ _ _ (⟨_,Op.call ⟨.builtin .len,_,_⟩,_,_,_,none⟩::_) _ _;refine SW.st (eV rfl) rfl ?_)|(show SW _ _ _ _ (⟨_,Op.load _ _,_,_,_,none⟩::_) _ _;first|refine SW.st (ao rfl (bw.cell rfl)) rfl ?_|refine SW.st (ao rfl (aB.cell rfl)) rfl ?_|refine SW.st (ap hw rfl (jl.c0 0 _ rfl)) rfl ?_|refine SW.st (ap hw rfl (jl.c0 1 _ rfl)) rfl ?_|refine SW.st (ap hw rfl (jl.c1 0 _ rfl)) rfl ?_|refine SW.st (ap hw rfl (jl.c1 1 _ rfl)) rfl ?_|refine SW.st (ap hw rfl Kj) rfl ?_)|(show SW _ _ _ _ (⟨_,Op.call ⟨.value (.func _),_,_⟩,_,_,_,none⟩::_) _ _;refine SW.br rfl rfl (fun w1 ab=>(bP _ _ _ _)) ?_)|exact SW.bx rfl)
        all_goals exact ae.aO rfl rfl ⟨_,rfl,hw,rfl⟩
       ·have Jb:(p<z0.To↔h.av[k].ar=0)∧dE 0 256 (db p):=by
         simp only [dE,eX,db,jQ,fp]
         omega
        obtain ⟨Od,Jc⟩:=Jb
        rcases gG with ⟨a,d⟩|⟨a,d⟩
        all_goals
         repeat' (first|(first|refine CW.seq ?_|refine CW.region ?_|refine CW.block ?_|refine CW.jd rfl (by omega) ?_|refine CW.skip ?_)|(refine ae.seq ?_)|refine SW.nil ?_|refine SW.pure rfl rfl ?_|(show SW _ _ _ _ (⟨_,Op.fieldAddr _ _ _,_,_,_,none⟩::_) _ _;refine SW.st (aD rfl) rfl ?_)|(show SW _ _ _ _ (⟨_,Op.call ⟨.builtin .len,_,_⟩,_,_,_,none⟩::_) _ _;refine SW.st (eV rfl) rfl ?_)|(show SW _ _ _ _ (⟨_,Op.load _ _,_,_,_,none⟩::_) _ _;refine SW.st (ao rfl (bw.cell rfl)) rfl ?_))
         refine CW.any 30 mixed (cj (by kernel_rfl)) rfl fun w1 ab aG => ?_
         replace hw:=Ext.trans hw ab;replace aB:=aB.ext ab;replace bw:=bw.ext ab;replace hS:=hS.ext ab;clear ab
         refine SA.take 0 aG rfl (by kernel_rfl) (by kernel_rfl) rfl ?_
         repeat ((show SW _ _ _ _ (⟨_,Op.fieldAddr _ _ _,_,_,_,none⟩::_) _ _;refine SW.st (aD rfl) rfl ?_))
         refine SW.ah ?_
         refine SA.take 1 aG rfl (by kernel_rfl) (by kernel_rfl) rfl ?_
         repeat ((show SW _ _ _ _ (⟨_,Op.load _ _,_,_,_,none⟩::_) _ _;refine SW.st (ao rfl (bw.cell rfl)) rfl ?_))
         refine SW.ah ?_
         refine SA.take 2 aG rfl (by kernel_rfl) (by kernel_rfl) rfl ?_
         repeat (refine SW.pure rfl rfl ?_)
         refine SW.ah ?_
         refine SA.take 3 aG rfl (by kernel_rfl) (by kernel_rfl) rfl ?_
         repeat ((show SW _ _ _ _ (⟨_,Op.indexAddr _ _ _,_,_,_,none⟩::_) _ _;refine SW.st (bj rfl rfl (by assumption) (by omega)) rfl ?_))
         refine SW.ah ?_
         refine SA.take 4 aG rfl (by kernel_rfl) (by kernel_rfl) rfl ?_
         repeat ((show SW _ _ _ _ (⟨_,Op.load _ _,_,_,_,none⟩::_) _ _;refine SW.st (ap hw rfl Kj) rfl ?_))
         refine SW.ah ?_
         refine SA.take 5 aG rfl (by kernel_rfl) (by kernel_rfl) rfl ?_
         repeat ((show SW _ _ _ _ (⟨_,Op.fieldAddr _ _ _,_,_,_,none⟩::_) _ _;refine SW.st (aD rfl) rfl ?_))
         refine SW.ah ?_
         refine SA.take 6 aG rfl (by kernel_rfl) (by kernel_rfl) rfl ?_
         repeat ((show SW _ _ _ _ (⟨_,Op.load _ _,_,_,_,none⟩::_) _ _;refine SW.st (ao rfl (aB.cell rfl)) rfl ?_))
         refine SW.ah ?_
         refine SA.take 7 aG rfl (by kernel_rfl) (by kernel_rfl) rfl ?_
         repeat ((show SW _ _ _ _ (⟨_,Op.fieldAddr _ _ _,_,_,_,none⟩::_) _ _;refine SW.st (aD rfl) rfl ?_))
         refine SW.ah ?_
         refine SA.take 8 aG rfl (by kernel_rfl) (by kernel_rfl) rfl ?_
         repeat ((show SW _ _ _ _ (⟨_,Op.load _ _,_,_,_,none⟩::_) _ _;refine SW.st (ao rfl (bw.cell rfl)) rfl ?_))
         refine SW.ah ?_
         refine SA.take 9 aG rfl (by kernel_rfl) (by kernel_rfl) rfl ?_
         repeat ((show SW _ _ _ _ (⟨_,Op.indexAddr _ _ _,_,_,_,none⟩::_) _ _;first|refine SW.st (bc (0) rfl rfl (by assumption) (by omega) (by omega)) rfl ?_|refine SW.st (bc (1) rfl rfl (by assumption) (by omega) (by omega)) rfl ?_))
         refine SW.ah ?_
         refine SA.take 10 aG rfl (by kernel_rfl) (by kernel_rfl) rfl ?_
         repeat ((show SW _ _ _ _ (⟨_,Op.fieldAddr _ _ _,_,_,_,none⟩::_) _ _;refine SW.st (aD rfl) rfl ?_))
         refine SW.ah ?_
         refine SA.take 11 aG rfl (by kernel_rfl) (by kernel_rfl) rfl ?_
         repeat ((show SW _ _ _ _ (⟨_,Op.load _ _,_,_,_,none⟩::_) _ _;first|refine SW.st (ap hw rfl (jl.c0 0 _ rfl)) rfl ?_|refine SW.st (ap hw rfl (jl.c1 0 _ rfl)) rfl ?_))
         refine SW.ah ?_
         refine SA.take 12 aG rfl (by kernel_rfl) (by kernel_rfl) rfl ?_
         repeat ((show SW _ _ _ _ (⟨_,Op.fieldAddr _ _ _,_,_,_,none⟩::_) _ _;refine SW.st (aD rfl) rfl ?_))
         refine SW.ah ?_
         refine SA.take 13 aG rfl (by kernel_rfl) (by kernel_rfl) rfl ?_
         repeat ((show SW _ _ _ _ (⟨_,Op.load _ _,_,_,_,none⟩::_) _ _;refine SW.st (ao rfl (aB.cell rfl)) rfl ?_))
         refine SW.ah ?_
         refine SA.take 14 aG rfl (by kernel_rfl) (by kernel_rfl) rfl ?_
         repeat ((show SW _ _ _ _ (⟨_,Op.fieldAddr _ _ _,_,_,_,none⟩::_) _ _;refine SW.st (aD rfl) rfl ?_))
         refine SW.ah ?_
         refine SA.take 15 aG rfl (by kernel_rfl) (by kernel_rfl) rfl ?_
         repeat ((show SW _ _ _ _ (⟨_,Op.load _ _,_,_,_,none⟩::_) _ _;refine SW.st (ao rfl (bw.cell rfl)) rfl ?_))
         refine SW.ah ?_
         refine SA.take 16 aG rfl (by kernel_rfl) (by kernel_rfl) rfl ?_
         repeat ((show SW _ _ _ _ (⟨_,Op.indexAddr _ _ _,_,_,_,none⟩::_) _ _;first|refine SW.st (bc (0) rfl rfl (by assumption) (by omega) (by omega)) rfl ?_|refine SW.st (bc (1) rfl rfl (by assumption) (by omega) (by omega)) rfl ?_))
         refine SW.ah ?_
         refine SA.take 17 aG rfl (by kernel_rfl) (by kernel_rfl) rfl ?_
         repeat ((show SW _ _ _ _ (⟨_,Op.fieldAddr _ _ _,_,_,_,none⟩::_) _ _;refine SW.st (aD rfl) rfl ?_))
         refine SW.ah ?_
         refine SA.take 18 aG rfl (by kernel_rfl) (by kernel_rfl) rfl ?_
         repeat ((show SW _ _ _ _ (⟨_,Op.load _ _,_,_,_,none⟩::_) _ _;first|refine SW.st (ap hw rfl (jl.c0 1 _ rfl)) rfl ?_|refine SW.st (ap hw rfl (jl.c1 1 _ rfl)) rfl ?_))
         refine SW.ah ?_
         refine SA.take 19 aG rfl (by kernel_rfl) (by kernel_rfl) rfl ?_
         repeat ((show SW _ _ _ _ (⟨_,Op.binOp _ _ _ _ _,_,_,_,none⟩::_) _ _;refine SW.st (iy rfl rfl (by omega) (by omega)) rfl ?_))
         refine SW.ah ?_
         refine SA.one 20 rfl (by kernel_rfl) rfl ?_
         refine SW.call rfl rfl (bP _ _ _ _) fun v w5 aj hv => ?_
         subst hv
         (replace hw:=Ext.trans hw aj;replace aB:=aB.ext aj;replace bw:=bw.ext aj;replace hS:=hS.ext aj)
         refine SW.nil (ae.sa aj ?_)
         refine SA.take 21 aG rfl (by kernel_rfl) (by kernel_rfl) rfl ?_
         repeat (refine SW.pure rfl rfl ?_)
         refine SW.ah ?_
         refine SA.take 22 aG rfl (by kernel_rfl) (by kernel_rfl) rfl ?_
         repeat (refine SW.pure rfl rfl ?_)
         refine SW.ah ?_
         refine SA.take 23 aG rfl (by kernel_rfl) (by kernel_rfl) rfl ?_
         repeat (first|(show SW _ _ _ _ (⟨_,_,_,_,_,some _⟩::_) _ _;first|refine SW.bW rfl rfl (by with_reducible rfl) ?_|refine SW.dS rfl rfl rfl (by omega) ?_)|refine SW.pure rfl rfl ?_)
         refine SW.ah ?_
         refine SA.take 24 aG rfl (by kernel_rfl) (by kernel_rfl) rfl ?_
         repeat (first|(show SW _ _ _ _ (⟨_,_,_,_,_,some _⟩::_) _ _;refine SW.bW rfl rfl (by with_reducible rfl) ?_)|(show SW _ _ _ _ (⟨_,Op.fieldAddr _ _ _,_,_,_,none⟩::_) _ _;refine SW.st (aD rfl) rfl ?_))
         refine SW.ah ?_
         refine SA.take 25 aG rfl (by kernel_rfl) (by kernel_rfl) rfl ?_
         repeat (first|(show SW _ _ _ _ (⟨_,_,_,_,_,some _⟩::_) _ _;refine SW.bW rfl rfl (by with_reducible rfl) ?_)|(show SW _ _ _ _ (⟨_,Op.load _ _,_,_,_,none⟩::_) _ _;refine SW.st (ao rfl (bw.cell rfl)) rfl ?_))
         refine SW.ah ?_
         refine SA.take 26 aG rfl (by kernel_rfl) (by kernel_rfl) rfl ?_
         repeat (first|(show SW _ _ _ _ (⟨_,_,_,_,_,some _⟩::_) _ _;refine SW.bW rfl rfl (by with_reducible rfl) ?_)|refine SW.pure rfl rfl ?_)
         refine SW.ah ?_
         refine SA.take 27 aG rfl (by kernel_rfl) (by kernel_rfl) rfl ?_
         repeat (first|(show SW _ _ _ _ (⟨_,_,_,_,_,some _⟩::_) _ _;refine SW.bW rfl rfl (by with_reducible rfl) ?_)|(show SW _ _ _ _ (⟨_,Op.indexAddr _ _ _,_,_,_,none⟩::_) _ _;refine SW.st (bj rfl rfl (by assumption) (by omega)) rfl ?_))
         refine SW.ah ?_
         refine SA.take 28 aG rfl (by kernel_rfl) (by kernel_rfl) rfl ?_
         repeat (first|(show SW _ _ _ _ (⟨_,_,_,_,_,some _⟩::_) _ _;refine SW.bW rfl rfl (by with_reducible rfl) ?_)|(show SW _ _ _ _ (⟨_,Op.load _ _,_,_,_,none⟩::_) _ _;refine SW.st (ap hw rfl Kj) rfl ?_))
         refine SW.ah ?_
         refine SA.take 29 aG rfl (by kernel_rfl) (by kernel_rfl) rfl ?_
         repeat (first|(show SW _ _ _ _ (⟨_,_,_,_,_,some _⟩::_) _ _;refine SW.bW rfl rfl (by with_reducible rfl) ?_)|(show SW _ _ _ _ (⟨_,Op.build _ _,_,_,_,none⟩::_) _ _;refine SW.st (fR rfl rfl) rfl ?_))
         refine SW.ah ?_
         refine SA.done (by kernel_rfl) ?_
         repeat' ((show SW _ _ _ _ (⟨_,_,_,_,_,some _⟩::_) _ _;refine SW.bW rfl rfl (by with_reducible rfl) ?_))
         refine SW.yZ rfl rfl rfl (tc b3 _ (db p) w _ hw cw hS hF.2 hF.len Jc) fun v w6 hv => ?_
         obtain ⟨Eo,hK,s8⟩:=hv
         replace hw:=Eo
         replace aB:=hK.k _ _ _ aB rfl rfl
         replace bw:=hK.k _ _ _ bw rfl rfl
         rcases s8 with ⟨rfl,hf,mJ⟩|⟨rfl,hf,mJ⟩
         ·rw [List.append_assoc,← Ib] at mJ
          have Dn:=hF.add Jc hf
          rw [List.append_assoc,← Ib] at Dn
          repeat' (first|(first|refine CW.region ?_|refine CW.iu rfl (by omega) ?_|refine CW.skip ?_)|(first|refine ae.seq ?_|refine ae.c8 ?_|refine ae.np ?_)|refine SW.nil ?_|(show SW _ _ _ _ (⟨_,_,_,_,_,some _⟩::_) _ _;refine SW.bW rfl rfl (by with_reducible rfl) ?_)|refine SW.pure rfl rfl ?_|(show SW _ _ _ _ (⟨_,Op.binOp _ _ _ _ _,_,_,_,none⟩::_) _ _;refine SW.st (kT rfl rfl (by omega) (by omega)) rfl ?_))
          refine ae.again (j+1) ⟨rfl,rfl,rfl,rfl,rfl,rfl,trivial⟩ (by omega) ⟨by omega,hw,aB,bw,mJ,Dn,fun i hi kW => ?_⟩
          by_cases e:i=j
          ·subst e;rw [hp];exact Od
          ·exact hZ i hi (by omega)
         ·repeat' (first|(first|refine CW.seq ?_|refine CW.region ?_|refine CW.bO rfl ?_|refine CW.ret ?_)|(first|refine ae.seq ?_|refine ae.fG ?_|refine ae.iv ?_|refine ae.eU ?_|refine ae.np ?_)|refine SW.nil ?_|(show SW _ _ _ _ (⟨_,_,_,_,_,some _⟩::_) _ _;refine SW.bW rfl rfl (by with_reducible rfl) ?_)|refine SW.pure rfl rfl ?_)
          exact ae.aO rfl rfl ⟨_,rfl,hw,by rw [dM (lf hf)]⟩
      ·obtain rfl:j=ls[k].ax.n:=by omega
       rw [List.take_of_length_le (l:=h.av[k].ax) (by omega),List.append_assoc,← kH _ _ qV] at hS hF
       repeat' (first|(first|refine CW.seq ?_|refine CW.region ?_|refine CW.iu rfl (by omega) ?_|refine CW.exit ?_)|(first|refine ae.seq ?_|refine ae.ir ?_|refine ae.hit ?_|refine ae.c8 ?_|refine ae.fk ?_)|refine SW.nil ?_|refine SW.pure rfl rfl ?_|(show SW _ _ _ _ (⟨_,Op.fieldAddr _ _ _,_,_,_,none⟩::_) _ _;refine SW.st (aD rfl) rfl ?_)|(show SW _ _ _ _ (⟨_,Op.binOp _ _ _ _ _,_,_,_,none⟩::_) _ _;refine SW.st (kT rfl rfl (by omega) (by omega)) rfl ?_)|(show SW _ _ _ _ (⟨_,Op.call ⟨.builtin .len,_,_⟩,_,_,_,none⟩::_) _ _;refine SW.st (eV rfl) rfl ?_)|(show SW _ _ _ _ (⟨_,Op.load _ _,_,_,_,none⟩::_) _ _;refine SW.st (ao rfl (bw.cell rfl)) rfl ?_))
       refine ae.again (k+1) ⟨rfl,rfl,rfl,rfl,trivial⟩ (by omega) ⟨by omega,hw,aB,hS,hF,hP.snoc qV (by rwa [← CS]) KZ fun p hp => ?_⟩
       obtain ⟨i,hi,rfl⟩:=List.getElem_of_mem hp
       exact hZ i hi (by omega)
    ·have lf : ¬ bD h:=fun hh=>yu (by have:=(hh.rest l8).1.head k qV;rwa [← CS] at this)
     rw [dM lf]
     have K4 : ¬ (((0≤ls[k].dO∧ls[k].dO<r.bY)∧(0≤ls[k].ar∧ls[k].ar≤1)∧(0≤ls[k].Ty∧ls[k].Ty≤2)∧(1≤ls[k].ax.n∧ls[k].ax.n≤8))):=fun hh=>yu (by unfold mV;omega)
     have gG : ¬ (0≤ls[k].dO∧ls[k].dO≤r.bY-1)∨((0≤ls[k].dO∧ls[k].dO≤r.bY-1)∧(¬ (0≤ls[k].ar∧ls[k].ar≤1)∨((0≤ls[k].ar∧ls[k].ar≤1)∧(¬ (0≤ls[k].Ty∧ls[k].Ty≤2)∨((0≤ls[k].Ty∧ls[k].Ty≤2) ∧ ¬ (1≤ls[k].ax.n∧ls[k].ax.n≤8)))))):=by omega
     rcases gG with d|⟨d1,d|⟨d2,d|⟨d3,d⟩⟩⟩
     repeat' (first|(first|refine CW.seq ?_|refine CW.region ?_|refine CW.kS rfl (by with_reducible rfl) ?_|refine CW.ret ?_|(apply CW.aP mixed;(· kernel_rfl);rotate_left;intro w1 ab;replace hw:=Ext.trans hw ab;replace aB:=aB.ext ab;replace bw:=bw.ext ab;replace hS:=hS.ext ab;clear ab;rotate_right))|(first|refine ae.seq ?_|refine ae.fG ?_|refine ae.iv ?_|refine ae.eU ?_)|refine SW.nil ?_|(show SW _ _ _ _ (⟨_,_,_,_,_,some _⟩::_) _ _;first|refine SW.bW rfl rfl (by with_reducible rfl) ?_|refine SW.kR rfl rfl (by with_reducible rfl) rfl ?_|refine SW.oo rfl rfl (by with_reducible rfl) rfl ?_|refine SW.gx rfl rfl rfl (by omega) ?_|refine SW.dS rfl rfl rfl (by omega) ?_)|refine SW.pure rfl rfl ?_|(show SW _ _ _ _ (⟨_,Op.fieldAddr _ _ _,_,_,_,none⟩::_) _ _;refine SW.st (aD rfl) rfl ?_)|(show SW _ _ _ _ (⟨_,Op.binOp _ _ _ _ _,_,_,_,none⟩::_) _ _;refine SW.st (iy rfl rfl (by omega) (by omega)) rfl ?_)|(show SW _ _ _ _ (⟨_,Op.call ⟨.builtin .len,_,_⟩,_,_,_,none⟩::_) _ _;refine SW.st (eV rfl) rfl ?_)|(show SW _ _ _ _ (⟨_,Op.load _ _,_,_,_,none⟩::_) _ _;first|refine SW.st (ao rfl (bw.cell rfl)) rfl ?_|refine SW.st (ao rfl (aB.cell rfl)) rfl ?_)|(show SW _ _ _ _ (⟨_,Op.call ⟨.value (.func _),_,_⟩,_,_,_,none⟩::_) _ _;refine SW.br rfl rfl (fun w1 ab=>(bP _ _ _ _)) ?_)|exact SW.bx rfl)
     all_goals exact ae.aO rfl rfl ⟨_,rfl,hw,rfl⟩
   ·obtain rfl:k=r.av.n:=by omega
    rw [List.take_of_length_le (by omega)] at hS hF
    have hL:=hP.all (by omega)
    repeat' (first|(first|refine CW.seq ?_|refine CW.region ?_|refine CW.block ?_|refine CW.iu rfl (by omega) ?_|refine CW.exit ?_)|(first|refine ae.seq ?_|refine ae.ir ?_|refine ae.hit ?_|refine ae.fk ?_)|refine SW.nil ?_|refine SW.pure rfl rfl ?_|(show SW _ _ _ _ (⟨_,Op.fieldAddr _ _ _,_,_,_,none⟩::_) _ _;refine SW.st (aD rfl) rfl ?_)|(show SW _ _ _ _ (⟨_,Op.call ⟨.builtin .len,_,_⟩,_,_,_,none⟩::_) _ _;refine SW.st (eV rfl) rfl ?_)|(show SW _ _ _ _ (⟨_,Op.load _ _,_,_,_,none⟩::_) _ _;refine SW.st (ao rfl (aB.cell rfl)) rfl ?_))
    have FP:=hr.live
    have GV:=hr.live.len
    have NX:=hr.live.base
    have NY:=hs.live
    refine CW.loop (fun k:Nat=>[(1,.pointer (some ⟨b1,0,none⟩)),(3,.pointer (some ⟨b3,0,none⟩)),(4,.func (.func 196) #[] ([.pointer (some ⟨b3,0,none⟩)] : List Value).toArray),(10,.int .i64 (k:Int))])
     (fun k w'=>k≤r.Live.n∧Ext w w'∧aJ w' b1 41 (bm r)∧rD w' w.heap.size b3 (F++aT h.av++h.Live.take k)∧nk (F++aT h.av++h.Live.take k)∧sX h.Live k) (fun k=>r.Live.n-k) 0
     ⟨rfl,rfl,rfl,rfl,trivial⟩ ⟨by omega,hw,aB,by simpa using hS,by simpa using hF,.nil _⟩ ?_
    clear hw aB hS hF hP
    rintro k w' ⟨hk,hw,aB,hS,hF,hP⟩
    by_cases cb:k<r.Live.n
    ·have dk:k<h.Live.length:=by omega
     have EX:k-1<r.Live.n:=by omega
     have rC:bD h→sy h.Live[k]∧(0<k→(h.Live[k-1]'(by omega)).At<h.Live[k].At):=fun hh=>⟨hh.live.each k dk,fun h0=>by
      have:=hh.live.next (k-1) (by omega)
      simpa only [show k-1+1=k by omega] using this⟩
     have lf : ¬ lp (F++aT h.av++h.Live.take k) h.Live[k] → ¬ bD h:=fun hx hh=>by
      have:=Ki hh
      have e:=hF.no hx (M:=h.Live.drop (k+1))
      have e1:h.Live.take k++([h.Live[k]]++h.Live.drop (k+1))=h.Live:=by simp
      rw [List.append_assoc,List.append_assoc (F++aT h.av),e1] at e
      rw [e] at this
      cases this
     have uZ:=FP.dA EX (j:=0) rfl
     repeat' (first|(first|refine CW.seq ?_|refine CW.region ?_|refine CW.block ?_|refine CW.jd rfl (by omega) ?_|refine CW.skip ?_)|(refine ae.seq ?_)|refine SW.nil ?_|refine SW.pure rfl rfl ?_|(show SW _ _ _ _ (⟨_,Op.fieldAddr _ _ _,_,_,_,none⟩::_) _ _;refine SW.st (aD rfl) rfl ?_)|(show SW _ _ _ _ (⟨_,Op.indexAddr _ _ _,_,_,_,none⟩::_) _ _;refine SW.st (bj rfl rfl (by assumption) (by omega)) rfl ?_)|(show SW _ _ _ _ (⟨_,Op.call ⟨.builtin .len,_,_⟩,_,_,_,none⟩::_) _ _;refine SW.st (eV rfl) rfl ?_)|(show SW _ _ _ _ (⟨_,Op.load _ _,_,_,_,none⟩::_) _ _;first|refine SW.st (ao rfl (aB.cell rfl)) rfl ?_|refine SW.st (aH hw rfl rfl ((FP.all cb))) rfl ?_))
     refine SW.alloc rfl fun sJ w1 ab ra bC => ?_
     skip
     refine SW.ak bC rfl rfl rfl rfl (fw.one (enc:=aA) _) fun w2 m8 hg => ?_
     have aj:=ab.own ra hg
     have pE:w.heap.size≤sJ:=Nat.le_trans hw.size ra
     replace hw:=Ext.trans hw aj
     replace aB:=aB.ext aj
     replace hS:=hS.ext aj
     replace bC:=m8
     clear m8 ab hg aj
     repeat' (first|(refine CW.seq ?_)|(refine ae.seq ?_)|refine SW.nil ?_)
     have Bi:uY h.Live[k]→(0<k→(h.Live[k-1]'(by omega)).At<h.Live[k].At)→sX h.Live (k+1):=fun a b=>hP.snoc dk a fun h0=>b h0
     have Ch:h.Live.take (k+1)=h.Live.take k++[h.Live[k]]:=List.take_succ_eq_append_getElem dk
     generalize Ld:h.Live[k]=bb at bC rC Bi Ch lf
     generalize Kz:(h.Live[k-1]'(by omega)).At=pv at rC Bi uZ
     simp only [uY,sy,fp] at rC Bi
     have hp:bb.Order<0∨4<bb.Order∨(1≤pw bb.Order∧pw bb.Order≤16):=by
      by_cases h1 : 0≤bb.Order
      ·by_cases h2:bb.Order≤4
       ·exact .inr (.inr (bE h1 h2))
       ·omega
      ·omega
     have em:bb.At<0∨bb.At.tmod (pw bb.Order)=bb.At % pw bb.Order:=by
      by_cases h1 : 0≤bb.At
      ·exact .inr (Int.tmod_eq_emod_of_nonneg h1)
      ·omega
     have gG:(¬ (0≤bb.Order∧bb.Order≤4)∨((0≤bb.Order∧bb.Order≤4)∧(¬ (0≤bb.At∧bb.At≤255)∨((0≤bb.At∧bb.At≤255)∧(bb.At.tmod (pw bb.Order)≠0∨(bb.At.tmod (pw bb.Order)=0∧(¬ (0≤bb.Ty∧bb.Ty≤2)∨((0≤bb.Ty∧bb.Ty≤2)∧0<k∧bb.At≤pv))))))))∨(((0≤bb.Order∧bb.Order≤4)∧(0≤bb.At∧bb.At≤255)∧bb.At.tmod (pw bb.Order)=0∧(0≤bb.Ty∧bb.Ty≤2))∧(k=0∨(0<k∧pv<bb.At))):=by omega
     rcases gG with gG|⟨⟨d1,d2,d3,d4⟩,gG⟩
     ·have ui : ¬ bD h:=fun hh=>by
       have:=rC hh
       omega
      rw [dM ui]
      rcases gG with d|⟨d1,d|⟨d2,d|⟨d3,d|⟨d4,p7,d⟩⟩⟩⟩
      repeat' (first|(first|refine CW.seq ?_|refine CW.region ?_|refine CW.kS rfl (by with_reducible rfl) ?_|refine CW.ret ?_|(apply CW.aP mixed;(· kernel_rfl);rotate_left;intro w1 ab;replace hw:=Ext.trans hw ab;replace aB:=aB.ext ab;replace bC:=bC.ext ab;replace hS:=hS.ext ab;clear ab;rotate_right))|(first|refine ae.seq ?_|refine ae.fG ?_|refine ae.iv ?_|refine ae.eU ?_)|refine SW.nil ?_|(show SW _ _ _ _ (⟨_,_,_,_,_,some _⟩::_) _ _;first|refine SW.fQ rfl rfl (by with_reducible rfl) ?_|refine SW.bW rfl rfl (by with_reducible rfl) ?_|refine SW.kR rfl rfl (by with_reducible rfl) rfl ?_|refine SW.oo rfl rfl (by with_reducible rfl) rfl ?_|refine SW.jn rfl rfl rfl (by omega) ?_|refine SW.gx rfl rfl rfl (by omega) ?_|refine SW.dS rfl rfl rfl (by omega) ?_)|refine SW.pure rfl rfl ?_|(show SW _ _ _ _ (⟨_,Op.fieldAddr _ _ _,_,_,_,none⟩::_) _ _;refine SW.st (aD rfl) rfl ?_)|(show SW _ _ _ _ (⟨_,Op.binOp _ _ _ _ _,_,_,_,none⟩::_) _ _;first|refine SW.st (iy rfl rfl (by omega) (by omega)) rfl ?_|refine SW.st (oq rfl rfl (by omega)) rfl ?_)|(show SW _ _ _ _ (⟨_,Op.indexAddr _ _ _,_,_,_,none⟩::_) _ _;refine SW.st (bc (k-1) rfl rfl (by assumption) (by omega) (by omega)) rfl ?_)|(show SW _ _ _ _ (⟨_,Op.load _ _,_,_,_,none⟩::_) _ _;first|refine SW.st (ao rfl (bC.cell rfl)) rfl ?_|refine SW.st (ao rfl (aB.cell rfl)) rfl ?_|refine SW.st (ap hw rfl uZ) rfl ?_)|(show SW _ _ _ _ (⟨_,Op.call ⟨.value (.func _),_,_⟩,_,_,_,none⟩::_) _ _;first|refine SW.br rfl rfl (fun w1 ab=>(bP _ _ _ _)) ?_|refine SW.br rfl rfl (fun w1 ab=>(c9 _ (by omega) _)) ?_)|exact SW.bx rfl)
      all_goals exact ae.aO rfl rfl ⟨_,rfl,hw,rfl⟩
     ·have Jc:dE 0 256 bb:=by
       simp only [dE,eX,fp]
       omega
      replace Bi:=Bi ⟨d1,d2.1,by omega,d4⟩ (fun h0=>by omega)
      rcases gG with p7|⟨p7,d⟩
      all_goals
       refine CW.any 44 mixed (cj (by kernel_rfl)) rfl fun w1 ab aG => ?_
       replace hw:=Ext.trans hw ab;replace aB:=aB.ext ab;replace bC:=bC.ext ab;replace hS:=hS.ext ab;clear ab
       refine SA.take 0 aG rfl (by kernel_rfl) (by kernel_rfl) rfl ?_
       repeat ((show SW _ _ _ _ (⟨_,Op.fieldAddr _ _ _,_,_,_,none⟩::_) _ _;refine SW.st (aD rfl) rfl ?_))
       refine SW.ah ?_
       refine SA.take 1 aG rfl (by kernel_rfl) (by kernel_rfl) rfl ?_
       repeat ((show SW _ _ _ _ (⟨_,Op.load _ _,_,_,_,none⟩::_) _ _;refine SW.st (ao rfl (bC.cell rfl)) rfl ?_))
       refine SW.ah ?_
       refine SA.one 2 rfl (by kernel_rfl) rfl ?_
       refine SW.call rfl rfl (bP _ _ _ _) fun v w5 aj hv => ?_
       subst hv
       (replace hw:=Ext.trans hw aj;replace aB:=aB.ext aj;replace bC:=bC.ext aj;replace hS:=hS.ext aj)
       refine SW.nil (ae.sa aj ?_)
       refine SA.take 3 aG rfl (by kernel_rfl) (by kernel_rfl) rfl ?_
       repeat (refine SW.pure rfl rfl ?_)
       refine SW.ah ?_
       refine SA.take 4 aG rfl (by kernel_rfl) (by kernel_rfl) rfl ?_
       repeat (refine SW.pure rfl rfl ?_)
       refine SW.ah ?_
       refine SA.take 5 aG rfl (by kernel_rfl) (by kernel_rfl) rfl ?_
       repeat (first|(show SW _ _ _ _ (⟨_,_,_,_,_,some _⟩::_) _ _;first|refine SW.bW rfl rfl (by with_reducible rfl) ?_|refine SW.dS rfl rfl rfl (by omega) ?_)|(show SW _ _ _ _ (⟨_,Op.fieldAddr _ _ _,_,_,_,none⟩::_) _ _;refine SW.st (aD rfl) rfl ?_))
       refine SW.ah ?_
       refine SA.take 6 aG rfl (by kernel_rfl) (by kernel_rfl) rfl ?_
       repeat (first|(show SW _ _ _ _ (⟨_,_,_,_,_,some _⟩::_) _ _;refine SW.bW rfl rfl (by with_reducible rfl) ?_)|(show SW _ _ _ _ (⟨_,Op.load _ _,_,_,_,none⟩::_) _ _;refine SW.st (ao rfl (bC.cell rfl)) rfl ?_))
       refine SW.ah ?_
       refine SA.one 7 rfl (by kernel_rfl) rfl ?_
       refine SW.want rfl rfl ?_
       refine SW.call rfl rfl (bP _ _ _ _) fun v w5 aj hv => ?_
       subst hv
       (replace hw:=Ext.trans hw aj;replace aB:=aB.ext aj;replace bC:=bC.ext aj;replace hS:=hS.ext aj)
       refine SW.nil (ae.sa aj ?_)
       refine SA.take 8 aG rfl (by kernel_rfl) (by kernel_rfl) rfl ?_
       repeat (first|(show SW _ _ _ _ (⟨_,_,_,_,_,some _⟩::_) _ _;refine SW.bW rfl rfl (by with_reducible rfl) ?_)|refine SW.pure rfl rfl ?_)
       refine SW.ah ?_
       refine SA.take 9 aG rfl (by kernel_rfl) (by kernel_rfl) rfl ?_
       repeat (refine SW.pure rfl rfl ?_)
       refine SW.ah ?_
       refine SA.take 10 aG rfl (by kernel_rfl) (by kernel_rfl) rfl ?_
       repeat (refine SW.pure rfl rfl ?_)
       refine SW.ah ?_
       refine SA.take 11 aG rfl (by kernel_rfl) (by kernel_rfl) rfl ?_
       repeat (first|(show SW _ _ _ _ (⟨_,_,_,_,_,some _⟩::_) _ _;first|refine SW.bW rfl rfl (by with_reducible rfl) ?_|refine SW.dS rfl rfl rfl (by omega) ?_)|(show SW _ _ _ _ (⟨_,Op.fieldAddr _ _ _,_,_,_,none⟩::_) _ _;refine SW.st (aD rfl) rfl ?_))
       refine SW.ah ?_
       refine SA.take 12 aG rfl (by kernel_rfl) (by kernel_rfl) rfl ?_
       repeat (first|(show SW _ _ _ _ (⟨_,_,_,_,_,some _⟩::_) _ _;refine SW.bW rfl rfl (by with_reducible rfl) ?_)|(show SW _ _ _ _ (⟨_,Op.load _ _,_,_,_,none⟩::_) _ _;refine SW.st (ao rfl (bC.cell rfl)) rfl ?_))
       refine SW.ah ?_
       refine SA.take 13 aG rfl (by kernel_rfl) (by kernel_rfl) rfl ?_
       repeat (first|(show SW _ _ _ _ (⟨_,_,_,_,_,some _⟩::_) _ _;refine SW.bW rfl rfl (by with_reducible rfl) ?_)|(show SW _ _ _ _ (⟨_,Op.fieldAddr _ _ _,_,_,_,none⟩::_) _ _;refine SW.st (aD rfl) rfl ?_))
       refine SW.ah ?_
       refine SA.take 14 aG rfl (by kernel_rfl) (by kernel_rfl) rfl ?_
       repeat (first|(show SW _ _ _ _ (⟨_,_,_,_,_,some _⟩::_) _ _;refine SW.bW rfl rfl (by with_reducible rfl) ?_)|(show SW _ _ _ _ (⟨_,Op.load _ _,_,_,_,none⟩::_) _ _;refine SW.st (ao rfl (bC.cell rfl)) rfl ?_))
       refine SW.ah ?_
       refine SA.one 15 rfl (by kernel_rfl) rfl ?_
       refine SW.want rfl rfl ?_
       refine SW.call rfl rfl (c9 _ (by omega) _) fun v w5 aj hv => ?_
       subst hv
       (replace hw:=Ext.trans hw aj;replace aB:=aB.ext aj;replace bC:=bC.ext aj;replace hS:=hS.ext aj)
       refine SW.nil (ae.sa aj ?_)
       refine SA.take 16 aG rfl (by kernel_rfl) (by kernel_rfl) rfl ?_
       repeat (first|(show SW _ _ _ _ (⟨_,_,_,_,_,some _⟩::_) _ _;refine SW.bW rfl rfl (by with_reducible rfl) ?_)|(show SW _ _ _ _ (⟨_,Op.binOp _ _ _ _ _,_,_,_,none⟩::_) _ _;refine SW.st (oq rfl rfl (by omega)) rfl ?_))
       refine SW.ah ?_
       refine SA.take 17 aG rfl (by kernel_rfl) (by kernel_rfl) rfl ?_
       repeat (first|(show SW _ _ _ _ (⟨_,_,_,_,_,some _⟩::_) _ _;refine SW.bW rfl rfl (by with_reducible rfl) ?_)|refine SW.pure rfl rfl ?_)
       refine SW.ah ?_
       refine SA.take 18 aG rfl (by kernel_rfl) (by kernel_rfl) rfl ?_
       repeat (refine SW.pure rfl rfl ?_)
       refine SW.ah ?_
       refine SA.take 19 aG rfl (by kernel_rfl) (by kernel_rfl) rfl ?_
       repeat (refine SW.pure rfl rfl ?_)
       refine SW.ah ?_
       refine SA.take 20 aG rfl (by kernel_rfl) (by kernel_rfl) rfl ?_
       repeat (first|(show SW _ _ _ _ (⟨_,_,_,_,_,some _⟩::_) _ _;first|refine SW.bW rfl rfl (by with_reducible rfl) ?_|refine SW.dS rfl rfl rfl (by omega) ?_)|(show SW _ _ _ _ (⟨_,Op.fieldAddr _ _ _,_,_,_,none⟩::_) _ _;refine SW.st (aD rfl) rfl ?_))
       refine SW.ah ?_
       refine SA.take 21 aG rfl (by kernel_rfl) (by kernel_rfl) rfl ?_
       repeat (first|(show SW _ _ _ _ (⟨_,_,_,_,_,some _⟩::_) _ _;refine SW.bW rfl rfl (by with_reducible rfl) ?_)|(show SW _ _ _ _ (⟨_,Op.load _ _,_,_,_,none⟩::_) _ _;refine SW.st (ao rfl (bC.cell rfl)) rfl ?_))
       refine SW.ah ?_
       refine SA.one 22 rfl (by kernel_rfl) rfl ?_
       refine SW.want rfl rfl ?_
       refine SW.call rfl rfl (bP _ _ _ _) fun v w5 aj hv => ?_
       subst hv
       (replace hw:=Ext.trans hw aj;replace aB:=aB.ext aj;replace bC:=bC.ext aj;replace hS:=hS.ext aj)
       refine SW.nil (ae.sa aj ?_)
       refine SA.take 23 aG rfl (by kernel_rfl) (by kernel_rfl) rfl ?_
       repeat (first|(show SW _ _ _ _ (⟨_,_,_,_,_,some _⟩::_) _ _;refine SW.bW rfl rfl (by with_reducible rfl) ?_)|refine SW.pure rfl rfl ?_)
       refine SW.ah ?_
       refine SA.take 24 aG rfl (by kernel_rfl) (by kernel_rfl) rfl ?_
       repeat (refine SW.pure rfl rfl ?_)
       refine SW.ah ?_
       refine SA.take 25 aG rfl (by kernel_rfl) (by kernel_rfl) rfl ?_
       repeat (refine SW.pure rfl rfl ?_)
       refine SW.ah ?_
       refine SA.take 26 aG rfl (by kernel_rfl) (by kernel_rfl) rfl ?_
       repeat (first|(show SW _ _ _ _ (⟨_,_,_,_,_,some _⟩::_) _ _;first|refine SW.bW rfl rfl (by with_reducible rfl) ?_|refine SW.dS rfl rfl rfl (by omega) ?_)|refine SW.pure rfl rfl ?_)
       refine SW.ah ?_
       refine SA.take 27 aG rfl (by kernel_rfl) (by kernel_rfl) rfl ?_
       repeat (first|(show SW _ _ _ _ (⟨_,_,_,_,_,some _⟩::_) _ _;refine SW.bW rfl rfl (by with_reducible rfl) ?_)|refine SW.pure rfl rfl ?_)
       refine SW.ah ?_
       refine SA.take 28 aG rfl (by kernel_rfl) (by kernel_rfl) rfl ?_
       repeat (first|(show SW _ _ _ _ (⟨_,_,_,_,_,some _⟩::_) _ _;refine SW.bW rfl rfl (by with_reducible rfl) ?_)|refine SW.pure rfl rfl ?_)
       refine SW.ah ?_
       refine SA.take 29 aG rfl (by kernel_rfl) (by kernel_rfl) rfl ?_
       repeat (first|(show SW _ _ _ _ (⟨_,_,_,_,_,some _⟩::_) _ _;first|refine SW.fQ rfl rfl (by with_reducible rfl) ?_|refine SW.gp rfl rfl (by with_reducible rfl) rfl ?_|refine SW.jn rfl rfl rfl (by omega) ?_|refine SW.jo rfl rfl rfl (by omega) ?_)|(show SW _ _ _ _ (⟨_,Op.fieldAddr _ _ _,_,_,_,none⟩::_) _ _;refine SW.st (aD rfl) rfl ?_))
       refine SW.ah ?_
       refine SA.take 30 aG rfl (by kernel_rfl) (by kernel_rfl) rfl ?_
       repeat (first|(show SW _ _ _ _ (⟨_,_,_,_,_,some _⟩::_) _ _;first|refine SW.fQ rfl rfl (by with_reducible rfl) ?_|refine SW.gp rfl rfl (by with_reducible rfl) rfl ?_)|(show SW _ _ _ _ (⟨_,Op.load _ _,_,_,_,none⟩::_) _ _;refine SW.st (ao rfl (aB.cell rfl)) rfl ?_))
       refine SW.ah ?_
       refine SA.take 31 aG rfl (by kernel_rfl) (by kernel_rfl) rfl ?_
       repeat (first|(show SW _ _ _ _ (⟨_,_,_,_,_,some _⟩::_) _ _;first|refine SW.fQ rfl rfl (by with_reducible rfl) ?_|refine SW.gp rfl rfl (by with_reducible rfl) rfl ?_)|refine SW.pure rfl rfl ?_)
       refine SW.ah ?_
       refine SA.take 32 aG rfl (by kernel_rfl) (by kernel_rfl) rfl ?_
       repeat (first|(show SW _ _ _ _ (⟨_,_,_,_,_,some _⟩::_) _ _;first|refine SW.fQ rfl rfl (by with_reducible rfl) ?_|refine SW.gp rfl rfl (by with_reducible rfl) rfl ?_)|(show SW _ _ _ _ (⟨_,Op.binOp _ _ _ _ _,_,_,_,none⟩::_) _ _;refine SW.st (iy rfl rfl (by omega) (by omega)) rfl ?_))
       refine SW.ah ?_
       refine SA.take 33 aG rfl (by kernel_rfl) (by kernel_rfl) rfl ?_
       repeat (first|(show SW _ _ _ _ (⟨_,_,_,_,_,some _⟩::_) _ _;first|refine SW.fQ rfl rfl (by with_reducible rfl) ?_|refine SW.gp rfl rfl (by with_reducible rfl) rfl ?_)|(show SW _ _ _ _ (⟨_,Op.indexAddr _ _ _,_,_,_,none⟩::_) _ _;refine SW.st (bc (k-1) rfl rfl (by assumption) (by omega) (by omega)) rfl ?_))
       refine SW.ah ?_
       refine SA.take 34 aG rfl (by kernel_rfl) (by kernel_rfl) rfl ?_
       repeat (first|(show SW _ _ _ _ (⟨_,_,_,_,_,some _⟩::_) _ _;first|refine SW.fQ rfl rfl (by with_reducible rfl) ?_|refine SW.gp rfl rfl (by with_reducible rfl) rfl ?_)|(show SW _ _ _ _ (⟨_,Op.fieldAddr _ _ _,_,_,_,none⟩::_) _ _;refine SW.st (aD rfl) rfl ?_))
       refine SW.ah ?_
       refine SA.take 35 aG rfl (by kernel_rfl) (by kernel_rfl) rfl ?_
       repeat (first|(show SW _ _ _ _ (⟨_,_,_,_,_,some _⟩::_) _ _;first|refine SW.fQ rfl rfl (by with_reducible rfl) ?_|refine SW.gp rfl rfl (by with_reducible rfl) rfl ?_)|(show SW _ _ _ _ (⟨_,Op.load _ _,_,_,_,none⟩::_) _ _;refine SW.st (ap hw rfl uZ) rfl ?_))
       refine SW.ah ?_
       refine SA.take 36 aG rfl (by kernel_rfl) (by kernel_rfl) rfl ?_
       repeat (first|(show SW _ _ _ _ (⟨_,_,_,_,_,some _⟩::_) _ _;first|refine SW.fQ rfl rfl (by with_reducible rfl) ?_|refine SW.gp rfl rfl (by with_reducible rfl) rfl ?_)|(show SW _ _ _ _ (⟨_,Op.fieldAddr _ _ _,_,_,_,none⟩::_) _ _;refine SW.st (aD rfl) rfl ?_))
       refine SW.ah ?_
       refine SA.take 37 aG rfl (by kernel_rfl) (by kernel_rfl) rfl ?_
       repeat (first|(show SW _ _ _ _ (⟨_,_,_,_,_,some _⟩::_) _ _;first|refine SW.fQ rfl rfl (by with_reducible rfl) ?_|refine SW.gp rfl rfl (by with_reducible rfl) rfl ?_)|(show SW _ _ _ _ (⟨_,Op.load _ _,_,_,_,none⟩::_) _ _;refine SW.st (ao rfl (bC.cell rfl)) rfl ?_))
       refine SW.ah ?_
       refine SA.take 38 aG rfl (by kernel_rfl) (by kernel_rfl) rfl ?_
       repeat (first|(show SW _ _ _ _ (⟨_,_,_,_,_,some _⟩::_) _ _;first|refine SW.fQ rfl rfl (by with_reducible rfl) ?_|refine SW.gp rfl rfl (by with_reducible rfl) rfl ?_)|refine SW.pure rfl rfl ?_)
       refine SW.ah ?_
       refine SA.take 39 aG rfl (by kernel_rfl) (by kernel_rfl) rfl ?_
       repeat (first|(show SW _ _ _ _ (⟨_,_,_,_,_,some _⟩::_) _ _;refine SW.bW rfl rfl (by with_reducible rfl) ?_)|refine SW.pure rfl rfl ?_)
       refine SW.ah ?_
       refine SA.take 40 aG rfl (by kernel_rfl) (by kernel_rfl) rfl ?_
       repeat (refine SW.pure rfl rfl ?_)
       refine SW.ah ?_
       refine SA.take 41 aG rfl (by kernel_rfl) (by kernel_rfl) rfl ?_
       repeat (refine SW.pure rfl rfl ?_)
       refine SW.ah ?_
       refine SA.take 42 aG rfl (by kernel_rfl) (by kernel_rfl) rfl ?_
       repeat (first|(show SW _ _ _ _ (⟨_,_,_,_,_,some _⟩::_) _ _;first|refine SW.bW rfl rfl (by with_reducible rfl) ?_|refine SW.jo rfl rfl rfl (by omega) ?_)|refine SW.pure rfl rfl ?_)
       refine SW.ah ?_
       refine SA.take 43 aG rfl (by kernel_rfl) (by kernel_rfl) rfl ?_
       repeat (first|(show SW _ _ _ _ (⟨_,_,_,_,_,some _⟩::_) _ _;refine SW.bW rfl rfl (by with_reducible rfl) ?_)|(show SW _ _ _ _ (⟨_,Op.load _ _,_,_,_,none⟩::_) _ _;refine SW.st (aW rfl rfl ((fun _ _=>bC.cell))) rfl ?_))
       refine SW.ah ?_
       refine SA.done (by kernel_rfl) ?_
       repeat' ((show SW _ _ _ _ (⟨_,_,_,_,_,some _⟩::_) _ _;refine SW.bW rfl rfl (by with_reducible rfl) ?_))
       refine SW.yZ rfl rfl rfl (tc b3 _ bb w _ hw cw hS hF.2 hF.len Jc) fun v w6 hv => ?_
       obtain ⟨Eo,hK,s8⟩:=hv
       replace hw:=Eo
       replace aB:=hK.k _ _ _ aB rfl rfl
       rcases s8 with ⟨rfl,hf,mJ⟩|⟨rfl,hf,mJ⟩
       ·rw [List.append_assoc,← Ch] at mJ
        have Dn:=hF.add Jc hf
        rw [List.append_assoc,← Ch] at Dn
        repeat' (first|(first|refine CW.region ?_|refine CW.bB rfl ?_|refine CW.skip ?_)|(first|refine ae.seq ?_|refine ae.c8 ?_|refine ae.np ?_)|refine SW.nil ?_|(show SW _ _ _ _ (⟨_,_,_,_,_,some _⟩::_) _ _;refine SW.bW rfl rfl (by with_reducible rfl) ?_)|refine SW.pure rfl rfl ?_|(show SW _ _ _ _ (⟨_,Op.binOp _ _ _ _ _,_,_,_,none⟩::_) _ _;refine SW.st (kT rfl rfl (by omega) (by omega)) rfl ?_))
        exact ae.again (k+1) ⟨rfl,rfl,rfl,rfl,trivial⟩ (by omega) ⟨by omega,hw,aB,mJ,Dn,Bi⟩
       ·repeat' (first|(first|refine CW.seq ?_|refine CW.region ?_|refine CW.bO rfl ?_|refine CW.ret ?_)|(first|refine ae.seq ?_|refine ae.fG ?_|refine ae.iv ?_|refine ae.eU ?_|refine ae.np ?_)|refine SW.nil ?_|(show SW _ _ _ _ (⟨_,_,_,_,_,some _⟩::_) _ _;refine SW.bW rfl rfl (by with_reducible rfl) ?_)|refine SW.pure rfl rfl ?_)
        exact ae.aO rfl rfl ⟨_,rfl,hw,by rw [dM (lf hf)]⟩
    ·obtain rfl:k=r.Live.n:=by omega
     rw [List.take_of_length_le (by omega)] at hS hF
     have FX:(bi (bi (ke h z0 z1) (aT h.av)) h.Live).isSome=true:=by
      have:=hF.1
      rw [MI,bt,bt] at this
      unfold ke
      rw [this]
      rfl
     have Oe:bD h:=bD.of l8 hd C9 hL (hP.ok (by omega) FX) FX
     repeat' (first|(first|refine CW.seq ?_|refine CW.region ?_|refine CW.iu rfl (by omega) ?_|refine CW.ret ?_|refine CW.exit ?_)|(first|refine ae.seq ?_|refine ae.ir ?_|refine ae.hit ?_|refine ae.fk ?_)|refine SW.nil ?_|refine SW.pure rfl rfl ?_|(show SW _ _ _ _ (⟨_,Op.fieldAddr _ _ _,_,_,_,none⟩::_) _ _;refine SW.st (aD rfl) rfl ?_)|(show SW _ _ _ _ (⟨_,Op.call ⟨.builtin .len,_,_⟩,_,_,_,none⟩::_) _ _;refine SW.st (eV rfl) rfl ?_)|(show SW _ _ _ _ (⟨_,Op.load _ _,_,_,_,none⟩::_) _ _;refine SW.st (ao rfl (aB.cell rfl)) rfl ?_))
     exact ae.aO rfl rfl ⟨_,rfl,hw,by rw [ph Oe]⟩
 ·rw [dM (fun hh=>hd hh.IW)]
  have gG:r.aQ.n≠2∨(r.aQ.n=2∧(r.bJ.n≠2∨(r.bJ.n=2 ∧ ¬ (1≤r.bY∧r.bY≤4)))):=by unfold oG at hd;omega
  rcases gG with d|⟨d1,d|⟨d2,d⟩⟩
  repeat' (first|(first|refine CW.seq ?_|refine CW.region ?_|refine CW.kS rfl (by with_reducible rfl) ?_|refine CW.ret ?_)|(first|refine ae.seq ?_|refine ae.fG ?_)|refine SW.nil ?_|(show SW _ _ _ _ (⟨_,_,_,_,_,some _⟩::_) _ _;first|refine SW.bW rfl rfl (by with_reducible rfl) ?_|refine SW.kR rfl rfl (by with_reducible rfl) rfl ?_|refine SW.gx rfl rfl rfl (by omega) ?_|refine SW.dS rfl rfl rfl (by omega) ?_)|refine SW.pure rfl rfl ?_|(show SW _ _ _ _ (⟨_,Op.fieldAddr _ _ _,_,_,_,none⟩::_) _ _;refine SW.st (aD rfl) rfl ?_)|(show SW _ _ _ _ (⟨_,Op.call ⟨.builtin .len,_,_⟩,_,_,_,none⟩::_) _ _;refine SW.st (eV rfl) rfl ?_)|(show SW _ _ _ _ (⟨_,Op.load _ _,_,_,_,none⟩::_) _ _;refine SW.st (ao rfl (aB.cell rfl)) rfl ?_)|(show SW _ _ _ _ (⟨_,Op.call ⟨.value (.func _),_,_⟩,_,_,_,none⟩::_) _ _;(refine SW.call rfl rfl (bP _ _ _ _) ?_;intro v w1 ab hv;subst hv;replace hw:=Ext.trans hw ab;replace aB:=aB.ext ab;clear ab)))
  all_goals exact ae.aO rfl rfl ⟨_,rfl,hw,rfl⟩
end Go.Proofs.YtbidkghlpijecaaGreatDoor
