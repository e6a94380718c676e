/-
  Texts of the claim KmemFrees, part 13: what its theorem leans on.
-/
import Derived.Test.YtbidkghlpijecaaGreatDoorPackKmemFrees8
set_option linter.unusedVariables false
set_option linter.unusedSimpArgs false
namespace Go.Proofs.YtbidkghlpijecaaGreatDoor
open Go.RowKit
def kA (L:List Block) : Prop:=aY (some []) L=some L ∧ ∀ y∈L,dr 0 256 y
theorem kA.nil:kA []:=⟨rfl,fun y h=>by simp at h⟩
theorem kA.len {L:List Block} (h:kA L) : L.length≤256:=pr (fun b hb=>(cu (h.2 b hb).1.1 (h.2 b hb).1.2.1).1) h.1
theorem kA.add {L:List Block} {b:Block} (h:kA L) (hb:dr 0 256 b) (hf:jv L b) : kA (L++[b]):=by
 refine ⟨?_,fun y hy => ?_⟩
 ·rw [a8,h.1];show ig (some L) b=_
  simp [ig,hf]
 ·rcases List.mem_append.1 hy with hy|hy
  ·exact h.2 y hy
  ·simp at hy;subst hy;exact hb
theorem kA.no {L M:List Block} {b:Block} (h:kA L) (hf : ¬ jv L b) : aY (some []) (L++[b]++M)=none:=by
 rw [a8,a8,h.1];have:aY (some L) [b]=none:=by show ig (some L) b=none;simp [ig,hf]
 rw [this,ed]
theorem dr.wide {f t:Int} {b:Block} (h:dr f t b) (h0 : 0≤f) (ht:t≤256) : dr 0 256 b:=by
 obtain ⟨⟨o1,o2,a1,a2,a3⟩,ty⟩:=h;exact ⟨⟨o1,o2,by omega,by omega,a3⟩,ty⟩
theorem tC {zs:List ay} {k j:Nat} (hk:k<zs.length) (hj:j<(zs[k]).ao.length) : ∃ M,zs.flatMap ay.ao=((zs.take k).flatMap ay.ao++(zs[k]).ao.take j)++[(zs[k]).ao[j]]++M:=by
 refine ⟨(zs[k]).ao.drop (j+1)++(zs.drop (k+1)).flatMap ay.ao,?_⟩;have e1:zs=zs.take k++([zs[k]]++zs.drop (k+1)):=by simp
 have e2:(zs[k]).ao=(zs[k]).ao.take j++([(zs[k]).ao[j]]++(zs[k]).ao.drop (j+1)):=by simp
 conv=>lhs;rw [e1,List.flatMap_append,List.flatMap_append]
 simp only [List.flatMap_cons,List.flatMap_nil,List.append_nil]
 conv=>lhs;rw [e2]
 simp only [List.append_assoc]
theorem bq.all {h:Heap} (a:bq h) : (aY (some []) (h.aI.flatMap ay.ao++aT h.ak++h.Live)).isSome=true:=by
 obtain ⟨z0,z1,e,_,_,_,_,_,_,a7⟩:=a.bU;rw [e];simpa using a7
set_option maxHeartbeats 8000000 in
theorem tD (r:eu) (h:Heap) (w:World) (hr:sC w r h) (hs:h.small) (zS:∀ z∈h.aI,dK z) :
 a9 Tryz.prog 114 [.agg (bl r).toArray] w fun v _=>v = .bool (gQ h):=by
 refine aC Tryz.func114 rfl Tryz.ntmps114 rfl ?_
 refine CW.seq (CW.region (SW.box rfl rfl fun b1 w1 hw gI au => ?_))
 have ku:=hr.dc
 have CO:=hr.di.len
 obtain ⟨EV,lW⟩:=hr.bU
 obtain ⟨BA,Hi⟩:=lW.len
 clear lW BA EV
 by_cases hd:lN h
 ·obtain ⟨d1,d2,d3⟩:=id hd
  obtain ⟨r0,r1,z0,z1,gB⟩:=hr.two d1
  obtain ⟨m0,m1,em⟩:=lM d2
  have Cq:=hr.di
  rw [em] at Cq
  have I5:=hr.di.base
  have Dl : 0<r.bE.n:=by omega
  have p8 : 1<r.bE.n:=by omega
  have g0:w.cell? ((r.bE.A.getD default).add (0*1))=some (.int .i64 m0):=Cq.one Dl rfl
  have g1:w.cell? ((r.bE.A.getD default).add (1*1))=some (.int .i64 m1):=Cq.one p8 rfl
  have kv:=gB.eq
  have hA:=gB.row.base
  have Cn:=zS z0 (by rw [kv];simp)
  have wA:=zS z1 (by rw [kv];simp)
  have s0:=hs.free z0 (by rw [kv];simp)
  have s1:=hs.free z1 (by rw [kv];simp)
  have Hj:=gB.z0.from_
  have F7:=gB.z0.jF
  have Hk:=gB.z1.from_
  have Hl:=gB.z1.jF
  have l0:=gB.z0.free.len
  have l1:=gB.z1.free.len
  have t0:=gB.z0.types.len
  have t1:=gB.z1.types.len
  unfold dK at Cn wA
  obtain ⟨q0,BB⟩ : ∃ q,fa z0=q:=⟨_,rfl⟩
  obtain ⟨q1,pp⟩ : ∃ q,fa z1=q:=⟨_,rfl⟩
  have c0:∀ w',Ext w w'→a9 Tryz.prog 195 [.agg (cd r0).toArray] w' fun v _=>v = .bool q0:=fun w' hx=>by
   have:=jb r0 z0 w' (gB.z0.ext hx) (by omega) (by omega) (by omega) (by omega)
   rwa [BB] at this
  have c1:∀ w',Ext w w'→a9 Tryz.prog 195 [.agg (cd r1).toArray] w' fun v _=>v = .bool q1:=fun w' hx=>by
   have:=jb r1 z1 w' (gB.z1.ext hx) (by omega) (by omega) (by omega) (by omega)
   rwa [pp] at this
  have As:(q0=true∧q1=true)∨(q0=false)∨(q0=true∧q1=false):=by cases q0<;>cases q1<;>simp
  rcases As with ⟨rfl,rfl⟩|rfl|⟨rfl,rfl⟩
  repeat' (first|(first|refine CW.seq ?_|refine CW.region ?_|refine CW.jf rfl (by with_reducible rfl) ?_|refine CW.cU rfl ?_|refine CW.cj rfl ?_|refine CW.skip ?_|refine CW.ret ?_)|(first|refine ae.seq ?_|refine ae.eL ?_)|refine SW.nil ?_|(show SW _ _ _ _ (⟨_,_,_,_,_,some _⟩::_) _ _;first|refine SW.bC rfl rfl (by with_reducible rfl) ?_|refine SW.dg rfl rfl rfl (by omega) ?_|refine SW.want rfl rfl ?_|refine SW.skip rfl rfl rfl rfl ?_)|refine SW.pure rfl rfl ?_|(show SW _ _ _ _ (⟨_,Op.fieldAddr _ _ _,_,_,_,none⟩::_) _ _;refine SW.st (aP rfl) rfl ?_)|(show SW _ _ _ _ (⟨_,Op.indexAddr _ _ _,_,_,_,none⟩::_) _ _;first|refine SW.st (aV (0) rfl rfl (by assumption) (by omega) (by omega)) rfl ?_|refine SW.st (aV (1) rfl rfl (by assumption) (by omega) (by omega)) rfl ?_)|(show SW _ _ _ _ (⟨_,Op.call ⟨.builtin .len,_,_⟩,_,_,_,none⟩::_) _ _;refine SW.st (eI rfl) rfl ?_)|(show SW _ _ _ _ (⟨_,Op.load _ _,_,_,_,none⟩::_) _ _;first|refine SW.st (az rfl (au.cell rfl)) rfl ?_|refine SW.st (aA hw rfl rfl ((gB.c0))) rfl ?_|refine SW.st (aA hw rfl rfl ((gB.c1))) rfl ?_)|(show SW _ _ _ _ (⟨_,Op.call ⟨.value (.func _),_,_⟩,_,_,_,none⟩::_) _ _;first|(refine SW.call rfl rfl (c0 _ hw) ?_;intro v w1 ab hv;subst hv;replace hw:=Ext.trans hw ab;replace au:=au.ext ab;clear ab)|(refine SW.call rfl rfl (c1 _ hw) ?_;intro v w1 ab hv;subst hv;replace hw:=Ext.trans hw ab;replace au:=au.ext ab;clear ab)|(refine SW.call rfl rfl (ca _ _ _ _) ?_;intro v w1 ab hv;subst hv;replace hw:=Ext.trans hw ab;replace au:=au.ext ab;clear ab)))
  rotate_left
  ·exact ae.aF rfl rfl ⟨_,rfl,hw,by rw [c9 (fun hh=>by have:=dz.2 (hh.front kv).one;rw [BB] at this;cases this)]⟩
  ·exact ae.aF rfl rfl ⟨_,rfl,hw,by rw [c9 (fun hh=>by have:=dz.2 (hh.front kv).two;rw [pp] at this;cases this)]⟩
  clear c0 c1
  have sG:=dz.1 BB
  have te:=dz.1 pp
  have fK:(r0.aR=0∧r1.aR=r0.To∧r1.To=256∧(0≤m0∧m0≤256)∧(0≤m1∧m1≤256))∨r0.aR≠0∨(r0.aR=0∧r1.aR≠r0.To)∨(r0.aR=0∧r1.aR=r0.To∧r1.To≠256)∨(r0.aR=0∧r1.aR=r0.To∧r1.To=256 ∧ ¬ (0≤m0∧m0≤256))∨(r0.aR=0∧r1.aR=r0.To∧r1.To=256∧(0≤m0∧m0≤256) ∧ ¬ (0≤m1∧m1≤256)):=by omega
  have Gk:bq h→(0≤m0∧m0≤256)∧(0≤m1∧m1≤256):=fun hh=>by
   have:=(hh.front kv).di
   rw [em] at this
   simp [qv] at this
   omega
  rcases fK with ⟨d1,d2,d3,d4,d5⟩|d|⟨d1,d⟩|⟨d1,d2,d⟩|⟨d1,d2,d3,d⟩|⟨d1,d2,d3,d4,d⟩
  repeat' (first|(first|refine CW.seq ?_|refine CW.region ?_|refine CW.jf rfl (by with_reducible rfl) ?_|refine CW.kK rfl (by omega) ?_|refine CW.lY rfl (by omega) ?_|refine CW.skip ?_|refine CW.ret ?_|(apply CW.aM mixed;(· kernel_rfl);rotate_left;intro w1 ab;replace hw:=Ext.trans hw ab;replace au:=au.ext ab;clear ab;rotate_right))|(first|refine ae.seq ?_|refine ae.eL ?_)|refine SW.nil ?_|(show SW _ _ _ _ (⟨_,_,_,_,_,some _⟩::_) _ _;first|refine SW.bC rfl rfl (by with_reducible rfl) ?_|refine SW.je rfl rfl (by with_reducible rfl) rfl ?_|refine SW.fq rfl rfl rfl (by omega) ?_|refine SW.dg rfl rfl rfl (by omega) ?_)|refine SW.pure rfl rfl ?_|(show SW _ _ _ _ (⟨_,Op.fieldAddr _ _ _,_,_,_,none⟩::_) _ _;refine SW.st (aP rfl) rfl ?_)|(show SW _ _ _ _ (⟨_,Op.indexAddr _ _ _,_,_,_,none⟩::_) _ _;first|refine SW.st (bH rfl rfl (by assumption) (by omega)) rfl ?_|refine SW.st (aV (0) rfl rfl (by assumption) (by omega) (by omega)) rfl ?_|refine SW.st (aV (1) rfl rfl (by assumption) (by omega) (by omega)) rfl ?_)|(show SW _ _ _ _ (⟨_,Op.load _ _,_,_,_,none⟩::_) _ _;first|refine SW.st (az rfl (au.cell rfl)) rfl ?_|refine SW.st (ag hw rfl (gB.c0 0 _ rfl)) rfl ?_|refine SW.st (ag hw rfl (gB.c0 1 _ rfl)) rfl ?_|refine SW.st (ag hw rfl (gB.c1 0 _ rfl)) rfl ?_|refine SW.st (ag hw rfl (gB.c1 1 _ rfl)) rfl ?_|refine SW.st (ag hw rfl g0) rfl ?_|refine SW.st (ag hw rfl g1) rfl ?_)|(show SW _ _ _ _ (⟨_,Op.call ⟨.value (.func _),_,_⟩,_,_,_,none⟩::_) _ _;refine SW.bf rfl rfl (fun w1 ab=>(ca _ _ _ _)) ?_)|exact SW.br rfl)
  rotate_left
  iterate 5 exact ae.aF rfl rfl ⟨_,rfl,hw,by rw [c9 (fun hh=>by have h1:=(hh.front kv).from_;have h2:=(hh.front kv).xw;have h3:=(hh.front kv).jF;have h4:=Gk hh;omega)]⟩
  clear Gk g0 g1 Cq
  have HL : 0≤z0.aR∧z0.aR≤z0.To∧z0.To≤256:=⟨sG.ok.1,sG.ok.2.1,sG.ok.2.2.1⟩
  have BC:ov h z0 z1:=⟨sG,te,by omega,by omega,by omega,by rw [em];simp [qv];omega⟩
  have hn:=gB.n
  have HM:∀ z∈h.aI,∀ b∈z.ao,dr 0 256 b:=fun z hz b hb=>by
   obtain ⟨i,hi,rfl⟩:=List.getElem_of_mem hb
   rw [kv] at hz
   simp only [List.mem_cons,List.not_mem_nil,or_false] at hz
   rcases hz with rfl|rfl
   ·exact (sG.gd i hi).wide sG.ok.1 sG.ok.2.2.1
   ·exact (te.gd i hi).wide te.ok.1 te.ok.2.2.1
  refine SW.alloc rfl fun b3 w2 cg bM ap => ?_
  have bO:w.heap.size≤b3:=Nat.le_trans hw.size bM
  (replace hw:=Ext.trans hw cg;replace au:=au.ext cg)
  have hS:n6 w2 w.heap.size b3 []:=⟨none,0,ap,Own.er _ _ _ _ _ _⟩
  clear ap
  repeat' (first|(first|refine CW.seq ?_|refine CW.region ?_|refine CW.block ?_)|(refine ae.seq ?_)|refine SW.nil ?_|refine SW.pure rfl rfl ?_|(refine SW.st (fT (vs:=[.pointer (some ⟨b3,0,none⟩)]) rfl) rfl ?_))
  refine CW.loop (fun k:Nat=>[(1,.pointer (some ⟨b1,0,none⟩)),(3,.pointer (some ⟨b3,0,none⟩)),(4,.func (.func 196) #[] ([.pointer (some ⟨b3,0,none⟩)] : List Value).toArray),(5,.int .i64 (k:Int))])
   (fun k w'=>k≤2∧Ext w w'∧aU w' b1 41 (bl r)∧n6 w' w.heap.size b3 ((h.aI.take k).flatMap ay.ao)∧kA ((h.aI.take k).flatMap ay.ao)) (fun k=>2-k) 0
   ⟨rfl,rfl,rfl,rfl,trivial⟩ ⟨by omega,hw,au,hS,kA.nil⟩ ?_
  clear hw au hS cg
  rintro k w' ⟨hk,hw,au,hS,hF⟩
  by_cases C2:k<2
  ·have Ed:k<h.aI.length:=by omega
   have ez:=gB.row.all (i:=k) (by omega)
   have yh:p7 w ([r0,r1][k]'(by simpa using C2)) h.aI[k]:=by
    simp only [kv]
    have:k=0∨k=1:=by omega
    rcases this with rfl|rfl
    ·exact gB.z0
    ·exact gB.z1
   generalize Hm:([r0,r1][k]'(by simpa using C2))=rk at ez yh
   have mj:=HM h.aI[k] (List.getElem_mem _)
   have EX:=hs.free h.aI[k] (List.getElem_mem _)
   have sH:(h.aI.take (k+1)).flatMap ay.ao=(h.aI.take k).flatMap ay.ao++h.aI[k].ao:=by
    rw [List.take_succ_eq_append_getElem Ed,List.flatMap_append];simp
   have lc:∀ (j:Nat) (hj:j<h.aI[k].ao.length),kA ((h.aI.take k).flatMap ay.ao++h.aI[k].ao.take j) → ¬ jv ((h.aI.take k).flatMap ay.ao++h.aI[k].ao.take j) h.aI[k].ao[j] → ¬ bq h:=fun j hj hf hx hh=>by
    obtain ⟨M,hM⟩:=tC Ed hj
    have:=hh.all
    have e:=hf.no hx (M:=M++aT h.ak++h.Live)
    rw [hM] at this
    simp only [List.append_assoc] at this e
    rw [e] at this
    cases this
   generalize h.aI[k]=zk at yh mj EX sH lc
   have Hn:=yh.free.base
   have oW:=yh.free.len
   repeat' (first|(first|refine CW.seq ?_|refine CW.region ?_|refine CW.block ?_|refine CW.gv rfl (by omega) ?_|refine CW.skip ?_)|(refine ae.seq ?_)|refine SW.nil ?_|refine SW.pure rfl rfl ?_)
   refine CW.loop (fun j:Nat=>[(1,.pointer (some ⟨b1,0,none⟩)),(3,.pointer (some ⟨b3,0,none⟩)),(4,.func (.func 196) #[] ([.pointer (some ⟨b3,0,none⟩)] : List Value).toArray),(5,.int .i64 (k:Int)),(6,.int .i64 (j:Int))])
    (fun j w'=>j≤rk.ao.n∧Ext w w'∧aU w' b1 41 (bl r)∧n6 w' w.heap.size b3 ((h.aI.take k).flatMap ay.ao++zk.ao.take j)∧kA ((h.aI.take k).flatMap ay.ao++zk.ao.take j)) (fun j=>rk.ao.n-j) 0
    ⟨rfl,rfl,rfl,rfl,rfl,trivial⟩ ⟨by omega,hw,au,by simpa using hS,by simpa using hF⟩ ?_
   clear hw au hS hF
   rintro j w' ⟨hj,hw,au,hS,hF⟩
   by_cases fF:j<rk.ao.n
   ·have jq:j<zk.ao.length:=by omega
    have CS:=mj zk.ao[j] (List.getElem_mem _)
    have Ct:zk.ao.take (j+1)=zk.ao.take j++[zk.ao[j]]:=List.take_succ_eq_append_getElem jq
    repeat' (first|(first|refine CW.seq ?_|refine CW.region ?_|refine CW.block ?_|refine CW.gv rfl (by omega) ?_|refine CW.skip ?_)|(refine ae.seq ?_)|refine SW.nil ?_|refine SW.pure rfl rfl ?_|(show SW _ _ _ _ (⟨_,Op.fieldAddr _ _ _,_,_,_,none⟩::_) _ _;refine SW.st (aP rfl) rfl ?_)|(show SW _ _ _ _ (⟨_,Op.indexAddr _ _ _,_,_,_,none⟩::_) _ _;refine SW.st (bH rfl rfl (by assumption) (by omega)) rfl ?_)|(show SW _ _ _ _ (⟨_,Op.call ⟨.builtin .len,_,_⟩,_,_,_,none⟩::_) _ _;refine SW.st (eI rfl) rfl ?_)|(show SW _ _ _ _ (⟨_,Op.load _ _,_,_,_,none⟩::_) _ _;first|refine SW.st (az rfl (au.cell rfl)) rfl ?_|refine SW.st (ag hw rfl (ez 2 _ rfl)) rfl ?_|refine SW.st (aA hw rfl rfl ((yh.free.all fF))) rfl ?_))
    refine SW.uO rfl rfl rfl (pt b3 _ zk.ao[j] w _ hw bO hS hF.2 hF.len CS) fun v w5 hv => ?_
    obtain ⟨fI,hK,rY⟩:=hv
    replace hw:=fI
    replace au:=hK.k _ _ _ au rfl rfl
    rcases rY with ⟨rfl,hf,vJ⟩|⟨rfl,hf,vJ⟩
    ·rw [List.append_assoc,← Ct] at vJ
     have nG:=hF.add CS hf
     rw [List.append_assoc,← Ct] at nG
     repeat' (first|(first|refine CW.region ?_|refine CW.cj rfl ?_|refine CW.skip ?_)|(first|refine ae.seq ?_|refine ae.gd ?_)|refine SW.nil ?_|refine SW.pure rfl rfl ?_|(show SW _ _ _ _ (⟨_,Op.binOp _ _ _ _ _,_,_,_,none⟩::_) _ _;refine SW.st (jg rfl rfl (by omega) (by omega)) rfl ?_))
     exact ae.again (j+1) ⟨rfl,rfl,rfl,rfl,rfl,trivial⟩ (by omega) ⟨by omega,hw,au,vJ,nG⟩
    ·repeat' (first|(first|refine CW.seq ?_|refine CW.region ?_|refine CW.cU rfl ?_|refine CW.ret ?_)|(first|refine ae.seq ?_|refine ae.eL ?_|refine ae.fQ ?_|refine ae.dP ?_)|refine SW.nil ?_|refine SW.pure rfl rfl ?_)
     exact ae.aF rfl rfl ⟨_,rfl,hw,by rw [c9 (lc j jq hF hf)]⟩
   ·obtain rfl:j=rk.ao.n:=by omega
    rw [List.take_of_length_le (l:=zk.ao) (by omega),← sH] at hS hF
    repeat' (first|(first|refine CW.seq ?_|refine CW.region ?_|refine CW.fP rfl (by omega) ?_|refine CW.exit ?_)|(first|refine ae.seq ?_|refine ae.fO ?_|refine ae.hit ?_|refine ae.gd ?_|refine ae.ej ?_)|refine SW.nil ?_|refine SW.pure rfl rfl ?_|(show SW _ _ _ _ (⟨_,Op.fieldAddr _ _ _,_,_,_,none⟩::_) _ _;refine SW.st (aP rfl) rfl ?_)|(show SW _ _ _ _ (⟨_,Op.binOp _ _ _ _ _,_,_,_,none⟩::_) _ _;refine SW.st (jg rfl rfl (by omega) (by omega)) rfl ?_)|(show SW _ _ _ _ (⟨_,Op.indexAddr _ _ _,_,_,_,none⟩::_) _ _;refine SW.st (bH rfl rfl (by assumption) (by omega)) rfl ?_)|(show SW _ _ _ _ (⟨_,Op.call ⟨.builtin .len,_,_⟩,_,_,_,none⟩::_) _ _;refine SW.st (eI rfl) rfl ?_)|(show SW _ _ _ _ (⟨_,Op.load _ _,_,_,_,none⟩::_) _ _;first|refine SW.st (az rfl (au.cell rfl)) rfl ?_|refine SW.st (ag hw rfl (ez 2 _ rfl)) rfl ?_))
    exact ae.again (k+1) ⟨rfl,rfl,rfl,rfl,trivial⟩ (by omega) ⟨by omega,hw,au,hS,hF⟩
  ·obtain rfl:k=2:=by omega
   rw [List.take_of_length_le (by omega)] at hS hF
   have El:=fun hh:bq h=>hh.all
   have Gl:h.aI.flatMap ay.ao=z0.ao++z1.ao:=by rw [kv];simp
   generalize h.aI.flatMap ay.ao=F at hS hF El Gl
   have Cu:=hF.1
   obtain ⟨ls,hl⟩:=hr.lists
   obtain ⟨vG,He⟩:=hl.len
   have Gm:=hl.row.base
   have zn:=hs.lists
   repeat' (first|(first|refine CW.seq ?_|refine CW.region ?_|refine CW.block ?_|refine CW.fP rfl (by omega) ?_|refine CW.exit ?_)|(first|refine ae.seq ?_|refine ae.fO ?_|refine ae.hit ?_|refine ae.ej ?_)|refine SW.nil ?_|refine SW.pure rfl rfl ?_)
   refine CW.loop (fun k:Nat=>[(1,.pointer (some ⟨b1,0,none⟩)),(3,.pointer (some ⟨b3,0,none⟩)),(4,.func (.func 196) #[] ([.pointer (some ⟨b3,0,none⟩)] : List Value).toArray),(7,.int .i64 (k:Int))])
    (fun k w'=>k≤r.ak.n∧Ext w w'∧aU w' b1 41 (bl r)∧n6 w' w.heap.size b3 (F++aT (h.ak.take k))∧kA (F++aT (h.ak.take k))∧rW h.bt z0.To h.ak k) (fun k=>r.ak.n-k) 0
    ⟨rfl,rfl,rfl,rfl,trivial⟩ ⟨by omega,hw,au,by simpa [aT] using hS,by simpa [aT] using hF,.nil _ _ _⟩ ?_
   clear hw au hS hF
   rintro k w' ⟨hk,hw,au,hS,hF,hP⟩
   by_cases cc:k<r.ak.n
   ·have cG:k<ls.length:=by omega
    have rX:k<h.ak.length:=by omega
    have wz:=hl.each.get k cG rX
    have ER:=wz.cpu
    have ES:=wz.fL
    have dH:=wz.ty
    have Hf:=wz.cw.len
    have Hg:=wz.cw.base
    have qu:=wz.cw
    have ez:=hl.row.all cc
    have gi:=hl.row.all (i:=k-1) (show k-1<r.ak.n by omega)
    repeat' (first|(first|refine CW.seq ?_|refine CW.region ?_|refine CW.block ?_|refine CW.gv rfl (by omega) ?_|refine CW.skip ?_)|(refine ae.seq ?_)|refine SW.nil ?_|refine SW.pure rfl rfl ?_|(show SW _ _ _ _ (⟨_,Op.fieldAddr _ _ _,_,_,_,none⟩::_) _ _;refine SW.st (aP rfl) rfl ?_)|(show SW _ _ _ _ (⟨_,Op.indexAddr _ _ _,_,_,_,none⟩::_) _ _;refine SW.st (bH rfl rfl (by assumption) (by omega)) rfl ?_)|(show SW _ _ _ _ (⟨_,Op.call ⟨.builtin .len,_,_⟩,_,_,_,none⟩::_) _ _;refine SW.st (eI rfl) rfl ?_)|(show SW _ _ _ _ (⟨_,Op.load _ _,_,_,_,none⟩::_) _ _;first|refine SW.st (az rfl (au.cell rfl)) rfl ?_|refine SW.st (aA hw rfl rfl ((ez))) rfl ?_))
    refine SW.alloc rfl fun b8 w1 ab jj bx => ?_
    skip
    refine SW.aj bx rfl rfl rfl rfl (fM.one (enc:=bg) _) fun w2 fY hg => ?_
    have ai:=ab.own jj hg
    have gK:w.heap.size≤b8:=Nat.le_trans hw.size jj
    replace hw:=Ext.trans hw ai
    replace au:=au.ext ai
    replace hS:=hS.ext ai
    replace bx:=fY
    clear fY ab hg ai
    repeat' (first|(refine CW.seq ?_)|(refine ae.seq ?_)|refine SW.nil ?_)
    by_cases Bz:ko r.bt h.ak[k]
    ·obtain ⟨e1,e2,e3,e4⟩:=id Bz
     obtain ⟨q,hq⟩ : ∃ q,decide (bk (h.ak[k-1]'(by omega)) h.ak[k])=q:=⟨_,rfl⟩
     have uM:=hl.each.get (k-1) (by omega) (by omega)
     have cL:∀ w',a9 Tryz.prog 198 [.agg (bg (ls[k-1]'(by omega))).toArray,.agg (bg ls[k]).toArray] w' fun v _=>v = .bool q:=fun w'=>by
      have:=pk (ls[k-1]'(by omega)) ls[k] (h.ak[k-1]'(by omega)) h.ak[k] w' ⟨uM.cpu,uM.fL,uM.ty⟩ ⟨ER,ES,dH⟩
      rwa [hq] at this
     have qV:(0<k∧q=false)∨(0<k∧q=true)∨k=0:=by cases q<;>simp<;>omega
     rcases qV with ⟨lh,rfl⟩|⟨lh,rfl⟩|lh
     repeat' (first|(first|refine CW.seq ?_|refine CW.region ?_|refine CW.block ?_|refine CW.oF rfl (by with_reducible rfl) ?_|refine CW.fP rfl (by omega) ?_|refine CW.kK rfl (by omega) ?_|refine CW.skip ?_|refine CW.ret ?_|(apply CW.aM mixed;(· kernel_rfl);rotate_left;intro w1 ab;replace hw:=Ext.trans hw ab;replace au:=au.ext ab;replace bx:=bx.ext ab;replace hS:=hS.ext ab;clear ab;rotate_right))|(first|refine ae.seq ?_|refine ae.eL ?_|refine ae.fQ ?_|refine ae.dP ?_)|refine SW.nil ?_|(show SW _ _ _ _ (⟨_,_,_,_,_,some _⟩::_) _ _;first|refine SW.eX rfl rfl (by with_reducible rfl) ?_|refine SW.bC rfl rfl (by with_reducible rfl) ?_|refine SW.fj rfl rfl (by with_reducible rfl) rfl ?_|refine SW.gF rfl rfl rfl (by omega) ?_|refine SW.gG rfl rfl rfl (by omega) ?_|refine SW.dg rfl rfl rfl (by omega) ?_)|refine SW.pure rfl rfl ?_|(show SW _ _ _ _ (⟨_,Op.fieldAddr _ _ _,_,_,_,none⟩::_) _ _;refine SW.st (aP rfl) rfl ?_)|(show SW _ _ _ _ (⟨_,Op.binOp _ _ _ _ _,_,_,_,none⟩::_) _ _;refine SW.st (iA rfl rfl (by omega) (by omega)) rfl ?_)|(show SW _ _ _ _ (⟨_,Op.indexAddr _ _ _,_,_,_,none⟩::_) _ _;refine SW.st (aV (k-1) rfl rfl (by assumption) (by omega) (by omega)) rfl ?_)|(show SW _ _ _ _ (⟨_,Op.call ⟨.builtin .len,_,_⟩,_,_,_,none⟩::_) _ _;refine SW.st (eI rfl) rfl ?_)|(show SW _ _ _ _ (⟨_,Op.load _ _,_,_,_,none⟩::_) _ _;first|refine SW.st (az rfl (bx.cell rfl)) rfl ?_|refine SW.st (az rfl (au.cell rfl)) rfl ?_|refine SW.st (aA hw rfl rfl ((gi))) rfl ?_|refine SW.st (aS rfl rfl ((fun _ _=>bx.cell))) rfl ?_)|(show SW _ _ _ _ (⟨_,Op.call ⟨.value (.func _),_,_⟩,_,_,_,none⟩::_) _ _;first|refine SW.bf rfl rfl (fun w1 ab=>(cL _)) ?_|refine SW.bf rfl rfl (fun w1 ab=>(ca _ _ _ _)) ?_)|exact SW.br rfl)
     ·exact ae.aF rfl rfl ⟨_,rfl,hw,by rw [c9 (fun hh=>by
       have:=(hh.rest kv).1.next (k-1) (by omega)
       simp only [show k-1+1=k by omega] at this
       exact of_decide_eq_false hq this)]⟩
     all_goals
      have ET:∀ (h0 : 0<k),bk (h.ak[k-1]'(by omega)) h.ak[k]:=fun h0=>by first|exact of_decide_eq_true hq|omega
      clear cL hq ez gi
      have Dm:∀ (j:Nat) (hj:j<h.ak[k].aw.length),kA (F++aT (h.ak.take k)++(h.ak[k].aw.take j).map bz) → ¬ jv (F++aT (h.ak.take k)++(h.ak[k].aw.take j).map bz) (bz h.ak[k].aw[j]) → ¬ bq h:=fun j hj hf hx hh=>by
       have:=dR (El hh)
       have e:=hf.no hx (M:=[])
       have e2:aY (aY (some F) (aT (h.ak.take k))) ((h.ak[k].aw.take (j+1)).map bz)=none:=by
        have e0:aY (some []) F=some F:=by
         have h1:=Cu
         exact h1
        rw [List.take_succ_eq_append_getElem hj,List.map_append,← e0,← a8,← a8]
        simpa using e
       have e3:=nz rX (by omega) e2
       rw [a8,Cu,e3] at this
       cases this
      refine CW.loop (fun j:Nat=>[(1,.pointer (some ⟨b1,0,none⟩)),(3,.pointer (some ⟨b3,0,none⟩)),(4,.func (.func 196) #[] ([.pointer (some ⟨b3,0,none⟩)] : List Value).toArray),(7,.int .i64 (k:Int)),(8,.pointer (some ⟨b8,0,none⟩)),(9,.int .i64 (j:Int))])
       (fun j w'=>j≤ls[k].aw.n∧Ext w w'∧aU w' b1 41 (bl r)∧aU w' b8 142 (bg ls[k])∧n6 w' w.heap.size b3 (F++aT (h.ak.take k)++(h.ak[k].aw.take j).map bz)∧kA (F++aT (h.ak.take k)++(h.ak[k].aw.take j).map bz) ∧ ∀ (i:Nat) (hi:i<h.ak[k].aw.length),i<j→(h.ak[k].aw[i]<z0.To↔h.ak[k].ay=0)) (fun j=>ls[k].aw.n-j) 0
       ⟨rfl,rfl,rfl,rfl,rfl,rfl,trivial⟩ ⟨by omega,hw,au,bx,by simpa using hS,by simpa using hF,fun i _ h=>by omega⟩ ?_
      clear hw au bx hS hF jj gK
      rintro j w' ⟨hj,hw,au,bx,hS,hF,hZ⟩
      by_cases fF:j<ls[k].aw.n
      ·have jq:j<h.ak[k].aw.length:=by omega
       have lc:=Dm j jq hF
       have Ct:(h.ak[k].aw.take (j+1)).map bz=(h.ak[k].aw.take j).map bz++[bz h.ak[k].aw[j]]:=by rw [List.take_succ_eq_append_getElem jq,List.map_append];rfl
       have Em:=qu.one fF rfl
       have nZ:bq h→(h.ak[k].aw[j]<z0.To↔h.ak[k].ay=0)∧0≤h.ak[k].aw[j]∧h.ak[k].aw[j]<256:=fun hh=>by
        refine ⟨(hh.rest kv).1.fL k rX _ (List.getElem_mem _),?_⟩
        have h1:=dR (El hh)
        have h2:=nA h1 (bz h.ak[k].aw[j]) (List.mem_append_right _ (List.mem_flatMap.2 ⟨h.ak[k],List.getElem_mem _,List.mem_map.2 ⟨_,List.getElem_mem _,rfl⟩⟩))
        simp only [bz,ij] at h2
        omega
       generalize hp:h.ak[k].aw[j]=p at lc Ct Em nZ
       have fK:((ls[k].ay=0 ∧ ¬ (r0.aR≤p∧p≤r0.To-1))∨(ls[k].ay=1 ∧ ¬ (r1.aR≤p∧p≤r1.To-1)))∨((ls[k].ay=0∧(r0.aR≤p∧p≤r0.To-1))∨(ls[k].ay=1∧(r1.aR≤p∧p≤r1.To-1))):=by omega
       rcases fK with fK|fK
       ·have qg : ¬ bq h:=fun hh=>by
         have:=nZ hh
         omega
        rw [c9 qg]
        rcases fK with ⟨a,d⟩|⟨a,d⟩
        repeat' (first|(first|refine CW.seq ?_|refine CW.region ?_|refine CW.block ?_|refine CW.jf rfl (by with_reducible rfl) ?_|refine CW.gv rfl (by omega) ?_|refine CW.skip ?_|refine CW.ret ?_|(apply CW.aM mixed;(· kernel_rfl);rotate_left;intro w1 ab;replace hw:=Ext.trans hw ab;replace au:=au.ext ab;replace bx:=bx.ext ab;replace hS:=hS.ext ab;clear ab;rotate_right))|(first|refine ae.seq ?_|refine ae.eL ?_|refine ae.fQ ?_|refine ae.dP ?_)|refine SW.nil ?_|(show SW _ _ _ _ (⟨_,_,_,_,_,some _⟩::_) _ _;first|refine SW.je rfl rfl (by with_reducible rfl) rfl ?_|refine SW.fq rfl rfl rfl (by omega) ?_)|refine SW.pure rfl rfl ?_|(show SW _ _ _ _ (⟨_,Op.fieldAddr _ _ _,_,_,_,none⟩::_) _ _;refine SW.st (aP rfl) rfl ?_)|(show SW _ _ _ _ (⟨_,Op.binOp _ _ _ _ _,_,_,_,none⟩::_) _ _;refine SW.st (iA rfl rfl (by omega) (by omega)) rfl ?_)|(show SW _ _ _ _ (⟨_,Op.indexAddr _ _ _,_,_,_,none⟩::_) _ _;first|refine SW.st (bH rfl rfl (by assumption) (by omega)) rfl ?_|refine SW.st (aV (0) rfl rfl (by assumption) (by omega) (by omega)) rfl ?_|refine SW.st (aV (1) rfl rfl (by assumption) (by omega) (by omega)) rfl ?_)|(show SW _ _ _ _ (⟨_,Op.call ⟨.builtin .len,_,_⟩,_,_,_,none⟩::_) _ _;refine SW.st (eI rfl) rfl ?_)|(show SW _ _ _ _ (⟨_,Op.load _ _,_,_,_,none⟩::_) _ _;first|refine SW.st (az rfl (bx.cell rfl)) rfl ?_|refine SW.st (az rfl (au.cell rfl)) rfl ?_|refine SW.st (ag hw rfl (gB.c0 0 _ rfl)) rfl ?_|refine SW.st (ag hw rfl (gB.c0 1 _ rfl)) rfl ?_|refine SW.st (ag hw rfl (gB.c1 0 _ rfl)) rfl ?_|refine SW.st (ag hw rfl (gB.c1 1 _ rfl)) rfl ?_|refine SW.st (ag hw rfl Em) rfl ?_)|(show SW _ _ _ _ (⟨_,Op.call ⟨.value (.func _),_,_⟩,_,_,_,none⟩::_) _ _;refine SW.bf rfl rfl (fun w1 ab=>(ca _ _ _ _)) ?_)|exact SW.br rfl)
        all_goals exact ae.aF rfl rfl ⟨_,rfl,hw,rfl⟩
       ·have HN:(p<z0.To↔h.ak[k].ay=0)∧dr 0 256 (bz p):=by
         simp only [dr,dJ,bz,ij,j3]
         omega
        obtain ⟨HO,Dn⟩:=HN
        rcases fK with ⟨a,d⟩|⟨a,d⟩
        all_goals
         repeat' (first|(first|refine CW.seq ?_|refine CW.region ?_|refine CW.block ?_|refine CW.gv rfl (by omega) ?_|refine CW.skip ?_)|(refine ae.seq ?_)|refine SW.nil ?_|refine SW.pure rfl rfl ?_|(show SW _ _ _ _ (⟨_,Op.fieldAddr _ _ _,_,_,_,none⟩::_) _ _;refine SW.st (aP rfl) rfl ?_)|(show SW _ _ _ _ (⟨_,Op.call ⟨.builtin .len,_,_⟩,_,_,_,none⟩::_) _ _;refine SW.st (eI rfl) rfl ?_)|(show SW _ _ _ _ (⟨_,Op.load _ _,_,_,_,none⟩::_) _ _;refine SW.st (az rfl (bx.cell rfl)) rfl ?_))
         refine CW.any 30 mixed (bZ (by kernel_rfl)) rfl fun w1 ab bd => ?_
         replace hw:=Ext.trans hw ab;replace au:=au.ext ab;replace bx:=bx.ext ab;replace hS:=hS.ext ab;clear ab
         refine SA.take 0 bd rfl (by kernel_rfl) (by kernel_rfl) rfl ?_
         repeat ((show SW _ _ _ _ (⟨_,Op.fieldAddr _ _ _,_,_,_,none⟩::_) _ _;refine SW.st (aP rfl) rfl ?_))
         refine SW.aq ?_
         refine SA.take 1 bd rfl (by kernel_rfl) (by kernel_rfl) rfl ?_
         repeat ((show SW _ _ _ _ (⟨_,Op.load _ _,_,_,_,none⟩::_) _ _;refine SW.st (az rfl (bx.cell rfl)) rfl ?_))
         refine SW.aq ?_
         refine SA.take 2 bd rfl (by kernel_rfl) (by kernel_rfl) rfl ?_
         repeat (refine SW.pure rfl rfl ?_)
         refine SW.aq ?_
         refine SA.take 3 bd rfl (by kernel_rfl) (by kernel_rfl) rfl ?_
         repeat ((show SW _ _ _ _ (⟨_,Op.indexAddr _ _ _,_,_,_,none⟩::_) _ _;refine SW.st (bH rfl rfl (by assumption) (by omega)) rfl ?_))
         refine SW.aq ?_
         refine SA.take 4 bd rfl (by kernel_rfl) (by kernel_rfl) rfl ?_
         repeat ((show SW _ _ _ _ (⟨_,Op.load _ _,_,_,_,none⟩::_) _ _;refine SW.st (ag hw rfl Em) rfl ?_))
         refine SW.aq ?_
         refine SA.take 5 bd rfl (by kernel_rfl) (by kernel_rfl) rfl ?_
         repeat ((show SW _ _ _ _ (⟨_,Op.fieldAddr _ _ _,_,_,_,none⟩::_) _ _;refine SW.st (aP rfl) rfl ?_))
         refine SW.aq ?_
         refine SA.take 6 bd rfl (by kernel_rfl) (by kernel_rfl) rfl ?_
         repeat ((show SW _ _ _ _ (⟨_,Op.load _ _,_,_,_,none⟩::_) _ _;refine SW.st (az rfl (au.cell rfl)) rfl ?_))
         refine SW.aq ?_
         refine SA.take 7 bd rfl (by kernel_rfl) (by kernel_rfl) rfl ?_
         repeat ((show SW _ _ _ _ (⟨_,Op.fieldAddr _ _ _,_,_,_,none⟩::_) _ _;refine SW.st (aP rfl) rfl ?_))
         refine SW.aq ?_
         refine SA.take 8 bd rfl (by kernel_rfl) (by kernel_rfl) rfl ?_
         repeat ((show SW _ _ _ _ (⟨_,Op.load _ _,_,_,_,none⟩::_) _ _;refine SW.st (az rfl (bx.cell rfl)) rfl ?_))
         refine SW.aq ?_
         refine SA.take 9 bd rfl (by kernel_rfl) (by kernel_rfl) rfl ?_
         repeat ((show SW _ _ _ _ (⟨_,Op.indexAddr _ _ _,_,_,_,none⟩::_) _ _;first|refine SW.st (aV (0) rfl rfl (by assumption) (by omega) (by omega)) rfl ?_|refine SW.st (aV (1) rfl rfl (by assumption) (by omega) (by omega)) rfl ?_))
         refine SW.aq ?_
         refine SA.take 10 bd rfl (by kernel_rfl) (by kernel_rfl) rfl ?_
         repeat ((show SW _ _ _ _ (⟨_,Op.fieldAddr _ _ _,_,_,_,none⟩::_) _ _;refine SW.st (aP rfl) rfl ?_))
         refine SW.aq ?_
         refine SA.take 11 bd rfl (by kernel_rfl) (by kernel_rfl) rfl ?_
         repeat ((show SW _ _ _ _ (⟨_,Op.load _ _,_,_,_,none⟩::_) _ _;first|refine SW.st (ag hw rfl (gB.c0 0 _ rfl)) rfl ?_|refine SW.st (ag hw rfl (gB.c1 0 _ rfl)) rfl ?_))
         refine SW.aq ?_
         refine SA.take 12 bd rfl (by kernel_rfl) (by kernel_rfl) rfl ?_
         repeat ((show SW _ _ _ _ (⟨_,Op.fieldAddr _ _ _,_,_,_,none⟩::_) _ _;refine SW.st (aP rfl) rfl ?_))
         refine SW.aq ?_
         refine SA.take 13 bd rfl (by kernel_rfl) (by kernel_rfl) rfl ?_
         repeat ((show SW _ _ _ _ (⟨_,Op.load _ _,_,_,_,none⟩::_) _ _;refine SW.st (az rfl (au.cell rfl)) rfl ?_))
         refine SW.aq ?_
         refine SA.take 14 bd rfl (by kernel_rfl) (by kernel_rfl) rfl ?_
         repeat ((show SW _ _ _ _ (⟨_,Op.fieldAddr _ _ _,_,_,_,none⟩::_) _ _;refine SW.st (aP rfl) rfl ?_))
         refine SW.aq ?_
         refine SA.take 15 bd rfl (by kernel_rfl) (by kernel_rfl) rfl ?_
         repeat ((show SW _ _ _ _ (⟨_,Op.load _ _,_,_,_,none⟩::_) _ _;refine SW.st (az rfl (bx.cell rfl)) rfl ?_))
         refine SW.aq ?_
         refine SA.take 16 bd rfl (by kernel_rfl) (by kernel_rfl) rfl ?_
         repeat ((show SW _ _ _ _ (⟨_,Op.indexAddr _ _ _,_,_,_,none⟩::_) _ _;first|refine SW.st (aV (0) rfl rfl (by assumption) (by omega) (by omega)) rfl ?_|refine SW.st (aV (1) rfl rfl (by assumption) (by omega) (by omega)) rfl ?_))
         refine SW.aq ?_
         refine SA.take 17 bd rfl (by kernel_rfl) (by kernel_rfl) rfl ?_
         repeat ((show SW _ _ _ _ (⟨_,Op.fieldAddr _ _ _,_,_,_,none⟩::_) _ _;refine SW.st (aP rfl) rfl ?_))
         refine SW.aq ?_
         refine SA.take 18 bd rfl (by kernel_rfl) (by kernel_rfl) rfl ?_
         repeat ((show SW _ _ _ _ (⟨_,Op.load _ _,_,_,_,none⟩::_) _ _;first|refine SW.st (ag hw rfl (gB.c0 1 _ rfl)) rfl ?_|refine SW.st (ag hw rfl (gB.c1 1 _ rfl)) rfl ?_))
         refine SW.aq ?_
         refine SA.take 19 bd rfl (by kernel_rfl) (by kernel_rfl) rfl ?_
         repeat ((show SW _ _ _ _ (⟨_,Op.binOp _ _ _ _ _,_,_,_,none⟩::_) _ _;refine SW.st (iA rfl rfl (by omega) (by omega)) rfl ?_))
         refine SW.aq ?_
         refine SA.one 20 rfl (by kernel_rfl) rfl ?_
         refine SW.call rfl rfl (ca _ _ _ _) fun v w5 ai hv => ?_
         subst hv
         (replace hw:=Ext.trans hw ai;replace au:=au.ext ai;replace bx:=bx.ext ai;replace hS:=hS.ext ai)
         refine SW.nil (ae.sa ai ?_)
         refine SA.take 21 bd rfl (by kernel_rfl) (by kernel_rfl) rfl ?_
         repeat (refine SW.pure rfl rfl ?_)
         refine SW.aq ?_
         refine SA.take 22 bd rfl (by kernel_rfl) (by kernel_rfl) rfl ?_
         repeat (refine SW.pure rfl rfl ?_)
         refine SW.aq ?_
         refine SA.take 23 bd rfl (by kernel_rfl) (by kernel_rfl) rfl ?_
         repeat (first|(show SW _ _ _ _ (⟨_,_,_,_,_,some _⟩::_) _ _;first|refine SW.bC rfl rfl (by with_reducible rfl) ?_|refine SW.dg rfl rfl rfl (by omega) ?_)|refine SW.pure rfl rfl ?_)
         refine SW.aq ?_
         refine SA.take 24 bd rfl (by kernel_rfl) (by kernel_rfl) rfl ?_
         repeat (first|(show SW _ _ _ _ (⟨_,_,_,_,_,some _⟩::_) _ _;refine SW.bC rfl rfl (by with_reducible rfl) ?_)|(show SW _ _ _ _ (⟨_,Op.fieldAddr _ _ _,_,_,_,none⟩::_) _ _;refine SW.st (aP rfl) rfl ?_))
         refine SW.aq ?_
         refine SA.take 25 bd rfl (by kernel_rfl) (by kernel_rfl) rfl ?_
         repeat (first|(show SW _ _ _ _ (⟨_,_,_,_,_,some _⟩::_) _ _;refine SW.bC rfl rfl (by with_reducible rfl) ?_)|(show SW _ _ _ _ (⟨_,Op.load _ _,_,_,_,none⟩::_) _ _;refine SW.st (az rfl (bx.cell rfl)) rfl ?_))
         refine SW.aq ?_
         refine SA.take 26 bd rfl (by kernel_rfl) (by kernel_rfl) rfl ?_
         repeat (first|(show SW _ _ _ _ (⟨_,_,_,_,_,some _⟩::_) _ _;refine SW.bC rfl rfl (by with_reducible rfl) ?_)|refine SW.pure rfl rfl ?_)
         refine SW.aq ?_
         refine SA.take 27 bd rfl (by kernel_rfl) (by kernel_rfl) rfl ?_
         repeat (first|(show SW _ _ _ _ (⟨_,_,_,_,_,some _⟩::_) _ _;refine SW.bC rfl rfl (by with_reducible rfl) ?_)|(show SW _ _ _ _ (⟨_,Op.indexAddr _ _ _,_,_,_,none⟩::_) _ _;refine SW.st (bH rfl rfl (by assumption) (by omega)) rfl ?_))
         refine SW.aq ?_
         refine SA.take 28 bd rfl (by kernel_rfl) (by kernel_rfl) rfl ?_
         repeat (first|(show SW _ _ _ _ (⟨_,_,_,_,_,some _⟩::_) _ _;refine SW.bC rfl rfl (by with_reducible rfl) ?_)|(show SW _ _ _ _ (⟨_,Op.load _ _,_,_,_,none⟩::_) _ _;refine SW.st (ag hw rfl Em) rfl ?_))
         refine SW.aq ?_
         refine SA.take 29 bd rfl (by kernel_rfl) (by kernel_rfl) rfl ?_
         repeat (first|(show SW _ _ _ _ (⟨_,_,_,_,_,some _⟩::_) _ _;refine SW.bC rfl rfl (by with_reducible rfl) ?_)|(show SW _ _ _ _ (⟨_,Op.build _ _,_,_,_,none⟩::_) _ _;refine SW.st (jr rfl rfl) rfl ?_))
         refine SW.aq ?_
         refine SA.done (by kernel_rfl) ?_
         repeat' ((show SW _ _ _ _ (⟨_,_,_,_,_,some _⟩::_) _ _;refine SW.bC rfl rfl (by with_reducible rfl) ?_))
         refine SW.uO rfl rfl rfl (pt b3 _ (bz p) w _ hw bO hS hF.2 hF.len Dn) fun v w6 hv => ?_
         obtain ⟨uk,hK,rY⟩:=hv
         replace hw:=uk
         replace au:=hK.k _ _ _ au rfl rfl
         replace bx:=hK.k _ _ _ bx rfl rfl
         rcases rY with ⟨rfl,hf,vJ⟩|⟨rfl,hf,vJ⟩
         ·rw [List.append_assoc,← Ct] at vJ
          have nG:=hF.add Dn hf
          rw [List.append_assoc,← Ct] at nG
          repeat' (first|(first|refine CW.region ?_|refine CW.fP rfl (by omega) ?_|refine CW.skip ?_)|(first|refine ae.seq ?_|refine ae.gd ?_|refine ae.np ?_)|refine SW.nil ?_|(show SW _ _ _ _ (⟨_,_,_,_,_,some _⟩::_) _ _;refine SW.bC rfl rfl (by with_reducible rfl) ?_)|refine SW.pure rfl rfl ?_|(show SW _ _ _ _ (⟨_,Op.binOp _ _ _ _ _,_,_,_,none⟩::_) _ _;refine SW.st (jg rfl rfl (by omega) (by omega)) rfl ?_))
          refine ae.again (j+1) ⟨rfl,rfl,rfl,rfl,rfl,rfl,trivial⟩ (by omega) ⟨by omega,hw,au,bx,vJ,nG,fun i hi jN => ?_⟩
          by_cases e:i=j
          ·subst e;rw [hp];exact HO
          ·exact hZ i hi (by omega)
         ·repeat' (first|(first|refine CW.seq ?_|refine CW.region ?_|refine CW.cU rfl ?_|refine CW.ret ?_)|(first|refine ae.seq ?_|refine ae.eL ?_|refine ae.fQ ?_|refine ae.dP ?_|refine ae.np ?_)|refine SW.nil ?_|(show SW _ _ _ _ (⟨_,_,_,_,_,some _⟩::_) _ _;refine SW.bC rfl rfl (by with_reducible rfl) ?_)|refine SW.pure rfl rfl ?_)
          exact ae.aF rfl rfl ⟨_,rfl,hw,by rw [c9 (lc hf)]⟩
      ·obtain rfl:j=ls[k].aw.n:=by omega
       rw [List.take_of_length_le (l:=h.ak[k].aw) (by omega),List.append_assoc,← iZ _ _ rX] at hS hF
       repeat' (first|(first|refine CW.seq ?_|refine CW.region ?_|refine CW.fP rfl (by omega) ?_|refine CW.exit ?_)|(first|refine ae.seq ?_|refine ae.fO ?_|refine ae.hit ?_|refine ae.gd ?_|refine ae.ej ?_)|refine SW.nil ?_|refine SW.pure rfl rfl ?_|(show SW _ _ _ _ (⟨_,Op.fieldAddr _ _ _,_,_,_,none⟩::_) _ _;refine SW.st (aP rfl) rfl ?_)|(show SW _ _ _ _ (⟨_,Op.binOp _ _ _ _ _,_,_,_,none⟩::_) _ _;refine SW.st (jg rfl rfl (by omega) (by omega)) rfl ?_)|(show SW _ _ _ _ (⟨_,Op.call ⟨.builtin .len,_,_⟩,_,_,_,none⟩::_) _ _;refine SW.st (eI rfl) rfl ?_)|(show SW _ _ _ _ (⟨_,Op.load _ _,_,_,_,none⟩::_) _ _;refine SW.st (az rfl (bx.cell rfl)) rfl ?_))
       refine ae.again (k+1) ⟨rfl,rfl,rfl,rfl,trivial⟩ (by omega) ⟨by omega,hw,au,hS,hF,hP.snoc rX (by rwa [← ku]) ET fun p hp => ?_⟩
       obtain ⟨i,hi,rfl⟩:=List.getElem_of_mem hp
       exact hZ i hi (by omega)
    ·have lc : ¬ bq h:=fun hh=>Bz (by have:=(hh.rest kv).1.head k rX;rwa [← ku] at this)
     rw [c9 lc]
     have EU : ¬ (((0≤ls[k].dq∧ls[k].dq<r.bt)∧(0≤ls[k].ay∧ls[k].ay≤1)∧(0≤ls[k].Ty∧ls[k].Ty≤2)∧(1≤ls[k].aw.n∧ls[k].aw.n≤8))):=fun hh=>Bz (by unfold ko;omega)
     have fK : ¬ (0≤ls[k].dq∧ls[k].dq≤r.bt-1)∨((0≤ls[k].dq∧ls[k].dq≤r.bt-1)∧(¬ (0≤ls[k].ay∧ls[k].ay≤1)∨((0≤ls[k].ay∧ls[k].ay≤1)∧(¬ (0≤ls[k].Ty∧ls[k].Ty≤2)∨((0≤ls[k].Ty∧ls[k].Ty≤2) ∧ ¬ (1≤ls[k].aw.n∧ls[k].aw.n≤8)))))):=by omega
     rcases fK with d|⟨d1,d|⟨d2,d|⟨d3,d⟩⟩⟩
     repeat' (first|(first|refine CW.seq ?_|refine CW.region ?_|refine CW.jf rfl (by with_reducible rfl) ?_|refine CW.ret ?_|(apply CW.aM mixed;(· kernel_rfl);rotate_left;intro w1 ab;replace hw:=Ext.trans hw ab;replace au:=au.ext ab;replace bx:=bx.ext ab;replace hS:=hS.ext ab;clear ab;rotate_right))|(first|refine ae.seq ?_|refine ae.eL ?_|refine ae.fQ ?_|refine ae.dP ?_)|refine SW.nil ?_|(show SW _ _ _ _ (⟨_,_,_,_,_,some _⟩::_) _ _;first|refine SW.bC rfl rfl (by with_reducible rfl) ?_|refine SW.je rfl rfl (by with_reducible rfl) rfl ?_|refine SW.lx rfl rfl (by with_reducible rfl) rfl ?_|refine SW.fq rfl rfl rfl (by omega) ?_|refine SW.dg rfl rfl rfl (by omega) ?_)|refine SW.pure rfl rfl ?_|(show SW _ _ _ _ (⟨_,Op.fieldAddr _ _ _,_,_,_,none⟩::_) _ _;refine SW.st (aP rfl) rfl ?_)|(show SW _ _ _ _ (⟨_,Op.binOp _ _ _ _ _,_,_,_,none⟩::_) _ _;refine SW.st (iA rfl rfl (by omega) (by omega)) rfl ?_)|(show SW _ _ _ _ (⟨_,Op.call ⟨.builtin .len,_,_⟩,_,_,_,none⟩::_) _ _;refine SW.st (eI rfl) rfl ?_)|(show SW _ _ _ _ (⟨_,Op.load _ _,_,_,_,none⟩::_) _ _;first|refine SW.st (az rfl (bx.cell rfl)) rfl ?_|refine SW.st (az rfl (au.cell rfl)) rfl ?_)|(show SW _ _ _ _ (⟨_,Op.call ⟨.value (.func _),_,_⟩,_,_,_,none⟩::_) _ _;refine SW.bf rfl rfl (fun w1 ab=>(ca _ _ _ _)) ?_)|exact SW.br rfl)
     all_goals exact ae.aF rfl rfl ⟨_,rfl,hw,rfl⟩
   ·obtain rfl:k=r.ak.n:=by omega
    rw [List.take_of_length_le (by omega)] at hS hF
    have hL:=hP.all (by omega)
    repeat' (first|(first|refine CW.seq ?_|refine CW.region ?_|refine CW.block ?_|refine CW.fP rfl (by omega) ?_|refine CW.exit ?_)|(first|refine ae.seq ?_|refine ae.fO ?_|refine ae.hit ?_|refine ae.ej ?_)|refine SW.nil ?_|refine SW.pure rfl rfl ?_|(show SW _ _ _ _ (⟨_,Op.fieldAddr _ _ _,_,_,_,none⟩::_) _ _;refine SW.st (aP rfl) rfl ?_)|(show SW _ _ _ _ (⟨_,Op.call ⟨.builtin .len,_,_⟩,_,_,_,none⟩::_) _ _;refine SW.st (eI rfl) rfl ?_)|(show SW _ _ _ _ (⟨_,Op.load _ _,_,_,_,none⟩::_) _ _;refine SW.st (az rfl (au.cell rfl)) rfl ?_))
    have C3:=hr.live
    have CP:=hr.live.len
    have EZ:=hr.live.base
    have Hp:=hs.live
    refine CW.loop (fun k:Nat=>[(1,.pointer (some ⟨b1,0,none⟩)),(3,.pointer (some ⟨b3,0,none⟩)),(4,.func (.func 196) #[] ([.pointer (some ⟨b3,0,none⟩)] : List Value).toArray),(10,.int .i64 (k:Int))])
     (fun k w'=>k≤r.Live.n∧Ext w w'∧aU w' b1 41 (bl r)∧n6 w' w.heap.size b3 (F++aT h.ak++h.Live.take k)∧kA (F++aT h.ak++h.Live.take k)∧pn h.Live k) (fun k=>r.Live.n-k) 0
     ⟨rfl,rfl,rfl,rfl,trivial⟩ ⟨by omega,hw,au,by simpa using hS,by simpa using hF,.nil _⟩ ?_
    clear hw au hS hF hP
    rintro k w' ⟨hk,hw,au,hS,hF,hP⟩
    by_cases cc:k<r.Live.n
    ·have cG:k<h.Live.length:=by omega
     have BD:k-1<r.Live.n:=by omega
     have nZ:bq h→o7 h.Live[k]∧(0<k→(h.Live[k-1]'(by omega)).At<h.Live[k].At):=fun hh=>⟨hh.live.each k cG,fun h0=>by
      have:=hh.live.next (k-1) (by omega)
      simpa only [show k-1+1=k by omega] using this⟩
     have lc : ¬ jv (F++aT h.ak++h.Live.take k) h.Live[k] → ¬ bq h:=fun hx hh=>by
      have:=El hh
      have e:=hF.no hx (M:=h.Live.drop (k+1))
      have e1:h.Live.take k++([h.Live[k]]++h.Live.drop (k+1))=h.Live:=by simp
      rw [List.append_assoc,List.append_assoc (F++aT h.ak),e1] at e
      rw [e] at this
      cases this
     have qX:=C3.fE BD (j:=0) rfl
     repeat' (first|(first|refine CW.seq ?_|refine CW.region ?_|refine CW.block ?_|refine CW.gv rfl (by omega) ?_|refine CW.skip ?_)|(refine ae.seq ?_)|refine SW.nil ?_|refine SW.pure rfl rfl ?_|(show SW _ _ _ _ (⟨_,Op.fieldAddr _ _ _,_,_,_,none⟩::_) _ _;refine SW.st (aP rfl) rfl ?_)|(show SW _ _ _ _ (⟨_,Op.indexAddr _ _ _,_,_,_,none⟩::_) _ _;refine SW.st (bH rfl rfl (by assumption) (by omega)) rfl ?_)|(show SW _ _ _ _ (⟨_,Op.call ⟨.builtin .len,_,_⟩,_,_,_,none⟩::_) _ _;refine SW.st (eI rfl) rfl ?_)|(show SW _ _ _ _ (⟨_,Op.load _ _,_,_,_,none⟩::_) _ _;first|refine SW.st (az rfl (au.cell rfl)) rfl ?_|refine SW.st (aA hw rfl rfl ((C3.all cc))) rfl ?_))
     refine SW.alloc rfl fun qA w1 ab jd bw => ?_
     skip
     refine SW.aj bw rfl rfl rfl rfl (fM.one (enc:=aE) _) fun w2 iI hg => ?_
     have ai:=ab.own jd hg
     have kB:w.heap.size≤qA:=Nat.le_trans hw.size jd
     replace hw:=Ext.trans hw ai
     replace au:=au.ext ai
     replace hS:=hS.ext ai
     replace bw:=iI
     clear iI ab hg ai
     repeat' (first|(refine CW.seq ?_)|(refine ae.seq ?_)|refine SW.nil ?_)
     have wB:qW h.Live[k]→(0<k→(h.Live[k-1]'(by omega)).At<h.Live[k].At)→pn h.Live (k+1):=fun a b=>hP.snoc cG a fun h0=>b h0
     have sH:h.Live.take (k+1)=h.Live.take k++[h.Live[k]]:=List.take_succ_eq_append_getElem cG
     generalize Hq:h.Live[k]=bb at bw nZ wB sH lc
     generalize Ey:(h.Live[k-1]'(by omega)).At=pv at nZ wB qX
     simp only [qW,o7,j3] at nZ wB
     have hp:bb.Order<0∨4<bb.Order∨(1≤pw bb.Order∧pw bb.Order≤16):=by
      by_cases h1 : 0≤bb.Order
      ·by_cases h2:bb.Order≤4
       ·exact .inr (.inr (cu h1 h2))
       ·omega
      ·omega
     have em:bb.At<0∨bb.At.tmod (pw bb.Order)=bb.At % pw bb.Order:=by
      by_cases h1 : 0≤bb.At
      ·exact .inr (Int.tmod_eq_emod_of_nonneg h1)
      ·omega
     have fK:(¬ (0≤bb.Order∧bb.Order≤4)∨((0≤bb.Order∧bb.Order≤4)∧(¬ (0≤bb.At∧bb.At≤255)∨((0≤bb.At∧bb.At≤255)∧(bb.At.tmod (pw bb.Order)≠0∨(bb.At.tmod (pw bb.Order)=0∧(¬ (0≤bb.Ty∧bb.Ty≤2)∨((0≤bb.Ty∧bb.Ty≤2)∧0<k∧bb.At≤pv))))))))∨(((0≤bb.Order∧bb.Order≤4)∧(0≤bb.At∧bb.At≤255)∧bb.At.tmod (pw bb.Order)=0∧(0≤bb.Ty∧bb.Ty≤2))∧(k=0∨(0<k∧pv<bb.At))):=by omega
     rcases fK with fK|⟨⟨d1,d2,d3,d4⟩,fK⟩
     ·have qg : ¬ bq h:=fun hh=>by
       have:=nZ hh
       omega
      rw [c9 qg]
      rcases fK with d|⟨d1,d|⟨d2,d|⟨d3,d|⟨d4,lh,d⟩⟩⟩⟩
      repeat' (first|(first|refine CW.seq ?_|refine CW.region ?_|refine CW.jf rfl (by with_reducible rfl) ?_|refine CW.ret ?_|(apply CW.aM mixed;(· kernel_rfl);rotate_left;intro w1 ab;replace hw:=Ext.trans hw ab;replace au:=au.ext ab;replace bw:=bw.ext ab;replace hS:=hS.ext ab;clear ab;rotate_right))|(first|refine ae.seq ?_|refine ae.eL ?_|refine ae.fQ ?_|refine ae.dP ?_)|refine SW.nil ?_|(show SW _ _ _ _ (⟨_,_,_,_,_,some _⟩::_) _ _;first|refine SW.eX rfl rfl (by with_reducible rfl) ?_|refine SW.bC rfl rfl (by with_reducible rfl) ?_|refine SW.je rfl rfl (by with_reducible rfl) rfl ?_|refine SW.lx rfl rfl (by with_reducible rfl) rfl ?_|refine SW.gF rfl rfl rfl (by omega) ?_|refine SW.fq rfl rfl rfl (by omega) ?_|refine SW.dg rfl rfl rfl (by omega) ?_)|refine SW.pure rfl rfl ?_|(show SW _ _ _ _ (⟨_,Op.fieldAddr _ _ _,_,_,_,none⟩::_) _ _;refine SW.st (aP rfl) rfl ?_)|(show SW _ _ _ _ (⟨_,Op.binOp _ _ _ _ _,_,_,_,none⟩::_) _ _;first|refine SW.st (iA rfl rfl (by omega) (by omega)) rfl ?_|refine SW.st (ly rfl rfl (by omega)) rfl ?_)|(show SW _ _ _ _ (⟨_,Op.indexAddr _ _ _,_,_,_,none⟩::_) _ _;refine SW.st (aV (k-1) rfl rfl (by assumption) (by omega) (by omega)) rfl ?_)|(show SW _ _ _ _ (⟨_,Op.load _ _,_,_,_,none⟩::_) _ _;first|refine SW.st (az rfl (bw.cell rfl)) rfl ?_|refine SW.st (az rfl (au.cell rfl)) rfl ?_|refine SW.st (ag hw rfl qX) rfl ?_)|(show SW _ _ _ _ (⟨_,Op.call ⟨.value (.func _),_,_⟩,_,_,_,none⟩::_) _ _;first|refine SW.bf rfl rfl (fun w1 ab=>(ca _ _ _ _)) ?_|refine SW.bf rfl rfl (fun w1 ab=>(dA _ (by omega) _)) ?_)|exact SW.br rfl)
      all_goals exact ae.aF rfl rfl ⟨_,rfl,hw,rfl⟩
     ·have Dn:dr 0 256 bb:=by
       simp only [dr,dJ,j3]
       omega
      replace wB:=wB ⟨d1,d2.1,by omega,d4⟩ (fun h0=>by omega)
      rcases fK with lh|⟨lh,d⟩
      all_goals
       refine CW.any 44 mixed (bZ (by kernel_rfl)) rfl fun w1 ab bd => ?_
       replace hw:=Ext.trans hw ab;replace au:=au.ext ab;replace bw:=bw.ext ab;replace hS:=hS.ext ab;clear ab
       refine SA.take 0 bd rfl (by kernel_rfl) (by kernel_rfl) rfl ?_
       repeat ((show SW _ _ _ _ (⟨_,Op.fieldAddr _ _ _,_,_,_,none⟩::_) _ _;refine SW.st (aP rfl) rfl ?_))
       refine SW.aq ?_
       refine SA.take 1 bd rfl (by kernel_rfl) (by kernel_rfl) rfl ?_
       repeat ((show SW _ _ _ _ (⟨_,Op.load _ _,_,_,_,none⟩::_) _ _;refine SW.st (az rfl (bw.cell rfl)) rfl ?_))
       refine SW.aq ?_
       refine SA.one 2 rfl (by kernel_rfl) rfl ?_
       refine SW.call rfl rfl (ca _ _ _ _) fun v w5 ai hv => ?_
       subst hv
       (replace hw:=Ext.trans hw ai;replace au:=au.ext ai;replace bw:=bw.ext ai;replace hS:=hS.ext ai)
       refine SW.nil (ae.sa ai ?_)
       refine SA.take 3 bd rfl (by kernel_rfl) (by kernel_rfl) rfl ?_
       repeat (refine SW.pure rfl rfl ?_)
       refine SW.aq ?_
       refine SA.take 4 bd rfl (by kernel_rfl) (by kernel_rfl) rfl ?_
       repeat (refine SW.pure rfl rfl ?_)
       refine SW.aq ?_
       refine SA.take 5 bd rfl (by kernel_rfl) (by kernel_rfl) rfl ?_
       repeat (first|(show SW _ _ _ _ (⟨_,_,_,_,_,some _⟩::_) _ _;first|refine SW.bC rfl rfl (by with_reducible rfl) ?_|refine SW.dg rfl rfl rfl (by omega) ?_)|(show SW _ _ _ _ (⟨_,Op.fieldAddr _ _ _,_,_,_,none⟩::_) _ _;refine SW.st (aP rfl) rfl ?_))
       refine SW.aq ?_
       refine SA.take 6 bd rfl (by kernel_rfl) (by kernel_rfl) rfl ?_
       repeat (first|(show SW _ _ _ _ (⟨_,_,_,_,_,some _⟩::_) _ _;refine SW.bC rfl rfl (by with_reducible rfl) ?_)|(show SW _ _ _ _ (⟨_,Op.load _ _,_,_,_,none⟩::_) _ _;refine SW.st (az rfl (bw.cell rfl)) rfl ?_))
       refine SW.aq ?_
       refine SA.one 7 rfl (by kernel_rfl) rfl ?_
       refine SW.want rfl rfl ?_
       refine SW.call rfl rfl (ca _ _ _ _) fun v w5 ai hv => ?_
       subst hv
       (replace hw:=Ext.trans hw ai;replace au:=au.ext ai;replace bw:=bw.ext ai;replace hS:=hS.ext ai)
       refine SW.nil (ae.sa ai ?_)
       refine SA.take 8 bd rfl (by kernel_rfl) (by kernel_rfl) rfl ?_
       repeat (first|(show SW _ _ _ _ (⟨_,_,_,_,_,some _⟩::_) _ _;refine SW.bC rfl rfl (by with_reducible rfl) ?_)|refine SW.pure rfl rfl ?_)
       refine SW.aq ?_
       refine SA.take 9 bd rfl (by kernel_rfl) (by kernel_rfl) rfl ?_
       repeat (refine SW.pure rfl rfl ?_)
       refine SW.aq ?_
       refine SA.take 10 bd rfl (by kernel_rfl) (by kernel_rfl) rfl ?_
       repeat (refine SW.pure rfl rfl ?_)
       refine SW.aq ?_
       refine SA.take 11 bd rfl (by kernel_rfl) (by kernel_rfl) rfl ?_
       repeat (first|(show SW _ _ _ _ (⟨_,_,_,_,_,some _⟩::_) _ _;first|refine SW.bC rfl rfl (by with_reducible rfl) ?_|refine SW.dg rfl rfl rfl (by omega) ?_)|(show SW _ _ _ _ (⟨_,Op.fieldAddr _ _ _,_,_,_,none⟩::_) _ _;refine SW.st (aP rfl) rfl ?_))
       refine SW.aq ?_
       refine SA.take 12 bd rfl (by kernel_rfl) (by kernel_rfl) rfl ?_
       repeat (first|(show SW _ _ _ _ (⟨_,_,_,_,_,some _⟩::_) _ _;refine SW.bC rfl rfl (by with_reducible rfl) ?_)|(show SW _ _ _ _ (⟨_,Op.load _ _,_,_,_,none⟩::_) _ _;refine SW.st (az rfl (bw.cell rfl)) rfl ?_))
       refine SW.aq ?_
       refine SA.take 13 bd rfl (by kernel_rfl) (by kernel_rfl) rfl ?_
       repeat (first|(show SW _ _ _ _ (⟨_,_,_,_,_,some _⟩::_) _ _;refine SW.bC rfl rfl (by with_reducible rfl) ?_)|(show SW _ _ _ _ (⟨_,Op.fieldAddr _ _ _,_,_,_,none⟩::_) _ _;refine SW.st (aP rfl) rfl ?_))
       refine SW.aq ?_
       refine SA.take 14 bd rfl (by kernel_rfl) (by kernel_rfl) rfl ?_
       repeat (first|(show SW _ _ _ _ (⟨_,_,_,_,_,some _⟩::_) _ _;refine SW.bC rfl rfl (by with_reducible rfl) ?_)|(show SW _ _ _ _ (⟨_,Op.load _ _,_,_,_,none⟩::_) _ _;refine SW.st (az rfl (bw.cell rfl)) rfl ?_))
       refine SW.aq ?_
       refine SA.one 15 rfl (by kernel_rfl) rfl ?_
       refine SW.want rfl rfl ?_
       refine SW.call rfl rfl (dA _ (by omega) _) fun v w5 ai hv => ?_
       subst hv
       (replace hw:=Ext.trans hw ai;replace au:=au.ext ai;replace bw:=bw.ext ai;replace hS:=hS.ext ai)
       refine SW.nil (ae.sa ai ?_)
       refine SA.take 16 bd rfl (by kernel_rfl) (by kernel_rfl) rfl ?_
       repeat (first|(show SW _ _ _ _ (⟨_,_,_,_,_,some _⟩::_) _ _;refine SW.bC rfl rfl (by with_reducible rfl) ?_)|(show SW _ _ _ _ (⟨_,Op.binOp _ _ _ _ _,_,_,_,none⟩::_) _ _;refine SW.st (ly rfl rfl (by omega)) rfl ?_))
       refine SW.aq ?_
       refine SA.take 17 bd rfl (by kernel_rfl) (by kernel_rfl) rfl ?_
       repeat (first|(show SW _ _ _ _ (⟨_,_,_,_,_,some _⟩::_) _ _;refine SW.bC rfl rfl (by with_reducible rfl) ?_)|refine SW.pure rfl rfl ?_)
       refine SW.aq ?_
       refine SA.take 18 bd rfl (by kernel_rfl) (by kernel_rfl) rfl ?_
       repeat (refine SW.pure rfl rfl ?_)
       refine SW.aq ?_
       refine SA.take 19 bd rfl (by kernel_rfl) (by kernel_rfl) rfl ?_
       repeat (refine SW.pure rfl rfl ?_)
       refine SW.aq ?_
       refine SA.take 20 bd rfl (by kernel_rfl) (by kernel_rfl) rfl ?_
       repeat (first|(show SW _ _ _ _ (⟨_,_,_,_,_,some _⟩::_) _ _;first|refine SW.bC rfl rfl (by with_reducible rfl) ?_|refine SW.dg rfl rfl rfl (by omega) ?_)|(show SW _ _ _ _ (⟨_,Op.fieldAddr _ _ _,_,_,_,none⟩::_) _ _;refine SW.st (aP rfl) rfl ?_))
       refine SW.aq ?_
       refine SA.take 21 bd rfl (by kernel_rfl) (by kernel_rfl) rfl ?_
       repeat (first|(show SW _ _ _ _ (⟨_,_,_,_,_,some _⟩::_) _ _;refine SW.bC rfl rfl (by with_reducible rfl) ?_)|(show SW _ _ _ _ (⟨_,Op.load _ _,_,_,_,none⟩::_) _ _;refine SW.st (az rfl (bw.cell rfl)) rfl ?_))
       refine SW.aq ?_
       refine SA.one 22 rfl (by kernel_rfl) rfl ?_
       refine SW.want rfl rfl ?_
       refine SW.call rfl rfl (ca _ _ _ _) fun v w5 ai hv => ?_
       subst hv
       (replace hw:=Ext.trans hw ai;replace au:=au.ext ai;replace bw:=bw.ext ai;replace hS:=hS.ext ai)
       refine SW.nil (ae.sa ai ?_)
       refine SA.take 23 bd rfl (by kernel_rfl) (by kernel_rfl) rfl ?_
       repeat (first|(show SW _ _ _ _ (⟨_,_,_,_,_,some _⟩::_) _ _;refine SW.bC rfl rfl (by with_reducible rfl) ?_)|refine SW.pure rfl rfl ?_)
       refine SW.aq ?_
       refine SA.take 24 bd rfl (by kernel_rfl) (by kernel_rfl) rfl ?_
       repeat (refine SW.pure rfl rfl ?_)
       refine SW.aq ?_
       refine SA.take 25 bd rfl (by kernel_rfl) (by kernel_rfl) rfl ?_
       repeat (refine SW.pure rfl rfl ?_)
       refine SW.aq ?_
       refine SA.take 26 bd rfl (by kernel_rfl) (by kernel_rfl) rfl ?_
       repeat (first|(show SW _ _ _ _ (⟨_,_,_,_,_,some _⟩::_) _ _;first|refine SW.bC rfl rfl (by with_reducible rfl) ?_|refine SW.dg rfl rfl rfl (by omega) ?_)|refine SW.pure rfl rfl ?_)
       refine SW.aq ?_
       refine SA.take 27 bd rfl (by kernel_rfl) (by kernel_rfl) rfl ?_
       repeat (first|(show SW _ _ _ _ (⟨_,_,_,_,_,some _⟩::_) _ _;refine SW.bC rfl rfl (by with_reducible rfl) ?_)|refine SW.pure rfl rfl ?_)
       refine SW.aq ?_
       refine SA.take 28 bd rfl (by kernel_rfl) (by kernel_rfl) rfl ?_
       repeat (first|(show SW _ _ _ _ (⟨_,_,_,_,_,some _⟩::_) _ _;refine SW.bC rfl rfl (by with_reducible rfl) ?_)|refine SW.pure rfl rfl ?_)
       refine SW.aq ?_
       refine SA.take 29 bd rfl (by kernel_rfl) (by kernel_rfl) rfl ?_
       repeat (first|(show SW _ _ _ _ (⟨_,_,_,_,_,some _⟩::_) _ _;first|refine SW.eX rfl rfl (by with_reducible rfl) ?_|refine SW.fj rfl rfl (by with_reducible rfl) rfl ?_|refine SW.gF rfl rfl rfl (by omega) ?_|refine SW.gG rfl rfl rfl (by omega) ?_)|(show SW _ _ _ _ (⟨_,Op.fieldAddr _ _ _,_,_,_,none⟩::_) _ _;refine SW.st (aP rfl) rfl ?_))
       refine SW.aq ?_
       refine SA.take 30 bd rfl (by kernel_rfl) (by kernel_rfl) rfl ?_
       repeat (first|(show SW _ _ _ _ (⟨_,_,_,_,_,some _⟩::_) _ _;first|refine SW.eX rfl rfl (by with_reducible rfl) ?_|refine SW.fj rfl rfl (by with_reducible rfl) rfl ?_)|(show SW _ _ _ _ (⟨_,Op.load _ _,_,_,_,none⟩::_) _ _;refine SW.st (az rfl (au.cell rfl)) rfl ?_))
       refine SW.aq ?_
       refine SA.take 31 bd rfl (by kernel_rfl) (by kernel_rfl) rfl ?_
       repeat (first|(show SW _ _ _ _ (⟨_,_,_,_,_,some _⟩::_) _ _;first|refine SW.eX rfl rfl (by with_reducible rfl) ?_|refine SW.fj rfl rfl (by with_reducible rfl) rfl ?_)|refine SW.pure rfl rfl ?_)
       refine SW.aq ?_
       refine SA.take 32 bd rfl (by kernel_rfl) (by kernel_rfl) rfl ?_
       repeat (first|(show SW _ _ _ _ (⟨_,_,_,_,_,some _⟩::_) _ _;first|refine SW.eX rfl rfl (by with_reducible rfl) ?_|refine SW.fj rfl rfl (by with_reducible rfl) rfl ?_)|(show SW _ _ _ _ (⟨_,Op.binOp _ _ _ _ _,_,_,_,none⟩::_) _ _;refine SW.st (iA rfl rfl (by omega) (by omega)) rfl ?_))
       refine SW.aq ?_
       refine SA.take 33 bd rfl (by kernel_rfl) (by kernel_rfl) rfl ?_
       repeat (first|(show SW _ _ _ _ (⟨_,_,_,_,_,some _⟩::_) _ _;first|refine SW.eX rfl rfl (by with_reducible rfl) ?_|refine SW.fj rfl rfl (by with_reducible rfl) rfl ?_)|(show SW _ _ _ _ (⟨_,Op.indexAddr _ _ _,_,_,_,none⟩::_) _ _;refine SW.st (aV (k-1) rfl rfl (by assumption) (by omega) (by omega)) rfl ?_))
       refine SW.aq ?_
       refine SA.take 34 bd rfl (by kernel_rfl) (by kernel_rfl) rfl ?_
       repeat (first|(show SW _ _ _ _ (⟨_,_,_,_,_,some _⟩::_) _ _;first|refine SW.eX rfl rfl (by with_reducible rfl) ?_|refine SW.fj rfl rfl (by with_reducible rfl) rfl ?_)|(show SW _ _ _ _ (⟨_,Op.fieldAddr _ _ _,_,_,_,none⟩::_) _ _;refine SW.st (aP rfl) rfl ?_))
       refine SW.aq ?_
       refine SA.take 35 bd rfl (by kernel_rfl) (by kernel_rfl) rfl ?_
       repeat (first|(show SW _ _ _ _ (⟨_,_,_,_,_,some _⟩::_) _ _;first|refine SW.eX rfl rfl (by with_reducible rfl) ?_|refine SW.fj rfl rfl (by with_reducible rfl) rfl ?_)|(show SW _ _ _ _ (⟨_,Op.load _ _,_,_,_,none⟩::_) _ _;refine SW.st (ag hw rfl qX) rfl ?_))
       refine SW.aq ?_
       refine SA.take 36 bd rfl (by kernel_rfl) (by kernel_rfl) rfl ?_
       repeat (first|(show SW _ _ _ _ (⟨_,_,_,_,_,some _⟩::_) _ _;first|refine SW.eX rfl rfl (by with_reducible rfl) ?_|refine SW.fj rfl rfl (by with_reducible rfl) rfl ?_)|(show SW _ _ _ _ (⟨_,Op.fieldAddr _ _ _,_,_,_,none⟩::_) _ _;refine SW.st (aP rfl) rfl ?_))
       refine SW.aq ?_
       refine SA.take 37 bd rfl (by kernel_rfl) (by kernel_rfl) rfl ?_
       repeat (first|(show SW _ _ _ _ (⟨_,_,_,_,_,some _⟩::_) _ _;first|refine SW.eX rfl rfl (by with_reducible rfl) ?_|refine SW.fj rfl rfl (by with_reducible rfl) rfl ?_)|(show SW _ _ _ _ (⟨_,Op.load _ _,_,_,_,none⟩::_) _ _;refine SW.st (az rfl (bw.cell rfl)) rfl ?_))
       refine SW.aq ?_
       refine SA.take 38 bd rfl (by kernel_rfl) (by kernel_rfl) rfl ?_
       repeat (first|(show SW _ _ _ _ (⟨_,_,_,_,_,some _⟩::_) _ _;first|refine SW.eX rfl rfl (by with_reducible rfl) ?_|refine SW.fj rfl rfl (by with_reducible rfl) rfl ?_)|refine SW.pure rfl rfl ?_)
       refine SW.aq ?_
       refine SA.take 39 bd rfl (by kernel_rfl) (by kernel_rfl) rfl ?_
       repeat (first|(show SW _ _ _ _ (⟨_,_,_,_,_,some _⟩::_) _ _;refine SW.bC rfl rfl (by with_reducible rfl) ?_)|refine SW.pure rfl rfl ?_)
       refine SW.aq ?_
       refine SA.take 40 bd rfl (by kernel_rfl) (by kernel_rfl) rfl ?_
       repeat (refine SW.pure rfl rfl ?_)
       refine SW.aq ?_
       refine SA.take 41 bd rfl (by kernel_rfl) (by kernel_rfl) rfl ?_
       repeat (refine SW.pure rfl rfl ?_)
       refine SW.aq ?_
       refine SA.take 42 bd rfl (by kernel_rfl) (by kernel_rfl) rfl ?_
       repeat (first|(show SW _ _ _ _ (⟨_,_,_,_,_,some _⟩::_) _ _;first|refine SW.bC rfl rfl (by with_reducible rfl) ?_|refine SW.gG rfl rfl rfl (by omega) ?_)|refine SW.pure rfl rfl ?_)
       refine SW.aq ?_
       refine SA.take 43 bd rfl (by kernel_rfl) (by kernel_rfl) rfl ?_
       repeat (first|(show SW _ _ _ _ (⟨_,_,_,_,_,some _⟩::_) _ _;refine SW.bC rfl rfl (by with_reducible rfl) ?_)|(show SW _ _ _ _ (⟨_,Op.load _ _,_,_,_,none⟩::_) _ _;refine SW.st (aS rfl rfl ((fun _ _=>bw.cell))) rfl ?_))
       refine SW.aq ?_
       refine SA.done (by kernel_rfl) ?_
       repeat' ((show SW _ _ _ _ (⟨_,_,_,_,_,some _⟩::_) _ _;refine SW.bC rfl rfl (by with_reducible rfl) ?_))
       refine SW.uO rfl rfl rfl (pt b3 _ bb w _ hw bO hS hF.2 hF.len Dn) fun v w6 hv => ?_
       obtain ⟨uk,hK,rY⟩:=hv
       replace hw:=uk
       replace au:=hK.k _ _ _ au rfl rfl
       rcases rY with ⟨rfl,hf,vJ⟩|⟨rfl,hf,vJ⟩
       ·rw [List.append_assoc,← sH] at vJ
        have nG:=hF.add Dn hf
        rw [List.append_assoc,← sH] at nG
        repeat' (first|(first|refine CW.region ?_|refine CW.cj rfl ?_|refine CW.skip ?_)|(first|refine ae.seq ?_|refine ae.gd ?_|refine ae.np ?_)|refine SW.nil ?_|(show SW _ _ _ _ (⟨_,_,_,_,_,some _⟩::_) _ _;refine SW.bC rfl rfl (by with_reducible rfl) ?_)|refine SW.pure rfl rfl ?_|(show SW _ _ _ _ (⟨_,Op.binOp _ _ _ _ _,_,_,_,none⟩::_) _ _;refine SW.st (jg rfl rfl (by omega) (by omega)) rfl ?_))
        exact ae.again (k+1) ⟨rfl,rfl,rfl,rfl,trivial⟩ (by omega) ⟨by omega,hw,au,vJ,nG,wB⟩
       ·repeat' (first|(first|refine CW.seq ?_|refine CW.region ?_|refine CW.cU rfl ?_|refine CW.ret ?_)|(first|refine ae.seq ?_|refine ae.eL ?_|refine ae.fQ ?_|refine ae.dP ?_|refine ae.np ?_)|refine SW.nil ?_|(show SW _ _ _ _ (⟨_,_,_,_,_,some _⟩::_) _ _;refine SW.bC rfl rfl (by with_reducible rfl) ?_)|refine SW.pure rfl rfl ?_)
        exact ae.aF rfl rfl ⟨_,rfl,hw,by rw [c9 (lc hf)]⟩
    ·obtain rfl:k=r.Live.n:=by omega
     rw [List.take_of_length_le (by omega)] at hS hF
     have AD:(aY (aY (iF h z0 z1) (aT h.ak)) h.Live).isSome=true:=by
      have:=hF.1
      rw [Gl,a8,a8] at this
      unfold iF
      rw [this]
      rfl
     have HP:bq h:=bq.of kv hd BC hL (hP.ok (by omega) AD) AD
     repeat' (first|(first|refine CW.seq ?_|refine CW.region ?_|refine CW.fP rfl (by omega) ?_|refine CW.ret ?_|refine CW.exit ?_)|(first|refine ae.seq ?_|refine ae.fO ?_|refine ae.hit ?_|refine ae.ej ?_)|refine SW.nil ?_|refine SW.pure rfl rfl ?_|(show SW _ _ _ _ (⟨_,Op.fieldAddr _ _ _,_,_,_,none⟩::_) _ _;refine SW.st (aP rfl) rfl ?_)|(show SW _ _ _ _ (⟨_,Op.call ⟨.builtin .len,_,_⟩,_,_,_,none⟩::_) _ _;refine SW.st (eI rfl) rfl ?_)|(show SW _ _ _ _ (⟨_,Op.load _ _,_,_,_,none⟩::_) _ _;refine SW.st (az rfl (au.cell rfl)) rfl ?_))
     exact ae.aF rfl rfl ⟨_,rfl,hw,by rw [mn HP]⟩
 ·rw [c9 (fun hh=>hd hh.C1)]
  have fK:r.aI.n≠2∨(r.aI.n=2∧(r.bE.n≠2∨(r.bE.n=2 ∧ ¬ (1≤r.bt∧r.bt≤4)))):=by unfold lN at hd;omega
  rcases fK with d|⟨d1,d|⟨d2,d⟩⟩
  repeat' (first|(first|refine CW.seq ?_|refine CW.region ?_|refine CW.jf rfl (by with_reducible rfl) ?_|refine CW.ret ?_)|(first|refine ae.seq ?_|refine ae.eL ?_)|refine SW.nil ?_|(show SW _ _ _ _ (⟨_,_,_,_,_,some _⟩::_) _ _;first|refine SW.bC rfl rfl (by with_reducible rfl) ?_|refine SW.je rfl rfl (by with_reducible rfl) rfl ?_|refine SW.fq rfl rfl rfl (by omega) ?_|refine SW.dg rfl rfl rfl (by omega) ?_)|refine SW.pure rfl rfl ?_|(show SW _ _ _ _ (⟨_,Op.fieldAddr _ _ _,_,_,_,none⟩::_) _ _;refine SW.st (aP rfl) rfl ?_)|(show SW _ _ _ _ (⟨_,Op.call ⟨.builtin .len,_,_⟩,_,_,_,none⟩::_) _ _;refine SW.st (eI rfl) rfl ?_)|(show SW _ _ _ _ (⟨_,Op.load _ _,_,_,_,none⟩::_) _ _;refine SW.st (az rfl (au.cell rfl)) rfl ?_)|(show SW _ _ _ _ (⟨_,Op.call ⟨.value (.func _),_,_⟩,_,_,_,none⟩::_) _ _;(refine SW.call rfl rfl (ca _ _ _ _) ?_;intro v w1 ab hv;subst hv;replace hw:=Ext.trans hw ab;replace au:=au.ext ab;clear ab)))
  all_goals exact ae.aF rfl rfl ⟨_,rfl,hw,rfl⟩
end Go.Proofs.YtbidkghlpijecaaGreatDoor
