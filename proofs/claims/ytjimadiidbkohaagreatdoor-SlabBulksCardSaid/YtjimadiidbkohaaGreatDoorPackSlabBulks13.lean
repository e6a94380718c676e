/-
  Texts of the claim SlabBulks, part 13: what its theorem leans on.
-/
import Derived.Test.YtjimadiidbkohaaGreatDoorPackSlabBulks11
import Derived.Test.YtjimadiidbkohaaGreatDoorPackSlabBulks12
import Derived.Test.YtjimadiidbkohaaGreatDoorPackSlabBulks8
set_option linter.unusedVariables false
set_option linter.unusedSimpArgs false
namespace Go.Proofs.YtjimadiidbkohaaGreatDoor
open Go.RowKit
def nc (L:List Block) : Prop:=bj (some []) L=some L ∧ ∀ y∈L,dG 0 256 y
theorem nc.nil:nc []:=⟨rfl,fun y h=>by simp at h⟩
theorem nc.len {L:List Block} (h:nc L) : L.length≤256:=sS (fun b hb=>(bH (h.2 b hb).1.1 (h.2 b hb).1.2.1).1) h.1
theorem nc.add {L:List Block} {b:Block} (h:nc L) (hb:dG 0 256 b) (hf:ly L b) : nc (L++[b]):=by
 refine ⟨?_,fun y hy => ?_⟩
 ·rw [br,h.1];show jW (some L) b=_
  simp [jW,hf]
 ·rcases List.mem_append.1 hy with hy|hy
  ·exact h.2 y hy
  ·simp at hy;subst hy;exact hb
theorem nc.no {L M:List Block} {b:Block} (h:nc L) (hf : ¬ ly L b) : bj (some []) (L++[b]++M)=none:=by
 rw [br,br,h.1];have:bj (some L) [b]=none:=by show jW (some L) b=none;simp [jW,hf]
 rw [this,fp]
theorem dG.wide {f t:Int} {b:Block} (h:dG f t b) (h0 : 0≤f) (ht:t≤256) : dG 0 256 b:=by
 obtain ⟨⟨o1,o2,a1,a2,a3⟩,ty⟩:=h;exact ⟨⟨o1,o2,by omega,by omega,a3⟩,ty⟩
theorem xC {zs:List aq} {k j:Nat} (hk:k<zs.length) (hj:j<(zs[k]).ag.length) : ∃ M,zs.flatMap aq.ag=((zs.take k).flatMap aq.ag++(zs[k]).ag.take j)++[(zs[k]).ag[j]]++M:=by
 refine ⟨(zs[k]).ag.drop (j+1)++(zs.drop (k+1)).flatMap aq.ag,?_⟩;have e1:zs=zs.take k++([zs[k]]++zs.drop (k+1)):=by simp
 have e2:(zs[k]).ag=(zs[k]).ag.take j++([(zs[k]).ag[j]]++(zs[k]).ag.drop (j+1)):=by simp
 conv=>lhs;rw [e1,List.flatMap_append,List.flatMap_append]
 simp only [List.flatMap_cons,List.flatMap_nil,List.append_nil]
 conv=>lhs;rw [e2]
 simp only [List.append_assoc]
theorem bE.all {h:Heap} (a:bE h) : (bj (some []) (h.aN.flatMap aq.ag++aS h.av++h.Live)).isSome=true:=by
 obtain ⟨z0,z1,e,_,_,_,_,_,_,a7⟩:=a.cx;rw [e];simpa using a7
set_option maxHeartbeats 8000000 in
theorem xD (r:eI) (h:Heap) (w:World) (hr:wH w r h) (hs:h.small) (C8:∀ z∈h.aN,mq z) :
 bt Tryz.prog 51 [.agg (bm r).toArray] w fun v _=>v = .bool (ja h):=by
 refine aM Tryz.func51 rfl Tryz.ntmps51 rfl ?_
 refine CW.seq (CW.region (SW.box rfl rfl fun b1 w1 hw ik aB => ?_))
 have CG:=hr.er
 have JF:=hr.cn.len
 obtain ⟨KH,ui⟩:=hr.cx
 obtain ⟨GK,AR⟩:=ui.len
 clear ui GK KH
 by_cases hd:oy h
 ·obtain ⟨d1,d2,d3⟩:=id hd
  obtain ⟨r0,r1,z0,z1,ju⟩:=hr.two d1
  obtain ⟨m0,m1,em⟩:=qf d2
  have FB:=hr.cn
  rw [em] at FB
  have OS:=hr.cn.base
  have Iv : 0<r.bJ.n:=by omega
  have Iu : 1<r.bJ.n:=by omega
  have g0:w.cell? ((r.bJ.A.getD default).add (0*1))=some (.int .i64 m0):=FB.one Iv rfl
  have g1:w.cell? ((r.bJ.A.getD default).add (1*1))=some (.int .i64 m1):=FB.one Iu rfl
  have me:=ju.eq
  have hA:=ju.row.base
  have Ft:=C8 z0 (by rw [me];simp)
  have pp:=C8 z1 (by rw [me];simp)
  have s0:=hs.free z0 (by rw [me];simp)
  have s1:=hs.free z1 (by rw [me];simp)
  have Nu:=ju.z0.from_
  have Nv:=ju.z0.ka
  have Nw:=ju.z1.from_
  have Nx:=ju.z1.ka
  have l0:=ju.z0.free.len
  have l1:=ju.z1.free.len
  have t0:=ju.z0.types.len
  have t1:=ju.z1.types.len
  unfold mq at Ft pp
  obtain ⟨q0,GL⟩ : ∃ q,ev z0=q:=⟨_,rfl⟩
  obtain ⟨q1,qM⟩ : ∃ q,ev z1=q:=⟨_,rfl⟩
  have c0:∀ w',Ext w w'→bt Tryz.prog 78 [.agg (bo r0).toArray] w' fun v _=>v = .bool q0:=fun w' hx=>by
   have:=kG r0 z0 w' (ju.z0.ext hx) (by omega) (by omega) (by omega) (by omega)
   rwa [GL] at this
  have c1:∀ w',Ext w w'→bt Tryz.prog 78 [.agg (bo r1).toArray] w' fun v _=>v = .bool q1:=fun w' hx=>by
   have:=kG r1 z1 w' (ju.z1.ext hx) (by omega) (by omega) (by omega) (by omega)
   rwa [qM] at this
  have KI:(q0=true∧q1=true)∨(q0=false)∨(q0=true∧q1=false):=by cases q0<;>cases q1<;>simp
  rcases KI with ⟨rfl,rfl⟩|rfl|⟨rfl,rfl⟩
  repeat' (first|(first|refine CW.seq ?_|refine CW.region ?_|refine CW.kT rfl (by with_reducible rfl) ?_|refine CW.bG rfl ?_|refine CW.bA rfl ?_|refine CW.skip ?_|refine CW.ret ?_)|(first|refine ae.seq ?_|refine ae.fT ?_)|refine SW.nil ?_|(show SW _ _ _ _ (⟨_,_,_,_,_,some _⟩::_) _ _;first|refine SW.bV rfl rfl (by with_reducible rfl) ?_|refine SW.dY rfl rfl rfl (by omega) ?_|refine SW.want rfl rfl ?_|refine SW.skip rfl rfl rfl rfl ?_)|refine SW.pure rfl rfl ?_|(show SW _ _ _ _ (⟨_,Op.fieldAddr _ _ _,_,_,_,none⟩::_) _ _;refine SW.st (aC rfl) rfl ?_)|(show SW _ _ _ _ (⟨_,Op.indexAddr _ _ _,_,_,_,none⟩::_) _ _;first|refine SW.st (aZ (0) rfl rfl (by assumption) (by omega) (by omega)) rfl ?_|refine SW.st (aZ (1) rfl rfl (by assumption) (by omega) (by omega)) rfl ?_)|(show SW _ _ _ _ (⟨_,Op.call ⟨.builtin .len,_,_⟩,_,_,_,none⟩::_) _ _;refine SW.st (eY rfl) rfl ?_)|(show SW _ _ _ _ (⟨_,Op.load _ _,_,_,_,none⟩::_) _ _;first|refine SW.st (ak rfl (aB.cell rfl)) rfl ?_|refine SW.st (aH hw rfl rfl ((ju.c0))) rfl ?_|refine SW.st (aH hw rfl rfl ((ju.c1))) rfl ?_)|(show SW _ _ _ _ (⟨_,Op.call ⟨.value (.func _),_,_⟩,_,_,_,none⟩::_) _ _;first|(refine SW.call rfl rfl (c0 _ hw) ?_;intro v w1 ab hv;subst hv;replace hw:=Ext.trans hw ab;replace aB:=aB.ext ab;clear ab)|(refine SW.call rfl rfl (c1 _ hw) ?_;intro v w1 ab hv;subst hv;replace hw:=Ext.trans hw ab;replace aB:=aB.ext ab;clear ab)|(refine SW.call rfl rfl (bK _ _ _ _) ?_;intro v w1 ab hv;subst hv;replace hw:=Ext.trans hw ab;replace aB:=aB.ext ab;clear ab)))
  rotate_left
  ·exact ae.aO rfl rfl ⟨_,rfl,hw,by rw [dQ (fun hh=>by have:=dw.2 (hh.front me).one;rw [GL] at this;cases this)]⟩
  ·exact ae.aO rfl rfl ⟨_,rfl,hw,by rw [dQ (fun hh=>by have:=dw.2 (hh.front me).two;rw [qM] at this;cases this)]⟩
  clear c0 c1
  have sQ:=dw.1 GL
  have B0:=dw.1 qM
  have gU:(r0.aV=0∧r1.aV=r0.To∧r1.To=256∧(0≤m0∧m0≤256)∧(0≤m1∧m1≤256))∨r0.aV≠0∨(r0.aV=0∧r1.aV≠r0.To)∨(r0.aV=0∧r1.aV=r0.To∧r1.To≠256)∨(r0.aV=0∧r1.aV=r0.To∧r1.To=256 ∧ ¬ (0≤m0∧m0≤256))∨(r0.aV=0∧r1.aV=r0.To∧r1.To=256∧(0≤m0∧m0≤256) ∧ ¬ (0≤m1∧m1≤256)):=by omega
  have Mf:bE h→(0≤m0∧m0≤256)∧(0≤m1∧m1≤256):=fun hh=>by
   have:=(hh.front me).cn
   rw [em] at this
   simp [uk] at this
   omega
  rcases gU with ⟨d1,d2,d3,d4,d5⟩|d|⟨d1,d⟩|⟨d1,d2,d⟩|⟨d1,d2,d3,d⟩|⟨d1,d2,d3,d4,d⟩
  repeat' (first|(first|refine CW.seq ?_|refine CW.region ?_|refine CW.kT rfl (by with_reducible rfl) ?_|refine CW.nt rfl (by omega) ?_|refine CW.oL rfl (by omega) ?_|refine CW.skip ?_|refine CW.ret ?_|(apply CW.aP mixed;(· kernel_rfl);rotate_left;intro w1 ab;replace hw:=Ext.trans hw ab;replace aB:=aB.ext ab;clear ab;rotate_right))|(first|refine ae.seq ?_|refine ae.fT ?_)|refine SW.nil ?_|(show SW _ _ _ _ (⟨_,_,_,_,_,some _⟩::_) _ _;first|refine SW.bV rfl rfl (by with_reducible rfl) ?_|refine SW.kS rfl rfl (by with_reducible rfl) rfl ?_|refine SW.gR rfl rfl rfl (by omega) ?_|refine SW.dY rfl rfl rfl (by omega) ?_)|refine SW.pure rfl rfl ?_|(show SW _ _ _ _ (⟨_,Op.fieldAddr _ _ _,_,_,_,none⟩::_) _ _;refine SW.st (aC rfl) rfl ?_)|(show SW _ _ _ _ (⟨_,Op.indexAddr _ _ _,_,_,_,none⟩::_) _ _;first|refine SW.st (bk rfl rfl (by assumption) (by omega)) rfl ?_|refine SW.st (aZ (0) rfl rfl (by assumption) (by omega) (by omega)) rfl ?_|refine SW.st (aZ (1) rfl rfl (by assumption) (by omega) (by omega)) rfl ?_)|(show SW _ _ _ _ (⟨_,Op.load _ _,_,_,_,none⟩::_) _ _;first|refine SW.st (ak rfl (aB.cell rfl)) rfl ?_|refine SW.st (ao hw rfl (ju.c0 0 _ rfl)) rfl ?_|refine SW.st (ao hw rfl (ju.c0 1 _ rfl)) rfl ?_|refine SW.st (ao hw rfl (ju.c1 0 _ rfl)) rfl ?_|refine SW.st (ao hw rfl (ju.c1 1 _ rfl)) rfl ?_|refine SW.st (ao hw rfl g0) rfl ?_|refine SW.st (ao hw rfl g1) rfl ?_)|(show SW _ _ _ _ (⟨_,Op.call ⟨.value (.func _),_,_⟩,_,_,_,none⟩::_) _ _;refine SW.bq rfl rfl (fun w1 ab=>(bK _ _ _ _)) ?_)|exact SW.bx rfl)
  rotate_left
  iterate 5 exact ae.aO rfl rfl ⟨_,rfl,hw,by rw [dQ (fun hh=>by have h1:=(hh.front me).from_;have h2:=(hh.front me).Ag;have h3:=(hh.front me).ka;have h4:=Mf hh;omega)]⟩
  clear Mf g0 g1 FB
  have NI : 0≤z0.aV∧z0.aV≤z0.To∧z0.To≤256:=⟨sQ.ok.1,sQ.ok.2.1,sQ.ok.2.2.1⟩
  have C9:rK h z0 z1:=⟨sQ,B0,by omega,by omega,by omega,by rw [em];simp [uk];omega⟩
  have hn:=ju.n
  have uU:∀ z∈h.aN,∀ b∈z.ag,dG 0 256 b:=fun z hz b hb=>by
   obtain ⟨i,hi,rfl⟩:=List.getElem_of_mem hb
   rw [me] at hz
   simp only [List.mem_cons,List.not_mem_nil,or_false] at hz
   rcases hz with rfl|rfl
   ·exact (sQ.cV i hi).wide sQ.ok.1 sQ.ok.2.2.1
   ·exact (B0.cV i hi).wide B0.ok.1 B0.ok.2.2.1
  refine SW.alloc rfl fun b3 w2 cJ bM ar => ?_
  have cr:w.heap.size≤b3:=Nat.le_trans hw.size bM
  (replace hw:=Ext.trans hw cJ;replace aB:=aB.ext cJ)
  have hS:rj w2 w.heap.size b3 []:=⟨none,0,ar,Own.dS _ _ _ _ _ _⟩
  clear ar
  repeat' (first|(first|refine CW.seq ?_|refine CW.region ?_|refine CW.block ?_)|(refine ae.seq ?_)|refine SW.nil ?_|refine SW.pure rfl rfl ?_|(refine SW.st (iJ (vs:=[.pointer (some ⟨b3,0,none⟩)]) rfl) rfl ?_))
  refine CW.loop (fun k:Nat=>[(1,.pointer (some ⟨b1,0,none⟩)),(3,.pointer (some ⟨b3,0,none⟩)),(4,.func (.func 79) #[] ([.pointer (some ⟨b3,0,none⟩)] : List Value).toArray),(5,.int .i64 (k:Int))])
   (fun k w'=>k≤2∧Ext w w'∧aI w' b1 27 (bm r)∧rj w' w.heap.size b3 ((h.aN.take k).flatMap aq.ag)∧nc ((h.aN.take k).flatMap aq.ag)) (fun k=>2-k) 0
   ⟨rfl,rfl,rfl,rfl,trivial⟩ ⟨by omega,hw,aB,hS,nc.nil⟩ ?_
  clear hw aB hS cJ
  rintro k w' ⟨hk,hw,aB,hS,hF⟩
  by_cases Da:k<2
  ·have JJ:k<h.aN.length:=by omega
   have dz:=ju.row.all (i:=k) (by omega)
   have Db:tY w ([r0,r1][k]'(by simpa using Da)) h.aN[k]:=by
    simp only [me]
    have:k=0∨k=1:=by omega
    rcases this with rfl|rfl
    ·exact ju.z0
    ·exact ju.z1
   generalize Ny:([r0,r1][k]'(by simpa using Da))=rk at dz Db
   have oW:=uU h.aN[k] (List.getElem_mem _)
   have Fq:=hs.free h.aN[k] (List.getElem_mem _)
   have B8:(h.aN.take (k+1)).flatMap aq.ag=(h.aN.take k).flatMap aq.ag++h.aN[k].ag:=by
    rw [List.take_succ_eq_append_getElem JJ,List.flatMap_append];simp
   have ll:∀ (j:Nat) (hj:j<h.aN[k].ag.length),nc ((h.aN.take k).flatMap aq.ag++h.aN[k].ag.take j) → ¬ ly ((h.aN.take k).flatMap aq.ag++h.aN[k].ag.take j) h.aN[k].ag[j] → ¬ bE h:=fun j hj hf hx hh=>by
    obtain ⟨M,hM⟩:=xC JJ hj
    have:=hh.all
    have e:=hf.no hx (M:=M++aS h.av++h.Live)
    rw [hM] at this
    simp only [List.append_assoc] at this e
    rw [e] at this
    cases this
   generalize h.aN[k]=zk at Db oW Fq B8 ll
   have Nz:=Db.free.base
   have ud:=Db.free.len
   repeat' (first|(first|refine CW.seq ?_|refine CW.region ?_|refine CW.block ?_|refine CW.jn rfl (by omega) ?_|refine CW.skip ?_)|(refine ae.seq ?_)|refine SW.nil ?_|refine SW.pure rfl rfl ?_)
   refine CW.loop (fun j:Nat=>[(1,.pointer (some ⟨b1,0,none⟩)),(3,.pointer (some ⟨b3,0,none⟩)),(4,.func (.func 79) #[] ([.pointer (some ⟨b3,0,none⟩)] : List Value).toArray),(5,.int .i64 (k:Int)),(6,.int .i64 (j:Int))])
    (fun j w'=>j≤rk.ag.n∧Ext w w'∧aI w' b1 27 (bm r)∧rj w' w.heap.size b3 ((h.aN.take k).flatMap aq.ag++zk.ag.take j)∧nc ((h.aN.take k).flatMap aq.ag++zk.ag.take j)) (fun j=>rk.ag.n-j) 0
    ⟨rfl,rfl,rfl,rfl,rfl,trivial⟩ ⟨by omega,hw,aB,by simpa using hS,by simpa using hF⟩ ?_
   clear hw aB hS hF
   rintro j w' ⟨hj,hw,aB,hS,hF⟩
   by_cases jo:j<rk.ag.n
   ·have kW:j<zk.ag.length:=by omega
    have H7:=oW zk.ag[j] (List.getElem_mem _)
    have HA:zk.ag.take (j+1)=zk.ag.take j++[zk.ag[j]]:=List.take_succ_eq_append_getElem kW
    repeat' (first|(first|refine CW.seq ?_|refine CW.region ?_|refine CW.block ?_|refine CW.jn rfl (by omega) ?_|refine CW.skip ?_)|(refine ae.seq ?_)|refine SW.nil ?_|refine SW.pure rfl rfl ?_|(show SW _ _ _ _ (⟨_,Op.fieldAddr _ _ _,_,_,_,none⟩::_) _ _;refine SW.st (aC rfl) rfl ?_)|(show SW _ _ _ _ (⟨_,Op.indexAddr _ _ _,_,_,_,none⟩::_) _ _;refine SW.st (bk rfl rfl (by assumption) (by omega)) rfl ?_)|(show SW _ _ _ _ (⟨_,Op.call ⟨.builtin .len,_,_⟩,_,_,_,none⟩::_) _ _;refine SW.st (eY rfl) rfl ?_)|(show SW _ _ _ _ (⟨_,Op.load _ _,_,_,_,none⟩::_) _ _;first|refine SW.st (ak rfl (aB.cell rfl)) rfl ?_|refine SW.st (ao hw rfl (dz 2 _ rfl)) rfl ?_|refine SW.st (aH hw rfl rfl ((Db.free.all jo))) rfl ?_))
    refine SW.yU rfl rfl rfl (sU b3 _ zk.ag[j] w _ hw cr hS hF.2 hF.len H7) fun v w5 hv => ?_
    obtain ⟨jJ,hK,sM⟩:=hv
    replace hw:=jJ
    replace aB:=hK.k _ _ _ aB rfl rfl
    rcases sM with ⟨rfl,hf,mG⟩|⟨rfl,hf,mG⟩
    ·rw [List.append_assoc,← HA] at mG
     have Dd:=hF.add H7 hf
     rw [List.append_assoc,← HA] at Dd
     repeat' (first|(first|refine CW.region ?_|refine CW.bA rfl ?_|refine CW.skip ?_)|(first|refine ae.seq ?_|refine ae.cV ?_)|refine SW.nil ?_|refine SW.pure rfl rfl ?_|(show SW _ _ _ _ (⟨_,Op.binOp _ _ _ _ _,_,_,_,none⟩::_) _ _;refine SW.st (kU rfl rfl (by omega) (by omega)) rfl ?_))
     exact ae.again (j+1) ⟨rfl,rfl,rfl,rfl,rfl,trivial⟩ (by omega) ⟨by omega,hw,aB,mG,Dd⟩
    ·repeat' (first|(first|refine CW.seq ?_|refine CW.region ?_|refine CW.bG rfl ?_|refine CW.ret ?_)|(first|refine ae.seq ?_|refine ae.fT ?_|refine ae.iG ?_|refine ae.eX ?_)|refine SW.nil ?_|refine SW.pure rfl rfl ?_)
     exact ae.aO rfl rfl ⟨_,rfl,hw,by rw [dQ (ll j kW hF hf)]⟩
   ·obtain rfl:j=rk.ag.n:=by omega
    rw [List.take_of_length_le (l:=zk.ag) (by omega),← B8] at hS hF
    repeat' (first|(first|refine CW.seq ?_|refine CW.region ?_|refine CW.iF rfl (by omega) ?_|refine CW.exit ?_)|(first|refine ae.seq ?_|refine ae.iE ?_|refine ae.hit ?_|refine ae.cV ?_|refine ae.fw ?_)|refine SW.nil ?_|refine SW.pure rfl rfl ?_|(show SW _ _ _ _ (⟨_,Op.fieldAddr _ _ _,_,_,_,none⟩::_) _ _;refine SW.st (aC rfl) rfl ?_)|(show SW _ _ _ _ (⟨_,Op.binOp _ _ _ _ _,_,_,_,none⟩::_) _ _;refine SW.st (kU rfl rfl (by omega) (by omega)) rfl ?_)|(show SW _ _ _ _ (⟨_,Op.indexAddr _ _ _,_,_,_,none⟩::_) _ _;refine SW.st (bk rfl rfl (by assumption) (by omega)) rfl ?_)|(show SW _ _ _ _ (⟨_,Op.call ⟨.builtin .len,_,_⟩,_,_,_,none⟩::_) _ _;refine SW.st (eY rfl) rfl ?_)|(show SW _ _ _ _ (⟨_,Op.load _ _,_,_,_,none⟩::_) _ _;first|refine SW.st (ak rfl (aB.cell rfl)) rfl ?_|refine SW.st (ao hw rfl (dz 2 _ rfl)) rfl ?_))
    exact ae.again (k+1) ⟨rfl,rfl,rfl,rfl,trivial⟩ (by omega) ⟨by omega,hw,aB,hS,hF⟩
  ·obtain rfl:k=2:=by omega
   rw [List.take_of_length_le (by omega)] at hS hF
   have JL:=fun hh:bE h=>hh.all
   have Mg:h.aN.flatMap aq.ag=z0.ag++z1.ag:=by rw [me];simp
   generalize h.aN.flatMap aq.ag=F at hS hF JL Mg
   have Mh:=hF.1
   obtain ⟨ls,hl⟩:=hr.lists
   obtain ⟨pW,Fw⟩:=hl.len
   have OT:=hl.row.base
   have Dc:=hs.lists
   repeat' (first|(first|refine CW.seq ?_|refine CW.region ?_|refine CW.block ?_|refine CW.iF rfl (by omega) ?_|refine CW.exit ?_)|(first|refine ae.seq ?_|refine ae.iE ?_|refine ae.hit ?_|refine ae.fw ?_)|refine SW.nil ?_|refine SW.pure rfl rfl ?_)
   refine CW.loop (fun k:Nat=>[(1,.pointer (some ⟨b1,0,none⟩)),(3,.pointer (some ⟨b3,0,none⟩)),(4,.func (.func 79) #[] ([.pointer (some ⟨b3,0,none⟩)] : List Value).toArray),(7,.int .i64 (k:Int))])
    (fun k w'=>k≤r.av.n∧Ext w w'∧aI w' b1 27 (bm r)∧rj w' w.heap.size b3 (F++aS (h.av.take k))∧nc (F++aS (h.av.take k))∧vN h.bX z0.To h.av k) (fun k=>r.av.n-k) 0
    ⟨rfl,rfl,rfl,rfl,trivial⟩ ⟨by omega,hw,aB,by simpa [aS] using hS,by simpa [aS] using hF,.nil _ _ _⟩ ?_
   clear hw aB hS hF
   rintro k w' ⟨hk,hw,aB,hS,hF,hP⟩
   by_cases cb:k<r.av.n
   ·have di:k<ls.length:=by omega
    have qK:k<h.av.length:=by omega
    have Bd:=hl.each.get k di qK
    have KD:=Bd.cpu
    have KE:=Bd.fC
    have c8:=Bd.ty
    have Ma:=Bd.cu.len
    have Ns:=Bd.cu.base
    have Am:=Bd.cu
    have dz:=hl.row.all cb
    have fX:=hl.row.all (i:=k-1) (show k-1<r.av.n by omega)
    repeat' (first|(first|refine CW.seq ?_|refine CW.region ?_|refine CW.block ?_|refine CW.jn rfl (by omega) ?_|refine CW.skip ?_)|(refine ae.seq ?_)|refine SW.nil ?_|refine SW.pure rfl rfl ?_|(show SW _ _ _ _ (⟨_,Op.fieldAddr _ _ _,_,_,_,none⟩::_) _ _;refine SW.st (aC rfl) rfl ?_)|(show SW _ _ _ _ (⟨_,Op.indexAddr _ _ _,_,_,_,none⟩::_) _ _;refine SW.st (bk rfl rfl (by assumption) (by omega)) rfl ?_)|(show SW _ _ _ _ (⟨_,Op.call ⟨.builtin .len,_,_⟩,_,_,_,none⟩::_) _ _;refine SW.st (eY rfl) rfl ?_)|(show SW _ _ _ _ (⟨_,Op.load _ _,_,_,_,none⟩::_) _ _;first|refine SW.st (ak rfl (aB.cell rfl)) rfl ?_|refine SW.st (aH hw rfl rfl ((dz))) rfl ?_))
    refine SW.alloc rfl fun b8 w1 ab kZ bu => ?_
    skip
    refine SW.ap bu rfl rfl rfl rfl (fO.one (enc:=bp) _) fun w2 jh hg => ?_
    have aj:=ab.own kZ hg
    have jA:w.heap.size≤b8:=Nat.le_trans hw.size kZ
    replace hw:=Ext.trans hw aj
    replace aB:=aB.ext aj
    replace hS:=hS.ext aj
    replace bu:=jh
    clear jh ab hg aj
    repeat' (first|(refine CW.seq ?_)|(refine ae.seq ?_)|refine SW.nil ?_)
    by_cases yn:mS r.bX h.av[k]
    ·obtain ⟨e1,e2,e3,e4⟩:=id yn
     obtain ⟨q,hq⟩ : ∃ q,decide (bz (h.av[k-1]'(by omega)) h.av[k])=q:=⟨_,rfl⟩
     have yS:=hl.each.get (k-1) (by omega) (by omega)
     have cL:∀ w',bt Tryz.prog 82 [.agg (bp (ls[k-1]'(by omega))).toArray,.agg (bp ls[k]).toArray] w' fun v _=>v = .bool q:=fun w'=>by
      have:=sC (ls[k-1]'(by omega)) ls[k] (h.av[k-1]'(by omega)) h.av[k] w' ⟨yS.cpu,yS.fC,yS.ty⟩ ⟨KD,KE,c8⟩
      rwa [hq] at this
     have dp:(0<k∧q=false)∨(0<k∧q=true)∨k=0:=by cases q<;>simp<;>omega
     rcases dp with ⟨pS,rfl⟩|⟨pS,rfl⟩|pS
     repeat' (first|(first|refine CW.seq ?_|refine CW.region ?_|refine CW.block ?_|refine CW.rR rfl (by with_reducible rfl) ?_|refine CW.iF rfl (by omega) ?_|refine CW.nt rfl (by omega) ?_|refine CW.skip ?_|refine CW.ret ?_|(apply CW.aP mixed;(· kernel_rfl);rotate_left;intro w1 ab;replace hw:=Ext.trans hw ab;replace aB:=aB.ext ab;replace bu:=bu.ext ab;replace hS:=hS.ext ab;clear ab;rotate_right))|(first|refine ae.seq ?_|refine ae.fT ?_|refine ae.iG ?_|refine ae.eX ?_)|refine SW.nil ?_|(show SW _ _ _ _ (⟨_,_,_,_,_,some _⟩::_) _ _;first|refine SW.gg rfl rfl (by with_reducible rfl) ?_|refine SW.bV rfl rfl (by with_reducible rfl) ?_|refine SW.gG rfl rfl (by with_reducible rfl) rfl ?_|refine SW.jx rfl rfl rfl (by omega) ?_|refine SW.jy rfl rfl rfl (by omega) ?_|refine SW.dY rfl rfl rfl (by omega) ?_)|refine SW.pure rfl rfl ?_|(show SW _ _ _ _ (⟨_,Op.fieldAddr _ _ _,_,_,_,none⟩::_) _ _;refine SW.st (aC rfl) rfl ?_)|(show SW _ _ _ _ (⟨_,Op.binOp _ _ _ _ _,_,_,_,none⟩::_) _ _;refine SW.st (iI rfl rfl (by omega) (by omega)) rfl ?_)|(show SW _ _ _ _ (⟨_,Op.indexAddr _ _ _,_,_,_,none⟩::_) _ _;refine SW.st (aZ (k-1) rfl rfl (by assumption) (by omega) (by omega)) rfl ?_)|(show SW _ _ _ _ (⟨_,Op.call ⟨.builtin .len,_,_⟩,_,_,_,none⟩::_) _ _;refine SW.st (eY rfl) rfl ?_)|(show SW _ _ _ _ (⟨_,Op.load _ _,_,_,_,none⟩::_) _ _;first|refine SW.st (ak rfl (bu.cell rfl)) rfl ?_|refine SW.st (ak rfl (aB.cell rfl)) rfl ?_|refine SW.st (aH hw rfl rfl ((fX))) rfl ?_|refine SW.st (aY rfl rfl ((fun _ _=>bu.cell))) rfl ?_)|(show SW _ _ _ _ (⟨_,Op.call ⟨.value (.func _),_,_⟩,_,_,_,none⟩::_) _ _;first|refine SW.bq rfl rfl (fun w1 ab=>(cL _)) ?_|refine SW.bq rfl rfl (fun w1 ab=>(bK _ _ _ _)) ?_)|exact SW.bx rfl)
     ·exact ae.aO rfl rfl ⟨_,rfl,hw,by rw [dQ (fun hh=>by
       have:=(hh.rest me).1.next (k-1) (by omega)
       simp only [show k-1+1=k by omega] at this
       exact of_decide_eq_false hq this)]⟩
     all_goals
      have KF:∀ (h0 : 0<k),bz (h.av[k-1]'(by omega)) h.av[k]:=fun h0=>by first|exact of_decide_eq_true hq|omega
      clear cL hq dz fX
      have II:∀ (j:Nat) (hj:j<h.av[k].aw.length),nc (F++aS (h.av.take k)++(h.av[k].aw.take j).map cX) → ¬ ly (F++aS (h.av.take k)++(h.av[k].aw.take j).map cX) (cX h.av[k].aw[j]) → ¬ bE h:=fun j hj hf hx hh=>by
       have:=ff (JL hh)
       have e:=hf.no hx (M:=[])
       have e2:bj (bj (some F) (aS (h.av.take k))) ((h.av[k].aw.take (j+1)).map cX)=none:=by
        have e0:bj (some []) F=some F:=by
         have h1:=Mh
         exact h1
        rw [List.take_succ_eq_append_getElem hj,List.map_append,← e0,← br,← br]
        simpa using e
       have e3:=qJ qK (by omega) e2
       rw [br,Mh,e3] at this
       cases this
      refine CW.loop (fun j:Nat=>[(1,.pointer (some ⟨b1,0,none⟩)),(3,.pointer (some ⟨b3,0,none⟩)),(4,.func (.func 79) #[] ([.pointer (some ⟨b3,0,none⟩)] : List Value).toArray),(7,.int .i64 (k:Int)),(8,.pointer (some ⟨b8,0,none⟩)),(9,.int .i64 (j:Int))])
       (fun j w'=>j≤ls[k].aw.n∧Ext w w'∧aI w' b1 27 (bm r)∧aI w' b8 62 (bp ls[k])∧rj w' w.heap.size b3 (F++aS (h.av.take k)++(h.av[k].aw.take j).map cX)∧nc (F++aS (h.av.take k)++(h.av[k].aw.take j).map cX) ∧ ∀ (i:Nat) (hi:i<h.av[k].aw.length),i<j→(h.av[k].aw[i]<z0.To↔h.av[k].aq=0)) (fun j=>ls[k].aw.n-j) 0
       ⟨rfl,rfl,rfl,rfl,rfl,rfl,trivial⟩ ⟨by omega,hw,aB,bu,by simpa using hS,by simpa using hF,fun i _ h=>by omega⟩ ?_
      clear hw aB bu hS hF kZ jA
      rintro j w' ⟨hj,hw,aB,bu,hS,hF,hZ⟩
      by_cases jo:j<ls[k].aw.n
      ·have kW:j<h.av[k].aw.length:=by omega
       have ll:=II j kW hF
       have HA:(h.av[k].aw.take (j+1)).map cX=(h.av[k].aw.take j).map cX++[cX h.av[k].aw[j]]:=by rw [List.take_succ_eq_append_getElem kW,List.map_append];rfl
       have JM:=Am.one jo rfl
       have ri:bE h→(h.av[k].aw[j]<z0.To↔h.av[k].aq=0)∧0≤h.av[k].aw[j]∧h.av[k].aw[j]<256:=fun hh=>by
        refine ⟨(hh.rest me).1.fC k qK _ (List.getElem_mem _),?_⟩
        have h1:=ff (JL hh)
        have h2:=qL h1 (cX h.av[k].aw[j]) (List.mem_append_right _ (List.mem_flatMap.2 ⟨h.av[k],List.getElem_mem _,List.mem_map.2 ⟨_,List.getElem_mem _,rfl⟩⟩))
        simp only [cX,js] at h2
        omega
       generalize hp:h.av[k].aw[j]=p at ll HA JM ri
       have gU:((ls[k].aq=0 ∧ ¬ (r0.aV≤p∧p≤r0.To-1))∨(ls[k].aq=1 ∧ ¬ (r1.aV≤p∧p≤r1.To-1)))∨((ls[k].aq=0∧(r0.aV≤p∧p≤r0.To-1))∨(ls[k].aq=1∧(r1.aV≤p∧p≤r1.To-1))):=by omega
       rcases gU with gU|gU
       ·have r6 : ¬ bE h:=fun hh=>by
         have:=ri hh
         omega
        rw [dQ r6]
        rcases gU with ⟨a,d⟩|⟨a,d⟩
        repeat' (first|(first|refine CW.seq ?_|refine CW.region ?_|refine CW.block ?_|refine CW.kT rfl (by with_reducible rfl) ?_|refine CW.jn rfl (by omega) ?_|refine CW.skip ?_|refine CW.ret ?_|(apply CW.aP mixed;(· kernel_rfl);rotate_left;intro w1 ab;replace hw:=Ext.trans hw ab;replace aB:=aB.ext ab;replace bu:=bu.ext ab;replace hS:=hS.ext ab;clear ab;rotate_right))|(first|refine ae.seq ?_|refine ae.fT ?_|refine ae.iG ?_|refine ae.eX ?_)|refine SW.nil ?_|(show SW _ _ _ _ (⟨_,_,_,_,_,some _⟩::_) _ _;first|refine SW.kS rfl rfl (by with_reducible rfl) rfl ?_|refine SW.gR rfl rfl rfl (by omega) ?_)|refine SW.pure rfl rfl ?_|(show SW _ _ _ _ (⟨_,Op.fieldAddr _ _ _,_,_,_,none⟩::_) _ _;refine SW.st (aC rfl) rfl ?_)|(show SW _ _ _ _ (⟨_,Op.binOp _ _ _ _ _,_,_,_,none⟩::_) _ _;refine SW.st (iI rfl rfl (by omega) (by omega)) rfl ?_)|(show SW _ _ _ _ (⟨_,Op.indexAddr _ _ _,_,_,_,none⟩::_) _ _;first|refine SW.st (bk rfl rfl (by assumption) (by omega)) rfl ?_|refine SW.st (aZ (0) rfl rfl (by assumption) (by omega) (by omega)) rfl ?_|refine SW.st (aZ (1) rfl rfl (by assumption) (by omega) (by omega)) rfl ?_)|(show SW _ _ _ _ (⟨_,Op.call ⟨.builtin .len,_,_⟩,_,_,_,none⟩::_) _ _;refine SW.st (eY rfl) rfl ?_)|(show SW _ _ _ _ (⟨_,Op.load _ _,_,_,_,none⟩::_) _ _;first|refine SW.st (ak rfl (bu.cell rfl)) rfl ?_|refine SW.st (ak rfl (aB.cell rfl)) rfl ?_|refine SW.st (ao hw rfl (ju.c0 0 _ rfl)) rfl ?_|refine SW.st (ao hw rfl (ju.c0 1 _ rfl)) rfl ?_|refine SW.st (ao hw rfl (ju.c1 0 _ rfl)) rfl ?_|refine SW.st (ao hw rfl (ju.c1 1 _ rfl)) rfl ?_|refine SW.st (ao hw rfl JM) rfl ?_)|(show SW _ _ _ _ (⟨_,Op.call ⟨.value (.func _),_,_⟩,_,_,_,none⟩::_) _ _;refine SW.bq rfl rfl (fun w1 ab=>(bK _ _ _ _)) ?_)|exact SW.bx rfl)
        all_goals exact ae.aO rfl rfl ⟨_,rfl,hw,rfl⟩
       ·have IJ:(p<z0.To↔h.av[k].aq=0)∧dG 0 256 (cX p):=by
         simp only [dG,e8,cX,js,fy]
         omega
        obtain ⟨NJ,IK⟩:=IJ
        rcases gU with ⟨a,d⟩|⟨a,d⟩
        all_goals
         repeat' (first|(first|refine CW.seq ?_|refine CW.region ?_|refine CW.block ?_|refine CW.jn rfl (by omega) ?_|refine CW.skip ?_)|(refine ae.seq ?_)|refine SW.nil ?_|refine SW.pure rfl rfl ?_|(show SW _ _ _ _ (⟨_,Op.fieldAddr _ _ _,_,_,_,none⟩::_) _ _;refine SW.st (aC rfl) rfl ?_)|(show SW _ _ _ _ (⟨_,Op.call ⟨.builtin .len,_,_⟩,_,_,_,none⟩::_) _ _;refine SW.st (eY rfl) rfl ?_)|(show SW _ _ _ _ (⟨_,Op.load _ _,_,_,_,none⟩::_) _ _;refine SW.st (ak rfl (bu.cell rfl)) rfl ?_))
         refine CW.any 30 mixed (cq (by kernel_rfl)) rfl fun w1 ab aG => ?_
         replace hw:=Ext.trans hw ab;replace aB:=aB.ext ab;replace bu:=bu.ext ab;replace hS:=hS.ext ab;clear ab
         refine SA.take 0 aG rfl (by kernel_rfl) (by kernel_rfl) rfl ?_
         repeat ((show SW _ _ _ _ (⟨_,Op.fieldAddr _ _ _,_,_,_,none⟩::_) _ _;refine SW.st (aC rfl) rfl ?_))
         refine SW.ai ?_
         refine SA.take 1 aG rfl (by kernel_rfl) (by kernel_rfl) rfl ?_
         repeat ((show SW _ _ _ _ (⟨_,Op.load _ _,_,_,_,none⟩::_) _ _;refine SW.st (ak rfl (bu.cell rfl)) rfl ?_))
         refine SW.ai ?_
         refine SA.take 2 aG rfl (by kernel_rfl) (by kernel_rfl) rfl ?_
         repeat (refine SW.pure rfl rfl ?_)
         refine SW.ai ?_
         refine SA.take 3 aG rfl (by kernel_rfl) (by kernel_rfl) rfl ?_
         repeat ((show SW _ _ _ _ (⟨_,Op.indexAddr _ _ _,_,_,_,none⟩::_) _ _;refine SW.st (bk rfl rfl (by assumption) (by omega)) rfl ?_))
         refine SW.ai ?_
         refine SA.take 4 aG rfl (by kernel_rfl) (by kernel_rfl) rfl ?_
         repeat ((show SW _ _ _ _ (⟨_,Op.load _ _,_,_,_,none⟩::_) _ _;refine SW.st (ao hw rfl JM) rfl ?_))
         refine SW.ai ?_
         refine SA.take 5 aG rfl (by kernel_rfl) (by kernel_rfl) rfl ?_
         repeat ((show SW _ _ _ _ (⟨_,Op.fieldAddr _ _ _,_,_,_,none⟩::_) _ _;refine SW.st (aC rfl) rfl ?_))
         refine SW.ai ?_
         refine SA.take 6 aG rfl (by kernel_rfl) (by kernel_rfl) rfl ?_
         repeat ((show SW _ _ _ _ (⟨_,Op.load _ _,_,_,_,none⟩::_) _ _;refine SW.st (ak rfl (aB.cell rfl)) rfl ?_))
         refine SW.ai ?_
         refine SA.take 7 aG rfl (by kernel_rfl) (by kernel_rfl) rfl ?_
         repeat ((show SW _ _ _ _ (⟨_,Op.fieldAddr _ _ _,_,_,_,none⟩::_) _ _;refine SW.st (aC rfl) rfl ?_))
         refine SW.ai ?_
         refine SA.take 8 aG rfl (by kernel_rfl) (by kernel_rfl) rfl ?_
         repeat ((show SW _ _ _ _ (⟨_,Op.load _ _,_,_,_,none⟩::_) _ _;refine SW.st (ak rfl (bu.cell rfl)) rfl ?_))
         refine SW.ai ?_
         refine SA.take 9 aG rfl (by kernel_rfl) (by kernel_rfl) rfl ?_
         repeat ((show SW _ _ _ _ (⟨_,Op.indexAddr _ _ _,_,_,_,none⟩::_) _ _;first|refine SW.st (aZ (0) rfl rfl (by assumption) (by omega) (by omega)) rfl ?_|refine SW.st (aZ (1) rfl rfl (by assumption) (by omega) (by omega)) rfl ?_))
         refine SW.ai ?_
         refine SA.take 10 aG rfl (by kernel_rfl) (by kernel_rfl) rfl ?_
         repeat ((show SW _ _ _ _ (⟨_,Op.fieldAddr _ _ _,_,_,_,none⟩::_) _ _;refine SW.st (aC rfl) rfl ?_))
         refine SW.ai ?_
         refine SA.take 11 aG rfl (by kernel_rfl) (by kernel_rfl) rfl ?_
         repeat ((show SW _ _ _ _ (⟨_,Op.load _ _,_,_,_,none⟩::_) _ _;first|refine SW.st (ao hw rfl (ju.c0 0 _ rfl)) rfl ?_|refine SW.st (ao hw rfl (ju.c1 0 _ rfl)) rfl ?_))
         refine SW.ai ?_
         refine SA.take 12 aG rfl (by kernel_rfl) (by kernel_rfl) rfl ?_
         repeat ((show SW _ _ _ _ (⟨_,Op.fieldAddr _ _ _,_,_,_,none⟩::_) _ _;refine SW.st (aC rfl) rfl ?_))
         refine SW.ai ?_
         refine SA.take 13 aG rfl (by kernel_rfl) (by kernel_rfl) rfl ?_
         repeat ((show SW _ _ _ _ (⟨_,Op.load _ _,_,_,_,none⟩::_) _ _;refine SW.st (ak rfl (aB.cell rfl)) rfl ?_))
         refine SW.ai ?_
         refine SA.take 14 aG rfl (by kernel_rfl) (by kernel_rfl) rfl ?_
         repeat ((show SW _ _ _ _ (⟨_,Op.fieldAddr _ _ _,_,_,_,none⟩::_) _ _;refine SW.st (aC rfl) rfl ?_))
         refine SW.ai ?_
         refine SA.take 15 aG rfl (by kernel_rfl) (by kernel_rfl) rfl ?_
         repeat ((show SW _ _ _ _ (⟨_,Op.load _ _,_,_,_,none⟩::_) _ _;refine SW.st (ak rfl (bu.cell rfl)) rfl ?_))
         refine SW.ai ?_
         refine SA.take 16 aG rfl (by kernel_rfl) (by kernel_rfl) rfl ?_
         repeat ((show SW _ _ _ _ (⟨_,Op.indexAddr _ _ _,_,_,_,none⟩::_) _ _;first|refine SW.st (aZ (0) rfl rfl (by assumption) (by omega) (by omega)) rfl ?_|refine SW.st (aZ (1) rfl rfl (by assumption) (by omega) (by omega)) rfl ?_))
         refine SW.ai ?_
         refine SA.take 17 aG rfl (by kernel_rfl) (by kernel_rfl) rfl ?_
         repeat ((show SW _ _ _ _ (⟨_,Op.fieldAddr _ _ _,_,_,_,none⟩::_) _ _;refine SW.st (aC rfl) rfl ?_))
         refine SW.ai ?_
         refine SA.take 18 aG rfl (by kernel_rfl) (by kernel_rfl) rfl ?_
         repeat ((show SW _ _ _ _ (⟨_,Op.load _ _,_,_,_,none⟩::_) _ _;first|refine SW.st (ao hw rfl (ju.c0 1 _ rfl)) rfl ?_|refine SW.st (ao hw rfl (ju.c1 1 _ rfl)) rfl ?_))
         refine SW.ai ?_
         refine SA.take 19 aG rfl (by kernel_rfl) (by kernel_rfl) rfl ?_
         repeat ((show SW _ _ _ _ (⟨_,Op.binOp _ _ _ _ _,_,_,_,none⟩::_) _ _;refine SW.st (iI rfl rfl (by omega) (by omega)) rfl ?_))
         refine SW.ai ?_
         refine SA.one 20 rfl (by kernel_rfl) rfl ?_
         refine SW.call rfl rfl (bK _ _ _ _) fun v w5 aj hv => ?_
         subst hv
         (replace hw:=Ext.trans hw aj;replace aB:=aB.ext aj;replace bu:=bu.ext aj;replace hS:=hS.ext aj)
         refine SW.nil (ae.sa aj ?_)
         refine SA.take 21 aG rfl (by kernel_rfl) (by kernel_rfl) rfl ?_
         repeat (refine SW.pure rfl rfl ?_)
         refine SW.ai ?_
         refine SA.take 22 aG rfl (by kernel_rfl) (by kernel_rfl) rfl ?_
         repeat (refine SW.pure rfl rfl ?_)
         refine SW.ai ?_
         refine SA.take 23 aG rfl (by kernel_rfl) (by kernel_rfl) rfl ?_
         repeat (first|(show SW _ _ _ _ (⟨_,_,_,_,_,some _⟩::_) _ _;first|refine SW.bV rfl rfl (by with_reducible rfl) ?_|refine SW.dY rfl rfl rfl (by omega) ?_)|refine SW.pure rfl rfl ?_)
         refine SW.ai ?_
         refine SA.take 24 aG rfl (by kernel_rfl) (by kernel_rfl) rfl ?_
         repeat (first|(show SW _ _ _ _ (⟨_,_,_,_,_,some _⟩::_) _ _;refine SW.bV rfl rfl (by with_reducible rfl) ?_)|(show SW _ _ _ _ (⟨_,Op.fieldAddr _ _ _,_,_,_,none⟩::_) _ _;refine SW.st (aC rfl) rfl ?_))
         refine SW.ai ?_
         refine SA.take 25 aG rfl (by kernel_rfl) (by kernel_rfl) rfl ?_
         repeat (first|(show SW _ _ _ _ (⟨_,_,_,_,_,some _⟩::_) _ _;refine SW.bV rfl rfl (by with_reducible rfl) ?_)|(show SW _ _ _ _ (⟨_,Op.load _ _,_,_,_,none⟩::_) _ _;refine SW.st (ak rfl (bu.cell rfl)) rfl ?_))
         refine SW.ai ?_
         refine SA.take 26 aG rfl (by kernel_rfl) (by kernel_rfl) rfl ?_
         repeat (first|(show SW _ _ _ _ (⟨_,_,_,_,_,some _⟩::_) _ _;refine SW.bV rfl rfl (by with_reducible rfl) ?_)|refine SW.pure rfl rfl ?_)
         refine SW.ai ?_
         refine SA.take 27 aG rfl (by kernel_rfl) (by kernel_rfl) rfl ?_
         repeat (first|(show SW _ _ _ _ (⟨_,_,_,_,_,some _⟩::_) _ _;refine SW.bV rfl rfl (by with_reducible rfl) ?_)|(show SW _ _ _ _ (⟨_,Op.indexAddr _ _ _,_,_,_,none⟩::_) _ _;refine SW.st (bk rfl rfl (by assumption) (by omega)) rfl ?_))
         refine SW.ai ?_
         refine SA.take 28 aG rfl (by kernel_rfl) (by kernel_rfl) rfl ?_
         repeat (first|(show SW _ _ _ _ (⟨_,_,_,_,_,some _⟩::_) _ _;refine SW.bV rfl rfl (by with_reducible rfl) ?_)|(show SW _ _ _ _ (⟨_,Op.load _ _,_,_,_,none⟩::_) _ _;refine SW.st (ao hw rfl JM) rfl ?_))
         refine SW.ai ?_
         refine SA.take 29 aG rfl (by kernel_rfl) (by kernel_rfl) rfl ?_
         repeat (first|(show SW _ _ _ _ (⟨_,_,_,_,_,some _⟩::_) _ _;refine SW.bV rfl rfl (by with_reducible rfl) ?_)|(show SW _ _ _ _ (⟨_,Op.build _ _,_,_,_,none⟩::_) _ _;refine SW.st (gh rfl rfl) rfl ?_))
         refine SW.ai ?_
         refine SA.done (by kernel_rfl) ?_
         repeat' ((show SW _ _ _ _ (⟨_,_,_,_,_,some _⟩::_) _ _;refine SW.bV rfl rfl (by with_reducible rfl) ?_))
         refine SW.yU rfl rfl rfl (sU b3 _ (cX p) w _ hw cr hS hF.2 hF.len IK) fun v w6 hv => ?_
         obtain ⟨De,hK,sM⟩:=hv
         replace hw:=De
         replace aB:=hK.k _ _ _ aB rfl rfl
         replace bu:=hK.k _ _ _ bu rfl rfl
         rcases sM with ⟨rfl,hf,mG⟩|⟨rfl,hf,mG⟩
         ·rw [List.append_assoc,← HA] at mG
          have Dd:=hF.add IK hf
          rw [List.append_assoc,← HA] at Dd
          repeat' (first|(first|refine CW.region ?_|refine CW.iF rfl (by omega) ?_|refine CW.skip ?_)|(first|refine ae.seq ?_|refine ae.cV ?_|refine ae.np ?_)|refine SW.nil ?_|(show SW _ _ _ _ (⟨_,_,_,_,_,some _⟩::_) _ _;refine SW.bV rfl rfl (by with_reducible rfl) ?_)|refine SW.pure rfl rfl ?_|(show SW _ _ _ _ (⟨_,Op.binOp _ _ _ _ _,_,_,_,none⟩::_) _ _;refine SW.st (kU rfl rfl (by omega) (by omega)) rfl ?_))
          refine ae.again (j+1) ⟨rfl,rfl,rfl,rfl,rfl,rfl,trivial⟩ (by omega) ⟨by omega,hw,aB,bu,mG,Dd,fun i hi kX => ?_⟩
          by_cases e:i=j
          ·subst e;rw [hp];exact NJ
          ·exact hZ i hi (by omega)
         ·repeat' (first|(first|refine CW.seq ?_|refine CW.region ?_|refine CW.bG rfl ?_|refine CW.ret ?_)|(first|refine ae.seq ?_|refine ae.fT ?_|refine ae.iG ?_|refine ae.eX ?_|refine ae.np ?_)|refine SW.nil ?_|(show SW _ _ _ _ (⟨_,_,_,_,_,some _⟩::_) _ _;refine SW.bV rfl rfl (by with_reducible rfl) ?_)|refine SW.pure rfl rfl ?_)
          exact ae.aO rfl rfl ⟨_,rfl,hw,by rw [dQ (ll hf)]⟩
      ·obtain rfl:j=ls[k].aw.n:=by omega
       rw [List.take_of_length_le (l:=h.av[k].aw) (by omega),List.append_assoc,← kK _ _ qK] at hS hF
       repeat' (first|(first|refine CW.seq ?_|refine CW.region ?_|refine CW.iF rfl (by omega) ?_|refine CW.exit ?_)|(first|refine ae.seq ?_|refine ae.iE ?_|refine ae.hit ?_|refine ae.cV ?_|refine ae.fw ?_)|refine SW.nil ?_|refine SW.pure rfl rfl ?_|(show SW _ _ _ _ (⟨_,Op.fieldAddr _ _ _,_,_,_,none⟩::_) _ _;refine SW.st (aC rfl) rfl ?_)|(show SW _ _ _ _ (⟨_,Op.binOp _ _ _ _ _,_,_,_,none⟩::_) _ _;refine SW.st (kU rfl rfl (by omega) (by omega)) rfl ?_)|(show SW _ _ _ _ (⟨_,Op.call ⟨.builtin .len,_,_⟩,_,_,_,none⟩::_) _ _;refine SW.st (eY rfl) rfl ?_)|(show SW _ _ _ _ (⟨_,Op.load _ _,_,_,_,none⟩::_) _ _;refine SW.st (ak rfl (bu.cell rfl)) rfl ?_))
       refine ae.again (k+1) ⟨rfl,rfl,rfl,rfl,trivial⟩ (by omega) ⟨by omega,hw,aB,hS,hF,hP.snoc qK (by rwa [← CG]) KF fun p hp => ?_⟩
       obtain ⟨i,hi,rfl⟩:=List.getElem_of_mem hp
       exact hZ i hi (by omega)
    ·have ll : ¬ bE h:=fun hh=>yn (by have:=(hh.rest me).1.head k qK;rwa [← CG] at this)
     rw [dQ ll]
     have KG : ¬ (((0≤ls[k].dU∧ls[k].dU<r.bX)∧(0≤ls[k].aq∧ls[k].aq≤1)∧(0≤ls[k].Ty∧ls[k].Ty≤2)∧(1≤ls[k].aw.n∧ls[k].aw.n≤8))):=fun hh=>yn (by unfold mS;omega)
     have gU : ¬ (0≤ls[k].dU∧ls[k].dU≤r.bX-1)∨((0≤ls[k].dU∧ls[k].dU≤r.bX-1)∧(¬ (0≤ls[k].aq∧ls[k].aq≤1)∨((0≤ls[k].aq∧ls[k].aq≤1)∧(¬ (0≤ls[k].Ty∧ls[k].Ty≤2)∨((0≤ls[k].Ty∧ls[k].Ty≤2) ∧ ¬ (1≤ls[k].aw.n∧ls[k].aw.n≤8)))))):=by omega
     rcases gU with d|⟨d1,d|⟨d2,d|⟨d3,d⟩⟩⟩
     repeat' (first|(first|refine CW.seq ?_|refine CW.region ?_|refine CW.kT rfl (by with_reducible rfl) ?_|refine CW.ret ?_|(apply CW.aP mixed;(· kernel_rfl);rotate_left;intro w1 ab;replace hw:=Ext.trans hw ab;replace aB:=aB.ext ab;replace bu:=bu.ext ab;replace hS:=hS.ext ab;clear ab;rotate_right))|(first|refine ae.seq ?_|refine ae.fT ?_|refine ae.iG ?_|refine ae.eX ?_)|refine SW.nil ?_|(show SW _ _ _ _ (⟨_,_,_,_,_,some _⟩::_) _ _;first|refine SW.bV rfl rfl (by with_reducible rfl) ?_|refine SW.kS rfl rfl (by with_reducible rfl) rfl ?_|refine SW.oa rfl rfl (by with_reducible rfl) rfl ?_|refine SW.gR rfl rfl rfl (by omega) ?_|refine SW.dY rfl rfl rfl (by omega) ?_)|refine SW.pure rfl rfl ?_|(show SW _ _ _ _ (⟨_,Op.fieldAddr _ _ _,_,_,_,none⟩::_) _ _;refine SW.st (aC rfl) rfl ?_)|(show SW _ _ _ _ (⟨_,Op.binOp _ _ _ _ _,_,_,_,none⟩::_) _ _;refine SW.st (iI rfl rfl (by omega) (by omega)) rfl ?_)|(show SW _ _ _ _ (⟨_,Op.call ⟨.builtin .len,_,_⟩,_,_,_,none⟩::_) _ _;refine SW.st (eY rfl) rfl ?_)|(show SW _ _ _ _ (⟨_,Op.load _ _,_,_,_,none⟩::_) _ _;first|refine SW.st (ak rfl (bu.cell rfl)) rfl ?_|refine SW.st (ak rfl (aB.cell rfl)) rfl ?_)|(show SW _ _ _ _ (⟨_,Op.call ⟨.value (.func _),_,_⟩,_,_,_,none⟩::_) _ _;refine SW.bq rfl rfl (fun w1 ab=>(bK _ _ _ _)) ?_)|exact SW.bx rfl)
     all_goals exact ae.aO rfl rfl ⟨_,rfl,hw,rfl⟩
   ·obtain rfl:k=r.av.n:=by omega
    rw [List.take_of_length_le (by omega)] at hS hF
    have hL:=hP.all (by omega)
    repeat' (first|(first|refine CW.seq ?_|refine CW.region ?_|refine CW.block ?_|refine CW.iF rfl (by omega) ?_|refine CW.exit ?_)|(first|refine ae.seq ?_|refine ae.iE ?_|refine ae.hit ?_|refine ae.fw ?_)|refine SW.nil ?_|refine SW.pure rfl rfl ?_|(show SW _ _ _ _ (⟨_,Op.fieldAddr _ _ _,_,_,_,none⟩::_) _ _;refine SW.st (aC rfl) rfl ?_)|(show SW _ _ _ _ (⟨_,Op.call ⟨.builtin .len,_,_⟩,_,_,_,none⟩::_) _ _;refine SW.st (eY rfl) rfl ?_)|(show SW _ _ _ _ (⟨_,Op.load _ _,_,_,_,none⟩::_) _ _;refine SW.st (ak rfl (aB.cell rfl)) rfl ?_))
    have Fy:=hr.live
    have Gx:=hr.live.len
    have NB:=hr.live.base
    have NC:=hs.live
    refine CW.loop (fun k:Nat=>[(1,.pointer (some ⟨b1,0,none⟩)),(3,.pointer (some ⟨b3,0,none⟩)),(4,.func (.func 79) #[] ([.pointer (some ⟨b3,0,none⟩)] : List Value).toArray),(10,.int .i64 (k:Int))])
     (fun k w'=>k≤r.Live.n∧Ext w w'∧aI w' b1 27 (bm r)∧rj w' w.heap.size b3 (F++aS h.av++h.Live.take k)∧nc (F++aS h.av++h.Live.take k)∧sO h.Live k) (fun k=>r.Live.n-k) 0
     ⟨rfl,rfl,rfl,rfl,trivial⟩ ⟨by omega,hw,aB,by simpa using hS,by simpa using hF,.nil _⟩ ?_
    clear hw aB hS hF hP
    rintro k w' ⟨hk,hw,aB,hS,hF,hP⟩
    by_cases cb:k<r.Live.n
    ·have di:k<h.Live.length:=by omega
     have EK:k-1<r.Live.n:=by omega
     have ri:bE h→sh h.Live[k]∧(0<k→(h.Live[k-1]'(by omega)).At<h.Live[k].At):=fun hh=>⟨hh.live.each k di,fun h0=>by
      have:=hh.live.next (k-1) (by omega)
      simpa only [show k-1+1=k by omega] using this⟩
     have ll : ¬ ly (F++aS h.av++h.Live.take k) h.Live[k] → ¬ bE h:=fun hx hh=>by
      have:=JL hh
      have e:=hF.no hx (M:=h.Live.drop (k+1))
      have e1:h.Live.take k++([h.Live[k]]++h.Live.drop (k+1))=h.Live:=by simp
      rw [List.append_assoc,List.append_assoc (F++aS h.av),e1] at e
      rw [e] at this
      cases this
     have uR:=Fy.dA EK (j:=0) rfl
     repeat' (first|(first|refine CW.seq ?_|refine CW.region ?_|refine CW.block ?_|refine CW.jn rfl (by omega) ?_|refine CW.skip ?_)|(refine ae.seq ?_)|refine SW.nil ?_|refine SW.pure rfl rfl ?_|(show SW _ _ _ _ (⟨_,Op.fieldAddr _ _ _,_,_,_,none⟩::_) _ _;refine SW.st (aC rfl) rfl ?_)|(show SW _ _ _ _ (⟨_,Op.indexAddr _ _ _,_,_,_,none⟩::_) _ _;refine SW.st (bk rfl rfl (by assumption) (by omega)) rfl ?_)|(show SW _ _ _ _ (⟨_,Op.call ⟨.builtin .len,_,_⟩,_,_,_,none⟩::_) _ _;refine SW.st (eY rfl) rfl ?_)|(show SW _ _ _ _ (⟨_,Op.load _ _,_,_,_,none⟩::_) _ _;first|refine SW.st (ak rfl (aB.cell rfl)) rfl ?_|refine SW.st (aH hw rfl rfl ((Fy.all cb))) rfl ?_))
     refine SW.alloc rfl fun sv w1 ab qN bC => ?_
     skip
     refine SW.ap bC rfl rfl rfl rfl (fO.one (enc:=az) _) fun w2 mZ hg => ?_
     have aj:=ab.own qN hg
     have pr:w.heap.size≤sv:=Nat.le_trans hw.size qN
     replace hw:=Ext.trans hw aj
     replace aB:=aB.ext aj
     replace hS:=hS.ext aj
     replace bC:=mZ
     clear mZ ab hg aj
     repeat' (first|(refine CW.seq ?_)|(refine ae.seq ?_)|refine SW.nil ?_)
     have Be:uQ h.Live[k]→(0<k→(h.Live[k-1]'(by omega)).At<h.Live[k].At)→sO h.Live (k+1):=fun a b=>hP.snoc di a fun h0=>b h0
     have B8:h.Live.take (k+1)=h.Live.take k++[h.Live[k]]:=List.take_succ_eq_append_getElem di
     generalize KL:h.Live[k]=bb at bC ri Be B8 ll
     generalize J5:(h.Live[k-1]'(by omega)).At=pv at ri Be uR
     simp only [uQ,sh,fy] at ri Be
     have hp:bb.Order<0∨4<bb.Order∨(1≤pw bb.Order∧pw bb.Order≤16):=by
      by_cases h1 : 0≤bb.Order
      ·by_cases h2:bb.Order≤4
       ·exact .inr (.inr (bH h1 h2))
       ·omega
      ·omega
     have em:bb.At<0∨bb.At.tmod (pw bb.Order)=bb.At % pw bb.Order:=by
      by_cases h1 : 0≤bb.At
      ·exact .inr (Int.tmod_eq_emod_of_nonneg h1)
      ·omega
     have gU:(¬ (0≤bb.Order∧bb.Order≤4)∨((0≤bb.Order∧bb.Order≤4)∧(¬ (0≤bb.At∧bb.At≤255)∨((0≤bb.At∧bb.At≤255)∧(bb.At.tmod (pw bb.Order)≠0∨(bb.At.tmod (pw bb.Order)=0∧(¬ (0≤bb.Ty∧bb.Ty≤2)∨((0≤bb.Ty∧bb.Ty≤2)∧0<k∧bb.At≤pv))))))))∨(((0≤bb.Order∧bb.Order≤4)∧(0≤bb.At∧bb.At≤255)∧bb.At.tmod (pw bb.Order)=0∧(0≤bb.Ty∧bb.Ty≤2))∧(k=0∨(0<k∧pv<bb.At))):=by omega
     rcases gU with gU|⟨⟨d1,d2,d3,d4⟩,gU⟩
     ·have r6 : ¬ bE h:=fun hh=>by
       have:=ri hh
       omega
      rw [dQ r6]
      rcases gU with d|⟨d1,d|⟨d2,d|⟨d3,d|⟨d4,pS,d⟩⟩⟩⟩
      repeat' (first|(first|refine CW.seq ?_|refine CW.region ?_|refine CW.kT rfl (by with_reducible rfl) ?_|refine CW.ret ?_|(apply CW.aP mixed;(· kernel_rfl);rotate_left;intro w1 ab;replace hw:=Ext.trans hw ab;replace aB:=aB.ext ab;replace bC:=bC.ext ab;replace hS:=hS.ext ab;clear ab;rotate_right))|(first|refine ae.seq ?_|refine ae.fT ?_|refine ae.iG ?_|refine ae.eX ?_)|refine SW.nil ?_|(show SW _ _ _ _ (⟨_,_,_,_,_,some _⟩::_) _ _;first|refine SW.gg rfl rfl (by with_reducible rfl) ?_|refine SW.bV rfl rfl (by with_reducible rfl) ?_|refine SW.kS rfl rfl (by with_reducible rfl) rfl ?_|refine SW.oa rfl rfl (by with_reducible rfl) rfl ?_|refine SW.jx rfl rfl rfl (by omega) ?_|refine SW.gR rfl rfl rfl (by omega) ?_|refine SW.dY rfl rfl rfl (by omega) ?_)|refine SW.pure rfl rfl ?_|(show SW _ _ _ _ (⟨_,Op.fieldAddr _ _ _,_,_,_,none⟩::_) _ _;refine SW.st (aC rfl) rfl ?_)|(show SW _ _ _ _ (⟨_,Op.binOp _ _ _ _ _,_,_,_,none⟩::_) _ _;first|refine SW.st (iI rfl rfl (by omega) (by omega)) rfl ?_|refine SW.st (oc rfl rfl (by omega)) rfl ?_)|(show SW _ _ _ _ (⟨_,Op.indexAddr _ _ _,_,_,_,none⟩::_) _ _;refine SW.st (aZ (k-1) rfl rfl (by assumption) (by omega) (by omega)) rfl ?_)|(show SW _ _ _ _ (⟨_,Op.load _ _,_,_,_,none⟩::_) _ _;first|refine SW.st (ak rfl (bC.cell rfl)) rfl ?_|refine SW.st (ak rfl (aB.cell rfl)) rfl ?_|refine SW.st (ao hw rfl uR) rfl ?_)|(show SW _ _ _ _ (⟨_,Op.call ⟨.value (.func _),_,_⟩,_,_,_,none⟩::_) _ _;first|refine SW.bq rfl rfl (fun w1 ab=>(bK _ _ _ _)) ?_|refine SW.bq rfl rfl (fun w1 ab=>(dh _ (by omega) _)) ?_)|exact SW.bx rfl)
      all_goals exact ae.aO rfl rfl ⟨_,rfl,hw,rfl⟩
     ·have IK:dG 0 256 bb:=by
       simp only [dG,e8,fy]
       omega
      replace Be:=Be ⟨d1,d2.1,by omega,d4⟩ (fun h0=>by omega)
      rcases gU with pS|⟨pS,d⟩
      all_goals
       refine CW.any 44 mixed (cq (by kernel_rfl)) rfl fun w1 ab aG => ?_
       replace hw:=Ext.trans hw ab;replace aB:=aB.ext ab;replace bC:=bC.ext ab;replace hS:=hS.ext ab;clear ab
       refine SA.take 0 aG rfl (by kernel_rfl) (by kernel_rfl) rfl ?_
       repeat ((show SW _ _ _ _ (⟨_,Op.fieldAddr _ _ _,_,_,_,none⟩::_) _ _;refine SW.st (aC rfl) rfl ?_))
       refine SW.ai ?_
       refine SA.take 1 aG rfl (by kernel_rfl) (by kernel_rfl) rfl ?_
       repeat ((show SW _ _ _ _ (⟨_,Op.load _ _,_,_,_,none⟩::_) _ _;refine SW.st (ak rfl (bC.cell rfl)) rfl ?_))
       refine SW.ai ?_
       refine SA.one 2 rfl (by kernel_rfl) rfl ?_
       refine SW.call rfl rfl (bK _ _ _ _) fun v w5 aj hv => ?_
       subst hv
       (replace hw:=Ext.trans hw aj;replace aB:=aB.ext aj;replace bC:=bC.ext aj;replace hS:=hS.ext aj)
       refine SW.nil (ae.sa aj ?_)
       refine SA.take 3 aG rfl (by kernel_rfl) (by kernel_rfl) rfl ?_
       repeat (refine SW.pure rfl rfl ?_)
       refine SW.ai ?_
       refine SA.take 4 aG rfl (by kernel_rfl) (by kernel_rfl) rfl ?_
       repeat (refine SW.pure rfl rfl ?_)
       refine SW.ai ?_
       refine SA.take 5 aG rfl (by kernel_rfl) (by kernel_rfl) rfl ?_
       repeat (first|(show SW _ _ _ _ (⟨_,_,_,_,_,some _⟩::_) _ _;first|refine SW.bV rfl rfl (by with_reducible rfl) ?_|refine SW.dY rfl rfl rfl (by omega) ?_)|(show SW _ _ _ _ (⟨_,Op.fieldAddr _ _ _,_,_,_,none⟩::_) _ _;refine SW.st (aC rfl) rfl ?_))
       refine SW.ai ?_
       refine SA.take 6 aG rfl (by kernel_rfl) (by kernel_rfl) rfl ?_
       repeat (first|(show SW _ _ _ _ (⟨_,_,_,_,_,some _⟩::_) _ _;refine SW.bV rfl rfl (by with_reducible rfl) ?_)|(show SW _ _ _ _ (⟨_,Op.load _ _,_,_,_,none⟩::_) _ _;refine SW.st (ak rfl (bC.cell rfl)) rfl ?_))
       refine SW.ai ?_
       refine SA.one 7 rfl (by kernel_rfl) rfl ?_
       refine SW.want rfl rfl ?_
       refine SW.call rfl rfl (bK _ _ _ _) fun v w5 aj hv => ?_
       subst hv
       (replace hw:=Ext.trans hw aj;replace aB:=aB.ext aj;replace bC:=bC.ext aj;replace hS:=hS.ext aj)
       refine SW.nil (ae.sa aj ?_)
       refine SA.take 8 aG rfl (by kernel_rfl) (by kernel_rfl) rfl ?_
       repeat (first|(show SW _ _ _ _ (⟨_,_,_,_,_,some _⟩::_) _ _;refine SW.bV rfl rfl (by with_reducible rfl) ?_)|refine SW.pure rfl rfl ?_)
       refine SW.ai ?_
       refine SA.take 9 aG rfl (by kernel_rfl) (by kernel_rfl) rfl ?_
       repeat (refine SW.pure rfl rfl ?_)
       refine SW.ai ?_
       refine SA.take 10 aG rfl (by kernel_rfl) (by kernel_rfl) rfl ?_
       repeat (refine SW.pure rfl rfl ?_)
       refine SW.ai ?_
       refine SA.take 11 aG rfl (by kernel_rfl) (by kernel_rfl) rfl ?_
       repeat (first|(show SW _ _ _ _ (⟨_,_,_,_,_,some _⟩::_) _ _;first|refine SW.bV rfl rfl (by with_reducible rfl) ?_|refine SW.dY rfl rfl rfl (by omega) ?_)|(show SW _ _ _ _ (⟨_,Op.fieldAddr _ _ _,_,_,_,none⟩::_) _ _;refine SW.st (aC rfl) rfl ?_))
       refine SW.ai ?_
       refine SA.take 12 aG rfl (by kernel_rfl) (by kernel_rfl) rfl ?_
       repeat (first|(show SW _ _ _ _ (⟨_,_,_,_,_,some _⟩::_) _ _;refine SW.bV rfl rfl (by with_reducible rfl) ?_)|(show SW _ _ _ _ (⟨_,Op.load _ _,_,_,_,none⟩::_) _ _;refine SW.st (ak rfl (bC.cell rfl)) rfl ?_))
       refine SW.ai ?_
       refine SA.take 13 aG rfl (by kernel_rfl) (by kernel_rfl) rfl ?_
       repeat (first|(show SW _ _ _ _ (⟨_,_,_,_,_,some _⟩::_) _ _;refine SW.bV rfl rfl (by with_reducible rfl) ?_)|(show SW _ _ _ _ (⟨_,Op.fieldAddr _ _ _,_,_,_,none⟩::_) _ _;refine SW.st (aC rfl) rfl ?_))
       refine SW.ai ?_
       refine SA.take 14 aG rfl (by kernel_rfl) (by kernel_rfl) rfl ?_
       repeat (first|(show SW _ _ _ _ (⟨_,_,_,_,_,some _⟩::_) _ _;refine SW.bV rfl rfl (by with_reducible rfl) ?_)|(show SW _ _ _ _ (⟨_,Op.load _ _,_,_,_,none⟩::_) _ _;refine SW.st (ak rfl (bC.cell rfl)) rfl ?_))
       refine SW.ai ?_
       refine SA.one 15 rfl (by kernel_rfl) rfl ?_
       refine SW.want rfl rfl ?_
       refine SW.call rfl rfl (dh _ (by omega) _) fun v w5 aj hv => ?_
       subst hv
       (replace hw:=Ext.trans hw aj;replace aB:=aB.ext aj;replace bC:=bC.ext aj;replace hS:=hS.ext aj)
       refine SW.nil (ae.sa aj ?_)
       refine SA.take 16 aG rfl (by kernel_rfl) (by kernel_rfl) rfl ?_
       repeat (first|(show SW _ _ _ _ (⟨_,_,_,_,_,some _⟩::_) _ _;refine SW.bV rfl rfl (by with_reducible rfl) ?_)|(show SW _ _ _ _ (⟨_,Op.binOp _ _ _ _ _,_,_,_,none⟩::_) _ _;refine SW.st (oc rfl rfl (by omega)) rfl ?_))
       refine SW.ai ?_
       refine SA.take 17 aG rfl (by kernel_rfl) (by kernel_rfl) rfl ?_
       repeat (first|(show SW _ _ _ _ (⟨_,_,_,_,_,some _⟩::_) _ _;refine SW.bV rfl rfl (by with_reducible rfl) ?_)|refine SW.pure rfl rfl ?_)
       refine SW.ai ?_
       refine SA.take 18 aG rfl (by kernel_rfl) (by kernel_rfl) rfl ?_
       repeat (refine SW.pure rfl rfl ?_)
       refine SW.ai ?_
       refine SA.take 19 aG rfl (by kernel_rfl) (by kernel_rfl) rfl ?_
       repeat (refine SW.pure rfl rfl ?_)
       refine SW.ai ?_
       refine SA.take 20 aG rfl (by kernel_rfl) (by kernel_rfl) rfl ?_
       repeat (first|(show SW _ _ _ _ (⟨_,_,_,_,_,some _⟩::_) _ _;first|refine SW.bV rfl rfl (by with_reducible rfl) ?_|refine SW.dY rfl rfl rfl (by omega) ?_)|(show SW _ _ _ _ (⟨_,Op.fieldAddr _ _ _,_,_,_,none⟩::_) _ _;refine SW.st (aC rfl) rfl ?_))
       refine SW.ai ?_
       refine SA.take 21 aG rfl (by kernel_rfl) (by kernel_rfl) rfl ?_
       repeat (first|(show SW _ _ _ _ (⟨_,_,_,_,_,some _⟩::_) _ _;refine SW.bV rfl rfl (by with_reducible rfl) ?_)|(show SW _ _ _ _ (⟨_,Op.load _ _,_,_,_,none⟩::_) _ _;refine SW.st (ak rfl (bC.cell rfl)) rfl ?_))
       refine SW.ai ?_
       refine SA.one 22 rfl (by kernel_rfl) rfl ?_
       refine SW.want rfl rfl ?_
       refine SW.call rfl rfl (bK _ _ _ _) fun v w5 aj hv => ?_
       subst hv
       (replace hw:=Ext.trans hw aj;replace aB:=aB.ext aj;replace bC:=bC.ext aj;replace hS:=hS.ext aj)
       refine SW.nil (ae.sa aj ?_)
       refine SA.take 23 aG rfl (by kernel_rfl) (by kernel_rfl) rfl ?_
       repeat (first|(show SW _ _ _ _ (⟨_,_,_,_,_,some _⟩::_) _ _;refine SW.bV rfl rfl (by with_reducible rfl) ?_)|refine SW.pure rfl rfl ?_)
       refine SW.ai ?_
       refine SA.take 24 aG rfl (by kernel_rfl) (by kernel_rfl) rfl ?_
       repeat (refine SW.pure rfl rfl ?_)
       refine SW.ai ?_
       refine SA.take 25 aG rfl (by kernel_rfl) (by kernel_rfl) rfl ?_
       repeat (refine SW.pure rfl rfl ?_)
       refine SW.ai ?_
       refine SA.take 26 aG rfl (by kernel_rfl) (by kernel_rfl) rfl ?_
       repeat (first|(show SW _ _ _ _ (⟨_,_,_,_,_,some _⟩::_) _ _;first|refine SW.bV rfl rfl (by with_reducible rfl) ?_|refine SW.dY rfl rfl rfl (by omega) ?_)|refine SW.pure rfl rfl ?_)
       refine SW.ai ?_
       refine SA.take 27 aG rfl (by kernel_rfl) (by kernel_rfl) rfl ?_
       repeat (first|(show SW _ _ _ _ (⟨_,_,_,_,_,some _⟩::_) _ _;refine SW.bV rfl rfl (by with_reducible rfl) ?_)|refine SW.pure rfl rfl ?_)
       refine SW.ai ?_
       refine SA.take 28 aG rfl (by kernel_rfl) (by kernel_rfl) rfl ?_
       repeat (first|(show SW _ _ _ _ (⟨_,_,_,_,_,some _⟩::_) _ _;refine SW.bV rfl rfl (by with_reducible rfl) ?_)|refine SW.pure rfl rfl ?_)
       refine SW.ai ?_
       refine SA.take 29 aG rfl (by kernel_rfl) (by kernel_rfl) rfl ?_
       repeat (first|(show SW _ _ _ _ (⟨_,_,_,_,_,some _⟩::_) _ _;first|refine SW.gg rfl rfl (by with_reducible rfl) ?_|refine SW.gG rfl rfl (by with_reducible rfl) rfl ?_|refine SW.jx rfl rfl rfl (by omega) ?_|refine SW.jy rfl rfl rfl (by omega) ?_)|(show SW _ _ _ _ (⟨_,Op.fieldAddr _ _ _,_,_,_,none⟩::_) _ _;refine SW.st (aC rfl) rfl ?_))
       refine SW.ai ?_
       refine SA.take 30 aG rfl (by kernel_rfl) (by kernel_rfl) rfl ?_
       repeat (first|(show SW _ _ _ _ (⟨_,_,_,_,_,some _⟩::_) _ _;first|refine SW.gg rfl rfl (by with_reducible rfl) ?_|refine SW.gG rfl rfl (by with_reducible rfl) rfl ?_)|(show SW _ _ _ _ (⟨_,Op.load _ _,_,_,_,none⟩::_) _ _;refine SW.st (ak rfl (aB.cell rfl)) rfl ?_))
       refine SW.ai ?_
       refine SA.take 31 aG rfl (by kernel_rfl) (by kernel_rfl) rfl ?_
       repeat (first|(show SW _ _ _ _ (⟨_,_,_,_,_,some _⟩::_) _ _;first|refine SW.gg rfl rfl (by with_reducible rfl) ?_|refine SW.gG rfl rfl (by with_reducible rfl) rfl ?_)|refine SW.pure rfl rfl ?_)
       refine SW.ai ?_
       refine SA.take 32 aG rfl (by kernel_rfl) (by kernel_rfl) rfl ?_
       repeat (first|(show SW _ _ _ _ (⟨_,_,_,_,_,some _⟩::_) _ _;first|refine SW.gg rfl rfl (by with_reducible rfl) ?_|refine SW.gG rfl rfl (by with_reducible rfl) rfl ?_)|(show SW _ _ _ _ (⟨_,Op.binOp _ _ _ _ _,_,_,_,none⟩::_) _ _;refine SW.st (iI rfl rfl (by omega) (by omega)) rfl ?_))
       refine SW.ai ?_
       refine SA.take 33 aG rfl (by kernel_rfl) (by kernel_rfl) rfl ?_
       repeat (first|(show SW _ _ _ _ (⟨_,_,_,_,_,some _⟩::_) _ _;first|refine SW.gg rfl rfl (by with_reducible rfl) ?_|refine SW.gG rfl rfl (by with_reducible rfl) rfl ?_)|(show SW _ _ _ _ (⟨_,Op.indexAddr _ _ _,_,_,_,none⟩::_) _ _;refine SW.st (aZ (k-1) rfl rfl (by assumption) (by omega) (by omega)) rfl ?_))
       refine SW.ai ?_
       refine SA.take 34 aG rfl (by kernel_rfl) (by kernel_rfl) rfl ?_
       repeat (first|(show SW _ _ _ _ (⟨_,_,_,_,_,some _⟩::_) _ _;first|refine SW.gg rfl rfl (by with_reducible rfl) ?_|refine SW.gG rfl rfl (by with_reducible rfl) rfl ?_)|(show SW _ _ _ _ (⟨_,Op.fieldAddr _ _ _,_,_,_,none⟩::_) _ _;refine SW.st (aC rfl) rfl ?_))
       refine SW.ai ?_
       refine SA.take 35 aG rfl (by kernel_rfl) (by kernel_rfl) rfl ?_
       repeat (first|(show SW _ _ _ _ (⟨_,_,_,_,_,some _⟩::_) _ _;first|refine SW.gg rfl rfl (by with_reducible rfl) ?_|refine SW.gG rfl rfl (by with_reducible rfl) rfl ?_)|(show SW _ _ _ _ (⟨_,Op.load _ _,_,_,_,none⟩::_) _ _;refine SW.st (ao hw rfl uR) rfl ?_))
       refine SW.ai ?_
       refine SA.take 36 aG rfl (by kernel_rfl) (by kernel_rfl) rfl ?_
       repeat (first|(show SW _ _ _ _ (⟨_,_,_,_,_,some _⟩::_) _ _;first|refine SW.gg rfl rfl (by with_reducible rfl) ?_|refine SW.gG rfl rfl (by with_reducible rfl) rfl ?_)|(show SW _ _ _ _ (⟨_,Op.fieldAddr _ _ _,_,_,_,none⟩::_) _ _;refine SW.st (aC rfl) rfl ?_))
       refine SW.ai ?_
       refine SA.take 37 aG rfl (by kernel_rfl) (by kernel_rfl) rfl ?_
       repeat (first|(show SW _ _ _ _ (⟨_,_,_,_,_,some _⟩::_) _ _;first|refine SW.gg rfl rfl (by with_reducible rfl) ?_|refine SW.gG rfl rfl (by with_reducible rfl) rfl ?_)|(show SW _ _ _ _ (⟨_,Op.load _ _,_,_,_,none⟩::_) _ _;refine SW.st (ak rfl (bC.cell rfl)) rfl ?_))
       refine SW.ai ?_
       refine SA.take 38 aG rfl (by kernel_rfl) (by kernel_rfl) rfl ?_
       repeat (first|(show SW _ _ _ _ (⟨_,_,_,_,_,some _⟩::_) _ _;first|refine SW.gg rfl rfl (by with_reducible rfl) ?_|refine SW.gG rfl rfl (by with_reducible rfl) rfl ?_)|refine SW.pure rfl rfl ?_)
       refine SW.ai ?_
       refine SA.take 39 aG rfl (by kernel_rfl) (by kernel_rfl) rfl ?_
       repeat (first|(show SW _ _ _ _ (⟨_,_,_,_,_,some _⟩::_) _ _;refine SW.bV rfl rfl (by with_reducible rfl) ?_)|refine SW.pure rfl rfl ?_)
       refine SW.ai ?_
       refine SA.take 40 aG rfl (by kernel_rfl) (by kernel_rfl) rfl ?_
       repeat (refine SW.pure rfl rfl ?_)
       refine SW.ai ?_
       refine SA.take 41 aG rfl (by kernel_rfl) (by kernel_rfl) rfl ?_
       repeat (refine SW.pure rfl rfl ?_)
       refine SW.ai ?_
       refine SA.take 42 aG rfl (by kernel_rfl) (by kernel_rfl) rfl ?_
       repeat (first|(show SW _ _ _ _ (⟨_,_,_,_,_,some _⟩::_) _ _;first|refine SW.bV rfl rfl (by with_reducible rfl) ?_|refine SW.jy rfl rfl rfl (by omega) ?_)|refine SW.pure rfl rfl ?_)
       refine SW.ai ?_
       refine SA.take 43 aG rfl (by kernel_rfl) (by kernel_rfl) rfl ?_
       repeat (first|(show SW _ _ _ _ (⟨_,_,_,_,_,some _⟩::_) _ _;refine SW.bV rfl rfl (by with_reducible rfl) ?_)|(show SW _ _ _ _ (⟨_,Op.load _ _,_,_,_,none⟩::_) _ _;refine SW.st (aY rfl rfl ((fun _ _=>bC.cell))) rfl ?_))
       refine SW.ai ?_
       refine SA.done (by kernel_rfl) ?_
       repeat' ((show SW _ _ _ _ (⟨_,_,_,_,_,some _⟩::_) _ _;refine SW.bV rfl rfl (by with_reducible rfl) ?_))
       refine SW.yU rfl rfl rfl (sU b3 _ bb w _ hw cr hS hF.2 hF.len IK) fun v w6 hv => ?_
       obtain ⟨De,hK,sM⟩:=hv
       replace hw:=De
       replace aB:=hK.k _ _ _ aB rfl rfl
       rcases sM with ⟨rfl,hf,mG⟩|⟨rfl,hf,mG⟩
       ·rw [List.append_assoc,← B8] at mG
        have Dd:=hF.add IK hf
        rw [List.append_assoc,← B8] at Dd
        repeat' (first|(first|refine CW.region ?_|refine CW.bA rfl ?_|refine CW.skip ?_)|(first|refine ae.seq ?_|refine ae.cV ?_|refine ae.np ?_)|refine SW.nil ?_|(show SW _ _ _ _ (⟨_,_,_,_,_,some _⟩::_) _ _;refine SW.bV rfl rfl (by with_reducible rfl) ?_)|refine SW.pure rfl rfl ?_|(show SW _ _ _ _ (⟨_,Op.binOp _ _ _ _ _,_,_,_,none⟩::_) _ _;refine SW.st (kU rfl rfl (by omega) (by omega)) rfl ?_))
        exact ae.again (k+1) ⟨rfl,rfl,rfl,rfl,trivial⟩ (by omega) ⟨by omega,hw,aB,mG,Dd,Be⟩
       ·repeat' (first|(first|refine CW.seq ?_|refine CW.region ?_|refine CW.bG rfl ?_|refine CW.ret ?_)|(first|refine ae.seq ?_|refine ae.fT ?_|refine ae.iG ?_|refine ae.eX ?_|refine ae.np ?_)|refine SW.nil ?_|(show SW _ _ _ _ (⟨_,_,_,_,_,some _⟩::_) _ _;refine SW.bV rfl rfl (by with_reducible rfl) ?_)|refine SW.pure rfl rfl ?_)
        exact ae.aO rfl rfl ⟨_,rfl,hw,by rw [dQ (ll hf)]⟩
    ·obtain rfl:k=r.Live.n:=by omega
     rw [List.take_of_length_le (by omega)] at hS hF
     have FC:(bj (bj (kh h z0 z1) (aS h.av)) h.Live).isSome=true:=by
      have:=hF.1
      rw [Mg,br,br] at this
      unfold kh
      rw [this]
      rfl
     have NK:bE h:=bE.of me hd C9 hL (hP.ok (by omega) FC) FC
     repeat' (first|(first|refine CW.seq ?_|refine CW.region ?_|refine CW.iF rfl (by omega) ?_|refine CW.ret ?_|refine CW.exit ?_)|(first|refine ae.seq ?_|refine ae.iE ?_|refine ae.hit ?_|refine ae.fw ?_)|refine SW.nil ?_|refine SW.pure rfl rfl ?_|(show SW _ _ _ _ (⟨_,Op.fieldAddr _ _ _,_,_,_,none⟩::_) _ _;refine SW.st (aC rfl) rfl ?_)|(show SW _ _ _ _ (⟨_,Op.call ⟨.builtin .len,_,_⟩,_,_,_,none⟩::_) _ _;refine SW.st (eY rfl) rfl ?_)|(show SW _ _ _ _ (⟨_,Op.load _ _,_,_,_,none⟩::_) _ _;refine SW.st (ak rfl (aB.cell rfl)) rfl ?_))
     exact ae.aO rfl rfl ⟨_,rfl,hw,by rw [o8 NK]⟩
 ·rw [dQ (fun hh=>hd hh.ID)]
  have gU:r.aN.n≠2∨(r.aN.n=2∧(r.bJ.n≠2∨(r.bJ.n=2 ∧ ¬ (1≤r.bX∧r.bX≤4)))):=by unfold oy at hd;omega
  rcases gU with d|⟨d1,d|⟨d2,d⟩⟩
  repeat' (first|(first|refine CW.seq ?_|refine CW.region ?_|refine CW.kT rfl (by with_reducible rfl) ?_|refine CW.ret ?_)|(first|refine ae.seq ?_|refine ae.fT ?_)|refine SW.nil ?_|(show SW _ _ _ _ (⟨_,_,_,_,_,some _⟩::_) _ _;first|refine SW.bV rfl rfl (by with_reducible rfl) ?_|refine SW.kS rfl rfl (by with_reducible rfl) rfl ?_|refine SW.gR rfl rfl rfl (by omega) ?_|refine SW.dY rfl rfl rfl (by omega) ?_)|refine SW.pure rfl rfl ?_|(show SW _ _ _ _ (⟨_,Op.fieldAddr _ _ _,_,_,_,none⟩::_) _ _;refine SW.st (aC rfl) rfl ?_)|(show SW _ _ _ _ (⟨_,Op.call ⟨.builtin .len,_,_⟩,_,_,_,none⟩::_) _ _;refine SW.st (eY rfl) rfl ?_)|(show SW _ _ _ _ (⟨_,Op.load _ _,_,_,_,none⟩::_) _ _;refine SW.st (ak rfl (aB.cell rfl)) rfl ?_)|(show SW _ _ _ _ (⟨_,Op.call ⟨.value (.func _),_,_⟩,_,_,_,none⟩::_) _ _;(refine SW.call rfl rfl (bK _ _ _ _) ?_;intro v w1 ab hv;subst hv;replace hw:=Ext.trans hw ab;replace aB:=aB.ext ab;clear ab)))
  all_goals exact ae.aO rfl rfl ⟨_,rfl,hw,rfl⟩
open Go.RowKit
open Go.RowKit
end Go.Proofs.YtjimadiidbkohaaGreatDoor
