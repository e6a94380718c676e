/-
  Texts of the claim KmemNew, part 16: what its theorem leans on.
-/
import Derived.Test.YtbidkghlpijecaaGreatDoorPackKmemNew10
set_option linter.unusedVariables false
set_option linter.unusedSimpArgs false
namespace Go.Proofs.YtbidkghlpijecaaGreatDoor
open Go.RowKit
def Fine (L:List Block) : Prop:=addAll (some []) L=some L ∧ ∀ y∈L,blkOk 0 256 y
theorem Fine.nil:Fine []:=⟨rfl,fun y h=>by simp at h⟩
theorem Fine.len {L:List Block} (h:Fine L) : L.length≤256:=addAll_256 (fun b hb=>(pw_le (h.2 b hb).1.1 (h.2 b hb).1.2.1).1) h.1
theorem Fine.add {L:List Block} {b:Block} (h:Fine L) (hb:blkOk 0 256 b) (hf:fitsL L b) : Fine (L++[b]):=by
 refine ⟨?_,fun y hy => ?_⟩
 ·rw [addAll_append,h.1]
  show addB (some L) b=_
  simp [addB,hf]
 ·rcases List.mem_append.1 hy with hy|hy
  ·exact h.2 y hy
  ·simp at hy;subst hy;exact hb
theorem Fine.no {L M:List Block} {b:Block} (h:Fine L) (hf : ¬ fitsL L b) : addAll (some []) (L++[b]++M)=none:=by
 rw [addAll_append,addAll_append,h.1]
 have:addAll (some L) [b]=none:=by show addB (some L) b=none;simp [addB,hf]
 rw [this,addAll_none]
theorem blkOk.wide {f t:Int} {b:Block} (h:blkOk f t b) (h0 : 0≤f) (ht:t≤256) : blkOk 0 256 b:=by
 obtain ⟨⟨o1,o2,a1,a2,a3⟩,ty⟩:=h
 exact ⟨⟨o1,o2,by omega,by omega,a3⟩,ty⟩
theorem frees_split {zs:List Zone} {k j:Nat} (hk:k<zs.length) (hj:j<(zs[k]).Free.length) : ∃ M,zs.flatMap Zone.Free=((zs.take k).flatMap Zone.Free++(zs[k]).Free.take j)++[(zs[k]).Free[j]]++M:=by
 refine ⟨(zs[k]).Free.drop (j+1)++(zs.drop (k+1)).flatMap Zone.Free,?_⟩
 have e1:zs=zs.take k++([zs[k]]++zs.drop (k+1)):=by simp
 have e2:(zs[k]).Free=(zs[k]).Free.take j++([(zs[k]).Free[j]]++(zs[k]).Free.drop (j+1)):=by simp
 conv=>lhs;rw [e1,List.flatMap_append,List.flatMap_append]
 simp only [List.flatMap_cons,List.flatMap_nil,List.append_nil]
 conv=>lhs;rw [e2]
 simp only [List.append_assoc]
theorem HeapMay.all {h:Heap} (a:HeapMay h) : (addAll (some []) (h.Zones.flatMap Zone.Free++pagesB h.Lists++h.Live)).isSome=true:=by
 obtain ⟨z0,z1,e,_,_,_,_,_,_,a7⟩:=a.zones
 rw [e]
 simpa using a7
set_option maxHeartbeats 8000000 in
theorem HMay_ans (r:HRow) (h:Heap) (w:World) (hr:RdH w r h) (hs:h.small) (hzn:∀ z∈h.Zones,big64 z) :
 Ans Tryz.prog 114 [.agg (encH r).toArray] w fun v _=>v = .bool (heapB h):=by
 refine ans_of Tryz.func114 rfl Tryz.ntmps114 rfl ?_
 refine CW.seq (CW.region (SW.box rfl rfl fun b1 w1 hw hb1b hb1 => ?_))
 have hcp:=hr.cpus
 have hml:=hr.mins.len
 obtain ⟨zs0,hzs⟩:=hr.zones
 obtain ⟨hzl0,hzl⟩:=hzs.len
 clear hzs hzl0 zs0
 by_cases hd:dimsOk h
 ·obtain ⟨d1,d2,d3⟩:=id hd
  obtain ⟨r0,r1,z0,z1,hr2⟩:=hr.two d1
  obtain ⟨m0,m1,em⟩:=two_of d2
  have hmn:=hr.mins
  rw [em] at hmn
  have hAm:=hr.mins.base
  have hi0 : 0<r.Mins.n:=by omega
  have hi1 : 1<r.Mins.n:=by omega
  have g0:w.cell? ((r.Mins.A.getD default).add (0*1))=some (.int .i64 m0):=hmn.one hi0 rfl
  have g1:w.cell? ((r.Mins.A.getD default).add (1*1))=some (.int .i64 m1):=hmn.one hi1 rfl
  have hze:=hr2.eq
  have hA:=hr2.row.base
  have hb0:=hzn z0 (by rw [hze];simp)
  have hb1':=hzn z1 (by rw [hze];simp)
  have s0:=hs.free z0 (by rw [hze];simp)
  have s1:=hs.free z1 (by rw [hze];simp)
  have eF0:=hr2.z0.from_
  have eT0:=hr2.z0.to_
  have eF1:=hr2.z1.from_
  have eT1:=hr2.z1.to_
  have l0:=hr2.z0.free.len
  have l1:=hr2.z1.free.len
  have t0:=hr2.z0.types.len
  have t1:=hr2.z1.types.len
  unfold big64 at hb0 hb1'
  obtain ⟨q0,hq0⟩ : ∃ q,zoneB z0=q:=⟨_,rfl⟩
  obtain ⟨q1,hq1⟩ : ∃ q,zoneB z1=q:=⟨_,rfl⟩
  have c0:∀ w',Ext w w'→Ans Tryz.prog 195 [.agg (encZ r0).toArray] w' fun v _=>v = .bool q0:=fun w' hx=>by
   have:=ZoneMay_ans r0 z0 w' (hr2.z0.ext hx) (by omega) (by omega) (by omega) (by omega)
   rwa [hq0] at this
  have c1:∀ w',Ext w w'→Ans Tryz.prog 195 [.agg (encZ r1).toArray] w' fun v _=>v = .bool q1:=fun w' hx=>by
   have:=ZoneMay_ans r1 z1 w' (hr2.z1.ext hx) (by omega) (by omega) (by omega) (by omega)
   rwa [hq1] at this
  have hzz:(q0=true∧q1=true)∨(q0=false)∨(q0=true∧q1=false):=by cases q0<;>cases q1<;>simp
  rcases hzz with ⟨rfl,rfl⟩|rfl|⟨rfl,rfl⟩
  repeat' (first|(first|refine CW.seq ?_|refine CW.region ?_|refine CW.condtr rfl (by with_reducible rfl) ?_|refine CW.condt rfl ?_|refine CW.condf rfl ?_|refine CW.skip ?_|refine CW.ret ?_)|(first|refine Post.seq ?_|refine Post.seq_ret ?_)|refine SW.nil ?_|(show SW _ _ _ _ (⟨_,_,_,_,_,some _⟩::_) _ _;first|refine SW.want_f rfl rfl (by with_reducible rfl) ?_|refine SW.splitn_f rfl rfl rfl (by omega) ?_|refine SW.want rfl rfl ?_|refine SW.skip rfl rfl rfl rfl ?_)|refine SW.pure rfl rfl ?_|(show SW _ _ _ _ (⟨_,Op.fieldAddr _ _ _,_,_,_,none⟩::_) _ _;refine SW.st (st_field rfl) rfl ?_)|(show SW _ _ _ _ (⟨_,Op.indexAddr _ _ _,_,_,_,none⟩::_) _ _;first|refine SW.st (st_indexI (0) rfl rfl (by assumption) (by omega) (by omega)) rfl ?_|refine SW.st (st_indexI (1) rfl rfl (by assumption) (by omega) (by omega)) rfl ?_)|(show SW _ _ _ _ (⟨_,Op.call ⟨.builtin .len,_,_⟩,_,_,_,none⟩::_) _ _;refine SW.st (st_len rfl) rfl ?_)|(show SW _ _ _ _ (⟨_,Op.load _ _,_,_,_,none⟩::_) _ _;first|refine SW.st (st_load rfl (hb1.cell rfl)) rfl ?_|refine SW.st (st_loadsx hw rfl rfl ((hr2.c0))) rfl ?_|refine SW.st (st_loadsx hw rfl rfl ((hr2.c1))) rfl ?_)|(show SW _ _ _ _ (⟨_,Op.call ⟨.value (.func _),_,_⟩,_,_,_,none⟩::_) _ _;first|(refine SW.call rfl rfl (c0 _ hw) ?_;intro v w1 hw1 hv;subst hv;replace hw:=Ext.trans hw hw1;replace hb1:=hb1.ext hw1;clear hw1)|(refine SW.call rfl rfl (c1 _ hw) ?_;intro v w1 hw1 hv;subst hv;replace hw:=Ext.trans hw hw1;replace hb1:=hb1.ext hw1;clear hw1)|(refine SW.call rfl rfl (In_ans _ _ _ _) ?_;intro v w1 hw1 hv;subst hv;replace hw:=Ext.trans hw hw1;replace hb1:=hb1.ext hw1;clear hw1)))
  rotate_left
  ·exact Post.ret1 rfl rfl ⟨_,rfl,hw,by rw [heapB_f (fun hh=>by have:=zoneB_iff.2 (hh.front hze).one;rw [hq0] at this;cases this)]⟩
  ·exact Post.ret1 rfl rfl ⟨_,rfl,hw,by rw [heapB_f (fun hh=>by have:=zoneB_iff.2 (hh.front hze).two;rw [hq1] at this;cases this)]⟩
  clear c0 c1
  have hz0:=zoneB_iff.1 hq0
  have hz1:=zoneB_iff.1 hq1
  have hcs:(r0.From=0∧r1.From=r0.To∧r1.To=256∧(0≤m0∧m0≤256)∧(0≤m1∧m1≤256))∨r0.From≠0∨(r0.From=0∧r1.From≠r0.To)∨(r0.From=0∧r1.From=r0.To∧r1.To≠256)∨(r0.From=0∧r1.From=r0.To∧r1.To=256 ∧ ¬ (0≤m0∧m0≤256))∨(r0.From=0∧r1.From=r0.To∧r1.To=256∧(0≤m0∧m0≤256) ∧ ¬ (0≤m1∧m1≤256)):=by omega
  have hfm:HeapMay h→(0≤m0∧m0≤256)∧(0≤m1∧m1≤256):=fun hh=>by
   have:=(hh.front hze).mins
   rw [em] at this
   simp [outM] at this
   omega
  rcases hcs with ⟨d1,d2,d3,d4,d5⟩|d|⟨d1,d⟩|⟨d1,d2,d⟩|⟨d1,d2,d3,d⟩|⟨d1,d2,d3,d4,d⟩
  repeat' (first|(first|refine CW.seq ?_|refine CW.region ?_|refine CW.condtr rfl (by with_reducible rfl) ?_|refine CW.condn_t rfl (by omega) ?_|refine CW.condn_f rfl (by omega) ?_|refine CW.skip ?_|refine CW.ret ?_|(apply CW.quiet1 mixed;(· kernel_rfl);rotate_left;intro w1 hw1;replace hw:=Ext.trans hw hw1;replace hb1:=hb1.ext hw1;clear hw1;rotate_right))|(first|refine Post.seq ?_|refine Post.seq_ret ?_)|refine SW.nil ?_|(show SW _ _ _ _ (⟨_,_,_,_,_,some _⟩::_) _ _;first|refine SW.want_f rfl rfl (by with_reducible rfl) ?_|refine SW.skip_f rfl rfl (by with_reducible rfl) rfl ?_|refine SW.splitn_t rfl rfl rfl (by omega) ?_|refine SW.splitn_f rfl rfl rfl (by omega) ?_)|refine SW.pure rfl rfl ?_|(show SW _ _ _ _ (⟨_,Op.fieldAddr _ _ _,_,_,_,none⟩::_) _ _;refine SW.st (st_field rfl) rfl ?_)|(show SW _ _ _ _ (⟨_,Op.indexAddr _ _ _,_,_,_,none⟩::_) _ _;first|refine SW.st (st_indexN rfl rfl (by assumption) (by omega)) rfl ?_|refine SW.st (st_indexI (0) rfl rfl (by assumption) (by omega) (by omega)) rfl ?_|refine SW.st (st_indexI (1) rfl rfl (by assumption) (by omega) (by omega)) rfl ?_)|(show SW _ _ _ _ (⟨_,Op.load _ _,_,_,_,none⟩::_) _ _;first|refine SW.st (st_load rfl (hb1.cell rfl)) rfl ?_|refine SW.st (st_loadx hw rfl (hr2.c0 0 _ rfl)) rfl ?_|refine SW.st (st_loadx hw rfl (hr2.c0 1 _ rfl)) rfl ?_|refine SW.st (st_loadx hw rfl (hr2.c1 0 _ rfl)) rfl ?_|refine SW.st (st_loadx hw rfl (hr2.c1 1 _ rfl)) rfl ?_|refine SW.st (st_loadx hw rfl g0) rfl ?_|refine SW.st (st_loadx hw rfl g1) rfl ?_)|(show SW _ _ _ _ (⟨_,Op.call ⟨.value (.func _),_,_⟩,_,_,_,none⟩::_) _ _;refine SW.qcall rfl rfl (fun w1 hw1=>(In_ans _ _ _ _)) ?_)|exact SW.qnil rfl)
  rotate_left
  iterate 5 exact Post.ret1 rfl rfl ⟨_,rfl,hw,by rw [heapB_f (fun hh=>by have h1:=(hh.front hze).from_;have h2:=(hh.front hze).mid;have h3:=(hh.front hze).to_;have h4:=hfm hh;omega)]⟩
  clear hfm g0 g1 hmn
  have hzo0 : 0≤z0.From∧z0.From≤z0.To∧z0.To≤256:=⟨hz0.ok.1,hz0.ok.2.1,hz0.ok.2.2.1⟩
  have hfr:FrontOk h z0 z1:=⟨hz0,hz1,by omega,by omega,by omega,by rw [em];simp [outM];omega⟩
  have hn:=hr2.n
  have hzm:∀ z∈h.Zones,∀ b∈z.Free,blkOk 0 256 b:=fun z hz b hb=>by
   obtain ⟨i,hi,rfl⟩:=List.getElem_of_mem hb
   rw [hze] at hz
   simp only [List.mem_cons,List.not_mem_nil,or_false] at hz
   rcases hz with rfl|rfl
   ·exact (hz0.blk i hi).wide hz0.ok.1 hz0.ok.2.2.1
   ·exact (hz1.blk i hi).wide hz1.ok.1 hz1.ok.2.2.1
  refine SW.alloc rfl fun b3 w2 hw2 hb3b hb3 => ?_
  have hb3w:w.heap.size≤b3:=Nat.le_trans hw.size hb3b
  (replace hw:=Ext.trans hw hw2;replace hb1:=hb1.ext hw2)
  have hS:AllS w2 w.heap.size b3 []:=⟨none,0,hb3,Own.nil_ _ _ _ _ _ _⟩
  clear hb3
  repeat' (first|(first|refine CW.seq ?_|refine CW.region ?_|refine CW.block ?_)|(refine Post.seq ?_)|refine SW.nil ?_|refine SW.pure rfl rfl ?_|(refine SW.st (st_func (vs:=[.pointer (some ⟨b3,0,none⟩)]) rfl) rfl ?_))
  refine CW.loop (fun k:Nat=>[(1,.pointer (some ⟨b1,0,none⟩)),(3,.pointer (some ⟨b3,0,none⟩)),(4,.func (.func 196) #[] ([.pointer (some ⟨b3,0,none⟩)] : List Value).toArray),(5,.int .i64 (k:Int))])
   (fun k w'=>k≤2∧Ext w w'∧Blk w' b1 41 (encH r)∧AllS w' w.heap.size b3 ((h.Zones.take k).flatMap Zone.Free)∧Fine ((h.Zones.take k).flatMap Zone.Free)) (fun k=>2-k) 0
   ⟨rfl,rfl,rfl,rfl,trivial⟩ ⟨by omega,hw,hb1,hS,Fine.nil⟩ ?_
  clear hw hb1 hS hw2
  rintro k w' ⟨hk,hw,hb1,hS,hF⟩
  by_cases hk2:k<2
  ·have hkz:k<h.Zones.length:=by omega
   have hrow:=hr2.row.all (i:=k) (by omega)
   have hrz:RdZ w ([r0,r1][k]'(by simpa using hk2)) h.Zones[k]:=by
    simp only [hze]
    have:k=0∨k=1:=by omega
    rcases this with rfl|rfl
    ·exact hr2.z0
    ·exact hr2.z1
   generalize hrk:([r0,r1][k]'(by simpa using hk2))=rk at hrow hrz
   have hfk:=hzm h.Zones[k] (List.getElem_mem _)
   have hsk:=hs.free h.Zones[k] (List.getElem_mem _)
   have htk:(h.Zones.take (k+1)).flatMap Zone.Free=(h.Zones.take k).flatMap Zone.Free++h.Zones[k].Free:=by
    rw [List.take_succ_eq_append_getElem hkz,List.flatMap_append];simp
   have hno:∀ (j:Nat) (hj:j<h.Zones[k].Free.length),Fine ((h.Zones.take k).flatMap Zone.Free++h.Zones[k].Free.take j) → ¬ fitsL ((h.Zones.take k).flatMap Zone.Free++h.Zones[k].Free.take j) h.Zones[k].Free[j] → ¬ HeapMay h:=fun j hj hf hx hh=>by
    obtain ⟨M,hM⟩:=frees_split hkz hj
    have:=hh.all
    have e:=hf.no hx (M:=M++pagesB h.Lists++h.Live)
    rw [hM] at this
    simp only [List.append_assoc] at this e
    rw [e] at this
    cases this
   generalize h.Zones[k]=zk at hrz hfk hsk htk hno
   have hAk:=hrz.free.base
   have hlk:=hrz.free.len
   repeat' (first|(first|refine CW.seq ?_|refine CW.region ?_|refine CW.block ?_|refine CW.condd_t rfl (by omega) ?_|refine CW.skip ?_)|(refine Post.seq ?_)|refine SW.nil ?_|refine SW.pure rfl rfl ?_)
   refine CW.loop (fun j:Nat=>[(1,.pointer (some ⟨b1,0,none⟩)),(3,.pointer (some ⟨b3,0,none⟩)),(4,.func (.func 196) #[] ([.pointer (some ⟨b3,0,none⟩)] : List Value).toArray),(5,.int .i64 (k:Int)),(6,.int .i64 (j:Int))])
    (fun j w'=>j≤rk.Free.n∧Ext w w'∧Blk w' b1 41 (encH r)∧AllS w' w.heap.size b3 ((h.Zones.take k).flatMap Zone.Free++zk.Free.take j)∧Fine ((h.Zones.take k).flatMap Zone.Free++zk.Free.take j)) (fun j=>rk.Free.n-j) 0
    ⟨rfl,rfl,rfl,rfl,rfl,trivial⟩ ⟨by omega,hw,hb1,by simpa using hS,by simpa using hF⟩ ?_
   clear hw hb1 hS hF
   rintro j w' ⟨hj,hw,hb1,hS,hF⟩
   by_cases hjn:j<rk.Free.n
   ·have hjl:j<zk.Free.length:=by omega
    have hbj:=hfk zk.Free[j] (List.getElem_mem _)
    have htj:zk.Free.take (j+1)=zk.Free.take j++[zk.Free[j]]:=List.take_succ_eq_append_getElem hjl
    repeat' (first|(first|refine CW.seq ?_|refine CW.region ?_|refine CW.block ?_|refine CW.condd_t rfl (by omega) ?_|refine CW.skip ?_)|(refine Post.seq ?_)|refine SW.nil ?_|refine SW.pure rfl rfl ?_|(show SW _ _ _ _ (⟨_,Op.fieldAddr _ _ _,_,_,_,none⟩::_) _ _;refine SW.st (st_field rfl) rfl ?_)|(show SW _ _ _ _ (⟨_,Op.indexAddr _ _ _,_,_,_,none⟩::_) _ _;refine SW.st (st_indexN rfl rfl (by assumption) (by omega)) rfl ?_)|(show SW _ _ _ _ (⟨_,Op.call ⟨.builtin .len,_,_⟩,_,_,_,none⟩::_) _ _;refine SW.st (st_len rfl) rfl ?_)|(show SW _ _ _ _ (⟨_,Op.load _ _,_,_,_,none⟩::_) _ _;first|refine SW.st (st_load rfl (hb1.cell rfl)) rfl ?_|refine SW.st (st_loadx hw rfl (hrow 2 _ rfl)) rfl ?_|refine SW.st (st_loadsx hw rfl rfl ((hrz.free.all hjn))) rfl ?_))
    refine SW.callvX rfl rfl rfl (addC_ans b3 _ zk.Free[j] w _ hw hb3w hS hF.2 hF.len hbj) fun v w5 hv => ?_
    obtain ⟨hw5,hK,hres⟩:=hv
    replace hw:=hw5
    replace hb1:=hK.k _ _ _ hb1 rfl rfl
    rcases hres with ⟨rfl,hf,hS'⟩|⟨rfl,hf,hS'⟩
    ·rw [List.append_assoc,← htj] at hS'
     have hF':=hF.add hbj hf
     rw [List.append_assoc,← htj] at hF'
     repeat' (first|(first|refine CW.region ?_|refine CW.condf rfl ?_|refine CW.skip ?_)|(first|refine Post.seq ?_|refine Post.blk ?_)|refine SW.nil ?_|refine SW.pure rfl rfl ?_|(show SW _ _ _ _ (⟨_,Op.binOp _ _ _ _ _,_,_,_,none⟩::_) _ _;refine SW.st (st_add rfl rfl (by omega) (by omega)) rfl ?_))
     exact Post.again (j+1) ⟨rfl,rfl,rfl,rfl,rfl,trivial⟩ (by omega) ⟨by omega,hw,hb1,hS',hF'⟩
    ·repeat' (first|(first|refine CW.seq ?_|refine CW.region ?_|refine CW.condt rfl ?_|refine CW.ret ?_)|(first|refine Post.seq ?_|refine Post.seq_ret ?_|refine Post.blk_ret ?_|refine Post.again_ret ?_)|refine SW.nil ?_|refine SW.pure rfl rfl ?_)
     exact Post.ret1 rfl rfl ⟨_,rfl,hw,by rw [heapB_f (hno j hjl hF hf)]⟩
   ·obtain rfl:j=rk.Free.n:=by omega
    rw [List.take_of_length_le (l:=zk.Free) (by omega),← htk] at hS hF
    repeat' (first|(first|refine CW.seq ?_|refine CW.region ?_|refine CW.condd_f rfl (by omega) ?_|refine CW.exit ?_)|(first|refine Post.seq ?_|refine Post.seq_exit ?_|refine Post.hit ?_|refine Post.blk ?_|refine Post.again_exit ?_)|refine SW.nil ?_|refine SW.pure rfl rfl ?_|(show SW _ _ _ _ (⟨_,Op.fieldAddr _ _ _,_,_,_,none⟩::_) _ _;refine SW.st (st_field rfl) rfl ?_)|(show SW _ _ _ _ (⟨_,Op.binOp _ _ _ _ _,_,_,_,none⟩::_) _ _;refine SW.st (st_add rfl rfl (by omega) (by omega)) rfl ?_)|(show SW _ _ _ _ (⟨_,Op.indexAddr _ _ _,_,_,_,none⟩::_) _ _;refine SW.st (st_indexN rfl rfl (by assumption) (by omega)) rfl ?_)|(show SW _ _ _ _ (⟨_,Op.call ⟨.builtin .len,_,_⟩,_,_,_,none⟩::_) _ _;refine SW.st (st_len rfl) rfl ?_)|(show SW _ _ _ _ (⟨_,Op.load _ _,_,_,_,none⟩::_) _ _;first|refine SW.st (st_load rfl (hb1.cell rfl)) rfl ?_|refine SW.st (st_loadx hw rfl (hrow 2 _ rfl)) rfl ?_))
    exact Post.again (k+1) ⟨rfl,rfl,rfl,rfl,trivial⟩ (by omega) ⟨by omega,hw,hb1,hS,hF⟩
  ·obtain rfl:k=2:=by omega
   rw [List.take_of_length_le (by omega)] at hS hF
   have hev:=fun hh:HeapMay h=>hh.all
   have hFz:h.Zones.flatMap Zone.Free=z0.Free++z1.Free:=by rw [hze];simp
   generalize h.Zones.flatMap Zone.Free=F at hS hF hev hFz
   have hF0:=hF.1
   obtain ⟨ls,hl⟩:=hr.lists
   obtain ⟨hl1,hl2⟩:=hl.len
   have hAl:=hl.row.base
   have hsl:=hs.lists
   repeat' (first|(first|refine CW.seq ?_|refine CW.region ?_|refine CW.block ?_|refine CW.condd_f rfl (by omega) ?_|refine CW.exit ?_)|(first|refine Post.seq ?_|refine Post.seq_exit ?_|refine Post.hit ?_|refine Post.again_exit ?_)|refine SW.nil ?_|refine SW.pure rfl rfl ?_)
   refine CW.loop (fun k:Nat=>[(1,.pointer (some ⟨b1,0,none⟩)),(3,.pointer (some ⟨b3,0,none⟩)),(4,.func (.func 196) #[] ([.pointer (some ⟨b3,0,none⟩)] : List Value).toArray),(7,.int .i64 (k:Int))])
    (fun k w'=>k≤r.Lists.n∧Ext w w'∧Blk w' b1 41 (encH r)∧AllS w' w.heap.size b3 (F++pagesB (h.Lists.take k))∧Fine (F++pagesB (h.Lists.take k))∧LPre h.Cpus z0.To h.Lists k) (fun k=>r.Lists.n-k) 0
    ⟨rfl,rfl,rfl,rfl,trivial⟩ ⟨by omega,hw,hb1,by simpa [pagesB] using hS,by simpa [pagesB] using hF,.nil _ _ _⟩ ?_
   clear hw hb1 hS hF
   rintro k w' ⟨hk,hw,hb1,hS,hF,hP⟩
   by_cases hkn:k<r.Lists.n
   ·have hkl:k<ls.length:=by omega
    have hkh:k<h.Lists.length:=by omega
    have hrl:=hl.each.get k hkl hkh
    have hlc:=hrl.cpu
    have hlz:=hrl.zone
    have hlt:=hrl.ty
    have hln:=hrl.pages.len
    have hAp:=hrl.pages.base
    have hpg:=hrl.pages
    have hrow:=hl.row.all hkn
    have hrow':=hl.row.all (i:=k-1) (show k-1<r.Lists.n by omega)
    repeat' (first|(first|refine CW.seq ?_|refine CW.region ?_|refine CW.block ?_|refine CW.condd_t rfl (by omega) ?_|refine CW.skip ?_)|(refine Post.seq ?_)|refine SW.nil ?_|refine SW.pure rfl rfl ?_|(show SW _ _ _ _ (⟨_,Op.fieldAddr _ _ _,_,_,_,none⟩::_) _ _;refine SW.st (st_field rfl) rfl ?_)|(show SW _ _ _ _ (⟨_,Op.indexAddr _ _ _,_,_,_,none⟩::_) _ _;refine SW.st (st_indexN rfl rfl (by assumption) (by omega)) rfl ?_)|(show SW _ _ _ _ (⟨_,Op.call ⟨.builtin .len,_,_⟩,_,_,_,none⟩::_) _ _;refine SW.st (st_len rfl) rfl ?_)|(show SW _ _ _ _ (⟨_,Op.load _ _,_,_,_,none⟩::_) _ _;first|refine SW.st (st_load rfl (hb1.cell rfl)) rfl ?_|refine SW.st (st_loadsx hw rfl rfl ((hrow))) rfl ?_))
    refine SW.alloc rfl fun b8 w1 hw1 hb8b hb8 => ?_
    skip
    refine SW.storeAgg hb8 rfl rfl rfl rfl (Enc.one (enc:=encL) _) fun w2 hb8' hg => ?_
    have hXX:=hw1.own hb8b hg
    have hb8w:w.heap.size≤b8:=Nat.le_trans hw.size hb8b
    replace hw:=Ext.trans hw hXX
    replace hb1:=hb1.ext hXX
    replace hS:=hS.ext hXX
    replace hb8:=hb8'
    clear hb8' hw1 hg hXX
    repeat' (first|(refine CW.seq ?_)|(refine Post.seq ?_)|refine SW.nil ?_)
    by_cases hhd:headOk r.Cpus h.Lists[k]
    ·obtain ⟨e1,e2,e3,e4⟩:=id hhd
     obtain ⟨q,hq⟩ : ∃ q,decide (aheadL (h.Lists[k-1]'(by omega)) h.Lists[k])=q:=⟨_,rfl⟩
     have hrl1:=hl.each.get (k-1) (by omega) (by omega)
     have cL:∀ w',Ans Tryz.prog 198 [.agg (encL (ls[k-1]'(by omega))).toArray,.agg (encL ls[k]).toArray] w' fun v _=>v = .bool q:=fun w'=>by
      have:=aheadL_ans (ls[k-1]'(by omega)) ls[k] (h.Lists[k-1]'(by omega)) h.Lists[k] w' ⟨hrl1.cpu,hrl1.zone,hrl1.ty⟩ ⟨hlc,hlz,hlt⟩
      rwa [hq] at this
     have hcase:(0<k∧q=false)∨(0<k∧q=true)∨k=0:=by cases q<;>simp<;>omega
     rcases hcase with ⟨hk0,rfl⟩|⟨hk0,rfl⟩|hk0
     repeat' (first|(first|refine CW.seq ?_|refine CW.region ?_|refine CW.block ?_|refine CW.condfr rfl (by with_reducible rfl) ?_|refine CW.condd_f rfl (by omega) ?_|refine CW.condn_t rfl (by omega) ?_|refine CW.skip ?_|refine CW.ret ?_|(apply CW.quiet1 mixed;(· kernel_rfl);rotate_left;intro w1 hw1;replace hw:=Ext.trans hw hw1;replace hb1:=hb1.ext hw1;replace hb8:=hb8.ext hw1;replace hS:=hS.ext hw1;clear hw1;rotate_right))|(first|refine Post.seq ?_|refine Post.seq_ret ?_|refine Post.blk_ret ?_|refine Post.again_ret ?_)|refine SW.nil ?_|(show SW _ _ _ _ (⟨_,_,_,_,_,some _⟩::_) _ _;first|refine SW.want_t rfl rfl (by with_reducible rfl) ?_|refine SW.want_f rfl rfl (by with_reducible rfl) ?_|refine SW.skip_t rfl rfl (by with_reducible rfl) rfl ?_|refine SW.splitd_t rfl rfl rfl (by omega) ?_|refine SW.splitd_f rfl rfl rfl (by omega) ?_|refine SW.splitn_f rfl rfl rfl (by omega) ?_)|refine SW.pure rfl rfl ?_|(show SW _ _ _ _ (⟨_,Op.fieldAddr _ _ _,_,_,_,none⟩::_) _ _;refine SW.st (st_field rfl) rfl ?_)|(show SW _ _ _ _ (⟨_,Op.binOp _ _ _ _ _,_,_,_,none⟩::_) _ _;refine SW.st (st_sub rfl rfl (by omega) (by omega)) rfl ?_)|(show SW _ _ _ _ (⟨_,Op.indexAddr _ _ _,_,_,_,none⟩::_) _ _;refine SW.st (st_indexI (k-1) rfl rfl (by assumption) (by omega) (by omega)) rfl ?_)|(show SW _ _ _ _ (⟨_,Op.call ⟨.builtin .len,_,_⟩,_,_,_,none⟩::_) _ _;refine SW.st (st_len rfl) rfl ?_)|(show SW _ _ _ _ (⟨_,Op.load _ _,_,_,_,none⟩::_) _ _;first|refine SW.st (st_load rfl (hb8.cell rfl)) rfl ?_|refine SW.st (st_load rfl (hb1.cell rfl)) rfl ?_|refine SW.st (st_loadsx hw rfl rfl ((hrow'))) rfl ?_|refine SW.st (st_loads rfl rfl ((fun _ _=>hb8.cell))) rfl ?_)|(show SW _ _ _ _ (⟨_,Op.call ⟨.value (.func _),_,_⟩,_,_,_,none⟩::_) _ _;first|refine SW.qcall rfl rfl (fun w1 hw1=>(cL _)) ?_|refine SW.qcall rfl rfl (fun w1 hw1=>(In_ans _ _ _ _)) ?_)|exact SW.qnil rfl)
     ·exact Post.ret1 rfl rfl ⟨_,rfl,hw,by rw [heapB_f (fun hh=>by
       have:=(hh.rest hze).1.next (k-1) (by omega)
       simp only [show k-1+1=k by omega] at this
       exact of_decide_eq_false hq this)]⟩
     all_goals
      have hah:∀ (h0 : 0<k),aheadL (h.Lists[k-1]'(by omega)) h.Lists[k]:=fun h0=>by first|exact of_decide_eq_true hq|omega
      clear cL hq hrow hrow'
      have hnone:∀ (j:Nat) (hj:j<h.Lists[k].Pages.length),Fine (F++pagesB (h.Lists.take k)++(h.Lists[k].Pages.take j).map pageB) → ¬ fitsL (F++pagesB (h.Lists.take k)++(h.Lists[k].Pages.take j).map pageB) (pageB h.Lists[k].Pages[j]) → ¬ HeapMay h:=fun j hj hf hx hh=>by
       have:=addAll_some_of (hev hh)
       have e:=hf.no hx (M:=[])
       have e2:addAll (addAll (some F) (pagesB (h.Lists.take k))) ((h.Lists[k].Pages.take (j+1)).map pageB)=none:=by
        have e0:addAll (some []) F=some F:=by
         have h1:=hF0
         exact h1
        rw [List.take_succ_eq_append_getElem hj,List.map_append,← e0,← addAll_append,← addAll_append]
        simpa using e
       have e3:=pagesB_none hkh (by omega) e2
       rw [addAll_append,hF0,e3] at this
       cases this
      refine CW.loop (fun j:Nat=>[(1,.pointer (some ⟨b1,0,none⟩)),(3,.pointer (some ⟨b3,0,none⟩)),(4,.func (.func 196) #[] ([.pointer (some ⟨b3,0,none⟩)] : List Value).toArray),(7,.int .i64 (k:Int)),(8,.pointer (some ⟨b8,0,none⟩)),(9,.int .i64 (j:Int))])
       (fun j w'=>j≤ls[k].Pages.n∧Ext w w'∧Blk w' b1 41 (encH r)∧Blk w' b8 142 (encL ls[k])∧AllS w' w.heap.size b3 (F++pagesB (h.Lists.take k)++(h.Lists[k].Pages.take j).map pageB)∧Fine (F++pagesB (h.Lists.take k)++(h.Lists[k].Pages.take j).map pageB) ∧ ∀ (i:Nat) (hi:i<h.Lists[k].Pages.length),i<j→(h.Lists[k].Pages[i]<z0.To↔h.Lists[k].Zone=0)) (fun j=>ls[k].Pages.n-j) 0
       ⟨rfl,rfl,rfl,rfl,rfl,rfl,trivial⟩ ⟨by omega,hw,hb1,hb8,by simpa using hS,by simpa using hF,fun i _ h=>by omega⟩ ?_
      clear hw hb1 hb8 hS hF hb8b hb8w
      rintro j w' ⟨hj,hw,hb1,hb8,hS,hF,hZ⟩
      by_cases hjn:j<ls[k].Pages.n
      ·have hjl:j<h.Lists[k].Pages.length:=by omega
       have hno:=hnone j hjl hF
       have htj:(h.Lists[k].Pages.take (j+1)).map pageB=(h.Lists[k].Pages.take j).map pageB++[pageB h.Lists[k].Pages[j]]:=by rw [List.take_succ_eq_append_getElem hjl,List.map_append];rfl
       have hpc:=hpg.one hjn rfl
       have hmay:HeapMay h→(h.Lists[k].Pages[j]<z0.To↔h.Lists[k].Zone=0)∧0≤h.Lists[k].Pages[j]∧h.Lists[k].Pages[j]<256:=fun hh=>by
        refine ⟨(hh.rest hze).1.zone k hkh _ (List.getElem_mem _),?_⟩
        have h1:=addAll_some_of (hev hh)
        have h2:=addAll_fits h1 (pageB h.Lists[k].Pages[j]) (List.mem_append_right _ (List.mem_flatMap.2 ⟨h.Lists[k],List.getElem_mem _,List.mem_map.2 ⟨_,List.getElem_mem _,rfl⟩⟩))
        simp only [pageB,pw_zero] at h2
        omega
       generalize hp:h.Lists[k].Pages[j]=p at hno htj hpc hmay
       have hcs:((ls[k].Zone=0 ∧ ¬ (r0.From≤p∧p≤r0.To-1))∨(ls[k].Zone=1 ∧ ¬ (r1.From≤p∧p≤r1.To-1)))∨((ls[k].Zone=0∧(r0.From≤p∧p≤r0.To-1))∨(ls[k].Zone=1∧(r1.From≤p∧p≤r1.To-1))):=by omega
       rcases hcs with hcs|hcs
       ·have hnm : ¬ HeapMay h:=fun hh=>by
         have:=hmay hh
         omega
        rw [heapB_f hnm]
        rcases hcs with ⟨a,d⟩|⟨a,d⟩
        repeat' (first|(first|refine CW.seq ?_|refine CW.region ?_|refine CW.block ?_|refine CW.condtr rfl (by with_reducible rfl) ?_|refine CW.condd_t rfl (by omega) ?_|refine CW.skip ?_|refine CW.ret ?_|(apply CW.quiet1 mixed;(· kernel_rfl);rotate_left;intro w1 hw1;replace hw:=Ext.trans hw hw1;replace hb1:=hb1.ext hw1;replace hb8:=hb8.ext hw1;replace hS:=hS.ext hw1;clear hw1;rotate_right))|(first|refine Post.seq ?_|refine Post.seq_ret ?_|refine Post.blk_ret ?_|refine Post.again_ret ?_)|refine SW.nil ?_|(show SW _ _ _ _ (⟨_,_,_,_,_,some _⟩::_) _ _;first|refine SW.skip_f rfl rfl (by with_reducible rfl) rfl ?_|refine SW.splitn_t rfl rfl rfl (by omega) ?_)|refine SW.pure rfl rfl ?_|(show SW _ _ _ _ (⟨_,Op.fieldAddr _ _ _,_,_,_,none⟩::_) _ _;refine SW.st (st_field rfl) rfl ?_)|(show SW _ _ _ _ (⟨_,Op.binOp _ _ _ _ _,_,_,_,none⟩::_) _ _;refine SW.st (st_sub rfl rfl (by omega) (by omega)) rfl ?_)|(show SW _ _ _ _ (⟨_,Op.indexAddr _ _ _,_,_,_,none⟩::_) _ _;first|refine SW.st (st_indexN rfl rfl (by assumption) (by omega)) rfl ?_|refine SW.st (st_indexI (0) rfl rfl (by assumption) (by omega) (by omega)) rfl ?_|refine SW.st (st_indexI (1) rfl rfl (by assumption) (by omega) (by omega)) rfl ?_)|(show SW _ _ _ _ (⟨_,Op.call ⟨.builtin .len,_,_⟩,_,_,_,none⟩::_) _ _;refine SW.st (st_len rfl) rfl ?_)|(show SW _ _ _ _ (⟨_,Op.load _ _,_,_,_,none⟩::_) _ _;first|refine SW.st (st_load rfl (hb8.cell rfl)) rfl ?_|refine SW.st (st_load rfl (hb1.cell rfl)) rfl ?_|refine SW.st (st_loadx hw rfl (hr2.c0 0 _ rfl)) rfl ?_|refine SW.st (st_loadx hw rfl (hr2.c0 1 _ rfl)) rfl ?_|refine SW.st (st_loadx hw rfl (hr2.c1 0 _ rfl)) rfl ?_|refine SW.st (st_loadx hw rfl (hr2.c1 1 _ rfl)) rfl ?_|refine SW.st (st_loadx hw rfl hpc) rfl ?_)|(show SW _ _ _ _ (⟨_,Op.call ⟨.value (.func _),_,_⟩,_,_,_,none⟩::_) _ _;refine SW.qcall rfl rfl (fun w1 hw1=>(In_ans _ _ _ _)) ?_)|exact SW.qnil rfl)
        all_goals exact Post.ret1 rfl rfl ⟨_,rfl,hw,rfl⟩
       ·have hpp:(p<z0.To↔h.Lists[k].Zone=0)∧blkOk 0 256 (pageB p):=by
         simp only [blkOk,fitsZ,pageB,pw_zero,tyOk]
         omega
        obtain ⟨hpz,hbp⟩:=hpp
        rcases hcs with ⟨a,d⟩|⟨a,d⟩
        all_goals
         repeat' (first|(first|refine CW.seq ?_|refine CW.region ?_|refine CW.block ?_|refine CW.condd_t rfl (by omega) ?_|refine CW.skip ?_)|(refine Post.seq ?_)|refine SW.nil ?_|refine SW.pure rfl rfl ?_|(show SW _ _ _ _ (⟨_,Op.fieldAddr _ _ _,_,_,_,none⟩::_) _ _;refine SW.st (st_field rfl) rfl ?_)|(show SW _ _ _ _ (⟨_,Op.call ⟨.builtin .len,_,_⟩,_,_,_,none⟩::_) _ _;refine SW.st (st_len rfl) rfl ?_)|(show SW _ _ _ _ (⟨_,Op.load _ _,_,_,_,none⟩::_) _ _;refine SW.st (st_load rfl (hb8.cell rfl)) rfl ?_))
         refine CW.any 30 mixed (rb_tail (by kernel_rfl)) rfl fun w1 hw1 hRB => ?_
         replace hw:=Ext.trans hw hw1;replace hb1:=hb1.ext hw1;replace hb8:=hb8.ext hw1;replace hS:=hS.ext hw1;clear hw1
         refine SA.take 0 hRB rfl (by kernel_rfl) (by kernel_rfl) rfl ?_
         repeat ((show SW _ _ _ _ (⟨_,Op.fieldAddr _ _ _,_,_,_,none⟩::_) _ _;refine SW.st (st_field rfl) rfl ?_))
         refine SW.tknil ?_
         refine SA.take 1 hRB rfl (by kernel_rfl) (by kernel_rfl) rfl ?_
         repeat ((show SW _ _ _ _ (⟨_,Op.load _ _,_,_,_,none⟩::_) _ _;refine SW.st (st_load rfl (hb8.cell rfl)) rfl ?_))
         refine SW.tknil ?_
         refine SA.take 2 hRB rfl (by kernel_rfl) (by kernel_rfl) rfl ?_
         repeat (refine SW.pure rfl rfl ?_)
         refine SW.tknil ?_
         refine SA.take 3 hRB rfl (by kernel_rfl) (by kernel_rfl) rfl ?_
         repeat ((show SW _ _ _ _ (⟨_,Op.indexAddr _ _ _,_,_,_,none⟩::_) _ _;refine SW.st (st_indexN rfl rfl (by assumption) (by omega)) rfl ?_))
         refine SW.tknil ?_
         refine SA.take 4 hRB rfl (by kernel_rfl) (by kernel_rfl) rfl ?_
         repeat ((show SW _ _ _ _ (⟨_,Op.load _ _,_,_,_,none⟩::_) _ _;refine SW.st (st_loadx hw rfl hpc) rfl ?_))
         refine SW.tknil ?_
         refine SA.take 5 hRB rfl (by kernel_rfl) (by kernel_rfl) rfl ?_
         repeat ((show SW _ _ _ _ (⟨_,Op.fieldAddr _ _ _,_,_,_,none⟩::_) _ _;refine SW.st (st_field rfl) rfl ?_))
         refine SW.tknil ?_
         refine SA.take 6 hRB rfl (by kernel_rfl) (by kernel_rfl) rfl ?_
         repeat ((show SW _ _ _ _ (⟨_,Op.load _ _,_,_,_,none⟩::_) _ _;refine SW.st (st_load rfl (hb1.cell rfl)) rfl ?_))
         refine SW.tknil ?_
         refine SA.take 7 hRB rfl (by kernel_rfl) (by kernel_rfl) rfl ?_
         repeat ((show SW _ _ _ _ (⟨_,Op.fieldAddr _ _ _,_,_,_,none⟩::_) _ _;refine SW.st (st_field rfl) rfl ?_))
         refine SW.tknil ?_
         refine SA.take 8 hRB rfl (by kernel_rfl) (by kernel_rfl) rfl ?_
         repeat ((show SW _ _ _ _ (⟨_,Op.load _ _,_,_,_,none⟩::_) _ _;refine SW.st (st_load rfl (hb8.cell rfl)) rfl ?_))
         refine SW.tknil ?_
         refine SA.take 9 hRB rfl (by kernel_rfl) (by kernel_rfl) rfl ?_
         repeat ((show SW _ _ _ _ (⟨_,Op.indexAddr _ _ _,_,_,_,none⟩::_) _ _;first|refine SW.st (st_indexI (0) rfl rfl (by assumption) (by omega) (by omega)) rfl ?_|refine SW.st (st_indexI (1) rfl rfl (by assumption) (by omega) (by omega)) rfl ?_))
         refine SW.tknil ?_
         refine SA.take 10 hRB rfl (by kernel_rfl) (by kernel_rfl) rfl ?_
         repeat ((show SW _ _ _ _ (⟨_,Op.fieldAddr _ _ _,_,_,_,none⟩::_) _ _;refine SW.st (st_field rfl) rfl ?_))
         refine SW.tknil ?_
         refine SA.take 11 hRB rfl (by kernel_rfl) (by kernel_rfl) rfl ?_
         repeat ((show SW _ _ _ _ (⟨_,Op.load _ _,_,_,_,none⟩::_) _ _;first|refine SW.st (st_loadx hw rfl (hr2.c0 0 _ rfl)) rfl ?_|refine SW.st (st_loadx hw rfl (hr2.c1 0 _ rfl)) rfl ?_))
         refine SW.tknil ?_
         refine SA.take 12 hRB rfl (by kernel_rfl) (by kernel_rfl) rfl ?_
         repeat ((show SW _ _ _ _ (⟨_,Op.fieldAddr _ _ _,_,_,_,none⟩::_) _ _;refine SW.st (st_field rfl) rfl ?_))
         refine SW.tknil ?_
         refine SA.take 13 hRB rfl (by kernel_rfl) (by kernel_rfl) rfl ?_
         repeat ((show SW _ _ _ _ (⟨_,Op.load _ _,_,_,_,none⟩::_) _ _;refine SW.st (st_load rfl (hb1.cell rfl)) rfl ?_))
         refine SW.tknil ?_
         refine SA.take 14 hRB rfl (by kernel_rfl) (by kernel_rfl) rfl ?_
         repeat ((show SW _ _ _ _ (⟨_,Op.fieldAddr _ _ _,_,_,_,none⟩::_) _ _;refine SW.st (st_field rfl) rfl ?_))
         refine SW.tknil ?_
         refine SA.take 15 hRB rfl (by kernel_rfl) (by kernel_rfl) rfl ?_
         repeat ((show SW _ _ _ _ (⟨_,Op.load _ _,_,_,_,none⟩::_) _ _;refine SW.st (st_load rfl (hb8.cell rfl)) rfl ?_))
         refine SW.tknil ?_
         refine SA.take 16 hRB rfl (by kernel_rfl) (by kernel_rfl) rfl ?_
         repeat ((show SW _ _ _ _ (⟨_,Op.indexAddr _ _ _,_,_,_,none⟩::_) _ _;first|refine SW.st (st_indexI (0) rfl rfl (by assumption) (by omega) (by omega)) rfl ?_|refine SW.st (st_indexI (1) rfl rfl (by assumption) (by omega) (by omega)) rfl ?_))
         refine SW.tknil ?_
         refine SA.take 17 hRB rfl (by kernel_rfl) (by kernel_rfl) rfl ?_
         repeat ((show SW _ _ _ _ (⟨_,Op.fieldAddr _ _ _,_,_,_,none⟩::_) _ _;refine SW.st (st_field rfl) rfl ?_))
         refine SW.tknil ?_
         refine SA.take 18 hRB rfl (by kernel_rfl) (by kernel_rfl) rfl ?_
         repeat ((show SW _ _ _ _ (⟨_,Op.load _ _,_,_,_,none⟩::_) _ _;first|refine SW.st (st_loadx hw rfl (hr2.c0 1 _ rfl)) rfl ?_|refine SW.st (st_loadx hw rfl (hr2.c1 1 _ rfl)) rfl ?_))
         refine SW.tknil ?_
         refine SA.take 19 hRB rfl (by kernel_rfl) (by kernel_rfl) rfl ?_
         repeat ((show SW _ _ _ _ (⟨_,Op.binOp _ _ _ _ _,_,_,_,none⟩::_) _ _;refine SW.st (st_sub rfl rfl (by omega) (by omega)) rfl ?_))
         refine SW.tknil ?_
         refine SA.one 20 rfl (by kernel_rfl) rfl ?_
         refine SW.call rfl rfl (In_ans _ _ _ _) fun v w5 hXX hv => ?_
         subst hv
         (replace hw:=Ext.trans hw hXX;replace hb1:=hb1.ext hXX;replace hb8:=hb8.ext hXX;replace hS:=hS.ext hXX)
         refine SW.nil (Post.sa hXX ?_)
         refine SA.take 21 hRB rfl (by kernel_rfl) (by kernel_rfl) rfl ?_
         repeat (refine SW.pure rfl rfl ?_)
         refine SW.tknil ?_
         refine SA.take 22 hRB rfl (by kernel_rfl) (by kernel_rfl) rfl ?_
         repeat (refine SW.pure rfl rfl ?_)
         refine SW.tknil ?_
         refine SA.take 23 hRB rfl (by kernel_rfl) (by kernel_rfl) rfl ?_
         repeat (first|(show SW _ _ _ _ (⟨_,_,_,_,_,some _⟩::_) _ _;first|refine SW.want_f rfl rfl (by with_reducible rfl) ?_|refine SW.splitn_f rfl rfl rfl (by omega) ?_)|refine SW.pure rfl rfl ?_)
         refine SW.tknil ?_
         refine SA.take 24 hRB rfl (by kernel_rfl) (by kernel_rfl) rfl ?_
         repeat (first|(show SW _ _ _ _ (⟨_,_,_,_,_,some _⟩::_) _ _;refine SW.want_f rfl rfl (by with_reducible rfl) ?_)|(show SW _ _ _ _ (⟨_,Op.fieldAddr _ _ _,_,_,_,none⟩::_) _ _;refine SW.st (st_field rfl) rfl ?_))
         refine SW.tknil ?_
         refine SA.take 25 hRB rfl (by kernel_rfl) (by kernel_rfl) rfl ?_
         repeat (first|(show SW _ _ _ _ (⟨_,_,_,_,_,some _⟩::_) _ _;refine SW.want_f rfl rfl (by with_reducible rfl) ?_)|(show SW _ _ _ _ (⟨_,Op.load _ _,_,_,_,none⟩::_) _ _;refine SW.st (st_load rfl (hb8.cell rfl)) rfl ?_))
         refine SW.tknil ?_
         refine SA.take 26 hRB rfl (by kernel_rfl) (by kernel_rfl) rfl ?_
         repeat (first|(show SW _ _ _ _ (⟨_,_,_,_,_,some _⟩::_) _ _;refine SW.want_f rfl rfl (by with_reducible rfl) ?_)|refine SW.pure rfl rfl ?_)
         refine SW.tknil ?_
         refine SA.take 27 hRB rfl (by kernel_rfl) (by kernel_rfl) rfl ?_
         repeat (first|(show SW _ _ _ _ (⟨_,_,_,_,_,some _⟩::_) _ _;refine SW.want_f rfl rfl (by with_reducible rfl) ?_)|(show SW _ _ _ _ (⟨_,Op.indexAddr _ _ _,_,_,_,none⟩::_) _ _;refine SW.st (st_indexN rfl rfl (by assumption) (by omega)) rfl ?_))
         refine SW.tknil ?_
         refine SA.take 28 hRB rfl (by kernel_rfl) (by kernel_rfl) rfl ?_
         repeat (first|(show SW _ _ _ _ (⟨_,_,_,_,_,some _⟩::_) _ _;refine SW.want_f rfl rfl (by with_reducible rfl) ?_)|(show SW _ _ _ _ (⟨_,Op.load _ _,_,_,_,none⟩::_) _ _;refine SW.st (st_loadx hw rfl hpc) rfl ?_))
         refine SW.tknil ?_
         refine SA.take 29 hRB rfl (by kernel_rfl) (by kernel_rfl) rfl ?_
         repeat (first|(show SW _ _ _ _ (⟨_,_,_,_,_,some _⟩::_) _ _;refine SW.want_f rfl rfl (by with_reducible rfl) ?_)|(show SW _ _ _ _ (⟨_,Op.build _ _,_,_,_,none⟩::_) _ _;refine SW.st (st_build rfl rfl) rfl ?_))
         refine SW.tknil ?_
         refine SA.done (by kernel_rfl) ?_
         repeat' ((show SW _ _ _ _ (⟨_,_,_,_,_,some _⟩::_) _ _;refine SW.want_f rfl rfl (by with_reducible rfl) ?_))
         refine SW.callvX rfl rfl rfl (addC_ans b3 _ (pageB p) w _ hw hb3w hS hF.2 hF.len hbp) fun v w6 hv => ?_
         obtain ⟨hw6,hK,hres⟩:=hv
         replace hw:=hw6
         replace hb1:=hK.k _ _ _ hb1 rfl rfl
         replace hb8:=hK.k _ _ _ hb8 rfl rfl
         rcases hres with ⟨rfl,hf,hS'⟩|⟨rfl,hf,hS'⟩
         ·rw [List.append_assoc,← htj] at hS'
          have hF':=hF.add hbp hf
          rw [List.append_assoc,← htj] at hF'
          repeat' (first|(first|refine CW.region ?_|refine CW.condd_f rfl (by omega) ?_|refine CW.skip ?_)|(first|refine Post.seq ?_|refine Post.blk ?_|refine Post.np ?_)|refine SW.nil ?_|(show SW _ _ _ _ (⟨_,_,_,_,_,some _⟩::_) _ _;refine SW.want_f rfl rfl (by with_reducible rfl) ?_)|refine SW.pure rfl rfl ?_|(show SW _ _ _ _ (⟨_,Op.binOp _ _ _ _ _,_,_,_,none⟩::_) _ _;refine SW.st (st_add rfl rfl (by omega) (by omega)) rfl ?_))
          refine Post.again (j+1) ⟨rfl,rfl,rfl,rfl,rfl,rfl,trivial⟩ (by omega) ⟨by omega,hw,hb1,hb8,hS',hF',fun i hi hij => ?_⟩
          by_cases e:i=j
          ·subst e;rw [hp];exact hpz
          ·exact hZ i hi (by omega)
         ·repeat' (first|(first|refine CW.seq ?_|refine CW.region ?_|refine CW.condt rfl ?_|refine CW.ret ?_)|(first|refine Post.seq ?_|refine Post.seq_ret ?_|refine Post.blk_ret ?_|refine Post.again_ret ?_|refine Post.np ?_)|refine SW.nil ?_|(show SW _ _ _ _ (⟨_,_,_,_,_,some _⟩::_) _ _;refine SW.want_f rfl rfl (by with_reducible rfl) ?_)|refine SW.pure rfl rfl ?_)
          exact Post.ret1 rfl rfl ⟨_,rfl,hw,by rw [heapB_f (hno hf)]⟩
      ·obtain rfl:j=ls[k].Pages.n:=by omega
       rw [List.take_of_length_le (l:=h.Lists[k].Pages) (by omega),List.append_assoc,← pagesB_take _ _ hkh] at hS hF
       repeat' (first|(first|refine CW.seq ?_|refine CW.region ?_|refine CW.condd_f rfl (by omega) ?_|refine CW.exit ?_)|(first|refine Post.seq ?_|refine Post.seq_exit ?_|refine Post.hit ?_|refine Post.blk ?_|refine Post.again_exit ?_)|refine SW.nil ?_|refine SW.pure rfl rfl ?_|(show SW _ _ _ _ (⟨_,Op.fieldAddr _ _ _,_,_,_,none⟩::_) _ _;refine SW.st (st_field rfl) rfl ?_)|(show SW _ _ _ _ (⟨_,Op.binOp _ _ _ _ _,_,_,_,none⟩::_) _ _;refine SW.st (st_add rfl rfl (by omega) (by omega)) rfl ?_)|(show SW _ _ _ _ (⟨_,Op.call ⟨.builtin .len,_,_⟩,_,_,_,none⟩::_) _ _;refine SW.st (st_len rfl) rfl ?_)|(show SW _ _ _ _ (⟨_,Op.load _ _,_,_,_,none⟩::_) _ _;refine SW.st (st_load rfl (hb8.cell rfl)) rfl ?_))
       refine Post.again (k+1) ⟨rfl,rfl,rfl,rfl,trivial⟩ (by omega) ⟨by omega,hw,hb1,hS,hF,hP.snoc hkh (by rwa [← hcp]) hah fun p hp => ?_⟩
       obtain ⟨i,hi,rfl⟩:=List.getElem_of_mem hp
       exact hZ i hi (by omega)
    ·have hno : ¬ HeapMay h:=fun hh=>hhd (by have:=(hh.rest hze).1.head k hkh;rwa [← hcp] at this)
     rw [heapB_f hno]
     have hhd' : ¬ (((0≤ls[k].Cpu∧ls[k].Cpu<r.Cpus)∧(0≤ls[k].Zone∧ls[k].Zone≤1)∧(0≤ls[k].Ty∧ls[k].Ty≤2)∧(1≤ls[k].Pages.n∧ls[k].Pages.n≤8))):=fun hh=>hhd (by unfold headOk;omega)
     have hcs : ¬ (0≤ls[k].Cpu∧ls[k].Cpu≤r.Cpus-1)∨((0≤ls[k].Cpu∧ls[k].Cpu≤r.Cpus-1)∧(¬ (0≤ls[k].Zone∧ls[k].Zone≤1)∨((0≤ls[k].Zone∧ls[k].Zone≤1)∧(¬ (0≤ls[k].Ty∧ls[k].Ty≤2)∨((0≤ls[k].Ty∧ls[k].Ty≤2) ∧ ¬ (1≤ls[k].Pages.n∧ls[k].Pages.n≤8)))))):=by omega
     rcases hcs with d|⟨d1,d|⟨d2,d|⟨d3,d⟩⟩⟩
     repeat' (first|(first|refine CW.seq ?_|refine CW.region ?_|refine CW.condtr rfl (by with_reducible rfl) ?_|refine CW.ret ?_|(apply CW.quiet1 mixed;(· kernel_rfl);rotate_left;intro w1 hw1;replace hw:=Ext.trans hw hw1;replace hb1:=hb1.ext hw1;replace hb8:=hb8.ext hw1;replace hS:=hS.ext hw1;clear hw1;rotate_right))|(first|refine Post.seq ?_|refine Post.seq_ret ?_|refine Post.blk_ret ?_|refine Post.again_ret ?_)|refine SW.nil ?_|(show SW _ _ _ _ (⟨_,_,_,_,_,some _⟩::_) _ _;first|refine SW.want_f rfl rfl (by with_reducible rfl) ?_|refine SW.skip_f rfl rfl (by with_reducible rfl) rfl ?_|refine SW.skip_u rfl rfl (by with_reducible rfl) rfl ?_|refine SW.splitn_t rfl rfl rfl (by omega) ?_|refine SW.splitn_f rfl rfl rfl (by omega) ?_)|refine SW.pure rfl rfl ?_|(show SW _ _ _ _ (⟨_,Op.fieldAddr _ _ _,_,_,_,none⟩::_) _ _;refine SW.st (st_field rfl) rfl ?_)|(show SW _ _ _ _ (⟨_,Op.binOp _ _ _ _ _,_,_,_,none⟩::_) _ _;refine SW.st (st_sub rfl rfl (by omega) (by omega)) rfl ?_)|(show SW _ _ _ _ (⟨_,Op.call ⟨.builtin .len,_,_⟩,_,_,_,none⟩::_) _ _;refine SW.st (st_len rfl) rfl ?_)|(show SW _ _ _ _ (⟨_,Op.load _ _,_,_,_,none⟩::_) _ _;first|refine SW.st (st_load rfl (hb8.cell rfl)) rfl ?_|refine SW.st (st_load rfl (hb1.cell rfl)) rfl ?_)|(show SW _ _ _ _ (⟨_,Op.call ⟨.value (.func _),_,_⟩,_,_,_,none⟩::_) _ _;refine SW.qcall rfl rfl (fun w1 hw1=>(In_ans _ _ _ _)) ?_)|exact SW.qnil rfl)
     all_goals exact Post.ret1 rfl rfl ⟨_,rfl,hw,rfl⟩
   ·obtain rfl:k=r.Lists.n:=by omega
    rw [List.take_of_length_le (by omega)] at hS hF
    have hL:=hP.all (by omega)
    repeat' (first|(first|refine CW.seq ?_|refine CW.region ?_|refine CW.block ?_|refine CW.condd_f rfl (by omega) ?_|refine CW.exit ?_)|(first|refine Post.seq ?_|refine Post.seq_exit ?_|refine Post.hit ?_|refine Post.again_exit ?_)|refine SW.nil ?_|refine SW.pure rfl rfl ?_|(show SW _ _ _ _ (⟨_,Op.fieldAddr _ _ _,_,_,_,none⟩::_) _ _;refine SW.st (st_field rfl) rfl ?_)|(show SW _ _ _ _ (⟨_,Op.call ⟨.builtin .len,_,_⟩,_,_,_,none⟩::_) _ _;refine SW.st (st_len rfl) rfl ?_)|(show SW _ _ _ _ (⟨_,Op.load _ _,_,_,_,none⟩::_) _ _;refine SW.st (st_load rfl (hb1.cell rfl)) rfl ?_))
    have hlv:=hr.live
    have hvl:=hr.live.len
    have hAv:=hr.live.base
    have hsv:=hs.live
    refine CW.loop (fun k:Nat=>[(1,.pointer (some ⟨b1,0,none⟩)),(3,.pointer (some ⟨b3,0,none⟩)),(4,.func (.func 196) #[] ([.pointer (some ⟨b3,0,none⟩)] : List Value).toArray),(10,.int .i64 (k:Int))])
     (fun k w'=>k≤r.Live.n∧Ext w w'∧Blk w' b1 41 (encH r)∧AllS w' w.heap.size b3 (F++pagesB h.Lists++h.Live.take k)∧Fine (F++pagesB h.Lists++h.Live.take k)∧VPre h.Live k) (fun k=>r.Live.n-k) 0
     ⟨rfl,rfl,rfl,rfl,trivial⟩ ⟨by omega,hw,hb1,by simpa using hS,by simpa using hF,.nil _⟩ ?_
    clear hw hb1 hS hF hP
    rintro k w' ⟨hk,hw,hb1,hS,hF,hP⟩
    by_cases hkn:k<r.Live.n
    ·have hkl:k<h.Live.length:=by omega
     have hk1:k-1<r.Live.n:=by omega
     have hmay:HeapMay h→liveOk h.Live[k]∧(0<k→(h.Live[k-1]'(by omega)).At<h.Live[k].At):=fun hh=>⟨hh.live.each k hkl,fun h0=>by
      have:=hh.live.next (k-1) (by omega)
      simpa only [show k-1+1=k by omega] using this⟩
     have hno : ¬ fitsL (F++pagesB h.Lists++h.Live.take k) h.Live[k] → ¬ HeapMay h:=fun hx hh=>by
      have:=hev hh
      have e:=hF.no hx (M:=h.Live.drop (k+1))
      have e1:h.Live.take k++([h.Live[k]]++h.Live.drop (k+1))=h.Live:=by simp
      rw [List.append_assoc,List.append_assoc (F++pagesB h.Lists),e1] at e
      rw [e] at this
      cases this
     have hprev:=hlv.fld hk1 (j:=0) rfl
     repeat' (first|(first|refine CW.seq ?_|refine CW.region ?_|refine CW.block ?_|refine CW.condd_t rfl (by omega) ?_|refine CW.skip ?_)|(refine Post.seq ?_)|refine SW.nil ?_|refine SW.pure rfl rfl ?_|(show SW _ _ _ _ (⟨_,Op.fieldAddr _ _ _,_,_,_,none⟩::_) _ _;refine SW.st (st_field rfl) rfl ?_)|(show SW _ _ _ _ (⟨_,Op.indexAddr _ _ _,_,_,_,none⟩::_) _ _;refine SW.st (st_indexN rfl rfl (by assumption) (by omega)) rfl ?_)|(show SW _ _ _ _ (⟨_,Op.call ⟨.builtin .len,_,_⟩,_,_,_,none⟩::_) _ _;refine SW.st (st_len rfl) rfl ?_)|(show SW _ _ _ _ (⟨_,Op.load _ _,_,_,_,none⟩::_) _ _;first|refine SW.st (st_load rfl (hb1.cell rfl)) rfl ?_|refine SW.st (st_loadsx hw rfl rfl ((hlv.all hkn))) rfl ?_))
     refine SW.alloc rfl fun b11 w1 hw1 hb11b hb11 => ?_
     skip
     refine SW.storeAgg hb11 rfl rfl rfl rfl (Enc.one (enc:=encBk) _) fun w2 hb11' hg => ?_
     have hXX:=hw1.own hb11b hg
     have hb11w:w.heap.size≤b11:=Nat.le_trans hw.size hb11b
     replace hw:=Ext.trans hw hXX
     replace hb1:=hb1.ext hXX
     replace hS:=hS.ext hXX
     replace hb11:=hb11'
     clear hb11' hw1 hg hXX
     repeat' (first|(refine CW.seq ?_)|(refine Post.seq ?_)|refine SW.nil ?_)
     have hsn:liveC h.Live[k]→(0<k→(h.Live[k-1]'(by omega)).At<h.Live[k].At)→VPre h.Live (k+1):=fun a b=>hP.snoc hkl a fun h0=>b h0
     have htk:h.Live.take (k+1)=h.Live.take k++[h.Live[k]]:=List.take_succ_eq_append_getElem hkl
     generalize hbb:h.Live[k]=bb at hb11 hmay hsn htk hno
     generalize hpv:(h.Live[k-1]'(by omega)).At=pv at hmay hsn hprev
     simp only [liveC,liveOk,tyOk] at hmay hsn
     have hp:bb.Order<0∨4<bb.Order∨(1≤pw bb.Order∧pw bb.Order≤16):=by
      by_cases h1 : 0≤bb.Order
      ·by_cases h2:bb.Order≤4
       ·exact .inr (.inr (pw_le h1 h2))
       ·omega
      ·omega
     have em:bb.At<0∨bb.At.tmod (pw bb.Order)=bb.At % pw bb.Order:=by
      by_cases h1 : 0≤bb.At
      ·exact .inr (Int.tmod_eq_emod_of_nonneg h1)
      ·omega
     have hcs:(¬ (0≤bb.Order∧bb.Order≤4)∨((0≤bb.Order∧bb.Order≤4)∧(¬ (0≤bb.At∧bb.At≤255)∨((0≤bb.At∧bb.At≤255)∧(bb.At.tmod (pw bb.Order)≠0∨(bb.At.tmod (pw bb.Order)=0∧(¬ (0≤bb.Ty∧bb.Ty≤2)∨((0≤bb.Ty∧bb.Ty≤2)∧0<k∧bb.At≤pv))))))))∨(((0≤bb.Order∧bb.Order≤4)∧(0≤bb.At∧bb.At≤255)∧bb.At.tmod (pw bb.Order)=0∧(0≤bb.Ty∧bb.Ty≤2))∧(k=0∨(0<k∧pv<bb.At))):=by omega
     rcases hcs with hcs|⟨⟨d1,d2,d3,d4⟩,hcs⟩
     ·have hnm : ¬ HeapMay h:=fun hh=>by
       have:=hmay hh
       omega
      rw [heapB_f hnm]
      rcases hcs with d|⟨d1,d|⟨d2,d|⟨d3,d|⟨d4,hk0,d⟩⟩⟩⟩
      repeat' (first|(first|refine CW.seq ?_|refine CW.region ?_|refine CW.condtr rfl (by with_reducible rfl) ?_|refine CW.ret ?_|(apply CW.quiet1 mixed;(· kernel_rfl);rotate_left;intro w1 hw1;replace hw:=Ext.trans hw hw1;replace hb1:=hb1.ext hw1;replace hb11:=hb11.ext hw1;replace hS:=hS.ext hw1;clear hw1;rotate_right))|(first|refine Post.seq ?_|refine Post.seq_ret ?_|refine Post.blk_ret ?_|refine Post.again_ret ?_)|refine SW.nil ?_|(show SW _ _ _ _ (⟨_,_,_,_,_,some _⟩::_) _ _;first|refine SW.want_t rfl rfl (by with_reducible rfl) ?_|refine SW.want_f rfl rfl (by with_reducible rfl) ?_|refine SW.skip_f rfl rfl (by with_reducible rfl) rfl ?_|refine SW.skip_u rfl rfl (by with_reducible rfl) rfl ?_|refine SW.splitd_t rfl rfl rfl (by omega) ?_|refine SW.splitn_t rfl rfl rfl (by omega) ?_|refine SW.splitn_f rfl rfl rfl (by omega) ?_)|refine SW.pure rfl rfl ?_|(show SW _ _ _ _ (⟨_,Op.fieldAddr _ _ _,_,_,_,none⟩::_) _ _;refine SW.st (st_field rfl) rfl ?_)|(show SW _ _ _ _ (⟨_,Op.binOp _ _ _ _ _,_,_,_,none⟩::_) _ _;first|refine SW.st (st_sub rfl rfl (by omega) (by omega)) rfl ?_|refine SW.st (st_rem rfl rfl (by omega)) rfl ?_)|(show SW _ _ _ _ (⟨_,Op.indexAddr _ _ _,_,_,_,none⟩::_) _ _;refine SW.st (st_indexI (k-1) rfl rfl (by assumption) (by omega) (by omega)) rfl ?_)|(show SW _ _ _ _ (⟨_,Op.load _ _,_,_,_,none⟩::_) _ _;first|refine SW.st (st_load rfl (hb11.cell rfl)) rfl ?_|refine SW.st (st_load rfl (hb1.cell rfl)) rfl ?_|refine SW.st (st_loadx hw rfl hprev) rfl ?_)|(show SW _ _ _ _ (⟨_,Op.call ⟨.value (.func _),_,_⟩,_,_,_,none⟩::_) _ _;first|refine SW.qcall rfl rfl (fun w1 hw1=>(In_ans _ _ _ _)) ?_|refine SW.qcall rfl rfl (fun w1 hw1=>(power_ans _ (by omega) _)) ?_)|exact SW.qnil rfl)
      all_goals exact Post.ret1 rfl rfl ⟨_,rfl,hw,rfl⟩
     ·have hbp:blkOk 0 256 bb:=by
       simp only [blkOk,fitsZ,tyOk]
       omega
      replace hsn:=hsn ⟨d1,d2.1,by omega,d4⟩ (fun h0=>by omega)
      rcases hcs with hk0|⟨hk0,d⟩
      all_goals
       refine CW.any 44 mixed (rb_tail (by kernel_rfl)) rfl fun w1 hw1 hRB => ?_
       replace hw:=Ext.trans hw hw1;replace hb1:=hb1.ext hw1;replace hb11:=hb11.ext hw1;replace hS:=hS.ext hw1;clear hw1
       refine SA.take 0 hRB rfl (by kernel_rfl) (by kernel_rfl) rfl ?_
       repeat ((show SW _ _ _ _ (⟨_,Op.fieldAddr _ _ _,_,_,_,none⟩::_) _ _;refine SW.st (st_field rfl) rfl ?_))
       refine SW.tknil ?_
       refine SA.take 1 hRB rfl (by kernel_rfl) (by kernel_rfl) rfl ?_
       repeat ((show SW _ _ _ _ (⟨_,Op.load _ _,_,_,_,none⟩::_) _ _;refine SW.st (st_load rfl (hb11.cell rfl)) rfl ?_))
       refine SW.tknil ?_
       refine SA.one 2 rfl (by kernel_rfl) rfl ?_
       refine SW.call rfl rfl (In_ans _ _ _ _) fun v w5 hXX hv => ?_
       subst hv
       (replace hw:=Ext.trans hw hXX;replace hb1:=hb1.ext hXX;replace hb11:=hb11.ext hXX;replace hS:=hS.ext hXX)
       refine SW.nil (Post.sa hXX ?_)
       refine SA.take 3 hRB rfl (by kernel_rfl) (by kernel_rfl) rfl ?_
       repeat (refine SW.pure rfl rfl ?_)
       refine SW.tknil ?_
       refine SA.take 4 hRB rfl (by kernel_rfl) (by kernel_rfl) rfl ?_
       repeat (refine SW.pure rfl rfl ?_)
       refine SW.tknil ?_
       refine SA.take 5 hRB rfl (by kernel_rfl) (by kernel_rfl) rfl ?_
       repeat (first|(show SW _ _ _ _ (⟨_,_,_,_,_,some _⟩::_) _ _;first|refine SW.want_f rfl rfl (by with_reducible rfl) ?_|refine SW.splitn_f rfl rfl rfl (by omega) ?_)|(show SW _ _ _ _ (⟨_,Op.fieldAddr _ _ _,_,_,_,none⟩::_) _ _;refine SW.st (st_field rfl) rfl ?_))
       refine SW.tknil ?_
       refine SA.take 6 hRB rfl (by kernel_rfl) (by kernel_rfl) rfl ?_
       repeat (first|(show SW _ _ _ _ (⟨_,_,_,_,_,some _⟩::_) _ _;refine SW.want_f rfl rfl (by with_reducible rfl) ?_)|(show SW _ _ _ _ (⟨_,Op.load _ _,_,_,_,none⟩::_) _ _;refine SW.st (st_load rfl (hb11.cell rfl)) rfl ?_))
       refine SW.tknil ?_
       refine SA.one 7 rfl (by kernel_rfl) rfl ?_
       refine SW.want rfl rfl ?_
       refine SW.call rfl rfl (In_ans _ _ _ _) fun v w5 hXX hv => ?_
       subst hv
       (replace hw:=Ext.trans hw hXX;replace hb1:=hb1.ext hXX;replace hb11:=hb11.ext hXX;replace hS:=hS.ext hXX)
       refine SW.nil (Post.sa hXX ?_)
       refine SA.take 8 hRB rfl (by kernel_rfl) (by kernel_rfl) rfl ?_
       repeat (first|(show SW _ _ _ _ (⟨_,_,_,_,_,some _⟩::_) _ _;refine SW.want_f rfl rfl (by with_reducible rfl) ?_)|refine SW.pure rfl rfl ?_)
       refine SW.tknil ?_
       refine SA.take 9 hRB rfl (by kernel_rfl) (by kernel_rfl) rfl ?_
       repeat (refine SW.pure rfl rfl ?_)
       refine SW.tknil ?_
       refine SA.take 10 hRB rfl (by kernel_rfl) (by kernel_rfl) rfl ?_
       repeat (refine SW.pure rfl rfl ?_)
       refine SW.tknil ?_
       refine SA.take 11 hRB rfl (by kernel_rfl) (by kernel_rfl) rfl ?_
       repeat (first|(show SW _ _ _ _ (⟨_,_,_,_,_,some _⟩::_) _ _;first|refine SW.want_f rfl rfl (by with_reducible rfl) ?_|refine SW.splitn_f rfl rfl rfl (by omega) ?_)|(show SW _ _ _ _ (⟨_,Op.fieldAddr _ _ _,_,_,_,none⟩::_) _ _;refine SW.st (st_field rfl) rfl ?_))
       refine SW.tknil ?_
       refine SA.take 12 hRB rfl (by kernel_rfl) (by kernel_rfl) rfl ?_
       repeat (first|(show SW _ _ _ _ (⟨_,_,_,_,_,some _⟩::_) _ _;refine SW.want_f rfl rfl (by with_reducible rfl) ?_)|(show SW _ _ _ _ (⟨_,Op.load _ _,_,_,_,none⟩::_) _ _;refine SW.st (st_load rfl (hb11.cell rfl)) rfl ?_))
       refine SW.tknil ?_
       refine SA.take 13 hRB rfl (by kernel_rfl) (by kernel_rfl) rfl ?_
       repeat (first|(show SW _ _ _ _ (⟨_,_,_,_,_,some _⟩::_) _ _;refine SW.want_f rfl rfl (by with_reducible rfl) ?_)|(show SW _ _ _ _ (⟨_,Op.fieldAddr _ _ _,_,_,_,none⟩::_) _ _;refine SW.st (st_field rfl) rfl ?_))
       refine SW.tknil ?_
       refine SA.take 14 hRB rfl (by kernel_rfl) (by kernel_rfl) rfl ?_
       repeat (first|(show SW _ _ _ _ (⟨_,_,_,_,_,some _⟩::_) _ _;refine SW.want_f rfl rfl (by with_reducible rfl) ?_)|(show SW _ _ _ _ (⟨_,Op.load _ _,_,_,_,none⟩::_) _ _;refine SW.st (st_load rfl (hb11.cell rfl)) rfl ?_))
       refine SW.tknil ?_
       refine SA.one 15 rfl (by kernel_rfl) rfl ?_
       refine SW.want rfl rfl ?_
       refine SW.call rfl rfl (power_ans _ (by omega) _) fun v w5 hXX hv => ?_
       subst hv
       (replace hw:=Ext.trans hw hXX;replace hb1:=hb1.ext hXX;replace hb11:=hb11.ext hXX;replace hS:=hS.ext hXX)
       refine SW.nil (Post.sa hXX ?_)
       refine SA.take 16 hRB rfl (by kernel_rfl) (by kernel_rfl) rfl ?_
       repeat (first|(show SW _ _ _ _ (⟨_,_,_,_,_,some _⟩::_) _ _;refine SW.want_f rfl rfl (by with_reducible rfl) ?_)|(show SW _ _ _ _ (⟨_,Op.binOp _ _ _ _ _,_,_,_,none⟩::_) _ _;refine SW.st (st_rem rfl rfl (by omega)) rfl ?_))
       refine SW.tknil ?_
       refine SA.take 17 hRB rfl (by kernel_rfl) (by kernel_rfl) rfl ?_
       repeat (first|(show SW _ _ _ _ (⟨_,_,_,_,_,some _⟩::_) _ _;refine SW.want_f rfl rfl (by with_reducible rfl) ?_)|refine SW.pure rfl rfl ?_)
       refine SW.tknil ?_
       refine SA.take 18 hRB rfl (by kernel_rfl) (by kernel_rfl) rfl ?_
       repeat (refine SW.pure rfl rfl ?_)
       refine SW.tknil ?_
       refine SA.take 19 hRB rfl (by kernel_rfl) (by kernel_rfl) rfl ?_
       repeat (refine SW.pure rfl rfl ?_)
       refine SW.tknil ?_
       refine SA.take 20 hRB rfl (by kernel_rfl) (by kernel_rfl) rfl ?_
       repeat (first|(show SW _ _ _ _ (⟨_,_,_,_,_,some _⟩::_) _ _;first|refine SW.want_f rfl rfl (by with_reducible rfl) ?_|refine SW.splitn_f rfl rfl rfl (by omega) ?_)|(show SW _ _ _ _ (⟨_,Op.fieldAddr _ _ _,_,_,_,none⟩::_) _ _;refine SW.st (st_field rfl) rfl ?_))
       refine SW.tknil ?_
       refine SA.take 21 hRB rfl (by kernel_rfl) (by kernel_rfl) rfl ?_
       repeat (first|(show SW _ _ _ _ (⟨_,_,_,_,_,some _⟩::_) _ _;refine SW.want_f rfl rfl (by with_reducible rfl) ?_)|(show SW _ _ _ _ (⟨_,Op.load _ _,_,_,_,none⟩::_) _ _;refine SW.st (st_load rfl (hb11.cell rfl)) rfl ?_))
       refine SW.tknil ?_
       refine SA.one 22 rfl (by kernel_rfl) rfl ?_
       refine SW.want rfl rfl ?_
       refine SW.call rfl rfl (In_ans _ _ _ _) fun v w5 hXX hv => ?_
       subst hv
       (replace hw:=Ext.trans hw hXX;replace hb1:=hb1.ext hXX;replace hb11:=hb11.ext hXX;replace hS:=hS.ext hXX)
       refine SW.nil (Post.sa hXX ?_)
       refine SA.take 23 hRB rfl (by kernel_rfl) (by kernel_rfl) rfl ?_
       repeat (first|(show SW _ _ _ _ (⟨_,_,_,_,_,some _⟩::_) _ _;refine SW.want_f rfl rfl (by with_reducible rfl) ?_)|refine SW.pure rfl rfl ?_)
       refine SW.tknil ?_
       refine SA.take 24 hRB rfl (by kernel_rfl) (by kernel_rfl) rfl ?_
       repeat (refine SW.pure rfl rfl ?_)
       refine SW.tknil ?_
       refine SA.take 25 hRB rfl (by kernel_rfl) (by kernel_rfl) rfl ?_
       repeat (refine SW.pure rfl rfl ?_)
       refine SW.tknil ?_
       refine SA.take 26 hRB rfl (by kernel_rfl) (by kernel_rfl) rfl ?_
       repeat (first|(show SW _ _ _ _ (⟨_,_,_,_,_,some _⟩::_) _ _;first|refine SW.want_f rfl rfl (by with_reducible rfl) ?_|refine SW.splitn_f rfl rfl rfl (by omega) ?_)|refine SW.pure rfl rfl ?_)
       refine SW.tknil ?_
       refine SA.take 27 hRB rfl (by kernel_rfl) (by kernel_rfl) rfl ?_
       repeat (first|(show SW _ _ _ _ (⟨_,_,_,_,_,some _⟩::_) _ _;refine SW.want_f rfl rfl (by with_reducible rfl) ?_)|refine SW.pure rfl rfl ?_)
       refine SW.tknil ?_
       refine SA.take 28 hRB rfl (by kernel_rfl) (by kernel_rfl) rfl ?_
       repeat (first|(show SW _ _ _ _ (⟨_,_,_,_,_,some _⟩::_) _ _;refine SW.want_f rfl rfl (by with_reducible rfl) ?_)|refine SW.pure rfl rfl ?_)
       refine SW.tknil ?_
       refine SA.take 29 hRB rfl (by kernel_rfl) (by kernel_rfl) rfl ?_
       repeat (first|(show SW _ _ _ _ (⟨_,_,_,_,_,some _⟩::_) _ _;first|refine SW.want_t rfl rfl (by with_reducible rfl) ?_|refine SW.skip_t rfl rfl (by with_reducible rfl) rfl ?_|refine SW.splitd_t rfl rfl rfl (by omega) ?_|refine SW.splitd_f rfl rfl rfl (by omega) ?_)|(show SW _ _ _ _ (⟨_,Op.fieldAddr _ _ _,_,_,_,none⟩::_) _ _;refine SW.st (st_field rfl) rfl ?_))
       refine SW.tknil ?_
       refine SA.take 30 hRB rfl (by kernel_rfl) (by kernel_rfl) rfl ?_
       repeat (first|(show SW _ _ _ _ (⟨_,_,_,_,_,some _⟩::_) _ _;first|refine SW.want_t rfl rfl (by with_reducible rfl) ?_|refine SW.skip_t rfl rfl (by with_reducible rfl) rfl ?_)|(show SW _ _ _ _ (⟨_,Op.load _ _,_,_,_,none⟩::_) _ _;refine SW.st (st_load rfl (hb1.cell rfl)) rfl ?_))
       refine SW.tknil ?_
       refine SA.take 31 hRB rfl (by kernel_rfl) (by kernel_rfl) rfl ?_
       repeat (first|(show SW _ _ _ _ (⟨_,_,_,_,_,some _⟩::_) _ _;first|refine SW.want_t rfl rfl (by with_reducible rfl) ?_|refine SW.skip_t rfl rfl (by with_reducible rfl) rfl ?_)|refine SW.pure rfl rfl ?_)
       refine SW.tknil ?_
       refine SA.take 32 hRB rfl (by kernel_rfl) (by kernel_rfl) rfl ?_
       repeat (first|(show SW _ _ _ _ (⟨_,_,_,_,_,some _⟩::_) _ _;first|refine SW.want_t rfl rfl (by with_reducible rfl) ?_|refine SW.skip_t rfl rfl (by with_reducible rfl) rfl ?_)|(show SW _ _ _ _ (⟨_,Op.binOp _ _ _ _ _,_,_,_,none⟩::_) _ _;refine SW.st (st_sub rfl rfl (by omega) (by omega)) rfl ?_))
       refine SW.tknil ?_
       refine SA.take 33 hRB rfl (by kernel_rfl) (by kernel_rfl) rfl ?_
       repeat (first|(show SW _ _ _ _ (⟨_,_,_,_,_,some _⟩::_) _ _;first|refine SW.want_t rfl rfl (by with_reducible rfl) ?_|refine SW.skip_t rfl rfl (by with_reducible rfl) rfl ?_)|(show SW _ _ _ _ (⟨_,Op.indexAddr _ _ _,_,_,_,none⟩::_) _ _;refine SW.st (st_indexI (k-1) rfl rfl (by assumption) (by omega) (by omega)) rfl ?_))
       refine SW.tknil ?_
       refine SA.take 34 hRB rfl (by kernel_rfl) (by kernel_rfl) rfl ?_
       repeat (first|(show SW _ _ _ _ (⟨_,_,_,_,_,some _⟩::_) _ _;first|refine SW.want_t rfl rfl (by with_reducible rfl) ?_|refine SW.skip_t rfl rfl (by with_reducible rfl) rfl ?_)|(show SW _ _ _ _ (⟨_,Op.fieldAddr _ _ _,_,_,_,none⟩::_) _ _;refine SW.st (st_field rfl) rfl ?_))
       refine SW.tknil ?_
       refine SA.take 35 hRB rfl (by kernel_rfl) (by kernel_rfl) rfl ?_
       repeat (first|(show SW _ _ _ _ (⟨_,_,_,_,_,some _⟩::_) _ _;first|refine SW.want_t rfl rfl (by with_reducible rfl) ?_|refine SW.skip_t rfl rfl (by with_reducible rfl) rfl ?_)|(show SW _ _ _ _ (⟨_,Op.load _ _,_,_,_,none⟩::_) _ _;refine SW.st (st_loadx hw rfl hprev) rfl ?_))
       refine SW.tknil ?_
       refine SA.take 36 hRB rfl (by kernel_rfl) (by kernel_rfl) rfl ?_
       repeat (first|(show SW _ _ _ _ (⟨_,_,_,_,_,some _⟩::_) _ _;first|refine SW.want_t rfl rfl (by with_reducible rfl) ?_|refine SW.skip_t rfl rfl (by with_reducible rfl) rfl ?_)|(show SW _ _ _ _ (⟨_,Op.fieldAddr _ _ _,_,_,_,none⟩::_) _ _;refine SW.st (st_field rfl) rfl ?_))
       refine SW.tknil ?_
       refine SA.take 37 hRB rfl (by kernel_rfl) (by kernel_rfl) rfl ?_
       repeat (first|(show SW _ _ _ _ (⟨_,_,_,_,_,some _⟩::_) _ _;first|refine SW.want_t rfl rfl (by with_reducible rfl) ?_|refine SW.skip_t rfl rfl (by with_reducible rfl) rfl ?_)|(show SW _ _ _ _ (⟨_,Op.load _ _,_,_,_,none⟩::_) _ _;refine SW.st (st_load rfl (hb11.cell rfl)) rfl ?_))
       refine SW.tknil ?_
       refine SA.take 38 hRB rfl (by kernel_rfl) (by kernel_rfl) rfl ?_
       repeat (first|(show SW _ _ _ _ (⟨_,_,_,_,_,some _⟩::_) _ _;first|refine SW.want_t rfl rfl (by with_reducible rfl) ?_|refine SW.skip_t rfl rfl (by with_reducible rfl) rfl ?_)|refine SW.pure rfl rfl ?_)
       refine SW.tknil ?_
       refine SA.take 39 hRB rfl (by kernel_rfl) (by kernel_rfl) rfl ?_
       repeat (first|(show SW _ _ _ _ (⟨_,_,_,_,_,some _⟩::_) _ _;refine SW.want_f rfl rfl (by with_reducible rfl) ?_)|refine SW.pure rfl rfl ?_)
       refine SW.tknil ?_
       refine SA.take 40 hRB rfl (by kernel_rfl) (by kernel_rfl) rfl ?_
       repeat (refine SW.pure rfl rfl ?_)
       refine SW.tknil ?_
       refine SA.take 41 hRB rfl (by kernel_rfl) (by kernel_rfl) rfl ?_
       repeat (refine SW.pure rfl rfl ?_)
       refine SW.tknil ?_
       refine SA.take 42 hRB rfl (by kernel_rfl) (by kernel_rfl) rfl ?_
       repeat (first|(show SW _ _ _ _ (⟨_,_,_,_,_,some _⟩::_) _ _;first|refine SW.want_f rfl rfl (by with_reducible rfl) ?_|refine SW.splitd_f rfl rfl rfl (by omega) ?_)|refine SW.pure rfl rfl ?_)
       refine SW.tknil ?_
       refine SA.take 43 hRB rfl (by kernel_rfl) (by kernel_rfl) rfl ?_
       repeat (first|(show SW _ _ _ _ (⟨_,_,_,_,_,some _⟩::_) _ _;refine SW.want_f rfl rfl (by with_reducible rfl) ?_)|(show SW _ _ _ _ (⟨_,Op.load _ _,_,_,_,none⟩::_) _ _;refine SW.st (st_loads rfl rfl ((fun _ _=>hb11.cell))) rfl ?_))
       refine SW.tknil ?_
       refine SA.done (by kernel_rfl) ?_
       repeat' ((show SW _ _ _ _ (⟨_,_,_,_,_,some _⟩::_) _ _;refine SW.want_f rfl rfl (by with_reducible rfl) ?_))
       refine SW.callvX rfl rfl rfl (addC_ans b3 _ bb w _ hw hb3w hS hF.2 hF.len hbp) fun v w6 hv => ?_
       obtain ⟨hw6,hK,hres⟩:=hv
       replace hw:=hw6
       replace hb1:=hK.k _ _ _ hb1 rfl rfl
       rcases hres with ⟨rfl,hf,hS'⟩|⟨rfl,hf,hS'⟩
       ·rw [List.append_assoc,← htk] at hS'
        have hF':=hF.add hbp hf
        rw [List.append_assoc,← htk] at hF'
        repeat' (first|(first|refine CW.region ?_|refine CW.condf rfl ?_|refine CW.skip ?_)|(first|refine Post.seq ?_|refine Post.blk ?_|refine Post.np ?_)|refine SW.nil ?_|(show SW _ _ _ _ (⟨_,_,_,_,_,some _⟩::_) _ _;refine SW.want_f rfl rfl (by with_reducible rfl) ?_)|refine SW.pure rfl rfl ?_|(show SW _ _ _ _ (⟨_,Op.binOp _ _ _ _ _,_,_,_,none⟩::_) _ _;refine SW.st (st_add rfl rfl (by omega) (by omega)) rfl ?_))
        exact Post.again (k+1) ⟨rfl,rfl,rfl,rfl,trivial⟩ (by omega) ⟨by omega,hw,hb1,hS',hF',hsn⟩
       ·repeat' (first|(first|refine CW.seq ?_|refine CW.region ?_|refine CW.condt rfl ?_|refine CW.ret ?_)|(first|refine Post.seq ?_|refine Post.seq_ret ?_|refine Post.blk_ret ?_|refine Post.again_ret ?_|refine Post.np ?_)|refine SW.nil ?_|(show SW _ _ _ _ (⟨_,_,_,_,_,some _⟩::_) _ _;refine SW.want_f rfl rfl (by with_reducible rfl) ?_)|refine SW.pure rfl rfl ?_)
        exact Post.ret1 rfl rfl ⟨_,rfl,hw,by rw [heapB_f (hno hf)]⟩
    ·obtain rfl:k=r.Live.n:=by omega
     rw [List.take_of_length_le (by omega)] at hS hF
     have hsome:(addAll (addAll (marksS h z0 z1) (pagesB h.Lists)) h.Live).isSome=true:=by
      have:=hF.1
      rw [hFz,addAll_append,addAll_append] at this
      unfold marksS
      rw [this]
      rfl
     have hHM:HeapMay h:=HeapMay.of hze hd hfr hL (hP.ok (by omega) hsome) hsome
     repeat' (first|(first|refine CW.seq ?_|refine CW.region ?_|refine CW.condd_f rfl (by omega) ?_|refine CW.ret ?_|refine CW.exit ?_)|(first|refine Post.seq ?_|refine Post.seq_exit ?_|refine Post.hit ?_|refine Post.again_exit ?_)|refine SW.nil ?_|refine SW.pure rfl rfl ?_|(show SW _ _ _ _ (⟨_,Op.fieldAddr _ _ _,_,_,_,none⟩::_) _ _;refine SW.st (st_field rfl) rfl ?_)|(show SW _ _ _ _ (⟨_,Op.call ⟨.builtin .len,_,_⟩,_,_,_,none⟩::_) _ _;refine SW.st (st_len rfl) rfl ?_)|(show SW _ _ _ _ (⟨_,Op.load _ _,_,_,_,none⟩::_) _ _;refine SW.st (st_load rfl (hb1.cell rfl)) rfl ?_))
     exact Post.ret1 rfl rfl ⟨_,rfl,hw,by rw [heapB_t hHM]⟩
 ·rw [heapB_f (fun hh=>hd hh.dims)]
  have hcs:r.Zones.n≠2∨(r.Zones.n=2∧(r.Mins.n≠2∨(r.Mins.n=2 ∧ ¬ (1≤r.Cpus∧r.Cpus≤4)))):=by unfold dimsOk at hd;omega
  rcases hcs with d|⟨d1,d|⟨d2,d⟩⟩
  repeat' (first|(first|refine CW.seq ?_|refine CW.region ?_|refine CW.condtr rfl (by with_reducible rfl) ?_|refine CW.ret ?_)|(first|refine Post.seq ?_|refine Post.seq_ret ?_)|refine SW.nil ?_|(show SW _ _ _ _ (⟨_,_,_,_,_,some _⟩::_) _ _;first|refine SW.want_f rfl rfl (by with_reducible rfl) ?_|refine SW.skip_f rfl rfl (by with_reducible rfl) rfl ?_|refine SW.splitn_t rfl rfl rfl (by omega) ?_|refine SW.splitn_f rfl rfl rfl (by omega) ?_)|refine SW.pure rfl rfl ?_|(show SW _ _ _ _ (⟨_,Op.fieldAddr _ _ _,_,_,_,none⟩::_) _ _;refine SW.st (st_field rfl) rfl ?_)|(show SW _ _ _ _ (⟨_,Op.call ⟨.builtin .len,_,_⟩,_,_,_,none⟩::_) _ _;refine SW.st (st_len rfl) rfl ?_)|(show SW _ _ _ _ (⟨_,Op.load _ _,_,_,_,none⟩::_) _ _;refine SW.st (st_load rfl (hb1.cell rfl)) rfl ?_)|(show SW _ _ _ _ (⟨_,Op.call ⟨.value (.func _),_,_⟩,_,_,_,none⟩::_) _ _;(refine SW.call rfl rfl (In_ans _ _ _ _) ?_;intro v w1 hw1 hv;subst hv;replace hw:=Ext.trans hw hw1;replace hb1:=hb1.ext hw1;clear hw1)))
  all_goals exact Post.ret1 rfl rfl ⟨_,rfl,hw,rfl⟩
end Go.Proofs.YtbidkghlpijecaaGreatDoor
