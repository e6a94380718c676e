/-
  Texts of the claim KmemNew, part 10: what its theorem leans on.
-/
import Derived.Test.YtbidkghlpijecaaGreatDoorPackKmemNew9
import Derived.Test.YtbidkghlpijecaaGreatDoorPackKmemNew6
import Derived.Test.YtbidkghlpijecaaGreatDoorPackKmemNew8
import Derived.Test.YtbidkghlpijecaaGreatDoorPackKmemNew5
set_option linter.unusedVariables false
set_option linter.unusedSimpArgs false
namespace Go.Proofs.YtbidkghlpijecaaGreatDoor
open Go.RowKit
def big64 (z:Zone) : Prop:=(-9223372036854775808≤z.From∧z.From≤9223372036854775807)∧(-9223372036854775808≤z.To∧z.To≤9223372036854775807)
def dimsOk (h:Heap) : Prop:=h.Zones.length=2∧h.Mins.length=2∧1≤h.Cpus∧h.Cpus≤4
instance (h:Heap) : Decidable (dimsOk h):=inferInstanceAs (Decidable (_∧_))
theorem HeapMay.dims {h:Heap} (a:HeapMay h) : dimsOk h:=by
 obtain ⟨z0,z1,e,_⟩:=a.zones
 obtain ⟨m0,m1,e',_⟩:=a.mins
 exact ⟨by rw [e];rfl,by rw [e'];rfl,a.cpus⟩
structure FrontOk (h:Heap) (z0 z1:Zone) : Prop where
 one:ZoneMay z0
 two:ZoneMay z1
 from_:z0.From=0
 mid:z0.To=z1.From
 to_:z1.To=256
 mins:h.Mins.any outM=false
theorem HeapMay.front {h:Heap} {z0 z1:Zone} (a:HeapMay h) (e:h.Zones=[z0,z1]) : FrontOk h z0 z1:=by
 obtain ⟨y0,y1,e',a1,a2,a3,a4,a5,_⟩:=a.zones
 rw [e] at e'
 simp only [List.cons.injEq,and_true] at e'
 obtain ⟨rfl,rfl⟩:=e'
 obtain ⟨m0,m1,e',b1,b2⟩:=a.mins
 exact ⟨a1,a2,a3,a4,a5,by rw [e'];simp [outM];omega⟩
def marksS (h:Heap) (z0 z1:Zone) : Option (List Block):=addAll (some []) (z0.Free++z1.Free)
theorem HeapMay.rest {h:Heap} {z0 z1:Zone} (a:HeapMay h) (e:h.Zones=[z0,z1]) : ListsOk h.Cpus z0.To h.Lists∧LiveOk h.Live∧(addAll (addAll (marksS h z0 z1) (pagesB h.Lists)) h.Live).isSome=true:=by
 obtain ⟨y0,y1,e',a1,a2,a3,a4,a5,a6,a7⟩:=a.zones
 rw [e] at e'
 simp only [List.cons.injEq,and_true] at e'
 obtain ⟨rfl,rfl⟩:=e'
 refine ⟨a6,a.live,?_⟩
 rw [addAll_append,addAll_append] at a7
 exact a7
theorem HeapMay.of {h:Heap} {z0 z1:Zone} (e:h.Zones=[z0,z1]) (hd:dimsOk h) (hf:FrontOk h z0 z1) (h1:ListsOk h.Cpus z0.To h.Lists) (h2:LiveOk h.Live) (h3:(addAll (addAll (marksS h z0 z1) (pagesB h.Lists)) h.Live).isSome=true) : HeapMay h:=by
 refine ⟨⟨z0,z1,e,hf.one,hf.two,hf.from_,hf.mid,hf.to_,h1,?_⟩,?_,hd.2.2,h2⟩
 ·rw [addAll_append,addAll_append];exact h3
 ·obtain ⟨m0,m1,em⟩:=two_of hd.2.1
  have:=hf.mins
  rw [em] at this
  simp [outM] at this
  exact ⟨m0,m1,em,by omega,by omega⟩
set_option maxHeartbeats 8000000 in
theorem Pcheck_ans (r:HRow) (h:Heap) (w:World) (hr:RdH w r h) (hs:h.small) (hzn:∀ z∈h.Zones,big64 z) :
 Ans Tryz.prog 88 [.agg (encH r).toArray] w fun v _=>v = .int .i64 (if heapB h then 0 else 8):=by
 refine ans_of Tryz.func88 rfl Tryz.ntmps88 rfl ?_
 refine CW.seq (CW.region (SW.box rfl rfl fun b1 w1 hw hb1b hb1 => ?_))
 have hcp:=hr.cpus
 have hml:=hr.mins.len
 obtain ⟨zs0,hzs⟩:=hr.zones
 obtain ⟨hzl0,hzl⟩:=hzs.len
 clear hzs hzl0 zs0
 by_cases hd:dimsOk h
 ·obtain ⟨d1,d2,d3⟩:=id hd
  obtain ⟨r0,r1,z0,z1,hr2⟩:=hr.two d1
  have hze:=hr2.eq
  have hA:=hr2.row.base
  have hb0:=hzn z0 (by rw [hze];simp)
  have hb1':=hzn z1 (by rw [hze];simp)
  have s0:=hs.free z0 (by rw [hze];simp)
  have s1:=hs.free z1 (by rw [hze];simp)
  have eF0:=hr2.z0.from_
  have eT0:=hr2.z0.to_
  have eF1:=hr2.z1.from_
  have eT1:=hr2.z1.to_
  have l0:=hr2.z0.free.len
  have l1:=hr2.z1.free.len
  have t0:=hr2.z0.types.len
  have t1:=hr2.z1.types.len
  unfold big64 at hb0 hb1'
  obtain ⟨q0,hq0⟩ : ∃ q,zoneB z0=q:=⟨_,rfl⟩
  obtain ⟨q1,hq1⟩ : ∃ q,zoneB z1=q:=⟨_,rfl⟩
  have c0:∀ w',Ext w w'→Ans Tryz.prog 176 [.agg (encZ r0).toArray] w' fun v _=>v = .int .i64 (if q0 then 0 else 8):=fun w' hx=>by
   have:=Zcheck_ans r0 z0 w' (hr2.z0.ext hx) (by omega) (by omega) (by omega) (by omega)
   rwa [hq0] at this
  have c1:∀ w',Ext w w'→Ans Tryz.prog 176 [.agg (encZ r1).toArray] w' fun v _=>v = .int .i64 (if q1 then 0 else 8):=fun w' hx=>by
   have:=Zcheck_ans r1 z1 w' (hr2.z1.ext hx) (by omega) (by omega) (by omega) (by omega)
   rwa [hq1] at this
  have hzz:(q0=true∧q1=true)∨(q0=false)∨(q0=true∧q1=false):=by cases q0<;>cases q1<;>simp
  rcases hzz with ⟨rfl,rfl⟩|rfl|⟨rfl,rfl⟩
  all_goals simp only [if_true,Bool.false_eq_true,if_false] at c0 c1
  repeat' (first|(first|refine CW.seq ?_|refine CW.region ?_|refine CW.condtr rfl (by with_reducible rfl) ?_|refine CW.condn_t rfl (by omega) ?_|refine CW.condn_f rfl (by omega) ?_|refine CW.skip ?_|refine CW.ret ?_)|(first|refine Post.seq ?_|refine Post.seq_ret ?_)|refine SW.nil ?_|(show SW _ _ _ _ (⟨_,_,_,_,_,some _⟩::_) _ _;first|refine SW.want_f rfl rfl (by with_reducible rfl) ?_|refine SW.skip_f rfl rfl (by with_reducible rfl) rfl ?_|refine SW.splitd_f rfl rfl rfl (by omega) ?_|refine SW.splitn_t rfl rfl rfl (by omega) ?_|refine SW.splitn_f rfl rfl rfl (by omega) ?_)|refine SW.pure rfl rfl ?_|(show SW _ _ _ _ (⟨_,Op.fieldAddr _ _ _,_,_,_,none⟩::_) _ _;refine SW.st (st_field rfl) rfl ?_)|(show SW _ _ _ _ (⟨_,Op.indexAddr _ _ _,_,_,_,none⟩::_) _ _;first|refine SW.st (st_indexI (0) rfl rfl (by assumption) (by omega) (by omega)) rfl ?_|refine SW.st (st_indexI (1) rfl rfl (by assumption) (by omega) (by omega)) rfl ?_)|(show SW _ _ _ _ (⟨_,Op.call ⟨.builtin .len,_,_⟩,_,_,_,none⟩::_) _ _;refine SW.st (st_len rfl) rfl ?_)|(show SW _ _ _ _ (⟨_,Op.load _ _,_,_,_,none⟩::_) _ _;first|refine SW.st (st_load rfl (hb1.cell rfl)) rfl ?_|refine SW.st (st_loadsx hw rfl rfl ((hr2.c0))) rfl ?_|refine SW.st (st_loadsx hw rfl rfl ((hr2.c1))) rfl ?_)|(show SW _ _ _ _ (⟨_,Op.call ⟨.value (.func _),_,_⟩,_,_,_,none⟩::_) _ _;first|(refine SW.call rfl rfl (c0 _ hw) ?_;intro v w1 hw1 hv;subst hv;replace hw:=Ext.trans hw hw1;replace hb1:=hb1.ext hw1;clear hw1)|(refine SW.call rfl rfl (c1 _ hw) ?_;intro v w1 hw1 hv;subst hv;replace hw:=Ext.trans hw hw1;replace hb1:=hb1.ext hw1;clear hw1)))
  rotate_left
  ·exact Post.ret1 rfl rfl ⟨_,rfl,hw,by rw [heapB_f (fun hh=>by have:=zoneB_iff.2 (hh.front hze).one;rw [hq0] at this;cases this)];rfl⟩
  ·exact Post.ret1 rfl rfl ⟨_,rfl,hw,by rw [heapB_f (fun hh=>by have:=zoneB_iff.2 (hh.front hze).two;rw [hq1] at this;cases this)];rfl⟩
  clear c0 c1
  have hz0:=zoneB_iff.1 hq0
  have hz1:=zoneB_iff.1 hq1
  have cO:∀ w',Ext w w'→Ans Tryz.prog 96 [.slice r.Mins.A r.Mins.n r.Mins.c,.func (.func 177) #[] ([] : List Value).toArray] w' fun v _=>v = .bool (h.Mins.any outM):=fun w' h =>
   ContainsFuncInt_ans _ _ _ _ _ (hr.mins.ext h) _ [] outM (fun x => .int .i64 x) (fun x=>rfl) (fun x _ w1 _=>Pout_ans x w1) (by omega)
  obtain ⟨qm,hqm⟩ : ∃ q,h.Mins.any outM=q:=⟨_,rfl⟩
  rw [hqm] at cO
  have hcs:(r0.From=0∧r0.To=r1.From∧r1.To=256∧qm=false)∨r0.From≠0∨(r0.From=0∧r0.To≠r1.From)∨(r0.From=0∧r0.To=r1.From∧r1.To≠256)∨(r0.From=0∧r0.To=r1.From∧r1.To=256∧qm=true):=by cases qm<;>simp<;>omega
  rcases hcs with ⟨d1,d2,d3,rfl⟩|d|⟨d1,d⟩|⟨d1,d2,d⟩|⟨d1,d2,d3,rfl⟩
  repeat' (first|(first|refine CW.seq ?_|refine CW.region ?_|refine CW.condtr rfl (by with_reducible rfl) ?_|refine CW.condfr rfl (by with_reducible rfl) ?_|refine CW.skip ?_|refine CW.ret ?_|(apply CW.quiet1 mixed;(· kernel_rfl);rotate_left;intro w1 hw1;replace hw:=Ext.trans hw hw1;replace hb1:=hb1.ext hw1;clear hw1;rotate_right))|(first|refine Post.seq ?_|refine Post.seq_ret ?_)|refine SW.nil ?_|(show SW _ _ _ _ (⟨_,_,_,_,_,some _⟩::_) _ _;first|refine SW.want_f rfl rfl (by with_reducible rfl) ?_|refine SW.skip_f rfl rfl (by with_reducible rfl) rfl ?_|refine SW.splitn_t rfl rfl rfl (by omega) ?_|refine SW.splitn_f rfl rfl rfl (by omega) ?_)|refine SW.pure rfl rfl ?_|(show SW _ _ _ _ (⟨_,Op.fieldAddr _ _ _,_,_,_,none⟩::_) _ _;refine SW.st (st_field rfl) rfl ?_)|(show SW _ _ _ _ (⟨_,Op.build _ _,_,_,_,none⟩::_) _ _;refine SW.st (st_build rfl rfl) rfl ?_)|(show SW _ _ _ _ (⟨_,Op.indexAddr _ _ _,_,_,_,none⟩::_) _ _;first|refine SW.st (st_indexI (0) rfl rfl (by assumption) (by omega) (by omega)) rfl ?_|refine SW.st (st_indexI (1) rfl rfl (by assumption) (by omega) (by omega)) rfl ?_)|(show SW _ _ _ _ (⟨_,Op.load _ _,_,_,_,none⟩::_) _ _;first|refine SW.st (st_load rfl (hb1.cell rfl)) rfl ?_|refine SW.st (st_loadx hw rfl (hr2.c0 0 _ rfl)) rfl ?_|refine SW.st (st_loadx hw rfl (hr2.c0 1 _ rfl)) rfl ?_|refine SW.st (st_loadx hw rfl (hr2.c1 0 _ rfl)) rfl ?_|refine SW.st (st_loadx hw rfl (hr2.c1 1 _ rfl)) rfl ?_)|(show SW _ _ _ _ (⟨_,Op.call ⟨.value (.func _),_,_⟩,_,_,_,none⟩::_) _ _;refine SW.qcall rfl rfl (fun w1 hw1=>(cO _ (Ext.trans hw hw1))) ?_)|exact SW.qnil rfl)
  rotate_left
  iterate 3 exact Post.ret1 rfl rfl ⟨_,rfl,hw,by rw [heapB_f (fun hh=>by have:=hh.front hze;have:=this.from_;have:=(hh.front hze).mid;have:=(hh.front hze).to_;omega)];rfl⟩
  ·exact Post.ret1 rfl rfl ⟨_,rfl,hw,by rw [heapB_f (fun hh=>by have:=(hh.front hze).mins;rw [hqm] at this;cases this)];rfl⟩
  have hfr:FrontOk h z0 z1:=⟨hz0,hz1,by omega,by omega,by omega,hqm⟩
  clear cO
  have hn:=hr2.n
  have hfree:∀ z∈h.Zones,∀ b∈z.Free,0≤b.Order∧b.Order≤4:=fun z hz b hb=>by
   obtain ⟨i,hi,rfl⟩:=List.getElem_of_mem hb
   rw [hze] at hz
   simp only [List.mem_cons,List.not_mem_nil,or_false] at hz
   rcases hz with rfl|rfl
   ·exact ⟨(hz0.blk i hi).1.1,(hz0.blk i hi).1.2.1⟩
   ·exact ⟨(hz1.blk i hi).1.1,(hz1.blk i hi).1.2.1⟩
  have hgF:∀ k,goodS (addAll (some []) ((h.Zones.take k).flatMap Zone.Free)):=fun k=>goodS_all goodS_nil fun x hx=>by
   obtain ⟨z,hz,hx⟩:=List.mem_flatMap.1 hx
   have:=hfree z (List.mem_of_mem_take hz) x hx
   exact (pw_le this.1 this.2).1
  refine SW.box rfl rfl fun b3 w2 hw2 hb3b hb3 => ?_
  have hb3w:w.heap.size≤b3:=Nat.le_trans hw.size hb3b
  have hM:Marks w2 b3 256 (some []):=by
   refine Eq.mp (congrArg (fun c=>Blk w2 b3 224 c) ?_) hb3
   kernel_rfl
  clear hb3
  (replace hw:=Ext.trans hw hw2;replace hb1:=hb1.ext hw2)
  repeat' (first|(first|refine CW.seq ?_|refine CW.region ?_|refine CW.block ?_)|(refine Post.seq ?_)|refine SW.nil ?_|refine SW.pure rfl rfl ?_|(show SW _ _ _ _ (⟨_,Op.fieldAddr _ _ _,_,_,_,none⟩::_) _ _;refine SW.st (st_field rfl) rfl ?_)|(show SW _ _ _ _ (⟨_,Op.call ⟨.builtin .len,_,_⟩,_,_,_,none⟩::_) _ _;refine SW.st (st_len rfl) rfl ?_)|(show SW _ _ _ _ (⟨_,Op.load _ _,_,_,_,none⟩::_) _ _;refine SW.st (st_load rfl (hb1.cell rfl)) rfl ?_))
  refine CW.loop (fun k:Nat=>[(1,.pointer (some ⟨b1,0,none⟩)),(3,.pointer (some ⟨b3,0,none⟩)),(81,.slice r.Zones.A r.Zones.n r.Zones.c),(82,.int .i64 (r.Zones.n:Int)),(83,.int .i64 (k:Int))])
   (fun k w'=>k≤2∧Ext w w'∧Blk w' b1 41 (encH r)∧Marks w' b3 256 (addAll (some []) ((h.Zones.take k).flatMap Zone.Free))) (fun k=>2-k) 0
   ⟨rfl,rfl,rfl,rfl,rfl,trivial⟩ ⟨by omega,hw,hb1,hM⟩ ?_
  clear hw hb1 hM hw2
  rintro k w' ⟨hk,hw,hb1,hM⟩
  by_cases hk2:k<2
  ·have hkz:k<h.Zones.length:=by omega
   have hrow:=hr2.row.all (i:=k) (by omega)
   have hrz:RdZ w ([r0,r1][k]'(by simpa using hk2)) h.Zones[k]:=by
    simp only [hze]
    have:k=0∨k=1:=by omega
    rcases this with rfl|rfl
    ·exact hr2.z0
    ·exact hr2.z1
   generalize hrk:([r0,r1][k]'(by simpa using hk2))=rk at hrow hrz
   have hfk:=hfree h.Zones[k] (List.getElem_mem _)
   have hsk:=hs.free h.Zones[k] (List.getElem_mem _)
   have htk:(h.Zones.take (k+1)).flatMap Zone.Free=(h.Zones.take k).flatMap Zone.Free++h.Zones[k].Free:=by
    rw [List.take_succ_eq_append_getElem hkz,List.flatMap_append];simp
   generalize h.Zones[k]=zk at hrz hfk hsk htk
   have hAk:=hrz.free.base
   have hlk:=hrz.free.len
   repeat' (first|(first|refine CW.seq ?_|refine CW.region ?_|refine CW.block ?_|refine CW.condd_t rfl (by omega) ?_|refine CW.skip ?_)|(refine Post.seq ?_)|refine SW.nil ?_|refine SW.pure rfl rfl ?_|(show SW _ _ _ _ (⟨_,Op.indexAddr _ _ _,_,_,_,none⟩::_) _ _;refine SW.st (st_indexN rfl rfl (by assumption) (by omega)) rfl ?_)|(show SW _ _ _ _ (⟨_,Op.load _ _,_,_,_,none⟩::_) _ _;refine SW.st (st_loadsx hw rfl rfl ((hrow))) rfl ?_))
   refine SW.alloc rfl fun b5 w1 hw1 hb5b hb5 => ?_
   skip
   refine SW.storeAgg hb5 rfl rfl rfl rfl (one_z _) fun w2 hb5' hg => ?_
   have hXX:=hw1.own hb5b hg
   have hb5w:w.heap.size≤b5:=Nat.le_trans hw.size hb5b
   replace hw:=Ext.trans hw hXX
   replace hb1:=hb1.ext hXX
   replace hM:=hM.ext hXX
   replace hb5:=hb5'
   clear hb5' hw1 hg hXX
   repeat' (first|(first|refine CW.seq ?_|refine CW.region ?_|refine CW.block ?_)|(refine Post.seq ?_)|refine SW.nil ?_|refine SW.pure rfl rfl ?_|(show SW _ _ _ _ (⟨_,Op.fieldAddr _ _ _,_,_,_,none⟩::_) _ _;refine SW.st (st_field rfl) rfl ?_)|(show SW _ _ _ _ (⟨_,Op.call ⟨.builtin .len,_,_⟩,_,_,_,none⟩::_) _ _;refine SW.st (st_len rfl) rfl ?_)|(show SW _ _ _ _ (⟨_,Op.load _ _,_,_,_,none⟩::_) _ _;refine SW.st (st_load rfl (hb5.cell rfl)) rfl ?_))
   refine CW.loop (fun j:Nat=>[(1,.pointer (some ⟨b1,0,none⟩)),(3,.pointer (some ⟨b3,0,none⟩)),(81,.slice r.Zones.A r.Zones.n r.Zones.c),(82,.int .i64 (r.Zones.n:Int)),(83,.int .i64 (k:Int)),(88,.slice rk.Free.A rk.Free.n rk.Free.c),(89,.int .i64 (rk.Free.n:Int)),(90,.int .i64 (j:Int))])
    (fun j w'=>j≤rk.Free.n∧Ext w w'∧Blk w' b1 41 (encH r)∧Marks w' b3 256 (addAll (addAll (some []) ((h.Zones.take k).flatMap Zone.Free)) (zk.Free.take j))) (fun j=>rk.Free.n-j) 0
    ⟨rfl,rfl,rfl,rfl,rfl,rfl,rfl,rfl,trivial⟩ ⟨by omega,hw,hb1,hM⟩ ?_
   clear hw hb1 hM hb5 hb5b hb5w
   rintro j w' ⟨hj,hw,hb1,hM⟩
   by_cases hjn:j<rk.Free.n
   ·have hjl:j<zk.Free.length:=by omega
    obtain ⟨o1,o2⟩:=hfk zk.Free[j] (List.getElem_mem _)
    have hp:=pw_le o1 o2
    repeat' (first|(first|refine CW.seq ?_|refine CW.region ?_|refine CW.block ?_|refine CW.condd_t rfl (by omega) ?_|refine CW.skip ?_)|(refine Post.seq ?_)|refine SW.nil ?_|refine SW.pure rfl rfl ?_|(show SW _ _ _ _ (⟨_,Op.indexAddr _ _ _,_,_,_,none⟩::_) _ _;refine SW.st (st_indexN rfl rfl (by assumption) (by omega)) rfl ?_)|(show SW _ _ _ _ (⟨_,Op.load _ _,_,_,_,none⟩::_) _ _;refine SW.st (st_loadsx hw rfl rfl ((hrz.free.all hjn))) rfl ?_))
    refine SW.alloc rfl fun b7 w1 hw1 hb7b hb7 => ?_
    skip
    refine SW.storeAgg hb7 rfl rfl rfl rfl (Enc.one (enc:=encBk) _) fun w2 hb7' hg => ?_
    have hXX:=hw1.own hb7b hg
    have hb7w:w.heap.size≤b7:=Nat.le_trans hw.size hb7b
    replace hw:=Ext.trans hw hXX
    replace hb1:=hb1.ext hXX
    replace hM:=hM.ext hXX
    replace hb7:=hb7'
    clear hb7' hw1 hg hXX
    repeat' (first|(refine Post.seq ?_)|refine SW.nil ?_)
    refine CW.any 6 mixed (rb_tail (by kernel_rfl)) rfl fun w1 hw1 hRB => ?_
    replace hw:=Ext.trans hw hw1;replace hb1:=hb1.ext hw1;replace hM:=hM.ext hw1;replace hb7:=hb7.ext hw1;clear hw1
    refine SA.take 0 hRB rfl (by kernel_rfl) (by kernel_rfl) rfl ?_
    repeat (refine SW.pure rfl rfl ?_)
    refine SW.tknil ?_
    refine SA.take 1 hRB rfl (by kernel_rfl) (by kernel_rfl) rfl ?_
    repeat ((show SW _ _ _ _ (⟨_,Op.fieldAddr _ _ _,_,_,_,none⟩::_) _ _;refine SW.st (st_field rfl) rfl ?_))
    refine SW.tknil ?_
    refine SA.take 2 hRB rfl (by kernel_rfl) (by kernel_rfl) rfl ?_
    repeat ((show SW _ _ _ _ (⟨_,Op.load _ _,_,_,_,none⟩::_) _ _;refine SW.st (st_load rfl (hb7.cell rfl)) rfl ?_))
    refine SW.tknil ?_
    refine SA.take 3 hRB rfl (by kernel_rfl) (by kernel_rfl) rfl ?_
    repeat ((show SW _ _ _ _ (⟨_,Op.fieldAddr _ _ _,_,_,_,none⟩::_) _ _;refine SW.st (st_field rfl) rfl ?_))
    refine SW.tknil ?_
    refine SA.take 4 hRB rfl (by kernel_rfl) (by kernel_rfl) rfl ?_
    repeat ((show SW _ _ _ _ (⟨_,Op.load _ _,_,_,_,none⟩::_) _ _;refine SW.st (st_load rfl (hb7.cell rfl)) rfl ?_))
    refine SW.tknil ?_
    refine SA.take 5 hRB rfl (by kernel_rfl) (by kernel_rfl) rfl ?_
    repeat ((refine SW.st (st_shl (r:=pw zk.Free[j].Order) rfl rfl (by omega) (by omega) (by simp [pw]) (by omega) (by omega)) rfl ?_))
    refine SW.tknil ?_
    refine SA.done (by kernel_rfl) ?_
    refine SW.callX rfl rfl (markB_ans b3 _ zk.Free[j] 256 rfl _ hM (goodS_all (hgF k) fun x hx=>by have:=hfk x (List.mem_of_mem_take hx);exact (pw_le this.1 this.2).1) ⟨by omega,by omega⟩) fun v w5 hv => ?_
    obtain ⟨hM2,hg5⟩:=hv
    have hG:=hM.gr hg5
    replace hw:=hw.own hb3w hg5
    (replace hb1:=hb1.grT hG rfl)
    rw [← addAll_take _ _ _ hjl] at hM2
    repeat' (first|(refine CW.region ?_)|(first|refine Post.seq ?_|refine Post.blk ?_|refine Post.np ?_)|refine SW.nil ?_|refine SW.pure rfl rfl ?_|(show SW _ _ _ _ (⟨_,Op.binOp _ _ _ _ _,_,_,_,none⟩::_) _ _;refine SW.st (st_add rfl rfl (by omega) (by omega)) rfl ?_))
    exact Post.again (j+1) ⟨rfl,rfl,rfl,rfl,rfl,rfl,rfl,rfl,trivial⟩ (by omega) ⟨by omega,hw,hb1,hM2⟩
   ·obtain rfl:j=rk.Free.n:=by omega
    rw [List.take_of_length_le (l:=zk.Free) (by omega),← addAll_append,← htk] at hM
    repeat' (first|(first|refine CW.seq ?_|refine CW.region ?_|refine CW.condd_f rfl (by omega) ?_|refine CW.exit ?_)|(first|refine Post.seq ?_|refine Post.seq_exit ?_|refine Post.hit ?_|refine Post.blk ?_|refine Post.again_exit ?_)|refine SW.nil ?_|refine SW.pure rfl rfl ?_|(show SW _ _ _ _ (⟨_,Op.binOp _ _ _ _ _,_,_,_,none⟩::_) _ _;refine SW.st (st_add rfl rfl (by omega) (by omega)) rfl ?_))
    exact Post.again (k+1) ⟨rfl,rfl,rfl,rfl,rfl,trivial⟩ (by omega) ⟨by omega,hw,hb1,hM⟩
  ·obtain rfl:k=2:=by omega
   have hgS:=hgF 2
   have hms:addAll (some []) ((h.Zones.take 2).flatMap Zone.Free)=marksS h z0 z1:=by rw [hze];simp [marksS]
   rw [hms] at hM hgS
   repeat' (first|(first|refine CW.seq ?_|refine CW.region ?_|refine CW.condd_f rfl (by omega) ?_|refine CW.exit ?_)|(first|refine Post.seq ?_|refine Post.seq_exit ?_|refine Post.hit ?_|refine Post.again_exit ?_)|refine SW.nil ?_|refine SW.pure rfl rfl ?_|(show SW _ _ _ _ (⟨_,Op.load _ _,_,_,_,none⟩::_) _ _;refine SW.st (st_loads rfl rfl ((fun _ _=>hb1.cell))) rfl ?_))
   obtain ⟨ls,hls⟩:=hr.lists
   have hll:=hls.len.2
   have hsl:=hs.lists
   clear hls ls
   refine SW.callX rfl rfl (lists_ans r h r0 r1 z0 z1 b3 256 rfl (marksS h z0 z1) w _ hw hb3w hr2 hM hgS (by omega)) fun v w5 hv => ?_
   obtain ⟨hw5,hg5,hres⟩:=hv
   have hG:=hM.gr hg5
   replace hw:=hw5
   (replace hb1:=hb1.grT hG rfl)
   clear hM hw5 hg5 hG
   rcases hres with ⟨rfl,hL,hM⟩|⟨rfl,hno⟩
   rotate_left
   ·repeat' (first|(first|refine CW.seq ?_|refine CW.region ?_|refine CW.condt rfl ?_|refine CW.ret ?_)|(first|refine Post.seq ?_|refine Post.seq_ret ?_)|refine SW.nil ?_|refine SW.pure rfl rfl ?_)
    exact Post.ret1 rfl rfl ⟨_,rfl,hw,by rw [heapB_f (fun hh=>hno ⟨(hh.rest hze).1,addAll_some_of (m:=h.Live) (by rw [addAll_append];exact (hh.rest hze).2.2)⟩)];rfl⟩
   have hgL:goodS (addAll (marksS h z0 z1) (pagesB h.Lists)):=goodS_all hgS fun x hx=>by
    unfold pagesB at hx
    obtain ⟨y,_,hy⟩:=List.mem_flatMap.1 hx
    obtain ⟨p,_,rfl⟩:=List.mem_map.1 hy
    simp [pageB,pw_zero]
   have hrest:HeapMay h→(addAll (addAll (marksS h z0 z1) (pagesB h.Lists)) h.Live).isSome=true:=fun hh=>(hh.rest hze).2.2
   have hof:LiveOk h.Live→(addAll (addAll (marksS h z0 z1) (pagesB h.Lists)) h.Live).isSome=true→HeapMay h:=fun a b=>HeapMay.of hze hd hfr hL a b
   generalize addAll (marksS h z0 z1) (pagesB h.Lists)=S at hM hgL hrest hof
   have hlv:=hr.live
   have hvl:=hr.live.len
   have hAv:=hr.live.base
   have hsv:=hs.live
   repeat' (first|(first|refine CW.seq ?_|refine CW.region ?_|refine CW.block ?_|refine CW.condd_f rfl (by omega) ?_|refine CW.skip ?_)|(refine Post.seq ?_)|refine SW.nil ?_|refine SW.pure rfl rfl ?_|(show SW _ _ _ _ (⟨_,Op.fieldAddr _ _ _,_,_,_,none⟩::_) _ _;refine SW.st (st_field rfl) rfl ?_)|(show SW _ _ _ _ (⟨_,Op.call ⟨.builtin .len,_,_⟩,_,_,_,none⟩::_) _ _;refine SW.st (st_len rfl) rfl ?_)|(show SW _ _ _ _ (⟨_,Op.load _ _,_,_,_,none⟩::_) _ _;refine SW.st (st_load rfl (hb1.cell rfl)) rfl ?_))
   refine CW.loop (fun k:Nat=>[(1,.pointer (some ⟨b1,0,none⟩)),(3,.pointer (some ⟨b3,0,none⟩)),(108,.slice r.Live.A r.Live.n r.Live.c),(109,.int .i64 (r.Live.n:Int)),(110,.int .i64 (k:Int))])
    (fun k w'=>k≤r.Live.n∧Ext w w'∧Blk w' b1 41 (encH r)∧Marks w' b3 256 (addAll S (h.Live.take k))∧VPre h.Live k) (fun k=>r.Live.n-k) 0
    ⟨rfl,rfl,rfl,rfl,rfl,trivial⟩ ⟨by omega,hw,hb1,hM,.nil _⟩ ?_
   clear hw hb1 hM
   rintro k w' ⟨hk,hw,hb1,hM,hP⟩
   by_cases hkn:k<r.Live.n
   ·have hkl:k<h.Live.length:=by omega
    have hk1:k-1<r.Live.n:=by omega
    have hmay:HeapMay h→liveOk h.Live[k]∧(0<k→(h.Live[k-1]'(by omega)).At<h.Live[k].At):=fun hh=>⟨hh.live.each k hkl,fun h0=>by
     have:=hh.live.next (k-1) (by omega)
     simpa only [show k-1+1=k by omega] using this⟩
    have hprev:=hlv.fld hk1 (j:=0) rfl
    repeat' (first|(first|refine CW.seq ?_|refine CW.region ?_|refine CW.block ?_|refine CW.condd_t rfl (by omega) ?_|refine CW.skip ?_)|(refine Post.seq ?_)|refine SW.nil ?_|refine SW.pure rfl rfl ?_|(show SW _ _ _ _ (⟨_,Op.indexAddr _ _ _,_,_,_,none⟩::_) _ _;refine SW.st (st_indexN rfl rfl (by assumption) (by omega)) rfl ?_)|(show SW _ _ _ _ (⟨_,Op.load _ _,_,_,_,none⟩::_) _ _;refine SW.st (st_loadsx hw rfl rfl ((hlv.all hkn))) rfl ?_))
    refine SW.alloc rfl fun b9 w1 hw1 hb9b hb9 => ?_
    repeat' (refine SW.pure rfl rfl ?_)
    refine SW.storeAgg hb9 rfl rfl rfl rfl (Enc.one (enc:=encBk) _) fun w2 hb9' hg => ?_
    have hXX:=hw1.own hb9b hg
    have hb9w:w.heap.size≤b9:=Nat.le_trans hw.size hb9b
    replace hw:=Ext.trans hw hXX
    replace hb1:=hb1.ext hXX
    replace hM:=hM.ext hXX
    replace hb9:=hb9'
    clear hb9' hw1 hg hXX
    repeat' (first|(refine CW.seq ?_)|(refine Post.seq ?_)|refine SW.nil ?_)
    have hsn:liveC h.Live[k]→(0<k→(h.Live[k-1]'(by omega)).At<h.Live[k].At)→VPre h.Live (k+1):=fun a b=>hP.snoc hkl a fun h0=>b h0
    have htk:=addAll_take S h.Live k hkl
    generalize hbb:h.Live[k]=bb at hb9 hmay hsn htk
    generalize hpv:(h.Live[k-1]'(by omega)).At=pv at hmay hsn hprev
    simp only [liveC,liveOk,tyOk] at hmay hsn
    have hp:bb.Order<0∨4<bb.Order∨(1≤pw bb.Order∧pw bb.Order≤16):=by
     by_cases h1 : 0≤bb.Order
     ·by_cases h2:bb.Order≤4
      ·exact .inr (.inr (pw_le h1 h2))
      ·omega
     ·omega
    have em:bb.At<0∨bb.At.tmod (pw bb.Order)=bb.At % pw bb.Order:=by
     by_cases h1 : 0≤bb.At
     ·exact .inr (Int.tmod_eq_emod_of_nonneg h1)
     ·omega
    have hcs:bb.Order<0∨(0≤bb.Order∧(4<bb.Order∨(bb.Order≤4∧(bb.At<0∨(0≤bb.At∧(bb.At.tmod (pw bb.Order)≠0∨(bb.At.tmod (pw bb.Order)=0∧(bb.Ty<0∨(0≤bb.Ty∧(3≤bb.Ty∨(bb.Ty<3∧((0<k∧bb.At≤pv)∨k=0∨(0<k∧pv<bb.At)))))))))))) ):=by omega
    rcases hcs with d|⟨d1,d|⟨d2,d|⟨d3,d|⟨d4,d|⟨d5,d|⟨d6,⟨hk0,d⟩|hk0|⟨hk0,d⟩⟩⟩⟩⟩⟩⟩
    all_goals (apply CW.quiet1 mixed;(· kernel_rfl);rotate_left;intro w1 hw1;replace hw:=Ext.trans hw hw1;replace hb1:=hb1.ext hw1;replace hb9:=hb9.ext hw1;replace hM:=hM.ext hw1;clear hw1;rotate_right)
    repeat' (first|(first|refine CW.seq ?_|refine CW.region ?_|refine CW.condtr rfl (by with_reducible rfl) ?_|refine CW.condfr rfl (by with_reducible rfl) ?_|refine CW.condd_t rfl (by omega) ?_|refine CW.condd_f rfl (by omega) ?_|refine CW.skip ?_|refine CW.ret ?_)|(first|refine Post.seq ?_|refine Post.seq_ret ?_|refine Post.blk_ret ?_|refine Post.again_ret ?_)|refine SW.nil ?_|(show SW _ _ _ _ (⟨_,_,_,_,_,some _⟩::_) _ _;first|refine SW.want_t rfl rfl (by with_reducible rfl) ?_|refine SW.want_f rfl rfl (by with_reducible rfl) ?_|refine SW.skip_t rfl rfl (by with_reducible rfl) rfl ?_|refine SW.skip_f rfl rfl (by with_reducible rfl) rfl ?_|refine SW.skip_u rfl rfl (by with_reducible rfl) rfl ?_|refine SW.splitd_t rfl rfl rfl (by omega) ?_|refine SW.splitd_f rfl rfl rfl (by omega) ?_|refine SW.splitn_t rfl rfl rfl (by omega) ?_|refine SW.splitn_f rfl rfl rfl (by omega) ?_)|refine SW.pure rfl rfl ?_|(show SW _ _ _ _ (⟨_,Op.fieldAddr _ _ _,_,_,_,none⟩::_) _ _;refine SW.st (st_field rfl) rfl ?_)|(show SW _ _ _ _ (⟨_,Op.binOp _ _ _ _ _,_,_,_,none⟩::_) _ _;first|refine SW.st (st_sub rfl rfl (by omega) (by omega)) rfl ?_|refine SW.st (st_rem rfl rfl (by omega)) rfl ?_)|(show SW _ _ _ _ (⟨_,Op.indexAddr _ _ _,_,_,_,none⟩::_) _ _;refine SW.st (st_indexI (k-1) rfl rfl (by assumption) (by omega) (by omega)) rfl ?_)|(show SW _ _ _ _ (⟨_,Op.load _ _,_,_,_,none⟩::_) _ _;first|refine SW.st (st_load rfl (hb9.cell rfl)) rfl ?_|refine SW.st (st_load rfl (hb1.cell rfl)) rfl ?_|refine SW.st (st_loadx hw rfl hprev) rfl ?_)|(refine SW.st (st_shl (r:=pw bb.Order) rfl rfl (by omega) (by omega) (by simp [pw]) (by omega) (by omega)) rfl ?_)|exact SW.qnil rfl)
    iterate 7 exact Post.ret1 rfl rfl ⟨_,rfl,hw,by rw [heapB_f (fun hh=>by have:=hmay hh;omega)];rfl⟩
    all_goals
     replace hsn:=hsn ⟨⟨d1,d2⟩,d3,by omega,by omega⟩ (fun h0=>by omega)
     refine CW.any 6 mixed (rb_tail (by kernel_rfl)) rfl fun w1 hw1 hRB => ?_
     replace hw:=Ext.trans hw hw1;replace hb1:=hb1.ext hw1;replace hM:=hM.ext hw1;replace hb9:=hb9.ext hw1;clear hw1
     refine SA.take 0 hRB rfl (by kernel_rfl) (by kernel_rfl) rfl ?_
     repeat (refine SW.pure rfl rfl ?_)
     refine SW.tknil ?_
     refine SA.take 1 hRB rfl (by kernel_rfl) (by kernel_rfl) rfl ?_
     repeat ((show SW _ _ _ _ (⟨_,Op.fieldAddr _ _ _,_,_,_,none⟩::_) _ _;refine SW.st (st_field rfl) rfl ?_))
     refine SW.tknil ?_
     refine SA.take 2 hRB rfl (by kernel_rfl) (by kernel_rfl) rfl ?_
     repeat ((show SW _ _ _ _ (⟨_,Op.load _ _,_,_,_,none⟩::_) _ _;refine SW.st (st_load rfl (hb9.cell rfl)) rfl ?_))
     refine SW.tknil ?_
     refine SA.take 3 hRB rfl (by kernel_rfl) (by kernel_rfl) rfl ?_
     repeat ((show SW _ _ _ _ (⟨_,Op.fieldAddr _ _ _,_,_,_,none⟩::_) _ _;refine SW.st (st_field rfl) rfl ?_))
     refine SW.tknil ?_
     refine SA.take 4 hRB rfl (by kernel_rfl) (by kernel_rfl) rfl ?_
     repeat ((show SW _ _ _ _ (⟨_,Op.load _ _,_,_,_,none⟩::_) _ _;refine SW.st (st_load rfl (hb9.cell rfl)) rfl ?_))
     refine SW.tknil ?_
     refine SA.take 5 hRB rfl (by kernel_rfl) (by kernel_rfl) rfl ?_
     repeat ((refine SW.st (st_shl (r:=pw bb.Order) rfl rfl (by omega) (by omega) (by simp [pw]) (by omega) (by omega)) rfl ?_))
     refine SW.tknil ?_
     refine SA.done (by kernel_rfl) ?_
     refine SW.callX rfl rfl (markB_ans b3 _ bb 256 rfl _ hM (goodS_all hgL fun x hx=>by
      obtain ⟨i,hi,rfl⟩:=List.getElem_of_mem hx
      rw [List.getElem_take]
      have:=(hP.each i (by simp at hi;omega) (by simp at hi;omega)).1
      exact (pw_le this.1 this.2).1) ⟨by omega,by omega⟩) fun v w5 hv => ?_
     obtain ⟨hM2,hg5⟩:=hv
     have hG:=hM.gr hg5
     replace hw:=hw.own hb3w hg5
     (replace hb1:=hb1.grT hG rfl)
     rw [← htk] at hM2
     repeat' (first|(refine CW.region ?_)|(first|refine Post.seq ?_|refine Post.blk ?_|refine Post.np ?_)|refine SW.nil ?_|refine SW.pure rfl rfl ?_|(show SW _ _ _ _ (⟨_,Op.binOp _ _ _ _ _,_,_,_,none⟩::_) _ _;refine SW.st (st_add rfl rfl (by omega) (by omega)) rfl ?_))
     exact Post.again (k+1) ⟨rfl,rfl,rfl,rfl,rfl,trivial⟩ (by omega) ⟨by omega,hw,hb1,hM2,hsn⟩
   ·obtain rfl:k=r.Live.n:=by omega
    rw [List.take_of_length_le (by omega)] at hM
    have hbad:=hM.bad rfl
    cases hS:addAll S h.Live with
    | none =>
      rw [hS] at hbad
      repeat' (first|(first|refine CW.seq ?_|refine CW.region ?_|refine CW.condd_f rfl (by omega) ?_|refine CW.condt rfl ?_|refine CW.ret ?_|refine CW.exit ?_)|(first|refine Post.seq ?_|refine Post.seq_ret ?_|refine Post.seq_exit ?_|refine Post.hit ?_|refine Post.again_exit ?_)|refine SW.nil ?_|refine SW.pure rfl rfl ?_|(show SW _ _ _ _ (⟨_,Op.fieldAddr _ _ _,_,_,_,none⟩::_) _ _;refine SW.st (st_field rfl) rfl ?_)|(show SW _ _ _ _ (⟨_,Op.nilCheck _,_,_,_,none⟩::_) _ _;refine SW.st (st_nilCheck rfl) rfl ?_)|(show SW _ _ _ _ (⟨_,Op.load _ _,_,_,_,none⟩::_) _ _;refine SW.st (st_load rfl hbad) rfl ?_))
      exact Post.ret1 rfl rfl ⟨_,rfl,hw,by rw [heapB_f (fun hh=>by have:=hrest hh;rw [hS] at this;cases this)];rfl⟩
    | some bs =>
      rw [hS] at hbad
      repeat' (first|(first|refine CW.seq ?_|refine CW.region ?_|refine CW.condd_f rfl (by omega) ?_|refine CW.condf rfl ?_|refine CW.skip ?_|refine CW.ret ?_|refine CW.exit ?_)|(first|refine Post.seq ?_|refine Post.seq_exit ?_|refine Post.hit ?_|refine Post.again_exit ?_)|refine SW.nil ?_|refine SW.pure rfl rfl ?_|(show SW _ _ _ _ (⟨_,Op.fieldAddr _ _ _,_,_,_,none⟩::_) _ _;refine SW.st (st_field rfl) rfl ?_)|(show SW _ _ _ _ (⟨_,Op.nilCheck _,_,_,_,none⟩::_) _ _;refine SW.st (st_nilCheck rfl) rfl ?_)|(show SW _ _ _ _ (⟨_,Op.load _ _,_,_,_,none⟩::_) _ _;refine SW.st (st_load rfl hbad) rfl ?_))
      exact Post.ret1 rfl rfl ⟨_,rfl,hw,by rw [heapB_t (hof (hP.ok (s:=S) (by omega) (by rw [hS];rfl)) (by rw [hS];rfl))];rfl⟩
 ·rw [heapB_f (fun hh=>hd hh.dims)]
  have hcs:r.Zones.n≠2∨(r.Zones.n=2∧(r.Mins.n≠2∨(r.Mins.n=2∧(r.Cpus<1∨(1≤r.Cpus∧4<r.Cpus))))):=by unfold dimsOk at hd;omega
  rcases hcs with d|⟨d1,d|⟨d2,d|⟨d3,d⟩⟩⟩
  repeat' (first|(first|refine CW.seq ?_|refine CW.region ?_|refine CW.condtr rfl (by with_reducible rfl) ?_|refine CW.ret ?_)|(first|refine Post.seq ?_|refine Post.seq_ret ?_)|refine SW.nil ?_|(show SW _ _ _ _ (⟨_,_,_,_,_,some _⟩::_) _ _;first|refine SW.want_f rfl rfl (by with_reducible rfl) ?_|refine SW.skip_f rfl rfl (by with_reducible rfl) rfl ?_|refine SW.splitd_t rfl rfl rfl (by omega) ?_|refine SW.splitd_f rfl rfl rfl (by omega) ?_|refine SW.splitn_t rfl rfl rfl (by omega) ?_|refine SW.splitn_f rfl rfl rfl (by omega) ?_)|refine SW.pure rfl rfl ?_|(show SW _ _ _ _ (⟨_,Op.fieldAddr _ _ _,_,_,_,none⟩::_) _ _;refine SW.st (st_field rfl) rfl ?_)|(show SW _ _ _ _ (⟨_,Op.call ⟨.builtin .len,_,_⟩,_,_,_,none⟩::_) _ _;refine SW.st (st_len rfl) rfl ?_)|(show SW _ _ _ _ (⟨_,Op.load _ _,_,_,_,none⟩::_) _ _;refine SW.st (st_load rfl (hb1.cell rfl)) rfl ?_))
  all_goals exact Post.ret1 rfl rfl ⟨_,rfl,hw,rfl⟩
open Go.RowKit
theorem countP_lt {α : Type} {p q : α → Bool}:∀ {l:List α},(∀ x∈l,p x=true→q x=true)→(∃ x∈l,p x=false∧q x=true)→l.countP p<l.countP q
 | [],_,h=>by obtain ⟨x,hx,_⟩:=h;simp at hx
 | a::l,h1,h2=>by
   rw [List.countP_cons,List.countP_cons]
   have hle:l.countP p≤l.countP q:=List.countP_mono_left (fun x hx=>h1 x (by simp [hx]))
   obtain ⟨x,hx,hp,hq⟩:=h2
   rcases List.mem_cons.1 hx with rfl|hx
   ·simp [hp,hq];omega
   ·have ih:=countP_lt (l:=l) (fun y hy=>h1 y (by simp [hy])) ⟨x,hx,hp,hq⟩
    have:=h1 a (by simp)
    cases hpa:p a<;>cases hqa:q a<;>simp [hpa,hqa] at this ⊢<;>omega
theorem addAll_len:∀ {l:List Block} {cs bs:List Block},(∀ b∈l,1≤pw b.Order)→addAll (some cs) l=some bs→cs.length≤(List.range 256).countP (covP cs)→(∀ x∈cs,0≤x.At∧1≤pw x.Order)→bs.length≤(List.range 256).countP (covP bs)
 | [],cs,bs,_,h,hc,_=>by injection h with h;subst h;exact hc
 | b::l,cs,bs,hp,h,hc,hg=>by
   have h':addAll (addB (some cs) b) l=some bs:=h
   cases e:addB (some cs) b with
   | none=>rw [e,addAll_none] at h';cases h'
   | some ds =>
     rw [e] at h'
     obtain ⟨cs',e1,hf,rfl⟩:=addB_some e
     injection e1 with e1
     subst e1
     have h1:=hp b (by simp)
     have hok:=(okM_iff hg h1).2 hf
     refine addAll_len (fun x hx=>hp x (by simp [hx])) h' ?_ (fun x hx => ?_)
     ·have:=countP_lt (p:=covP cs) (q:=covP (cs++[b])) (l:=List.range 256) (fun x _ hx=>by simp only [covP,List.any_append,Bool.or_eq_true] at hx ⊢;exact .inl hx)
       ⟨b.At.toNat,by simp;have:=hf.1;have:=hf.2.1;omega,hok.2.2.2 _ (by have:=hf.1;omega) (by have:=hf.1;omega),by
        simp only [covP,List.any_append,Bool.or_eq_true]
        right
        have:=hf.1
        simp [inB]
        omega⟩
      simp
      omega
     ·rcases List.mem_append.1 hx with hx|hx
      ·exact hg x hx
      ·simp at hx;subst hx;exact ⟨hf.1,h1⟩
theorem addAll_256 {l bs:List Block} (hp:∀ b∈l,1≤pw b.Order) (h:addAll (some []) l=some bs) : bs.length≤256:=by
 have:=addAll_len hp h (by simp) (fun x hx=>by simp at hx)
 have h2:(List.range 256).countP (covP bs)≤(List.range 256).length:=List.countP_le_length
 simp at h2
 omega
section
variable {P:Program} {n:Nat} {ops:Array Oper} {Q:Exit→Act→World→Prop} {rest:List Oper} {L:Env} {w:World}
theorem SW.callvX {d:Nat} {fo:Operand} {f:FuncId} {cap:List Value} {xs:List Operand} {vs:List Value} {ts:Array TypeId} {T:TypeId} {pos:String} {af:Array Edge} {R:Value→World→Prop}
 [Body P f] (hf:opv L fo=some (.func (.func f) #[] cap.toArray)) (hx:opvs L xs=some vs) (hn:Nat.blt d n=true) (hc:AnsX P f (vs++cap) w R) (h:∀ v w',R v w'→SW P n ops (.eff Q) rest ((d,v)::L) w') :
 SW P n ops (.eff Q) (⟨some d,.call ⟨.value fo,xs.toArray,ts⟩,T,pos,af,none⟩::rest) L w :=
 ⟨fun a ha=>by
  simp only [swp,wpList,Region.wanted,if_true]
  refine .inl ?_
  unfold Oper.wp
  rw [run_callv (ha.eval hf),Oper.upon_enter,ha.evals hx]
  refine Calls.mono hc.out ?_
  rintro e w' ⟨v,rfl,hv⟩
  exact (h v w' hv).out _ (ha.put hn v)⟩
end
structure Kp (w w':World) : Prop where
 k:∀ (g:Nat) (t:TypeId) (cs:List Value),Blk w g t cs→Nat.beq 165 t=false→Nat.beq 39 t=false→Blk w' g t cs
theorem Kp.refl (w:World) : Kp w w:=⟨fun _ _ _ h _ _=>h⟩
theorem Kp.ext {w w1 w2:World} (h:Kp w w1) (hx:Ext w1 w2) : Kp w w2:=⟨fun g t cs hb h1 h2=>(h.k g t cs hb h1 h2).ext hx⟩
theorem Kp.grB {w w1 w2:World} (h:Kp w w1) (hG:GrT w1 w2 165) : Kp w w2:=⟨fun g t cs hb h1 h2=>(h.k g t cs hb h1 h2).grT hG h1⟩
theorem Kp.grS {w w1 w2:World} (h:Kp w w1) (hG:GrT w1 w2 39) : Kp w w2:=⟨fun g t cs hb h1 h2=>(h.k g t cs hb h1 h2).grT hG h2⟩
structure AllS (w:World) (lo b:Nat) (l:List Block) : Prop where
 ex:∃ A c,Blk w b 39 [.slice A l.length c]∧Own w lo 165 3 encBk A l.length c l
theorem AllS.ext {w w':World} {lo b:Nat} {l:List Block} (h:AllS w lo b l) (hx:Ext w w') : AllS w' lo b l:=by
 obtain ⟨A,c,h1,h2⟩:=h.ex
 exact ⟨A,c,h1.ext hx,h2.ext hx⟩
theorem add_0 (b:Nat) : (⟨b,0,none⟩ : Addr).add 0=⟨b,0,none⟩:=by unfold Addr.add;simp
theorem Blk.cell0 {w:World} {b:Nat} {t:TypeId} {cs:List Value} (h:Blk w b t cs) {v:Value} (hv:cs[0]?=some v) : w.cell? ⟨b,0,none⟩=some v:=by
 rw [← add_0];exact h.cell hv
def AddRes (w wE:World) (b:Nat) (l:List Block) (x:Block) (v:Value) (w':World) : Prop:=Ext w w'∧Kp wE w'∧((v = .bool true∧fitsL l x∧AllS w' w.heap.size b (l++[x]))∨(v = .bool false ∧ ¬ fitsL l x∧AllS w' w.heap.size b l))
set_option maxHeartbeats 4000000 in
theorem addC_ans (b:Nat) (l:List Block) (x:Block) (w wE:World) (hw:Ext w wE) (hbw:w.heap.size≤b) (hS:AllS wE w.heap.size b l) (hall:∀ y∈l,blkOk 0 256 y) (hlen:l.length≤256) (hx:blkOk 0 256 x) :
 AnsX Tryz.prog 196 [.agg (encBk x).toArray,.pointer (some ⟨b,0,none⟩)] wE (AddRes w wE b l x):=by
 refine ansx_of Tryz.func196 rfl Tryz.ntmps196 rfl ?_
 have hK:=Kp.refl wE
 obtain ⟨A,c,hB,hO⟩:=hS.ex
 clear hS
 obtain ⟨⟨o1,o2,a1,a2,a3⟩,ty⟩:=id hx
 have hp:=pw_le o1 o2
 refine CW.seq (CW.region (SW.box rfl rfl fun b2 w2 hw2 hb2b hb2 => ?_))
 (replace hw:=Ext.trans hw hw2;replace hB:=hB.ext hw2;replace hO:=hO.ext hw2;replace hK:=hK.ext hw2)
 have hB0:=hB.cell0 rfl
 have cO:∀ w',Ext w w'→Sl w' 3 encBk A l.length l→Ans Tryz.prog 197 [.slice A l.length c,.int .i64 x.At,.int .i64 x.Order] w' fun v _=>v = .bool (overB l x.At x.Order):=fun w' _ h =>
  overlaps_ans _ _ _ _ 0 256 _ _ _ h hall (by omega) (by omega) (by omega) ⟨by omega,by omega⟩ ⟨o1,o2⟩
 obtain ⟨q,hq⟩ : ∃ q,overB l x.At x.Order=q:=⟨_,rfl⟩
 rw [hq] at cO
 have hcs:(q=true)∨(q=false∧256<x.At+pw x.Order)∨(q=false∧x.At+pw x.Order≤256):=by cases q<;>simp<;>omega
 rcases hcs with rfl|⟨rfl,d⟩|⟨rfl,d⟩
 repeat' (first|(first|refine CW.seq ?_|refine CW.region ?_|refine CW.condtr rfl (by with_reducible rfl) ?_|refine CW.condd_t rfl (by omega) ?_|refine CW.condd_f rfl (by omega) ?_|refine CW.skip ?_|refine CW.ret ?_|(apply CW.quiet1 mixed;(· kernel_rfl);rotate_left;intro w1 hw1;replace hw:=Ext.trans hw hw1;replace hB:=hB.ext hw1;replace hO:=hO.ext hw1;replace hb2:=hb2.ext hw1;replace hK:=hK.ext hw1;clear hw1;rotate_right))|(first|refine Post.seq ?_|refine Post.seq_ret ?_)|refine SW.nil ?_|(show SW _ _ _ _ (⟨_,_,_,_,_,some _⟩::_) _ _;first|refine SW.want_f rfl rfl (by with_reducible rfl) ?_|refine SW.skip_f rfl rfl (by with_reducible rfl) rfl ?_|refine SW.splitd_f rfl rfl rfl (by omega) ?_)|refine SW.pure rfl rfl ?_|(show SW _ _ _ _ (⟨_,Op.fieldAddr _ _ _,_,_,_,none⟩::_) _ _;refine SW.st (st_field rfl) rfl ?_)|(show SW _ _ _ _ (⟨_,Op.binOp _ _ _ _ _,_,_,_,none⟩::_) _ _;refine SW.st (st_add rfl rfl (by omega) (by omega)) rfl ?_)|(show SW _ _ _ _ (⟨_,Op.load _ _,_,_,_,none⟩::_) _ _;first|refine SW.st (st_load rfl hB0) rfl ?_|refine SW.st (st_load rfl (hb2.cell rfl)) rfl ?_)|(show SW _ _ _ _ (⟨_,Op.call ⟨.value (.func _),_,_⟩,_,_,_,none⟩::_) _ _;first|refine SW.qcall rfl rfl (fun w1 hw1=>(cO _ (Ext.trans hw hw1) (hO.sl.ext hw1))) ?_|refine SW.qcall rfl rfl (fun w1 hw1=>(power_ans _ (by omega) _)) ?_)|exact SW.qnil rfl)
 iterate 2 exact Post.ret1 rfl rfl ⟨_,rfl,hw,hK,.inr ⟨rfl,fun hf=>by have h1:=hf.2.1;have h2:=hf.2.2;simp [hq] at h2<;>omega,⟨A,c,hB,hO⟩⟩⟩
 have hB1:=hB.cell0 rfl
 repeat' ((show SW _ _ _ _ (⟨_,Op.load _ _,_,_,_,none⟩::_) _ _;first|refine SW.st (st_load rfl hB1) rfl ?_|refine SW.st (st_loads rfl rfl ((fun _ _=>hb2.cell))) rfl ?_))
 refine SW.build1 rfl rfl rfl rfl rfl fun b4 w4 hXX hb4 hB4 => ?_
 (replace hw:=Ext.trans hw hXX;replace hB:=hB.ext hXX;replace hO:=hO.ext hXX;replace hK:=hK.ext hXX)
 refine SW.append hO (Blk.sl1 (enc:=encBk) hB4) hw.size rfl rfl rfl (by omega) (by omega) fun A2 c2 w5 hO2 hg => ?_
 have hG:=hO.gr hg
 replace hw:=ext_grown hw hg (Nat.le_refl _) hO.row_ge
 replace hK:=hK.grB hG
 (replace hB:=hB.grT hG rfl)
 refine SW.storeB (i:=0) hB (by rw [add_0];rfl) rfl rfl rfl fun w6 hB' hg => ?_
 have hG:=hB.gr hg
 replace hw:=hw.own hbw hg
 replace hK:=hK.grS hG
 (replace hO2:=hO2.grT hG rfl)
 repeat' (first|(first|refine CW.seq ?_|refine CW.region ?_|refine CW.ret ?_)|(refine Post.seq ?_)|refine SW.nil ?_|refine SW.pure rfl rfl ?_)
 exact Post.ret1 rfl rfl ⟨_,rfl,hw,hK,.inl ⟨rfl,⟨a1,d,hq⟩,⟨A2,c2,by simpa using hB',by simpa using hO2⟩⟩⟩
theorem live_lt {l:List Block} (h:LiveOk l) : l.Pairwise fun x y=>x.At<y.At:=by
 have key:∀ (d i:Nat) (hj:i+d+1<l.length),(l[i]'(by omega)).At<l[i+d+1].At:=by
  intro d
  induction d with
  | zero=>intro i hj;exact h.next i hj
  | succ d ih=>intro i hj;exact Int.lt_trans (ih i (by omega)) (h.next (i+d+1) (by omega))
 rw [List.pairwise_iff_getElem]
 intro i j hi hj hij
 have:=key (j-i-1) i (by omega)
 have e:i+(j-i-1)+1=j:=by omega
 simp only [e] at this
 exact this
theorem found_at {l:List Block} {a:Int} (h:foundA l a=true) : ∃ hk:lbOf l a<l.length,l[lbOf l a].At=a:=by
 unfold foundA at h
 split at h
 ·rename_i hk;exact ⟨hk,of_decide_eq_true h⟩
 ·cases h
theorem found_uniq {l:List Block} (hu:l.Pairwise fun x y=>x.At<y.At) {a:Int} {k:Nat} (hk:k<l.length) (h:l[k].At=a) : lbOf l a=k∧foundA l a=true:=by
 rw [List.pairwise_iff_getElem] at hu
 have e:lbOf l a=k:=lb_spec (by omega) (fun j hj hjk=>by have:=hu j k hj hk hjk;omega) (fun _=>by omega)
 refine ⟨e,?_⟩
 unfold foundA
 simp only [e,dif_pos hk]
 exact decide_eq_true h
theorem found_none {l:List Block} {a:Int} (h:∀ (k:Nat) (hk:k<l.length),l[k].At≠a) : foundA l a=false:=by
 unfold foundA
 split
 ·rename_i hk;exact decide_eq_false (h _ hk)
 ·rfl
theorem mul_bd {x y:Int} (h1 : 0≤x) (h2:x≤64) (h3 : 0≤y) (h4:y≤64) : 0≤x*y∧x*y≤4096 :=
 ⟨Int.mul_nonneg h1 h3,by have:=Int.mul_le_mul h2 h4 h3 (by omega:(0:Int)≤64);omega⟩
def objB (size per t a:Int) : Bool:=decide (0≤a-t*16) && decide (a-t*16<per*size) && decide ((a-t*16) % size=0)
theorem objB_hit {size per t a:Int} {k:Nat} (hs : 1≤size) (hk:(k:Int)<per) (h:a=16*t+k*size) : objB size per t a=true:=by
 have e:a-t*16=k*size:=by omega
 unfold objB
 rw [e,decide_eq_true (Int.mul_nonneg (by omega) (by omega)),decide_eq_true (Int.mul_lt_mul_of_pos_right hk (by omega)),decide_eq_true (Int.mul_emod_left _ _)]
 rfl
theorem objB_miss {size per t a:Int} (hs : 1≤size) (h:∀ k:Nat,(k:Int)<per→a≠16*t+k*size) : objB size per t a=false:=by
 cases e:objB size per t a
 ·rfl
 ·exfalso
  unfold objB at e
  simp only [Bool.and_eq_true,decide_eq_true_eq] at e
  obtain ⟨⟨e1,e2⟩,e3⟩:=e
  have h1:(a-t*16) / size<per:=Int.ediv_lt_of_lt_mul (by omega) e2
  have h2 : 0≤(a-t*16) / size:=Int.ediv_nonneg e1 (by omega)
  have h3:=Int.mul_ediv_add_emod (a-t*16) size
  obtain ⟨k,hk⟩:=Int.eq_ofNat_of_zero_le h2
  rw [hk] at h1 h3
  rw [e3,Int.mul_comm] at h3
  exact h k h1 (by omega)
def ChainIs (ws:List Int) (size per:Int) (x:Slab) (out:List Int) : Prop:=Follows ws per x.First [] (some out)∧(out.length:Int)=x.Free ∧ ∀ a∈out,objB size per x.At a=true
theorem Follows.mem {l:List Int} {most x:Int} {acc:List Int} {r:Option (List Int)} (h:Follows l most x acc r) : (∀ a∈acc,0≤a∧a<(l.length:Int)) → ∀ out,r=some out → ∀ a∈out,0≤a∧a<(l.length:Int):=by
 induction h with
 | done out=>intro ha o e;cases e;exact ha
 | bad=>intro _ _ e;cases e
 | @step k out r h1 hk h3 h ih =>
   intro ha o e
   refine ih (fun a hm => ?_) o e
   rcases List.mem_append.1 hm with hm|hm
   ·exact ha a hm
   ·simp at hm;subst hm;exact ⟨by omega,by omega⟩
def ordA (l:List Block) (a:Int) : Int:=if foundA l a then (l.getD (lbOf l a) ⟨0,0,0⟩).Order else -1
theorem ordA_t {l:List Block} {a:Int} (h:foundA l a=true) (hk:lbOf l a<l.length) : ordA l a=l[lbOf l a].Order:=by
 unfold ordA
 rw [if_pos h]
 simp [List.getD,hk]
theorem ordA_f {l:List Block} {a:Int} (h:foundA l a=false) : ordA l a = -1:=by
 unfold ordA
 rw [h]
 rfl
structure SlabMay (s:KSystem) (c:KCache) (i:Nat) (h:i<c.Slabs.length) : Prop where
 live:ordA s.Heap.Live c.Slabs[i].At=c.Order
 next : 0<i→(c.Slabs[i-1]'(by omega)).At<c.Slabs[i].At
 chain:∃ out,ChainIs s.Words c.Size c.Per c.Slabs[i] out
def atB (t:Int) (x:Slab) : Bool:=decide (x.At=t)
def ActMay (c:KCache) (i:Nat) (h:i<c.Active.length) : Prop:=c.Active[i] = -1∨(c.Active[i]∉c.Active.take i∧c.Slabs.any (atB c.Active[i])=true)
structure CacheMay (s:KSystem) (c:KCache) : Prop where
 lay:layoutF c.Size=(c.Order,c.Per,0)
 names : 0<c.Names.length
 active:(c.Active.length:Int)=s.Heap.Cpus
 slabs:∀ (i:Nat) (h:i<c.Slabs.length),SlabMay s c i h
 acts:∀ (i:Nat) (h:i<c.Active.length),ActMay c i h
noncomputable def cacheB (s:KSystem) (c:KCache) : Bool := @decide (CacheMay s c) (Classical.propDecidable _)
theorem cacheB_t {s:KSystem} {c:KCache} (a:CacheMay s c) : cacheB s c=true:=by unfold cacheB;exact @decide_eq_true _ (Classical.propDecidable _) a
theorem cacheB_f {s:KSystem} {c:KCache} (a : ¬ CacheMay s c) : cacheB s c=false:=by unfold cacheB;exact @decide_eq_false _ (Classical.propDecidable _) a
theorem cacheB_iff {s:KSystem} {c:KCache}:cacheB s c=true↔CacheMay s c:=by
 by_cases a:CacheMay s c
 ·simp [cacheB_t a,a]
 ·simp [cacheB_f a,a]
theorem layoutF_ok {x o n:Int} (h:layoutF x=(o,n,0)) : (1≤x∧x≤64)∧(0≤o∧o≤2)∧(1≤n∧n≤64):=by
 unfold layoutF at h
 split at h
 ·rename_i hx
  have k1 : 64 / x≤64:=Int.ediv_le_self _ (by omega)
  have k2 : 1≤64 / x:=by rw [Int.le_ediv_iff_mul_le (by omega)];omega
  have k3 : 16 / x≤16:=Int.ediv_le_self _ (by omega)
  have k4 : 32 / x≤32:=Int.ediv_le_self _ (by omega)
  split at h
  ·simp only [Prod.mk.injEq] at h
   omega
  ·split at h
   ·simp only [Prod.mk.injEq] at h
    omega
   ·simp only [Prod.mk.injEq] at h
    omega
 ·simp only [Prod.mk.injEq] at h
  omega
def namesAhead (cs:List KCache) : List ByteArray:=cs.flatMap fun c=>c.Names
def slabsAhead (cs:List KCache) : List Int:=cs.flatMap fun c=>c.Slabs.map fun x=>x.At
structure NamesIn (acc l:List ByteArray) : Prop where
 each:∀ (k:Nat) (h:k<l.length),nameB l[k]=true∧l[k]∉acc++l.take k∧(0<k→lessS (l[k-1]'(by omega)) l[k]=true)
def SlabsIn (acc:List Int) (l:List Slab) : Prop := ∀ (k:Nat) (h:k<l.length),l[k].At∉acc++(l.take k).map fun x=>x.At
structure CacheIn (s:KSystem) (i:Nat) (h:i<s.Caches.length) : Prop where
 may:CacheMay s s.Caches[i]
 size:∀ (j:Nat) (hj:j<i),(s.Caches[j]'(by omega)).Size≠s.Caches[i].Size
 names:NamesIn (namesAhead (s.Caches.take i)) s.Caches[i].Names
 slabs:SlabsIn (slabsAhead (s.Caches.take i)) s.Caches[i].Slabs
structure SystemMay (s:KSystem) : Prop where
 words:s.Words.length=4096
 heap:HeapMay s.Heap
 most:s.Caches.length≤20
 each:∀ (i:Nat) (h:i<s.Caches.length),CacheIn s i h
noncomputable def sysB (s:KSystem) : Bool := @decide (SystemMay s) (Classical.propDecidable _)
theorem sysB_t {s:KSystem} (a:SystemMay s) : sysB s=true:=by unfold sysB;exact @decide_eq_true _ (Classical.propDecidable _) a
theorem sysB_f {s:KSystem} (a : ¬ SystemMay s) : sysB s=false:=by unfold sysB;exact @decide_eq_false _ (Classical.propDecidable _) a
theorem sysB_iff {s:KSystem}:sysB s=true↔SystemMay s:=by
 by_cases a:SystemMay s
 ·simp [sysB_t a,a]
 ·simp [sysB_f a,a]
theorem namesAhead_take (cs:List KCache) (i:Nat) (h:i<cs.length) : namesAhead (cs.take (i+1))=namesAhead (cs.take i)++cs[i].Names:=by
 unfold namesAhead
 rw [List.take_succ_eq_append_getElem h,List.flatMap_append]
 simp
theorem slabsAhead_take (cs:List KCache) (i:Nat) (h:i<cs.length) : slabsAhead (cs.take (i+1))=slabsAhead (cs.take i)++cs[i].Slabs.map fun x=>x.At:=by
 unfold slabsAhead
 rw [List.take_succ_eq_append_getElem h,List.flatMap_append]
 simp
end Go.Proofs.YtbidkghlpijecaaGreatDoor
