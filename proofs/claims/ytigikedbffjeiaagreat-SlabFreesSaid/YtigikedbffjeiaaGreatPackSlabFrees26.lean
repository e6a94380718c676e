/-
  Texts of the claim SlabFrees, part 26: what its theorem leans on.
-/
import Derived.Test.YtigikedbffjeiaaGreatPackSlabFrees24
import Derived.Test.YtigikedbffjeiaaGreatPackSlabFrees25
set_option linter.unusedVariables false
set_option linter.unusedSimpArgs false
namespace Go.Proofs.YtigikedbffjeiaaGreat
open Go.RowKit
theorem idle_ans (u:CRow) (c:KCache) (x:Slab) (w:World) (hr:RdC w u c) (hn:u.Active.n≤9223372036854775807) :
  Ans Tryz.prog 24 [.agg (encC u).toArray,.agg (encSb x).toArray] w fun v _=>v = .bool (idleB c x):=by
 refine ans_of Tryz.func24 rfl Tryz.ntmps24 rfl ?_
 refine CW.seq (CW.region (SW.box rfl rfl fun b2 w1 hw hb2b hb2 => ?_))
 refine SW.box rfl rfl fun b3 w3 hw3 hb3b hb3 => ?_
 (replace hw:=Ext.trans hw hw3;replace hb2:=hb2.ext hw3)
 obtain ⟨q,hq⟩ : ∃ q,decide (x.At∈c.Active)=q:=⟨_,rfl⟩
 have cC:∀ w',Ext w w'→Ans Tryz.prog 45 [.slice u.Active.A u.Active.n u.Active.c,.int .i64 x.At] w' fun v _=>v = .bool q:=fun w' hx=>by
  have:=ContainsInt_ans _ _ u.Active.c _ x.At _ (hr.active.ext hx) hn
  rwa [hq] at this
 have hper:=hr.per
 by_cases hf:x.Free=c.Per
 ·repeat' (first|(first|refine CW.seq ?_|refine CW.region ?_|refine CW.ret ?_)|(refine Post.seq ?_)|refine SW.nil ?_|(show SW _ _ _ _ (⟨_,_,_,_,_,some _⟩::_) _ _;first|refine SW.want_t rfl rfl (by with_reducible rfl) ?_|refine SW.splitd_t rfl rfl rfl (by omega) ?_)|refine SW.pure rfl rfl ?_|(show SW _ _ _ _ (⟨_,Op.fieldAddr _ _ _,_,_,_,none⟩::_) _ _;refine SW.st (st_field rfl) rfl ?_)|(show SW _ _ _ _ (⟨_,Op.load _ _,_,_,_,none⟩::_) _ _;first|refine SW.st (st_load rfl (hb3.cell (i:=1) (v := .int .i64 x.Free) rfl)) rfl ?_|refine SW.st (st_load rfl (hb2.cell (i:=2) (v := .int .i64 u.Per) rfl)) rfl ?_|refine SW.st (st_load rfl (hb2.cell (i:=5) (v := .slice u.Active.A u.Active.n u.Active.c) rfl)) rfl ?_|refine SW.st (st_load rfl (hb3.cell (i:=0) (v := .int .i64 x.At) rfl)) rfl ?_)|(show SW _ _ _ _ (⟨_,Op.call ⟨.value (.func _),_,_⟩,_,_,_,none⟩::_) _ _;(refine SW.call rfl rfl (cC _ hw) ?_;intro v w1 hw1 hv;subst hv;replace hw:=Ext.trans hw hw1;replace hb2:=hb2.ext hw1;replace hb3:=hb3.ext hw1;clear hw1)))
  all_goals first|(exfalso;omega)|skip
  exact Post.ret1 rfl rfl ⟨_,rfl,hw,by unfold idleB;rw [hq,decide_eq_true hf];simp⟩
 ·repeat' (first|(first|refine CW.seq ?_|refine CW.region ?_|refine CW.ret ?_)|(refine Post.seq ?_)|refine SW.nil ?_|(show SW _ _ _ _ (⟨_,_,_,_,_,some _⟩::_) _ _;first|refine SW.skip_t rfl rfl (by with_reducible rfl) rfl ?_|refine SW.splitd_f rfl rfl rfl (by omega) ?_)|refine SW.pure rfl rfl ?_|(show SW _ _ _ _ (⟨_,Op.fieldAddr _ _ _,_,_,_,none⟩::_) _ _;refine SW.st (st_field rfl) rfl ?_)|(show SW _ _ _ _ (⟨_,Op.load _ _,_,_,_,none⟩::_) _ _;first|refine SW.st (st_load rfl (hb3.cell (i:=1) (v := .int .i64 x.Free) rfl)) rfl ?_|refine SW.st (st_load rfl (hb2.cell (i:=2) (v := .int .i64 u.Per) rfl)) rfl ?_))
  all_goals first|(exfalso;omega)|skip
  exact Post.ret1 rfl rfl ⟨_,rfl,hw,by unfold idleB;rw [decide_eq_false hf];simp⟩
theorem takes_ans (u:CRow) (c:KCache) (t:Int) (w:World) (hr:RdC w u c) (hn:u.Active.n≤9223372036854775807) :
  Ans Tryz.prog 27 [.agg (encC u).toArray,.int .i64 t] w fun v _=>v = .bool (decide (t∈c.Active)):=by
 refine ans_of Tryz.func27 rfl Tryz.ntmps27 rfl ?_
 refine CW.seq (CW.region (SW.box rfl rfl fun b2 w1 hw hb2b hb2 => ?_))
 have hA:=hr.active.base
 have hll:=hr.active.len
 have hl:=hr.active
 repeat' (first|(first|refine CW.seq ?_|refine CW.region ?_|refine CW.block ?_)|(refine Post.seq ?_)|refine SW.nil ?_|refine SW.pure rfl rfl ?_)
 refine CW.loop (fun k:Nat=>[(1,.int .i64 t),(2,.pointer (some ⟨b2,0,none⟩)),(5,.int .i64 (k:Int))]) (fun k w'=>k≤u.Active.n∧Ext w w'∧Blk w' b2 44 (encC u) ∧ ∀ (i:Nat) (h:i<c.Active.length),i<k→c.Active[i]≠t)
  (fun k=>u.Active.n-k) 0 ⟨rfl,rfl,rfl,trivial⟩ ⟨by omega,hw,hb2,fun i h hi=>by omega⟩ ?_
 clear hw hb2
 rintro k w' ⟨hk,hw,hb2,hI⟩
 by_cases hkn:k<u.Active.n
 ·have hkl:k<c.Active.length:=by omega
  by_cases hx:c.Active[k]=t
  ·repeat' (first|(first|refine CW.seq ?_|refine CW.region ?_|refine CW.block ?_|refine CW.condd_t rfl (by omega) ?_|refine CW.skip ?_|refine CW.ret ?_)|(first|refine Post.seq ?_|refine Post.seq_ret ?_|refine Post.blk_ret ?_|refine Post.again_ret ?_)|refine SW.nil ?_|refine SW.pure rfl rfl ?_|(show SW _ _ _ _ (⟨_,Op.fieldAddr _ _ _,_,_,_,none⟩::_) _ _;refine SW.st (st_field rfl) rfl ?_)|(show SW _ _ _ _ (⟨_,Op.indexAddr _ _ _,_,_,_,none⟩::_) _ _;refine SW.st (st_indexN rfl rfl (by assumption) (by omega)) rfl ?_)|(show SW _ _ _ _ (⟨_,Op.call ⟨.builtin .len,_,_⟩,_,_,_,none⟩::_) _ _;refine SW.st (st_len rfl) rfl ?_)|(show SW _ _ _ _ (⟨_,Op.load _ _,_,_,_,none⟩::_) _ _;first|refine SW.st (st_load rfl (hb2.cell (i:=5) (v := .slice u.Active.A u.Active.n u.Active.c) rfl)) rfl ?_|refine SW.st (st_loadx hw rfl (hl.one hkn (congrArg encI (rfl:c.Active[k]=c.Active[k])))) rfl ?_))
   all_goals first|(exfalso;omega)|skip
   exact Post.ret1 rfl rfl ⟨_,rfl,hw,by rw [decide_eq_true (hx ▸ List.getElem_mem hkl)]⟩
  ·repeat' (first|(first|refine CW.seq ?_|refine CW.region ?_|refine CW.block ?_|refine CW.condd_t rfl (by omega) ?_|refine CW.condd_f rfl (by omega) ?_|refine CW.skip ?_)|(first|refine Post.seq ?_|refine Post.blk ?_)|refine SW.nil ?_|refine SW.pure rfl rfl ?_|(show SW _ _ _ _ (⟨_,Op.fieldAddr _ _ _,_,_,_,none⟩::_) _ _;refine SW.st (st_field rfl) rfl ?_)|(show SW _ _ _ _ (⟨_,Op.binOp _ _ _ _ _,_,_,_,none⟩::_) _ _;refine SW.st (st_add rfl rfl (by omega) (by omega)) rfl ?_)|(show SW _ _ _ _ (⟨_,Op.indexAddr _ _ _,_,_,_,none⟩::_) _ _;refine SW.st (st_indexN rfl rfl (by assumption) (by omega)) rfl ?_)|(show SW _ _ _ _ (⟨_,Op.call ⟨.builtin .len,_,_⟩,_,_,_,none⟩::_) _ _;refine SW.st (st_len rfl) rfl ?_)|(show SW _ _ _ _ (⟨_,Op.load _ _,_,_,_,none⟩::_) _ _;first|refine SW.st (st_load rfl (hb2.cell (i:=5) (v := .slice u.Active.A u.Active.n u.Active.c) rfl)) rfl ?_|refine SW.st (st_loadx hw rfl (hl.one hkn (congrArg encI (rfl:c.Active[k]=c.Active[k])))) rfl ?_))
   all_goals first|(exfalso;omega)|skip
   refine Post.again (k+1) ⟨rfl,rfl,rfl,trivial⟩ (by omega) ⟨by omega,hw,hb2,fun i h' hi => ?_⟩
   by_cases hik:i=k
   ·subst hik
    exact hx
   ·exact hI i h' (by omega)
 ·repeat' (first|(first|refine CW.seq ?_|refine CW.region ?_|refine CW.condd_f rfl (by omega) ?_|refine CW.ret ?_|refine CW.exit ?_)|(first|refine Post.seq ?_|refine Post.seq_exit ?_|refine Post.hit ?_|refine Post.again_exit ?_)|refine SW.nil ?_|refine SW.pure rfl rfl ?_|(show SW _ _ _ _ (⟨_,Op.fieldAddr _ _ _,_,_,_,none⟩::_) _ _;refine SW.st (st_field rfl) rfl ?_)|(show SW _ _ _ _ (⟨_,Op.call ⟨.builtin .len,_,_⟩,_,_,_,none⟩::_) _ _;refine SW.st (st_len rfl) rfl ?_)|(show SW _ _ _ _ (⟨_,Op.load _ _,_,_,_,none⟩::_) _ _;refine SW.st (st_load rfl (hb2.cell (i:=5) (v := .slice u.Active.A u.Active.n u.Active.c) rfl)) rfl ?_))
  refine Post.ret1 rfl rfl ⟨_,rfl,hw,?_⟩
  rw [decide_eq_false]
  intro hm
  obtain ⟨i,hi,e⟩:=List.getElem_of_mem hm
  exact hI i hi (by omega) e
theorem SXR.slabsIn {w w':World} {lo:Nat} {r:SRow} {s:KSystem} {cs:List CRow} {i:Nat} {p:Heap×KCache} {l':List Slab} (h:SX w lo r (sysAt s i p) cs) (hi:i<cs.length) (hi':i<s.Caches.length) (hO:Own w' lo 46 3 encSb cs[i].Slabs.A cs[i].Slabs.n cs[i].Slabs.c l') (hg:w.grownBy w' (ownB cs[i].Slabs.A cs[i].Slabs.c)) :
  SX w' lo r (sysAt s i (p.1,⟨p.2.Names,p.2.Size,p.2.Per,p.2.Order,l',p.2.Active⟩)) cs:=by
 have:=h.slabsAt hi hi' hO hg
 have e:cs.set i ⟨cs[i].Names,cs[i].Size,cs[i].Per,cs[i].Order,⟨cs[i].Slabs.A,cs[i].Slabs.n,cs[i].Slabs.c⟩,cs[i].Active⟩=cs:=List.set_getElem_self hi
 rwa [e] at this
theorem countP_take {α : Type} (p : α → Bool) (l:List α) (k:Nat) (hk:k<l.length) : (l.take (k+1)).countP p=(l.take k).countP p+(if p l[k] then 1 else 0):=by
 rw [List.take_succ_eq_append_getElem hk,List.countP_append,List.countP_singleton]
theorem putP_no {s:KSystem} {c:KCache} {k:Nat} {x:Slab} {cpu a:Int} (h:idleB (putC c k x a) ⟨x.At,x.Free+1,a⟩=false) : putP s c k x cpu a=(s.Heap,putC c k x a):=by unfold putP;rw [h];simp
theorem putP_few {s:KSystem} {c:KCache} {k:Nat} {x:Slab} {cpu a:Int} (h : ¬ 1<(putC c k x a).Slabs.countP (idleB (putC c k x a))) : putP s c k x cpu a=(s.Heap,putC c k x a):=by unfold putP;rw [decide_eq_false h];simp
theorem putP_yes {s:KSystem} {c:KCache} {k:Nat} {x:Slab} {cpu a:Int} (h:idleB (putC c k x a) ⟨x.At,x.Free+1,a⟩=true) (h1 : 1<(putC c k x a).Slabs.countP (idleB (putC c k x a))) : putP s c k x cpu a=((freeV s.Heap cpu x.At).2,cutSlab (putC c k x a) k):=by unfold putP;rw [h,decide_eq_true h1];simp
set_option maxHeartbeats 8000000 in
theorem slabFree_ans (r:SRow) (s:KSystem) (n:ByteArray) (cpu a:Int) (w:World) (hr:RdS w r s) (hf:s.fine) (hns:n.size≤140737488351232) (ha : -9223372036854775808≤a∧a≤9223372036854775807) :
  Ans Tryz.prog 10 [.agg (encSys r).toArray,.string n,.int .i64 cpu,.int .i64 a] w fun v w' => ∃ u,PutR s n cpu a u∧SysOut w.heap.size u v w':=by
 refine ans_of Tryz.func10 rfl Tryz.ntmps10 rfl ?_
 refine CW.seq (CW.region (SW.box rfl rfl fun b4 w1 hw hb4b hb4 => ?_))
 refine SW.alloc rfl fun b8 w3 hw3 hb8b hb8 => ?_
 have hb8w:w.heap.size≤b8:=Nat.le_trans hw.size hb8b
 have hne:b8≠b4:=by have:=hb4.lt;omega
 (replace hw:=Ext.trans hw hw3;replace hb4:=hb4.ext hw3)
 repeat' (first|(first|refine CW.seq ?_|refine CW.region ?_)|(refine Post.seq ?_)|refine SW.nil ?_|refine SW.pure rfl rfl ?_|(show SW _ _ _ _ (⟨_,Op.load _ _,_,_,_,none⟩::_) _ _;refine SW.st (st_loads rfl rfl ((fun _ _=>hb4.cell))) rfl ?_))
 refine SW.call rfl rfl (ask_ans r s n cpu _ (hr.ext hw) hf hns) fun v w4 hXX hv => ?_
 have hsz:=hw.size
 (replace hw:=Ext.trans hw hXX;replace hb4:=hb4.ext hXX;replace hb8:=hb8.ext hXX)
 rcases hv with ⟨he,rfl⟩|⟨he,q,cs,rfl,hO,hI⟩
 ·obtain ⟨e,hE⟩ : ∃ e,askV s n cpu=e:=⟨_,rfl⟩
  have hP:=PutR.ask (a:=a) he
  rw [hE] at he hP
  rw [hE]
  repeat' (refine SW.pure rfl rfl ?_)
  refine SW.storeAgg hb4 rfl rfl rfl rfl (one_s .zero) fun w5 hb4' hg => ?_
  replace hb8:=hb8.grown hg (by simpa using hne)
  replace hw:=hw.own hb4b hg
  repeat' (first|(first|refine CW.seq ?_|refine CW.region ?_|refine CW.condn_t rfl (by omega) ?_)|(refine Post.seq ?_)|refine SW.nil ?_|refine SW.pure rfl rfl ?_|(show SW _ _ _ _ (⟨_,Op.build _ _,_,_,_,none⟩::_) _ _;refine SW.st (st_build rfl rfl) rfl ?_))
  all_goals first|(exfalso;omega)|skip
  refine SW.storeAgg hb8 rfl rfl rfl rfl (one_s .zero) fun w6 hR2 hg => ?_
  replace hw:=hw.own hb8w hg
  repeat' (first|(refine CW.ret ?_)|(first|refine Post.seq ?_|refine Post.seq_ret ?_)|refine SW.nil ?_|refine SW.pure rfl rfl ?_)
  exact Post.ret2c rfl rfl rfl hR2 rfl ⟨_,rfl,hw,_,hP,SysOut.zero e _ _⟩
 ·replace hO:=hO.low hsz
  replace hI:=hI.low hsz
  obtain ⟨ix,hix⟩ : ∃ ix,idxOf (hasN n) s.Caches=ix:=⟨_,rfl⟩
  rw [hix]
  repeat' (refine SW.pure rfl rfl ?_)
  refine SW.storeAgg hb4 rfl rfl rfl rfl (one_s q) fun w5 hb4' hg => ?_
  have hG:=hb4.gr hg
  replace hb8:=hb8.grown hg (by simpa using hne)
  replace hw:=hw.own hb4b hg
  (replace hO:=hO.grT hG rfl;replace hI:=hI.grT hG rfl)
  replace hb4:=hb4'
  clear hb4' hG hg
  repeat' (first|(first|refine CW.seq ?_|refine CW.region ?_|refine CW.condn_f rfl (by omega) ?_|refine CW.skip ?_)|(refine Post.seq ?_)|refine SW.nil ?_|refine SW.pure rfl rfl ?_|(show SW _ _ _ _ (⟨_,Op.load _ _,_,_,_,none⟩::_) _ _;refine SW.st (st_loads rfl rfl ((fun _ _=>hb4.cell))) rfl ?_))
  refine SW.call rfl rfl (Find_ans q s a _ hO.ownS.rd hf ha) fun v w6 hXX hv => ?_
  obtain ⟨⟨j,k,e⟩,hF,rfl⟩:=hv
  (replace hw:=Ext.trans hw hXX;replace hb4:=hb4.ext hXX;replace hb8:=hb8.ext hXX;replace hO:=hO.ext hXX;replace hI:=hI.ext hXX)
  simp only [findV]
  by_cases hh:e=0∧j=ix
  ·obtain ⟨rfl,rfl⟩:=hh
   have hF0:=hF
   obtain ⟨i,k',rfl,rfl,hq,hA,hfr⟩:=hF.hitAt
   have hi:=hA.hi
   have hk:=hA.hk
   have hM:=sysB_iff.1 hq
   have hat:=hit_at hM hA
   have hP:=PutR.put he hF0 hix hi hk
   have hm:=hM.most
   obtain ⟨an,rfl⟩:=Int.eq_ofNat_of_zero_le hat.1
   have hwl:=hM.words
   have e0:=sysAt_self hi
   have h1:=hf.hok
   have h2:=hf.cok hi
   obtain ⟨x,hx⟩ : ∃ x,s.Caches[i].Slabs[k']=x:=⟨_,rfl⟩
   have h2':=h2.put hk (an:Int)
   rw [hx] at hfr hP h2'
   have hO1:=hO
   have hqw:=hO.words.len
   obtain ⟨e1,e2⟩:=hO.len
   have hic:i<cs.length:=by omega
   have hin:i<q.Caches.n:=by omega
   have hAc:=hO.row.sl.base
   have hAw:=hO.words.sl.base
   have hC:=hO.each.get i hic hi
   have q1:=hC.slabs.len
   have q2:=h2.small.slabs
   have q3:=hC.active.len
   have q4:=h2.small.active
   have hks:k'<cs[i].Slabs.n:=by omega
   have hAs:=hC.slabs.sl.base
   have gX:∀ w',SX w' w.heap.size q s cs→w'.cell? ((((cs[i].Slabs.A).getD default).add (k'*3)).add 2)=some (Value.int .i64 x.First):=fun w' h=>(h.each.get i hic hi).slabs.sl.fld hks (j:=2) (show (encSb (s.Caches[i].Slabs[k']'(by omega)))[2]?=some (Value.int .i64 x.First) by rw [hx];rfl)
   repeat' (first|(first|refine CW.seq ?_|refine CW.region ?_|refine CW.condn_f rfl (by omega) ?_|refine CW.skip ?_)|(refine Post.seq ?_)|refine SW.nil ?_|(show SW _ _ _ _ (⟨_,_,_,_,_,some _⟩::_) _ _;first|refine SW.want_f rfl rfl (by with_reducible rfl) ?_|refine SW.splitn_f rfl rfl rfl (by omega) ?_)|refine SW.pure rfl rfl ?_|(show SW _ _ _ _ (⟨_,Op.fieldAddr _ _ _,_,_,_,none⟩::_) _ _;refine SW.st (st_field rfl) rfl ?_)|(show SW _ _ _ _ (⟨_,Op.nilCheck _,_,_,_,none⟩::_) _ _;refine SW.st (st_nilCheck rfl) rfl ?_)|(show SW _ _ _ _ (⟨_,Op.indexAddr _ _ _,_,_,_,none⟩::_) _ _;refine SW.st (st_indexN rfl rfl (by assumption) (by omega)) rfl ?_)|(show SW _ _ _ _ (⟨_,Op.load _ _,_,_,_,none⟩::_) _ _;first|refine SW.st (st_load rfl (hb4.cell (i:=6) (v := .slice q.Caches.A q.Caches.n q.Caches.c) rfl)) rfl ?_|refine SW.st (st_load rfl (hO.row.sl.fld hin (j:=4) (u := .slice cs[i].Slabs.A cs[i].Slabs.n cs[i].Slabs.c) rfl)) rfl ?_))
   refine CW.anyF 8 8 (fun _=>True) mixed (by kernel_rfl) fun w1 hw1 hRB => ?_
   replace hw:=Ext.trans hw hw1;replace hb4:=hb4.ext hw1;replace hb8:=hb8.ext hw1;replace hO:=hO.ext hw1;replace hI:=hI.ext hw1;clear hw1
   refine SF.take 0 [] [] hRB rfl (by kernel_rfl) (by kernel_rfl) (by kernel_rfl) ?_
   repeat ((show SW _ _ _ _ (⟨_,Op.fieldAddr _ _ _,_,_,_,none⟩::_) _ _;refine SW.st (st_field rfl) rfl ?_))
   refine SW.tknil ?_
   refine SF.take 1 [] [] hRB rfl (by kernel_rfl) (by kernel_rfl) (by kernel_rfl) ?_
   repeat ((show SW _ _ _ _ (⟨_,Op.load _ _,_,_,_,none⟩::_) _ _;refine SW.st (st_load rfl (hb4.cell (i:=0) (v := .slice q.Words.A q.Words.n q.Words.c) rfl)) rfl ?_))
   refine SW.tknil ?_
   refine SF.take 2 [] [] hRB rfl (by kernel_rfl) (by kernel_rfl) (by kernel_rfl) ?_
   repeat (refine SW.pure rfl rfl ?_)
   refine SW.tknil ?_
   refine SF.take 3 [] [] hRB rfl (by kernel_rfl) (by kernel_rfl) (by kernel_rfl) ?_
   repeat (refine SW.pure rfl rfl ?_)
   refine SW.tknil ?_
   refine SF.take 4 [] [] hRB rfl (by kernel_rfl) (by kernel_rfl) (by kernel_rfl) ?_
   repeat ((show SW _ _ _ _ (⟨_,Op.nilCheck _,_,_,_,none⟩::_) _ _;refine SW.st (st_nilCheck rfl) rfl ?_))
   refine SW.tknil ?_
   refine SF.take 5 [] [] hRB rfl (by kernel_rfl) (by kernel_rfl) (by kernel_rfl) ?_
   repeat ((show SW _ _ _ _ (⟨_,Op.fieldAddr _ _ _,_,_,_,none⟩::_) _ _;refine SW.st (st_field rfl) rfl ?_))
   refine SW.tknil ?_
   refine SF.take 6 [] [] hRB rfl (by kernel_rfl) (by kernel_rfl) (by kernel_rfl) ?_
   repeat ((show SW _ _ _ _ (⟨_,Op.load _ _,_,_,_,none⟩::_) _ _;refine SW.st (st_load rfl (gX _ hO)) rfl ?_))
   refine SW.tknil ?_
   refine SF.take 7 [] [] hRB rfl (by kernel_rfl) (by kernel_rfl) (by kernel_rfl) ?_
   repeat ((show SW _ _ _ _ (⟨_,Op.indexAddr _ _ _,_,_,_,none⟩::_) _ _;refine SW.st (st_indexN rfl rfl (by assumption) (by omega)) rfl ?_))
   refine SW.tknil ?_
   refine SF.last rfl (by kernel_rfl) (by kernel_rfl) ?_
   refine SW.storeI an hO.words rfl rfl (by omega) fun w7 hOw hg => ?_
   have hG:=hO.words.gr hg
   have hS:=hO.setWords hI hOw hg
   replace hw:=ext_grown hw hg (Nat.le_refl _) hO.words.row_ge
   (replace hb4:=hb4.grT hG rfl;replace hb8:=hb8.grT hG rfl)
   obtain ⟨s1,hs1⟩ : ∃ s1:KSystem,putW s x (an:Int)=s1:=⟨_,rfl⟩
   have e4:(⟨s.Words.set an x.First,s.Heap,s.Caches⟩ : KSystem)=s1:=by rw [← hs1];simp [putW]
   rw [e4] at hS
   have hs1c:s1.Caches=s.Caches:=by rw [← e4]
   have hs1h:s1.Heap=s.Heap:=by rw [← e4]
   have hi1:i<s1.Caches.length:=by rw [hs1c];exact hi
   have hc1:s1.Caches[i]=s.Caches[i]:=by simp [hs1c]
   have e5:=sysAt_self hi1
   rw [hc1,hs1h] at e5
   rw [← e5] at hS
   replace hC:=hS.get hic hi1
   simp only at hC
   repeat' (first|(first|refine CW.seq ?_|refine CW.region ?_)|(first|refine Post.seq ?_|refine Post.np ?_)|refine SW.nil ?_|refine SW.pure rfl rfl ?_|(show SW _ _ _ _ (⟨_,Op.fieldAddr _ _ _,_,_,_,none⟩::_) _ _;refine SW.st (st_field rfl) rfl ?_)|(show SW _ _ _ _ (⟨_,Op.nilCheck _,_,_,_,none⟩::_) _ _;refine SW.st (st_nilCheck rfl) rfl ?_))
   refine SW.storeO k' 2 ⟨x.At,x.Free,(an:Int)⟩ hC.slabs rfl rfl rfl hks (by decide) rfl (by simp only [hx];rfl) fun w8 hO8 hg8 => ?_
   have g8:=hO8.sl.fld hks (j:=1) (show (encSb ((s.Caches[i].Slabs.set k' ⟨x.At,x.Free,(an:Int)⟩)[k']'(by rw [List.length_set];exact hk)))[1]?=some (Value.int .i64 x.Free) by rw [List.getElem_set_self];rfl)
   repeat' (first|(first|refine CW.seq ?_|refine CW.region ?_)|(refine Post.seq ?_)|refine SW.nil ?_|refine SW.pure rfl rfl ?_|(show SW _ _ _ _ (⟨_,Op.fieldAddr _ _ _,_,_,_,none⟩::_) _ _;refine SW.st (st_field rfl) rfl ?_)|(show SW _ _ _ _ (⟨_,Op.nilCheck _,_,_,_,none⟩::_) _ _;refine SW.st (st_nilCheck rfl) rfl ?_)|(show SW _ _ _ _ (⟨_,Op.binOp _ _ _ _ _,_,_,_,none⟩::_) _ _;refine SW.st (st_add rfl rfl (by omega) (by omega)) rfl ?_)|(show SW _ _ _ _ (⟨_,Op.load _ _,_,_,_,none⟩::_) _ _;refine SW.st (st_load rfl g8) rfl ?_))
   refine SW.storeO k' 1 ⟨x.At,x.Free+1,(an:Int)⟩ hO8 rfl rfl rfl hks (by decide) rfl (by simp only [List.getElem_set_self];rfl) fun w9 hO9 hg9 => ?_
   have hgg:=grown_trans hg8 hg9 (.inl rfl)
   rw [List.set_set] at hO9
   have hG9:=hC.slabs.gr hgg
   have hS9:=hS.slabsIn hic hi1 hO9 hgg
   replace hw:=ext_grown hw hgg (Nat.le_refl _) hC.slabs.row_ge
   (replace hb4:=hb4.grT hG9 rfl;replace hb8:=hb8.grT hG9 rfl)
   obtain ⟨c1,hc9⟩ : ∃ c1,putC s.Caches[i] k' x (an:Int)=c1:=⟨_,rfl⟩
   have e6:(⟨s.Caches[i].Names,s.Caches[i].Size,s.Caches[i].Per,s.Caches[i].Order,s.Caches[i].Slabs.set k' ⟨x.At,x.Free+1,(an:Int)⟩,s.Caches[i].Active⟩ : KCache)=c1:=hc9
   simp only at hS9
   rw [e6] at hS9
   have hsl:c1.Slabs=s.Caches[i].Slabs.set k' ⟨x.At,x.Free+1,(an:Int)⟩:=by rw [← e6]
   have hk1:k'<c1.Slabs.length:=by rw [hsl,List.length_set];exact hk
   have hxk:c1.Slabs[k']=⟨x.At,x.Free+1,(an:Int)⟩:=by simp [hsl]
   have hl1:c1.Slabs.length=cs[i].Slabs.n:=by rw [hsl,List.length_set];exact hC.slabs.len
   rw [hc9] at h2'
   clear hC hS hO8 hO9 hg8 hg9 hgg hO hI hO1 hOw gX g8 hg hG hG9 e6
   have hC:=hS9.get hic hi1
   have hAs:=hC.slabs.sl.base
   simp only at hC
   obtain ⟨t,ht⟩ : ∃ t,idleB c1 ⟨x.At,x.Free+1,(an:Int)⟩=t:=⟨_,rfl⟩
   have cI:∀ w',Ext w9 w'→Ans Tryz.prog 24 [.agg (encC cs[i]).toArray,.agg (encSb ⟨x.At,x.Free+1,(an:Int)⟩).toArray] w' fun v _=>v = .bool t:=fun w' hx=>by
    have:=idle_ans cs[i] c1 ⟨x.At,x.Free+1,(an:Int)⟩ w' (hC.rd.ext hx) (by omega)
    rwa [ht] at this
   have gk:∀ (w':World),OwnC w' w.heap.size cs[i] c1 → ∀ j v,(encSb ⟨x.At,x.Free+1,(an:Int)⟩)[j]?=some v→w'.cell? (((cs[i].Slabs.A.getD default).add (k'*3)).add j)=some v:=fun w' h j v hv=>by
    refine h.slabs.sl.all hks j v ?_
    rw [hxk]
    exact hv
   have hwS:=hw
   replace hw:=Ext.refl w9
   cases t
   ·have hPn:=putP_no (s:=s) (cpu:=cpu) (c:=s.Caches[i]) (k:=k') (x:=x) (a:=(an:Int)) (by rw [hc9];exact ht)
    rw [hc9] at hPn
    rw [hPn,hs1] at hP
    repeat' (first|(first|refine CW.seq ?_|refine CW.region ?_|refine CW.condfr rfl (by with_reducible rfl) ?_|refine CW.skip ?_|(apply CW.quiet1 mixed;(· kernel_rfl);rotate_left;intro w1 hw1;replace hw:=Ext.trans hw hw1;replace hb4:=hb4.ext hw1;replace hb8:=hb8.ext hw1;replace hS9:=hS9.ext hw1;clear hw1;rotate_right))|(refine Post.seq ?_)|refine SW.nil ?_|refine SW.pure rfl rfl ?_|(show SW _ _ _ _ (⟨_,Op.nilCheck _,_,_,_,none⟩::_) _ _;refine SW.st (st_nilCheck rfl) rfl ?_)|(show SW _ _ _ _ (⟨_,Op.load _ _,_,_,_,none⟩::_) _ _;first|refine SW.st (st_loads rfl rfl ((hS9.row.sl.all hin))) rfl ?_|refine SW.st (st_loads rfl rfl ((gk _ (hS9.get hic hi1)))) rfl ?_|refine SW.st (st_loads rfl rfl ((fun _ _=>hb4.cell))) rfl ?_)|(show SW _ _ _ _ (⟨_,Op.call ⟨.value (.func _),_,_⟩,_,_,_,none⟩::_) _ _;refine SW.qcall rfl rfl (fun w1 hw1=>(cI _ (Ext.trans hw hw1))) ?_)|exact SW.qnil rfl)
    replace hw:=Ext.trans hwS hw
    refine SW.storeAgg hb8 rfl rfl rfl rfl (one_s q) fun w12 hR2 hg => ?_
    have hG:=hb8.gr hg
    replace hw:=hw.own hb8w hg
    replace hS9:=hS9.grT hG rfl
    repeat' (first|(refine CW.ret ?_)|(refine Post.seq ?_)|refine SW.nil ?_|refine SW.pure rfl rfl ?_)
    exact Post.ret2c rfl rfl rfl hR2 rfl ⟨_,rfl,hw,_,hP,⟨_,rfl,hS9.ownS⟩⟩
   ·repeat' (first|(first|refine CW.seq ?_|refine CW.region ?_|refine CW.block ?_|refine CW.condtr rfl (by with_reducible rfl) ?_|(apply CW.quiet1 mixed;(· kernel_rfl);rotate_left;intro w1 hw1;replace hw:=Ext.trans hw hw1;replace hb4:=hb4.ext hw1;replace hb8:=hb8.ext hw1;replace hS9:=hS9.ext hw1;clear hw1;rotate_right))|(refine Post.seq ?_)|refine SW.nil ?_|refine SW.pure rfl rfl ?_|(show SW _ _ _ _ (⟨_,Op.fieldAddr _ _ _,_,_,_,none⟩::_) _ _;refine SW.st (st_field rfl) rfl ?_)|(show SW _ _ _ _ (⟨_,Op.nilCheck _,_,_,_,none⟩::_) _ _;refine SW.st (st_nilCheck rfl) rfl ?_)|(show SW _ _ _ _ (⟨_,Op.call ⟨.builtin .len,_,_⟩,_,_,_,none⟩::_) _ _;refine SW.st (st_len rfl) rfl ?_)|(show SW _ _ _ _ (⟨_,Op.load _ _,_,_,_,none⟩::_) _ _;first|refine SW.st (st_loads rfl rfl ((hS9.row.sl.all hin))) rfl ?_|refine SW.st (st_loads rfl rfl ((gk _ (hS9.get hic hi1)))) rfl ?_|refine SW.st (st_load rfl (hS9.row.sl.fld hin (j:=4) (u := .slice cs[i].Slabs.A cs[i].Slabs.n cs[i].Slabs.c) rfl)) rfl ?_)|(show SW _ _ _ _ (⟨_,Op.call ⟨.value (.func _),_,_⟩,_,_,_,none⟩::_) _ _;refine SW.qcall rfl rfl (fun w1 hw1=>(cI _ (Ext.trans hw hw1))) ?_)|exact SW.qnil rfl)
    replace hw:=Ext.trans hwS hw
    clear cI hC hwS
    refine CW.loop (fun t:Nat×Nat=>[(2,.int .i64 cpu),(4,.pointer (some ⟨b4,0,none⟩)),(8,.pointer (some ⟨b8,0,none⟩)),(10,.int .i64 (i:Int)),(13,.int .i64 (k':Int)),(14,.pointer (some ((q.Caches.A.getD default).add (i*6)))),(16,.int .i64 (t.2:Int)),(85,.slice cs[i].Slabs.A cs[i].Slabs.n cs[i].Slabs.c),(86,.int .i64 (cs[i].Slabs.n:Int)),(87,.int .i64 (t.1:Int))])
     (fun t w'=>t.1≤cs[i].Slabs.n∧t.2=(c1.Slabs.take t.1).countP (idleB c1)∧Ext w w'∧Blk w' b4 30 (encSys q)∧Blk w' b8 30 (encSys .zero)∧SX w' w.heap.size q (sysAt s1 i (s.Heap,c1)) cs) (fun t=>cs[i].Slabs.n-t.1) (0,0)
     ⟨rfl,rfl,rfl,rfl,rfl,rfl,rfl,rfl,rfl,rfl,trivial⟩ ⟨by omega,by simp,hw,hb4,hb8,hS9⟩ ?_
    clear hw hb4 hb8 hS9
    rintro ⟨j,m⟩ w10 ⟨hj,hm,hw,hb4,hb8,hS9⟩
    simp only at hj hm ⊢
    have hC:=hS9.get hic hi1
    simp only at hC
    have hml:m≤j:=by
     rw [hm]
     exact Nat.le_trans List.countP_le_length (by rw [List.length_take];omega)
    by_cases hjn:j<cs[i].Slabs.n
    ·have hjl:j<c1.Slabs.length:=by omega
     obtain ⟨y,hy⟩ : ∃ y,c1.Slabs[j]=y:=⟨_,rfl⟩
     have gy:=hC.slabs.sl.all hjn
     rw [show c1.Slabs[j]'(hC.slabs.sl.lt hjn)=y from hy] at gy
     obtain ⟨t2,ht2⟩ : ∃ t2,idleB c1 y=t2:=⟨_,rfl⟩
     have hcp:=countP_take (idleB c1) c1.Slabs j hjl
     rw [hy,ht2,← hm] at hcp
     clear hC
     repeat' (first|(first|refine CW.seq ?_|refine CW.region ?_|refine CW.block ?_|refine CW.condd_t rfl (by omega) ?_|refine CW.skip ?_)|(refine Post.seq ?_)|refine SW.nil ?_|refine SW.pure rfl rfl ?_|(show SW _ _ _ _ (⟨_,Op.indexAddr _ _ _,_,_,_,none⟩::_) _ _;refine SW.st (st_indexN rfl rfl (by assumption) (by omega)) rfl ?_)|(show SW _ _ _ _ (⟨_,Op.load _ _,_,_,_,none⟩::_) _ _;refine SW.st (st_loads rfl rfl gy) rfl ?_))
     refine SW.alloc rfl fun b18 w1 hw1 hb18b hb18 => ?_
     skip
     refine SW.storeAgg hb18 rfl rfl rfl rfl (Enc.one (enc:=encSb) y) fun w2 hb18' hg => ?_
     have hXX:=hw1.own hb18b hg
     have hb18w:w.heap.size≤b18:=Nat.le_trans hw.size hb18b
     replace hw:=Ext.trans hw hXX
     replace hb4:=hb4.ext hXX
     replace hb8:=hb8.ext hXX
     replace hS9:=hS9.ext hXX
     replace hb18:=hb18'
     clear hb18' hw1 hg hXX
     clear gy
     have hC:=hS9.get hic hi1
     simp only at hC
     have cI:∀ w',Ext w2 w'→Ans Tryz.prog 24 [.agg (encC cs[i]).toArray,.agg (encSb y).toArray] w' fun v _=>v = .bool t2:=fun w' hx=>by
      have:=idle_ans cs[i] c1 y w' (hC.rd.ext hx) (by omega)
      rwa [ht2] at this
     have hwS:=hw
     replace hw:=Ext.refl w2
     cases t2
     ·repeat' (first|(first|refine CW.seq ?_|refine CW.region ?_|refine CW.condfr rfl (by with_reducible rfl) ?_|refine CW.skip ?_|(apply CW.quiet1 mixed;(· kernel_rfl);rotate_left;intro w1 hw1;replace hw:=Ext.trans hw hw1;replace hb4:=hb4.ext hw1;replace hb8:=hb8.ext hw1;replace hb18:=hb18.ext hw1;replace hS9:=hS9.ext hw1;clear hw1;rotate_right))|(first|refine Post.seq ?_|refine Post.blk ?_)|refine SW.nil ?_|refine SW.pure rfl rfl ?_|(show SW _ _ _ _ (⟨_,Op.nilCheck _,_,_,_,none⟩::_) _ _;refine SW.st (st_nilCheck rfl) rfl ?_)|(show SW _ _ _ _ (⟨_,Op.binOp _ _ _ _ _,_,_,_,none⟩::_) _ _;refine SW.st (st_add rfl rfl (by omega) (by omega)) rfl ?_)|(show SW _ _ _ _ (⟨_,Op.load _ _,_,_,_,none⟩::_) _ _;first|refine SW.st (st_loads rfl rfl ((hS9.row.sl.all hin))) rfl ?_|refine SW.st (st_loads rfl rfl ((fun _ _=>hb18.cell))) rfl ?_)|(show SW _ _ _ _ (⟨_,Op.call ⟨.value (.func _),_,_⟩,_,_,_,none⟩::_) _ _;refine SW.qcall rfl rfl (fun w1 hw1=>(cI _ (Ext.trans hw hw1))) ?_)|exact SW.qnil rfl)
      replace hw:=Ext.trans hwS hw
      exact Post.again (j+1,m) ⟨rfl,rfl,rfl,rfl,rfl,rfl,rfl,rfl,rfl,rfl,trivial⟩ (by simp only;omega) ⟨by simp only;omega,by rw [hcp];simp,hw,hb4,hb8,hS9⟩
     ·repeat' (first|(first|refine CW.seq ?_|refine CW.region ?_|refine CW.condtr rfl (by with_reducible rfl) ?_|(apply CW.quiet1 mixed;(· kernel_rfl);rotate_left;intro w1 hw1;replace hw:=Ext.trans hw hw1;replace hb4:=hb4.ext hw1;replace hb8:=hb8.ext hw1;replace hb18:=hb18.ext hw1;replace hS9:=hS9.ext hw1;clear hw1;rotate_right))|(first|refine Post.seq ?_|refine Post.blk ?_)|refine SW.nil ?_|refine SW.pure rfl rfl ?_|(show SW _ _ _ _ (⟨_,Op.nilCheck _,_,_,_,none⟩::_) _ _;refine SW.st (st_nilCheck rfl) rfl ?_)|(show SW _ _ _ _ (⟨_,Op.binOp _ _ _ _ _,_,_,_,none⟩::_) _ _;refine SW.st (st_add rfl rfl (by omega) (by omega)) rfl ?_)|(show SW _ _ _ _ (⟨_,Op.load _ _,_,_,_,none⟩::_) _ _;first|refine SW.st (st_loads rfl rfl ((hS9.row.sl.all hin))) rfl ?_|refine SW.st (st_loads rfl rfl ((fun _ _=>hb18.cell))) rfl ?_)|(show SW _ _ _ _ (⟨_,Op.call ⟨.value (.func _),_,_⟩,_,_,_,none⟩::_) _ _;refine SW.qcall rfl rfl (fun w1 hw1=>(cI _ (Ext.trans hw hw1))) ?_)|exact SW.qnil rfl)
      replace hw:=Ext.trans hwS hw
      exact Post.again (j+1,m+1) ⟨rfl,rfl,rfl,rfl,rfl,rfl,rfl,rfl,rfl,rfl,trivial⟩ (by simp only;omega) ⟨by simp only;omega,by rw [hcp];simp,hw,hb4,hb8,hS9⟩
    ·obtain rfl:j=cs[i].Slabs.n:=by omega
     rw [List.take_of_length_le (by omega)] at hm
     clear hC
     by_cases hm1 : 1<m
     ·have hPy:=putP_yes (s:=s) (cpu:=cpu) (c:=s.Caches[i]) (k:=k') (x:=x) (a:=(an:Int)) (by rw [hc9];exact ht) (by rw [hc9,← hm];exact hm1)
      rw [hc9] at hPy
      rw [hPy,hs1] at hP
      clear gk
      repeat' (first|(first|refine CW.seq ?_|refine CW.region ?_|refine CW.condd_t rfl (by omega) ?_|refine CW.condd_f rfl (by omega) ?_|refine CW.exit ?_)|(first|refine Post.seq ?_|refine Post.seq_exit ?_|refine Post.hit ?_|refine Post.again_exit ?_)|refine SW.nil ?_|refine SW.pure rfl rfl ?_)
      refine SW.callX rfl rfl (discard_ans w _ b4 q s1 cs i k' (s.Heap,c1) cpu hw hb4 hb4b hS9 hi1 (by rw [hs1c];omega) hk1 h1 h2') fun v w11 hv => ?_
      obtain ⟨rfl,H,cs2,hh⟩:=hv
      simp only [hxk] at hh
      replace hw:=hh.ext
      replace hb8:=hh.kp _ _ hne hb8
      have hb:=hh.blk
      have hS9:=hh.sx
      repeat' (first|(first|refine CW.seq ?_|refine CW.region ?_)|(refine Post.seq ?_)|refine SW.nil ?_|(show SW _ _ _ _ (⟨_,Op.load _ _,_,_,_,none⟩::_) _ _;refine SW.st (st_loads rfl rfl ((fun _ _=>hb.cell))) rfl ?_))
      refine SW.storeAgg hb8 rfl rfl rfl rfl (one_s ⟨q.Words,H,q.Caches⟩) fun w12 hR2 hg => ?_
      have hG:=hb8.gr hg
      replace hw:=hw.own hb8w hg
      replace hS9:=hS9.grT hG rfl
      repeat' (first|(refine CW.ret ?_)|(refine Post.seq ?_)|refine SW.nil ?_|refine SW.pure rfl rfl ?_)
      exact Post.ret2c rfl rfl rfl hR2 rfl ⟨_,rfl,hw,_,hP,⟨_,rfl,hS9.ownS⟩⟩
     ·have hPn:=putP_few (s:=s) (cpu:=cpu) (c:=s.Caches[i]) (k:=k') (x:=x) (a:=(an:Int)) (by rw [hc9,← hm];exact hm1)
      rw [hc9] at hPn
      rw [hPn,hs1] at hP
      repeat' (first|(first|refine CW.seq ?_|refine CW.region ?_|refine CW.condd_f rfl (by omega) ?_|refine CW.skip ?_|refine CW.exit ?_)|(first|refine Post.seq ?_|refine Post.seq_exit ?_|refine Post.hit ?_|refine Post.again_exit ?_)|refine SW.nil ?_|refine SW.pure rfl rfl ?_|(show SW _ _ _ _ (⟨_,Op.load _ _,_,_,_,none⟩::_) _ _;refine SW.st (st_loads rfl rfl ((fun _ _=>hb4.cell))) rfl ?_))
      refine SW.storeAgg hb8 rfl rfl rfl rfl (one_s q) fun w12 hR2 hg => ?_
      have hG:=hb8.gr hg
      replace hw:=hw.own hb8w hg
      replace hS9:=hS9.grT hG rfl
      repeat' (first|(refine CW.ret ?_)|(refine Post.seq ?_)|refine SW.nil ?_|refine SW.pure rfl rfl ?_)
      exact Post.ret2c rfl rfl rfl hR2 rfl ⟨_,rfl,hw,_,hP,⟨_,rfl,hS9.ownS⟩⟩
  ·have hP:=PutR.none (n:=n) (cpu:=cpu) he hF (by rw [hix];exact hh)
   rcases (show e≠0∨(e=0∧j≠ix) by
    by_cases e0:e=0
    ·exact .inr ⟨e0,fun e1=>hh ⟨e0,e1⟩⟩
    ·exact .inl e0) with g|⟨g,g2⟩
   all_goals
    repeat' (first|(first|refine CW.seq ?_|refine CW.region ?_|refine CW.condtr rfl (by with_reducible rfl) ?_|refine CW.condn_t rfl (by omega) ?_)|(refine Post.seq ?_)|refine SW.nil ?_|(show SW _ _ _ _ (⟨_,_,_,_,_,some _⟩::_) _ _;first|refine SW.want_f rfl rfl (by with_reducible rfl) ?_|refine SW.skip_f rfl rfl (by with_reducible rfl) rfl ?_|refine SW.splitn_t rfl rfl rfl (by omega) ?_|refine SW.splitn_f rfl rfl rfl (by omega) ?_)|refine SW.pure rfl rfl ?_|(show SW _ _ _ _ (⟨_,Op.build _ _,_,_,_,none⟩::_) _ _;refine SW.st (st_build rfl rfl) rfl ?_))
    all_goals first|(exfalso;omega)|skip
    refine SW.storeAgg hb8 rfl rfl rfl rfl (one_s .zero) fun w7 hR2 hg => ?_
    replace hw:=hw.own hb8w hg
    repeat' (first|(refine CW.ret ?_)|(first|refine Post.seq ?_|refine Post.seq_ret ?_)|refine SW.nil ?_|refine SW.pure rfl rfl ?_)
    exact Post.ret2c rfl rfl rfl hR2 rfl ⟨_,rfl,hw,_,hP,SysOut.zero 4 _ _⟩
end Go.Proofs.YtigikedbffjeiaaGreat
