/-
  Texts of the claim SlabFrees, part 27: what its theorem leans on.
-/
import Derived.Test.YtigikedbffjeiaaGreatPackSlabFrees24
import Derived.Test.YtigikedbffjeiaaGreatPackSlabFrees26
import Derived.Test.YtigikedbffjeiaaGreatPackSlabFrees4
set_option linter.unusedVariables false
set_option linter.unusedSimpArgs false
namespace Go.Proofs.YtigikedbffjeiaaGreat
open Go.RowKit
set_option maxHeartbeats 8000000 in
theorem PutOf_ans (r:SRow) (s:KSystem) (n:ByteArray) (cpu a:Int) (w:World) (hr:RdS w r s) (hf:s.fine) :
  Ans Tryz.prog 11 [.agg (encSys r).toArray,.string n,.int .i64 cpu,.int .i64 a] w fun v w' => ∃ u,PutR s n cpu a u∧SysOut w.heap.size u v w':=by
 refine ans_of Tryz.func11 rfl Tryz.ntmps11 rfl ?_
 have hs:=hf.small
 refine CW.seq (CW.region (SW.box rfl rfl fun b4 w1 hw hb4b hb4 => ?_))
 refine SW.alloc rfl fun b8 w3 hw3 hb8b hb8 => ?_
 have hb8w:w.heap.size≤b8:=Nat.le_trans hw.size hb8b
 have hne:b8≠b4:=by have:=hb4.lt;omega
 (replace hw:=Ext.trans hw hw3;replace hb4:=hb4.ext hw3)
 obtain ⟨e,hE⟩ : ∃ e,askV s n cpu=e:=⟨_,rfl⟩
 have cA:∀ w',Ext w w'→Ans Tryz.prog 18 [.agg (encSys r).toArray,.string n,.int .i64 cpu] w' fun v _=>v = .int .i64 e:=fun w' hx=>by
  have:=askFault_ans r s n cpu w' (hr.ext hx) hf
  rwa [hE] at this
 by_cases he0:e=0
 ·subst he0
  obtain ⟨ix,hix⟩ : ∃ ix,idxOf (hasN n) s.Caches=ix:=⟨_,rfl⟩
  have c3:∀ w',Ext w w'→Ans Tryz.prog 20 [.agg (encSys r).toArray,.string n] w' fun v _=>v = .int .i64 ix:=fun w' hx=>by
   have:=cacheOf_ans r s n w' (hr.ext hx) hs
   rwa [hix] at this
  repeat' (first|(first|refine CW.seq ?_|refine CW.region ?_|refine CW.condn_f rfl (by omega) ?_|refine CW.skip ?_)|(refine Post.seq ?_)|refine SW.nil ?_|refine SW.pure rfl rfl ?_|(show SW _ _ _ _ (⟨_,Op.load _ _,_,_,_,none⟩::_) _ _;refine SW.st (st_loads rfl rfl ((fun _ _=>hb4.cell))) rfl ?_)|(show SW _ _ _ _ (⟨_,Op.call ⟨.value (.func _),_,_⟩,_,_,_,none⟩::_) _ _;(refine SW.call rfl rfl (cA _ hw) ?_;intro v w1 hw1 hv;subst hv;replace hw:=Ext.trans hw hw1;replace hb4:=hb4.ext hw1;replace hb8:=hb8.ext hw1;clear hw1)))
  all_goals first|(exfalso;omega)|skip
  refine SW.call rfl rfl (FoundOf_ans r s a _ (hr.ext hw) hf) fun v w6 hXX hv => ?_
  obtain ⟨⟨j,k,e⟩,hF,rfl⟩:=hv
  (replace hw:=Ext.trans hw hXX;replace hb4:=hb4.ext hXX;replace hb8:=hb8.ext hXX)
  simp only [findV]
  by_cases hh:e=0∧j=ix
  ·obtain ⟨rfl,rfl⟩:=hh
   have hF0:=hF
   obtain ⟨i,k',rfl,rfl,hq,hA,hfr⟩:=hF.hitAt
   have hi:=hA.hi
   have hk:=hA.hk
   have hM:=sysB_iff.1 hq
   have hat:=hit_at hM hA
   have hP:=PutR.put hE hF0 hix hi hk
   have hm:=hM.most
   obtain ⟨an,rfl⟩:=Int.eq_ofNat_of_zero_le hat.1
   have hwl:=hM.words
   have h1:=hf.hok
   have h2:=hf.cok hi
   obtain ⟨x,hx⟩ : ∃ x,s.Caches[i].Slabs[k']=x:=⟨_,rfl⟩
   have h2':=h2.put hk (an:Int)
   rw [hx] at hfr hP h2'
   repeat' (first|(first|refine CW.seq ?_|refine CW.region ?_|refine CW.condn_f rfl (by omega) ?_|refine CW.skip ?_)|(refine Post.seq ?_)|refine SW.nil ?_|(show SW _ _ _ _ (⟨_,_,_,_,_,some _⟩::_) _ _;first|refine SW.want_f rfl rfl (by with_reducible rfl) ?_|refine SW.splitn_f rfl rfl rfl (by omega) ?_)|refine SW.pure rfl rfl ?_|(show SW _ _ _ _ (⟨_,Op.load _ _,_,_,_,none⟩::_) _ _;refine SW.st (st_loads rfl rfl ((fun _ _=>hb4.cell))) rfl ?_)|(show SW _ _ _ _ (⟨_,Op.call ⟨.value (.func _),_,_⟩,_,_,_,none⟩::_) _ _;(refine SW.call rfl rfl (c3 _ hw) ?_;intro v w1 hw1 hv;subst hv;replace hw:=Ext.trans hw hw1;replace hb4:=hb4.ext hw1;replace hb8:=hb8.ext hw1;clear hw1)))
   all_goals first|(exfalso;omega)|skip
   refine SW.call rfl rfl (SystemCopyX_ans r s _ (hr.ext hw) hs) fun v w6 hXX hv => ?_
   obtain ⟨q,cs,rfl,hO,hI⟩:=hv
   replace hO:=hO.low hw.size
   replace hI:=hI.low hw.size
   (replace hw:=Ext.trans hw hXX;replace hb4:=hb4.ext hXX;replace hb8:=hb8.ext hXX)
   have hlt8:=hb8.lt
   clear hb4
   refine SW.alloc rfl fun b13 w1 hw1 hb13b hb13 => ?_
   skip
   refine SW.storeAgg hb13 rfl rfl rfl rfl (one_s q) fun w2 hb13' hg => ?_
   have hXX:=hw1.own hb13b hg
   have hb13w:w.heap.size≤b13:=Nat.le_trans hw.size hb13b
   replace hw:=Ext.trans hw hXX
   replace hb8:=hb8.ext hXX
   replace hO:=hO.ext hXX
   replace hI:=hI.ext hXX
   replace hb13:=hb13'
   clear hb13' hw1 hg hXX
   have hne13:b8≠b13:=by omega
   have hqw:=hO.words.len
   obtain ⟨e1,e2⟩:=hO.len
   have hic:i<cs.length:=by omega
   have hin:i<q.Caches.n:=by omega
   have hAc:=hO.row.sl.base
   have hAw:=hO.words.sl.base
   have hC:=hO.each.get i hic hi
   have q1:=hC.slabs.len
   have q2:=h2.small.slabs
   have q3:=hC.active.len
   have q4:=h2.small.active
   have hks:k'<cs[i].Slabs.n:=by omega
   have hAs:=hC.slabs.sl.base
   have gX:∀ w',SX w' w.heap.size q s cs → ∀ j v,(encSb x)[j]?=some v→w'.cell? ((((cs[i].Slabs.A).getD default).add (k'*3)).add j)=some v:=fun w' h j v hv=>by
    refine (h.each.get i hic hi).slabs.sl.all hks j v ?_
    rw [show (s.Caches[i].Slabs[k']'(by omega))=x from hx]
    exact hv
   clear hC
   repeat' (first|(first|refine CW.seq ?_|refine CW.region ?_)|(refine Post.seq ?_)|refine SW.nil ?_|refine SW.pure rfl rfl ?_|(show SW _ _ _ _ (⟨_,Op.fieldAddr _ _ _,_,_,_,none⟩::_) _ _;refine SW.st (st_field rfl) rfl ?_)|(show SW _ _ _ _ (⟨_,Op.indexAddr _ _ _,_,_,_,none⟩::_) _ _;refine SW.st (st_indexN rfl rfl (by assumption) (by omega)) rfl ?_)|(show SW _ _ _ _ (⟨_,Op.load _ _,_,_,_,none⟩::_) _ _;first|refine SW.st (st_load rfl (hb13.cell (i:=6) (v := .slice q.Caches.A q.Caches.n q.Caches.c) rfl)) rfl ?_|refine SW.st (st_load rfl (hO.row.sl.fld hin (j:=4) (u := .slice cs[i].Slabs.A cs[i].Slabs.n cs[i].Slabs.c) rfl)) rfl ?_|refine SW.st (st_loads rfl rfl ((gX _ hO))) rfl ?_))
   have hlt13:=hb13.lt
   have hlts:=(hO.each.get i hic hi).slabs.lt_size
   refine SW.alloc rfl fun b14 w1 hw1 hb14b hb14 => ?_
   skip
   refine SW.storeAgg hb14 rfl rfl rfl rfl (Enc.one (enc:=encSb) x) fun w2 hb14' hg => ?_
   have hXX:=hw1.own hb14b hg
   have hb14w:w.heap.size≤b14:=Nat.le_trans hw.size hb14b
   replace hw:=Ext.trans hw hXX
   replace hb8:=hb8.ext hXX
   replace hb13:=hb13.ext hXX
   replace hO:=hO.ext hXX
   replace hI:=hI.ext hXX
   replace hb14:=hb14'
   clear hb14' hw1 hg hXX
   repeat' (first|(first|refine CW.seq ?_|refine CW.region ?_)|(refine Post.seq ?_)|refine SW.nil ?_|refine SW.pure rfl rfl ?_|(show SW _ _ _ _ (⟨_,Op.fieldAddr _ _ _,_,_,_,none⟩::_) _ _;refine SW.st (st_field rfl) rfl ?_)|(show SW _ _ _ _ (⟨_,Op.indexAddr _ _ _,_,_,_,none⟩::_) _ _;refine SW.st (st_indexN rfl rfl (by assumption) (by omega)) rfl ?_)|(show SW _ _ _ _ (⟨_,Op.load _ _,_,_,_,none⟩::_) _ _;first|refine SW.st (st_load rfl (hb13.cell (i:=0) (v := .slice q.Words.A q.Words.n q.Words.c) rfl)) rfl ?_|refine SW.st (st_load rfl (hb14.cell (i:=2) (v := .int .i64 x.First) rfl)) rfl ?_))
   refine SW.storeI an hO.words rfl rfl (by omega) fun w7 hOw hg => ?_
   have hG:=hO.words.gr hg
   have hS:=hO.setWords hI hOw hg
   replace hw:=ext_grown hw hg (Nat.le_refl _) hO.words.row_ge
   (replace hb8:=hb8.grT hG rfl;replace hb13:=hb13.grT hG rfl)
   replace hb14:=hb14.grT hG rfl
   obtain ⟨s1,hs1⟩ : ∃ s1:KSystem,putW s x (an:Int)=s1:=⟨_,rfl⟩
   have e4:(⟨s.Words.set an x.First,s.Heap,s.Caches⟩ : KSystem)=s1:=by rw [← hs1];simp [putW]
   rw [e4] at hS
   have hs1c:s1.Caches=s.Caches:=by rw [← e4]
   have hs1h:s1.Heap=s.Heap:=by rw [← e4]
   have hi1:i<s1.Caches.length:=by rw [hs1c];exact hi
   have hc1:s1.Caches[i]=s.Caches[i]:=by simp [hs1c]
   have e5:=sysAt_self hi1
   rw [hc1,hs1h] at e5
   rw [← e5] at hS
   repeat' (first|(refine CW.seq ?_)|(refine Post.seq ?_)|refine SW.nil ?_)
   refine CW.anyF 15 15 (fun _=>True) mixed (by kernel_rfl) fun w1 hw1 hRB => ?_
   replace hw:=Ext.trans hw hw1;replace hb8:=hb8.ext hw1;replace hb13:=hb13.ext hw1;replace hb14:=hb14.ext hw1;replace hS:=hS.ext hw1;clear hw1
   refine SF.take 0 [] [] hRB rfl (by kernel_rfl) (by kernel_rfl) (by kernel_rfl) ?_
   repeat ((show SW _ _ _ _ (⟨_,Op.fieldAddr _ _ _,_,_,_,none⟩::_) _ _;refine SW.st (st_field rfl) rfl ?_))
   refine SW.tknil ?_
   refine SF.take 1 [] [] hRB rfl (by kernel_rfl) (by kernel_rfl) (by kernel_rfl) ?_
   repeat ((show SW _ _ _ _ (⟨_,Op.load _ _,_,_,_,none⟩::_) _ _;refine SW.st (st_load rfl (hb13.cell (i:=6) (v := .slice q.Caches.A q.Caches.n q.Caches.c) rfl)) rfl ?_))
   refine SW.tknil ?_
   refine SF.take 2 [] [] hRB rfl (by kernel_rfl) (by kernel_rfl) (by kernel_rfl) ?_
   repeat (refine SW.pure rfl rfl ?_)
   refine SW.tknil ?_
   refine SF.take 3 [] [] hRB rfl (by kernel_rfl) (by kernel_rfl) (by kernel_rfl) ?_
   repeat ((show SW _ _ _ _ (⟨_,Op.indexAddr _ _ _,_,_,_,none⟩::_) _ _;refine SW.st (st_indexN rfl rfl (by assumption) (by omega)) rfl ?_))
   refine SW.tknil ?_
   refine SF.take 4 [] [] hRB rfl (by kernel_rfl) (by kernel_rfl) (by kernel_rfl) ?_
   repeat ((show SW _ _ _ _ (⟨_,Op.fieldAddr _ _ _,_,_,_,none⟩::_) _ _;refine SW.st (st_field rfl) rfl ?_))
   refine SW.tknil ?_
   refine SF.take 5 [] [] hRB rfl (by kernel_rfl) (by kernel_rfl) (by kernel_rfl) ?_
   repeat ((show SW _ _ _ _ (⟨_,Op.load _ _,_,_,_,none⟩::_) _ _;refine SW.st (st_load rfl (hS.row.sl.fld hin (j:=4) (u := .slice cs[i].Slabs.A cs[i].Slabs.n cs[i].Slabs.c) rfl)) rfl ?_))
   refine SW.tknil ?_
   refine SF.take 6 [] [] hRB rfl (by kernel_rfl) (by kernel_rfl) (by kernel_rfl) ?_
   repeat (refine SW.pure rfl rfl ?_)
   refine SW.tknil ?_
   refine SF.take 7 [] [] hRB rfl (by kernel_rfl) (by kernel_rfl) (by kernel_rfl) ?_
   repeat ((show SW _ _ _ _ (⟨_,Op.fieldAddr _ _ _,_,_,_,none⟩::_) _ _;refine SW.st (st_field rfl) rfl ?_))
   refine SW.tknil ?_
   refine SF.take 8 [] [] hRB rfl (by kernel_rfl) (by kernel_rfl) (by kernel_rfl) ?_
   repeat ((show SW _ _ _ _ (⟨_,Op.load _ _,_,_,_,none⟩::_) _ _;refine SW.st (st_load rfl (hb14.cell (i:=0) (v := .int .i64 x.At) rfl)) rfl ?_))
   refine SW.tknil ?_
   refine SF.take 9 [] [] hRB rfl (by kernel_rfl) (by kernel_rfl) (by kernel_rfl) ?_
   repeat ((show SW _ _ _ _ (⟨_,Op.fieldAddr _ _ _,_,_,_,none⟩::_) _ _;refine SW.st (st_field rfl) rfl ?_))
   refine SW.tknil ?_
   refine SF.take 10 [] [] hRB rfl (by kernel_rfl) (by kernel_rfl) (by kernel_rfl) ?_
   repeat ((show SW _ _ _ _ (⟨_,Op.load _ _,_,_,_,none⟩::_) _ _;refine SW.st (st_load rfl (hb14.cell (i:=1) (v := .int .i64 x.Free) rfl)) rfl ?_))
   refine SW.tknil ?_
   refine SF.take 11 [] [] hRB rfl (by kernel_rfl) (by kernel_rfl) (by kernel_rfl) ?_
   repeat ((show SW _ _ _ _ (⟨_,Op.binOp _ _ _ _ _,_,_,_,none⟩::_) _ _;refine SW.st (st_add rfl rfl (by omega) (by omega)) rfl ?_))
   refine SW.tknil ?_
   refine SF.take 12 [] [] hRB rfl (by kernel_rfl) (by kernel_rfl) (by kernel_rfl) ?_
   repeat (refine SW.pure rfl rfl ?_)
   refine SW.tknil ?_
   refine SF.take 13 [] [] hRB rfl (by kernel_rfl) (by kernel_rfl) (by kernel_rfl) ?_
   repeat ((show SW _ _ _ _ (⟨_,Op.build _ _,_,_,_,none⟩::_) _ _;refine SW.st (st_build rfl rfl) rfl ?_))
   refine SW.tknil ?_
   refine SF.take 14 [] [] hRB rfl (by kernel_rfl) (by kernel_rfl) (by kernel_rfl) ?_
   repeat ((show SW _ _ _ _ (⟨_,Op.indexAddr _ _ _,_,_,_,none⟩::_) _ _;refine SW.st (st_indexN rfl rfl (by assumption) (by omega)) rfl ?_))
   refine SW.tknil ?_
   refine SF.last rfl (by kernel_rfl) (by kernel_rfl) ?_
   have hC:=hS.get hic hi1
   simp only at hC
   refine SW.storeElem (enc:=encSb) k' ⟨x.At,x.Free+1,(an:Int)⟩ hC.slabs rfl rfl hks fun w9 hO9 hg9 => ?_
   have hG9:=hC.slabs.gr hg9
   have hS9:=hS.slabsIn hic hi1 hO9 hg9
   replace hw:=ext_grown hw hg9 (Nat.le_refl _) hC.slabs.row_ge
   (replace hb8:=hb8.grT hG9 rfl;replace hb13:=hb13.grT hG9 rfl)
   replace hb14:=hb14.grown hg9 (fun e=>by have:=hlts _ e.symm;omega)
   obtain ⟨c1,hc9⟩ : ∃ c1,putC s.Caches[i] k' x (an:Int)=c1:=⟨_,rfl⟩
   have e6:(⟨s.Caches[i].Names,s.Caches[i].Size,s.Caches[i].Per,s.Caches[i].Order,s.Caches[i].Slabs.set k' ⟨x.At,x.Free+1,(an:Int)⟩,s.Caches[i].Active⟩ : KCache)=c1:=hc9
   simp only at hS9
   rw [e6] at hS9
   have hsl:c1.Slabs=s.Caches[i].Slabs.set k' ⟨x.At,x.Free+1,(an:Int)⟩:=by rw [← e6]
   have hk1:k'<c1.Slabs.length:=by rw [hsl,List.length_set];exact hk
   have hxk:c1.Slabs[k']=⟨x.At,x.Free+1,(an:Int)⟩:=by simp [hsl]
   have hl1:c1.Slabs.length=cs[i].Slabs.n:=by rw [hsl,List.length_set];exact hC.slabs.len
   rw [hc9] at h2'
   clear hC hS hO9 hg9 hO hI hOw gX hg hG hG9 e6
   repeat' (first|(first|refine CW.seq ?_|refine CW.region ?_)|(first|refine Post.seq ?_|refine Post.np ?_)|refine SW.nil ?_|refine SW.pure rfl rfl ?_|(show SW _ _ _ _ (⟨_,Op.fieldAddr _ _ _,_,_,_,none⟩::_) _ _;refine SW.st (st_field rfl) rfl ?_)|(show SW _ _ _ _ (⟨_,Op.indexAddr _ _ _,_,_,_,none⟩::_) _ _;refine SW.st (st_indexN rfl rfl (by assumption) (by omega)) rfl ?_)|(show SW _ _ _ _ (⟨_,Op.load _ _,_,_,_,none⟩::_) _ _;first|refine SW.st (st_load rfl (hb13.cell (i:=6) (v := .slice q.Caches.A q.Caches.n q.Caches.c) rfl)) rfl ?_|refine SW.st (st_loads rfl rfl ((hS9.row.sl.all hin))) rfl ?_))
   refine SW.alloc rfl fun b15 w1 hw1 hb15b hb15 => ?_
   skip
   refine SW.storeAgg hb15 rfl rfl rfl rfl (one_c cs[i]) fun w2 hb15' hg => ?_
   have hXX:=hw1.own hb15b hg
   have hb15w:w.heap.size≤b15:=Nat.le_trans hw.size hb15b
   replace hw:=Ext.trans hw hXX
   replace hb8:=hb8.ext hXX
   replace hb13:=hb13.ext hXX
   replace hb14:=hb14.ext hXX
   replace hS9:=hS9.ext hXX
   replace hb15:=hb15'
   clear hb15' hw1 hg hXX
   have hC:=hS9.get hic hi1
   simp only at hC
   have hper:=hC.per
   obtain ⟨t,ht⟩ : ∃ t,decide (x.At∈c1.Active)=t:=⟨_,rfl⟩
   have hid:idleB c1 ⟨x.At,x.Free+1,(an:Int)⟩=(decide (x.Free+1=c1.Per) && !t):=by unfold idleB;rw [ht]
   have cT:∀ w',Ext w2 w'→Ans Tryz.prog 27 [.agg (encC cs[i]).toArray,.int .i64 x.At] w' fun v _=>v = .bool t:=fun w' hx=>by
    have:=takes_ans cs[i] c1 x.At w' (hC.rd.ext hx) (by omega)
    rwa [ht] at this
   have hwS:=hw
   replace hw:=Ext.refl w2
   by_cases hp:x.Free+1=c1.Per
   ·cases t
    ·repeat' (first|(first|refine CW.seq ?_|refine CW.region ?_|refine CW.block ?_|refine CW.condt rfl ?_)|(refine Post.seq ?_)|refine SW.nil ?_|(show SW _ _ _ _ (⟨_,_,_,_,_,some _⟩::_) _ _;first|refine SW.want_t rfl rfl (by with_reducible rfl) ?_|refine SW.splitd_t rfl rfl rfl (by omega) ?_)|refine SW.pure rfl rfl ?_|(show SW _ _ _ _ (⟨_,Op.fieldAddr _ _ _,_,_,_,none⟩::_) _ _;refine SW.st (st_field rfl) rfl ?_)|(show SW _ _ _ _ (⟨_,Op.binOp _ _ _ _ _,_,_,_,none⟩::_) _ _;refine SW.st (st_add rfl rfl (by omega) (by omega)) rfl ?_)|(show SW _ _ _ _ (⟨_,Op.load _ _,_,_,_,none⟩::_) _ _;first|refine SW.st (st_load rfl (hb14.cell (i:=1) (v := .int .i64 x.Free) rfl)) rfl ?_|refine SW.st (st_load rfl (hb15.cell (i:=2) (v := .int .i64 cs[i].Per) rfl)) rfl ?_|refine SW.st (st_loads rfl rfl ((fun _ _=>hb15.cell))) rfl ?_|refine SW.st (st_load rfl (hb14.cell (i:=0) (v := .int .i64 x.At) rfl)) rfl ?_)|(show SW _ _ _ _ (⟨_,Op.call ⟨.value (.func _),_,_⟩,_,_,_,none⟩::_) _ _;(refine SW.call rfl rfl (cT _ hw) ?_;intro v w1 hw1 hv;subst hv;replace hw:=Ext.trans hw hw1;replace hb8:=hb8.ext hw1;replace hb13:=hb13.ext hw1;replace hb14:=hb14.ext hw1;replace hb15:=hb15.ext hw1;replace hS9:=hS9.ext hw1;clear hw1)))
     all_goals first|(exfalso;omega)|skip
     replace hw:=Ext.trans hwS hw
     clear cT hC hwS hb14
     refine CW.loop (fun t:Nat×Nat=>[(2,.int .i64 cpu),(8,.pointer (some ⟨b8,0,none⟩)),(11,.int .i64 (i:Int)),(12,.int .i64 (k':Int)),(13,.pointer (some ⟨b13,0,none⟩)),(15,.pointer (some ⟨b15,0,none⟩)),(16,.int .i64 (t.2:Int)),(17,.int .i64 (t.1:Int))])
      (fun t w'=>t.1≤cs[i].Slabs.n∧t.2=(c1.Slabs.take t.1).countP (idleB c1)∧Ext w w'∧Blk w' b8 30 (encSys .zero)∧Blk w' b13 30 (encSys q)∧Blk w' b15 44 (encC cs[i])∧SX w' w.heap.size q (sysAt s1 i (s.Heap,c1)) cs) (fun t=>cs[i].Slabs.n-t.1) (0,0)
      ⟨rfl,rfl,rfl,rfl,rfl,rfl,rfl,rfl,trivial⟩ ⟨Nat.zero_le _,by simp,hw,hb8,hb13,hb15,hS9⟩ ?_
     clear hw hb8 hb13 hb15 hS9
     rintro ⟨j,m⟩ w10 ⟨hj,hm,hw,hb8,hb13,hb15,hS9⟩
     simp only at hj hm ⊢
     have hC:=hS9.get hic hi1
     simp only at hC
     have hml:m≤j:=by
      rw [hm]
      exact Nat.le_trans List.countP_le_length (by rw [List.length_take];omega)
     by_cases hjn:j<cs[i].Slabs.n
     ·have hjl:j<c1.Slabs.length:=by omega
      have hAs:=hC.slabs.sl.base
      obtain ⟨y,hy⟩ : ∃ y,c1.Slabs[j]=y:=⟨_,rfl⟩
      have gy:=hC.slabs.sl.all hjn
      rw [show c1.Slabs[j]'(hC.slabs.sl.lt hjn)=y from hy] at gy
      obtain ⟨t2,ht2⟩ : ∃ t2,decide (y.At∈c1.Active)=t2:=⟨_,rfl⟩
      have hid2:idleB c1 y=(decide (y.Free=c1.Per) && !t2):=by unfold idleB;rw [ht2]
      have hcp:=countP_take (idleB c1) c1.Slabs j hjl
      rw [hy,hid2,← hm] at hcp
      have cT:∀ w',Ext w10 w'→Ans Tryz.prog 27 [.agg (encC cs[i]).toArray,.int .i64 y.At] w' fun v _=>v = .bool t2:=fun w' hx=>by
       have:=takes_ans cs[i] c1 y.At w' (hC.rd.ext hx) (by omega)
       rwa [ht2] at this
      have hwS:=hw
      replace hw:=Ext.refl w10
      by_cases hpy:y.Free=c1.Per
      ·rw [decide_eq_true hpy] at hcp
       cases t2
       ·repeat' (first|(first|refine CW.seq ?_|refine CW.region ?_|refine CW.block ?_|refine CW.condd_t rfl (by omega) ?_|refine CW.condt rfl ?_|refine CW.skip ?_|(apply CW.quiet1 mixed;(· kernel_rfl);rotate_left;intro w1 hw1;replace hw:=Ext.trans hw hw1;replace hb8:=hb8.ext hw1;replace hb13:=hb13.ext hw1;replace hb15:=hb15.ext hw1;replace hS9:=hS9.ext hw1;clear hw1;rotate_right))|(first|refine Post.seq ?_|refine Post.blk ?_)|refine SW.nil ?_|(show SW _ _ _ _ (⟨_,_,_,_,_,some _⟩::_) _ _;first|refine SW.want_t rfl rfl (by with_reducible rfl) ?_|refine SW.splitd_t rfl rfl rfl (by omega) ?_)|refine SW.pure rfl rfl ?_|(show SW _ _ _ _ (⟨_,Op.fieldAddr _ _ _,_,_,_,none⟩::_) _ _;refine SW.st (st_field rfl) rfl ?_)|(show SW _ _ _ _ (⟨_,Op.binOp _ _ _ _ _,_,_,_,none⟩::_) _ _;refine SW.st (st_add rfl rfl (by omega) (by omega)) rfl ?_)|(show SW _ _ _ _ (⟨_,Op.indexAddr _ _ _,_,_,_,none⟩::_) _ _;refine SW.st (st_indexN rfl rfl (by assumption) (by omega)) rfl ?_)|(show SW _ _ _ _ (⟨_,Op.call ⟨.builtin .len,_,_⟩,_,_,_,none⟩::_) _ _;refine SW.st (st_len rfl) rfl ?_)|(show SW _ _ _ _ (⟨_,Op.load _ _,_,_,_,none⟩::_) _ _;first|refine SW.st (st_load rfl (hb15.cell (i:=4) (v := .slice cs[i].Slabs.A cs[i].Slabs.n cs[i].Slabs.c) rfl)) rfl ?_|refine SW.st (st_load rfl (gy 1 (.int .i64 y.Free) rfl)) rfl ?_|refine SW.st (st_load rfl (gy 0 (.int .i64 y.At) rfl)) rfl ?_|refine SW.st (st_load rfl (hb15.cell (i:=2) (v := .int .i64 cs[i].Per) rfl)) rfl ?_|refine SW.st (st_loads rfl rfl ((fun _ _=>hb15.cell))) rfl ?_)|(show SW _ _ _ _ (⟨_,Op.call ⟨.value (.func _),_,_⟩,_,_,_,none⟩::_) _ _;refine SW.qcall rfl rfl (fun w1 hw1=>(cT _ (Ext.trans hw hw1))) ?_)|exact SW.qnil rfl)
        all_goals first|(exfalso;omega)|skip
        replace hw:=Ext.trans hwS hw
        exact Post.again (j+1,m+1) ⟨rfl,rfl,rfl,rfl,rfl,rfl,rfl,rfl,trivial⟩ (by simp only;omega) ⟨by simp only;omega,by rw [hcp];simp,hw,hb8,hb13,hb15,hS9⟩
       ·repeat' (first|(first|refine CW.seq ?_|refine CW.region ?_|refine CW.block ?_|refine CW.condd_t rfl (by omega) ?_|refine CW.condf rfl ?_|refine CW.skip ?_|(apply CW.quiet1 mixed;(· kernel_rfl);rotate_left;intro w1 hw1;replace hw:=Ext.trans hw hw1;replace hb8:=hb8.ext hw1;replace hb13:=hb13.ext hw1;replace hb15:=hb15.ext hw1;replace hS9:=hS9.ext hw1;clear hw1;rotate_right))|(first|refine Post.seq ?_|refine Post.blk ?_)|refine SW.nil ?_|(show SW _ _ _ _ (⟨_,_,_,_,_,some _⟩::_) _ _;first|refine SW.want_t rfl rfl (by with_reducible rfl) ?_|refine SW.splitd_t rfl rfl rfl (by omega) ?_)|refine SW.pure rfl rfl ?_|(show SW _ _ _ _ (⟨_,Op.fieldAddr _ _ _,_,_,_,none⟩::_) _ _;refine SW.st (st_field rfl) rfl ?_)|(show SW _ _ _ _ (⟨_,Op.binOp _ _ _ _ _,_,_,_,none⟩::_) _ _;refine SW.st (st_add rfl rfl (by omega) (by omega)) rfl ?_)|(show SW _ _ _ _ (⟨_,Op.indexAddr _ _ _,_,_,_,none⟩::_) _ _;refine SW.st (st_indexN rfl rfl (by assumption) (by omega)) rfl ?_)|(show SW _ _ _ _ (⟨_,Op.call ⟨.builtin .len,_,_⟩,_,_,_,none⟩::_) _ _;refine SW.st (st_len rfl) rfl ?_)|(show SW _ _ _ _ (⟨_,Op.load _ _,_,_,_,none⟩::_) _ _;first|refine SW.st (st_load rfl (hb15.cell (i:=4) (v := .slice cs[i].Slabs.A cs[i].Slabs.n cs[i].Slabs.c) rfl)) rfl ?_|refine SW.st (st_load rfl (gy 1 (.int .i64 y.Free) rfl)) rfl ?_|refine SW.st (st_load rfl (gy 0 (.int .i64 y.At) rfl)) rfl ?_|refine SW.st (st_load rfl (hb15.cell (i:=2) (v := .int .i64 cs[i].Per) rfl)) rfl ?_|refine SW.st (st_loads rfl rfl ((fun _ _=>hb15.cell))) rfl ?_)|(show SW _ _ _ _ (⟨_,Op.call ⟨.value (.func _),_,_⟩,_,_,_,none⟩::_) _ _;refine SW.qcall rfl rfl (fun w1 hw1=>(cT _ (Ext.trans hw hw1))) ?_)|exact SW.qnil rfl)
        all_goals first|(exfalso;omega)|skip
        replace hw:=Ext.trans hwS hw
        exact Post.again (j+1,m) ⟨rfl,rfl,rfl,rfl,rfl,rfl,rfl,rfl,trivial⟩ (by simp only;omega) ⟨by simp only;omega,by rw [hcp];simp,hw,hb8,hb13,hb15,hS9⟩
      ·rw [decide_eq_false hpy] at hcp
       repeat' (first|(first|refine CW.seq ?_|refine CW.region ?_|refine CW.block ?_|refine CW.condfr rfl (by with_reducible rfl) ?_|refine CW.condd_t rfl (by omega) ?_|refine CW.skip ?_|(apply CW.quiet1 mixed;(· kernel_rfl);rotate_left;intro w1 hw1;replace hw:=Ext.trans hw hw1;replace hb8:=hb8.ext hw1;replace hb13:=hb13.ext hw1;replace hb15:=hb15.ext hw1;replace hS9:=hS9.ext hw1;clear hw1;rotate_right))|(first|refine Post.seq ?_|refine Post.blk ?_)|refine SW.nil ?_|(show SW _ _ _ _ (⟨_,_,_,_,_,some _⟩::_) _ _;first|refine SW.skip_t rfl rfl (by with_reducible rfl) rfl ?_|refine SW.splitd_f rfl rfl rfl (by omega) ?_)|refine SW.pure rfl rfl ?_|(show SW _ _ _ _ (⟨_,Op.fieldAddr _ _ _,_,_,_,none⟩::_) _ _;refine SW.st (st_field rfl) rfl ?_)|(show SW _ _ _ _ (⟨_,Op.binOp _ _ _ _ _,_,_,_,none⟩::_) _ _;refine SW.st (st_add rfl rfl (by omega) (by omega)) rfl ?_)|(show SW _ _ _ _ (⟨_,Op.indexAddr _ _ _,_,_,_,none⟩::_) _ _;refine SW.st (st_indexN rfl rfl (by assumption) (by omega)) rfl ?_)|(show SW _ _ _ _ (⟨_,Op.call ⟨.builtin .len,_,_⟩,_,_,_,none⟩::_) _ _;refine SW.st (st_len rfl) rfl ?_)|(show SW _ _ _ _ (⟨_,Op.load _ _,_,_,_,none⟩::_) _ _;first|refine SW.st (st_load rfl (hb15.cell (i:=4) (v := .slice cs[i].Slabs.A cs[i].Slabs.n cs[i].Slabs.c) rfl)) rfl ?_|refine SW.st (st_load rfl (gy 1 (.int .i64 y.Free) rfl)) rfl ?_|refine SW.st (st_load rfl (hb15.cell (i:=2) (v := .int .i64 cs[i].Per) rfl)) rfl ?_)|exact SW.qnil rfl)
       all_goals first|(exfalso;omega)|skip
       replace hw:=Ext.trans hwS hw
       exact Post.again (j+1,m) ⟨rfl,rfl,rfl,rfl,rfl,rfl,rfl,rfl,trivial⟩ (by simp only;omega) ⟨by simp only;omega,by rw [hcp];simp,hw,hb8,hb13,hb15,hS9⟩
     ·obtain rfl:j=cs[i].Slabs.n:=by omega
      rw [List.take_of_length_le (by omega)] at hm
      have hid':idleB c1 ⟨x.At,x.Free+1,(an:Int)⟩=true:=by rw [hid,decide_eq_true hp];rfl
      clear hC
      by_cases hm1 : 1<m
      ·have hPy:=putP_yes (s:=s) (cpu:=cpu) (c:=s.Caches[i]) (k:=k') (x:=x) (a:=(an:Int)) (by rw [hc9];exact hid') (by rw [hc9,← hm];exact hm1)
       rw [hc9] at hPy
       rw [hPy,hs1] at hP
       repeat' (first|(first|refine CW.seq ?_|refine CW.region ?_|refine CW.condd_t rfl (by omega) ?_|refine CW.condd_f rfl (by omega) ?_|refine CW.exit ?_)|(first|refine Post.seq ?_|refine Post.seq_exit ?_|refine Post.hit ?_|refine Post.again_exit ?_)|refine SW.nil ?_|refine SW.pure rfl rfl ?_|(show SW _ _ _ _ (⟨_,Op.fieldAddr _ _ _,_,_,_,none⟩::_) _ _;refine SW.st (st_field rfl) rfl ?_)|(show SW _ _ _ _ (⟨_,Op.call ⟨.builtin .len,_,_⟩,_,_,_,none⟩::_) _ _;refine SW.st (st_len rfl) rfl ?_)|(show SW _ _ _ _ (⟨_,Op.load _ _,_,_,_,none⟩::_) _ _;first|refine SW.st (st_load rfl (hb15.cell (i:=4) (v := .slice cs[i].Slabs.A cs[i].Slabs.n cs[i].Slabs.c) rfl)) rfl ?_|refine SW.st (st_loads rfl rfl ((fun _ _=>hb13.cell))) rfl ?_))
       all_goals first|(exfalso;omega)|skip
       refine SW.callX rfl rfl (dropSlab_ans w _ q s1 cs i k' (s.Heap,c1) cpu hw hS9 hi1 (by rw [hs1c];omega) hk1 h1 h2') fun v w11 hv => ?_
       obtain ⟨H,cs2,rfl,hx3,hS3,hg3⟩:=hv
       simp only [hxk] at hS3
       have hG3:=hS9.row.gr hg3
       clear hS9 hw
       have hw:=hx3
       have hS9:=hS3
       (replace hb8:=hb8.grT hG3 rfl;replace hb13:=hb13.grT hG3 rfl)
       skip
       refine SW.storeAgg hb13 rfl rfl rfl rfl (one_s ⟨q.Words,H,q.Caches⟩) fun w12 hb13' hg => ?_
       have hG:=hb13.gr hg
       replace hb8:=hb8.grown hg (by simpa using hne13)
       replace hw:=hw.own hb13w hg
       replace hS9:=hS9.grT hG rfl
       repeat' (first|(first|refine CW.seq ?_|refine CW.region ?_)|(refine Post.seq ?_)|refine SW.nil ?_|(show SW _ _ _ _ (⟨_,Op.load _ _,_,_,_,none⟩::_) _ _;refine SW.st (st_loads rfl rfl ((fun _ _=>hb13'.cell))) rfl ?_))
       refine SW.storeAgg hb8 rfl rfl rfl rfl (one_s ⟨q.Words,H,q.Caches⟩) fun w12 hR2 hg => ?_
       have hG:=hb8.gr hg
       replace hw:=hw.own hb8w hg
       replace hS9:=hS9.grT hG rfl
       repeat' (first|(refine CW.ret ?_)|(refine Post.seq ?_)|refine SW.nil ?_|refine SW.pure rfl rfl ?_)
       exact Post.ret2c rfl rfl rfl hR2 rfl ⟨_,rfl,hw,_,hP,⟨_,rfl,hS9.ownS⟩⟩
      ·have hPn:=putP_few (s:=s) (cpu:=cpu) (c:=s.Caches[i]) (k:=k') (x:=x) (a:=(an:Int)) (by rw [hc9,← hm];exact hm1)
       rw [hc9] at hPn
       rw [hPn,hs1] at hP
       repeat' (first|(first|refine CW.seq ?_|refine CW.region ?_|refine CW.condd_f rfl (by omega) ?_|refine CW.skip ?_|refine CW.exit ?_)|(first|refine Post.seq ?_|refine Post.seq_exit ?_|refine Post.hit ?_|refine Post.again_exit ?_)|refine SW.nil ?_|refine SW.pure rfl rfl ?_|(show SW _ _ _ _ (⟨_,Op.fieldAddr _ _ _,_,_,_,none⟩::_) _ _;refine SW.st (st_field rfl) rfl ?_)|(show SW _ _ _ _ (⟨_,Op.call ⟨.builtin .len,_,_⟩,_,_,_,none⟩::_) _ _;refine SW.st (st_len rfl) rfl ?_)|(show SW _ _ _ _ (⟨_,Op.load _ _,_,_,_,none⟩::_) _ _;first|refine SW.st (st_load rfl (hb15.cell (i:=4) (v := .slice cs[i].Slabs.A cs[i].Slabs.n cs[i].Slabs.c) rfl)) rfl ?_|refine SW.st (st_loads rfl rfl ((fun _ _=>hb13.cell))) rfl ?_))
       all_goals first|(exfalso;omega)|skip
       refine SW.storeAgg hb8 rfl rfl rfl rfl (one_s q) fun w12 hR2 hg => ?_
       have hG:=hb8.gr hg
       replace hw:=hw.own hb8w hg
       replace hS9:=hS9.grT hG rfl
       repeat' (first|(refine CW.ret ?_)|(refine Post.seq ?_)|refine SW.nil ?_|refine SW.pure rfl rfl ?_)
       exact Post.ret2c rfl rfl rfl hR2 rfl ⟨_,rfl,hw,_,hP,⟨_,rfl,hS9.ownS⟩⟩
    ·have hid1:idleB c1 ⟨x.At,x.Free+1,(an:Int)⟩=false:=by rw [hid];simp
     have hPn:=putP_no (s:=s) (cpu:=cpu) (c:=s.Caches[i]) (k:=k') (x:=x) (a:=(an:Int)) (by rw [hc9];exact hid1)
     rw [hc9] at hPn
     rw [hPn,hs1] at hP
     repeat' (first|(first|refine CW.seq ?_|refine CW.region ?_|refine CW.condf rfl ?_|refine CW.skip ?_)|(refine Post.seq ?_)|refine SW.nil ?_|(show SW _ _ _ _ (⟨_,_,_,_,_,some _⟩::_) _ _;first|refine SW.want_t rfl rfl (by with_reducible rfl) ?_|refine SW.splitd_t rfl rfl rfl (by omega) ?_)|refine SW.pure rfl rfl ?_|(show SW _ _ _ _ (⟨_,Op.fieldAddr _ _ _,_,_,_,none⟩::_) _ _;refine SW.st (st_field rfl) rfl ?_)|(show SW _ _ _ _ (⟨_,Op.binOp _ _ _ _ _,_,_,_,none⟩::_) _ _;refine SW.st (st_add rfl rfl (by omega) (by omega)) rfl ?_)|(show SW _ _ _ _ (⟨_,Op.load _ _,_,_,_,none⟩::_) _ _;first|refine SW.st (st_load rfl (hb14.cell (i:=1) (v := .int .i64 x.Free) rfl)) rfl ?_|refine SW.st (st_load rfl (hb15.cell (i:=2) (v := .int .i64 cs[i].Per) rfl)) rfl ?_|refine SW.st (st_loads rfl rfl ((fun _ _=>hb15.cell))) rfl ?_|refine SW.st (st_load rfl (hb14.cell (i:=0) (v := .int .i64 x.At) rfl)) rfl ?_|refine SW.st (st_loads rfl rfl ((fun _ _=>hb13.cell))) rfl ?_)|(show SW _ _ _ _ (⟨_,Op.call ⟨.value (.func _),_,_⟩,_,_,_,none⟩::_) _ _;(refine SW.call rfl rfl (cT _ hw) ?_;intro v w1 hw1 hv;subst hv;replace hw:=Ext.trans hw hw1;replace hb8:=hb8.ext hw1;replace hb13:=hb13.ext hw1;replace hb14:=hb14.ext hw1;replace hb15:=hb15.ext hw1;replace hS9:=hS9.ext hw1;clear hw1)))
     all_goals first|(exfalso;omega)|skip
     replace hw:=Ext.trans hwS hw
     refine SW.storeAgg hb8 rfl rfl rfl rfl (one_s q) fun w12 hR2 hg => ?_
     have hG:=hb8.gr hg
     replace hw:=hw.own hb8w hg
     replace hS9:=hS9.grT hG rfl
     repeat' (first|(refine CW.ret ?_)|(refine Post.seq ?_)|refine SW.nil ?_|refine SW.pure rfl rfl ?_)
     exact Post.ret2c rfl rfl rfl hR2 rfl ⟨_,rfl,hw,_,hP,⟨_,rfl,hS9.ownS⟩⟩
   ·have hid1:idleB c1 ⟨x.At,x.Free+1,(an:Int)⟩=false:=by rw [hid,decide_eq_false hp];rfl
    have hPn:=putP_no (s:=s) (cpu:=cpu) (c:=s.Caches[i]) (k:=k') (x:=x) (a:=(an:Int)) (by rw [hc9];exact hid1)
    rw [hc9] at hPn
    rw [hPn,hs1] at hP
    repeat' (first|(first|refine CW.seq ?_|refine CW.region ?_|refine CW.condfr rfl (by with_reducible rfl) ?_|refine CW.skip ?_)|(refine Post.seq ?_)|refine SW.nil ?_|(show SW _ _ _ _ (⟨_,_,_,_,_,some _⟩::_) _ _;first|refine SW.skip_t rfl rfl (by with_reducible rfl) rfl ?_|refine SW.splitd_f rfl rfl rfl (by omega) ?_)|refine SW.pure rfl rfl ?_|(show SW _ _ _ _ (⟨_,Op.fieldAddr _ _ _,_,_,_,none⟩::_) _ _;refine SW.st (st_field rfl) rfl ?_)|(show SW _ _ _ _ (⟨_,Op.binOp _ _ _ _ _,_,_,_,none⟩::_) _ _;refine SW.st (st_add rfl rfl (by omega) (by omega)) rfl ?_)|(show SW _ _ _ _ (⟨_,Op.load _ _,_,_,_,none⟩::_) _ _;first|refine SW.st (st_load rfl (hb14.cell (i:=1) (v := .int .i64 x.Free) rfl)) rfl ?_|refine SW.st (st_load rfl (hb15.cell (i:=2) (v := .int .i64 cs[i].Per) rfl)) rfl ?_|refine SW.st (st_loads rfl rfl ((fun _ _=>hb13.cell))) rfl ?_))
    all_goals first|(exfalso;omega)|skip
    replace hw:=Ext.trans hwS hw
    refine SW.storeAgg hb8 rfl rfl rfl rfl (one_s q) fun w12 hR2 hg => ?_
    have hG:=hb8.gr hg
    replace hw:=hw.own hb8w hg
    replace hS9:=hS9.grT hG rfl
    repeat' (first|(refine CW.ret ?_)|(refine Post.seq ?_)|refine SW.nil ?_|refine SW.pure rfl rfl ?_)
    exact Post.ret2c rfl rfl rfl hR2 rfl ⟨_,rfl,hw,_,hP,⟨_,rfl,hS9.ownS⟩⟩
  ·have hP:=PutR.none (n:=n) (cpu:=cpu) hE hF (by rw [hix];exact hh)
   rcases (show e≠0∨(e=0∧j≠ix) by
    by_cases e0:e=0
    ·exact .inr ⟨e0,fun e1=>hh ⟨e0,e1⟩⟩
    ·exact .inl e0) with g|⟨g,g2⟩
   all_goals
    repeat' (first|(first|refine CW.seq ?_|refine CW.region ?_|refine CW.condtr rfl (by with_reducible rfl) ?_|refine CW.condn_t rfl (by omega) ?_)|(refine Post.seq ?_)|refine SW.nil ?_|(show SW _ _ _ _ (⟨_,_,_,_,_,some _⟩::_) _ _;first|refine SW.want_f rfl rfl (by with_reducible rfl) ?_|refine SW.skip_f rfl rfl (by with_reducible rfl) rfl ?_|refine SW.splitn_t rfl rfl rfl (by omega) ?_|refine SW.splitn_f rfl rfl rfl (by omega) ?_)|refine SW.pure rfl rfl ?_|(show SW _ _ _ _ (⟨_,Op.build _ _,_,_,_,none⟩::_) _ _;refine SW.st (st_build rfl rfl) rfl ?_)|(show SW _ _ _ _ (⟨_,Op.load _ _,_,_,_,none⟩::_) _ _;refine SW.st (st_loads rfl rfl ((fun _ _=>hb4.cell))) rfl ?_)|(show SW _ _ _ _ (⟨_,Op.call ⟨.value (.func _),_,_⟩,_,_,_,none⟩::_) _ _;(refine SW.call rfl rfl (c3 _ hw) ?_;intro v w1 hw1 hv;subst hv;replace hw:=Ext.trans hw hw1;replace hb4:=hb4.ext hw1;replace hb8:=hb8.ext hw1;clear hw1)))
    all_goals first|(exfalso;omega)|skip
    refine SW.storeAgg hb8 rfl rfl rfl rfl (one_s .zero) fun w7 hR2 hg => ?_
    replace hw:=hw.own hb8w hg
    repeat' (first|(refine CW.ret ?_)|(first|refine Post.seq ?_|refine Post.seq_ret ?_)|refine SW.nil ?_|refine SW.pure rfl rfl ?_)
    exact Post.ret2c rfl rfl rfl hR2 rfl ⟨_,rfl,hw,_,hP,SysOut.zero 4 _ _⟩
 ·have hP:=PutR.ask (a:=a) (by rw [hE];exact he0)
  rw [hE] at hP
  repeat' (first|(first|refine CW.seq ?_|refine CW.region ?_|refine CW.condn_t rfl (by omega) ?_)|(refine Post.seq ?_)|refine SW.nil ?_|refine SW.pure rfl rfl ?_|(show SW _ _ _ _ (⟨_,Op.build _ _,_,_,_,none⟩::_) _ _;refine SW.st (st_build rfl rfl) rfl ?_)|(show SW _ _ _ _ (⟨_,Op.load _ _,_,_,_,none⟩::_) _ _;refine SW.st (st_loads rfl rfl ((fun _ _=>hb4.cell))) rfl ?_)|(show SW _ _ _ _ (⟨_,Op.call ⟨.value (.func _),_,_⟩,_,_,_,none⟩::_) _ _;(refine SW.call rfl rfl (cA _ hw) ?_;intro v w1 hw1 hv;subst hv;replace hw:=Ext.trans hw hw1;replace hb4:=hb4.ext hw1;replace hb8:=hb8.ext hw1;clear hw1)))
  all_goals first|(exfalso;omega)|skip
  refine SW.storeAgg hb8 rfl rfl rfl rfl (one_s .zero) fun w6 hR2 hg => ?_
  replace hw:=hw.own hb8w hg
  repeat' (first|(refine CW.ret ?_)|(first|refine Post.seq ?_|refine Post.seq_ret ?_)|refine SW.nil ?_|refine SW.pure rfl rfl ?_)
  exact Post.ret2c rfl rfl rfl hR2 rfl ⟨_,rfl,hw,_,hP,SysOut.zero e _ _⟩
open Go.RowKit
section
variable {P:Program} {L:Env} {w:World} {d:Option Nat} {T:TypeId} {pos:String} {af:Array Edge} {g:Option (Nat×Bool)}
theorem st_neStr {t ty:TypeId} {x y:Operand} {a:ByteArray} (hx:opv L x=some (.string a)) (hy:opv L y=some (.string a)) : St P ⟨d,.binOp .neq t x y ty,T,pos,af,g⟩ L w (.bool false) :=
 ⟨fun _ A hA w' _=>by
  have e1:=hA.eval hx
  have e2:=hA.eval hy
  generalize A.eval = ρ at *
  have h1:(binOp .neq t (.string a) (.string a)).run P w' = .ok (.bool false) w':=by
   have:binOp .neq t (.string a) (.string a)=Op.stringOp .neq a a:=by simp [binOp]
   rw [this]
   simp [Op.stringOp,pure]
  simp [execOp,e1,e2,eqGuard,h1]⟩
theorem st_neSS {t k ty:TypeId} [c:IntsTy P t k] {x y:Operand} (xs:List Int) (hx:opv L x=some (.agg (xs.map (Value.int .i64)).toArray)) (hy:opv L y=some (.agg (xs.map (Value.int .i64)).toArray)) (h1:Nat.beq xs.length k=true) :
  St P ⟨d,.binOp .neq t x y ty,T,pos,af,g⟩ L w (.bool false):=(st_neS xs xs hx hy h1 h1).eq (by simp)
end
def Slab.nums (r:Slab) : List Int:=[r.At,r.Free,r.First]
set_option maxHeartbeats 4000000 in
theorem sameSystem_ans (r q:SRow) (s:KSystem) (w:World) (ha:RdS w r s) (hb:RdS w q s) (hs:s.small) :
  Ans Tryz.prog 9 [.agg (encSys r).toArray,.agg (encSys q).toArray] w fun v _=>v = .bool true:=by
 refine ans_of Tryz.func9 rfl Tryz.ntmps9 rfl ?_
 refine CW.seq (CW.region (SW.box rfl rfl fun b2 w1 hw hb2b hb2 => ?_))
 refine SW.box rfl rfl fun b3 w2 hw2 hb3b hb3 => ?_
 (replace hw:=Ext.trans hw hw2;replace hb2:=hb2.ext hw2)
 obtain ⟨cs,hc⟩:=ha.caches
 obtain ⟨cs',hc'⟩:=hb.caches
 obtain ⟨z1,z2⟩:=hc.len
 obtain ⟨z3,z4⟩:=hc'.len
 have s1:=hs.words
 have s3:=hs.caches
 have m1:=ha.words.len
 have cM:∀ w',Ext w w'→Ans Tryz.prog 21 [.slice r.Words.A r.Words.n r.Words.c,.slice q.Words.A q.Words.n q.Words.c] w' fun v _=>v = .bool true:=fun w' hx=>by
  have:=sameInts_ans _ _ _ _ r.Words.c q.Words.c _ _ w' (ha.words.ext hx) (hb.words.ext hx) (by omega)
  simpa using this
 have cH:∀ w',Ext w w'→Ans Tryz.prog 22 [.agg (encH r.Heap).toArray,.agg (encH q.Heap).toArray] w' fun v _=>v = .bool true:=fun w' hx=>sameHeap_ans _ _ _ w' (ha.heap.ext hx) (hb.heap.ext hx) hs.heap
 repeat' (first|(first|refine CW.seq ?_|refine CW.region ?_|refine CW.block ?_|refine CW.condf rfl ?_|refine CW.skip ?_)|(refine Post.seq ?_)|refine SW.nil ?_|(show SW _ _ _ _ (⟨_,_,_,_,_,some _⟩::_) _ _;first|refine SW.want_f rfl rfl (by with_reducible rfl) ?_|refine SW.splitn_f rfl rfl rfl (by omega) ?_|refine SW.want rfl rfl ?_)|refine SW.pure rfl rfl ?_|(show SW _ _ _ _ (⟨_,Op.fieldAddr _ _ _,_,_,_,none⟩::_) _ _;refine SW.st (st_field rfl) rfl ?_)|(show SW _ _ _ _ (⟨_,Op.call ⟨.builtin .len,_,_⟩,_,_,_,none⟩::_) _ _;refine SW.st (st_len rfl) rfl ?_)|(show SW _ _ _ _ (⟨_,Op.load _ _,_,_,_,none⟩::_) _ _;first|refine SW.st (st_load rfl (hb2.cell rfl)) rfl ?_|refine SW.st (st_load rfl (hb3.cell rfl)) rfl ?_|refine SW.st (st_loads rfl rfl ((heapIn hb2))) rfl ?_|refine SW.st (st_loads rfl rfl ((heapIn hb3))) rfl ?_)|(show SW _ _ _ _ (⟨_,Op.call ⟨.value (.func _),_,_⟩,_,_,_,none⟩::_) _ _;first|(refine SW.call rfl rfl (cM _ hw) ?_;intro v w1 hw1 hv;subst hv;replace hw:=Ext.trans hw hw1;replace hb2:=hb2.ext hw1;replace hb3:=hb3.ext hw1;clear hw1)|(refine SW.call rfl rfl (cH _ hw) ?_;intro v w1 hw1 hv;subst hv;replace hw:=Ext.trans hw hw1;replace hb2:=hb2.ext hw1;replace hb3:=hb3.ext hw1;clear hw1)))
 all_goals first|(exfalso;omega)|skip
 clear cM cH
 refine CW.loop (fun k:Nat=>[(2,.pointer (some ⟨b2,0,none⟩)),(3,.pointer (some ⟨b3,0,none⟩)),(5,.int .i64 (k:Int))]) (fun k w'=>k≤r.Caches.n∧Ext w w'∧Blk w' b2 30 (encSys r)∧Blk w' b3 30 (encSys q)) (fun k=>r.Caches.n-k) 0
  ⟨rfl,rfl,rfl,trivial⟩ ⟨by omega,hw,hb2,hb3⟩ ?_
 clear hw hb2 hb3
 rintro k w' ⟨hk,hw,hb2,hb3⟩
 have hA:=hc.row.base
 have hB:=hc'.row.base
 by_cases hkn:k<r.Caches.n
 ·have hkn':k<q.Caches.n:=by omega
  have hck:=hc.each.get k (by omega) (by omega)
  have hck':=hc'.each.get k (by omega) (by omega)
  have sm:=hs.each _ (List.getElem_mem (show k<s.Caches.length by omega))
  have q1:=hck.names.len
  have q2:=hck.slabs.len
  have q3:=hck.active.len
  have q1':=hck'.names.len
  have q2':=hck'.slabs.len
  have q4:=sm.names
  have q5:=sm.slabs
  have q6:=sm.active
  have g1:=hck.size
  have g2:=hck.per
  have g3:=hck.order
  have g4:=hck'.size
  have g5:=hck'.per
  have g6:=hck'.order
  have cP:∀ w',Ext w w'→Ans Tryz.prog 21 [.slice cs[k].Active.A cs[k].Active.n cs[k].Active.c,.slice cs'[k].Active.A cs'[k].Active.n cs'[k].Active.c] w' fun v _=>v = .bool true:=fun w' hx=>by
   have:=sameInts_ans _ _ _ _ cs[k].Active.c cs'[k].Active.c _ _ w' (hck.active.ext hx) (hck'.active.ext hx) (by omega)
   simpa using this
  repeat' (first|(first|refine CW.seq ?_|refine CW.region ?_|refine CW.block ?_|refine CW.condd_t rfl (by omega) ?_|refine CW.skip ?_)|(refine Post.seq ?_)|refine SW.nil ?_|refine SW.pure rfl rfl ?_|(show SW _ _ _ _ (⟨_,Op.fieldAddr _ _ _,_,_,_,none⟩::_) _ _;refine SW.st (st_field rfl) rfl ?_)|(show SW _ _ _ _ (⟨_,Op.indexAddr _ _ _,_,_,_,none⟩::_) _ _;refine SW.st (st_indexN rfl rfl (by assumption) (by omega)) rfl ?_)|(show SW _ _ _ _ (⟨_,Op.call ⟨.builtin .len,_,_⟩,_,_,_,none⟩::_) _ _;refine SW.st (st_len rfl) rfl ?_)|(show SW _ _ _ _ (⟨_,Op.load _ _,_,_,_,none⟩::_) _ _;first|refine SW.st (st_load rfl (hb2.cell rfl)) rfl ?_|refine SW.st (st_loadsx hw rfl rfl ((hc.row.all hkn))) rfl ?_))
  refine SW.alloc rfl fun b6 w1 hw1 hb6b hb6 => ?_
  skip
  refine SW.storeAgg hb6 rfl rfl rfl rfl (one_c _) fun w2 hb6' hg => ?_
  have hXX:=hw1.own hb6b hg
  have hb6w:w.heap.size≤b6:=Nat.le_trans hw.size hb6b
  replace hw:=Ext.trans hw hXX
  replace hb2:=hb2.ext hXX
  replace hb3:=hb3.ext hXX
  replace hb6:=hb6'
  clear hb6' hw1 hg hXX
  repeat' (first|(first|refine CW.seq ?_|refine CW.region ?_)|(refine Post.seq ?_)|refine SW.nil ?_|refine SW.pure rfl rfl ?_|(show SW _ _ _ _ (⟨_,Op.fieldAddr _ _ _,_,_,_,none⟩::_) _ _;refine SW.st (st_field rfl) rfl ?_)|(show SW _ _ _ _ (⟨_,Op.indexAddr _ _ _,_,_,_,none⟩::_) _ _;refine SW.st (st_indexN rfl rfl (by assumption) (by omega)) rfl ?_)|(show SW _ _ _ _ (⟨_,Op.load _ _,_,_,_,none⟩::_) _ _;first|refine SW.st (st_load rfl (hb3.cell rfl)) rfl ?_|refine SW.st (st_loadsx hw rfl rfl ((hc'.row.all hkn'))) rfl ?_))
  refine SW.alloc rfl fun b7 w1 hw1 hb7b hb7 => ?_
  skip
  refine SW.storeAgg hb7 rfl rfl rfl rfl (one_c _) fun w2 hb7' hg => ?_
  have hXX:=hw1.own hb7b hg
  have hb7w:w.heap.size≤b7:=Nat.le_trans hw.size hb7b
  replace hw:=Ext.trans hw hXX
  replace hb2:=hb2.ext hXX
  replace hb3:=hb3.ext hXX
  replace hb6:=hb6.ext hXX
  replace hb7:=hb7'
  clear hb7' hw1 hg hXX
  repeat' (first|(first|refine CW.seq ?_|refine CW.region ?_|refine CW.block ?_|refine CW.condf rfl ?_|refine CW.skip ?_)|(refine Post.seq ?_)|refine SW.nil ?_|(show SW _ _ _ _ (⟨_,_,_,_,_,some _⟩::_) _ _;first|refine SW.want_f rfl rfl (by with_reducible rfl) ?_|refine SW.splitn_f rfl rfl rfl (by omega) ?_)|refine SW.pure rfl rfl ?_|(show SW _ _ _ _ (⟨_,Op.fieldAddr _ _ _,_,_,_,none⟩::_) _ _;refine SW.st (st_field rfl) rfl ?_)|(show SW _ _ _ _ (⟨_,Op.call ⟨.builtin .len,_,_⟩,_,_,_,none⟩::_) _ _;refine SW.st (st_len rfl) rfl ?_)|(show SW _ _ _ _ (⟨_,Op.load _ _,_,_,_,none⟩::_) _ _;first|refine SW.st (st_load rfl (hb6.cell rfl)) rfl ?_|refine SW.st (st_load rfl (hb7.cell rfl)) rfl ?_)|(show SW _ _ _ _ (⟨_,Op.call ⟨.value (.func _),_,_⟩,_,_,_,none⟩::_) _ _;(refine SW.call rfl rfl (cP _ hw) ?_;intro v w1 hw1 hv;subst hv;replace hw:=Ext.trans hw hw1;replace hb2:=hb2.ext hw1;replace hb3:=hb3.ext hw1;replace hb6:=hb6.ext hw1;replace hb7:=hb7.ext hw1;clear hw1)))
  all_goals first|(exfalso;omega)|skip
  clear cP
  refine CW.loop (fun j:Nat=>[(2,.pointer (some ⟨b2,0,none⟩)),(3,.pointer (some ⟨b3,0,none⟩)),(5,.int .i64 (k:Int)),(6,.pointer (some ⟨b6,0,none⟩)),(7,.pointer (some ⟨b7,0,none⟩)),(8,.int .i64 (j:Int))])
   (fun j w'=>j≤cs[k].Names.n∧Ext w w'∧Blk w' b2 30 (encSys r)∧Blk w' b3 30 (encSys q)∧Blk w' b6 44 (encC cs[k])∧Blk w' b7 44 (encC cs'[k])) (fun j=>cs[k].Names.n-j) 0
   ⟨rfl,rfl,rfl,rfl,rfl,rfl,trivial⟩ ⟨by omega,hw,hb2,hb3,hb6,hb7⟩ ?_
  clear hw hb2 hb3 hb6 hb7
  rintro j w' ⟨hj,hw,hb2,hb3,hb6,hb7⟩
  have hA1:=hck.names.base
  have hB1:=hck'.names.base
  by_cases hjn:j<cs[k].Names.n
  ·have hjn':j<cs'[k].Names.n:=by omega
   repeat' (first|(first|refine CW.seq ?_|refine CW.region ?_|refine CW.block ?_|refine CW.condfr rfl (by with_reducible rfl) ?_|refine CW.condd_t rfl (by omega) ?_|refine CW.skip ?_|(apply CW.quiet1 mixed;(· kernel_rfl);rotate_left;intro w1 hw1;replace hw:=Ext.trans hw hw1;replace hb2:=hb2.ext hw1;replace hb3:=hb3.ext hw1;replace hb6:=hb6.ext hw1;replace hb7:=hb7.ext hw1;clear hw1;rotate_right))|(first|refine Post.seq ?_|refine Post.blk ?_)|refine SW.nil ?_|refine SW.pure rfl rfl ?_|(show SW _ _ _ _ (⟨_,Op.fieldAddr _ _ _,_,_,_,none⟩::_) _ _;refine SW.st (st_field rfl) rfl ?_)|(show SW _ _ _ _ (⟨_,Op.binOp _ _ _ _ _,_,_,_,none⟩::_) _ _;refine SW.st (st_add rfl rfl (by omega) (by omega)) rfl ?_)|(show SW _ _ _ _ (⟨_,Op.indexAddr _ _ _,_,_,_,none⟩::_) _ _;refine SW.st (st_indexN rfl rfl (by assumption) (by omega)) rfl ?_)|(show SW _ _ _ _ (⟨_,Op.call ⟨.builtin .len,_,_⟩,_,_,_,none⟩::_) _ _;refine SW.st (st_len rfl) rfl ?_)|(show SW _ _ _ _ (⟨_,Op.load _ _,_,_,_,none⟩::_) _ _;first|refine SW.st (st_load rfl (hb6.cell rfl)) rfl ?_|refine SW.st (st_load rfl (hb7.cell rfl)) rfl ?_|refine SW.st (st_loadx hw rfl (hck.names.one hjn rfl)) rfl ?_|refine SW.st (st_loadx hw rfl (hck'.names.one hjn' rfl)) rfl ?_)|(refine SW.st (st_neStr rfl rfl) rfl ?_)|exact SW.qnil rfl)
   exact Post.again (j+1) ⟨rfl,rfl,rfl,rfl,rfl,rfl,trivial⟩ (by omega) ⟨by omega,hw,hb2,hb3,hb6,hb7⟩
  ·repeat' (first|(first|refine CW.seq ?_|refine CW.region ?_|refine CW.block ?_|refine CW.condd_f rfl (by omega) ?_|refine CW.exit ?_)|(first|refine Post.seq ?_|refine Post.seq_exit ?_|refine Post.hit ?_|refine Post.again_exit ?_)|refine SW.nil ?_|refine SW.pure rfl rfl ?_|(show SW _ _ _ _ (⟨_,Op.fieldAddr _ _ _,_,_,_,none⟩::_) _ _;refine SW.st (st_field rfl) rfl ?_)|(show SW _ _ _ _ (⟨_,Op.call ⟨.builtin .len,_,_⟩,_,_,_,none⟩::_) _ _;refine SW.st (st_len rfl) rfl ?_)|(show SW _ _ _ _ (⟨_,Op.load _ _,_,_,_,none⟩::_) _ _;refine SW.st (st_load rfl (hb6.cell rfl)) rfl ?_))
   clear hjn hj hA1 hB1
   refine CW.loop (fun j:Nat=>[(2,.pointer (some ⟨b2,0,none⟩)),(3,.pointer (some ⟨b3,0,none⟩)),(5,.int .i64 (k:Int)),(6,.pointer (some ⟨b6,0,none⟩)),(7,.pointer (some ⟨b7,0,none⟩)),(9,.int .i64 (j:Int))])
    (fun j w'=>j≤cs[k].Slabs.n∧Ext w w'∧Blk w' b2 30 (encSys r)∧Blk w' b3 30 (encSys q)∧Blk w' b6 44 (encC cs[k])∧Blk w' b7 44 (encC cs'[k])) (fun j=>cs[k].Slabs.n-j) 0
    ⟨rfl,rfl,rfl,rfl,rfl,rfl,trivial⟩ ⟨by omega,hw,hb2,hb3,hb6,hb7⟩ ?_
   clear hw hb2 hb3 hb6 hb7
   rintro j w' ⟨hj,hw,hb2,hb3,hb6,hb7⟩
   have hA1:=hck.slabs.base
   have hB1:=hck'.slabs.base
   by_cases hjn:j<cs[k].Slabs.n
   ·have hjn':j<cs'[k].Slabs.n:=by omega
    repeat' (first|(first|refine CW.seq ?_|refine CW.region ?_|refine CW.block ?_|refine CW.condfr rfl (by with_reducible rfl) ?_|refine CW.condd_t rfl (by omega) ?_|refine CW.skip ?_|(apply CW.quiet1 mixed;(· kernel_rfl);rotate_left;intro w1 hw1;replace hw:=Ext.trans hw hw1;replace hb2:=hb2.ext hw1;replace hb3:=hb3.ext hw1;replace hb6:=hb6.ext hw1;replace hb7:=hb7.ext hw1;clear hw1;rotate_right))|(first|refine Post.seq ?_|refine Post.blk ?_)|refine SW.nil ?_|refine SW.pure rfl rfl ?_|(show SW _ _ _ _ (⟨_,Op.fieldAddr _ _ _,_,_,_,none⟩::_) _ _;refine SW.st (st_field rfl) rfl ?_)|(show SW _ _ _ _ (⟨_,Op.binOp _ _ _ _ _,_,_,_,none⟩::_) _ _;refine SW.st (st_add rfl rfl (by omega) (by omega)) rfl ?_)|(show SW _ _ _ _ (⟨_,Op.indexAddr _ _ _,_,_,_,none⟩::_) _ _;refine SW.st (st_indexN rfl rfl (by assumption) (by omega)) rfl ?_)|(show SW _ _ _ _ (⟨_,Op.call ⟨.builtin .len,_,_⟩,_,_,_,none⟩::_) _ _;refine SW.st (st_len rfl) rfl ?_)|(show SW _ _ _ _ (⟨_,Op.load _ _,_,_,_,none⟩::_) _ _;first|refine SW.st (st_load rfl (hb6.cell rfl)) rfl ?_|refine SW.st (st_load rfl (hb7.cell rfl)) rfl ?_|refine SW.st (st_loadsx hw rfl rfl ((hck.slabs.all hjn))) rfl ?_|refine SW.st (st_loadsx hw rfl rfl ((hck'.slabs.all hjn'))) rfl ?_)|(refine SW.st (st_neSS (Slab.nums (s.Caches[k]).Slabs[j]) rfl rfl rfl) rfl ?_)|exact SW.qnil rfl)
    exact Post.again (j+1) ⟨rfl,rfl,rfl,rfl,rfl,rfl,trivial⟩ (by omega) ⟨by omega,hw,hb2,hb3,hb6,hb7⟩
   ·repeat' (first|(first|refine CW.seq ?_|refine CW.region ?_|refine CW.condd_f rfl (by omega) ?_|refine CW.exit ?_)|(first|refine Post.seq ?_|refine Post.seq_exit ?_|refine Post.hit ?_|refine Post.blk ?_|refine Post.again_exit ?_)|refine SW.nil ?_|refine SW.pure rfl rfl ?_|(show SW _ _ _ _ (⟨_,Op.fieldAddr _ _ _,_,_,_,none⟩::_) _ _;refine SW.st (st_field rfl) rfl ?_)|(show SW _ _ _ _ (⟨_,Op.binOp _ _ _ _ _,_,_,_,none⟩::_) _ _;refine SW.st (st_add rfl rfl (by omega) (by omega)) rfl ?_)|(show SW _ _ _ _ (⟨_,Op.call ⟨.builtin .len,_,_⟩,_,_,_,none⟩::_) _ _;refine SW.st (st_len rfl) rfl ?_)|(show SW _ _ _ _ (⟨_,Op.load _ _,_,_,_,none⟩::_) _ _;refine SW.st (st_load rfl (hb6.cell rfl)) rfl ?_))
    exact Post.again (k+1) ⟨rfl,rfl,rfl,trivial⟩ (by omega) ⟨by omega,hw,hb2,hb3⟩
 ·repeat' (first|(first|refine CW.seq ?_|refine CW.region ?_|refine CW.condd_f rfl (by omega) ?_|refine CW.ret ?_|refine CW.exit ?_)|(first|refine Post.seq ?_|refine Post.seq_exit ?_|refine Post.hit ?_|refine Post.again_exit ?_)|refine SW.nil ?_|refine SW.pure rfl rfl ?_|(show SW _ _ _ _ (⟨_,Op.fieldAddr _ _ _,_,_,_,none⟩::_) _ _;refine SW.st (st_field rfl) rfl ?_)|(show SW _ _ _ _ (⟨_,Op.call ⟨.builtin .len,_,_⟩,_,_,_,none⟩::_) _ _;refine SW.st (st_len rfl) rfl ?_)|(show SW _ _ _ _ (⟨_,Op.load _ _,_,_,_,none⟩::_) _ _;refine SW.st (st_load rfl (hb2.cell rfl)) rfl ?_))
  exact Post.ret1 rfl rfl ⟨_,rfl,hw,rfl⟩
open Go.RowKit
set_option maxHeartbeats 2000000 in
theorem slabFrees_ans (r:SRow) (s:KSystem) (n:ByteArray) (cpu a:Int) (w:World) (hr:RdS w r s) (hf:s.fine) (hns:n.size≤140737488351232) (ha : -9223372036854775808≤a∧a≤9223372036854775807) :
  Ans Tryz.prog 4 [.agg (encSys r).toArray,.string n,.int .i64 cpu,.int .i64 a] w fun v _=>v = .bool true:=by
 refine ans_of Tryz.func4 rfl Tryz.ntmps4 rfl ?_
 have hs:=hf.small
 refine CW.seq (CW.region (SW.box rfl rfl fun b1 w1 hw hb1b hb1 => ?_))
 repeat' (first|(first|refine CW.seq ?_|refine CW.region ?_)|(refine Post.seq ?_)|refine SW.nil ?_|refine SW.pure rfl rfl ?_|(show SW _ _ _ _ (⟨_,Op.load _ _,_,_,_,none⟩::_) _ _;refine SW.st (st_loads rfl rfl ((fun _ _=>hb1.cell))) rfl ?_))
 refine SW.call rfl rfl (SystemCopyX_ans r s _ (hr.ext hw) hs) fun v w4 hw4 hv => ?_
 obtain ⟨k,cs,rfl,hKX,_⟩:=hv
 have hK:=hKX.ownS
 clear hKX
 (replace hw:=Ext.trans hw hw4;replace hb1:=hb1.ext hw4)
 refine SW.alloc rfl fun b3 w1 hw1 hb3b hb3 => ?_
 skip
 refine SW.storeAgg hb3 rfl rfl rfl rfl (one_s k) fun w2 hb3' hg => ?_
 have hXX:=hw1.own hb3b hg
 have hb3w:w.heap.size≤b3:=Nat.le_trans hw.size hb3b
 replace hw:=Ext.trans hw hXX
 replace hb1:=hb1.ext hXX
 replace hK:=hK.ext hXX
 replace hb3:=hb3'
 clear hb3' hw1 hg hXX
 repeat' (first|(first|refine CW.seq ?_|refine CW.region ?_)|(refine Post.seq ?_)|refine SW.nil ?_|refine SW.pure rfl rfl ?_|(show SW _ _ _ _ (⟨_,Op.load _ _,_,_,_,none⟩::_) _ _;refine SW.st (st_loads rfl rfl ((fun _ _=>hb3.cell))) rfl ?_))
 refine SW.call rfl rfl (slabFree_ans k s n cpu a _ hK.rd hf hns ha) fun v w5 hw5 hv => ?_
 obtain ⟨o,hu,s1,rfl,hs1⟩:=hv
 have hsm:=hu.small hf
 (replace hw:=Ext.trans hw hw5;replace hb1:=hb1.ext hw5;replace hb3:=hb3.ext hw5;replace hK:=hK.ext hw5)
 repeat' (refine SW.pure rfl rfl ?_)
 refine SW.alloc rfl fun b4 w1 hw1 hb4b hb4 => ?_
 skip
 refine SW.storeAgg hb4 rfl rfl rfl rfl (one_s s1) fun w2 hb4' hg => ?_
 have hXX:=hw1.own hb4b hg
 have hb4w:w.heap.size≤b4:=Nat.le_trans hw.size hb4b
 replace hw:=Ext.trans hw hXX
 replace hb1:=hb1.ext hXX
 replace hb3:=hb3.ext hXX
 replace hK:=hK.ext hXX
 replace hs1:=hs1.ext hXX
 replace hb4:=hb4'
 clear hb4' hw1 hg hXX
 repeat' (first|(first|refine CW.seq ?_|refine CW.region ?_)|(refine Post.seq ?_)|refine SW.nil ?_|refine SW.pure rfl rfl ?_|(show SW _ _ _ _ (⟨_,Op.load _ _,_,_,_,none⟩::_) _ _;refine SW.st (st_loads rfl rfl ((fun _ _=>hb1.cell))) rfl ?_))
 refine SW.call rfl rfl (PutOf_ans r s n cpu a _ (hr.ext hw) hf) fun v w6 hw6 hv => ?_
 obtain ⟨o',hu',s2,rfl,hs2⟩:=hv
 obtain rfl:=hu.det hu'
 (replace hw:=Ext.trans hw hw6;replace hb1:=hb1.ext hw6;replace hb3:=hb3.ext hw6;replace hb4:=hb4.ext hw6;replace hK:=hK.ext hw6;replace hs1:=hs1.ext hw6)
 repeat' (refine SW.pure rfl rfl ?_)
 refine SW.alloc rfl fun b6 w1 hw1 hb6b hb6 => ?_
 skip
 refine SW.storeAgg hb6 rfl rfl rfl rfl (one_s s2) fun w2 hb6' hg => ?_
 have hXX:=hw1.own hb6b hg
 have hb6w:w.heap.size≤b6:=Nat.le_trans hw.size hb6b
 replace hw:=Ext.trans hw hXX
 replace hb1:=hb1.ext hXX
 replace hb3:=hb3.ext hXX
 replace hb4:=hb4.ext hXX
 replace hK:=hK.ext hXX
 replace hs1:=hs1.ext hXX
 replace hs2:=hs2.ext hXX
 replace hb6:=hb6'
 clear hb6' hw1 hg hXX
 have cA:∀ w',Ext w w'→RdS w' s1 o.1→RdS w' s2 o.1→Ans Tryz.prog 9 [.agg (encSys s1).toArray,.agg (encSys s2).toArray] w' fun v _=>v = .bool true:=fun w' _ h1 h2=>sameSystem_ans s1 s2 o.1 w' h1 h2 hsm
 have cB:∀ w',Ext w w'→RdS w' k s→Ans Tryz.prog 9 [.agg (encSys k).toArray,.agg (encSys r).toArray] w' fun v _=>v = .bool true:=fun w' hx h1=>sameSystem_ans k r s w' h1 (hr.ext hx) hs
 repeat' (first|(first|refine CW.seq ?_|refine CW.region ?_|refine CW.ret ?_)|(refine Post.seq ?_)|refine SW.nil ?_|(show SW _ _ _ _ (⟨_,_,_,_,_,some _⟩::_) _ _;first|refine SW.want_t rfl rfl (by with_reducible rfl) ?_|refine SW.splitd_t rfl rfl rfl (by omega) ?_)|refine SW.pure rfl rfl ?_|(show SW _ _ _ _ (⟨_,Op.load _ _,_,_,_,none⟩::_) _ _;first|refine SW.st (st_loads rfl rfl ((fun _ _=>hb4.cell))) rfl ?_|refine SW.st (st_loads rfl rfl ((fun _ _=>hb6.cell))) rfl ?_|refine SW.st (st_loads rfl rfl ((fun _ _=>hb3.cell))) rfl ?_|refine SW.st (st_loads rfl rfl ((fun _ _=>hb1.cell))) rfl ?_)|(show SW _ _ _ _ (⟨_,Op.call ⟨.value (.func _),_,_⟩,_,_,_,none⟩::_) _ _;first|(refine SW.call rfl rfl (cA _ hw hs1.rd hs2.rd) ?_;intro v w1 hw1 hv;subst hv;replace hw:=Ext.trans hw hw1;replace hb1:=hb1.ext hw1;replace hb3:=hb3.ext hw1;replace hb4:=hb4.ext hw1;replace hb6:=hb6.ext hw1;replace hK:=hK.ext hw1;replace hs1:=hs1.ext hw1;replace hs2:=hs2.ext hw1;clear hw1)|(refine SW.call rfl rfl (cB _ hw hK.rd) ?_;intro v w1 hw1 hv;subst hv;replace hw:=Ext.trans hw hw1;replace hb1:=hb1.ext hw1;replace hb3:=hb3.ext hw1;replace hb4:=hb4.ext hw1;replace hb6:=hb6.ext hw1;replace hK:=hK.ext hw1;replace hs1:=hs1.ext hw1;replace hs2:=hs2.ext hw1;clear hw1)))
 exact Post.ret1 rfl rfl ⟨_,rfl,hw,rfl⟩
end Go.Proofs.YtigikedbffjeiaaGreat
