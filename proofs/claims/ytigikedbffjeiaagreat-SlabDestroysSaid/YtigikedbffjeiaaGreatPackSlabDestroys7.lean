/-
  Texts of the claim SlabDestroys, part 7: what its theorem leans on.
-/
import Derived.Test.YtigikedbffjeiaaGreatPackSlabDestroys6
import Derived.Test.YtigikedbffjeiaaGreatPackSlabDestroys5
set_option linter.unusedVariables false
set_option linter.unusedSimpArgs false
namespace Go.Proofs.YtigikedbffjeiaaGreat
open Go.RowKit
def oddB (t:Int) : Bool := !decide (tyOk t)
theorem oddB_f {t:Int} (h:tyOk t) : oddB t=false:=by simp [oddB,h]
theorem oddB_t {t:Int} (h : ¬ tyOk t) : oddB t=true:=by simp [oddB,h]
theorem Zodd_ans (t:Int) (w:World) : Ans Tryz.prog 117 ([.int .i64 t]++[]) w fun v _=>v = .bool (oddB t):=by
 refine ans_of Tryz.func117 rfl Tryz.ntmps117 rfl ?_
 have hw:=Ext.refl w
 by_cases h1 : 0≤t
 ·by_cases h2:t≤2
  ·rw [oddB_f ⟨h1,h2⟩]
   repeat' (first|(first|refine CW.seq ?_|refine CW.region ?_|refine CW.ret ?_)|(refine Post.seq ?_)|refine SW.nil ?_|(show SW _ _ _ _ (⟨_,_,_,_,_,some _⟩::_) _ _;first|refine SW.want_f rfl rfl (by with_reducible rfl) ?_|refine SW.splitd_f rfl rfl rfl (by omega) ?_)|refine SW.pure rfl rfl ?_)
   all_goals exact Post.ret1 rfl rfl ⟨_,rfl,hw,by simp;try omega⟩
  ·rw [oddB_t (fun h=>h2 h.2)]
   repeat' (first|(first|refine CW.seq ?_|refine CW.region ?_|refine CW.ret ?_)|(refine Post.seq ?_)|refine SW.nil ?_|(show SW _ _ _ _ (⟨_,_,_,_,_,some _⟩::_) _ _;first|refine SW.want_f rfl rfl (by with_reducible rfl) ?_|refine SW.splitd_f rfl rfl rfl (by omega) ?_)|refine SW.pure rfl rfl ?_)
   all_goals exact Post.ret1 rfl rfl ⟨_,rfl,hw,by simp;try omega⟩
 ·rw [oddB_t (fun h=>h1 h.1)]
  repeat' (first|(first|refine CW.seq ?_|refine CW.region ?_|refine CW.ret ?_)|(refine Post.seq ?_)|refine SW.nil ?_|(show SW _ _ _ _ (⟨_,_,_,_,_,some _⟩::_) _ _;first|refine SW.skip_f rfl rfl (by with_reducible rfl) rfl ?_|refine SW.splitd_t rfl rfl rfl (by omega) ?_)|refine SW.pure rfl rfl ?_)
  all_goals exact Post.ret1 rfl rfl ⟨_,rfl,hw,by simp;try omega⟩
set_option maxHeartbeats 4000000 in
theorem Zcheck_ans (r:ZRow) (z:Zone) (w:World) (hr:RdZ w r z) (hf:r.Free.n≤2305843009213693952) (ht:r.Types.n≤2305843009213693952) (h1 : -9223372036854775808≤r.From∧r.From≤9223372036854775807) (h2 : -9223372036854775808≤r.To∧r.To≤9223372036854775807) :
  Ans Tryz.prog 87 [.agg (encZ r).toArray] w fun v _=>v = .int .i64 (if zoneB z then 0 else 8):=by
 refine ans_of Tryz.func87 rfl Tryz.ntmps87 rfl ?_
 refine CW.seq (CW.region (SW.box rfl rfl fun b1 w1 hw hb1b hb1 => ?_))
 have eF:=hr.from_
 have eT:=hr.to_
 have hFl:=hr.free.len
 have hTl:=hr.types.len
 repeat' (first|(first|refine CW.seq ?_|refine CW.region ?_)|(refine Post.seq ?_)|refine SW.nil ?_|refine SW.pure rfl rfl ?_|(show SW _ _ _ _ (⟨_,Op.fieldAddr _ _ _,_,_,_,none⟩::_) _ _;refine SW.st (st_field rfl) rfl ?_)|(show SW _ _ _ _ (⟨_,Op.load _ _,_,_,_,none⟩::_) _ _;refine SW.st (st_load rfl (hb1.cell rfl)) rfl ?_))
 refine SW.call rfl rfl (Znew_ans r.From r.To _ h1 h2) fun v w2 hw2 hv => ?_
 (replace hw:=Ext.trans hw hw2;replace hb1:=hb1.ext hw2)
 by_cases hok:zoneOk r.From r.To
 ·rw [zoneNewV_t hok] at hv
  obtain ⟨s,rfl,hs⟩:=hv
  obtain ⟨o1,o2,o3,o4,o5⟩:=id hok
  have hno:∀ {p:Prop},(ZoneMay z→False)→p ∨ ¬ ZoneMay z:=fun h => .inr h
  by_cases hl8 : 8*(z.Types.length:Int)=z.To-z.From
  ·repeat' (refine SW.pure rfl rfl ?_)
   refine SW.alloc rfl fun b3 w1 hw1 hb3b hb3 => ?_
   have hb3w:w.heap.size≤b3:=Nat.le_trans hw.size hb3b
   have hne_b1:b1≠b3:=by have:=hb1.lt;omega
   replace hw:=Ext.trans hw hw1
   replace hb1:=hb1.ext hw1
   replace hs:=hs.ext hw1
   refine SW.storeAgg hb3 rfl rfl rfl rfl (one_z _) fun w2 hb3' hg => ?_
   replace hw:=hw.own hb3w hg
   replace hs:=hs.blk hb3 hg rfl rfl
   replace hb1:=hb1.grown hg (by simpa using hne_b1)
   replace hb3:=hb3'
   clear hb3' hw1 hg hb3b
   have cO:∀ w',Ext w w'→Ans Tryz.prog 70 [.slice r.Types.A r.Types.n r.Types.c,.func (.func 117) #[] ([] : List Value).toArray] w' fun v _=>v = .bool (z.Types.any oddB):=fun w' h =>
    ContainsFuncInt_ans _ _ _ _ _ (hr.types.ext h) _ [] oddB (fun x => .int .i64 x) (fun x=>rfl) (fun x _ w1 _=>Zodd_ans x w1) (by omega)
   cases hodd:z.Types.any oddB
   ·rw [hodd] at cO
    have hty:∀ t∈z.Types,tyOk t:=fun t htt=>by
     rw [List.any_eq_false] at hodd
     have:=hodd t htt
     simp [oddB] at this
     exact this
    repeat' (first|(first|refine CW.seq ?_|refine CW.region ?_|refine CW.block ?_|refine CW.condfr rfl (by with_reducible rfl) ?_|refine CW.condn_f rfl (by omega) ?_|refine CW.skip ?_)|(refine Post.seq ?_)|refine SW.nil ?_|(show SW _ _ _ _ (⟨_,_,_,_,_,some _⟩::_) _ _;first|refine SW.want_f rfl rfl (by with_reducible rfl) ?_|refine SW.splitn_f rfl rfl rfl (by omega) ?_)|refine SW.pure rfl rfl ?_|(show SW _ _ _ _ (⟨_,Op.fieldAddr _ _ _,_,_,_,none⟩::_) _ _;refine SW.st (st_field rfl) rfl ?_)|(show SW _ _ _ _ (⟨_,Op.binOp _ _ _ _ _,_,_,_,none⟩::_) _ _;first|refine SW.st (st_sub rfl rfl (by omega) (by omega)) rfl ?_|refine SW.st (st_quo rfl rfl (by omega) (by omega) (by omega)) rfl ?_)|(show SW _ _ _ _ (⟨_,Op.call ⟨.builtin .len,_,_⟩,_,_,_,none⟩::_) _ _;refine SW.st (st_len rfl) rfl ?_)|(show SW _ _ _ _ (⟨_,Op.load _ _,_,_,_,none⟩::_) _ _;refine SW.st (st_load rfl (hb1.cell rfl)) rfl ?_)|(show SW _ _ _ _ (⟨_,Op.call ⟨.value (.func _),_,_⟩,_,_,_,none⟩::_) _ _;(refine SW.call rfl rfl (cO _ hw) ?_;intro v w1 hw1 hv;subst hv;replace hw:=Ext.trans hw hw1;replace hb1:=hb1.ext hw1;clear hw1)))
    refine CW.loop (fun k:Nat=>[(1,.pointer (some ⟨b1,0,none⟩)),(5,.func (.func 117) #[] #[]),(35,.slice r.Free.A r.Free.n r.Free.c),(36,.int .i64 (r.Free.n:Int)),(37,.int .i64 (k:Int))])
     (fun k w'=>k≤r.Free.n∧Ext w w'∧Blk w' b1 72 (encZ r)∧(∀ (i:Nat) (h:i<z.Free.length),i<k→blkOk z.From z.To z.Free[i])∧(∀ (i:Nat) (h:i+1<z.Free.length),i+1<k→nextOk z.Free[i] z.Free[i+1]))
     (fun k=>r.Free.n-k) 0 ⟨rfl,rfl,rfl,rfl,rfl,trivial⟩ ⟨by omega,hw,hb1,fun i h hi=>by omega,fun i h hi=>by omega⟩ ?_
    clear hw hb1 hb3 cO hs
    rintro k w' ⟨hk,hw,hb1,hI,hN⟩
    have hA:=hr.free.base
    by_cases hkn:k<r.Free.n
    ·have hkl:=hr.free.lt hkn
     repeat' (first|(first|refine CW.seq ?_|refine CW.region ?_|refine CW.block ?_|refine CW.condd_t rfl (by omega) ?_|refine CW.skip ?_)|(refine Post.seq ?_)|refine SW.nil ?_|refine SW.pure rfl rfl ?_|(show SW _ _ _ _ (⟨_,Op.indexAddr _ _ _,_,_,_,none⟩::_) _ _;refine SW.st (st_indexN rfl rfl (by assumption) (by omega)) rfl ?_)|(show SW _ _ _ _ (⟨_,Op.load _ _,_,_,_,none⟩::_) _ _;refine SW.st (st_loadsx hw rfl rfl ((hr.free.all hkn))) rfl ?_))
     refine SW.alloc rfl fun b7 w3 hw3 hb7b hb7 => ?_
     have hb7w:w.heap.size≤b7:=Nat.le_trans hw.size hb7b
     have hne:b1≠b7:=by have:=hb1.lt;omega
     (replace hw:=Ext.trans hw hw3;replace hb1:=hb1.ext hw3)
     repeat' (refine SW.pure rfl rfl ?_)
     refine SW.storeAgg hb7 rfl rfl rfl rfl (Enc.one (enc:=encBk) _) fun w4 hb7' hg => ?_
     replace hw:=hw.own hb7w hg
     replace hb1:=hb1.grown hg (by simpa using hne)
     by_cases hbk:blkOk z.From z.To z.Free[k]
     ·obtain ⟨hfz,hty'⟩:=id hbk
      obtain ⟨f1,f2,f3,f4,f5⟩:=id hfz
      have hp:=pw_le f1 f2
      have cF:∀ w',Ext w w'→Ans Tryz.prog 118 [.agg (encZ r).toArray,.agg (encBk z.Free[k]).toArray] w' fun v _=>v = .bool true:=fun w' _=>by
       have:=Zfits_ans r z.Free[k] w' (by omega)
       rwa [eF,eT,decide_eq_true hfz] at this
      have cD:∀ w',Ans Tryz.prog 117 ([.int .i64 (z.Free[k]).Ty]++[]) w' fun v _=>v = .bool false:=fun w'=>by
       have:=Zodd_ans (z.Free[k]).Ty w'
       rwa [oddB_f hty'] at this
      by_cases hk0:k=0
      ·subst hk0
       repeat' (first|(first|refine CW.seq ?_|refine CW.region ?_|refine CW.condfr rfl (by with_reducible rfl) ?_|refine CW.skip ?_|(apply CW.quiet1 mixed;(· kernel_rfl);rotate_left;intro w1 hw1;replace hw:=Ext.trans hw hw1;replace hb1:=hb1.ext hw1;replace hb7':=hb7'.ext hw1;clear hw1;rotate_right))|(first|refine Post.seq ?_|refine Post.blk ?_)|refine SW.nil ?_|(show SW _ _ _ _ (⟨_,_,_,_,_,some _⟩::_) _ _;first|refine SW.want_f rfl rfl (by with_reducible rfl) ?_|refine SW.skip_t rfl rfl (by with_reducible rfl) rfl ?_|refine SW.splitd_f rfl rfl rfl (by omega) ?_|refine SW.want rfl rfl ?_)|refine SW.pure rfl rfl ?_|(show SW _ _ _ _ (⟨_,Op.fieldAddr _ _ _,_,_,_,none⟩::_) _ _;refine SW.st (st_field rfl) rfl ?_)|(show SW _ _ _ _ (⟨_,Op.binOp _ _ _ _ _,_,_,_,none⟩::_) _ _;refine SW.st (st_add rfl rfl (by omega) (by omega)) rfl ?_)|(show SW _ _ _ _ (⟨_,Op.load _ _,_,_,_,none⟩::_) _ _;first|refine SW.st (st_loads rfl rfl ((fun _ _=>hb1.cell))) rfl ?_|refine SW.st (st_loads rfl rfl ((fun _ _=>hb7'.cell))) rfl ?_|refine SW.st (st_load rfl (hb7'.cell rfl)) rfl ?_)|(show SW _ _ _ _ (⟨_,Op.call ⟨.value (.func _),_,_⟩,_,_,_,none⟩::_) _ _;refine SW.qcall rfl rfl (fun w1 hw1=>(cF _ (Ext.trans hw hw1))) ?_)|(refine SW.qcallv rfl rfl rfl (fun w1 _=>cD w1) ?_)|exact SW.qnil rfl)
       refine Post.again (0+1) ⟨rfl,rfl,rfl,rfl,rfl,trivial⟩ (by omega) ⟨by omega,hw,hb1,fun i h hi => ?_,fun i h hi=>by omega⟩
       obtain rfl:i=0:=by omega
       exact hbk
      ·obtain ⟨j,rfl⟩ : ∃ j,k=j+1:=⟨k-1,by omega⟩
       have hj:j<r.Free.n:=by omega
       have hjl:=hr.free.lt hj
       obtain ⟨⟨g1,g2,g3,g4,g5⟩,_⟩:=hI j hjl (by omega)
       have cE:∀ w',Ans Tryz.prog 119 [.agg (encBk z.Free[j]).toArray] w' fun v _=>v = .int .i64 ((z.Free[j]).At+pw (z.Free[j]).Order):=fun w'=>Zend_ans _ _ ⟨g1,g2⟩ ⟨by omega,by omega⟩
       by_cases hlt:(z.Free[j]).At+pw (z.Free[j]).Order≤(z.Free[j+1]).At
       ·by_cases hbu:(z.Free[j+1]).Order<4∧(z.Free[j]).Order=(z.Free[j+1]).Order∧(z.Free[j]).At=beside (z.Free[j+1]).At (z.Free[j+1]).Order
        ·obtain ⟨u1,u2,u3⟩:=id hbu
         repeat' (first|(first|refine CW.seq ?_|refine CW.region ?_|refine CW.condd_t rfl (by omega) ?_|refine CW.condd_f rfl (by omega) ?_|refine CW.skip ?_|refine CW.ret ?_|(apply CW.quiet1 mixed;(· kernel_rfl);rotate_left;intro w1 hw1;replace hw:=Ext.trans hw hw1;replace hb1:=hb1.ext hw1;replace hb7':=hb7'.ext hw1;clear hw1;rotate_right))|(first|refine Post.seq ?_|refine Post.seq_ret ?_|refine Post.blk_ret ?_|refine Post.again_ret ?_)|refine SW.nil ?_|(show SW _ _ _ _ (⟨_,_,_,_,_,some _⟩::_) _ _;first|refine SW.want_t rfl rfl (by with_reducible rfl) ?_|refine SW.want_f rfl rfl (by with_reducible rfl) ?_|refine SW.splitd_t rfl rfl rfl (by omega) ?_|refine SW.splitd_f rfl rfl rfl (by omega) ?_)|refine SW.pure rfl rfl ?_|(show SW _ _ _ _ (⟨_,Op.fieldAddr _ _ _,_,_,_,none⟩::_) _ _;refine SW.st (st_field rfl) rfl ?_)|(show SW _ _ _ _ (⟨_,Op.binOp _ _ _ _ _,_,_,_,none⟩::_) _ _;refine SW.st (st_sub rfl rfl (by omega) (by omega)) rfl ?_)|(show SW _ _ _ _ (⟨_,Op.indexAddr _ _ _,_,_,_,none⟩::_) _ _;refine SW.st (st_indexI (j) rfl rfl (by assumption) (by omega) (by omega)) rfl ?_)|(show SW _ _ _ _ (⟨_,Op.load _ _,_,_,_,none⟩::_) _ _;first|refine SW.st (st_loads rfl rfl ((fun _ _=>hb1.cell))) rfl ?_|refine SW.st (st_loads rfl rfl ((fun _ _=>hb7'.cell))) rfl ?_|refine SW.st (st_load rfl (hb7'.cell rfl)) rfl ?_|refine SW.st (st_load rfl (hb1.cell rfl)) rfl ?_|refine SW.st (st_loadsx hw rfl rfl ((hr.free.all hj))) rfl ?_|refine SW.st (st_loadx hw rfl (hr.free.fld hj rfl)) rfl ?_)|(show SW _ _ _ _ (⟨_,Op.call ⟨.value (.func _),_,_⟩,_,_,_,none⟩::_) _ _;first|refine SW.qcall rfl rfl (fun w1 hw1=>(cF _ (Ext.trans hw hw1))) ?_|refine SW.qcall rfl rfl (fun w1 hw1=>(cE _)) ?_)|(refine SW.qcallv rfl rfl rfl (fun w1 _=>cD w1) ?_)|(refine SW.st (st_shl (r:=pw (z.Free[j+1]).Order) rfl rfl (by omega) (by omega) (by simp [pw]) (by omega) (by omega)) rfl ?_)|(refine SW.st (st_beside (z.Free[j+1]).At (z.Free[j+1]).Order rfl rfl rfl rfl ⟨by omega,by omega,f1,u1,f5⟩) rfl ?_)|exact SW.qnil rfl)
         refine Post.ret1 rfl rfl ⟨_,rfl,hw,?_⟩
         rw [zoneB_f (fun h=>(h.next j hkl).2 hbu)];rfl
        ·by_cases u1:(z.Free[j+1]).Order<4
         ·by_cases u2:(z.Free[j]).Order=(z.Free[j+1]).Order
          ·have u3 : ¬ (z.Free[j]).At=beside (z.Free[j+1]).At (z.Free[j+1]).Order:=fun u3=>hbu ⟨u1,u2,u3⟩
           repeat' (first|(first|refine CW.seq ?_|refine CW.region ?_|refine CW.condd_f rfl (by omega) ?_|refine CW.skip ?_|(apply CW.quiet1 mixed;(· kernel_rfl);rotate_left;intro w1 hw1;replace hw:=Ext.trans hw hw1;replace hb1:=hb1.ext hw1;replace hb7':=hb7'.ext hw1;clear hw1;rotate_right))|(first|refine Post.seq ?_|refine Post.blk ?_)|refine SW.nil ?_|(show SW _ _ _ _ (⟨_,_,_,_,_,some _⟩::_) _ _;first|refine SW.want_t rfl rfl (by with_reducible rfl) ?_|refine SW.want_f rfl rfl (by with_reducible rfl) ?_|refine SW.splitd_t rfl rfl rfl (by omega) ?_|refine SW.want rfl rfl ?_)|refine SW.pure rfl rfl ?_|(show SW _ _ _ _ (⟨_,Op.fieldAddr _ _ _,_,_,_,none⟩::_) _ _;refine SW.st (st_field rfl) rfl ?_)|(show SW _ _ _ _ (⟨_,Op.binOp _ _ _ _ _,_,_,_,none⟩::_) _ _;first|refine SW.st (st_add rfl rfl (by omega) (by omega)) rfl ?_|refine SW.st (st_sub rfl rfl (by omega) (by omega)) rfl ?_)|(show SW _ _ _ _ (⟨_,Op.indexAddr _ _ _,_,_,_,none⟩::_) _ _;refine SW.st (st_indexI (j) rfl rfl (by assumption) (by omega) (by omega)) rfl ?_)|(show SW _ _ _ _ (⟨_,Op.load _ _,_,_,_,none⟩::_) _ _;first|refine SW.st (st_loads rfl rfl ((fun _ _=>hb1.cell))) rfl ?_|refine SW.st (st_loads rfl rfl ((fun _ _=>hb7'.cell))) rfl ?_|refine SW.st (st_load rfl (hb7'.cell rfl)) rfl ?_|refine SW.st (st_load rfl (hb1.cell rfl)) rfl ?_|refine SW.st (st_loadsx hw rfl rfl ((hr.free.all hj))) rfl ?_|refine SW.st (st_loadx hw rfl (hr.free.fld hj rfl)) rfl ?_)|(show SW _ _ _ _ (⟨_,Op.call ⟨.value (.func _),_,_⟩,_,_,_,none⟩::_) _ _;first|refine SW.qcall rfl rfl (fun w1 hw1=>(cF _ (Ext.trans hw hw1))) ?_|refine SW.qcall rfl rfl (fun w1 hw1=>(cE _)) ?_)|(refine SW.qcallv rfl rfl rfl (fun w1 _=>cD w1) ?_)|(refine SW.st (st_shl (r:=pw (z.Free[j+1]).Order) rfl rfl (by omega) (by omega) (by simp [pw]) (by omega) (by omega)) rfl ?_)|(refine SW.st (st_beside (z.Free[j+1]).At (z.Free[j+1]).Order rfl rfl rfl rfl ⟨by omega,by omega,f1,u1,f5⟩) rfl ?_)|exact SW.qnil rfl)
           refine Post.again (j+1+1) ⟨rfl,rfl,rfl,rfl,rfl,trivial⟩ (by omega) ⟨by omega,hw,hb1,fun i h hi => ?_,fun i h hi => ?_⟩
           ·by_cases hij:i=j+1
            ·subst hij;exact hbk
            ·exact hI i h (by omega)
           ·by_cases hij:i=j
            ·subst hij;exact ⟨hlt,hbu⟩
            ·exact hN i h (by omega)
          ·repeat' (first|(first|refine CW.seq ?_|refine CW.region ?_|refine CW.condfr rfl (by with_reducible rfl) ?_|refine CW.condd_f rfl (by omega) ?_|refine CW.skip ?_|(apply CW.quiet1 mixed;(· kernel_rfl);rotate_left;intro w1 hw1;replace hw:=Ext.trans hw hw1;replace hb1:=hb1.ext hw1;replace hb7':=hb7'.ext hw1;clear hw1;rotate_right))|(first|refine Post.seq ?_|refine Post.blk ?_)|refine SW.nil ?_|(show SW _ _ _ _ (⟨_,_,_,_,_,some _⟩::_) _ _;first|refine SW.want_t rfl rfl (by with_reducible rfl) ?_|refine SW.want_f rfl rfl (by with_reducible rfl) ?_|refine SW.skip_t rfl rfl (by with_reducible rfl) rfl ?_|refine SW.splitd_t rfl rfl rfl (by omega) ?_|refine SW.splitd_f rfl rfl rfl (by omega) ?_|refine SW.want rfl rfl ?_)|refine SW.pure rfl rfl ?_|(show SW _ _ _ _ (⟨_,Op.fieldAddr _ _ _,_,_,_,none⟩::_) _ _;refine SW.st (st_field rfl) rfl ?_)|(show SW _ _ _ _ (⟨_,Op.binOp _ _ _ _ _,_,_,_,none⟩::_) _ _;first|refine SW.st (st_add rfl rfl (by omega) (by omega)) rfl ?_|refine SW.st (st_sub rfl rfl (by omega) (by omega)) rfl ?_)|(show SW _ _ _ _ (⟨_,Op.indexAddr _ _ _,_,_,_,none⟩::_) _ _;refine SW.st (st_indexI (j) rfl rfl (by assumption) (by omega) (by omega)) rfl ?_)|(show SW _ _ _ _ (⟨_,Op.load _ _,_,_,_,none⟩::_) _ _;first|refine SW.st (st_loads rfl rfl ((fun _ _=>hb1.cell))) rfl ?_|refine SW.st (st_loads rfl rfl ((fun _ _=>hb7'.cell))) rfl ?_|refine SW.st (st_load rfl (hb7'.cell rfl)) rfl ?_|refine SW.st (st_load rfl (hb1.cell rfl)) rfl ?_|refine SW.st (st_loadsx hw rfl rfl ((hr.free.all hj))) rfl ?_|refine SW.st (st_loadx hw rfl (hr.free.fld hj rfl)) rfl ?_)|(show SW _ _ _ _ (⟨_,Op.call ⟨.value (.func _),_,_⟩,_,_,_,none⟩::_) _ _;first|refine SW.qcall rfl rfl (fun w1 hw1=>(cF _ (Ext.trans hw hw1))) ?_|refine SW.qcall rfl rfl (fun w1 hw1=>(cE _)) ?_)|(refine SW.qcallv rfl rfl rfl (fun w1 _=>cD w1) ?_)|exact SW.qnil rfl)
           refine Post.again (j+1+1) ⟨rfl,rfl,rfl,rfl,rfl,trivial⟩ (by omega) ⟨by omega,hw,hb1,fun i h hi => ?_,fun i h hi => ?_⟩
           ·by_cases hij:i=j+1
            ·subst hij;exact hbk
            ·exact hI i h (by omega)
           ·by_cases hij:i=j
            ·subst hij;exact ⟨hlt,hbu⟩
            ·exact hN i h (by omega)
         ·repeat' (first|(first|refine CW.seq ?_|refine CW.region ?_|refine CW.condfr rfl (by with_reducible rfl) ?_|refine CW.condd_f rfl (by omega) ?_|refine CW.skip ?_|(apply CW.quiet1 mixed;(· kernel_rfl);rotate_left;intro w1 hw1;replace hw:=Ext.trans hw hw1;replace hb1:=hb1.ext hw1;replace hb7':=hb7'.ext hw1;clear hw1;rotate_right))|(first|refine Post.seq ?_|refine Post.blk ?_)|refine SW.nil ?_|(show SW _ _ _ _ (⟨_,_,_,_,_,some _⟩::_) _ _;first|refine SW.want_t rfl rfl (by with_reducible rfl) ?_|refine SW.want_f rfl rfl (by with_reducible rfl) ?_|refine SW.skip_t rfl rfl (by with_reducible rfl) rfl ?_|refine SW.splitd_t rfl rfl rfl (by omega) ?_|refine SW.splitd_f rfl rfl rfl (by omega) ?_|refine SW.want rfl rfl ?_)|refine SW.pure rfl rfl ?_|(show SW _ _ _ _ (⟨_,Op.fieldAddr _ _ _,_,_,_,none⟩::_) _ _;refine SW.st (st_field rfl) rfl ?_)|(show SW _ _ _ _ (⟨_,Op.binOp _ _ _ _ _,_,_,_,none⟩::_) _ _;first|refine SW.st (st_add rfl rfl (by omega) (by omega)) rfl ?_|refine SW.st (st_sub rfl rfl (by omega) (by omega)) rfl ?_)|(show SW _ _ _ _ (⟨_,Op.indexAddr _ _ _,_,_,_,none⟩::_) _ _;refine SW.st (st_indexI (j) rfl rfl (by assumption) (by omega) (by omega)) rfl ?_)|(show SW _ _ _ _ (⟨_,Op.load _ _,_,_,_,none⟩::_) _ _;first|refine SW.st (st_loads rfl rfl ((fun _ _=>hb1.cell))) rfl ?_|refine SW.st (st_loads rfl rfl ((fun _ _=>hb7'.cell))) rfl ?_|refine SW.st (st_load rfl (hb7'.cell rfl)) rfl ?_|refine SW.st (st_load rfl (hb1.cell rfl)) rfl ?_|refine SW.st (st_loadsx hw rfl rfl ((hr.free.all hj))) rfl ?_)|(show SW _ _ _ _ (⟨_,Op.call ⟨.value (.func _),_,_⟩,_,_,_,none⟩::_) _ _;first|refine SW.qcall rfl rfl (fun w1 hw1=>(cF _ (Ext.trans hw hw1))) ?_|refine SW.qcall rfl rfl (fun w1 hw1=>(cE _)) ?_)|(refine SW.qcallv rfl rfl rfl (fun w1 _=>cD w1) ?_)|exact SW.qnil rfl)
          refine Post.again (j+1+1) ⟨rfl,rfl,rfl,rfl,rfl,trivial⟩ (by omega) ⟨by omega,hw,hb1,fun i h hi => ?_,fun i h hi => ?_⟩
          ·by_cases hij:i=j+1
           ·subst hij;exact hbk
           ·exact hI i h (by omega)
          ·by_cases hij:i=j
           ·subst hij;exact ⟨hlt,hbu⟩
           ·exact hN i h (by omega)
       ·repeat' (first|(first|refine CW.seq ?_|refine CW.region ?_|refine CW.condd_t rfl (by omega) ?_|refine CW.ret ?_|(apply CW.quiet1 mixed;(· kernel_rfl);rotate_left;intro w1 hw1;replace hw:=Ext.trans hw hw1;replace hb1:=hb1.ext hw1;replace hb7':=hb7'.ext hw1;clear hw1;rotate_right))|(first|refine Post.seq ?_|refine Post.seq_ret ?_|refine Post.blk_ret ?_|refine Post.again_ret ?_)|refine SW.nil ?_|(show SW _ _ _ _ (⟨_,_,_,_,_,some _⟩::_) _ _;first|refine SW.want_t rfl rfl (by with_reducible rfl) ?_|refine SW.want_f rfl rfl (by with_reducible rfl) ?_|refine SW.splitd_t rfl rfl rfl (by omega) ?_|refine SW.want rfl rfl ?_)|refine SW.pure rfl rfl ?_|(show SW _ _ _ _ (⟨_,Op.fieldAddr _ _ _,_,_,_,none⟩::_) _ _;refine SW.st (st_field rfl) rfl ?_)|(show SW _ _ _ _ (⟨_,Op.binOp _ _ _ _ _,_,_,_,none⟩::_) _ _;refine SW.st (st_sub rfl rfl (by omega) (by omega)) rfl ?_)|(show SW _ _ _ _ (⟨_,Op.indexAddr _ _ _,_,_,_,none⟩::_) _ _;refine SW.st (st_indexI (j) rfl rfl (by assumption) (by omega) (by omega)) rfl ?_)|(show SW _ _ _ _ (⟨_,Op.load _ _,_,_,_,none⟩::_) _ _;first|refine SW.st (st_loads rfl rfl ((fun _ _=>hb1.cell))) rfl ?_|refine SW.st (st_loads rfl rfl ((fun _ _=>hb7'.cell))) rfl ?_|refine SW.st (st_load rfl (hb7'.cell rfl)) rfl ?_|refine SW.st (st_load rfl (hb1.cell rfl)) rfl ?_|refine SW.st (st_loadsx hw rfl rfl ((hr.free.all hj))) rfl ?_)|(show SW _ _ _ _ (⟨_,Op.call ⟨.value (.func _),_,_⟩,_,_,_,none⟩::_) _ _;first|refine SW.qcall rfl rfl (fun w1 hw1=>(cF _ (Ext.trans hw hw1))) ?_|refine SW.qcall rfl rfl (fun w1 hw1=>(cE _)) ?_)|(refine SW.qcallv rfl rfl rfl (fun w1 _=>cD w1) ?_)|exact SW.qnil rfl)
        refine Post.ret1 rfl rfl ⟨_,rfl,hw,?_⟩
        rw [zoneB_f (fun h=>hlt (h.next j hkl).1)];rfl
     ·have hfail:zoneB z=false:=zoneB_f (fun h=>hbk (h.blk k hkl))
      by_cases hfz:fitsZ z.From z.To (z.Free[k]).At (z.Free[k]).Order
      ·have hty' : ¬ tyOk (z.Free[k]).Ty:=fun h=>hbk ⟨hfz,h⟩
       have cF:∀ w',Ext w w'→Ans Tryz.prog 118 [.agg (encZ r).toArray,.agg (encBk z.Free[k]).toArray] w' fun v _=>v = .bool true:=fun w' _=>by
        have:=Zfits_ans r z.Free[k] w' (by omega)
        rwa [eF,eT,decide_eq_true hfz] at this
       have cD:∀ w',Ans Tryz.prog 117 ([.int .i64 (z.Free[k]).Ty]++[]) w' fun v _=>v = .bool true:=fun w'=>by
        have:=Zodd_ans (z.Free[k]).Ty w'
        rwa [oddB_t hty'] at this
       repeat' (first|(first|refine CW.seq ?_|refine CW.region ?_|refine CW.condtr rfl (by with_reducible rfl) ?_|refine CW.ret ?_|(apply CW.quiet1 mixed;(· kernel_rfl);rotate_left;intro w1 hw1;replace hw:=Ext.trans hw hw1;replace hb1:=hb1.ext hw1;replace hb7':=hb7'.ext hw1;clear hw1;rotate_right))|(first|refine Post.seq ?_|refine Post.seq_ret ?_|refine Post.blk_ret ?_|refine Post.again_ret ?_)|refine SW.nil ?_|(show SW _ _ _ _ (⟨_,_,_,_,_,some _⟩::_) _ _;first|refine SW.skip_f rfl rfl (by with_reducible rfl) rfl ?_|refine SW.skip_u rfl rfl (by with_reducible rfl) rfl ?_|refine SW.want rfl rfl ?_)|refine SW.pure rfl rfl ?_|(show SW _ _ _ _ (⟨_,Op.fieldAddr _ _ _,_,_,_,none⟩::_) _ _;refine SW.st (st_field rfl) rfl ?_)|(show SW _ _ _ _ (⟨_,Op.load _ _,_,_,_,none⟩::_) _ _;first|refine SW.st (st_loads rfl rfl ((fun _ _=>hb1.cell))) rfl ?_|refine SW.st (st_loads rfl rfl ((fun _ _=>hb7'.cell))) rfl ?_|refine SW.st (st_load rfl (hb7'.cell rfl)) rfl ?_)|(show SW _ _ _ _ (⟨_,Op.call ⟨.value (.func _),_,_⟩,_,_,_,none⟩::_) _ _;refine SW.qcall rfl rfl (fun w1 hw1=>(cF _ (Ext.trans hw hw1))) ?_)|(refine SW.qcallv rfl rfl rfl (fun w1 _=>cD w1) ?_)|exact SW.qnil rfl)
       exact Post.ret1 rfl rfl ⟨_,rfl,hw,by rw [hfail];rfl⟩
      ·have cF:∀ w',Ext w w'→Ans Tryz.prog 118 [.agg (encZ r).toArray,.agg (encBk z.Free[k]).toArray] w' fun v _=>v = .bool false:=fun w' _=>by
        have:=Zfits_ans r z.Free[k] w' (by omega)
        rwa [eF,eT,decide_eq_false hfz] at this
       repeat' (first|(first|refine CW.seq ?_|refine CW.region ?_|refine CW.condtr rfl (by with_reducible rfl) ?_|refine CW.ret ?_|(apply CW.quiet1 mixed;(· kernel_rfl);rotate_left;intro w1 hw1;replace hw:=Ext.trans hw hw1;replace hb1:=hb1.ext hw1;replace hb7':=hb7'.ext hw1;clear hw1;rotate_right))|(first|refine Post.seq ?_|refine Post.seq_ret ?_|refine Post.blk_ret ?_|refine Post.again_ret ?_)|refine SW.nil ?_|(show SW _ _ _ _ (⟨_,_,_,_,_,some _⟩::_) _ _;first|refine SW.skip_f rfl rfl (by with_reducible rfl) rfl ?_|refine SW.skip_u rfl rfl (by with_reducible rfl) rfl ?_|refine SW.skip rfl rfl rfl rfl ?_)|refine SW.pure rfl rfl ?_|(show SW _ _ _ _ (⟨_,Op.load _ _,_,_,_,none⟩::_) _ _;first|refine SW.st (st_loads rfl rfl ((fun _ _=>hb1.cell))) rfl ?_|refine SW.st (st_loads rfl rfl ((fun _ _=>hb7'.cell))) rfl ?_)|(show SW _ _ _ _ (⟨_,Op.call ⟨.value (.func _),_,_⟩,_,_,_,none⟩::_) _ _;refine SW.qcall rfl rfl (fun w1 hw1=>(cF _ (Ext.trans hw hw1))) ?_)|exact SW.qnil rfl)
       exact Post.ret1 rfl rfl ⟨_,rfl,hw,by rw [hfail];rfl⟩
    ·repeat' (first|(first|refine CW.seq ?_|refine CW.region ?_|refine CW.condd_f rfl (by omega) ?_|refine CW.ret ?_|refine CW.exit ?_)|(first|refine Post.seq ?_|refine Post.seq_exit ?_|refine Post.hit ?_|refine Post.again_exit ?_)|refine SW.nil ?_|refine SW.pure rfl rfl ?_)
     refine Post.ret1 rfl rfl ⟨_,rfl,hw,?_⟩
     rw [zoneB_t ⟨by rw [← eF,← eT];exact hok,hl8,hty,fun i h=>hI i h (by omega),fun i h=>hN i h (by omega)⟩];rfl
   ·rw [hodd] at cO
    repeat' (first|(first|refine CW.seq ?_|refine CW.region ?_|refine CW.condtr rfl (by with_reducible rfl) ?_|refine CW.condn_f rfl (by omega) ?_|refine CW.skip ?_|refine CW.ret ?_)|(first|refine Post.seq ?_|refine Post.seq_ret ?_)|refine SW.nil ?_|(show SW _ _ _ _ (⟨_,_,_,_,_,some _⟩::_) _ _;first|refine SW.want_f rfl rfl (by with_reducible rfl) ?_|refine SW.splitn_f rfl rfl rfl (by omega) ?_)|refine SW.pure rfl rfl ?_|(show SW _ _ _ _ (⟨_,Op.fieldAddr _ _ _,_,_,_,none⟩::_) _ _;refine SW.st (st_field rfl) rfl ?_)|(show SW _ _ _ _ (⟨_,Op.binOp _ _ _ _ _,_,_,_,none⟩::_) _ _;first|refine SW.st (st_sub rfl rfl (by omega) (by omega)) rfl ?_|refine SW.st (st_quo rfl rfl (by omega) (by omega) (by omega)) rfl ?_)|(show SW _ _ _ _ (⟨_,Op.call ⟨.builtin .len,_,_⟩,_,_,_,none⟩::_) _ _;refine SW.st (st_len rfl) rfl ?_)|(show SW _ _ _ _ (⟨_,Op.load _ _,_,_,_,none⟩::_) _ _;refine SW.st (st_load rfl (hb1.cell rfl)) rfl ?_)|(show SW _ _ _ _ (⟨_,Op.call ⟨.value (.func _),_,_⟩,_,_,_,none⟩::_) _ _;(refine SW.call rfl rfl (cO _ hw) ?_;intro v w1 hw1 hv;subst hv;replace hw:=Ext.trans hw hw1;replace hb1:=hb1.ext hw1;clear hw1)))
    refine Post.ret1 rfl rfl ⟨_,rfl,hw,?_⟩
    rw [zoneB_f (fun h=>by
     rw [List.any_eq_true] at hodd
     obtain ⟨t,h1,h2⟩:=hodd
     rw [oddB_f (h.types t h1)] at h2
     cases h2)];rfl
  ·repeat' (refine SW.pure rfl rfl ?_)
   refine SW.alloc rfl fun b3 w1 hw1 hb3b hb3 => ?_
   have hb3w:w.heap.size≤b3:=Nat.le_trans hw.size hb3b
   have hne_b1:b1≠b3:=by have:=hb1.lt;omega
   replace hw:=Ext.trans hw hw1
   replace hb1:=hb1.ext hw1
   replace hs:=hs.ext hw1
   refine SW.storeAgg hb3 rfl rfl rfl rfl (one_z _) fun w2 hb3' hg => ?_
   replace hw:=hw.own hb3w hg
   replace hs:=hs.blk hb3 hg rfl rfl
   replace hb1:=hb1.grown hg (by simpa using hne_b1)
   replace hb3:=hb3'
   clear hb3' hw1 hg hb3b
   repeat' (first|(first|refine CW.seq ?_|refine CW.region ?_|refine CW.condn_t rfl (by omega) ?_|refine CW.ret ?_)|(first|refine Post.seq ?_|refine Post.seq_ret ?_)|refine SW.nil ?_|(show SW _ _ _ _ (⟨_,_,_,_,_,some _⟩::_) _ _;first|refine SW.want_f rfl rfl (by with_reducible rfl) ?_|refine SW.splitn_f rfl rfl rfl (by omega) ?_)|refine SW.pure rfl rfl ?_|(show SW _ _ _ _ (⟨_,Op.fieldAddr _ _ _,_,_,_,none⟩::_) _ _;refine SW.st (st_field rfl) rfl ?_)|(show SW _ _ _ _ (⟨_,Op.binOp _ _ _ _ _,_,_,_,none⟩::_) _ _;first|refine SW.st (st_sub rfl rfl (by omega) (by omega)) rfl ?_|refine SW.st (st_quo rfl rfl (by omega) (by omega) (by omega)) rfl ?_)|(show SW _ _ _ _ (⟨_,Op.call ⟨.builtin .len,_,_⟩,_,_,_,none⟩::_) _ _;refine SW.st (st_len rfl) rfl ?_)|(show SW _ _ _ _ (⟨_,Op.load _ _,_,_,_,none⟩::_) _ _;refine SW.st (st_load rfl (hb1.cell rfl)) rfl ?_))
   refine Post.ret1 rfl rfl ⟨_,rfl,hw,?_⟩
   rw [zoneB_f (fun h=>hl8 h.len)];rfl
 ·rw [zoneNewV_f hok] at hv
  obtain ⟨s,rfl,hs⟩:=hv
  repeat' (refine SW.pure rfl rfl ?_)
  refine SW.alloc rfl fun b3 w1 hw1 hb3b hb3 => ?_
  have hb3w:w.heap.size≤b3:=Nat.le_trans hw.size hb3b
  have hne_b1:b1≠b3:=by have:=hb1.lt;omega
  replace hw:=Ext.trans hw hw1
  replace hb1:=hb1.ext hw1
  replace hs:=hs.ext hw1
  refine SW.storeAgg hb3 rfl rfl rfl rfl (one_z _) fun w2 hb3' hg => ?_
  replace hw:=hw.own hb3w hg
  replace hs:=hs.blk hb3 hg rfl rfl
  replace hb1:=hb1.grown hg (by simpa using hne_b1)
  replace hb3:=hb3'
  clear hb3' hw1 hg hb3b
  repeat' (first|(first|refine CW.seq ?_|refine CW.region ?_|refine CW.condtr rfl (by with_reducible rfl) ?_|refine CW.ret ?_)|(first|refine Post.seq ?_|refine Post.seq_ret ?_)|refine SW.nil ?_|(show SW _ _ _ _ (⟨_,_,_,_,_,some _⟩::_) _ _;first|refine SW.skip_f rfl rfl (by with_reducible rfl) rfl ?_|refine SW.splitn_t rfl rfl rfl (by omega) ?_)|refine SW.pure rfl rfl ?_)
  refine Post.ret1 rfl rfl ⟨_,rfl,hw,?_⟩
  rw [zoneB_f (fun h=>hok (by rw [eF,eT];exact h.ok))];rfl
open Go.RowKit
def lowOf (f:Int) (l:List Block) : Nat→Int
 | 0=>f
 | k+1=>match l[k]? with
  | some b=>b.At+pw b.Order
  | none=>0
theorem lowOf_succ (f:Int) (l:List Block) (k:Nat) (h:k<l.length) : lowOf f l (k+1)=l[k].At+pw l[k].Order:=by simp [lowOf,List.getElem?_eq_getElem h]
set_option maxHeartbeats 4000000 in
theorem ZoneMay_ans (r:ZRow) (z:Zone) (w:World) (hr:RdZ w r z) (hf:r.Free.n≤2305843009213693952) (ht:r.Types.n≤1000000000000000000) (h1 : -9223372036854775808≤r.From∧r.From≤9223372036854775807) (h2 : -9223372036854775808≤r.To∧r.To≤9223372036854775807) :
  Ans Tryz.prog 100 [.agg (encZ r).toArray] w fun v _=>v = .bool (zoneB z):=by
 refine ans_of Tryz.func100 rfl Tryz.ntmps100 rfl ?_
 refine CW.seq (CW.region (SW.box rfl rfl fun b1 w1 hw hb1b hb1 => ?_))
 have eF:=hr.from_
 have eT:=hr.to_
 have hFl:=hr.free.len
 have hTl:=hr.types.len
 repeat' (first|(first|refine CW.seq ?_|refine CW.region ?_)|(refine Post.seq ?_)|refine SW.nil ?_|refine SW.pure rfl rfl ?_|(show SW _ _ _ _ (⟨_,Op.fieldAddr _ _ _,_,_,_,none⟩::_) _ _;refine SW.st (st_field rfl) rfl ?_)|(show SW _ _ _ _ (⟨_,Op.load _ _,_,_,_,none⟩::_) _ _;refine SW.st (st_load rfl (hb1.cell rfl)) rfl ?_))
 refine SW.call rfl rfl (ZoneNew_ans r.From r.To _ h1 h2) fun v w2 hw2 hv => ?_
 (replace hw:=Ext.trans hw hw2;replace hb1:=hb1.ext hw2)
 by_cases hok:zoneOk r.From r.To
 ·rw [zoneNewV_t hok] at hv
  obtain ⟨s,rfl,hs⟩:=hv
  obtain ⟨o1,o2,o3,o4,o5⟩:=id hok
  by_cases hl8 : 8*(z.Types.length:Int)=z.To-z.From
  ·repeat' (refine SW.pure rfl rfl ?_)
   refine SW.alloc rfl fun b3 w1 hw1 hb3b hb3 => ?_
   have hb3w:w.heap.size≤b3:=Nat.le_trans hw.size hb3b
   have hne_b1:b1≠b3:=by have:=hb1.lt;omega
   replace hw:=Ext.trans hw hw1
   replace hb1:=hb1.ext hw1
   replace hs:=hs.ext hw1
   refine SW.storeAgg hb3 rfl rfl rfl rfl (one_z _) fun w2 hb3' hg => ?_
   replace hw:=hw.own hb3w hg
   replace hs:=hs.blk hb3 hg rfl rfl
   replace hb1:=hb1.grown hg (by simpa using hne_b1)
   replace hb3:=hb3'
   clear hb3' hw1 hg hb3b
   repeat' (first|(first|refine CW.seq ?_|refine CW.region ?_|refine CW.block ?_|refine CW.condn_f rfl (by omega) ?_|refine CW.skip ?_)|(refine Post.seq ?_)|refine SW.nil ?_|(show SW _ _ _ _ (⟨_,_,_,_,_,some _⟩::_) _ _;first|refine SW.want_f rfl rfl (by with_reducible rfl) ?_|refine SW.splitn_f rfl rfl rfl (by omega) ?_)|refine SW.pure rfl rfl ?_|(show SW _ _ _ _ (⟨_,Op.fieldAddr _ _ _,_,_,_,none⟩::_) _ _;refine SW.st (st_field rfl) rfl ?_)|(show SW _ _ _ _ (⟨_,Op.binOp _ _ _ _ _,_,_,_,none⟩::_) _ _;first|refine SW.st (st_sub rfl rfl (by omega) (by omega)) rfl ?_|refine SW.st (st_mul rfl rfl (by omega) (by omega)) rfl ?_)|(show SW _ _ _ _ (⟨_,Op.call ⟨.builtin .len,_,_⟩,_,_,_,none⟩::_) _ _;refine SW.st (st_len rfl) rfl ?_)|(show SW _ _ _ _ (⟨_,Op.load _ _,_,_,_,none⟩::_) _ _;refine SW.st (st_load rfl (hb1.cell rfl)) rfl ?_))
   refine CW.loop (fun k:Nat=>[(1,.pointer (some ⟨b1,0,none⟩)),(5,.int .i64 (k:Int))]) (fun k w'=>k≤r.Types.n∧Ext w w'∧Blk w' b1 72 (encZ r) ∧ ∀ (j:Nat) (hj:j<z.Types.length),j<k→tyOk z.Types[j]) (fun k=>r.Types.n-k) 0
    ⟨rfl,rfl,trivial⟩ ⟨by omega,hw,hb1,fun j _ h=>by omega⟩ ?_
   clear hw hb1 hb3 hs
   rintro k w' ⟨hk,hw,hb1,hI⟩
   have hA:=hr.types.base
   by_cases hkn:k<r.Types.n
   ·have hkl:=hr.types.lt hkn
    by_cases hty:tyOk (z.Types[k])
    ·obtain ⟨t1,t2⟩:=id hty
     repeat' (first|(first|refine CW.seq ?_|refine CW.region ?_|refine CW.block ?_|refine CW.condd_t rfl (by omega) ?_|refine CW.condn_f rfl (by omega) ?_|refine CW.skip ?_)|(first|refine Post.seq ?_|refine Post.blk ?_)|refine SW.nil ?_|refine SW.pure rfl rfl ?_|(show SW _ _ _ _ (⟨_,Op.fieldAddr _ _ _,_,_,_,none⟩::_) _ _;refine SW.st (st_field rfl) rfl ?_)|(show SW _ _ _ _ (⟨_,Op.binOp _ _ _ _ _,_,_,_,none⟩::_) _ _;refine SW.st (st_add rfl rfl (by omega) (by omega)) rfl ?_)|(show SW _ _ _ _ (⟨_,Op.indexAddr _ _ _,_,_,_,none⟩::_) _ _;refine SW.st (st_indexN rfl rfl (by assumption) (by omega)) rfl ?_)|(show SW _ _ _ _ (⟨_,Op.call ⟨.builtin .len,_,_⟩,_,_,_,none⟩::_) _ _;refine SW.st (st_len rfl) rfl ?_)|(show SW _ _ _ _ (⟨_,Op.load _ _,_,_,_,none⟩::_) _ _;first|refine SW.st (st_load rfl (hb1.cell rfl)) rfl ?_|refine SW.st (st_loadx hw rfl (hr.types.one hkn rfl)) rfl ?_)|(show SW _ _ _ _ (⟨_,Op.call ⟨.value (.func _),_,_⟩,_,_,_,none⟩::_) _ _;(refine SW.call rfl rfl (In_ans _ _ _ _) ?_;intro v w1 hw1 hv;subst hv;replace hw:=Ext.trans hw hw1;replace hb1:=hb1.ext hw1;clear hw1)))
     all_goals first|(exfalso;omega)|skip
     refine Post.again (k+1) ⟨rfl,rfl,trivial⟩ (by omega) ⟨by omega,hw,hb1,fun j hj h => ?_⟩
     by_cases hjk:j=k
     ·subst hjk;exact hty
     ·exact hI j hj (by omega)
    ·have hn : ¬ (0≤z.Types[k]∧z.Types[k]≤2):=hty
     repeat' (first|(first|refine CW.seq ?_|refine CW.region ?_|refine CW.block ?_|refine CW.condd_t rfl (by omega) ?_|refine CW.condn_t rfl (by omega) ?_|refine CW.skip ?_|refine CW.ret ?_)|(first|refine Post.seq ?_|refine Post.seq_ret ?_|refine Post.blk_ret ?_|refine Post.again_ret ?_)|refine SW.nil ?_|refine SW.pure rfl rfl ?_|(show SW _ _ _ _ (⟨_,Op.fieldAddr _ _ _,_,_,_,none⟩::_) _ _;refine SW.st (st_field rfl) rfl ?_)|(show SW _ _ _ _ (⟨_,Op.indexAddr _ _ _,_,_,_,none⟩::_) _ _;refine SW.st (st_indexN rfl rfl (by assumption) (by omega)) rfl ?_)|(show SW _ _ _ _ (⟨_,Op.call ⟨.builtin .len,_,_⟩,_,_,_,none⟩::_) _ _;refine SW.st (st_len rfl) rfl ?_)|(show SW _ _ _ _ (⟨_,Op.load _ _,_,_,_,none⟩::_) _ _;first|refine SW.st (st_load rfl (hb1.cell rfl)) rfl ?_|refine SW.st (st_loadx hw rfl (hr.types.one hkn rfl)) rfl ?_)|(show SW _ _ _ _ (⟨_,Op.call ⟨.value (.func _),_,_⟩,_,_,_,none⟩::_) _ _;(refine SW.call rfl rfl (In_ans _ _ _ _) ?_;intro v w1 hw1 hv;subst hv;replace hw:=Ext.trans hw hw1;replace hb1:=hb1.ext hw1;clear hw1)))
     all_goals first|(exfalso;omega)|skip
     refine Post.ret1 rfl rfl ⟨_,rfl,hw,?_⟩
     rw [zoneB_f (fun h=>hty (h.types _ (List.getElem_mem hkl)))]
   ·have hty:∀ t∈z.Types,tyOk t:=fun t htt=>by
     obtain ⟨j,hj,rfl⟩:=List.getElem_of_mem htt
     exact hI j hj (by omega)
    clear hI hA
    repeat' (first|(first|refine CW.seq ?_|refine CW.region ?_|refine CW.block ?_|refine CW.condd_f rfl (by omega) ?_|refine CW.exit ?_)|(first|refine Post.seq ?_|refine Post.seq_exit ?_|refine Post.hit ?_|refine Post.again_exit ?_)|refine SW.nil ?_|refine SW.pure rfl rfl ?_|(show SW _ _ _ _ (⟨_,Op.fieldAddr _ _ _,_,_,_,none⟩::_) _ _;refine SW.st (st_field rfl) rfl ?_)|(show SW _ _ _ _ (⟨_,Op.call ⟨.builtin .len,_,_⟩,_,_,_,none⟩::_) _ _;refine SW.st (st_len rfl) rfl ?_)|(show SW _ _ _ _ (⟨_,Op.load _ _,_,_,_,none⟩::_) _ _;refine SW.st (st_load rfl (hb1.cell rfl)) rfl ?_))
    refine CW.loop (fun k:Nat=>[(1,.pointer (some ⟨b1,0,none⟩)),(6,.int .i64 (lowOf z.From z.Free k)),(7,.int .i64 (k:Int))])
     (fun k w'=>k≤r.Free.n∧Ext w w'∧Blk w' b1 72 (encZ r)∧(∀ (i:Nat) (h:i<z.Free.length),i<k→blkOk z.From z.To z.Free[i])∧(∀ (i:Nat) (h:i+1<z.Free.length),i+1<k→nextOk z.Free[i] z.Free[i+1]))
     (fun k=>r.Free.n-k) 0 ⟨rfl,by rw [eF];rfl,rfl,trivial⟩ ⟨by omega,hw,hb1,fun i h hi=>by omega,fun i h hi=>by omega⟩ ?_
    clear hw hb1 hk hkn
    rintro k w' ⟨hk,hw,hb1,hI,hN⟩
    have hA:=hr.free.base
    by_cases hkn:k<r.Free.n
    ·have hkl:=hr.free.lt hkn
     have cM:∀ w',Ans Tryz.prog 123 [.agg (encZ r).toArray,.int .i64 (z.Free[k]).At,.int .i64 (z.Free[k]).Order] w' fun v _=>v = .bool (decide (fitsZ z.From z.To (z.Free[k]).At (z.Free[k]).Order)):=fun w'=>by
      have:=blockMay_ans r (z.Free[k]).At (z.Free[k]).Order w' ⟨by omega,by omega⟩ ⟨by omega,by omega⟩
      rwa [eF,eT] at this
     repeat' (first|(first|refine CW.seq ?_|refine CW.region ?_|refine CW.block ?_|refine CW.condd_t rfl (by omega) ?_|refine CW.skip ?_)|(refine Post.seq ?_)|refine SW.nil ?_|refine SW.pure rfl rfl ?_|(show SW _ _ _ _ (⟨_,Op.fieldAddr _ _ _,_,_,_,none⟩::_) _ _;refine SW.st (st_field rfl) rfl ?_)|(show SW _ _ _ _ (⟨_,Op.indexAddr _ _ _,_,_,_,none⟩::_) _ _;refine SW.st (st_indexN rfl rfl (by assumption) (by omega)) rfl ?_)|(show SW _ _ _ _ (⟨_,Op.call ⟨.builtin .len,_,_⟩,_,_,_,none⟩::_) _ _;refine SW.st (st_len rfl) rfl ?_)|(show SW _ _ _ _ (⟨_,Op.load _ _,_,_,_,none⟩::_) _ _;first|refine SW.st (st_load rfl (hb1.cell rfl)) rfl ?_|refine SW.st (st_loadsx hw rfl rfl ((hr.free.all hkn))) rfl ?_))
     refine SW.alloc rfl fun b7 w3 hw3 hb7b hb7 => ?_
     have hb7w:w.heap.size≤b7:=Nat.le_trans hw.size hb7b
     have hne:b1≠b7:=by have:=hb1.lt;omega
     (replace hw:=Ext.trans hw hw3;replace hb1:=hb1.ext hw3)
     skip
     refine SW.storeAgg hb7 rfl rfl rfl rfl (Enc.one (enc:=encBk) _) fun w4 hb7' hg => ?_
     replace hw:=hw.own hb7w hg
     replace hb1:=hb1.grown hg (by simpa using hne)
     by_cases hbk:blkOk z.From z.To z.Free[k]
     ·obtain ⟨hfz,t1,t2⟩:=id hbk
      obtain ⟨f1,f2,f3,f4,f5⟩:=id hfz
      have hp:=pw_le f1 f2
      have hp2:=pw_succ f1 f2
      rw [decide_eq_true hfz] at cM
      by_cases hk0:k=0
      ·subst hk0
       have hlow:lowOf z.From z.Free 0=z.From:=rfl
       repeat' (first|(first|refine CW.seq ?_|refine CW.region ?_|refine CW.condfr rfl (by with_reducible rfl) ?_|refine CW.condd_f rfl (by omega) ?_|refine CW.skip ?_|(apply CW.quiet1 mixed;(· kernel_rfl);rotate_left;intro w1 hw1;replace hw:=Ext.trans hw hw1;replace hb1:=hb1.ext hw1;replace hb7':=hb7'.ext hw1;clear hw1;rotate_right))|(first|refine Post.seq ?_|refine Post.blk ?_)|refine SW.nil ?_|(show SW _ _ _ _ (⟨_,_,_,_,_,some _⟩::_) _ _;first|refine SW.want_f rfl rfl (by with_reducible rfl) ?_|refine SW.skip_t rfl rfl (by with_reducible rfl) rfl ?_|refine SW.splitd_f rfl rfl rfl (by omega) ?_|refine SW.splitn_f rfl rfl rfl (by omega) ?_|refine SW.want rfl rfl ?_)|refine SW.pure rfl rfl ?_|(show SW _ _ _ _ (⟨_,Op.fieldAddr _ _ _,_,_,_,none⟩::_) _ _;refine SW.st (st_field rfl) rfl ?_)|(show SW _ _ _ _ (⟨_,Op.binOp _ _ _ _ _,_,_,_,none⟩::_) _ _;refine SW.st (st_add rfl rfl (by omega) (by omega)) rfl ?_)|(show SW _ _ _ _ (⟨_,Op.load _ _,_,_,_,none⟩::_) _ _;first|refine SW.st (st_loads rfl rfl ((fun _ _=>hb1.cell))) rfl ?_|refine SW.st (st_load rfl (hb7'.cell rfl)) rfl ?_)|(show SW _ _ _ _ (⟨_,Op.call ⟨.value (.func _),_,_⟩,_,_,_,none⟩::_) _ _;first|(refine SW.call rfl rfl (cM _) ?_;intro v w1 hw1 hv;subst hv;replace hw:=Ext.trans hw hw1;replace hb1:=hb1.ext hw1;replace hb7':=hb7'.ext hw1;clear hw1)|(refine SW.call rfl rfl (In_ans _ _ _ _) ?_;intro v w1 hw1 hv;subst hv;replace hw:=Ext.trans hw hw1;replace hb1:=hb1.ext hw1;replace hb7':=hb7'.ext hw1;clear hw1)|refine SW.qcall rfl rfl (fun w1 hw1=>(power_ans _ (by omega) _)) ?_)|exact SW.qnil rfl)
       all_goals first|(exfalso;omega)|skip
       refine Post.again (0+1) ⟨rfl,by rw [lowOf_succ _ _ _ hkl];rfl,rfl,trivial⟩ (by omega) ⟨by omega,hw,hb1,fun i h hi => ?_,fun i h hi=>by omega⟩
       obtain rfl:i=0:=by omega
       exact hbk
      ·obtain ⟨j,rfl⟩ : ∃ j,k=j+1:=⟨k-1,by omega⟩
       have hj:j<r.Free.n:=by omega
       have hjl:=hr.free.lt hj
       have hbj:=hI j hjl (by omega)
       obtain ⟨⟨g1,g2,g3,g4,g5⟩,_⟩:=id hbj
       have hlow:=lowOf_succ z.From z.Free j hjl
       have em:(z.Free[j]).At.tmod (pw ((z.Free[j+1]).Order+1))=(z.Free[j]).At % (pw ((z.Free[j+1]).Order+1)):=Int.tmod_eq_emod_of_nonneg (by omega)
       by_cases hlt:(z.Free[j]).At+pw (z.Free[j]).Order≤(z.Free[j+1]).At
       ·have hnr:=next_ref hbj hbk hlt
        by_cases hbu:(z.Free[j+1]).Order<4∧(z.Free[j]).Order=(z.Free[j+1]).Order∧(z.Free[j]).At+pw (z.Free[j+1]).Order=(z.Free[j+1]).At∧(z.Free[j]).At % pw ((z.Free[j+1]).Order+1)=0
        ·have hbad:=hnr.2 hbu
         obtain ⟨u1,u2,u3,u4⟩:=id hbu
         clear hnr
         repeat' (first|(first|refine CW.seq ?_|refine CW.region ?_|refine CW.condd_t rfl (by omega) ?_|refine CW.condd_f rfl (by omega) ?_|refine CW.skip ?_|refine CW.ret ?_|(apply CW.quiet1 mixed;(· kernel_rfl);rotate_left;intro w1 hw1;replace hw:=Ext.trans hw hw1;replace hb1:=hb1.ext hw1;replace hb7':=hb7'.ext hw1;clear hw1;rotate_right))|(first|refine Post.seq ?_|refine Post.seq_ret ?_|refine Post.blk_ret ?_|refine Post.again_ret ?_)|refine SW.nil ?_|(show SW _ _ _ _ (⟨_,_,_,_,_,some _⟩::_) _ _;first|refine SW.want_t rfl rfl (by with_reducible rfl) ?_|refine SW.want_f rfl rfl (by with_reducible rfl) ?_|refine SW.splitd_t rfl rfl rfl (by omega) ?_|refine SW.splitd_f rfl rfl rfl (by omega) ?_|refine SW.splitn_f rfl rfl rfl (by omega) ?_)|refine SW.pure rfl rfl ?_|(show SW _ _ _ _ (⟨_,Op.fieldAddr _ _ _,_,_,_,none⟩::_) _ _;refine SW.st (st_field rfl) rfl ?_)|(show SW _ _ _ _ (⟨_,Op.binOp _ _ _ _ _,_,_,_,none⟩::_) _ _;first|refine SW.st (st_add rfl rfl (by omega) (by omega)) rfl ?_|refine SW.st (st_sub rfl rfl (by omega) (by omega)) rfl ?_|refine SW.st (st_rem rfl rfl (by omega)) rfl ?_)|(show SW _ _ _ _ (⟨_,Op.indexAddr _ _ _,_,_,_,none⟩::_) _ _;refine SW.st (st_indexI (j) rfl rfl (by assumption) (by omega) (by omega)) rfl ?_)|(show SW _ _ _ _ (⟨_,Op.load _ _,_,_,_,none⟩::_) _ _;first|refine SW.st (st_loads rfl rfl ((fun _ _=>hb1.cell))) rfl ?_|refine SW.st (st_load rfl (hb7'.cell rfl)) rfl ?_|refine SW.st (st_load rfl (hb1.cell rfl)) rfl ?_|refine SW.st (st_loadx hw rfl (hr.free.fld hj rfl)) rfl ?_)|(show SW _ _ _ _ (⟨_,Op.call ⟨.value (.func _),_,_⟩,_,_,_,none⟩::_) _ _;first|(refine SW.call rfl rfl (cM _) ?_;intro v w1 hw1 hv;subst hv;replace hw:=Ext.trans hw hw1;replace hb1:=hb1.ext hw1;replace hb7':=hb7'.ext hw1;clear hw1)|(refine SW.call rfl rfl (In_ans _ _ _ _) ?_;intro v w1 hw1 hv;subst hv;replace hw:=Ext.trans hw hw1;replace hb1:=hb1.ext hw1;replace hb7':=hb7'.ext hw1;clear hw1)|refine SW.qcall rfl rfl (fun w1 hw1=>(power_ans _ (by omega) _)) ?_)|exact SW.qnil rfl)
         all_goals first|(exfalso;omega)|skip
         refine Post.ret1 rfl rfl ⟨_,rfl,hw,?_⟩
         rw [zoneB_f (fun h=>(h.next j hkl).2 hbad)]
        ·have hok':nextOk z.Free[j] z.Free[j+1]:=⟨hlt,fun h=>hbu (hnr.1 h)⟩
         have hd:(¬ (z.Free[j+1]).Order<4)∨((z.Free[j+1]).Order<4 ∧ ¬ (z.Free[j]).Order=(z.Free[j+1]).Order)∨((z.Free[j+1]).Order<4∧(z.Free[j]).Order=(z.Free[j+1]).Order ∧ ¬ (z.Free[j]).At+pw (z.Free[j+1]).Order=(z.Free[j+1]).At) ∨
          ((z.Free[j+1]).Order<4∧(z.Free[j]).Order=(z.Free[j+1]).Order∧(z.Free[j]).At+pw (z.Free[j+1]).Order=(z.Free[j+1]).At ∧ ¬ (z.Free[j]).At % pw ((z.Free[j+1]).Order+1)=0):=by
          by_cases u1:(z.Free[j+1]).Order<4
          ·by_cases u2:(z.Free[j]).Order=(z.Free[j+1]).Order
           ·by_cases u3:(z.Free[j]).At+pw (z.Free[j+1]).Order=(z.Free[j+1]).At
            ·exact .inr (.inr (.inr ⟨u1,u2,u3,fun u4=>hbu ⟨u1,u2,u3,u4⟩⟩))
            ·exact .inr (.inr (.inl ⟨u1,u2,u3⟩))
           ·exact .inr (.inl ⟨u1,u2⟩)
          ·exact .inl u1
         clear hnr
         have hnext:∀ (i:Nat) (h:i+1<z.Free.length),i+1<j+1+1→nextOk z.Free[i] z.Free[i+1]:=fun i h hi=>by
          by_cases hij:i=j
          ·subst hij;exact hok'
          ·exact hN i h (by omega)
         have hblk:∀ (i:Nat) (h:i<z.Free.length),i<j+1+1→blkOk z.From z.To z.Free[i]:=fun i h hi=>by
          by_cases hij:i=j+1
          ·subst hij;exact hbk
          ·exact hI i h (by omega)
         rcases hd with u1|⟨u1,u2⟩|⟨u1,u2,u3⟩|⟨u1,u2,u3,u4⟩
         all_goals
          repeat' (first|(first|refine CW.seq ?_|refine CW.region ?_|refine CW.condfr rfl (by with_reducible rfl) ?_|refine CW.condd_f rfl (by omega) ?_|refine CW.skip ?_|(apply CW.quiet1 mixed;(· kernel_rfl);rotate_left;intro w1 hw1;replace hw:=Ext.trans hw hw1;replace hb1:=hb1.ext hw1;replace hb7':=hb7'.ext hw1;clear hw1;rotate_right))|(first|refine Post.seq ?_|refine Post.blk ?_)|refine SW.nil ?_|(show SW _ _ _ _ (⟨_,_,_,_,_,some _⟩::_) _ _;first|refine SW.want_t rfl rfl (by with_reducible rfl) ?_|refine SW.want_f rfl rfl (by with_reducible rfl) ?_|refine SW.skip_t rfl rfl (by with_reducible rfl) rfl ?_|refine SW.splitd_t rfl rfl rfl (by omega) ?_|refine SW.splitd_f rfl rfl rfl (by omega) ?_|refine SW.splitn_f rfl rfl rfl (by omega) ?_|refine SW.want rfl rfl ?_)|refine SW.pure rfl rfl ?_|(show SW _ _ _ _ (⟨_,Op.fieldAddr _ _ _,_,_,_,none⟩::_) _ _;refine SW.st (st_field rfl) rfl ?_)|(show SW _ _ _ _ (⟨_,Op.binOp _ _ _ _ _,_,_,_,none⟩::_) _ _;first|refine SW.st (st_add rfl rfl (by omega) (by omega)) rfl ?_|refine SW.st (st_sub rfl rfl (by omega) (by omega)) rfl ?_|refine SW.st (st_rem rfl rfl (by omega)) rfl ?_)|(show SW _ _ _ _ (⟨_,Op.indexAddr _ _ _,_,_,_,none⟩::_) _ _;refine SW.st (st_indexI (j) rfl rfl (by assumption) (by omega) (by omega)) rfl ?_)|(show SW _ _ _ _ (⟨_,Op.load _ _,_,_,_,none⟩::_) _ _;first|refine SW.st (st_loads rfl rfl ((fun _ _=>hb1.cell))) rfl ?_|refine SW.st (st_load rfl (hb7'.cell rfl)) rfl ?_|refine SW.st (st_load rfl (hb1.cell rfl)) rfl ?_|refine SW.st (st_loadx hw rfl (hr.free.fld hj rfl)) rfl ?_)|(show SW _ _ _ _ (⟨_,Op.call ⟨.value (.func _),_,_⟩,_,_,_,none⟩::_) _ _;first|(refine SW.call rfl rfl (cM _) ?_;intro v w1 hw1 hv;subst hv;replace hw:=Ext.trans hw hw1;replace hb1:=hb1.ext hw1;replace hb7':=hb7'.ext hw1;clear hw1)|(refine SW.call rfl rfl (In_ans _ _ _ _) ?_;intro v w1 hw1 hv;subst hv;replace hw:=Ext.trans hw hw1;replace hb1:=hb1.ext hw1;replace hb7':=hb7'.ext hw1;clear hw1)|refine SW.qcall rfl rfl (fun w1 hw1=>(power_ans _ (by omega) _)) ?_)|exact SW.qnil rfl)
          all_goals first|(exfalso;omega)|skip
          exact Post.again (j+1+1) ⟨rfl,by rw [lowOf_succ _ _ _ hkl];rfl,rfl,trivial⟩ (by omega) ⟨by omega,hw,hb1,hblk,hnext⟩
       ·repeat' (first|(first|refine CW.seq ?_|refine CW.region ?_|refine CW.condd_t rfl (by omega) ?_|refine CW.ret ?_)|(first|refine Post.seq ?_|refine Post.seq_ret ?_|refine Post.blk_ret ?_|refine Post.again_ret ?_)|refine SW.nil ?_|(show SW _ _ _ _ (⟨_,_,_,_,_,some _⟩::_) _ _;first|refine SW.want_f rfl rfl (by with_reducible rfl) ?_|refine SW.splitn_f rfl rfl rfl (by omega) ?_|refine SW.want rfl rfl ?_)|refine SW.pure rfl rfl ?_|(show SW _ _ _ _ (⟨_,Op.fieldAddr _ _ _,_,_,_,none⟩::_) _ _;refine SW.st (st_field rfl) rfl ?_)|(show SW _ _ _ _ (⟨_,Op.load _ _,_,_,_,none⟩::_) _ _;first|refine SW.st (st_loads rfl rfl ((fun _ _=>hb1.cell))) rfl ?_|refine SW.st (st_load rfl (hb7'.cell rfl)) rfl ?_)|(show SW _ _ _ _ (⟨_,Op.call ⟨.value (.func _),_,_⟩,_,_,_,none⟩::_) _ _;first|(refine SW.call rfl rfl (cM _) ?_;intro v w1 hw1 hv;subst hv;replace hw:=Ext.trans hw hw1;replace hb1:=hb1.ext hw1;replace hb7':=hb7'.ext hw1;clear hw1)|(refine SW.call rfl rfl (In_ans _ _ _ _) ?_;intro v w1 hw1 hv;subst hv;replace hw:=Ext.trans hw hw1;replace hb1:=hb1.ext hw1;replace hb7':=hb7'.ext hw1;clear hw1)))
        all_goals first|(exfalso;omega)|skip
        refine Post.ret1 rfl rfl ⟨_,rfl,hw,?_⟩
        rw [zoneB_f (fun h=>hlt (h.next j hkl).1)]
     ·have hfail:zoneB z=false:=zoneB_f (fun h=>hbk (h.blk k hkl))
      by_cases hfz:fitsZ z.From z.To (z.Free[k]).At (z.Free[k]).Order
      ·have hty' : ¬ (0≤(z.Free[k]).Ty∧(z.Free[k]).Ty≤2):=fun h=>hbk ⟨hfz,h⟩
       rw [decide_eq_true hfz] at cM
       repeat' (first|(first|refine CW.seq ?_|refine CW.region ?_|refine CW.condtr rfl (by with_reducible rfl) ?_|refine CW.ret ?_)|(first|refine Post.seq ?_|refine Post.seq_ret ?_|refine Post.blk_ret ?_|refine Post.again_ret ?_)|refine SW.nil ?_|(show SW _ _ _ _ (⟨_,_,_,_,_,some _⟩::_) _ _;first|refine SW.skip_f rfl rfl (by with_reducible rfl) rfl ?_|refine SW.splitn_t rfl rfl rfl (by omega) ?_|refine SW.want rfl rfl ?_)|refine SW.pure rfl rfl ?_|(show SW _ _ _ _ (⟨_,Op.fieldAddr _ _ _,_,_,_,none⟩::_) _ _;refine SW.st (st_field rfl) rfl ?_)|(show SW _ _ _ _ (⟨_,Op.load _ _,_,_,_,none⟩::_) _ _;first|refine SW.st (st_loads rfl rfl ((fun _ _=>hb1.cell))) rfl ?_|refine SW.st (st_load rfl (hb7'.cell rfl)) rfl ?_)|(show SW _ _ _ _ (⟨_,Op.call ⟨.value (.func _),_,_⟩,_,_,_,none⟩::_) _ _;first|(refine SW.call rfl rfl (cM _) ?_;intro v w1 hw1 hv;subst hv;replace hw:=Ext.trans hw hw1;replace hb1:=hb1.ext hw1;replace hb7':=hb7'.ext hw1;clear hw1)|(refine SW.call rfl rfl (In_ans _ _ _ _) ?_;intro v w1 hw1 hv;subst hv;replace hw:=Ext.trans hw hw1;replace hb1:=hb1.ext hw1;replace hb7':=hb7'.ext hw1;clear hw1)))
       all_goals first|(exfalso;omega)|skip
       exact Post.ret1 rfl rfl ⟨_,rfl,hw,by rw [hfail]⟩
      ·rw [decide_eq_false hfz] at cM
       repeat' (first|(first|refine CW.seq ?_|refine CW.region ?_|refine CW.condtr rfl (by with_reducible rfl) ?_|refine CW.ret ?_)|(first|refine Post.seq ?_|refine Post.seq_ret ?_|refine Post.blk_ret ?_|refine Post.again_ret ?_)|refine SW.nil ?_|(show SW _ _ _ _ (⟨_,_,_,_,_,some _⟩::_) _ _;first|refine SW.skip_f rfl rfl (by with_reducible rfl) rfl ?_|refine SW.skip rfl rfl rfl rfl ?_)|refine SW.pure rfl rfl ?_|(show SW _ _ _ _ (⟨_,Op.fieldAddr _ _ _,_,_,_,none⟩::_) _ _;refine SW.st (st_field rfl) rfl ?_)|(show SW _ _ _ _ (⟨_,Op.load _ _,_,_,_,none⟩::_) _ _;first|refine SW.st (st_loads rfl rfl ((fun _ _=>hb1.cell))) rfl ?_|refine SW.st (st_load rfl (hb7'.cell rfl)) rfl ?_)|(show SW _ _ _ _ (⟨_,Op.call ⟨.value (.func _),_,_⟩,_,_,_,none⟩::_) _ _;(refine SW.call rfl rfl (cM _) ?_;intro v w1 hw1 hv;subst hv;replace hw:=Ext.trans hw hw1;replace hb1:=hb1.ext hw1;replace hb7':=hb7'.ext hw1;clear hw1)))
       exact Post.ret1 rfl rfl ⟨_,rfl,hw,by rw [hfail]⟩
    ·repeat' (first|(first|refine CW.seq ?_|refine CW.region ?_|refine CW.condd_f rfl (by omega) ?_|refine CW.ret ?_|refine CW.exit ?_)|(first|refine Post.seq ?_|refine Post.seq_exit ?_|refine Post.hit ?_|refine Post.again_exit ?_)|refine SW.nil ?_|refine SW.pure rfl rfl ?_|(show SW _ _ _ _ (⟨_,Op.fieldAddr _ _ _,_,_,_,none⟩::_) _ _;refine SW.st (st_field rfl) rfl ?_)|(show SW _ _ _ _ (⟨_,Op.call ⟨.builtin .len,_,_⟩,_,_,_,none⟩::_) _ _;refine SW.st (st_len rfl) rfl ?_)|(show SW _ _ _ _ (⟨_,Op.load _ _,_,_,_,none⟩::_) _ _;refine SW.st (st_load rfl (hb1.cell rfl)) rfl ?_))
     refine Post.ret1 rfl rfl ⟨_,rfl,hw,?_⟩
     rw [zoneB_t ⟨by rw [← eF,← eT];exact hok,hl8,hty,fun i h=>hI i h (by omega),fun i h=>hN i h (by omega)⟩]
  ·repeat' (refine SW.pure rfl rfl ?_)
   refine SW.alloc rfl fun b3 w1 hw1 hb3b hb3 => ?_
   have hb3w:w.heap.size≤b3:=Nat.le_trans hw.size hb3b
   have hne_b1:b1≠b3:=by have:=hb1.lt;omega
   replace hw:=Ext.trans hw hw1
   replace hb1:=hb1.ext hw1
   replace hs:=hs.ext hw1
   refine SW.storeAgg hb3 rfl rfl rfl rfl (one_z _) fun w2 hb3' hg => ?_
   replace hw:=hw.own hb3w hg
   replace hs:=hs.blk hb3 hg rfl rfl
   replace hb1:=hb1.grown hg (by simpa using hne_b1)
   replace hb3:=hb3'
   clear hb3' hw1 hg hb3b
   repeat' (first|(first|refine CW.seq ?_|refine CW.region ?_|refine CW.condn_t rfl (by omega) ?_|refine CW.ret ?_)|(first|refine Post.seq ?_|refine Post.seq_ret ?_)|refine SW.nil ?_|(show SW _ _ _ _ (⟨_,_,_,_,_,some _⟩::_) _ _;first|refine SW.want_f rfl rfl (by with_reducible rfl) ?_|refine SW.splitn_f rfl rfl rfl (by omega) ?_)|refine SW.pure rfl rfl ?_|(show SW _ _ _ _ (⟨_,Op.fieldAddr _ _ _,_,_,_,none⟩::_) _ _;refine SW.st (st_field rfl) rfl ?_)|(show SW _ _ _ _ (⟨_,Op.binOp _ _ _ _ _,_,_,_,none⟩::_) _ _;first|refine SW.st (st_sub rfl rfl (by omega) (by omega)) rfl ?_|refine SW.st (st_mul rfl rfl (by omega) (by omega)) rfl ?_)|(show SW _ _ _ _ (⟨_,Op.call ⟨.builtin .len,_,_⟩,_,_,_,none⟩::_) _ _;refine SW.st (st_len rfl) rfl ?_)|(show SW _ _ _ _ (⟨_,Op.load _ _,_,_,_,none⟩::_) _ _;refine SW.st (st_load rfl (hb1.cell rfl)) rfl ?_))
   refine Post.ret1 rfl rfl ⟨_,rfl,hw,?_⟩
   rw [zoneB_f (fun h=>hl8 h.len)]
 ·rw [zoneNewV_f hok] at hv
  obtain ⟨s,rfl,hs⟩:=hv
  repeat' (refine SW.pure rfl rfl ?_)
  refine SW.alloc rfl fun b3 w1 hw1 hb3b hb3 => ?_
  have hb3w:w.heap.size≤b3:=Nat.le_trans hw.size hb3b
  have hne_b1:b1≠b3:=by have:=hb1.lt;omega
  replace hw:=Ext.trans hw hw1
  replace hb1:=hb1.ext hw1
  replace hs:=hs.ext hw1
  refine SW.storeAgg hb3 rfl rfl rfl rfl (one_z _) fun w2 hb3' hg => ?_
  replace hw:=hw.own hb3w hg
  replace hs:=hs.blk hb3 hg rfl rfl
  replace hb1:=hb1.grown hg (by simpa using hne_b1)
  replace hb3:=hb3'
  clear hb3' hw1 hg hb3b
  repeat' (first|(first|refine CW.seq ?_|refine CW.region ?_|refine CW.condtr rfl (by with_reducible rfl) ?_|refine CW.ret ?_)|(first|refine Post.seq ?_|refine Post.seq_ret ?_)|refine SW.nil ?_|(show SW _ _ _ _ (⟨_,_,_,_,_,some _⟩::_) _ _;first|refine SW.skip_f rfl rfl (by with_reducible rfl) rfl ?_|refine SW.splitn_t rfl rfl rfl (by omega) ?_)|refine SW.pure rfl rfl ?_)
  refine Post.ret1 rfl rfl ⟨_,rfl,hw,?_⟩
  rw [zoneB_f (fun h=>hok (by rw [eF,eT];exact h.ok))]
open Go.RowKit
theorem overlaps_ans (A:Option Addr) (n c:Nat) (l:List Block) (f t a o:Int) (w:World) (hl:Sl w 3 encBk A n l) (hb:∀ b∈l,blkOk f t b) (h0 : 0≤f) (ht:t≤256) (hn:n≤1000000000000000000) (ha : -1000≤a∧a≤1000) (ho : 0≤o∧o≤4) :
  Ans Tryz.prog 102 [.slice A n c,.int .i64 a,.int .i64 o] w fun v _=>v = .bool (overB l a o):=by
 refine ans_of Tryz.func102 rfl Tryz.ntmps102 rfl ?_
 have hw:=Ext.refl w
 have hA:=hl.base
 have hll:=hl.len
 have hp:=pw_le ho.1 ho.2
 repeat' (first|(first|refine CW.seq ?_|refine CW.region ?_|refine CW.block ?_)|(refine Post.seq ?_)|refine SW.nil ?_|refine SW.pure rfl rfl ?_)
 refine CW.loop (fun k:Nat=>[(0,.slice A n c),(1,.int .i64 a),(2,.int .i64 o),(7,.int .i64 (k:Int))]) (fun k w'=>k≤n∧Ext w w' ∧ ∀ (j:Nat) (h:j<l.length),j<k → ¬ (l[j].At<a+pw o∧a<l[j].At+pw l[j].Order)) (fun k=>n-k) 0 ⟨rfl,rfl,rfl,rfl,trivial⟩ ⟨by omega,hw,fun j _ h=>by omega⟩ ?_
 clear hw
 rintro k w' ⟨hk,hw,hI⟩
 by_cases hkn:k<n
 ·have hkl:=hl.lt hkn
  have hbk:=(hb _ (List.getElem_mem hkl)).1
  obtain ⟨f1,f2,f3,f4,f5⟩:=id hbk
  have hp1:=pw_le f1 f2
  by_cases h1:l[k].At<a+pw o
  ·by_cases h2:a<l[k].At+pw l[k].Order
   ·repeat' (first|(first|refine CW.seq ?_|refine CW.region ?_|refine CW.block ?_|refine CW.condd_t rfl (by omega) ?_|refine CW.skip ?_|refine CW.ret ?_|(apply CW.quiet1 mixed;(· kernel_rfl);rotate_left;intro w1 hw1;replace hw:=Ext.trans hw hw1;clear hw1;rotate_right))|(first|refine Post.seq ?_|refine Post.seq_ret ?_|refine Post.blk_ret ?_|refine Post.again_ret ?_)|refine SW.nil ?_|(show SW _ _ _ _ (⟨_,_,_,_,_,some _⟩::_) _ _;first|refine SW.want_t rfl rfl (by with_reducible rfl) ?_|refine SW.splitd_t rfl rfl rfl (by omega) ?_)|refine SW.pure rfl rfl ?_|(show SW _ _ _ _ (⟨_,Op.fieldAddr _ _ _,_,_,_,none⟩::_) _ _;refine SW.st (st_field rfl) rfl ?_)|(show SW _ _ _ _ (⟨_,Op.binOp _ _ _ _ _,_,_,_,none⟩::_) _ _;refine SW.st (st_add rfl rfl (by omega) (by omega)) rfl ?_)|(show SW _ _ _ _ (⟨_,Op.indexAddr _ _ _,_,_,_,none⟩::_) _ _;refine SW.st (st_indexN rfl rfl (by assumption) (by omega)) rfl ?_)|(show SW _ _ _ _ (⟨_,Op.call ⟨.builtin .len,_,_⟩,_,_,_,none⟩::_) _ _;refine SW.st (st_len rfl) rfl ?_)|(show SW _ _ _ _ (⟨_,Op.load _ _,_,_,_,none⟩::_) _ _;refine SW.st (st_loadx hw rfl (hl.fld hkn rfl)) rfl ?_)|(show SW _ _ _ _ (⟨_,Op.call ⟨.value (.func _),_,_⟩,_,_,_,none⟩::_) _ _;refine SW.qcall rfl rfl (fun w1 hw1=>(power_ans _ (by omega) _)) ?_)|exact SW.qnil rfl)
    refine Post.ret1 rfl rfl ⟨_,rfl,hw,?_⟩
    have:overB l a o=true:=List.any_eq_true.2 ⟨l[k],List.getElem_mem hkl,by simp [h1,h2]⟩
    rw [this]
   ·repeat' (first|(first|refine CW.seq ?_|refine CW.region ?_|refine CW.block ?_|refine CW.condd_t rfl (by omega) ?_|refine CW.condd_f rfl (by omega) ?_|refine CW.skip ?_|(apply CW.quiet1 mixed;(· kernel_rfl);rotate_left;intro w1 hw1;replace hw:=Ext.trans hw hw1;clear hw1;rotate_right))|(first|refine Post.seq ?_|refine Post.blk ?_)|refine SW.nil ?_|(show SW _ _ _ _ (⟨_,_,_,_,_,some _⟩::_) _ _;first|refine SW.want_t rfl rfl (by with_reducible rfl) ?_|refine SW.splitd_t rfl rfl rfl (by omega) ?_)|refine SW.pure rfl rfl ?_|(show SW _ _ _ _ (⟨_,Op.fieldAddr _ _ _,_,_,_,none⟩::_) _ _;refine SW.st (st_field rfl) rfl ?_)|(show SW _ _ _ _ (⟨_,Op.binOp _ _ _ _ _,_,_,_,none⟩::_) _ _;refine SW.st (st_add rfl rfl (by omega) (by omega)) rfl ?_)|(show SW _ _ _ _ (⟨_,Op.indexAddr _ _ _,_,_,_,none⟩::_) _ _;refine SW.st (st_indexN rfl rfl (by assumption) (by omega)) rfl ?_)|(show SW _ _ _ _ (⟨_,Op.call ⟨.builtin .len,_,_⟩,_,_,_,none⟩::_) _ _;refine SW.st (st_len rfl) rfl ?_)|(show SW _ _ _ _ (⟨_,Op.load _ _,_,_,_,none⟩::_) _ _;refine SW.st (st_loadx hw rfl (hl.fld hkn rfl)) rfl ?_)|(show SW _ _ _ _ (⟨_,Op.call ⟨.value (.func _),_,_⟩,_,_,_,none⟩::_) _ _;refine SW.qcall rfl rfl (fun w1 hw1=>(power_ans _ (by omega) _)) ?_)|exact SW.qnil rfl)
    refine Post.again (k+1) ⟨rfl,rfl,rfl,rfl,trivial⟩ (by omega) ⟨by omega,hw,fun j hj h => ?_⟩
    by_cases e:j=k
    ·subst e;exact fun h=>h2 h.2
    ·exact hI j hj (by omega)
  ·repeat' (first|(first|refine CW.seq ?_|refine CW.region ?_|refine CW.block ?_|refine CW.condfr rfl (by with_reducible rfl) ?_|refine CW.condd_t rfl (by omega) ?_|refine CW.skip ?_|(apply CW.quiet1 mixed;(· kernel_rfl);rotate_left;intro w1 hw1;replace hw:=Ext.trans hw hw1;clear hw1;rotate_right))|(first|refine Post.seq ?_|refine Post.blk ?_)|refine SW.nil ?_|(show SW _ _ _ _ (⟨_,_,_,_,_,some _⟩::_) _ _;first|refine SW.skip_t rfl rfl (by with_reducible rfl) rfl ?_|refine SW.splitd_f rfl rfl rfl (by omega) ?_)|refine SW.pure rfl rfl ?_|(show SW _ _ _ _ (⟨_,Op.fieldAddr _ _ _,_,_,_,none⟩::_) _ _;refine SW.st (st_field rfl) rfl ?_)|(show SW _ _ _ _ (⟨_,Op.binOp _ _ _ _ _,_,_,_,none⟩::_) _ _;refine SW.st (st_add rfl rfl (by omega) (by omega)) rfl ?_)|(show SW _ _ _ _ (⟨_,Op.indexAddr _ _ _,_,_,_,none⟩::_) _ _;refine SW.st (st_indexN rfl rfl (by assumption) (by omega)) rfl ?_)|(show SW _ _ _ _ (⟨_,Op.call ⟨.builtin .len,_,_⟩,_,_,_,none⟩::_) _ _;refine SW.st (st_len rfl) rfl ?_)|(show SW _ _ _ _ (⟨_,Op.load _ _,_,_,_,none⟩::_) _ _;refine SW.st (st_loadx hw rfl (hl.fld hkn rfl)) rfl ?_)|(show SW _ _ _ _ (⟨_,Op.call ⟨.value (.func _),_,_⟩,_,_,_,none⟩::_) _ _;refine SW.qcall rfl rfl (fun w1 hw1=>(power_ans _ (by omega) _)) ?_)|exact SW.qnil rfl)
   refine Post.again (k+1) ⟨rfl,rfl,rfl,rfl,trivial⟩ (by omega) ⟨by omega,hw,fun j hj h => ?_⟩
   by_cases e:j=k
   ·subst e;exact fun h=>h1 h.1
   ·exact hI j hj (by omega)
 ·repeat' (first|(first|refine CW.seq ?_|refine CW.region ?_|refine CW.condd_f rfl (by omega) ?_|refine CW.ret ?_|refine CW.exit ?_)|(first|refine Post.seq ?_|refine Post.seq_exit ?_|refine Post.hit ?_|refine Post.again_exit ?_)|refine SW.nil ?_|refine SW.pure rfl rfl ?_|(show SW _ _ _ _ (⟨_,Op.call ⟨.builtin .len,_,_⟩,_,_,_,none⟩::_) _ _;refine SW.st (st_len rfl) rfl ?_))
  refine Post.ret1 rfl rfl ⟨_,rfl,hw,?_⟩
  have:overB l a o=false:=by
   unfold overB
   rw [List.any_eq_false]
   intro x hx
   obtain ⟨j,hj,rfl⟩:=List.getElem_of_mem hx
   have:=hI j hj (by omega)
   simpa using this
  rw [this]
end Go.Proofs.YtigikedbffjeiaaGreat
