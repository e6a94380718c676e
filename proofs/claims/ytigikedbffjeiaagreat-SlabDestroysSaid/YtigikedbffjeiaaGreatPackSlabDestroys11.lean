/-
  Texts of the claim SlabDestroys, part 11: what its theorem leans on.
-/
import Derived.Test.YtigikedbffjeiaaGreatPackSlabDestroys10
import Derived.Test.YtigikedbffjeiaaGreatPackSlabDestroys8
set_option linter.unusedVariables false
set_option linter.unusedSimpArgs false
namespace Go.Proofs.YtigikedbffjeiaaGreat
open Go.RowKit
structure JInv (z:Zone) (a o:Int) (f:Nat) (l:List Block) (a' o':Int) : Prop where
 ok:JOk z.From z.To l a' o'
 eq:joinL 5 z.Free a o=joinL f l a' o'
 fuel : 5≤(f:Int)+o'
 len:l.length≤z.Free.length
theorem JInv.stop {z:Zone} {a o:Int} {f:Nat} {l:List Block} {a' o':Int} (h:JInv z a o f l a' o') (ho : ¬ o'<4∨l.any (isB (beside a' o') o')=false) : joinL 5 z.Free a o=(l,a',o'):=by
 rw [h.eq]
 cases f with
 | zero=>rfl
 | succ f =>
  simp only [joinL]
  rcases ho with h1|h1
  ·rw [if_neg h1]
  ·simp [h1]
theorem JInv.next {z:Zone} {a o:Int} {f:Nat} {l:List Block} {a' o':Int} (h:JInv z a o f l a' o') (h0 : 0≤z.From) (ho:o'<4) (hany:l.any (isB (beside a' o') o')=true) : ∃ f',JInv z a o f' (without l (beside a' o') o') (min a' (beside a' o')) (o'+1):=by
 have hf:=h.fuel
 obtain ⟨g,rfl⟩ : ∃ g,f=g+1:=⟨f-1,by omega⟩
 refine ⟨g,h.ok.step h0 ho hany,?_,by omega,Nat.le_trans (List.length_filter_le _ _) h.len⟩
 rw [h.eq]
 simp only [joinL,if_pos ho,hany,if_true]
set_option maxHeartbeats 8000000 in
theorem Zback_ans (r:ZRow) (z:Zone) (a o:Int) (w:World) (hr:RdZ w r z) (hf:(r.Free.n+1)*24≤140737488355328) (ht:r.Types.n*8≤140737488355328) (h1 : -9223372036854775808≤r.From∧r.From≤9223372036854775807) (h2 : -9223372036854775808≤r.To∧r.To≤9223372036854775807) :
  Ans Tryz.prog 111 [.agg (encZ r).toArray,.int .i64 a,.int .i64 o] w (ZoneOut w.heap.size (backV z a o)):=by
 refine ans_of Tryz.func111 rfl Tryz.ntmps111 rfl ?_
 refine CW.seq (CW.region (SW.box rfl rfl fun b3 w1 hw hb3b hb3 => ?_))
 refine SW.alloc rfl fun b6 w2 hw2 hb6b hb6 => ?_
 have hb6w:w.heap.size≤b6:=Nat.le_trans hw.size hb6b
 have hne36:b3≠b6:=by have:=hb3.lt;omega
 (replace hw:=Ext.trans hw hw2;replace hb3:=hb3.ext hw2)
 have eF:=hr.from_
 have eT:=hr.to_
 have hFl:=hr.free.len
 have hTl:=hr.types.len
 obtain ⟨q,hq⟩ : ∃ q,zoneB z=q:=⟨_,rfl⟩
 have c1:∀ w',Ext w w'→Ans Tryz.prog 87 [.agg (encZ r).toArray] w' fun v _=>v = .int .i64 (if q then 0 else 8):=fun w' h=>by
  have:=Zcheck_ans r z w' (hr.ext h) (by omega) (by omega) h1 h2
  rwa [hq] at this
 cases q
 ·simp only [Bool.false_eq_true,if_false] at c1
  rw [backV_8 hq]
  repeat' (first|(first|refine CW.seq ?_|refine CW.region ?_|refine CW.condn_t rfl (by omega) ?_)|(refine Post.seq ?_)|refine SW.nil ?_|refine SW.pure rfl rfl ?_|(show SW _ _ _ _ (⟨_,Op.build _ _,_,_,_,none⟩::_) _ _;refine SW.st (st_build rfl rfl) rfl ?_)|(show SW _ _ _ _ (⟨_,Op.load _ _,_,_,_,none⟩::_) _ _;refine SW.st (st_loads rfl rfl ((fun _ _=>hb3.cell))) rfl ?_)|(show SW _ _ _ _ (⟨_,Op.call ⟨.value (.func _),_,_⟩,_,_,_,none⟩::_) _ _;(refine SW.call rfl rfl (c1 _ hw) ?_;intro v w1 hw1 hv;subst hv;replace hw:=Ext.trans hw hw1;replace hb3:=hb3.ext hw1;replace hb6:=hb6.ext hw1;clear hw1)))
  refine SW.storeAgg hb6 rfl rfl rfl rfl (one_z .zero) fun w5 hR2 hg => ?_
  replace hw:=hw.own hb6w hg
  repeat' (first|(refine CW.ret ?_)|(first|refine Post.seq ?_|refine Post.seq_ret ?_)|refine SW.nil ?_|refine SW.pure rfl rfl ?_)
  exact Post.ret2c rfl rfl rfl hR2 rfl ⟨_,rfl,hw,.zero,rfl,OwnZ.zero _ _⟩
 ·simp only [if_true] at c1
  have hz:=zoneB_iff.1 hq
  obtain ⟨o1,o2,o3,o4,o5⟩:=hz.ok
  repeat' (first|(first|refine CW.seq ?_|refine CW.region ?_|refine CW.condn_f rfl (by omega) ?_|refine CW.skip ?_)|(refine Post.seq ?_)|refine SW.nil ?_|refine SW.pure rfl rfl ?_|(show SW _ _ _ _ (⟨_,Op.build _ _,_,_,_,none⟩::_) _ _;refine SW.st (st_build rfl rfl) rfl ?_)|(show SW _ _ _ _ (⟨_,Op.load _ _,_,_,_,none⟩::_) _ _;refine SW.st (st_loads rfl rfl ((fun _ _=>hb3.cell))) rfl ?_)|(show SW _ _ _ _ (⟨_,Op.call ⟨.value (.func _),_,_⟩,_,_,_,none⟩::_) _ _;(refine SW.call rfl rfl (c1 _ hw) ?_;intro v w1 hw1 hv;subst hv;replace hw:=Ext.trans hw hw1;replace hb3:=hb3.ext hw1;replace hb6:=hb6.ext hw1;clear hw1)))
  clear c1
  refine SW.alloc rfl fun b9 w1 hw1 hb9b hb9 => ?_
  skip
  refine SW.storeAgg hb9 rfl rfl rfl rfl (Enc.one (enc:=encBk) ⟨a,o,0⟩) fun w2 hb9' hg => ?_
  have hXX:=hw1.own hb9b hg
  have hb9w:w.heap.size≤b9:=Nat.le_trans hw.size hb9b
  replace hw:=Ext.trans hw hXX
  replace hb3:=hb3.ext hXX
  replace hb6:=hb6.ext hXX
  replace hb9:=hb9'
  clear hb9' hw1 hg hXX
  have cF:∀ w',Ans Tryz.prog 118 [.agg (encZ r).toArray,.agg (encBk ⟨a,o,0⟩).toArray] w' fun v _=>v = .bool (decide (fitsZ z.From z.To a o)):=fun w'=>by
   have:=Zfits_ans r ⟨a,o,0⟩ w' (by omega)
   rwa [eF,eT] at this
  by_cases hfit:fitsZ z.From z.To a o
  ·rw [decide_eq_true hfit] at cF
   obtain ⟨f1,f2,f3,f4,f5⟩:=id hfit
   have cC:∀ w',Ext w w'→Blk w' b9 94 (encBk ⟨a,o,0⟩)→Ans Tryz.prog 124 [.slice r.Free.A r.Free.n r.Free.c,.func (.func 125) #[] [.pointer (some ⟨b9,0,none⟩)].toArray] w' fun v _=>v = .bool (overB z.Free a o):=fun w' hx h9 =>
    ContainsFuncBlock_ans _ _ _ _ _ (hr.free.ext hx) _ [.pointer (some ⟨b9,0,none⟩)] (fun x=>decide (x.At<a+pw o) && decide (a<x.At+pw x.Order)) (fun x => .agg (encBk x).toArray) (fun x=>rfl)
     (fun x hxm w1 hx1=>by
      obtain ⟨i,hi,rfl⟩:=List.getElem_of_mem hxm
      obtain ⟨g1,g2,g3,g4,g5⟩:=(hz.blk i hi).1
      exact overC_ans a o b9 _ w1 (h9.ext hx1) ⟨f1,f2⟩ ⟨by omega,by omega⟩ ⟨by omega,by omega⟩ ⟨g1,g2⟩) (by omega)
   cases hov:overB z.Free a o
   ·rw [hov] at cC
    have hJ0:=over_dis (f:=0) (t:=0) hz hfit hov
    repeat' (first|(first|refine CW.seq ?_|refine CW.region ?_|refine CW.condfr rfl (by with_reducible rfl) ?_|refine CW.condf rfl ?_|refine CW.skip ?_)|(refine Post.seq ?_)|refine SW.nil ?_|refine SW.pure rfl rfl ?_|(show SW _ _ _ _ (⟨_,Op.fieldAddr _ _ _,_,_,_,none⟩::_) _ _;refine SW.st (st_field rfl) rfl ?_)|(show SW _ _ _ _ (⟨_,Op.load _ _,_,_,_,none⟩::_) _ _;first|refine SW.st (st_loads rfl rfl ((fun _ _=>hb3.cell))) rfl ?_|refine SW.st (st_load rfl (hb3.cell rfl)) rfl ?_|refine SW.st (st_loads rfl rfl ((fun _ _=>hb9.cell))) rfl ?_)|(show SW _ _ _ _ (⟨_,Op.call ⟨.value (.func _),_,_⟩,_,_,_,none⟩::_) _ _;first|(refine SW.call rfl rfl (cF _) ?_;intro v w1 hw1 hv;subst hv;replace hw:=Ext.trans hw hw1;replace hb3:=hb3.ext hw1;replace hb6:=hb6.ext hw1;replace hb9:=hb9.ext hw1;clear hw1)|(refine SW.call rfl rfl (cC _ hw hb9) ?_;intro v w1 hw1 hv;subst hv;replace hw:=Ext.trans hw hw1;replace hb3:=hb3.ext hw1;replace hb6:=hb6.ext hw1;replace hb9:=hb9.ext hw1;clear hw1))|(refine SW.st (st_func (vs:=[.pointer (some ⟨b9,0,none⟩)]) rfl) rfl ?_))
    have hlo9:b9+1≤_:=hb9.lt
    refine SW.call rfl rfl (Zcopy_ans r z _ (hr.ext hw) (by omega) ht) fun v w4 hw4 hv => ?_
    obtain ⟨s,rfl,hs,e1,e2⟩:=hv
    replace hs:=hs.low hlo9
    (replace hw:=Ext.trans hw hw4;replace hb3:=hb3.ext hw4;replace hb6:=hb6.ext hw4;replace hb9:=hb9.ext hw4)
    clear hlo9 cC cF
    skip
    refine SW.storeAgg hb3 rfl rfl rfl rfl (one_z s) fun w5 hb3' hg => ?_
    have hG:=hb3.gr hg
    replace hw:=hw.own hb3b hg
    (replace hb9:=hb9.grT hG rfl)
    have hX:=hs.free.grT hG rfl
    have hT:=hs.types.grT hG rfl
    replace hb6:=hb6.grown hg (by simpa using hne36.symm)
    replace hb3:=hb3'
    have es:s.Free.n=z.Free.length:=by rw [e1,hFl]
    have eq1:s=⟨s.From,s.To,⟨s.Free.A,z.Free.length,s.Free.c⟩,s.Types⟩:=by rw [← es]
    have sF:=hs.from_
    have sT:=hs.to_
    rw [es] at hX
    rw [eq1] at hb3
    clear hb3' hg hG hs
    repeat' (first|(first|refine CW.seq ?_|refine CW.block ?_)|(refine Post.seq ?_)|refine SW.nil ?_)
    obtain ⟨K,hK⟩ : ∃ K:Env→World→Prop,K=fun L' w' => ∃ l a' o' A c,subEnv L' [(3,.pointer (some ⟨b3,0,none⟩)),(6,.pointer (some ⟨b6,0,none⟩)),(9,.pointer (some ⟨b9,0,none⟩))]∧Ext w w'∧Blk w' b3 72 [.int .i64 s.From,.int .i64 s.To,.slice A l.length c,.slice s.Types.A s.Types.n s.Types.c]∧Blk w' b6 72 (encZ .zero)∧Blk w' b9 94 [.int .i64 a',.int .i64 o',.int .i64 0] ∧
     Own w' (b9+1) 94 3 encBk A l.length c l∧Own w' (b9+1) 3 1 encI s.Types.A s.Types.n s.Types.c z.Types∧JOk z.From z.To l a' o'∧joinL 5 z.Free a o=(l,a',o')∧l.length≤z.Free.length:=⟨_,rfl⟩
    refine CW.cutb K ?_ ?_
    ·refine CW.loop (fun u:Nat×List Block×Int×Int×Option Addr×Nat=>[(3,.pointer (some ⟨b3,0,none⟩)),(6,.pointer (some ⟨b6,0,none⟩)),(9,.pointer (some ⟨b9,0,none⟩))])
      (fun u w'=>Ext w w'∧Blk w' b3 72 [.int .i64 s.From,.int .i64 s.To,.slice u.2.2.2.2.1 u.2.1.length u.2.2.2.2.2,.slice s.Types.A s.Types.n s.Types.c]∧Blk w' b6 72 (encZ .zero)∧Blk w' b9 94 [.int .i64 u.2.2.1,.int .i64 u.2.2.2.1,.int .i64 0] ∧
       Own w' (b9+1) 94 3 encBk u.2.2.2.2.1 u.2.1.length u.2.2.2.2.2 u.2.1∧Own w' (b9+1) 3 1 encI s.Types.A s.Types.n s.Types.c z.Types∧JInv z a o u.1 u.2.1 u.2.2.1 u.2.2.2.1) (fun u=>(5-u.2.2.2.1).toNat) (5,z.Free,a,o,s.Free.A,s.Free.c)
      ⟨rfl,rfl,rfl,trivial⟩ ⟨hw,hb3,hb6,hb9,hX,hT,⟨hJ0,rfl,by simp only;omega,Nat.le_refl _⟩⟩ ?_
     clear hw hb3 hb6 hb9 hX hT hJ0
     rintro ⟨f,l,a',o',A,c⟩ w' ⟨hw,hb3,hb6,hb9,hX,hT,hJ⟩
     simp only at hb3 hb9 hX hJ ⊢
     obtain ⟨k1,k2,k3,k4,k5⟩:=hJ.ok.fit
     have hlen:=hJ.len
     have hp:=pw_le k1 k2
     by_cases ho4:o'<4
     ·obtain ⟨m1,m2,m3⟩:=beside_fit (by omega) k1 ho4 k5
      generalize hbes:beside a' o'=bes at m1 m2 m3
      have hfa:=found_any hJ.ok.ups hJ.ok.blk bes o'
      have cD:∀ w1,Ext w' w1→Ans Tryz.prog 126 [.agg (encZ ⟨s.From,s.To,⟨A,l.length,c⟩,s.Types⟩).toArray,.int .i64 bes] w1 fun v _=>v = .tuple #[.int .i64 (lbOf l bes:Int),.bool (foundA l bes)]:=fun w1 hx =>
       Zfind_ans ⟨s.From,s.To,⟨A,l.length,c⟩,s.Types⟩ l z.From z.To bes w1 (hX.sl.ext hx) hJ.ok.ups hJ.ok.blk o1 (by omega) (by simp only;omega) ⟨by omega,by omega⟩
      by_cases hlb:lbOf l bes<l.length∧(∀ h:lbOf l bes<l.length,(l[lbOf l bes]).At=bes∧(l[lbOf l bes]).Order=o')
      ·obtain ⟨hlb,hh⟩:=hlb
       obtain ⟨hat,hord⟩:=hh hlb
       have hfA:foundA l bes=true:=by unfold foundA;rw [dif_pos hlb];exact decide_eq_true hat
       have hfB:foundB l bes o'=true:=by unfold foundB;rw [dif_pos hlb];exact decide_eq_true ⟨hat,hord⟩
       rw [hfB] at hfa
       rw [hfA] at cD
       have her:=erase_without hJ.ok.ups hJ.ok.blk hlb hat hord
       have hA:=hX.sl.base
       generalize hgl:lbOf l bes=lb at *
       have hab:∀ x,x=beside a' o'→x=bes:=fun x e=>e.trans hbes
       repeat' (first|(first|refine CW.seq ?_|refine CW.region ?_|refine CW.block ?_|refine CW.condd_t rfl (by omega) ?_|refine CW.skip ?_)|(refine Post.seq ?_)|refine SW.nil ?_|refine SW.pure rfl rfl ?_|(show SW _ _ _ _ (⟨_,Op.fieldAddr _ _ _,_,_,_,none⟩::_) _ _;refine SW.st (st_field rfl) rfl ?_)|(show SW _ _ _ _ (⟨_,Op.load _ _,_,_,_,none⟩::_) _ _;refine SW.st (st_load rfl (hb9.cell rfl)) rfl ?_))
       (apply CW.quiet1 mixed;(· kernel_rfl);rotate_left;intro w1 hw1;replace hw:=Ext.trans hw hw1;replace hb3:=hb3.ext hw1;replace hb6:=hb6.ext hw1;replace hb9:=hb9.ext hw1;replace hX:=hX.ext hw1;replace hT:=hT.ext hw1;clear hw1;rotate_right)
       repeat' (first|(refine CW.seq ?_)|(refine Post.seq ?_)|refine SW.pure rfl rfl ?_|(show SW _ _ _ _ (⟨_,Op.fieldAddr _ _ _,_,_,_,none⟩::_) _ _;refine SW.st (st_field rfl) rfl ?_)|(show SW _ _ _ _ (⟨_,Op.load _ _,_,_,_,none⟩::_) _ _;first|refine SW.st (st_load rfl (hb9.cell rfl)) rfl ?_|refine SW.st (st_loads rfl rfl ((fun _ _=>hb3.cell))) rfl ?_)|(show SW _ _ _ _ (⟨_,Op.call ⟨.value (.func _),_,_⟩,_,_,_,none⟩::_) _ _;refine SW.qcall rfl rfl (fun w1 hw1=>(cD _ hw1)) ?_)|(refine SW.st (st_shl (r:=pw o') rfl rfl (by omega) (by omega) (by simp [pw]) (by omega) (by omega)) rfl ?_)|(refine SW.st ((st_beside a' o' rfl rfl rfl rfl ⟨by omega,by omega,k1,ho4,k5⟩).eq (congrArg (Value.int .i64) hbes)) rfl ?_)|exact SW.qnil rfl)
       (apply CW.quiet1 mixed;(· kernel_rfl);rotate_left;intro w1 hw1;replace hw:=Ext.trans hw hw1;replace hb3:=hb3.ext hw1;replace hb6:=hb6.ext hw1;replace hb9:=hb9.ext hw1;replace hX:=hX.ext hw1;replace hT:=hT.ext hw1;clear hw1;rotate_right)
       repeat' (first|(first|refine CW.seq ?_|refine CW.condn_f rfl (by omega) ?_|refine CW.skip ?_)|(refine Post.seq ?_)|(show SW _ _ _ _ (⟨_,_,_,_,_,some _⟩::_) _ _;refine SW.want rfl rfl ?_)|refine SW.pure rfl rfl ?_|(show SW _ _ _ _ (⟨_,Op.fieldAddr _ _ _,_,_,_,none⟩::_) _ _;refine SW.st (st_field rfl) rfl ?_)|(show SW _ _ _ _ (⟨_,Op.indexAddr _ _ _,_,_,_,none⟩::_) _ _;refine SW.st (st_indexN rfl rfl (by assumption) (by omega)) rfl ?_)|(show SW _ _ _ _ (⟨_,Op.load _ _,_,_,_,none⟩::_) _ _;first|refine SW.st (st_load rfl (hb9.cell rfl)) rfl ?_|refine SW.st (st_load rfl (hb3.cell rfl)) rfl ?_|refine SW.st (st_load rfl (hX.sl.fld hlb rfl)) rfl ?_)|exact SW.qnil rfl)
       refine CW.any 8 mixed (rb_tail (by kernel_rfl)) rfl fun w1 hw1 hRB => ?_
       replace hw:=Ext.trans hw hw1;replace hb3:=hb3.ext hw1;replace hb6:=hb6.ext hw1;replace hb9:=hb9.ext hw1;replace hX:=hX.ext hw1;replace hT:=hT.ext hw1;clear hw1
       refine SA.take 0 hRB rfl (by kernel_rfl) (by kernel_rfl) rfl ?_
       repeat ((show SW _ _ _ _ (⟨_,Op.fieldAddr _ _ _,_,_,_,none⟩::_) _ _;refine SW.st (st_field rfl) rfl ?_))
       refine SW.tknil ?_
       refine SA.take 1 hRB rfl (by kernel_rfl) (by kernel_rfl) rfl ?_
       repeat ((show SW _ _ _ _ (⟨_,Op.load _ _,_,_,_,none⟩::_) _ _;refine SW.st (st_load rfl (hb9.cell rfl)) rfl ?_))
       refine SW.tknil ?_
       refine SA.take 2 hRB rfl (by kernel_rfl) (by kernel_rfl) rfl ?_
       repeat ((show SW _ _ _ _ (⟨_,Op.fieldAddr _ _ _,_,_,_,none⟩::_) _ _;refine SW.st (st_field rfl) rfl ?_))
       refine SW.tknil ?_
       refine SA.take 3 hRB rfl (by kernel_rfl) (by kernel_rfl) rfl ?_
       repeat ((show SW _ _ _ _ (⟨_,Op.load _ _,_,_,_,none⟩::_) _ _;refine SW.st (st_load rfl (hb3.cell rfl)) rfl ?_))
       refine SW.tknil ?_
       refine SA.take 4 hRB rfl (by kernel_rfl) (by kernel_rfl) rfl ?_
       repeat (refine SW.pure rfl rfl ?_)
       refine SW.tknil ?_
       refine SA.take 5 hRB rfl (by kernel_rfl) (by kernel_rfl) rfl ?_
       repeat ((show SW _ _ _ _ (⟨_,Op.indexAddr _ _ _,_,_,_,none⟩::_) _ _;refine SW.st (st_indexN rfl rfl (by assumption) (by omega)) rfl ?_))
       refine SW.tknil ?_
       refine SA.take 6 hRB rfl (by kernel_rfl) (by kernel_rfl) rfl ?_
       repeat ((show SW _ _ _ _ (⟨_,Op.fieldAddr _ _ _,_,_,_,none⟩::_) _ _;refine SW.st (st_field rfl) rfl ?_))
       refine SW.tknil ?_
       refine SA.take 7 hRB rfl (by kernel_rfl) (by kernel_rfl) rfl ?_
       repeat ((show SW _ _ _ _ (⟨_,Op.load _ _,_,_,_,none⟩::_) _ _;refine SW.st (st_load rfl (hX.sl.fld hlb rfl)) rfl ?_))
       refine SW.tknil ?_
       refine SA.done (by kernel_rfl) ?_
       repeat' (first|(show SW _ _ _ _ (⟨_,Op.fieldAddr _ _ _,_,_,_,none⟩::_) _ _;refine SW.st (st_field rfl) rfl ?_)|(refine SW.st (st_min rfl rfl) rfl ?_))
       refine SW.storeB (i:=0) hb9 rfl rfl rfl rfl fun w5 hb9' hg => ?_
       have hG:=hb9.gr hg
       replace hw:=hw.own hb9w hg
       replace hX:=hX.grown hg (.inr (fun e=>by have:=hX.row_ge _ e;omega))
       (replace hb3:=hb3.grT hG rfl;replace hb6:=hb6.grT hG rfl;replace hT:=hT.grT hG rfl)
       replace hb9:=hb9'
       clear hb9' hg hG
       repeat' (first|(first|refine CW.seq ?_|refine CW.region ?_)|(first|refine Post.seq ?_|refine Post.np ?_)|refine SW.nil ?_|(show SW _ _ _ _ (⟨_,Op.fieldAddr _ _ _,_,_,_,none⟩::_) _ _;refine SW.st (st_field rfl) rfl ?_)|(show SW _ _ _ _ (⟨_,Op.binOp _ _ _ _ _,_,_,_,none⟩::_) _ _;refine SW.st (st_add rfl rfl (by omega) (by omega)) rfl ?_)|(show SW _ _ _ _ (⟨_,Op.load _ _,_,_,_,none⟩::_) _ _;refine SW.st (st_load rfl (hb9.cell rfl)) rfl ?_))
       refine SW.storeB (i:=1) hb9 rfl rfl rfl rfl fun w5 hb9' hg => ?_
       have hG:=hb9.gr hg
       replace hw:=hw.own hb9w hg
       replace hX:=hX.grown hg (.inr (fun e=>by have:=hX.row_ge _ e;omega))
       (replace hb3:=hb3.grT hG rfl;replace hb6:=hb6.grT hG rfl;replace hT:=hT.grT hG rfl)
       replace hb9:=hb9'
       clear hb9' hg hG
       repeat' (first|(refine CW.region ?_)|(refine Post.seq ?_)|refine SW.nil ?_|refine SW.pure rfl rfl ?_|(show SW _ _ _ _ (⟨_,Op.fieldAddr _ _ _,_,_,_,none⟩::_) _ _;refine SW.st (st_field rfl) rfl ?_)|(show SW _ _ _ _ (⟨_,Op.binOp _ _ _ _ _,_,_,_,none⟩::_) _ _;refine SW.st (st_add rfl rfl (by omega) (by omega)) rfl ?_)|(show SW _ _ _ _ (⟨_,Op.load _ _,_,_,_,none⟩::_) _ _;refine SW.st (st_load rfl (hb3.cell rfl)) rfl ?_))
       refine SW.callX rfl rfl (DeleteBlock_ans A l.length c _ l _ hX lb hlb (by omega) (by have:=hb9.lt;omega)) fun v w6 hv => ?_
       obtain ⟨rfl,hX',hg⟩:=hv
       have hG:=hX.gr hg
       replace hw:=ext_grown hw hg (Nat.le_trans hb9w (Nat.le_succ _)) hX.row_ge
       replace hb9:=hb9.grown hg (fun e=>by have:=hX.row_ge _ e.symm;omega)
       (replace hb3:=hb3.grT hG rfl;replace hb6:=hb6.grT hG rfl;replace hT:=hT.grT hG rfl)
       clear hg hG
       have hl1:l.length-1=(l.eraseIdx lb).length:=by rw [List.length_eraseIdx_of_lt hlb]
       rw [hl1] at hX'
       rw [hl1]
       repeat' ((show SW _ _ _ _ (⟨_,Op.fieldAddr _ _ _,_,_,_,none⟩::_) _ _;refine SW.st (st_field rfl) rfl ?_))
       refine SW.storeB (i:=2) hb3 rfl rfl rfl rfl fun w7 hb3' hg => ?_
       have hG:=hb3.gr hg
       replace hw:=hw.own hb3b hg
       replace hb6:=hb6.grown hg (by simpa using hne36.symm)
       (replace hb9:=hb9.grT hG rfl;replace hX':=hX'.grT hG rfl;replace hT:=hT.grT hG rfl)
       repeat' (first|(refine Post.blk ?_)|refine SW.nil ?_)
       obtain ⟨f',hJ'⟩:=hJ.next o1 ho4 (by rw [hbes];exact hfa)
       rw [hbes,← her] at hJ'
       refine Post.again (f',l.eraseIdx lb,min a' bes,o'+1,A,c) ⟨rfl,rfl,rfl,trivial⟩ (by simp only;omega) ⟨hw,hb3',hb6,?_,hX',hT,hJ'⟩
       rw [hat] at hb9
       exact hb9
      ·have hfB:foundB l bes o'=false:=by
        unfold foundB
        by_cases h:lbOf l bes<l.length
        ·rw [dif_pos h];exact decide_eq_false (fun hh=>hlb ⟨h,fun _=>hh⟩)
        ·rw [dif_neg h]
       rw [hfB] at hfa
       have hst:=hJ.stop (.inr (by rw [hbes];exact hfa))
       have hKK:∀ w1,Ext w w1→Blk w1 b3 72 [.int .i64 s.From,.int .i64 s.To,.slice A l.length c,.slice s.Types.A s.Types.n s.Types.c]→Blk w1 b6 72 (encZ .zero)→Blk w1 b9 94 [.int .i64 a',.int .i64 o',.int .i64 0]→Own w1 (b9+1) 94 3 encBk A l.length c l→Own w1 (b9+1) 3 1 encI s.Types.A s.Types.n s.Types.c z.Types → ∀ L',subEnv L' [(3,.pointer (some ⟨b3,0,none⟩)),(6,.pointer (some ⟨b6,0,none⟩)),(9,.pointer (some ⟨b9,0,none⟩))]→K L' w1:=fun w1 x1 x2 x3 x4 x5 x6 L' x7=>by
        rw [hK];exact ⟨l,a',o',A,c,x7,x1,x2,x3,x4,x5,x6,hJ.ok,hst,hJ.len⟩
       by_cases hl1:lbOf l bes<l.length
       ·have hA:=hX.sl.base
        by_cases hat:(l[lbOf l bes]).At=bes
        ·have hord : ¬ (l[lbOf l bes]).Order=o':=fun h=>hlb ⟨hl1,fun _=>⟨hat,h⟩⟩
         have hfA:foundA l bes=true:=by unfold foundA;rw [dif_pos hl1];exact decide_eq_true hat
         rw [hfA] at cD
         generalize hgl:lbOf l bes=lb at *
         repeat' (first|(first|refine CW.seq ?_|refine CW.region ?_|refine CW.block ?_|refine CW.condd_t rfl (by omega) ?_|refine CW.condn_t rfl (by omega) ?_|refine CW.skip ?_|refine CW.exit ?_|(apply CW.quiet1 mixed;(· kernel_rfl);rotate_left;intro w1 hw1;replace hw:=Ext.trans hw hw1;replace hb3:=hb3.ext hw1;replace hb6:=hb6.ext hw1;replace hb9:=hb9.ext hw1;replace hX:=hX.ext hw1;replace hT:=hT.ext hw1;clear hw1;rotate_right))|(first|refine Post.seq ?_|refine Post.seq_exit ?_|refine Post.hit ?_|refine Post.pass rfl ?_|refine Post.again_exit ?_)|refine SW.nil ?_|(show SW _ _ _ _ (⟨_,_,_,_,_,some _⟩::_) _ _;refine SW.want rfl rfl ?_)|refine SW.pure rfl rfl ?_|(show SW _ _ _ _ (⟨_,Op.fieldAddr _ _ _,_,_,_,none⟩::_) _ _;refine SW.st (st_field rfl) rfl ?_)|(show SW _ _ _ _ (⟨_,Op.indexAddr _ _ _,_,_,_,none⟩::_) _ _;refine SW.st (st_indexN rfl rfl (by assumption) (by omega)) rfl ?_)|(show SW _ _ _ _ (⟨_,Op.load _ _,_,_,_,none⟩::_) _ _;first|refine SW.st (st_load rfl (hb9.cell rfl)) rfl ?_|refine SW.st (st_loads rfl rfl ((fun _ _=>hb3.cell))) rfl ?_|refine SW.st (st_load rfl (hb3.cell rfl)) rfl ?_|refine SW.st (st_load rfl (hX.sl.fld hl1 rfl)) rfl ?_)|(show SW _ _ _ _ (⟨_,Op.call ⟨.value (.func _),_,_⟩,_,_,_,none⟩::_) _ _;refine SW.qcall rfl rfl (fun w1 hw1=>(cD _ hw1)) ?_)|(refine SW.st (st_shl (r:=pw o') rfl rfl (by omega) (by omega) (by simp [pw]) (by omega) (by omega)) rfl ?_)|(refine SW.st ((st_beside a' o' rfl rfl rfl rfl ⟨by omega,by omega,k1,ho4,k5⟩).eq (congrArg (Value.int .i64) hbes)) rfl ?_)|exact SW.qnil rfl)
         exact Post.cutn (K:=K) (hKK _ hw hb3 hb6 hb9 hX hT _ ⟨rfl,rfl,rfl,trivial⟩)
        ·have hfA:foundA l bes=false:=by unfold foundA;rw [dif_pos hl1];exact decide_eq_false hat
         rw [hfA] at cD
         generalize hgl:lbOf l bes=lb at *
         repeat' (first|(first|refine CW.seq ?_|refine CW.region ?_|refine CW.block ?_|refine CW.condtr rfl (by with_reducible rfl) ?_|refine CW.condd_t rfl (by omega) ?_|refine CW.skip ?_|refine CW.exit ?_|(apply CW.quiet1 mixed;(· kernel_rfl);rotate_left;intro w1 hw1;replace hw:=Ext.trans hw hw1;replace hb3:=hb3.ext hw1;replace hb6:=hb6.ext hw1;replace hb9:=hb9.ext hw1;replace hX:=hX.ext hw1;replace hT:=hT.ext hw1;clear hw1;rotate_right))|(first|refine Post.seq ?_|refine Post.seq_exit ?_|refine Post.hit ?_|refine Post.pass rfl ?_|refine Post.again_exit ?_)|refine SW.nil ?_|(show SW _ _ _ _ (⟨_,_,_,_,_,some _⟩::_) _ _;refine SW.skip rfl rfl rfl rfl ?_)|refine SW.pure rfl rfl ?_|(show SW _ _ _ _ (⟨_,Op.fieldAddr _ _ _,_,_,_,none⟩::_) _ _;refine SW.st (st_field rfl) rfl ?_)|(show SW _ _ _ _ (⟨_,Op.load _ _,_,_,_,none⟩::_) _ _;first|refine SW.st (st_load rfl (hb9.cell rfl)) rfl ?_|refine SW.st (st_loads rfl rfl ((fun _ _=>hb3.cell))) rfl ?_)|(show SW _ _ _ _ (⟨_,Op.call ⟨.value (.func _),_,_⟩,_,_,_,none⟩::_) _ _;refine SW.qcall rfl rfl (fun w1 hw1=>(cD _ hw1)) ?_)|(refine SW.st (st_shl (r:=pw o') rfl rfl (by omega) (by omega) (by simp [pw]) (by omega) (by omega)) rfl ?_)|(refine SW.st ((st_beside a' o' rfl rfl rfl rfl ⟨by omega,by omega,k1,ho4,k5⟩).eq (congrArg (Value.int .i64) hbes)) rfl ?_)|exact SW.qnil rfl)
         exact Post.cutn (K:=K) (hKK _ hw hb3 hb6 hb9 hX hT _ ⟨rfl,rfl,rfl,trivial⟩)
       ·have hfA:foundA l bes=false:=by unfold foundA;rw [dif_neg hl1]
        rw [hfA] at cD
        generalize hgl:lbOf l bes=lb at *
        repeat' (first|(first|refine CW.seq ?_|refine CW.region ?_|refine CW.block ?_|refine CW.condtr rfl (by with_reducible rfl) ?_|refine CW.condd_t rfl (by omega) ?_|refine CW.skip ?_|refine CW.exit ?_|(apply CW.quiet1 mixed;(· kernel_rfl);rotate_left;intro w1 hw1;replace hw:=Ext.trans hw hw1;replace hb3:=hb3.ext hw1;replace hb6:=hb6.ext hw1;replace hb9:=hb9.ext hw1;replace hX:=hX.ext hw1;replace hT:=hT.ext hw1;clear hw1;rotate_right))|(first|refine Post.seq ?_|refine Post.seq_exit ?_|refine Post.hit ?_|refine Post.pass rfl ?_|refine Post.again_exit ?_)|refine SW.nil ?_|(show SW _ _ _ _ (⟨_,_,_,_,_,some _⟩::_) _ _;refine SW.skip rfl rfl rfl rfl ?_)|refine SW.pure rfl rfl ?_|(show SW _ _ _ _ (⟨_,Op.fieldAddr _ _ _,_,_,_,none⟩::_) _ _;refine SW.st (st_field rfl) rfl ?_)|(show SW _ _ _ _ (⟨_,Op.load _ _,_,_,_,none⟩::_) _ _;first|refine SW.st (st_load rfl (hb9.cell rfl)) rfl ?_|refine SW.st (st_loads rfl rfl ((fun _ _=>hb3.cell))) rfl ?_)|(show SW _ _ _ _ (⟨_,Op.call ⟨.value (.func _),_,_⟩,_,_,_,none⟩::_) _ _;refine SW.qcall rfl rfl (fun w1 hw1=>(cD _ hw1)) ?_)|(refine SW.st (st_shl (r:=pw o') rfl rfl (by omega) (by omega) (by simp [pw]) (by omega) (by omega)) rfl ?_)|(refine SW.st ((st_beside a' o' rfl rfl rfl rfl ⟨by omega,by omega,k1,ho4,k5⟩).eq (congrArg (Value.int .i64) hbes)) rfl ?_)|exact SW.qnil rfl)
        exact Post.cutn (K:=K) (hKK _ hw hb3 hb6 hb9 hX hT _ ⟨rfl,rfl,rfl,trivial⟩)
     ·repeat' (first|(first|refine CW.seq ?_|refine CW.region ?_|refine CW.condd_f rfl (by omega) ?_|refine CW.exit ?_)|(first|refine Post.seq ?_|refine Post.seq_exit ?_|refine Post.hit ?_|refine Post.again_exit ?_)|refine SW.nil ?_|refine SW.pure rfl rfl ?_|(show SW _ _ _ _ (⟨_,Op.fieldAddr _ _ _,_,_,_,none⟩::_) _ _;refine SW.st (st_field rfl) rfl ?_)|(show SW _ _ _ _ (⟨_,Op.load _ _,_,_,_,none⟩::_) _ _;refine SW.st (st_load rfl (hb9.cell rfl)) rfl ?_))
      exact Post.cutn (K:=K) (by rw [hK];exact ⟨l,a',o',A,c,⟨rfl,rfl,rfl,trivial⟩,hw,hb3,hb6,hb9,hX,hT,hJ.ok,hJ.stop (.inl ho4),hJ.len⟩)
    ·clear hw hb3 hb6 hb9 hX hT hJ0
     subst hK
     rintro L' w' ⟨l,a',o',A,c,hsub,hw,hb3,hb6,hb9,hX,hT,hJ,hjoin,hlen⟩
     refine Post.sub hsub ?_
     obtain ⟨k1,k2,k3,k4,k5⟩:=hJ.fit
     obtain ⟨k,hk,hkl⟩:=typeIdx hz k3 k4
     have hkn:k<s.Types.n:=by omega
     have hbv:=backV_0 hq hfit hov hjoin (t:=z.Types[k]) (by rw [hk];simp [List.getD_eq_getElem?_getD,List.getElem?_eq_getElem hkl])
     rw [hbv]
     have hs18:l.length≤1000000000000000000:=by omega
     have hA:=hT.sl.base
     have eF2:s.From=z.From:=sF
     repeat' (first|(first|refine CW.seq ?_|refine CW.region ?_)|(refine Post.seq ?_)|(show SW _ _ _ _ (⟨_,Op.fieldAddr _ _ _,_,_,_,none⟩::_) _ _;refine SW.st (st_field rfl) rfl ?_)|(show SW _ _ _ _ (⟨_,Op.binOp _ _ _ _ _,_,_,_,none⟩::_) _ _;first|refine SW.st (st_sub rfl rfl (by omega) (by omega)) rfl ?_|refine SW.st (st_quo rfl rfl (by omega) (by omega) (by omega)) rfl ?_)|(show SW _ _ _ _ (⟨_,Op.indexAddr _ _ _,_,_,_,none⟩::_) _ _;refine SW.st (st_indexI (k) rfl rfl (by assumption) (by omega) (by omega)) rfl ?_)|(show SW _ _ _ _ (⟨_,Op.load _ _,_,_,_,none⟩::_) _ _;first|refine SW.st (st_load rfl (hb9.cell rfl)) rfl ?_|refine SW.st (st_load rfl (hb3.cell rfl)) rfl ?_|refine SW.st (st_load rfl (hT.sl.one hkn rfl)) rfl ?_))
     refine SW.storeB (i:=2) hb9 rfl rfl rfl rfl fun w5 hb9' hg => ?_
     have hG:=hb9.gr hg
     replace hw:=hw.own hb9w hg
     replace hX:=hX.grown hg (.inr (fun e=>by have:=hX.row_ge _ e;omega))
     (replace hb3:=hb3.grT hG rfl;replace hb6:=hb6.grT hG rfl;replace hT:=hT.grT hG rfl)
     replace hb9:=hb9'
     clear hb9' hg hG
     repeat' (first|(first|refine CW.seq ?_|refine CW.region ?_)|(refine Post.seq ?_)|refine SW.nil ?_|refine SW.pure rfl rfl ?_|(show SW _ _ _ _ (⟨_,Op.fieldAddr _ _ _,_,_,_,none⟩::_) _ _;refine SW.st (st_field rfl) rfl ?_)|(show SW _ _ _ _ (⟨_,Op.load _ _,_,_,_,none⟩::_) _ _;first|refine SW.st (st_load rfl (hb9.cell rfl)) rfl ?_|refine SW.st (st_loads rfl rfl ((fun _ _=>hb3.cell))) rfl ?_|refine SW.st (st_load rfl (hb3.cell rfl)) rfl ?_|refine SW.st (st_loads rfl rfl ((fun _ _=>hb9.cell))) rfl ?_)|(show SW _ _ _ _ (⟨_,Op.call ⟨.value (.func _),_,_⟩,_,_,_,none⟩::_) _ _;(refine SW.call rfl rfl (Zfind_ans ⟨s.From,s.To,⟨A,l.length,c⟩,s.Types⟩ l z.From z.To a' _ hX.sl hJ.ups hJ.blk o1 (by omega) hs18 ⟨by omega,by omega⟩) ?_;intro v w1 hw1 hv;subst hv;replace hw:=Ext.trans hw hw1;replace hb3:=hb3.ext hw1;replace hb6:=hb6.ext hw1;replace hb9:=hb9.ext hw1;replace hX:=hX.ext hw1;replace hT:=hT.ext hw1;clear hw1)))
     have hlt:=hX.lt_size
     refine SW.build1 rfl rfl rfl rfl rfl fun vb w6 hXX hvb hvB => ?_
     (replace hw:=Ext.trans hw hXX;replace hb3:=hb3.ext hXX;replace hb6:=hb6.ext hXX;replace hb9:=hb9.ext hXX;replace hX:=hX.ext hXX;replace hT:=hT.ext hXX)
     skip
     refine SW.callX rfl rfl (InsertBlock_ans A l.length c _ l _ hX (lbOf l a') (lb_le l a') ⟨a',o',z.Types[k]⟩ vb hvB (fun e=>by have:=hlt _ e;omega) (Nat.le_trans (Nat.mul_le_mul_right 24 (by omega)) hf) (by have:=hb9.lt;omega)) fun v w7 hv => ?_
     obtain ⟨A2,c2,rfl,hX',hg⟩:=hv
     have hG:=hX.gr hg
     replace hw:=ext_grown hw hg (Nat.le_trans hb9w (Nat.le_succ _)) hX.row_ge
     replace hb9:=hb9.grown hg (fun e=>by have:=hX.row_ge _ e.symm;omega)
     (replace hb3:=hb3.grT hG rfl;replace hb6:=hb6.grT hG rfl;replace hT:=hT.grT hG rfl)
     clear hg hG
     repeat' ((show SW _ _ _ _ (⟨_,Op.fieldAddr _ _ _,_,_,_,none⟩::_) _ _;refine SW.st (st_field rfl) rfl ?_))
     refine SW.storeB (i:=2) hb3 rfl rfl rfl rfl fun w8 hb3' hg => ?_
     have hG:=hb3.gr hg
     replace hw:=hw.own hb3b hg
     replace hb6:=hb6.grown hg (by simpa using hne36.symm)
     (replace hb9:=hb9.grT hG rfl;replace hX':=hX'.grT hG rfl;replace hT:=hT.grT hG rfl)
     clear hg hG
     repeat' (first|(first|refine CW.seq ?_|refine CW.region ?_)|(refine Post.seq ?_)|refine SW.nil ?_|(show SW _ _ _ _ (⟨_,Op.load _ _,_,_,_,none⟩::_) _ _;refine SW.st (st_loads rfl rfl ((fun _ _=>hb3'.cell))) rfl ?_))
     refine SW.storeAgg hb6 rfl rfl rfl rfl (one_z ⟨s.From,s.To,⟨A2,l.length+1,c2⟩,s.Types⟩) fun w9 hR2 hg => ?_
     have hG:=hb6.gr hg
     replace hw:=hw.own hb6w hg
     (replace hX':=hX'.grT hG rfl;replace hT:=hT.grT hG rfl)
     repeat' (first|(refine CW.ret ?_)|(refine Post.seq ?_)|refine SW.nil ?_|refine SW.pure rfl rfl ?_)
     exact Post.ret2c rfl rfl rfl hR2 rfl ⟨_,rfl,hw,⟨s.From,s.To,⟨A2,l.length+1,c2⟩,s.Types⟩,rfl,sF,sT,hX'.low (by omega),hT.low (by omega)⟩
   ·rw [hov] at cC
    rw [backV_5 hq hfit hov]
    repeat' (first|(first|refine CW.seq ?_|refine CW.region ?_|refine CW.condtr rfl (by with_reducible rfl) ?_|refine CW.condf rfl ?_|refine CW.skip ?_)|(refine Post.seq ?_)|refine SW.nil ?_|refine SW.pure rfl rfl ?_|(show SW _ _ _ _ (⟨_,Op.fieldAddr _ _ _,_,_,_,none⟩::_) _ _;refine SW.st (st_field rfl) rfl ?_)|(show SW _ _ _ _ (⟨_,Op.build _ _,_,_,_,none⟩::_) _ _;refine SW.st (st_build rfl rfl) rfl ?_)|(show SW _ _ _ _ (⟨_,Op.load _ _,_,_,_,none⟩::_) _ _;first|refine SW.st (st_loads rfl rfl ((fun _ _=>hb3.cell))) rfl ?_|refine SW.st (st_load rfl (hb3.cell rfl)) rfl ?_|refine SW.st (st_loads rfl rfl ((fun _ _=>hb9.cell))) rfl ?_)|(show SW _ _ _ _ (⟨_,Op.call ⟨.value (.func _),_,_⟩,_,_,_,none⟩::_) _ _;first|(refine SW.call rfl rfl (cF _) ?_;intro v w1 hw1 hv;subst hv;replace hw:=Ext.trans hw hw1;replace hb3:=hb3.ext hw1;replace hb6:=hb6.ext hw1;replace hb9:=hb9.ext hw1;clear hw1)|(refine SW.call rfl rfl (cC _ hw hb9) ?_;intro v w1 hw1 hv;subst hv;replace hw:=Ext.trans hw hw1;replace hb3:=hb3.ext hw1;replace hb6:=hb6.ext hw1;replace hb9:=hb9.ext hw1;clear hw1))|(refine SW.st (st_func (vs:=[.pointer (some ⟨b9,0,none⟩)]) rfl) rfl ?_))
    refine SW.storeAgg hb6 rfl rfl rfl rfl (one_z .zero) fun w5 hR2 hg => ?_
    replace hw:=hw.own hb6w hg
    repeat' (first|(refine CW.ret ?_)|(first|refine Post.seq ?_|refine Post.seq_ret ?_)|refine SW.nil ?_|refine SW.pure rfl rfl ?_)
    exact Post.ret2c rfl rfl rfl hR2 rfl ⟨_,rfl,hw,.zero,rfl,OwnZ.zero _ _⟩
  ·rw [decide_eq_false hfit] at cF
   rw [backV_1 hq hfit]
   repeat' (first|(first|refine CW.seq ?_|refine CW.region ?_|refine CW.condt rfl ?_)|(refine Post.seq ?_)|refine SW.nil ?_|refine SW.pure rfl rfl ?_|(show SW _ _ _ _ (⟨_,Op.build _ _,_,_,_,none⟩::_) _ _;refine SW.st (st_build rfl rfl) rfl ?_)|(show SW _ _ _ _ (⟨_,Op.load _ _,_,_,_,none⟩::_) _ _;first|refine SW.st (st_loads rfl rfl ((fun _ _=>hb3.cell))) rfl ?_|refine SW.st (st_loads rfl rfl ((fun _ _=>hb9.cell))) rfl ?_)|(show SW _ _ _ _ (⟨_,Op.call ⟨.value (.func _),_,_⟩,_,_,_,none⟩::_) _ _;(refine SW.call rfl rfl (cF _) ?_;intro v w1 hw1 hv;subst hv;replace hw:=Ext.trans hw hw1;replace hb3:=hb3.ext hw1;replace hb6:=hb6.ext hw1;replace hb9:=hb9.ext hw1;clear hw1)))
   refine SW.storeAgg hb6 rfl rfl rfl rfl (one_z .zero) fun w5 hR2 hg => ?_
   replace hw:=hw.own hb6w hg
   repeat' (first|(refine CW.ret ?_)|(first|refine Post.seq ?_|refine Post.seq_ret ?_)|refine SW.nil ?_|refine SW.pure rfl rfl ?_)
   exact Post.ret2c rfl rfl rfl hR2 rfl ⟨_,rfl,hw,.zero,rfl,OwnZ.zero _ _⟩
open Go.RowKit
theorem JOk.ne_at {f t:Int} {l:List Block} {a o:Int} (h:JOk f t l a o) : ∀ x∈l,x.At≠a:=fun x hx e=>by
 have h1:=h.dis x hx
 have h2:=(h.blk x hx).1
 have:=pw_le h2.1 h2.2.1
 have:=pw_le h.fit.1 h.fit.2.1
 omega
set_option maxHeartbeats 8000000 in
theorem BackOf_ans (r:ZRow) (z:Zone) (a o:Int) (w:World) (hr:RdZ w r z) (hf:(r.Free.n+1)*24≤140737488355328) (ht:r.Types.n*8≤140737488355328) (h1 : -9223372036854775808≤r.From∧r.From≤9223372036854775807) (h2 : -9223372036854775808≤r.To∧r.To≤9223372036854775807) :
  Ans Tryz.prog 115 [.agg (encZ r).toArray,.int .i64 a,.int .i64 o] w (ZoneOut w.heap.size (backV z a o)):=by
 refine ans_of Tryz.func115 rfl Tryz.ntmps115 rfl ?_
 refine CW.seq (CW.region (SW.box rfl rfl fun b3 w1 hw hb3b hb3 => ?_))
 refine SW.alloc rfl fun b6 w2 hw2 hb6b hb6 => ?_
 have hb6w:w.heap.size≤b6:=Nat.le_trans hw.size hb6b
 (replace hw:=Ext.trans hw hw2;replace hb3:=hb3.ext hw2)
 have eF:=hr.from_
 have eT:=hr.to_
 have hFl:=hr.free.len
 have hTl:=hr.types.len
 obtain ⟨q,hq⟩ : ∃ q,zoneB z=q:=⟨_,rfl⟩
 have c1:∀ w',Ext w w'→Ans Tryz.prog 100 [.agg (encZ r).toArray] w' fun v _=>v = .bool q:=fun w' h=>by
  have:=ZoneMay_ans r z w' (hr.ext h) (by omega) (by omega) h1 h2
  rwa [hq] at this
 cases q
 ·rw [backV_8 hq]
  repeat' (first|(first|refine CW.seq ?_|refine CW.region ?_|refine CW.condt rfl ?_)|(refine Post.seq ?_)|refine SW.nil ?_|refine SW.pure rfl rfl ?_|(show SW _ _ _ _ (⟨_,Op.build _ _,_,_,_,none⟩::_) _ _;refine SW.st (st_build rfl rfl) rfl ?_)|(show SW _ _ _ _ (⟨_,Op.load _ _,_,_,_,none⟩::_) _ _;refine SW.st (st_loads rfl rfl ((fun _ _=>hb3.cell))) rfl ?_)|(show SW _ _ _ _ (⟨_,Op.call ⟨.value (.func _),_,_⟩,_,_,_,none⟩::_) _ _;(refine SW.call rfl rfl (c1 _ hw) ?_;intro v w1 hw1 hv;subst hv;replace hw:=Ext.trans hw hw1;replace hb3:=hb3.ext hw1;replace hb6:=hb6.ext hw1;clear hw1)))
  refine SW.storeAgg hb6 rfl rfl rfl rfl (one_z .zero) fun w5 hR2 hg => ?_
  replace hw:=hw.own hb6w hg
  repeat' (first|(refine CW.ret ?_)|(first|refine Post.seq ?_|refine Post.seq_ret ?_)|refine SW.nil ?_|refine SW.pure rfl rfl ?_)
  exact Post.ret2c rfl rfl rfl hR2 rfl ⟨_,rfl,hw,.zero,rfl,OwnZ.zero _ _⟩
 ·have hz:=zoneB_iff.1 hq
  obtain ⟨o1,o2,o3,o4,o5⟩:=hz.ok
  have cF:∀ w',Ans Tryz.prog 123 [.agg (encZ r).toArray,.int .i64 a,.int .i64 o] w' fun v _=>v = .bool (decide (fitsZ z.From z.To a o)):=fun w'=>by
   have:=blockMay_ans r a o w' ⟨by omega,by omega⟩ ⟨by omega,by omega⟩
   rwa [eF,eT] at this
  by_cases hfit:fitsZ z.From z.To a o
  ·rw [decide_eq_true hfit] at cF
   obtain ⟨f1,f2,f3,f4,f5⟩:=id hfit
   have hbk:∀ b∈z.Free,blkOk z.From z.To b:=fun b hb=>by
    obtain ⟨i,hi,rfl⟩:=List.getElem_of_mem hb
    exact hz.blk i hi
   have cC:∀ w',Ext w w'→Ans Tryz.prog 102 [.slice r.Free.A r.Free.n r.Free.c,.int .i64 a,.int .i64 o] w' fun v _=>v = .bool (overB z.Free a o):=fun w' hx =>
    overlaps_ans _ _ _ _ z.From z.To a o _ (hr.free.ext hx) hbk o1 (by omega) (by omega) ⟨by omega,by omega⟩ ⟨f1,f2⟩
   cases hov:overB z.Free a o
   ·rw [hov] at cC
    have hJ0:=over_dis (f:=0) (t:=0) hz hfit hov
    repeat' (first|(first|refine CW.seq ?_|refine CW.region ?_|refine CW.condfr rfl (by with_reducible rfl) ?_|refine CW.condf rfl ?_|refine CW.skip ?_)|(refine Post.seq ?_)|refine SW.nil ?_|refine SW.pure rfl rfl ?_|(show SW _ _ _ _ (⟨_,Op.fieldAddr _ _ _,_,_,_,none⟩::_) _ _;refine SW.st (st_field rfl) rfl ?_)|(show SW _ _ _ _ (⟨_,Op.load _ _,_,_,_,none⟩::_) _ _;first|refine SW.st (st_loads rfl rfl ((fun _ _=>hb3.cell))) rfl ?_|refine SW.st (st_load rfl (hb3.cell rfl)) rfl ?_)|(show SW _ _ _ _ (⟨_,Op.call ⟨.value (.func _),_,_⟩,_,_,_,none⟩::_) _ _;first|(refine SW.call rfl rfl (c1 _ hw) ?_;intro v w1 hw1 hv;subst hv;replace hw:=Ext.trans hw hw1;replace hb3:=hb3.ext hw1;replace hb6:=hb6.ext hw1;clear hw1)|(refine SW.call rfl rfl (cF _) ?_;intro v w1 hw1 hv;subst hv;replace hw:=Ext.trans hw hw1;replace hb3:=hb3.ext hw1;replace hb6:=hb6.ext hw1;clear hw1)|(refine SW.call rfl rfl (cC _ hw) ?_;intro v w1 hw1 hv;subst hv;replace hw:=Ext.trans hw hw1;replace hb3:=hb3.ext hw1;replace hb6:=hb6.ext hw1;clear hw1)))
    refine SW.call rfl rfl (ZoneCopy_ans r z _ (hr.ext hw) (by omega) ht) fun v w4 hw4 hv => ?_
    obtain ⟨s,rfl,hs⟩:=hv
    replace hs:=hs.low hw.size
    (replace hw:=Ext.trans hw hw4;replace hb3:=hb3.ext hw4;replace hb6:=hb6.ext hw4)
    clear c1 cC cF
    have hne6:=hb6.lt
    have hne3:=hb3.lt
    refine SW.alloc rfl fun b8 w1 hw1 hb8b hb8 => ?_
    skip
    refine SW.storeAgg hb8 rfl rfl rfl rfl (one_z s) fun w2 hb8' hg => ?_
    have hXX:=hw1.own hb8b hg
    have hb8w:w.heap.size≤b8:=Nat.le_trans hw.size hb8b
    replace hw:=Ext.trans hw hXX
    replace hb3:=hb3.ext hXX
    replace hb6:=hb6.ext hXX
    replace hs:=hs.ext hXX
    replace hb8:=hb8'
    clear hb8' hw1 hg hXX
    have hne68:b6≠b8:=by omega
    have hne38:b3≠b8:=by omega
    repeat' (first|(first|refine CW.seq ?_|refine CW.block ?_)|(refine Post.seq ?_)|refine SW.nil ?_)
    have es:s.Free.n=z.Free.length:=by have:=hs.free.sl.len;omega
    have hX:=hs.free
    have hT:=hs.types
    rw [es] at hX
    have eq1:s=⟨s.From,s.To,⟨s.Free.A,z.Free.length,s.Free.c⟩,s.Types⟩:=by rw [← es]
    rw [eq1] at hb8
    have sF:=hs.from_
    have sT:=hs.to_
    clear hs
    obtain ⟨K,hK⟩ : ∃ K:Env→World→Prop,K=fun L' w' => ∃ l a' o' A c,subEnv L' [(1,.int .i64 a'),(2,.int .i64 o'),(3,.pointer (some ⟨b3,0,none⟩)),(6,.pointer (some ⟨b6,0,none⟩)),(8,.pointer (some ⟨b8,0,none⟩))]∧Ext w w'∧Blk w' b3 72 (encZ r)∧Blk w' b6 72 (encZ .zero)∧Blk w' b8 72 [.int .i64 s.From,.int .i64 s.To,.slice A l.length c,.slice s.Types.A s.Types.n s.Types.c] ∧
     Own w' w.heap.size 94 3 encBk A l.length c l∧Own w' w.heap.size 3 1 encI s.Types.A s.Types.n s.Types.c z.Types∧JOk z.From z.To l a' o'∧joinL 5 z.Free a o=(l,a',o')∧l.length≤z.Free.length:=⟨_,rfl⟩
    refine CW.cutb K ?_ ?_
    ·refine CW.loop (fun u:Nat×List Block×Int×Int×Option Addr×Nat=>[(1,.int .i64 u.2.2.1),(2,.int .i64 u.2.2.2.1),(3,.pointer (some ⟨b3,0,none⟩)),(6,.pointer (some ⟨b6,0,none⟩)),(8,.pointer (some ⟨b8,0,none⟩))])
      (fun u w'=>Ext w w'∧Blk w' b3 72 (encZ r)∧Blk w' b6 72 (encZ .zero)∧Blk w' b8 72 [.int .i64 s.From,.int .i64 s.To,.slice u.2.2.2.2.1 u.2.1.length u.2.2.2.2.2,.slice s.Types.A s.Types.n s.Types.c] ∧
       Own w' w.heap.size 94 3 encBk u.2.2.2.2.1 u.2.1.length u.2.2.2.2.2 u.2.1∧Own w' w.heap.size 3 1 encI s.Types.A s.Types.n s.Types.c z.Types∧JInv z a o u.1 u.2.1 u.2.2.1 u.2.2.2.1) (fun u=>(5-u.2.2.2.1).toNat) (5,z.Free,a,o,s.Free.A,s.Free.c)
      ⟨rfl,rfl,rfl,rfl,rfl,trivial⟩ ⟨hw,hb3,hb6,hb8,hX,hT,⟨hJ0,rfl,by simp only;omega,Nat.le_refl _⟩⟩ ?_
     clear hw hb3 hb6 hb8 hX hT hJ0
     rintro ⟨f,l,a',o',A,c⟩ w' ⟨hw,hb3,hb6,hb8,hX,hT,hJ⟩
     simp only at hb8 hX hJ ⊢
     obtain ⟨k1,k2,k3,k4,k5⟩:=hJ.ok.fit
     have hlen:=hJ.len
     have hp:=pw_le k1 k2
     have hp2:=pw_succ k1 k2
     by_cases ho4:o'<4
     ·obtain ⟨m1,m2,m3⟩:=beside_fit (by omega) k1 ho4 k5
      have em:a'.tmod (pw (o'+1))=a' % (pw (o'+1)):=Int.tmod_eq_emod_of_nonneg (by omega)
      have hbs:beside a' o'=if a' % (pw (o'+1))=0 then a'+pw o' else a'-pw o':=by unfold beside;rw [hp2]
      generalize hbes:beside a' o'=bes at m1 m2 m3 hbs
      have hll:l.length*24≤140737488355328:=Nat.le_trans (Nat.mul_le_mul_right 24 (by omega)) hf
      have cW:=without_ans A l.length c l bes o'
      by_cases hmod:a' % (pw (o'+1))=0
      ·rw [if_pos hmod] at hbs
       repeat' (first|(first|refine CW.seq ?_|refine CW.region ?_|refine CW.block ?_|refine CW.condd_t rfl (by omega) ?_|refine CW.condn_f rfl (by omega) ?_|refine CW.skip ?_)|(refine Post.seq ?_)|refine SW.nil ?_|refine SW.pure rfl rfl ?_|(show SW _ _ _ _ (⟨_,Op.fieldAddr _ _ _,_,_,_,none⟩::_) _ _;refine SW.st (st_field rfl) rfl ?_)|(show SW _ _ _ _ (⟨_,Op.binOp _ _ _ _ _,_,_,_,none⟩::_) _ _;first|refine SW.st (st_add rfl rfl (by omega) (by omega)) rfl ?_|refine SW.st (st_rem rfl rfl (by omega)) rfl ?_)|(show SW _ _ _ _ (⟨_,Op.load _ _,_,_,_,none⟩::_) _ _;refine SW.st (st_load rfl (hb8.cell rfl)) rfl ?_)|(show SW _ _ _ _ (⟨_,Op.call ⟨.value (.func _),_,_⟩,_,_,_,none⟩::_) _ _;(refine SW.call rfl rfl (power_ans _ (by omega) _) ?_;intro v w1 hw1 hv;subst hv;replace hw:=Ext.trans hw hw1;replace hb3:=hb3.ext hw1;replace hb6:=hb6.ext hw1;replace hb8:=hb8.ext hw1;replace hX:=hX.ext hw1;replace hT:=hT.ext hw1;clear hw1)))
       all_goals first|(exfalso;omega)|skip
       rw [← hbs]
       refine SW.call rfl rfl (cW _ hX.sl hll) fun v w5 hw5 hv => ?_
       obtain ⟨B,d,rfl,hY⟩:=hv
       replace hY:=hY.low hw.size
       (replace hw:=Ext.trans hw hw5;replace hb3:=hb3.ext hw5;replace hb6:=hb6.ext hw5;replace hb8:=hb8.ext hw5;replace hX:=hX.ext hw5;replace hT:=hT.ext hw5)
       cases hany:l.any (isB bes o')
       ·have hst:=hJ.stop (.inr (by rw [hbes];exact hany))
        repeat' (first|(first|refine CW.seq ?_|refine CW.region ?_|refine CW.condt rfl ?_|refine CW.exit ?_)|(first|refine Post.seq ?_|refine Post.seq_exit ?_|refine Post.hit ?_|refine Post.pass rfl ?_|refine Post.again_exit ?_)|refine SW.nil ?_|refine SW.pure rfl rfl ?_)
        exact Post.cutn (K:=K) (by rw [hK];exact ⟨l,a',o',A,c,⟨rfl,rfl,rfl,rfl,rfl,trivial⟩,hw,hb3,hb6,hb8,hX,hT,hJ.ok,hst,hJ.len⟩)
       ·obtain ⟨f',hJ'⟩:=hJ.next o1 ho4 (by rw [hbes];exact hany)
        rw [hbes] at hJ'
        repeat' (first|(first|refine CW.seq ?_|refine CW.region ?_|refine CW.condf rfl ?_|refine CW.skip ?_)|(refine Post.seq ?_)|refine SW.nil ?_|refine SW.pure rfl rfl ?_|(show SW _ _ _ _ (⟨_,Op.fieldAddr _ _ _,_,_,_,none⟩::_) _ _;refine SW.st (st_field rfl) rfl ?_))
        refine SW.storeB (i:=2) hb8 rfl rfl rfl rfl fun w7 hb8' hg => ?_
        have hG:=hb8.gr hg
        replace hw:=hw.own hb8w hg
        replace hb6:=hb6.grown hg (by simpa using hne68)
        replace hb3:=hb3.grown hg (by simpa using hne38)
        (replace hY:=hY.grT hG rfl;replace hT:=hT.grT hG rfl)
        have hmin:min a' bes=a':=by omega
        rw [hmin] at hJ'
        repeat' (first|(first|refine CW.seq ?_|refine CW.region ?_|refine CW.condd_f rfl (by omega) ?_|refine CW.skip ?_)|(first|refine Post.seq ?_|refine Post.blk ?_)|refine SW.nil ?_|refine SW.pure rfl rfl ?_|(show SW _ _ _ _ (⟨_,Op.binOp _ _ _ _ _,_,_,_,none⟩::_) _ _;refine SW.st (st_add rfl rfl (by omega) (by omega)) rfl ?_))
        all_goals first|(exfalso;omega)|skip
        exact Post.again (f',without l bes o',a',o'+1,B,d) ⟨rfl,rfl,rfl,rfl,rfl,trivial⟩ (by simp only;omega) ⟨hw,hb3,hb6,hb8',hY,hT,hJ'⟩
      ·rw [if_neg hmod] at hbs
       repeat' (first|(first|refine CW.seq ?_|refine CW.region ?_|refine CW.block ?_|refine CW.condd_t rfl (by omega) ?_|refine CW.condn_t rfl (by omega) ?_|refine CW.skip ?_)|(refine Post.seq ?_)|refine SW.nil ?_|refine SW.pure rfl rfl ?_|(show SW _ _ _ _ (⟨_,Op.fieldAddr _ _ _,_,_,_,none⟩::_) _ _;refine SW.st (st_field rfl) rfl ?_)|(show SW _ _ _ _ (⟨_,Op.binOp _ _ _ _ _,_,_,_,none⟩::_) _ _;first|refine SW.st (st_add rfl rfl (by omega) (by omega)) rfl ?_|refine SW.st (st_sub rfl rfl (by omega) (by omega)) rfl ?_|refine SW.st (st_rem rfl rfl (by omega)) rfl ?_)|(show SW _ _ _ _ (⟨_,Op.load _ _,_,_,_,none⟩::_) _ _;refine SW.st (st_load rfl (hb8.cell rfl)) rfl ?_)|(show SW _ _ _ _ (⟨_,Op.call ⟨.value (.func _),_,_⟩,_,_,_,none⟩::_) _ _;(refine SW.call rfl rfl (power_ans _ (by omega) _) ?_;intro v w1 hw1 hv;subst hv;replace hw:=Ext.trans hw hw1;replace hb3:=hb3.ext hw1;replace hb6:=hb6.ext hw1;replace hb8:=hb8.ext hw1;replace hX:=hX.ext hw1;replace hT:=hT.ext hw1;clear hw1)))
       all_goals first|(exfalso;omega)|skip
       rw [← hbs]
       refine SW.call rfl rfl (cW _ hX.sl hll) fun v w5 hw5 hv => ?_
       obtain ⟨B,d,rfl,hY⟩:=hv
       replace hY:=hY.low hw.size
       (replace hw:=Ext.trans hw hw5;replace hb3:=hb3.ext hw5;replace hb6:=hb6.ext hw5;replace hb8:=hb8.ext hw5;replace hX:=hX.ext hw5;replace hT:=hT.ext hw5)
       cases hany:l.any (isB bes o')
       ·have hst:=hJ.stop (.inr (by rw [hbes];exact hany))
        repeat' (first|(first|refine CW.seq ?_|refine CW.region ?_|refine CW.condt rfl ?_|refine CW.exit ?_)|(first|refine Post.seq ?_|refine Post.seq_exit ?_|refine Post.hit ?_|refine Post.pass rfl ?_|refine Post.again_exit ?_)|refine SW.nil ?_|refine SW.pure rfl rfl ?_)
        exact Post.cutn (K:=K) (by rw [hK];exact ⟨l,a',o',A,c,⟨rfl,rfl,rfl,rfl,rfl,trivial⟩,hw,hb3,hb6,hb8,hX,hT,hJ.ok,hst,hJ.len⟩)
       ·obtain ⟨f',hJ'⟩:=hJ.next o1 ho4 (by rw [hbes];exact hany)
        rw [hbes] at hJ'
        repeat' (first|(first|refine CW.seq ?_|refine CW.region ?_|refine CW.condf rfl ?_|refine CW.skip ?_)|(refine Post.seq ?_)|refine SW.nil ?_|refine SW.pure rfl rfl ?_|(show SW _ _ _ _ (⟨_,Op.fieldAddr _ _ _,_,_,_,none⟩::_) _ _;refine SW.st (st_field rfl) rfl ?_))
        refine SW.storeB (i:=2) hb8 rfl rfl rfl rfl fun w7 hb8' hg => ?_
        have hG:=hb8.gr hg
        replace hw:=hw.own hb8w hg
        replace hb6:=hb6.grown hg (by simpa using hne68)
        replace hb3:=hb3.grown hg (by simpa using hne38)
        (replace hY:=hY.grT hG rfl;replace hT:=hT.grT hG rfl)
        have hmin:min a' bes=bes:=by omega
        rw [hmin] at hJ'
        repeat' (first|(first|refine CW.seq ?_|refine CW.region ?_|refine CW.condd_t rfl (by omega) ?_)|(first|refine Post.seq ?_|refine Post.blk ?_)|refine SW.nil ?_|refine SW.pure rfl rfl ?_|(show SW _ _ _ _ (⟨_,Op.binOp _ _ _ _ _,_,_,_,none⟩::_) _ _;refine SW.st (st_add rfl rfl (by omega) (by omega)) rfl ?_))
        all_goals first|(exfalso;omega)|skip
        exact Post.again (f',without l bes o',bes,o'+1,B,d) ⟨rfl,rfl,rfl,rfl,rfl,trivial⟩ (by simp only;omega) ⟨hw,hb3,hb6,hb8',hY,hT,hJ'⟩
     ·repeat' (first|(first|refine CW.seq ?_|refine CW.region ?_|refine CW.condd_f rfl (by omega) ?_|refine CW.exit ?_)|(first|refine Post.seq ?_|refine Post.seq_exit ?_|refine Post.hit ?_|refine Post.again_exit ?_)|refine SW.nil ?_|refine SW.pure rfl rfl ?_)
      exact Post.cutn (K:=K) (by rw [hK];exact ⟨l,a',o',A,c,⟨rfl,rfl,rfl,rfl,rfl,trivial⟩,hw,hb3,hb6,hb8,hX,hT,hJ.ok,hJ.stop (.inl ho4),hJ.len⟩)
    ·clear hw hb3 hb6 hb8 hX hT hJ0
     subst hK
     rintro L' w' ⟨l,a',o',A,c,hsub,hw,hb3,hb6,hb8,hX,hT,hJ,hjoin,hlen⟩
     refine Post.sub hsub ?_
     obtain ⟨k1,k2,k3,k4,k5⟩:=hJ.fit
     obtain ⟨k,hk,hkl⟩:=typeIdx hz k3 k4
     have hTn:=hT.sl.len
     have hkn:k<s.Types.n:=by omega
     have hbv:=backV_0 hq hfit hov hjoin (t:=z.Types[k]) (by rw [hk];simp [List.getD_eq_getElem?_getD,List.getElem?_eq_getElem hkl])
     rw [hbv,← gt_lb hJ.ne_at]
     have hA:=hT.sl.base
     repeat' (first|(refine CW.seq ?_)|(refine Post.seq ?_))
     refine CW.any 14 mixed (rb_tail (by kernel_rfl)) rfl fun w1 hw1 hRB => ?_
     replace hw:=Ext.trans hw hw1;replace hb3:=hb3.ext hw1;replace hb6:=hb6.ext hw1;replace hb8:=hb8.ext hw1;replace hX:=hX.ext hw1;replace hT:=hT.ext hw1;clear hw1
     refine SA.take 0 hRB rfl (by kernel_rfl) (by kernel_rfl) rfl ?_
     repeat ((show SW _ _ _ _ (⟨_,Op.fieldAddr _ _ _,_,_,_,none⟩::_) _ _;refine SW.st (st_field rfl) rfl ?_))
     refine SW.tknil ?_
     refine SA.take 1 hRB rfl (by kernel_rfl) (by kernel_rfl) rfl ?_
     repeat ((show SW _ _ _ _ (⟨_,Op.load _ _,_,_,_,none⟩::_) _ _;refine SW.st (st_load rfl (hb8.cell rfl)) rfl ?_))
     refine SW.tknil ?_
     refine SA.take 2 hRB rfl (by kernel_rfl) (by kernel_rfl) rfl ?_
     repeat (refine SW.pure rfl rfl ?_)
     refine SW.tknil ?_
     refine SA.take 3 hRB rfl (by kernel_rfl) (by kernel_rfl) rfl ?_
     repeat (refine SW.pure rfl rfl ?_)
     refine SW.tknil ?_
     refine SA.take 4 hRB rfl (by kernel_rfl) (by kernel_rfl) rfl ?_
     repeat ((show SW _ _ _ _ (⟨_,Op.fieldAddr _ _ _,_,_,_,none⟩::_) _ _;refine SW.st (st_field rfl) rfl ?_))
     refine SW.tknil ?_
     refine SA.take 5 hRB rfl (by kernel_rfl) (by kernel_rfl) rfl ?_
     repeat ((show SW _ _ _ _ (⟨_,Op.load _ _,_,_,_,none⟩::_) _ _;refine SW.st (st_load rfl (hb8.cell rfl)) rfl ?_))
     refine SW.tknil ?_
     refine SA.take 6 hRB rfl (by kernel_rfl) (by kernel_rfl) rfl ?_
     repeat (refine SW.pure rfl rfl ?_)
     refine SW.tknil ?_
     refine SA.take 7 hRB rfl (by kernel_rfl) (by kernel_rfl) rfl ?_
     repeat ((show SW _ _ _ _ (⟨_,Op.fieldAddr _ _ _,_,_,_,none⟩::_) _ _;refine SW.st (st_field rfl) rfl ?_))
     refine SW.tknil ?_
     refine SA.take 8 hRB rfl (by kernel_rfl) (by kernel_rfl) rfl ?_
     repeat ((show SW _ _ _ _ (⟨_,Op.load _ _,_,_,_,none⟩::_) _ _;refine SW.st (st_load rfl (hb3.cell rfl)) rfl ?_))
     refine SW.tknil ?_
     refine SA.take 9 hRB rfl (by kernel_rfl) (by kernel_rfl) rfl ?_
     repeat ((show SW _ _ _ _ (⟨_,Op.binOp _ _ _ _ _,_,_,_,none⟩::_) _ _;refine SW.st (st_sub rfl rfl (by omega) (by omega)) rfl ?_))
     refine SW.tknil ?_
     refine SA.take 10 hRB rfl (by kernel_rfl) (by kernel_rfl) rfl ?_
     repeat ((show SW _ _ _ _ (⟨_,Op.binOp _ _ _ _ _,_,_,_,none⟩::_) _ _;refine SW.st (st_quo rfl rfl (by omega) (by omega) (by omega)) rfl ?_))
     refine SW.tknil ?_
     refine SA.take 11 hRB rfl (by kernel_rfl) (by kernel_rfl) rfl ?_
     repeat ((show SW _ _ _ _ (⟨_,Op.indexAddr _ _ _,_,_,_,none⟩::_) _ _;refine SW.st (st_indexI (k) rfl rfl (by assumption) (by omega) (by omega)) rfl ?_))
     refine SW.tknil ?_
     refine SA.take 12 hRB rfl (by kernel_rfl) (by kernel_rfl) rfl ?_
     repeat ((show SW _ _ _ _ (⟨_,Op.load _ _,_,_,_,none⟩::_) _ _;refine SW.st (st_load rfl (hT.sl.one hkn rfl)) rfl ?_))
     refine SW.tknil ?_
     refine SA.take 13 hRB rfl (by kernel_rfl) (by kernel_rfl) rfl ?_
     repeat ((show SW _ _ _ _ (⟨_,Op.build _ _,_,_,_,none⟩::_) _ _;refine SW.st (st_build rfl rfl) rfl ?_))
     refine SW.tknil ?_
     refine SA.done (by kernel_rfl) ?_
     refine SW.call rfl rfl (withBlock_ans A l.length c l ⟨a',o',z.Types[k]⟩ _ hX.sl (Nat.le_trans (Nat.mul_le_mul_right 24 (by omega)) hf)) fun v w5 hw5 hv => ?_
     obtain ⟨B,d,rfl,hY⟩:=hv
     replace hY:=hY.low hw.size
     (replace hw:=Ext.trans hw hw5;replace hb3:=hb3.ext hw5;replace hb6:=hb6.ext hw5;replace hb8:=hb8.ext hw5;replace hX:=hX.ext hw5;replace hT:=hT.ext hw5)
     repeat' ((show SW _ _ _ _ (⟨_,Op.fieldAddr _ _ _,_,_,_,none⟩::_) _ _;refine SW.st (st_field rfl) rfl ?_))
     refine SW.storeB (i:=2) hb8 rfl rfl rfl rfl fun w7 hb8' hg => ?_
     have hG:=hb8.gr hg
     replace hw:=hw.own hb8w hg
     replace hb6:=hb6.grown hg (by simpa using hne68)
     (replace hY:=hY.grT hG rfl;replace hT:=hT.grT hG rfl)
     repeat' (first|(first|refine CW.seq ?_|refine CW.region ?_)|(first|refine Post.seq ?_|refine Post.np ?_)|refine SW.nil ?_|(show SW _ _ _ _ (⟨_,Op.load _ _,_,_,_,none⟩::_) _ _;refine SW.st (st_loads rfl rfl ((fun _ _=>hb8'.cell))) rfl ?_))
     refine SW.storeAgg hb6 rfl rfl rfl rfl (one_z ⟨s.From,s.To,⟨B,l.length+1,d⟩,s.Types⟩) fun w9 hR2 hg => ?_
     have hG:=hb6.gr hg
     replace hw:=hw.own hb6w hg
     (replace hY:=hY.grT hG rfl;replace hT:=hT.grT hG rfl)
     repeat' (first|(refine CW.ret ?_)|(refine Post.seq ?_)|refine SW.nil ?_|refine SW.pure rfl rfl ?_)
     exact Post.ret2c rfl rfl rfl hR2 rfl ⟨_,rfl,hw,⟨s.From,s.To,⟨B,l.length+1,d⟩,s.Types⟩,rfl,sF,sT,hY,hT⟩
   ·rw [hov] at cC
    rw [backV_5 hq hfit hov]
    repeat' (first|(first|refine CW.seq ?_|refine CW.region ?_|refine CW.condtr rfl (by with_reducible rfl) ?_|refine CW.condf rfl ?_|refine CW.skip ?_)|(refine Post.seq ?_)|refine SW.nil ?_|refine SW.pure rfl rfl ?_|(show SW _ _ _ _ (⟨_,Op.fieldAddr _ _ _,_,_,_,none⟩::_) _ _;refine SW.st (st_field rfl) rfl ?_)|(show SW _ _ _ _ (⟨_,Op.build _ _,_,_,_,none⟩::_) _ _;refine SW.st (st_build rfl rfl) rfl ?_)|(show SW _ _ _ _ (⟨_,Op.load _ _,_,_,_,none⟩::_) _ _;first|refine SW.st (st_loads rfl rfl ((fun _ _=>hb3.cell))) rfl ?_|refine SW.st (st_load rfl (hb3.cell rfl)) rfl ?_)|(show SW _ _ _ _ (⟨_,Op.call ⟨.value (.func _),_,_⟩,_,_,_,none⟩::_) _ _;first|(refine SW.call rfl rfl (c1 _ hw) ?_;intro v w1 hw1 hv;subst hv;replace hw:=Ext.trans hw hw1;replace hb3:=hb3.ext hw1;replace hb6:=hb6.ext hw1;clear hw1)|(refine SW.call rfl rfl (cF _) ?_;intro v w1 hw1 hv;subst hv;replace hw:=Ext.trans hw hw1;replace hb3:=hb3.ext hw1;replace hb6:=hb6.ext hw1;clear hw1)|(refine SW.call rfl rfl (cC _ hw) ?_;intro v w1 hw1 hv;subst hv;replace hw:=Ext.trans hw hw1;replace hb3:=hb3.ext hw1;replace hb6:=hb6.ext hw1;clear hw1)))
    refine SW.storeAgg hb6 rfl rfl rfl rfl (one_z .zero) fun w5 hR2 hg => ?_
    replace hw:=hw.own hb6w hg
    repeat' (first|(refine CW.ret ?_)|(first|refine Post.seq ?_|refine Post.seq_ret ?_)|refine SW.nil ?_|refine SW.pure rfl rfl ?_)
    exact Post.ret2c rfl rfl rfl hR2 rfl ⟨_,rfl,hw,.zero,rfl,OwnZ.zero _ _⟩
  ·rw [decide_eq_false hfit] at cF
   rw [backV_1 hq hfit]
   repeat' (first|(first|refine CW.seq ?_|refine CW.region ?_|refine CW.condt rfl ?_|refine CW.condf rfl ?_|refine CW.skip ?_)|(refine Post.seq ?_)|refine SW.nil ?_|refine SW.pure rfl rfl ?_|(show SW _ _ _ _ (⟨_,Op.build _ _,_,_,_,none⟩::_) _ _;refine SW.st (st_build rfl rfl) rfl ?_)|(show SW _ _ _ _ (⟨_,Op.load _ _,_,_,_,none⟩::_) _ _;refine SW.st (st_loads rfl rfl ((fun _ _=>hb3.cell))) rfl ?_)|(show SW _ _ _ _ (⟨_,Op.call ⟨.value (.func _),_,_⟩,_,_,_,none⟩::_) _ _;first|(refine SW.call rfl rfl (c1 _ hw) ?_;intro v w1 hw1 hv;subst hv;replace hw:=Ext.trans hw hw1;replace hb3:=hb3.ext hw1;replace hb6:=hb6.ext hw1;clear hw1)|(refine SW.call rfl rfl (cF _) ?_;intro v w1 hw1 hv;subst hv;replace hw:=Ext.trans hw hw1;replace hb3:=hb3.ext hw1;replace hb6:=hb6.ext hw1;clear hw1)))
   refine SW.storeAgg hb6 rfl rfl rfl rfl (one_z .zero) fun w5 hR2 hg => ?_
   replace hw:=hw.own hb6w hg
   repeat' (first|(refine CW.ret ?_)|(first|refine Post.seq ?_|refine Post.seq_ret ?_)|refine SW.nil ?_|refine SW.pure rfl rfl ?_)
   exact Post.ret2c rfl rfl rfl hR2 rfl ⟨_,rfl,hw,.zero,rfl,OwnZ.zero _ _⟩
end Go.Proofs.YtigikedbffjeiaaGreat
