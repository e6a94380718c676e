/-
  Texts of the claim SlabFrees, part 23: what its theorem leans on.
-/
import Derived.Test.YtigikedbffjeiaaGreatPackSlabFrees9
import Derived.Test.YtigikedbffjeiaaGreatPackSlabFrees4
import Derived.Test.YtigikedbffjeiaaGreatPackSlabFrees22
import Derived.Test.YtigikedbffjeiaaGreatPackSlabFrees13
import Derived.Test.YtigikedbffjeiaaGreatPackSlabFrees20
set_option linter.unusedVariables false
set_option linter.unusedSimpArgs false
namespace Go.Proofs.YtigikedbffjeiaaGreat
open Go.RowKit
structure EachL (w:World) (lo:Nat) (R:List LRow) (L:List PList) : Prop where
 each:All2 (OwnL w lo) R L
section
variable {w w':World} {lo t:Nat} {R:List LRow} {L:List PList} {y:LRow} {x:PList}
theorem EachL.ext (h:EachL w lo R L) (hx:Ext w w') : EachL w' lo R L:=⟨h.each.mono fun _ _ h=>h.ext hx⟩
theorem EachL.grT (h:EachL w lo R L) (hG:GrT w w' t) (hne:Nat.beq t 3=false) : EachL w' lo R L:=⟨h.each.mono fun _ _ h=>h.grT hG hne⟩
theorem EachL.nil (w:World) (lo:Nat) : EachL w lo [] []:=⟨All2.nil⟩
theorem EachL.snoc (h:EachL w lo R L) (hr:OwnL w lo y x) : EachL w lo (R++[y]) (L++[x]):=⟨h.each.snoc hr⟩
end
set_option maxHeartbeats 16000000 in
theorem setList_ans (r:HRow) (L:List PList) (ls:List LRow) (x:PList) (y:LRow) (lo:Nat) (w:World) (hl:OwnLs w lo r.Lists ls L) (hy:OwnL w lo y x) (hs:LsS L) (hlo:lo≤w.heap.size) (hne : 0<y.Pages.n) (hn:(r.Lists.n+1)*48≤140737488355328) :
  Ans Tryz.prog 85 [.agg (encH r).toArray,.int .i64 y.Cpu,.int .i64 y.Zone,.int .i64 y.Ty,.slice y.Pages.A y.Pages.n y.Pages.c] w fun v w' => ∃ s R,v = .agg (encH ⟨r.Zones,r.Mins,r.Cpus,s,r.Live⟩).toArray∧OwnLs w' lo s R (setL L x):=by
 refine ans_of Tryz.func85 rfl Tryz.ntmps85 rfl ?_
 refine CW.seq (CW.region (SW.box rfl rfl fun b5 w1 hw hb5b hb5 => ?_))
 have hb5w:=hb5b
 refine SW.alloc rfl fun b10 w2 hw2 hb10b hb10 => ?_
 have hb10w:w.heap.size≤b10:=Nat.le_trans hw.size hb10b
 have hne510:b5≠b10:=by have:=hb5.lt;omega
 (replace hw:=Ext.trans hw hw2;replace hb5:=hb5.ext hw2)
 obtain ⟨l1,l2⟩:=hl.rd.len
 have hA:=hl.row.sl.base
 have y1:=hy.cpu
 have y2:=hy.zone
 have y3:=hy.ty
 repeat' (first|(first|refine CW.seq ?_|refine CW.region ?_)|(refine Post.seq ?_)|refine SW.nil ?_|refine SW.pure rfl rfl ?_|(show SW _ _ _ _ (⟨_,Op.build _ _,_,_,_,none⟩::_) _ _;refine SW.st (st_build rfl rfl) rfl ?_))
 refine SW.alloc rfl fun b11 w1 hw1 hb11b hb11 => ?_
 skip
 refine SW.storeAgg hb11 rfl rfl rfl rfl (one_l y) fun w2 hb11' hg => ?_
 have hXX:=hw1.own hb11b hg
 have hb11w:w.heap.size≤b11:=Nat.le_trans hw.size hb11b
 replace hw:=Ext.trans hw hXX
 replace hb5:=hb5.ext hXX
 replace hb10:=hb10.ext hXX
 replace hb11:=hb11'
 clear hb11' hw1 hg hXX
 repeat' (first|(first|refine CW.seq ?_|refine CW.region ?_|refine CW.block ?_)|(refine Post.seq ?_)|refine SW.nil ?_|refine SW.pure rfl rfl ?_|(show SW _ _ _ _ (⟨_,Op.call ⟨.builtin .len,_,_⟩,_,_,_,none⟩::_) _ _;refine SW.st (st_len rfl) rfl ?_))
 have hkl:=kpos_le L x
 replace hb11:Blk w2 b11 75 (encL y):=hb11
 have z0:(setPre L x 0).length=0:=by simp [setPre]
 have q0:decide (kpos L x<0)=decide ((y.Pages.n:Int)=0):=by rw [decide_eq_false (by omega),decide_eq_false (by omega)]
 refine CW.loop (fun t:Nat×Option Addr×Nat×List LRow=>[(1,.int .i64 y.Cpu),(2,.int .i64 y.Zone),(3,.int .i64 y.Ty),(5,.pointer (some ⟨b5,0,none⟩)),(10,.pointer (some ⟨b10,0,none⟩)),(11,.pointer (some ⟨b11,0,none⟩)),(12,.slice t.2.1 (setPre L x t.1).length t.2.2.1),(13,.bool (decide (kpos L x<t.1))),(14,.int .i64 (t.1:Int))])
  (fun t w'=>t.1≤r.Lists.n∧Ext w w'∧Blk w' b5 27 (encH r)∧Blk w' b10 27 (encH .zero)∧Blk w' b11 75 (encL y)∧Own w' (b11+1) 75 4 encL t.2.1 (setPre L x t.1).length t.2.2.1 t.2.2.2∧EachL w' lo t.2.2.2 (setPre L x t.1)) (fun t=>r.Lists.n-t.1) (0,none,0,[])
  ⟨rfl,rfl,rfl,rfl,rfl,rfl,by simp only;rw [z0];rfl,by simp only;rw [q0];rfl,rfl,trivial⟩ ⟨by omega,hw,hb5,hb10,hb11,by simpa [setPre] using Own.nil_ _ _ _ _ _ _,by simpa [setPre] using EachL.nil _ _⟩ ?_
 clear hw hb5 hb10 hb11
 rintro ⟨i,A,c,R⟩ w' ⟨hi,hw,hb5,hb10,hb11,hO,hE⟩
 simp only at hi hO hE ⊢
 have hlen:(setPre L x i).length≤i+1:=by
  unfold setPre
  split
  ·simp;omega
  ·split<;>simp<;>omega
 have hlen2:i≤kpos L x→(setPre L x i).length≤i:=fun h=>by rw [setPre,if_pos h];simp;omega
 have hbA:∀ m:Nat,m≤r.Lists.n→(m+1)*48≤140737488355328∧m+1≤9223372036854775807:=fun m hm=>by omega
 by_cases hin:i<r.Lists.n
 ·have hq1:(setPre L x i).length≤r.Lists.n:=by omega
  have hil:i<L.length:=by omega
  have hils:i<ls.length:=by omega
  have hrd:=hl.each.get i hils hil
  have e1:=hrd.cpu
  have e2:=hrd.zone
  have e3:=hrd.ty
  have g0:=hl.row.sl.fld hin (j:=0) (u := .int .i64 ls[i].Cpu) rfl
  have g1:=hl.row.sl.fld hin (j:=1) (u := .int .i64 ls[i].Zone) rfl
  have g2:=hl.row.sl.fld hin (j:=2) (u := .int .i64 ls[i].Ty) rfl
  obtain ⟨p,hp⟩ : ∃ p,decide (aheadL x L[i])=p:=⟨_,rfl⟩
  have cA:∀ w',Ans Tryz.prog 104 [.agg (encL y).toArray,.agg (encL ls[i]).toArray] w' fun v _=>v = .bool p:=fun w'=>by
   have:=aheadL_ans y ls[i] x L[i] w' ⟨y1,y2,y3⟩ hrd.rd.key
   rwa [hp] at this
  rcases Nat.lt_trichotomy i (kpos L x) with hk|hk|hk
  ·have ha:=kpos_below hk
   have hpf:p=false:=by rw [← hp];exact decide_eq_false (ahead_not ha).2.2
   subst hpf
   have hke : ¬ (ls[i].Cpu=y.Cpu∧ls[i].Zone=y.Zone∧ls[i].Ty=y.Ty):=by have:=(ahead_not ha).1;unfold keyEq at this;omega
   have ee:=setPre_low hk
   have el:(setPre L x (i+1)).length=(setPre L x i).length+1:=by rw [ee];simp
   have d0:decide (kpos L x<i)=false:=decide_eq_false (by omega)
   have d1:decide (kpos L x<i+1)=false:=decide_eq_false (by omega)
   rw [d0]
   repeat' (first|(first|refine CW.seq ?_|refine CW.region ?_|refine CW.block ?_|refine CW.condfr rfl (by with_reducible rfl) ?_|refine CW.condd_t rfl (by omega) ?_|refine CW.condd_f rfl (by omega) ?_|refine CW.skip ?_|(apply CW.quiet1 mixed;(· kernel_rfl);rotate_left;intro w1 hw1;replace hw:=Ext.trans hw hw1;replace hb5:=hb5.ext hw1;replace hb10:=hb10.ext hw1;replace hb11:=hb11.ext hw1;replace hO:=hO.ext hw1;replace hE:=hE.ext hw1;clear hw1;rotate_right))|(refine Post.seq ?_)|refine SW.nil ?_|(show SW _ _ _ _ (⟨_,_,_,_,_,some _⟩::_) _ _;first|refine SW.want_t rfl rfl (by with_reducible rfl) ?_|refine SW.skip_t rfl rfl (by with_reducible rfl) rfl ?_|refine SW.splitd rfl rfl rfl (fun h => ?_) (fun h => ?_)|refine SW.want rfl rfl ?_)|refine SW.pure rfl rfl ?_|(show SW _ _ _ _ (⟨_,Op.fieldAddr _ _ _,_,_,_,none⟩::_) _ _;refine SW.st (st_field rfl) rfl ?_)|(show SW _ _ _ _ (⟨_,Op.indexAddr _ _ _,_,_,_,none⟩::_) _ _;refine SW.st (st_indexN rfl rfl (by assumption) (by omega)) rfl ?_)|(show SW _ _ _ _ (⟨_,Op.call ⟨.builtin .len,_,_⟩,_,_,_,none⟩::_) _ _;refine SW.st (st_len rfl) rfl ?_)|(show SW _ _ _ _ (⟨_,Op.load _ _,_,_,_,none⟩::_) _ _;first|refine SW.st (st_load rfl (hb5.cell (i:=3) (v := .slice r.Lists.A r.Lists.n r.Lists.c) rfl)) rfl ?_|refine SW.st (st_loadx hw rfl g0) rfl ?_|refine SW.st (st_loadx hw rfl g1) rfl ?_|refine SW.st (st_loadx hw rfl g2) rfl ?_|refine SW.st (st_loadsx hw rfl rfl ((hl.row.sl.all hin))) rfl ?_|refine SW.st (st_loads rfl rfl ((fun _ _=>hb11.cell))) rfl ?_)|(show SW _ _ _ _ (⟨_,Op.call ⟨.value (.func _),_,_⟩,_,_,_,none⟩::_) _ _;refine SW.qcall rfl rfl (fun w1 hw1=>(cA _)) ?_)|exact SW.qnil rfl)
   all_goals first|(exfalso;omega)|skip
   all_goals
    refine SW.build1 rfl rfl rfl rfl rfl fun b w4 hXX hb hB => ?_
    (replace hw:=Ext.trans hw hXX;replace hb5:=hb5.ext hXX;replace hb10:=hb10.ext hXX;replace hb11:=hb11.ext hXX;replace hO:=hO.ext hXX;replace hE:=hE.ext hXX)
    refine SW.append hO (Blk.sl1 (enc:=encL) (x:=ls[i]) hB) hb11.lt rfl rfl rfl (hbA _ hq1).1 (hbA _ hq1).2 fun A2 c2 w5 hO1 hg => ?_
    have hG:=hO.gr hg
    replace hw:=ext_grown hw hg (Nat.le_trans hb11w (Nat.le_succ _)) hO.row_ge
    replace hb11:=hb11.grown hg (fun e=>Nat.not_succ_le_self _ (hO.row_ge b11 e.symm))
    (replace hb5:=hb5.grT hG rfl;replace hb10:=hb10.grT hG rfl;replace hE:=hE.grT hG rfl)
    repeat' (first|(refine CW.region ?_)|(first|refine Post.seq ?_|refine Post.blk ?_)|refine SW.nil ?_|refine SW.pure rfl rfl ?_|(show SW _ _ _ _ (⟨_,Op.binOp _ _ _ _ _,_,_,_,none⟩::_) _ _;refine SW.st (st_add rfl rfl (by omega) (by omega)) rfl ?_))
    refine Post.again (i+1,A2,c2,R++[ls[i]]) ⟨rfl,rfl,rfl,rfl,rfl,rfl,by simp only;rw [el];rfl,by simp only;rw [d1];rfl,rfl,trivial⟩ (by simp only;omega) ⟨by simp only;omega,hw,hb5,hb10,hb11,by simp only;rw [el];exact hO1,?_⟩
    simp only
    rw [ee]
    exact hE.snoc ((hl.each.get i hils hil).ext hw)
  ·have eh:∃ q,khere L x=q:=⟨_,rfl⟩
   obtain ⟨q,hq⟩:=eh
   have d0:decide (kpos L x<i)=false:=decide_eq_false (by omega)
   have d1:decide (kpos L x<i+1)=true:=decide_eq_true (by omega)
   have hq2:(setPre L x i).length+1≤r.Lists.n:=by have:=hlen2 (by omega);omega
   rw [d0]
   cases q
   ·have ha:aheadL x L[i]:=by
     have:=khere_f hq (by omega)
     simpa only [← hk] using this
    have hpf:p=true:=by rw [← hp];exact decide_eq_true ha
    subst hpf
    have hke : ¬ (ls[i].Cpu=y.Cpu∧ls[i].Zone=y.Zone∧ls[i].Ty=y.Ty):=by have:=(ahead_not ha).2.1;unfold keyEq at this;omega
    have ee:=setPre_in hk hil hq
    have el:(setPre L x (i+1)).length=(setPre L x i).length+1+1:=by rw [ee];simp
    repeat' (first|(first|refine CW.seq ?_|refine CW.region ?_|refine CW.block ?_|refine CW.condtr rfl (by with_reducible rfl) ?_|refine CW.condd_t rfl (by omega) ?_|refine CW.skip ?_|(apply CW.quiet1 mixed;(· kernel_rfl);rotate_left;intro w1 hw1;replace hw:=Ext.trans hw hw1;replace hb5:=hb5.ext hw1;replace hb10:=hb10.ext hw1;replace hb11:=hb11.ext hw1;replace hO:=hO.ext hw1;replace hE:=hE.ext hw1;clear hw1;rotate_right))|(refine Post.seq ?_)|refine SW.nil ?_|(show SW _ _ _ _ (⟨_,_,_,_,_,some _⟩::_) _ _;refine SW.want rfl rfl ?_)|refine SW.pure rfl rfl ?_|(show SW _ _ _ _ (⟨_,Op.fieldAddr _ _ _,_,_,_,none⟩::_) _ _;refine SW.st (st_field rfl) rfl ?_)|(show SW _ _ _ _ (⟨_,Op.indexAddr _ _ _,_,_,_,none⟩::_) _ _;refine SW.st (st_indexN rfl rfl (by assumption) (by omega)) rfl ?_)|(show SW _ _ _ _ (⟨_,Op.call ⟨.builtin .len,_,_⟩,_,_,_,none⟩::_) _ _;refine SW.st (st_len rfl) rfl ?_)|(show SW _ _ _ _ (⟨_,Op.load _ _,_,_,_,none⟩::_) _ _;first|refine SW.st (st_load rfl (hb5.cell (i:=3) (v := .slice r.Lists.A r.Lists.n r.Lists.c) rfl)) rfl ?_|refine SW.st (st_loadsx hw rfl rfl ((hl.row.sl.all hin))) rfl ?_|refine SW.st (st_loads rfl rfl ((fun _ _=>hb11.cell))) rfl ?_)|(show SW _ _ _ _ (⟨_,Op.call ⟨.value (.func _),_,_⟩,_,_,_,none⟩::_) _ _;refine SW.qcall rfl rfl (fun w1 hw1=>(cA _)) ?_)|exact SW.qnil rfl)
    refine SW.build1 rfl rfl rfl rfl rfl fun b w4 hXX hb hB => ?_
    (replace hw:=Ext.trans hw hXX;replace hb5:=hb5.ext hXX;replace hb10:=hb10.ext hXX;replace hb11:=hb11.ext hXX;replace hO:=hO.ext hXX;replace hE:=hE.ext hXX)
    refine SW.append hO (Blk.sl1 (enc:=encL) (x:=y) hB) hb11.lt rfl rfl rfl (hbA _ hq1).1 (hbA _ hq1).2 fun A2 c2 w5 hO1 hg => ?_
    have hG:=hO.gr hg
    replace hw:=ext_grown hw hg (Nat.le_trans hb11w (Nat.le_succ _)) hO.row_ge
    replace hb11:=hb11.grown hg (fun e=>Nat.not_succ_le_self _ (hO.row_ge b11 e.symm))
    (replace hb5:=hb5.grT hG rfl;replace hb10:=hb10.grT hG rfl;replace hE:=hE.grT hG rfl)
    replace hE:=hE.snoc (hy.ext hw)
    replace hO:=hO1
    clear hO1
    repeat' (first|(first|refine CW.seq ?_|refine CW.region ?_|refine CW.condfr rfl (by with_reducible rfl) ?_|refine CW.condd_f rfl (by omega) ?_|refine CW.skip ?_)|(refine Post.seq ?_)|refine SW.nil ?_|(show SW _ _ _ _ (⟨_,_,_,_,_,some _⟩::_) _ _;first|refine SW.want_t rfl rfl (by with_reducible rfl) ?_|refine SW.skip_t rfl rfl (by with_reducible rfl) rfl ?_|refine SW.splitd rfl rfl rfl (fun h => ?_) (fun h => ?_))|refine SW.pure rfl rfl ?_|(show SW _ _ _ _ (⟨_,Op.fieldAddr _ _ _,_,_,_,none⟩::_) _ _;refine SW.st (st_field rfl) rfl ?_)|(show SW _ _ _ _ (⟨_,Op.indexAddr _ _ _,_,_,_,none⟩::_) _ _;refine SW.st (st_indexN rfl rfl (by assumption) (by omega)) rfl ?_)|(show SW _ _ _ _ (⟨_,Op.load _ _,_,_,_,none⟩::_) _ _;first|refine SW.st (st_load rfl (hb5.cell (i:=3) (v := .slice r.Lists.A r.Lists.n r.Lists.c) rfl)) rfl ?_|refine SW.st (st_loadx hw rfl g0) rfl ?_|refine SW.st (st_loadx hw rfl g1) rfl ?_|refine SW.st (st_loadx hw rfl g2) rfl ?_|refine SW.st (st_loadsx hw rfl rfl ((hl.row.sl.all hin))) rfl ?_))
    all_goals first|(exfalso;omega)|skip
    all_goals
     refine SW.build1 rfl rfl rfl rfl rfl fun b w4 hXX hb hB => ?_
     (replace hw:=Ext.trans hw hXX;replace hb5:=hb5.ext hXX;replace hb10:=hb10.ext hXX;replace hb11:=hb11.ext hXX;replace hO:=hO.ext hXX;replace hE:=hE.ext hXX)
     refine SW.append hO (Blk.sl1 (enc:=encL) (x:=ls[i]) hB) hb11.lt rfl rfl rfl (hbA _ hq2).1 (hbA _ hq2).2 fun A2 c2 w5 hO2 hg => ?_
     have hG:=hO.gr hg
     replace hw:=ext_grown hw hg (Nat.le_trans hb11w (Nat.le_succ _)) hO.row_ge
     replace hb11:=hb11.grown hg (fun e=>Nat.not_succ_le_self _ (hO.row_ge b11 e.symm))
     (replace hb5:=hb5.grT hG rfl;replace hb10:=hb10.grT hG rfl;replace hE:=hE.grT hG rfl)
     repeat' (first|(refine CW.region ?_)|(first|refine Post.seq ?_|refine Post.blk ?_)|refine SW.nil ?_|refine SW.pure rfl rfl ?_|(show SW _ _ _ _ (⟨_,Op.binOp _ _ _ _ _,_,_,_,none⟩::_) _ _;refine SW.st (st_add rfl rfl (by omega) (by omega)) rfl ?_))
     refine Post.again (i+1,A2,c2,R++[y]++[ls[i]]) ⟨rfl,rfl,rfl,rfl,rfl,rfl,by simp only;rw [el];rfl,by simp only;rw [d1];rfl,rfl,trivial⟩ (by simp only;omega) ⟨by simp only;omega,hw,hb5,hb10,hb11,by simp only;rw [el];exact hO2,?_⟩
     simp only
     rw [ee]
     exact hE.snoc ((hl.each.get i hils hil).ext hw)
   ·obtain ⟨hkl',hkey⟩:=khere_t hq
    have hkey':keyEq L[i] x:=by simpa only [← hk] using hkey
    have hpf:p=false:=by rw [← hp];exact decide_eq_false (by unfold aheadL keyEq at *;omega)
    subst hpf
    obtain ⟨k1,k2,k3⟩:=id hkey'
    have ee:=setPre_here hk hq
    have el:(setPre L x (i+1)).length=(setPre L x i).length+1:=by rw [ee];simp
    repeat' (first|(first|refine CW.seq ?_|refine CW.region ?_|refine CW.block ?_|refine CW.condfr rfl (by with_reducible rfl) ?_|refine CW.condd_t rfl (by omega) ?_|refine CW.condt rfl ?_|refine CW.skip ?_|(apply CW.quiet1 mixed;(· kernel_rfl);rotate_left;intro w1 hw1;replace hw:=Ext.trans hw hw1;replace hb5:=hb5.ext hw1;replace hb10:=hb10.ext hw1;replace hb11:=hb11.ext hw1;replace hO:=hO.ext hw1;replace hE:=hE.ext hw1;clear hw1;rotate_right))|(refine Post.seq ?_)|refine SW.nil ?_|(show SW _ _ _ _ (⟨_,_,_,_,_,some _⟩::_) _ _;first|refine SW.want_t rfl rfl (by with_reducible rfl) ?_|refine SW.splitd_t rfl rfl rfl (by omega) ?_|refine SW.want rfl rfl ?_)|refine SW.pure rfl rfl ?_|(show SW _ _ _ _ (⟨_,Op.fieldAddr _ _ _,_,_,_,none⟩::_) _ _;refine SW.st (st_field rfl) rfl ?_)|(show SW _ _ _ _ (⟨_,Op.indexAddr _ _ _,_,_,_,none⟩::_) _ _;refine SW.st (st_indexN rfl rfl (by assumption) (by omega)) rfl ?_)|(show SW _ _ _ _ (⟨_,Op.call ⟨.builtin .len,_,_⟩,_,_,_,none⟩::_) _ _;refine SW.st (st_len rfl) rfl ?_)|(show SW _ _ _ _ (⟨_,Op.load _ _,_,_,_,none⟩::_) _ _;first|refine SW.st (st_load rfl (hb5.cell (i:=3) (v := .slice r.Lists.A r.Lists.n r.Lists.c) rfl)) rfl ?_|refine SW.st (st_loadx hw rfl g0) rfl ?_|refine SW.st (st_loadx hw rfl g1) rfl ?_|refine SW.st (st_loadx hw rfl g2) rfl ?_|refine SW.st (st_loadsx hw rfl rfl ((hl.row.sl.all hin))) rfl ?_|refine SW.st (st_loads rfl rfl ((fun _ _=>hb11.cell))) rfl ?_)|(show SW _ _ _ _ (⟨_,Op.call ⟨.value (.func _),_,_⟩,_,_,_,none⟩::_) _ _;refine SW.qcall rfl rfl (fun w1 hw1=>(cA _)) ?_)|exact SW.qnil rfl)
    all_goals first|(exfalso;omega)|skip
    refine SW.build1 rfl rfl rfl rfl rfl fun b w4 hXX hb hB => ?_
    (replace hw:=Ext.trans hw hXX;replace hb5:=hb5.ext hXX;replace hb10:=hb10.ext hXX;replace hb11:=hb11.ext hXX;replace hO:=hO.ext hXX;replace hE:=hE.ext hXX)
    refine SW.append hO (Blk.sl1 (enc:=encL) (x:=y) hB) hb11.lt rfl rfl rfl (hbA _ hq1).1 (hbA _ hq1).2 fun A2 c2 w5 hO1 hg => ?_
    have hG:=hO.gr hg
    replace hw:=ext_grown hw hg (Nat.le_trans hb11w (Nat.le_succ _)) hO.row_ge
    replace hb11:=hb11.grown hg (fun e=>Nat.not_succ_le_self _ (hO.row_ge b11 e.symm))
    (replace hb5:=hb5.grT hG rfl;replace hb10:=hb10.grT hG rfl;replace hE:=hE.grT hG rfl)
    repeat' (first|(first|refine CW.region ?_|refine CW.exit ?_)|(first|refine Post.seq ?_|refine Post.seq_exit ?_|refine Post.hit ?_)|refine SW.nil ?_|refine SW.pure rfl rfl ?_|(show SW _ _ _ _ (⟨_,Op.binOp _ _ _ _ _,_,_,_,none⟩::_) _ _;refine SW.st (st_add rfl rfl (by omega) (by omega)) rfl ?_))
    refine Post.again (i+1,A2,c2,R++[y]) ⟨rfl,rfl,rfl,rfl,rfl,rfl,by simp only;rw [el];rfl,by simp only;rw [d1];rfl,rfl,trivial⟩ (by simp only;omega) ⟨by simp only;omega,hw,hb5,hb10,hb11,by simp only;rw [el];exact hO1,?_⟩
    simp only
    rw [ee]
    exact hE.snoc (hy.ext hw)
  ·have hkl2:kpos L x<L.length:=by omega
   have ha:aheadL x L[i]:=by
    have h0:=hs.get hil hk
    have h1:=kpos_at hkl2
    unfold aheadL at *
    omega
   have hke : ¬ (ls[i].Cpu=y.Cpu∧ls[i].Zone=y.Zone∧ls[i].Ty=y.Ty):=by have:=(ahead_not ha).2.1;unfold keyEq at this;omega
   have ee:=setPre_high hk hil
   have el:(setPre L x (i+1)).length=(setPre L x i).length+1:=by rw [ee];simp
   have d0:decide (kpos L x<i)=true:=decide_eq_true (by omega)
   have d1:decide (kpos L x<i+1)=true:=decide_eq_true (by omega)
   rw [d0]
   repeat' (first|(first|refine CW.seq ?_|refine CW.region ?_|refine CW.block ?_|refine CW.condfr rfl (by with_reducible rfl) ?_|refine CW.condd_t rfl (by omega) ?_|refine CW.condd_f rfl (by omega) ?_|refine CW.skip ?_|(apply CW.quiet1 mixed;(· kernel_rfl);rotate_left;intro w1 hw1;replace hw:=Ext.trans hw hw1;replace hb5:=hb5.ext hw1;replace hb10:=hb10.ext hw1;replace hb11:=hb11.ext hw1;replace hO:=hO.ext hw1;replace hE:=hE.ext hw1;clear hw1;rotate_right))|(refine Post.seq ?_)|refine SW.nil ?_|(show SW _ _ _ _ (⟨_,_,_,_,_,some _⟩::_) _ _;first|refine SW.want_t rfl rfl (by with_reducible rfl) ?_|refine SW.skip_t rfl rfl (by with_reducible rfl) rfl ?_|refine SW.splitd rfl rfl rfl (fun h => ?_) (fun h => ?_)|refine SW.skip rfl rfl rfl rfl ?_)|refine SW.pure rfl rfl ?_|(show SW _ _ _ _ (⟨_,Op.fieldAddr _ _ _,_,_,_,none⟩::_) _ _;refine SW.st (st_field rfl) rfl ?_)|(show SW _ _ _ _ (⟨_,Op.indexAddr _ _ _,_,_,_,none⟩::_) _ _;refine SW.st (st_indexN rfl rfl (by assumption) (by omega)) rfl ?_)|(show SW _ _ _ _ (⟨_,Op.call ⟨.builtin .len,_,_⟩,_,_,_,none⟩::_) _ _;refine SW.st (st_len rfl) rfl ?_)|(show SW _ _ _ _ (⟨_,Op.load _ _,_,_,_,none⟩::_) _ _;first|refine SW.st (st_load rfl (hb5.cell (i:=3) (v := .slice r.Lists.A r.Lists.n r.Lists.c) rfl)) rfl ?_|refine SW.st (st_loadx hw rfl g0) rfl ?_|refine SW.st (st_loadx hw rfl g1) rfl ?_|refine SW.st (st_loadx hw rfl g2) rfl ?_|refine SW.st (st_loadsx hw rfl rfl ((hl.row.sl.all hin))) rfl ?_)|exact SW.qnil rfl)
   all_goals first|(exfalso;omega)|skip
   all_goals
    refine SW.build1 rfl rfl rfl rfl rfl fun b w4 hXX hb hB => ?_
    (replace hw:=Ext.trans hw hXX;replace hb5:=hb5.ext hXX;replace hb10:=hb10.ext hXX;replace hb11:=hb11.ext hXX;replace hO:=hO.ext hXX;replace hE:=hE.ext hXX)
    refine SW.append hO (Blk.sl1 (enc:=encL) (x:=ls[i]) hB) hb11.lt rfl rfl rfl (hbA _ hq1).1 (hbA _ hq1).2 fun A2 c2 w5 hO1 hg => ?_
    have hG:=hO.gr hg
    replace hw:=ext_grown hw hg (Nat.le_trans hb11w (Nat.le_succ _)) hO.row_ge
    replace hb11:=hb11.grown hg (fun e=>Nat.not_succ_le_self _ (hO.row_ge b11 e.symm))
    (replace hb5:=hb5.grT hG rfl;replace hb10:=hb10.grT hG rfl;replace hE:=hE.grT hG rfl)
    repeat' (first|(refine CW.region ?_)|(first|refine Post.seq ?_|refine Post.blk ?_)|refine SW.nil ?_|refine SW.pure rfl rfl ?_|(show SW _ _ _ _ (⟨_,Op.binOp _ _ _ _ _,_,_,_,none⟩::_) _ _;refine SW.st (st_add rfl rfl (by omega) (by omega)) rfl ?_))
    refine Post.again (i+1,A2,c2,R++[ls[i]]) ⟨rfl,rfl,rfl,rfl,rfl,rfl,by simp only;rw [el];rfl,by simp only;rw [d1];rfl,rfl,trivial⟩ (by simp only;omega) ⟨by simp only;omega,hw,hb5,hb10,hb11,by simp only;rw [el];exact hO1,?_⟩
    simp only
    rw [ee]
    exact hE.snoc ((hl.each.get i hils hil).ext hw)
 ·have ei:i=L.length:=by omega
  subst ei
  by_cases hk:kpos L x<L.length
  ·have ee:=setPre_done hk
   rw [ee] at hO hE
   rw [ee,decide_eq_true hk]
   repeat' (first|(first|refine CW.seq ?_|refine CW.region ?_|refine CW.condd_f rfl (by omega) ?_|refine CW.condf rfl ?_|refine CW.skip ?_|refine CW.exit ?_)|(first|refine Post.seq ?_|refine Post.seq_exit ?_|refine Post.hit ?_|refine Post.again_exit ?_)|refine SW.nil ?_|refine SW.pure rfl rfl ?_|(show SW _ _ _ _ (⟨_,Op.fieldAddr _ _ _,_,_,_,none⟩::_) _ _;refine SW.st (st_field rfl) rfl ?_)|(show SW _ _ _ _ (⟨_,Op.call ⟨.builtin .len,_,_⟩,_,_,_,none⟩::_) _ _;refine SW.st (st_len rfl) rfl ?_)|(show SW _ _ _ _ (⟨_,Op.load _ _,_,_,_,none⟩::_) _ _;refine SW.st (st_load rfl (hb5.cell (i:=3) (v := .slice r.Lists.A r.Lists.n r.Lists.c) rfl)) rfl ?_))
   refine SW.storeB (i:=3) hb5 rfl rfl rfl rfl fun w6 hb5' hg => ?_
   have hG:=hb5.gr hg
   replace hw:=hw.own hb5w hg
   replace hb10:=hb10.grown hg (by simpa using Ne.symm hne510)
   (replace hO:=hO.grT hG rfl;replace hE:=hE.grT hG rfl)
   repeat' (first|(first|refine CW.seq ?_|refine CW.region ?_)|(refine Post.seq ?_)|refine SW.nil ?_|(show SW _ _ _ _ (⟨_,Op.load _ _,_,_,_,none⟩::_) _ _;refine SW.st (st_loads rfl rfl ((fun _ _=>hb5'.cell))) rfl ?_))
   refine SW.storeAgg hb10 rfl rfl rfl rfl (one_h ⟨r.Zones,r.Mins,r.Cpus,⟨A,_,c⟩,r.Live⟩) fun w7 hR2 hg => ?_
   have hG:=hb10.gr hg
   replace hw:=hw.own hb10w hg
   (replace hO:=hO.grT hG rfl;replace hE:=hE.grT hG rfl)
   repeat' (first|(refine CW.ret ?_)|(refine Post.seq ?_)|refine SW.nil ?_)
   exact Post.ret1c rfl rfl hR2 rfl ⟨_,rfl,hw,⟨A,_,c⟩,R,rfl,⟨hO.low (by omega),hE.each⟩⟩
  ·have hq1:(setPre L x L.length).length≤r.Lists.n:=by have:=hlen2 (by omega);omega
   have ee:=setPre_last hk
   rw [decide_eq_false hk]
   repeat' (first|(first|refine CW.seq ?_|refine CW.region ?_|refine CW.condd_f rfl (by omega) ?_|refine CW.condt rfl ?_|refine CW.exit ?_)|(first|refine Post.seq ?_|refine Post.seq_exit ?_|refine Post.hit ?_|refine Post.again_exit ?_)|refine SW.nil ?_|refine SW.pure rfl rfl ?_|(show SW _ _ _ _ (⟨_,Op.fieldAddr _ _ _,_,_,_,none⟩::_) _ _;refine SW.st (st_field rfl) rfl ?_)|(show SW _ _ _ _ (⟨_,Op.call ⟨.builtin .len,_,_⟩,_,_,_,none⟩::_) _ _;refine SW.st (st_len rfl) rfl ?_)|(show SW _ _ _ _ (⟨_,Op.load _ _,_,_,_,none⟩::_) _ _;first|refine SW.st (st_load rfl (hb5.cell (i:=3) (v := .slice r.Lists.A r.Lists.n r.Lists.c) rfl)) rfl ?_|refine SW.st (st_loads rfl rfl ((fun _ _=>hb11.cell))) rfl ?_))
   refine SW.build1 rfl rfl rfl rfl rfl fun b w4 hXX hb hB => ?_
   (replace hw:=Ext.trans hw hXX;replace hb5:=hb5.ext hXX;replace hb10:=hb10.ext hXX;replace hb11:=hb11.ext hXX;replace hO:=hO.ext hXX;replace hE:=hE.ext hXX)
   refine SW.append hO (Blk.sl1 (enc:=encL) (x:=y) hB) hb11.lt rfl rfl rfl (hbA _ hq1).1 (hbA _ hq1).2 fun A2 c2 w5 hO1 hg => ?_
   have hG:=hO.gr hg
   replace hw:=ext_grown hw hg (Nat.le_trans hb11w (Nat.le_succ _)) hO.row_ge
   replace hb11:=hb11.grown hg (fun e=>Nat.not_succ_le_self _ (hO.row_ge b11 e.symm))
   (replace hb5:=hb5.grT hG rfl;replace hb10:=hb10.grT hG rfl;replace hE:=hE.grT hG rfl)
   replace hE:=hE.snoc (hy.ext hw)
   rw [ee] at hE
   repeat' (first|(first|refine CW.seq ?_|refine CW.region ?_)|(refine Post.seq ?_)|refine SW.nil ?_|refine SW.pure rfl rfl ?_|(show SW _ _ _ _ (⟨_,Op.fieldAddr _ _ _,_,_,_,none⟩::_) _ _;refine SW.st (st_field rfl) rfl ?_))
   refine SW.storeB (i:=3) hb5 rfl rfl rfl rfl fun w6 hb5' hg => ?_
   have hG:=hb5.gr hg
   replace hw:=hw.own hb5w hg
   replace hb10:=hb10.grown hg (by simpa using Ne.symm hne510)
   (replace hO1:=hO1.grT hG rfl;replace hE:=hE.grT hG rfl)
   repeat' (first|(first|refine CW.seq ?_|refine CW.region ?_)|(refine Post.seq ?_)|refine SW.nil ?_|(show SW _ _ _ _ (⟨_,Op.load _ _,_,_,_,none⟩::_) _ _;refine SW.st (st_loads rfl rfl ((fun _ _=>hb5'.cell))) rfl ?_))
   refine SW.storeAgg hb10 rfl rfl rfl rfl (one_h ⟨r.Zones,r.Mins,r.Cpus,⟨A2,_,c2⟩,r.Live⟩) fun w7 hR2 hg => ?_
   have hG:=hb10.gr hg
   replace hw:=hw.own hb10w hg
   (replace hO1:=hO1.grT hG rfl;replace hE:=hE.grT hG rfl)
   repeat' (first|(refine CW.ret ?_)|(refine Post.seq ?_)|refine SW.nil ?_)
   exact Post.ret1c rfl rfl hR2 rfl ⟨_,rfl,hw,⟨A2,_,c2⟩,R++[y],rfl,⟨hO1.low (by omega),hE.each⟩⟩
open Go.RowKit
def ordI (l:List Block) (a:Int) (i:Nat) : Int:=if (foundA l a && decide (lbOf l a<i))=true then (l.getD (lbOf l a) ⟨0,0,0⟩).Order else -1
theorem ordI_zero (l:List Block) (a:Int) : ordI l a 0 = -1:=by simp [ordI]
theorem ordI_hit {l:List Block} (hu:l.Pairwise fun x y=>x.At<y.At) {a:Int} {i:Nat} (hi:i<l.length) (h:l[i].At=a) : ordI l a (i+1)=l[i].Order:=by
 obtain ⟨e1,e2⟩:=found_uniq hu hi h
 have:l.getD i ⟨0,0,0⟩=l[i]:=by rw [List.getD_eq_getElem?_getD,List.getElem?_eq_getElem hi];rfl
 rw [ordI,e1,e2,this,decide_eq_true (Nat.lt_succ_self i)]
 rfl
theorem ordI_miss {l:List Block} {a:Int} {i:Nat} (hi:i<l.length) (h:l[i].At≠a) : ordI l a (i+1)=ordI l a i:=by
 have key:(foundA l a && decide (lbOf l a<i+1))=(foundA l a && decide (lbOf l a<i)):=by
  cases e:foundA l a with
  | false=>rfl
  | true =>
   obtain ⟨hk,hka⟩:=found_at e
   have hne:lbOf l a≠i:=fun e=>h (by simp only [← e];exact hka)
   simp only [Bool.true_and]
   by_cases h1:lbOf l a<i
   ·rw [decide_eq_true h1,decide_eq_true (by omega)]
   ·rw [decide_eq_false h1,decide_eq_false (by omega)]
 unfold ordI
 rw [key]
theorem ordI_all {l:List Block} {a:Int} {k:Nat} (h:foundA l a=true) (hk:k<l.length) (e:lbOf l a=k) : ordI l a l.length=l[k].Order:=by
 have:l.getD k ⟨0,0,0⟩=l[k]:=by rw [List.getD_eq_getElem?_getD,List.getElem?_eq_getElem hk];rfl
 unfold ordI
 rw [h,e,decide_eq_true hk,this]
 rfl
theorem ordI_none {l:List Block} {a:Int} (h:foundA l a=false) (i:Nat) : ordI l a i = -1:=by simp [ordI,h]
set_option maxHeartbeats 16000000 in
theorem HeapFree_ans (r:HRow) (h:Heap) (cpu a:Int) (w:World) (hr:RdH w r h) (hs:h.small) (hzn:∀ z∈h.Zones,big64 z) (ha : -9223372036854775808≤a∧a≤9223372036854775807) :
  Ans Tryz.prog 50 [.agg (encH r).toArray,.int .i64 cpu,.int .i64 a] w (HeapOut w.heap.size (freeV h cpu a)):=by
 refine ans_of Tryz.func50 rfl Tryz.ntmps50 rfl ?_
 refine CW.seq (CW.region (SW.box rfl rfl fun b3 w1 hw hb3b hb3 => ?_))
 refine SW.alloc rfl fun b6 w2 hw2 hb6b hb6 => ?_
 have hb6w:w.heap.size≤b6:=Nat.le_trans hw.size hb6b
 (replace hw:=Ext.trans hw hw2;replace hb3:=hb3.ext hw2)
 have eC:=hr.cpus
 obtain ⟨q,hq⟩ : ∃ q,heapB h=q:=⟨_,rfl⟩
 have c1:∀ w',Ext w w'→Ans Tryz.prog 66 [.agg (encH r).toArray] w' fun v _=>v = .bool q:=fun w' hx=>by
  have:=HMay_ans r h w' (hr.ext hx) hs hzn
  rwa [hq] at this
 cases q
 ·rw [freeV_8 hq]
  repeat' (first|(first|refine CW.seq ?_|refine CW.region ?_|refine CW.condt rfl ?_)|(refine Post.seq ?_)|refine SW.nil ?_|refine SW.pure rfl rfl ?_|(show SW _ _ _ _ (⟨_,Op.build _ _,_,_,_,none⟩::_) _ _;refine SW.st (st_build rfl rfl) rfl ?_)|(show SW _ _ _ _ (⟨_,Op.load _ _,_,_,_,none⟩::_) _ _;refine SW.st (st_loads rfl rfl ((fun _ _=>hb3.cell))) rfl ?_)|(show SW _ _ _ _ (⟨_,Op.call ⟨.value (.func _),_,_⟩,_,_,_,none⟩::_) _ _;(refine SW.call rfl rfl (c1 _ hw) ?_;intro v w1 hw1 hv;subst hv;replace hw:=Ext.trans hw hw1;replace hb3:=hb3.ext hw1;replace hb6:=hb6.ext hw1;clear hw1)))
  refine SW.storeAgg hb6 rfl rfl rfl rfl (one_h .zero) fun w5 hR2 hg => ?_
  replace hw:=hw.own hb6w hg
  repeat' (first|(refine CW.ret ?_)|(first|refine Post.seq ?_|refine Post.seq_ret ?_)|refine SW.nil ?_|refine SW.pure rfl rfl ?_)
  exact Post.ret2c rfl rfl rfl hR2 rfl ⟨_,rfl,hw,HeapOut.zero 8 _ _⟩
 ·have hm:=heapB_iff.1 hq
  obtain ⟨z0,z1,f⟩:=fheap_of hm
  have hcp:=f.cpus
  by_cases hc : 0≤cpu∧cpu<h.Cpus
  ·repeat' (first|(first|refine CW.seq ?_|refine CW.region ?_|refine CW.block ?_|refine CW.condn_f rfl (by omega) ?_|refine CW.condf rfl ?_|refine CW.skip ?_)|(refine Post.seq ?_)|refine SW.nil ?_|refine SW.pure rfl rfl ?_|(show SW _ _ _ _ (⟨_,Op.fieldAddr _ _ _,_,_,_,none⟩::_) _ _;refine SW.st (st_field rfl) rfl ?_)|(show SW _ _ _ _ (⟨_,Op.binOp _ _ _ _ _,_,_,_,none⟩::_) _ _;refine SW.st (st_sub rfl rfl (by omega) (by omega)) rfl ?_)|(show SW _ _ _ _ (⟨_,Op.load _ _,_,_,_,none⟩::_) _ _;first|refine SW.st (st_loads rfl rfl ((fun _ _=>hb3.cell))) rfl ?_|refine SW.st (st_load rfl (hb3.cell (i:=2) (v := .int .i64 r.Cpus) rfl)) rfl ?_)|(show SW _ _ _ _ (⟨_,Op.call ⟨.value (.func _),_,_⟩,_,_,_,none⟩::_) _ _;first|(refine SW.call rfl rfl (c1 _ hw) ?_;intro v w1 hw1 hv;subst hv;replace hw:=Ext.trans hw hw1;replace hb3:=hb3.ext hw1;replace hb6:=hb6.ext hw1;clear hw1)|(refine SW.call rfl rfl (In_ans _ _ _ _) ?_;intro v w1 hw1 hv;subst hv;replace hw:=Ext.trans hw hw1;replace hb3:=hb3.ext hw1;replace hb6:=hb6.ext hw1;clear hw1)))
   all_goals first|(exfalso;omega)|skip
   clear c1
   have hvl:=hr.live.len
   have s2:=hs.live
   have hlt:=live_lt f.live
   have hAv:=hr.live.base
   refine CW.loop (fun i:Nat=>[(1,.int .i64 cpu),(2,.int .i64 a),(3,.pointer (some ⟨b3,0,none⟩)),(6,.pointer (some ⟨b6,0,none⟩)),(8,.int .i64 (ordI h.Live a i)),(9,.int .i64 (i:Int))])
    (fun i w'=>i≤r.Live.n∧Ext w w'∧Blk w' b3 27 (encH r)∧Blk w' b6 27 (encH .zero)) (fun i=>r.Live.n-i) 0
    ⟨rfl,rfl,rfl,rfl,by rw [ordI_zero];rfl,rfl,trivial⟩ ⟨by omega,hw,hb3,hb6⟩ ?_
   clear hw hb3 hb6
   rintro i w' ⟨hi,hw,hb3,hb6⟩
   by_cases hin:i<r.Live.n
   ·have hil:i<h.Live.length:=by omega
    have g0:=hr.live.fld hin (j:=0) (u := .int .i64 h.Live[i].At) rfl
    have g1:=hr.live.fld hin (j:=1) (u := .int .i64 h.Live[i].Order) rfl
    by_cases hat:h.Live[i].At=a
    ·have eo:=ordI_hit hlt hil hat
     repeat' (first|(first|refine CW.seq ?_|refine CW.region ?_|refine CW.block ?_|refine CW.condd_t rfl (by omega) ?_|refine CW.skip ?_)|(first|refine Post.seq ?_|refine Post.blk ?_)|refine SW.nil ?_|refine SW.pure rfl rfl ?_|(show SW _ _ _ _ (⟨_,Op.fieldAddr _ _ _,_,_,_,none⟩::_) _ _;refine SW.st (st_field rfl) rfl ?_)|(show SW _ _ _ _ (⟨_,Op.binOp _ _ _ _ _,_,_,_,none⟩::_) _ _;refine SW.st (st_add rfl rfl (by omega) (by omega)) rfl ?_)|(show SW _ _ _ _ (⟨_,Op.indexAddr _ _ _,_,_,_,none⟩::_) _ _;refine SW.st (st_indexN rfl rfl (by assumption) (by omega)) rfl ?_)|(show SW _ _ _ _ (⟨_,Op.call ⟨.builtin .len,_,_⟩,_,_,_,none⟩::_) _ _;refine SW.st (st_len rfl) rfl ?_)|(show SW _ _ _ _ (⟨_,Op.load _ _,_,_,_,none⟩::_) _ _;first|refine SW.st (st_load rfl (hb3.cell (i:=4) (v := .slice r.Live.A r.Live.n r.Live.c) rfl)) rfl ?_|refine SW.st (st_loadx hw rfl g0) rfl ?_|refine SW.st (st_loadx hw rfl g1) rfl ?_))
     exact Post.again (i+1) ⟨rfl,rfl,rfl,rfl,by rw [eo];rfl,rfl,trivial⟩ (by omega) ⟨by omega,hw,hb3,hb6⟩
    ·have eo:=ordI_miss hil hat
     repeat' (first|(first|refine CW.seq ?_|refine CW.region ?_|refine CW.block ?_|refine CW.condd_t rfl (by omega) ?_|refine CW.condd_f rfl (by omega) ?_|refine CW.skip ?_)|(first|refine Post.seq ?_|refine Post.blk ?_)|refine SW.nil ?_|refine SW.pure rfl rfl ?_|(show SW _ _ _ _ (⟨_,Op.fieldAddr _ _ _,_,_,_,none⟩::_) _ _;refine SW.st (st_field rfl) rfl ?_)|(show SW _ _ _ _ (⟨_,Op.binOp _ _ _ _ _,_,_,_,none⟩::_) _ _;refine SW.st (st_add rfl rfl (by omega) (by omega)) rfl ?_)|(show SW _ _ _ _ (⟨_,Op.indexAddr _ _ _,_,_,_,none⟩::_) _ _;refine SW.st (st_indexN rfl rfl (by assumption) (by omega)) rfl ?_)|(show SW _ _ _ _ (⟨_,Op.call ⟨.builtin .len,_,_⟩,_,_,_,none⟩::_) _ _;refine SW.st (st_len rfl) rfl ?_)|(show SW _ _ _ _ (⟨_,Op.load _ _,_,_,_,none⟩::_) _ _;first|refine SW.st (st_load rfl (hb3.cell (i:=4) (v := .slice r.Live.A r.Live.n r.Live.c) rfl)) rfl ?_|refine SW.st (st_loadx hw rfl g0) rfl ?_))
     exact Post.again (i+1) ⟨rfl,rfl,rfl,rfl,by rw [eo];rfl,rfl,trivial⟩ (by omega) ⟨by omega,hw,hb3,hb6⟩
   ·have ei:i=h.Live.length:=by omega
    subst ei
    cases hf:foundA h.Live a
    ·rw [freeV_4 hq hc hf,ordI_none hf]
     repeat' (first|(first|refine CW.seq ?_|refine CW.region ?_|refine CW.condd_t rfl (by omega) ?_|refine CW.condd_f rfl (by omega) ?_|refine CW.exit ?_)|(first|refine Post.seq ?_|refine Post.seq_exit ?_|refine Post.hit ?_|refine Post.again_exit ?_)|refine SW.nil ?_|refine SW.pure rfl rfl ?_|(show SW _ _ _ _ (⟨_,Op.fieldAddr _ _ _,_,_,_,none⟩::_) _ _;refine SW.st (st_field rfl) rfl ?_)|(show SW _ _ _ _ (⟨_,Op.build _ _,_,_,_,none⟩::_) _ _;refine SW.st (st_build rfl rfl) rfl ?_)|(show SW _ _ _ _ (⟨_,Op.call ⟨.builtin .len,_,_⟩,_,_,_,none⟩::_) _ _;refine SW.st (st_len rfl) rfl ?_)|(show SW _ _ _ _ (⟨_,Op.load _ _,_,_,_,none⟩::_) _ _;refine SW.st (st_load rfl (hb3.cell (i:=4) (v := .slice r.Live.A r.Live.n r.Live.c) rfl)) rfl ?_))
     refine SW.storeAgg hb6 rfl rfl rfl rfl (one_h .zero) fun w5 hR2 hg => ?_
     replace hw:=hw.own hb6w hg
     repeat' (first|(refine CW.ret ?_)|(first|refine Post.seq ?_|refine Post.seq_ret ?_)|refine SW.nil ?_|refine SW.pure rfl rfl ?_)
     exact Post.ret2c rfl rfl rfl hR2 rfl ⟨_,rfl,hw,HeapOut.zero 4 _ _⟩
    ·rw [freeV_0 hq hc hf]
     obtain ⟨hk,hka⟩:=found_at hf
     obtain ⟨k,ek⟩ : ∃ k,lbOf h.Live a=k:=⟨_,rfl⟩
     simp only [ek] at hk hka
     have hlk:=f.live.each k hk
     have hNx:=f.next hk
     have hord:=hlk.1
     rw [ordI_all hf hk ek]
     repeat' (first|(first|refine CW.seq ?_|refine CW.region ?_|refine CW.condd_f rfl (by omega) ?_|refine CW.skip ?_|refine CW.exit ?_)|(first|refine Post.seq ?_|refine Post.seq_exit ?_|refine Post.hit ?_|refine Post.again_exit ?_)|refine SW.nil ?_|refine SW.pure rfl rfl ?_|(show SW _ _ _ _ (⟨_,Op.fieldAddr _ _ _,_,_,_,none⟩::_) _ _;refine SW.st (st_field rfl) rfl ?_)|(show SW _ _ _ _ (⟨_,Op.call ⟨.builtin .len,_,_⟩,_,_,_,none⟩::_) _ _;refine SW.st (st_len rfl) rfl ?_)|(show SW _ _ _ _ (⟨_,Op.load _ _,_,_,_,none⟩::_) _ _;first|refine SW.st (st_load rfl (hb3.cell (i:=4) (v := .slice r.Live.A r.Live.n r.Live.c) rfl)) rfl ?_|refine SW.st (st_loads rfl rfl ((fun _ _=>hb3.cell))) rfl ?_))
     refine SW.call rfl rfl (HeapCopy_ans r h _ (hr.ext hw) hs) fun v w4 hw4 hv => ?_
     obtain ⟨s,rfl,hO⟩:=hv
     replace hO:=hO.low hw.size
     (replace hw:=Ext.trans hw hw4;replace hb3:=hb3.ext hw4;replace hb6:=hb6.ext hw4)
     have hlt6:=hb6.lt
     have hlt3:=hb3.lt
     refine SW.alloc rfl fun b10 w1 hw1 hb10b hb10 => ?_
     skip
     refine SW.storeAgg hb10 rfl rfl rfl rfl (one_h s) fun w2 hb10' hg => ?_
     have hXX:=hw1.own hb10b hg
     have hb10w:w.heap.size≤b10:=Nat.le_trans hw.size hb10b
     replace hw:=Ext.trans hw hXX
     replace hb3:=hb3.ext hXX
     replace hb6:=hb6.ext hXX
     replace hO:=hO.ext hXX
     replace hb10:=hb10'
     clear hb10' hw1 hg hXX
     have hne310:b3≠b10:=by omega
     have hM:=hO.mins
     have hV0:=hO.live
     have ecp:=hO.cpus
     obtain ⟨g,c,u0,u1,ls,eZ,hZ,hRs⟩:=hO.split f.d.zones
     have hL:=hRs.lists
     clear hO hRs
     obtain ⟨sz,m,cp,li,lv⟩:=s
     simp only at eZ hM hV0 hL ecp
     subst eZ
     have hvn:=hV0.sl.len
     repeat' (first|(first|refine CW.seq ?_|refine CW.region ?_)|(refine Post.seq ?_)|refine SW.nil ?_|refine SW.pure rfl rfl ?_|(show SW _ _ _ _ (⟨_,Op.fieldAddr _ _ _,_,_,_,none⟩::_) _ _;refine SW.st (st_field rfl) rfl ?_)|(show SW _ _ _ _ (⟨_,Op.load _ _,_,_,_,none⟩::_) _ _;refine SW.st (st_load rfl (hb10.cell (i:=4) (v := .slice lv.A lv.n lv.c) rfl)) rfl ?_))
     refine SW.call rfl rfl (without_ans lv.A lv.n lv.c h.Live a h.Live[k].Order _ hV0.sl (by omega)) fun v w5 hw5 hv => ?_
     obtain ⟨B,cB,rfl,hV⟩:=hv
     replace hV:=hV.low hw.size
     (replace hw:=Ext.trans hw hw5;replace hb3:=hb3.ext hw5;replace hb6:=hb6.ext hw5;replace hb10:=hb10.ext hw5;replace hZ:=hZ.ext hw5;replace hM:=hM.ext hw5;replace hL:=hL.ext hw5)
     clear hV0
     have hne610:b6≠b10:=by omega
     repeat' (first|refine SW.pure rfl rfl ?_|(show SW _ _ _ _ (⟨_,Op.fieldAddr _ _ _,_,_,_,none⟩::_) _ _;refine SW.st (st_field rfl) rfl ?_))
     refine SW.storeB (i:=4) hb10 rfl rfl rfl rfl fun w7 hb10' hg => ?_
     have hG:=hb10.gr hg
     replace hw:=hw.own hb10w hg
     replace hb6:=hb6.grown hg (by simpa using hne610)
     replace hb3:=hb3.grown hg (by simpa using hne310)
     (replace hZ:=hZ.grT hG rfl;replace hM:=hM.grT hG rfl;replace hV:=hV.grT hG rfl;replace hL:=hL.grT hG rfl)
     replace hb10:Blk w7 b10 27 (encH ⟨⟨some ⟨g,0,none⟩,2,c⟩,m,cp,li,⟨B,(without h.Live a h.Live[k].Order).length,cB⟩⟩):=hb10'
     clear hb10' hg hG
     have hera:=erase_at hlt hk hka rfl
     have hg6:b6≠g:=fun e=>hZ.row.ne_blk hb6 rfl (by rw [hZ.own,e])
     have hg10:b10≠g:=fun e=>hZ.row.ne_blk hb10 rfl (by rw [hZ.own,e])
     by_cases ho : 0<h.Live[k].Order
     ·rw [freedV_big f.d.zones hk ek ho,hera]
      repeat' (first|(first|refine CW.seq ?_|refine CW.region ?_|refine CW.condd_t rfl (by omega) ?_)|(refine Post.seq ?_)|refine SW.nil ?_|refine SW.pure rfl rfl ?_|(show SW _ _ _ _ (⟨_,Op.load _ _,_,_,_,none⟩::_) _ _;refine SW.st (st_loads rfl rfl ((fun _ _=>hb10.cell))) rfl ?_))
      have hcall:=fun w' (h1:ZsOwn w' w.heap.size g c u0 u1 (z0,z1)) (h2:w.heap.size≤w'.heap.size)=>returned_ans m cp li ⟨B,(without h.Live a h.Live[k].Order).length,cB⟩ u0 u1 _ _ h.Live[k] w.heap.size g c w' h1 h2 f.d.start hNx
      rw [hka] at hcall
      refine SW.callX rfl rfl (hcall _ hZ hw.size) fun v w8 hv => ?_
      obtain ⟨rfl,hg,u2,u3,hZ'⟩:=hv
      have hG:=hZ.gr hg
      replace hw:=hw.own hZ.glo hg
      (replace hb6:=hb6.grT hG rfl;replace hM:=hM.grT hG rfl;replace hV:=hV.grT hG rfl;replace hL:=hL.grT hG rfl)
      clear hZ hg hG
      refine SW.storeAgg hb6 rfl rfl rfl rfl (one_h ⟨⟨some ⟨g,0,none⟩,2,c⟩,m,cp,li,⟨B,(without h.Live a h.Live[k].Order).length,cB⟩⟩) fun w9 hR2 hg => ?_
      have hG:=hb6.gr hg
      replace hw:=hw.own hb6w hg
      replace hZ':=hZ'.grT hG rfl
      (replace hM:=hM.grT hG rfl;replace hV:=hV.grT hG rfl;replace hL:=hL.grT hG rfl)
      repeat' (first|(refine CW.ret ?_)|(first|refine Post.seq ?_|refine Post.seq_ret ?_)|refine SW.nil ?_|refine SW.pure rfl rfl ?_)
      exact Post.ret2c rfl rfl rfl hR2 rfl ⟨_,rfl,hw,⟨⟨some ⟨g,0,none⟩,2,c⟩,m,cp,li,⟨B,(without h.Live a h.Live[k].Order).length,cB⟩⟩,rfl,⟨ecp,hM,hV,⟨[u2,u3],⟨hZ'.row,All2.two hZ'.z0 hZ'.z1⟩⟩,⟨ls,hL⟩⟩⟩
     ·rw [freedV_one f.d.zones hk ek ho,hera]
      have hA2:=hNx.at_
      rw [hka] at hA2
      have hmd:=f.d.mid
      have ht1:=f.d.to1
      obtain ⟨zs,hzs⟩:=hr.zones
      have l0:=hzs.each.len
      rw [f.d.zones] at l0
      obtain ⟨v0,v1,rfl⟩:=two_of (show zs.length=2 from l0)
      have r0:=hzs.each.get 0 (by simp) (by simp [f.d.zones])
      have r1:=hzs.each.get 1 (by simp) (by simp [f.d.zones])
      simp only [f.d.zones] at r0 r1
      have r0:RdZ w v0 z0:=r0
      have r1:RdZ w v1 z1:=r1
      have e1F:=r1.from_
      have hAz:=hzs.row.base
      have hzn2 : 2=r.Zones.n:=hzs.row.len
      have hsel:∃ (zi:Nat) (ui:ZRow) (zz:Zone),∃ k0:zi<2,[v0,v1][zi]'k0=ui∧(if a<v1.From then (0:Int) else 1)=(zi:Int)∧RdZ w ui zz∧ZoneMay zz∧(zz.From≤a∧a<zz.To)∧keyOf z0 z1 cpu a=⟨cpu,(zi:Int),typeZ zz a,[]⟩:=by
       by_cases hx:a<z0.To
       ·exact ⟨0,v0,z0,by omega,rfl,by rw [if_pos (by omega)];rfl,r0,f.d.may0,⟨by have:=f.d.from0;omega,hx⟩,by unfold keyOf;rw [if_pos hx,if_pos hx];rfl⟩
       ·exact ⟨1,v1,z1,by omega,rfl,by rw [if_neg (by omega)];rfl,r1,f.d.may1,⟨by omega,by omega⟩,by unfold keyOf;rw [if_neg hx,if_neg hx];rfl⟩
      obtain ⟨zi,ui,zz,k0,hui,hzi,hoz,hmz,⟨hz1,hz2⟩,hkey⟩:=hsel
      have cz:∀ w',Ext w w'→Ans Tryz.prog 83 [.agg (encH r).toArray,.int .i64 a] w' fun v _=>v = .int .i64 (zi:Int):=fun w' hx=>by
       have:=zoneAt2_ans r v0 v1 a w' (hzs.row.ext hx)
       rwa [hzi] at this
      obtain ⟨ti,hti,htl⟩:=typeIdx hmz hz1 hz2
      have hzr:zi<r.Zones.n:=by omega
      have hoF:=hoz.from_
      have htn:=hoz.types.len
      have hAt:=hoz.types.base
      have fz0:=hzs.row.fld hzr (j:=0) (u := .int .i64 ui.From) (by simp only [hui];rfl)
      have fz3:=hzs.row.fld hzr (j:=3) (u := .slice ui.Types.A ui.Types.n ui.Types.c) (by simp only [hui];rfl)
      have hti2:ti<ui.Types.n:=by omega
      have ft:=hoz.types.one hti2 rfl
      have etz:typeZ zz a=zz.Types[ti]:=by
       unfold typeZ
       rw [hti,Int.toNat_natCast,List.getD_eq_getElem?_getD,List.getElem?_eq_getElem htl];rfl
      obtain ⟨t,ht⟩ : ∃ t,zz.Types[ti]=t:=⟨_,rfl⟩
      rw [ht] at ft etz
      have hmo:=hmz.ok
      unfold zoneOk at hmo
      repeat' (first|(first|refine CW.seq ?_|refine CW.region ?_|refine CW.condd_f rfl (by omega) ?_|refine CW.skip ?_)|(refine Post.seq ?_)|refine SW.nil ?_|refine SW.pure rfl rfl ?_|(show SW _ _ _ _ (⟨_,Op.load _ _,_,_,_,none⟩::_) _ _;refine SW.st (st_loads rfl rfl ((fun _ _=>hb3.cell))) rfl ?_)|(show SW _ _ _ _ (⟨_,Op.call ⟨.value (.func _),_,_⟩,_,_,_,none⟩::_) _ _;(refine SW.call rfl rfl (cz _ hw) ?_;intro v w1 hw1 hv;subst hv;replace hw:=Ext.trans hw hw1;replace hb3:=hb3.ext hw1;replace hb6:=hb6.ext hw1;replace hb10:=hb10.ext hw1;replace hZ:=hZ.ext hw1;replace hM:=hM.ext hw1;replace hV:=hV.ext hw1;replace hL:=hL.ext hw1;clear hw1)))
      (apply CW.quiet1 mixed;(· kernel_rfl);rotate_left;intro w1 hw1;replace hw:=Ext.trans hw hw1;replace hb3:=hb3.ext hw1;replace hb6:=hb6.ext hw1;replace hb10:=hb10.ext hw1;replace hZ:=hZ.ext hw1;replace hM:=hM.ext hw1;replace hV:=hV.ext hw1;replace hL:=hL.ext hw1;clear hw1;rotate_right)
      repeat' (first|(first|refine CW.seq ?_|refine CW.region ?_)|(refine Post.seq ?_)|refine SW.pure rfl rfl ?_|(show SW _ _ _ _ (⟨_,Op.fieldAddr _ _ _,_,_,_,none⟩::_) _ _;refine SW.st (st_field rfl) rfl ?_)|(show SW _ _ _ _ (⟨_,Op.binOp _ _ _ _ _,_,_,_,none⟩::_) _ _;first|refine SW.st (st_sub rfl rfl (by omega) (by omega)) rfl ?_|refine SW.st (st_quo rfl rfl (by omega) (by omega) (by omega)) rfl ?_)|(show SW _ _ _ _ (⟨_,Op.indexAddr _ _ _,_,_,_,none⟩::_) _ _;first|refine SW.st (st_indexN rfl rfl (by assumption) (by omega)) rfl ?_|refine SW.st (st_indexI (ti) rfl rfl (by assumption) (by omega) (by omega)) rfl ?_)|(show SW _ _ _ _ (⟨_,Op.load _ _,_,_,_,none⟩::_) _ _;first|refine SW.st (st_load rfl (hb3.cell (i:=0) (v := .slice r.Zones.A r.Zones.n r.Zones.c) rfl)) rfl ?_|refine SW.st (st_loadx hw rfl fz0) rfl ?_|refine SW.st (st_loadx hw rfl fz3) rfl ?_|refine SW.st (st_loadx hw rfl ft) rfl ?_)|exact SW.qnil rfl)
      obtain ⟨x,hx⟩ : ∃ x:PList,x=⟨cpu,zi,t,[]⟩:=⟨_,rfl⟩
      have hkey2:keyOf z0 z1 cpu a=x:=by rw [hkey,etz,hx]
      rw [hkey2]
      obtain ⟨pg,hpg⟩ : ∃ pg,pagesAt h.Lists x++[a]=pg:=⟨_,rfl⟩
      rw [hpg]
      have hpb:∀ l∈h.Lists,l.Pages.length*8≤140737488355328:=fun l hl=>by have:=(f.lists l hl).2;omega
      have hcnt:=f.count
      have hlnn:li.n≤256:=by have:=hL.rd.len.2;omega
      have hpl0:(pagesAt h.Lists x).length≤8:=by
       cases e:khere h.Lists x with
       | false=>rw [pagesAt_f e];simp
       | true =>
        obtain ⟨h1,_⟩:=khere_t e
        rw [pagesAt_t e h1]
        exact (f.lists _ (List.getElem_mem h1)).2
      have hpgl:pg.length=(pagesAt h.Lists x).length+1:=by rw [← hpg];simp
      repeat' (first|refine SW.pure rfl rfl ?_|(show SW _ _ _ _ (⟨_,Op.load _ _,_,_,_,none⟩::_) _ _;refine SW.st (st_loads rfl rfl ((fun _ _=>hb10.cell))) rfl ?_))
      have hlo:=listOf_ans ⟨⟨some ⟨g,0,none⟩,2,c⟩,m,cp,li,⟨B,(without h.Live a h.Live[k].Order).length,cB⟩⟩ h.Lists ls x _ hL.rd f.sorted (by simp only;omega) hpb
      rw [hx] at hlo
      refine SW.call rfl rfl hlo fun v w5 hX5 hv => ?_
      rw [← hx] at hv
      obtain ⟨A3,c3,rfl,hP3⟩:=hv
      repeat' (refine SW.pure rfl rfl ?_)
      refine SW.build1 rfl rfl rfl rfl rfl fun b w6 hX6 hb hB => ?_
      replace hP3:=hP3.ext hX6
      replace hX5:=Ext.trans hX5 hX6
      refine SW.append hP3 (Blk.sl1 (enc:=encI) hB) hX5.size rfl rfl rfl (by omega) (by omega) fun A4 c4 w7 hPg hg => ?_
      have hX7:=ext_grown hX5 hg (Nat.le_refl _) hP3.row_ge
      replace hPg:=hPg.low hw.size
      rw [hpg,← hpgl] at hPg
      rw [← hpgl]
      (replace hw:=Ext.trans hw hX7;replace hb6:=hb6.ext hX7;replace hb10:=hb10.ext hX7;replace hZ:=hZ.ext hX7;replace hM:=hM.ext hX7;replace hV:=hV.ext hX7;replace hL:=hL.ext hX7)
      clear hX7 hX5 hP3 hg hB hX6 hb3
      obtain ⟨n4,hn4⟩ : ∃ n4,pg.length=n4:=⟨_,rfl⟩
      rw [hn4] at hPg
      rw [hn4]
      have hcap:=hPg.le
      have hn9:n4≤9:=by omega
      have hn1 : 1≤n4:=by omega
      by_cases h8 : 8<pg.length
      ·have hkh:khere h.Lists x=true:=by
        cases e:khere h.Lists x with
        | true=>rfl
        | false=>rw [pagesAt_f e] at hpg;rw [← hpg] at h8;simp at h8
       obtain ⟨p0,hp0⟩ : ∃ p0,kpos h.Lists x=p0:=⟨_,rfl⟩
       have hk0:p0<h.Lists.length:=by rw [← hp0];exact (khere_t hkh).1
       have hpa:pagesAt h.Lists x=h.Lists[p0].Pages:=by
        rw [pagesAt_t hkh (by omega)]
        simp only [hp0]
       rw [hpa] at hpg hpgl
       have htk:∀ j,j≤4→pg.take j=h.Lists[p0].Pages.take j:=fun j hj=>by rw [← hpg,List.take_append_of_le_length (by omega)]
       have hget:∀ (j:Nat) (hj:j<pg.length) (hj':j<h.Lists[p0].Pages.length),pg[j]=h.Lists[p0].Pages[j]:=fun j hj hj'=>by
        simp only [← hpg]
        exact List.getElem_append_left hj'
       have efr:freedOne h z0 z1 x pg (without h.Live a h.Live[k].Order)=⟨[(backAll (z0,z1) ((pg.take 4).map pageB)).1,(backAll (z0,z1) ((pg.take 4).map pageB)).2],h.Mins,h.Cpus,setL h.Lists (withP x (pg.drop 4)),without h.Live a h.Live[k].Order⟩:=by
        unfold freedOne
        rw [if_pos h8]
       rw [efr]
       repeat' (first|(first|refine CW.seq ?_|refine CW.region ?_|refine CW.block ?_|refine CW.condd_t rfl (by omega) ?_)|(refine Post.seq ?_)|refine SW.nil ?_|refine SW.pure rfl rfl ?_|(show SW _ _ _ _ (⟨_,Op.call ⟨.builtin .len,_,_⟩,_,_,_,none⟩::_) _ _;refine SW.st (st_len rfl) rfl ?_))
       refine CW.loop (fun t':Nat×ZRow×ZRow=>[(1,.int .i64 cpu),(2,.int .i64 a),(6,.pointer (some ⟨b6,0,none⟩)),(10,.pointer (some ⟨b10,0,none⟩)),(11,.int .i64 (zi:Int)),(12,.int .i64 t),(13,.slice A4 n4 c4),(14,.int .i64 (t'.1:Int))])
        (fun t' w'=>t'.1≤4∧Ext w w'∧Blk w' b10 27 (encH ⟨⟨some ⟨g,0,none⟩,2,c⟩,m,cp,li,⟨B,(without h.Live a h.Live[k].Order).length,cB⟩⟩)∧Blk w' b6 27 (encH .zero)∧ZsOwn w' w.heap.size g c t'.2.1 t'.2.2 (backAll (z0,z1) ((pg.take t'.1).map pageB))∧Own w' w.heap.size 3 1 encI m.A m.n m.c h.Mins∧Own w' w.heap.size 94 3 encBk B (without h.Live a h.Live[k].Order).length cB (without h.Live a h.Live[k].Order)∧OwnLs w' w.heap.size li ls h.Lists∧Own w' w.heap.size 3 1 encI A4 n4 c4 pg) (fun t'=>4-t'.1) (0,u0,u1)
        ⟨rfl,rfl,rfl,rfl,rfl,rfl,rfl,rfl,trivial⟩ ⟨by omega,hw,hb10,hb6,by simpa [backAll] using hZ,hM,hV,hL,hPg⟩ ?_
       clear hw hb6 hb10 hZ hM hV hL hPg hg10 hg6
       rintro ⟨j,u0,u1⟩ w' ⟨hj,hw,hb10,hb6,hZ,hM,hV,hL,hPg⟩
       simp only at hj hZ ⊢
       have hApp:=hPg.sl.base
       by_cases hj4:j<4
       ·have hjn:j<n4:=by omega
        have hjp:j<pg.length:=by omega
        have hD:=f.inv hk0 j (by omega)
        have hN:=f.page hk0 (show j<h.Lists[p0].Pages.length by omega)
        have hbt:backAll (z0,z1) ((pg.take (j+1)).map pageB)=backP (backAll (z0,z1) ((pg.take j).map pageB)) (pageB pg[j]):=by
         rw [List.take_succ_eq_append_getElem hjp,List.map_append,backAll_append];rfl
        rw [← htk j hj,← hget j hjp (by omega)] at hN
        rw [← htk j hj] at hD
        repeat' (first|(first|refine CW.seq ?_|refine CW.region ?_|refine CW.block ?_|refine CW.condd_t rfl (by omega) ?_|refine CW.skip ?_)|(refine Post.seq ?_)|refine SW.nil ?_|refine SW.pure rfl rfl ?_)
        refine CW.any 5 mixed (rb_tail (by kernel_rfl)) rfl fun w1 hw1 hRB => ?_
        replace hw:=Ext.trans hw hw1;replace hb10:=hb10.ext hw1;replace hb6:=hb6.ext hw1;replace hZ:=hZ.ext hw1;replace hM:=hM.ext hw1;replace hV:=hV.ext hw1;replace hL:=hL.ext hw1;replace hPg:=hPg.ext hw1;clear hw1
        refine SA.take 0 hRB rfl (by kernel_rfl) (by kernel_rfl) rfl ?_
        repeat ((show SW _ _ _ _ (⟨_,Op.load _ _,_,_,_,none⟩::_) _ _;refine SW.st (st_loads rfl rfl ((fun _ _=>hb10.cell))) rfl ?_))
        refine SW.tknil ?_
        refine SA.take 1 hRB rfl (by kernel_rfl) (by kernel_rfl) rfl ?_
        repeat (refine SW.pure rfl rfl ?_)
        refine SW.tknil ?_
        refine SA.take 2 hRB rfl (by kernel_rfl) (by kernel_rfl) rfl ?_
        repeat (refine SW.pure rfl rfl ?_)
        refine SW.tknil ?_
        refine SA.take 3 hRB rfl (by kernel_rfl) (by kernel_rfl) rfl ?_
        repeat ((show SW _ _ _ _ (⟨_,Op.indexAddr _ _ _,_,_,_,none⟩::_) _ _;refine SW.st (st_indexN rfl rfl (by assumption) (by omega)) rfl ?_))
        refine SW.tknil ?_
        refine SA.take 4 hRB rfl (by kernel_rfl) (by kernel_rfl) rfl ?_
        repeat ((show SW _ _ _ _ (⟨_,Op.load _ _,_,_,_,none⟩::_) _ _;refine SW.st (st_load rfl (hPg.sl.one hjn rfl)) rfl ?_))
        refine SW.tknil ?_
        refine SA.done (by kernel_rfl) ?_
        refine SW.callX rfl rfl (returned_ans m cp li ⟨B,(without h.Live a h.Live[k].Order).length,cB⟩ u0 u1 _ _ (pageB pg[j]) w.heap.size g c _ hZ hw.size hD hN) fun v w8 hv => ?_
        obtain ⟨rfl,hg,u2,u3,hZ'⟩:=hv
        have hG:=hZ.gr hg
        replace hw:=hw.own hZ.glo hg
        (replace hb10:=hb10.grT hG rfl;replace hb6:=hb6.grT hG rfl;replace hM:=hM.grT hG rfl;replace hV:=hV.grT hG rfl;replace hL:=hL.grT hG rfl;replace hPg:=hPg.grT hG rfl)
        refine SW.storeAgg hb10 rfl rfl rfl rfl (one_h ⟨⟨some ⟨g,0,none⟩,2,c⟩,m,cp,li,⟨B,(without h.Live a h.Live[k].Order).length,cB⟩⟩) fun w9 hb10' hg' => ?_
        have hG':=hb10.gr hg'
        replace hw:=hw.own hb10w hg'
        replace hb6:=hb6.grown hg' (by simpa using hne610)
        (replace hZ':=hZ'.grT hG' rfl;replace hM:=hM.grT hG' rfl;replace hV:=hV.grT hG' rfl;replace hL:=hL.grT hG' rfl;replace hPg:=hPg.grT hG' rfl)
        repeat' (first|(refine CW.region ?_)|(first|refine Post.seq ?_|refine Post.blk ?_|refine Post.np ?_)|refine SW.nil ?_|refine SW.pure rfl rfl ?_|(show SW _ _ _ _ (⟨_,Op.binOp _ _ _ _ _,_,_,_,none⟩::_) _ _;refine SW.st (st_add rfl rfl (by omega) (by omega)) rfl ?_))
        exact Post.again (j+1,u2,u3) ⟨rfl,rfl,rfl,rfl,rfl,rfl,rfl,rfl,trivial⟩ (by simp only;omega) ⟨by simp only;omega,hw,hb10',hb6,by simp only;rw [hbt];exact hZ',hM,hV,hL,hPg⟩
       ·obtain rfl:j=4:=by omega
        repeat' (first|(first|refine CW.seq ?_|refine CW.region ?_|refine CW.condd_f rfl (by omega) ?_|refine CW.exit ?_)|(first|refine Post.seq ?_|refine Post.seq_exit ?_|refine Post.hit ?_|refine Post.again_exit ?_)|refine SW.nil ?_|refine SW.pure rfl rfl ?_|(refine SW.st (st_sliceLo (k:=4) rfl rfl (by omega) (by omega)) rfl ?_))
        refine CW.any 6 mixed (rb_tail (by kernel_rfl)) rfl fun w1 hw1 hRB => ?_
        replace hw:=Ext.trans hw hw1;replace hb10:=hb10.ext hw1;replace hb6:=hb6.ext hw1;replace hZ:=hZ.ext hw1;replace hM:=hM.ext hw1;replace hV:=hV.ext hw1;replace hL:=hL.ext hw1;replace hPg:=hPg.ext hw1;clear hw1
        refine SA.take 0 hRB rfl (by kernel_rfl) (by kernel_rfl) rfl ?_
        repeat ((show SW _ _ _ _ (⟨_,Op.load _ _,_,_,_,none⟩::_) _ _;refine SW.st (st_loads rfl rfl ((fun _ _=>hb10.cell))) rfl ?_))
        refine SW.tknil ?_
        refine SA.take 1 hRB rfl (by kernel_rfl) (by kernel_rfl) rfl ?_
        repeat (refine SW.pure rfl rfl ?_)
        refine SW.tknil ?_
        refine SA.take 2 hRB rfl (by kernel_rfl) (by kernel_rfl) rfl ?_
        repeat (refine SW.pure rfl rfl ?_)
        refine SW.tknil ?_
        refine SA.take 3 hRB rfl (by kernel_rfl) (by kernel_rfl) rfl ?_
        repeat (refine SW.pure rfl rfl ?_)
        refine SW.tknil ?_
        refine SA.take 4 hRB rfl (by kernel_rfl) (by kernel_rfl) rfl ?_
        repeat (refine SW.pure rfl rfl ?_)
        refine SW.tknil ?_
        refine SA.one 5 rfl (by kernel_rfl) rfl ?_
        refine SW.call rfl rfl (words_ans _ _ _ _ _ (hPg.sl.drop 4 c4 (by omega) (by omega)) (by omega)) fun v w4 hXX hv => ?_
        obtain ⟨X,c4,rfl,hX⟩:=hv
        replace hX:=hX.low hw.size
        (replace hw:=Ext.trans hw hXX;replace hb10:=hb10.ext hXX;replace hb6:=hb6.ext hXX;replace hZ:=hZ.ext hXX;replace hM:=hM.ext hXX;replace hV:=hV.ext hXX;replace hL:=hL.ext hXX)
        refine SW.nil (Post.sa hXX ?_)
        refine SA.done (by kernel_rfl) ?_
        refine SW.call rfl rfl (setList_ans ⟨⟨some ⟨g,0,none⟩,2,c⟩,m,cp,li,⟨B,(without h.Live a h.Live[k].Order).length,cB⟩⟩ h.Lists ls (withP x (pg.drop 4)) ⟨cpu,zi,t,⟨X,(n4-4),c4⟩⟩ w.heap.size _ hL ⟨by rw [hx];rfl,by rw [hx];rfl,by rw [hx];rfl,hX⟩ f.sorted hw.size (show 0<(n4-4) by omega) (by simp only;omega)) fun v w5 hXX hv => ?_
        obtain ⟨s5,R5,rfl,hL5⟩:=hv
        (replace hw:=Ext.trans hw hXX;replace hb10:=hb10.ext hXX;replace hb6:=hb6.ext hXX;replace hZ:=hZ.ext hXX;replace hM:=hM.ext hXX;replace hV:=hV.ext hXX)
        refine SW.storeAgg hb6 rfl rfl rfl rfl (one_h ⟨⟨some ⟨g,0,none⟩,2,c⟩,m,cp,s5,⟨B,(without h.Live a h.Live[k].Order).length,cB⟩⟩) fun w9 hR2 hg => ?_
        have hG:=hb6.gr hg
        replace hw:=hw.own hb6w hg
        (replace hZ:=hZ.grT hG rfl;replace hM:=hM.grT hG rfl;replace hV:=hV.grT hG rfl;replace hL5:=hL5.grT hG rfl)
        repeat' (first|(refine CW.ret ?_)|(first|refine Post.seq ?_|refine Post.np ?_)|refine SW.nil ?_|refine SW.pure rfl rfl ?_)
        exact Post.ret2c rfl rfl rfl hR2 rfl ⟨_,rfl,hw,⟨⟨some ⟨g,0,none⟩,2,c⟩,m,cp,s5,⟨B,(without h.Live a h.Live[k].Order).length,cB⟩⟩,rfl,⟨ecp,hM,hV,⟨[u0,u1],⟨hZ.row,All2.two hZ.z0 hZ.z1⟩⟩,⟨R5,hL5⟩⟩⟩
      ·have efr:freedOne h z0 z1 x pg (without h.Live a h.Live[k].Order)=⟨[z0,z1],h.Mins,h.Cpus,setL h.Lists (withP x pg),without h.Live a h.Live[k].Order⟩:=by
        unfold freedOne
        rw [if_neg h8]
       rw [efr]
       repeat' (first|(first|refine CW.seq ?_|refine CW.region ?_|refine CW.condd_f rfl (by omega) ?_|refine CW.skip ?_)|(refine Post.seq ?_)|refine SW.nil ?_|refine SW.pure rfl rfl ?_|(show SW _ _ _ _ (⟨_,Op.call ⟨.builtin .len,_,_⟩,_,_,_,none⟩::_) _ _;refine SW.st (st_len rfl) rfl ?_))
       refine CW.any 6 mixed (rb_tail (by kernel_rfl)) rfl fun w1 hw1 hRB => ?_
       replace hw:=Ext.trans hw hw1;replace hb10:=hb10.ext hw1;replace hb6:=hb6.ext hw1;replace hZ:=hZ.ext hw1;replace hM:=hM.ext hw1;replace hV:=hV.ext hw1;replace hL:=hL.ext hw1;replace hPg:=hPg.ext hw1;clear hw1
       refine SA.take 0 hRB rfl (by kernel_rfl) (by kernel_rfl) rfl ?_
       repeat ((show SW _ _ _ _ (⟨_,Op.load _ _,_,_,_,none⟩::_) _ _;refine SW.st (st_loads rfl rfl ((fun _ _=>hb10.cell))) rfl ?_))
       refine SW.tknil ?_
       refine SA.take 1 hRB rfl (by kernel_rfl) (by kernel_rfl) rfl ?_
       repeat (refine SW.pure rfl rfl ?_)
       refine SW.tknil ?_
       refine SA.take 2 hRB rfl (by kernel_rfl) (by kernel_rfl) rfl ?_
       repeat (refine SW.pure rfl rfl ?_)
       refine SW.tknil ?_
       refine SA.take 3 hRB rfl (by kernel_rfl) (by kernel_rfl) rfl ?_
       repeat (refine SW.pure rfl rfl ?_)
       refine SW.tknil ?_
       refine SA.take 4 hRB rfl (by kernel_rfl) (by kernel_rfl) rfl ?_
       repeat (refine SW.pure rfl rfl ?_)
       refine SW.tknil ?_
       refine SA.one 5 rfl (by kernel_rfl) rfl ?_
       refine SW.call rfl rfl (words_ans _ _ _ _ _ (hPg.sl) (by omega)) fun v w4 hXX hv => ?_
       obtain ⟨X,c4,rfl,hX⟩:=hv
       replace hX:=hX.low hw.size
       (replace hw:=Ext.trans hw hXX;replace hb10:=hb10.ext hXX;replace hb6:=hb6.ext hXX;replace hZ:=hZ.ext hXX;replace hM:=hM.ext hXX;replace hV:=hV.ext hXX;replace hL:=hL.ext hXX)
       refine SW.nil (Post.sa hXX ?_)
       refine SA.done (by kernel_rfl) ?_
       refine SW.call rfl rfl (setList_ans ⟨⟨some ⟨g,0,none⟩,2,c⟩,m,cp,li,⟨B,(without h.Live a h.Live[k].Order).length,cB⟩⟩ h.Lists ls (withP x pg) ⟨cpu,zi,t,⟨X,n4,c4⟩⟩ w.heap.size _ hL ⟨by rw [hx];rfl,by rw [hx];rfl,by rw [hx];rfl,hX⟩ f.sorted hw.size (show 0<n4 by omega) (by simp only;omega)) fun v w5 hXX hv => ?_
       obtain ⟨s5,R5,rfl,hL5⟩:=hv
       (replace hw:=Ext.trans hw hXX;replace hb10:=hb10.ext hXX;replace hb6:=hb6.ext hXX;replace hZ:=hZ.ext hXX;replace hM:=hM.ext hXX;replace hV:=hV.ext hXX)
       refine SW.storeAgg hb6 rfl rfl rfl rfl (one_h ⟨⟨some ⟨g,0,none⟩,2,c⟩,m,cp,s5,⟨B,(without h.Live a h.Live[k].Order).length,cB⟩⟩) fun w9 hR2 hg => ?_
       have hG:=hb6.gr hg
       replace hw:=hw.own hb6w hg
       (replace hZ:=hZ.grT hG rfl;replace hM:=hM.grT hG rfl;replace hV:=hV.grT hG rfl;replace hL5:=hL5.grT hG rfl)
       repeat' (first|(refine CW.ret ?_)|(first|refine Post.seq ?_|refine Post.np ?_)|refine SW.nil ?_|refine SW.pure rfl rfl ?_)
       exact Post.ret2c rfl rfl rfl hR2 rfl ⟨_,rfl,hw,⟨⟨some ⟨g,0,none⟩,2,c⟩,m,cp,s5,⟨B,(without h.Live a h.Live[k].Order).length,cB⟩⟩,rfl,⟨ecp,hM,hV,⟨[u0,u1],⟨hZ.row,All2.two hZ.z0 hZ.z1⟩⟩,⟨R5,hL5⟩⟩⟩
  ·rw [freeV_1 hq hc]
   repeat' (first|(first|refine CW.seq ?_|refine CW.region ?_|refine CW.condn_t rfl (by omega) ?_|refine CW.condf rfl ?_|refine CW.skip ?_)|(refine Post.seq ?_)|refine SW.nil ?_|refine SW.pure rfl rfl ?_|(show SW _ _ _ _ (⟨_,Op.fieldAddr _ _ _,_,_,_,none⟩::_) _ _;refine SW.st (st_field rfl) rfl ?_)|(show SW _ _ _ _ (⟨_,Op.build _ _,_,_,_,none⟩::_) _ _;refine SW.st (st_build rfl rfl) rfl ?_)|(show SW _ _ _ _ (⟨_,Op.binOp _ _ _ _ _,_,_,_,none⟩::_) _ _;refine SW.st (st_sub rfl rfl (by omega) (by omega)) rfl ?_)|(show SW _ _ _ _ (⟨_,Op.load _ _,_,_,_,none⟩::_) _ _;first|refine SW.st (st_loads rfl rfl ((fun _ _=>hb3.cell))) rfl ?_|refine SW.st (st_load rfl (hb3.cell (i:=2) (v := .int .i64 r.Cpus) rfl)) rfl ?_)|(show SW _ _ _ _ (⟨_,Op.call ⟨.value (.func _),_,_⟩,_,_,_,none⟩::_) _ _;first|(refine SW.call rfl rfl (c1 _ hw) ?_;intro v w1 hw1 hv;subst hv;replace hw:=Ext.trans hw hw1;replace hb3:=hb3.ext hw1;replace hb6:=hb6.ext hw1;clear hw1)|(refine SW.call rfl rfl (In_ans _ _ _ _) ?_;intro v w1 hw1 hv;subst hv;replace hw:=Ext.trans hw hw1;replace hb3:=hb3.ext hw1;replace hb6:=hb6.ext hw1;clear hw1)))
   all_goals first|(exfalso;omega)|skip
   all_goals
    refine SW.storeAgg hb6 rfl rfl rfl rfl (one_h .zero) fun w5 hR2 hg => ?_
    replace hw:=hw.own hb6w hg
    repeat' (first|(refine CW.ret ?_)|(first|refine Post.seq ?_|refine Post.seq_ret ?_)|refine SW.nil ?_|refine SW.pure rfl rfl ?_)
    exact Post.ret2c rfl rfl rfl hR2 rfl ⟨_,rfl,hw,HeapOut.zero 1 _ _⟩
end Go.Proofs.YtigikedbffjeiaaGreat
