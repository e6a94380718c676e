/-
  Texts of the claim SlabDestroys, part 15: what its theorem leans on.
-/
import Derived.Test.YtigikedbffjeiaaGreatPackSlabDestroys8
set_option linter.unusedVariables false
set_option linter.unusedSimpArgs false
namespace Go.Proofs.YtigikedbffjeiaaGreat
open Go.RowKit
structure GB (w w':World) (b:Nat) : Prop where
 g:w.grownBy w' (some b)
theorem GB.refl (w:World) (b:Nat) : GB w w b:=⟨World.grownBy.refl _ _⟩
theorem GB.ext {w w1 w2:World} {b:Nat} (h:GB w w1 b) (hx:Ext w1 w2) : GB w w2 b:=⟨grown_trans h.g (hx.gr (some b)) (.inl rfl)⟩
theorem GB.step {w w1 w2:World} {b:Nat} (h:GB w w1 b) (hg:w1.grownBy w2 (some b)) : GB w w2 b:=⟨grown_trans h.g hg (.inl rfl)⟩
theorem markP_ans (b:Nat) (s:Option (List Block)) (p:Int) (N:Nat) (hN:N=256) (w:World) (hM:Marks w b N s) (hs:goodS s) :
  AnsX Tryz.prog 89 [.pointer (some ⟨b,0,none⟩),.int .i64 p,.int .i64 1] w fun v w'=>Marks w' b N (addB s (pageB p))∧w.grownBy w' (some b):=by
 have h:=markB_ans b s (pageB p) N hN w hM hs (by simp [pageB,pw_zero])
 simp only [pageB,pw_zero] at h ⊢
 exact h
def ListsRes (w wE:World) (b N:Nat) (s:Option (List Block)) (h:Heap) (to:Int) (v:Value) (w':World) : Prop :=
 Ext w w'∧wE.grownBy w' (some b)∧((v = .bool true∧ListsOk h.Cpus to h.Lists∧Marks w' b N (addAll s (pagesB h.Lists)))∨(v = .bool false ∧ ¬ (ListsOk h.Cpus to h.Lists∧(addAll s (pagesB h.Lists)).isSome=true)))
structure LPre (cpus to:Int) (ls:List PList) (k:Nat) : Prop where
 head:∀ (i:Nat) (h:i<ls.length),i<k→headOk cpus ls[i]
 next:∀ (i:Nat) (h:i+1<ls.length),i+1<k→aheadL ls[i] ls[i+1]
 zone:∀ (i:Nat) (h:i<ls.length),i<k → ∀ p∈(ls[i]).Pages,(p<to↔(ls[i]).Zone=0)
theorem LPre.nil (cpus to:Int) (ls:List PList) : LPre cpus to ls 0:=⟨fun i _ h=>by omega,fun i _ h=>by omega,fun i _ h=>by omega⟩
theorem LPre.all {cpus to:Int} {ls:List PList} {k:Nat} (h:LPre cpus to ls k) (hk:ls.length≤k) : ListsOk cpus to ls:=⟨fun i hi=>h.head i hi (by omega),fun i hi=>h.next i hi (by omega),fun i hi=>h.zone i hi (by omega)⟩
theorem LPre.snoc {cpus to:Int} {ls:List PList} {k:Nat} (h:LPre cpus to ls k) (hk:k<ls.length) (h1:headOk cpus ls[k]) (h2:∀ (h : 0<k),aheadL ls[k-1] ls[k]) (h3:∀ p∈(ls[k]).Pages,(p<to↔(ls[k]).Zone=0)) : LPre cpus to ls (k+1):=by
 refine ⟨fun i hi hik => ?_,fun i hi hik => ?_,fun i hi hik => ?_⟩
 ·by_cases e:i=k
  ·subst e;exact h1
  ·exact h.head i hi (by omega)
 ·by_cases e:i+1=k
  ·subst e;exact h2 (by omega)
  ·exact h.next i hi (by omega)
 ·by_cases e:i=k
  ·subst e;exact h3
  ·exact h.zone i hi (by omega)
theorem pagesB_none {s:Option (List Block)} {ls:List PList} {k j:Nat} (hk:k<ls.length) (hj:j≤(ls[k]).Pages.length) (h:addAll (addAll s (pagesB (ls.take k))) (((ls[k]).Pages.take j).map pageB)=none) : addAll s (pagesB ls)=none:=by
 rw [← addAll_append] at h
 have e:pagesB ls=(pagesB (ls.take k)++((ls[k]).Pages.take j).map pageB)++(((ls[k]).Pages.drop j).map pageB++pagesB (ls.drop (k+1))):=by
  have e1:ls=ls.take (k+1)++ls.drop (k+1):=by simp
  have e2:((ls[k]).Pages.take j).map pageB++((ls[k]).Pages.drop j).map pageB=(ls[k]).Pages.map pageB:=by rw [← List.map_append,List.take_append_drop]
  have e3:pagesB ls=pagesB (ls.take (k+1))++pagesB (ls.drop (k+1)):=by unfold pagesB;rw [← List.flatMap_append,← e1]
  rw [e3,pagesB_take _ _ hk,← e2]
  simp only [List.append_assoc]
 rw [e,addAll_append,h,addAll_none]
set_option maxHeartbeats 8000000 in
theorem lists_ans (r:HRow) (h:Heap) (r0 r1:ZRow) (z0 z1:Zone) (b N:Nat) (hN:N=256) (s:Option (List Block)) (w wE:World) (hw:Ext w wE) (hbw:w.heap.size≤b) (hr:RdH2 w r h r0 r1 z0 z1) (hM:Marks wE b N s) (hgs:goodS s) (hsm:r.Lists.n≤1000000000000000000) :
  AnsX Tryz.prog 90 [.agg (encH r).toArray,.pointer (some ⟨b,0,none⟩)] wE (ListsRes w wE b N s h z0.To):=by
 refine ansx_of Tryz.func90 rfl Tryz.ntmps90 rfl ?_
 have hE:=GB.refl wE b
 refine CW.seq (CW.region (SW.box rfl rfl fun b2 w2 hw2 hb2b hb2 => ?_))
 (replace hw:=Ext.trans hw hw2;replace hM:=hM.ext hw2;replace hE:=hE.ext hw2)
 obtain ⟨ls,hl⟩:=hr.rd.lists
 have hcp:=hr.rd.cpus
 obtain ⟨hl1,hl2⟩:=hl.len
 have hA:=hl.row.base
 repeat' (first|(first|refine CW.seq ?_|refine CW.region ?_|refine CW.block ?_)|(refine Post.seq ?_)|refine SW.nil ?_|refine SW.pure rfl rfl ?_|(show SW _ _ _ _ (⟨_,Op.fieldAddr _ _ _,_,_,_,none⟩::_) _ _;refine SW.st (st_field rfl) rfl ?_)|(show SW _ _ _ _ (⟨_,Op.call ⟨.builtin .len,_,_⟩,_,_,_,none⟩::_) _ _;refine SW.st (st_len rfl) rfl ?_)|(show SW _ _ _ _ (⟨_,Op.load _ _,_,_,_,none⟩::_) _ _;refine SW.st (st_load rfl (hb2.cell rfl)) rfl ?_))
 refine CW.loop (fun k:Nat=>[(1,.pointer (some ⟨b,0,none⟩)),(2,.pointer (some ⟨b2,0,none⟩)),(10,.slice r.Lists.A r.Lists.n r.Lists.c),(11,.int .i64 (r.Lists.n:Int)),(12,.int .i64 (k:Int))])
  (fun k w'=>k≤r.Lists.n∧Ext w w'∧GB wE w' b∧Blk w' b2 27 (encH r)∧Marks w' b N (addAll s (pagesB (h.Lists.take k)))∧LPre h.Cpus z0.To h.Lists k) (fun k=>r.Lists.n-k) 0
  ⟨rfl,rfl,rfl,rfl,rfl,trivial⟩ ⟨by omega,hw,hE,hb2,hM,.nil _ _ _⟩ ?_
 clear hw hE hb2 hM hw2
 rintro k w' ⟨hk,hw,hE,hb2,hM,hP⟩
 by_cases hkn:k<r.Lists.n
 ·have hkl:k<ls.length:=by omega
  have hkh:k<h.Lists.length:=by omega
  have hrl:=hl.each.get k hkl hkh
  have hlc:=hrl.cpu
  have hlz:=hrl.zone
  have hlt:=hrl.ty
  have hln:=hrl.pages.len
  have hAp:=hrl.pages.base
  have hpg:=hrl.pages
  have hrow:=hl.row.all hkn
  have hrow':=hl.row.all (i:=k-1) (show k-1<r.Lists.n by omega)
  have hgk:goodS (addAll s (pagesB (h.Lists.take k))):=goodS_all hgs fun x hx=>by
   unfold pagesB at hx
   obtain ⟨y,_,hy⟩:=List.mem_flatMap.1 hx
   obtain ⟨p,_,rfl⟩:=List.mem_map.1 hy
   simp [pageB,pw_zero]
  repeat' (first|(first|refine CW.seq ?_|refine CW.region ?_|refine CW.block ?_|refine CW.condd_t rfl (by omega) ?_|refine CW.skip ?_)|(refine Post.seq ?_)|refine SW.nil ?_|refine SW.pure rfl rfl ?_|(show SW _ _ _ _ (⟨_,Op.indexAddr _ _ _,_,_,_,none⟩::_) _ _;refine SW.st (st_indexN rfl rfl (by assumption) (by omega)) rfl ?_)|(show SW _ _ _ _ (⟨_,Op.load _ _,_,_,_,none⟩::_) _ _;refine SW.st (st_loadsx hw rfl rfl ((hrow))) rfl ?_))
  refine SW.alloc rfl fun b6 w1 hw1 hb6b hb6 => ?_
  repeat' (refine SW.pure rfl rfl ?_)
  refine SW.storeAgg hb6 rfl rfl rfl rfl (Enc.one (enc:=encL) _) fun w2 hb6' hg => ?_
  have hXX:=hw1.own hb6b hg
  have hb6w:w.heap.size≤b6:=Nat.le_trans hw.size hb6b
  replace hw:=Ext.trans hw hXX
  replace hb2:=hb2.ext hXX
  replace hM:=hM.ext hXX
  replace hE:=hE.ext hXX
  replace hb6:=hb6'
  clear hb6' hw1 hg hXX
  repeat' (first|(refine CW.seq ?_)|(refine Post.seq ?_)|refine SW.nil ?_)
  by_cases hhd:headOk r.Cpus h.Lists[k]
  ·obtain ⟨e1,e2,e3,e4⟩:=id hhd
   obtain ⟨q,hq⟩ : ∃ q,decide (aheadL (h.Lists[k-1]'(by omega)) h.Lists[k])=q:=⟨_,rfl⟩
   have hrl1:=hl.each.get (k-1) (by omega) (by omega)
   have cL:∀ w',Ans Tryz.prog 113 [.agg (encL (ls[k-1]'(by omega))).toArray,.agg (encL ls[k]).toArray] w' fun v _=>v = .bool q:=fun w'=>by
    have:=lessL_ans (ls[k-1]'(by omega)) ls[k] (h.Lists[k-1]'(by omega)) h.Lists[k] w' ⟨hrl1.cpu,hrl1.zone,hrl1.ty⟩ ⟨hlc,hlz,hlt⟩
    rwa [hq] at this
   have hcase:k=0∨(0<k∧q=true)∨(0<k∧q=false):=by cases q<;>simp<;>omega
   rw [or_comm,or_assoc] at hcase
   rcases hcase with ⟨hk0,rfl⟩|⟨hk0,rfl⟩|hk0
   rotate_left
   ·repeat' (first|(first|refine CW.seq ?_|refine CW.region ?_|refine CW.condt rfl ?_|refine CW.ret ?_|(apply CW.quiet1 mixed;(· kernel_rfl);rotate_left;intro w1 hw1;replace hw:=Ext.trans hw hw1;replace hb2:=hb2.ext hw1;replace hb6:=hb6.ext hw1;replace hM:=hM.ext hw1;replace hE:=hE.ext hw1;clear hw1;rotate_right))|(first|refine Post.seq ?_|refine Post.seq_ret ?_|refine Post.blk_ret ?_|refine Post.again_ret ?_)|refine SW.nil ?_|(show SW _ _ _ _ (⟨_,_,_,_,_,some _⟩::_) _ _;first|refine SW.want_t rfl rfl (by with_reducible rfl) ?_|refine SW.want_f rfl rfl (by with_reducible rfl) ?_|refine SW.splitd_t rfl rfl rfl (by omega) ?_|refine SW.splitd_f rfl rfl rfl (by omega) ?_)|refine SW.pure rfl rfl ?_|(show SW _ _ _ _ (⟨_,Op.fieldAddr _ _ _,_,_,_,none⟩::_) _ _;refine SW.st (st_field rfl) rfl ?_)|(show SW _ _ _ _ (⟨_,Op.binOp _ _ _ _ _,_,_,_,none⟩::_) _ _;refine SW.st (st_sub rfl rfl (by omega) (by omega)) rfl ?_)|(show SW _ _ _ _ (⟨_,Op.indexAddr _ _ _,_,_,_,none⟩::_) _ _;refine SW.st (st_indexI (k-1) rfl rfl (by assumption) (by omega) (by omega)) rfl ?_)|(show SW _ _ _ _ (⟨_,Op.call ⟨.builtin .len,_,_⟩,_,_,_,none⟩::_) _ _;refine SW.st (st_len rfl) rfl ?_)|(show SW _ _ _ _ (⟨_,Op.load _ _,_,_,_,none⟩::_) _ _;first|refine SW.st (st_load rfl (hb6.cell rfl)) rfl ?_|refine SW.st (st_load rfl (hb2.cell rfl)) rfl ?_|refine SW.st (st_loadsx hw rfl rfl ((hrow'))) rfl ?_|refine SW.st (st_loads rfl rfl ((fun _ _=>hb6.cell))) rfl ?_)|(show SW _ _ _ _ (⟨_,Op.call ⟨.value (.func _),_,_⟩,_,_,_,none⟩::_) _ _;refine SW.qcall rfl rfl (fun w1 hw1=>(cL _)) ?_)|exact SW.qnil rfl)
    exact Post.ret1 rfl rfl ⟨_,rfl,hw,hE.g,.inr ⟨rfl,fun hh=>by
     have:=hh.1.next (k-1) (by omega)
     simp only [show k-1+1=k by omega] at this
     exact of_decide_eq_false hq this⟩⟩
   all_goals
    have hah:∀ (h0 : 0<k),aheadL (h.Lists[k-1]'(by omega)) h.Lists[k]:=fun h0=>by first|exact of_decide_eq_true hq|omega
    repeat' (first|(first|refine CW.seq ?_|refine CW.region ?_|refine CW.block ?_|refine CW.condfr rfl (by with_reducible rfl) ?_|refine CW.condf rfl ?_|refine CW.skip ?_|(apply CW.quiet1 mixed;(· kernel_rfl);rotate_left;intro w1 hw1;replace hw:=Ext.trans hw hw1;replace hb2:=hb2.ext hw1;replace hb6:=hb6.ext hw1;replace hM:=hM.ext hw1;replace hE:=hE.ext hw1;clear hw1;rotate_right))|(refine Post.seq ?_)|refine SW.nil ?_|(show SW _ _ _ _ (⟨_,_,_,_,_,some _⟩::_) _ _;first|refine SW.want_t rfl rfl (by with_reducible rfl) ?_|refine SW.want_f rfl rfl (by with_reducible rfl) ?_|refine SW.skip_t rfl rfl (by with_reducible rfl) rfl ?_|refine SW.splitd_t rfl rfl rfl (by omega) ?_|refine SW.splitd_f rfl rfl rfl (by omega) ?_)|refine SW.pure rfl rfl ?_|(show SW _ _ _ _ (⟨_,Op.fieldAddr _ _ _,_,_,_,none⟩::_) _ _;refine SW.st (st_field rfl) rfl ?_)|(show SW _ _ _ _ (⟨_,Op.binOp _ _ _ _ _,_,_,_,none⟩::_) _ _;refine SW.st (st_sub rfl rfl (by omega) (by omega)) rfl ?_)|(show SW _ _ _ _ (⟨_,Op.indexAddr _ _ _,_,_,_,none⟩::_) _ _;refine SW.st (st_indexI (k-1) rfl rfl (by assumption) (by omega) (by omega)) rfl ?_)|(show SW _ _ _ _ (⟨_,Op.call ⟨.builtin .len,_,_⟩,_,_,_,none⟩::_) _ _;refine SW.st (st_len rfl) rfl ?_)|(show SW _ _ _ _ (⟨_,Op.load _ _,_,_,_,none⟩::_) _ _;first|refine SW.st (st_load rfl (hb6.cell rfl)) rfl ?_|refine SW.st (st_load rfl (hb2.cell rfl)) rfl ?_|refine SW.st (st_loadsx hw rfl rfl ((hrow'))) rfl ?_|refine SW.st (st_loads rfl rfl ((fun _ _=>hb6.cell))) rfl ?_)|(show SW _ _ _ _ (⟨_,Op.call ⟨.value (.func _),_,_⟩,_,_,_,none⟩::_) _ _;refine SW.qcall rfl rfl (fun w1 hw1=>(cL _)) ?_)|exact SW.qnil rfl)
    clear cL hq hrow hrow'
    refine CW.loop (fun j:Nat=>[(1,.pointer (some ⟨b,0,none⟩)),(2,.pointer (some ⟨b2,0,none⟩)),(6,.pointer (some ⟨b6,0,none⟩)),(10,.slice r.Lists.A r.Lists.n r.Lists.c),(11,.int .i64 (r.Lists.n:Int)),(12,.int .i64 (k:Int)),(75,.slice ls[k].Pages.A ls[k].Pages.n ls[k].Pages.c),(76,.int .i64 (ls[k].Pages.n:Int)),(77,.int .i64 (j:Int))])
     (fun j w'=>j≤ls[k].Pages.n∧Ext w w'∧GB wE w' b∧Blk w' b2 27 (encH r)∧Blk w' b6 75 (encL ls[k])∧Marks w' b N (addAll (addAll s (pagesB (h.Lists.take k))) ((h.Lists[k].Pages.take j).map pageB)) ∧ ∀ (i:Nat) (hi:i<h.Lists[k].Pages.length),i<j→(h.Lists[k].Pages[i]<z0.To↔h.Lists[k].Zone=0)) (fun j=>ls[k].Pages.n-j) 0
     ⟨rfl,rfl,rfl,rfl,rfl,rfl,rfl,rfl,rfl,trivial⟩ ⟨by omega,hw,hE,hb2,hb6,hM,fun i _ h=>by omega⟩ ?_
    clear hw hE hb2 hb6 hM hb6b hb6w
    rintro j w' ⟨hj,hw,hE,hb2,hb6,hM,hZ⟩
    by_cases hjn:j<ls[k].Pages.n
    ·have hjl:j<h.Lists[k].Pages.length:=by omega
     repeat' (first|(first|refine CW.seq ?_|refine CW.region ?_|refine CW.block ?_|refine CW.condd_t rfl (by omega) ?_|refine CW.skip ?_)|(refine Post.seq ?_)|refine SW.nil ?_|refine SW.pure rfl rfl ?_|(show SW _ _ _ _ (⟨_,Op.indexAddr _ _ _,_,_,_,none⟩::_) _ _;refine SW.st (st_indexN rfl rfl (by assumption) (by omega)) rfl ?_)|(show SW _ _ _ _ (⟨_,Op.load _ _,_,_,_,none⟩::_) _ _;refine SW.st (st_loadx hw rfl (hpg.one hjn rfl)) rfl ?_))
     refine SW.callX rfl rfl (markP_ans b _ h.Lists[k].Pages[j] N hN _ hM (goodS_all hgk fun x hx=>by
      obtain ⟨p,_,rfl⟩:=List.mem_map.1 hx
      simp [pageB,pw_zero])) fun v w5 hv => ?_
     obtain ⟨hM2,hg5⟩:=hv
     have hG:=hM.gr hg5
     replace hw:=hw.own hbw hg5
     replace hE:=hE.step hg5
     (replace hb2:=hb2.grT hG rfl;replace hb6:=hb6.grT hG rfl)
     have e5:addB (addAll (addAll s (pagesB (h.Lists.take k))) ((h.Lists[k].Pages.take j).map pageB)) (pageB h.Lists[k].Pages[j])=addAll (addAll s (pagesB (h.Lists.take k))) ((h.Lists[k].Pages.take (j+1)).map pageB):=by
      rw [List.take_succ_eq_append_getElem hjl,List.map_append,addAll_append];rfl
     rw [e5] at hM2
     have hbad:=hM2.bad hN
     generalize hp:h.Lists[k].Pages[j]=p
     obtain ⟨y,hy⟩ : ∃ y,(if p<z0.To then (0:Int) else 1)=y:=⟨_,rfl⟩
     have cZ:∀ w',Ext w w'→Ans Tryz.prog 76 [.agg (encH r).toArray,.int .i64 p] w' fun v _=>v = .int .i64 y:=fun w' hx=>by
      have:=Pzone_ans r h r0 r1 z0 z1 p w' (hr.ext hx)
      rwa [hy] at this
     cases hs:addAll (addAll s (pagesB (h.Lists.take k))) ((h.Lists[k].Pages.take (j+1)).map pageB) with
     | none =>
      rw [hs] at hbad
      repeat' (first|(first|refine CW.seq ?_|refine CW.region ?_|refine CW.condtr rfl (by with_reducible rfl) ?_|refine CW.ret ?_|(apply CW.quiet1 mixed;(· kernel_rfl);rotate_left;intro w1 hw1;replace hw:=Ext.trans hw hw1;replace hb2:=hb2.ext hw1;replace hb6:=hb6.ext hw1;replace hM2:=hM2.ext hw1;replace hE:=hE.ext hw1;clear hw1;rotate_right))|(first|refine Post.seq ?_|refine Post.seq_ret ?_|refine Post.blk_ret ?_|refine Post.again_ret ?_)|refine SW.nil ?_|(show SW _ _ _ _ (⟨_,_,_,_,_,some _⟩::_) _ _;refine SW.skip rfl rfl rfl rfl ?_)|refine SW.pure rfl rfl ?_|(show SW _ _ _ _ (⟨_,Op.fieldAddr _ _ _,_,_,_,none⟩::_) _ _;refine SW.st (st_field rfl) rfl ?_)|(show SW _ _ _ _ (⟨_,Op.nilCheck _,_,_,_,none⟩::_) _ _;refine SW.st (st_nilCheck rfl) rfl ?_)|(show SW _ _ _ _ (⟨_,Op.load _ _,_,_,_,none⟩::_) _ _;refine SW.st (st_load rfl hbad) rfl ?_)|exact SW.qnil rfl)
      exact Post.ret1 rfl rfl ⟨_,rfl,hw,hE.g,.inr ⟨rfl,fun hh=>by
       have:=hh.2
       rw [pagesB_none hkh (by omega) hs] at this
       cases this⟩⟩
     | some bs =>
      rw [hs] at hbad
      by_cases hz:y=ls[k].Zone
      ·repeat' (first|(first|refine CW.seq ?_|refine CW.region ?_|refine CW.condn_f rfl (by omega) ?_|refine CW.skip ?_|(apply CW.quiet1 mixed;(· kernel_rfl);rotate_left;intro w1 hw1;replace hw:=Ext.trans hw hw1;replace hb2:=hb2.ext hw1;replace hb6:=hb6.ext hw1;replace hM2:=hM2.ext hw1;replace hE:=hE.ext hw1;clear hw1;rotate_right))|(first|refine Post.seq ?_|refine Post.blk ?_)|refine SW.nil ?_|(show SW _ _ _ _ (⟨_,_,_,_,_,some _⟩::_) _ _;refine SW.want rfl rfl ?_)|refine SW.pure rfl rfl ?_|(show SW _ _ _ _ (⟨_,Op.fieldAddr _ _ _,_,_,_,none⟩::_) _ _;refine SW.st (st_field rfl) rfl ?_)|(show SW _ _ _ _ (⟨_,Op.nilCheck _,_,_,_,none⟩::_) _ _;refine SW.st (st_nilCheck rfl) rfl ?_)|(show SW _ _ _ _ (⟨_,Op.binOp _ _ _ _ _,_,_,_,none⟩::_) _ _;refine SW.st (st_add rfl rfl (by omega) (by omega)) rfl ?_)|(show SW _ _ _ _ (⟨_,Op.load _ _,_,_,_,none⟩::_) _ _;first|refine SW.st (st_load rfl hbad) rfl ?_|refine SW.st (st_load rfl (hb6.cell rfl)) rfl ?_|refine SW.st (st_loads rfl rfl ((fun _ _=>hb2.cell))) rfl ?_)|(show SW _ _ _ _ (⟨_,Op.call ⟨.value (.func _),_,_⟩,_,_,_,none⟩::_) _ _;refine SW.qcall rfl rfl (fun w1 hw1=>(cZ _ (Ext.trans hw hw1))) ?_)|exact SW.qnil rfl)
       refine Post.again (j+1) ⟨rfl,rfl,rfl,rfl,rfl,rfl,rfl,rfl,rfl,trivial⟩ (by omega) ⟨by omega,hw,hE,hb2,hb6,hM2,fun i hi hij => ?_⟩
       by_cases e:i=j
       ·subst e
        rw [hp]
        split at hy<;>constructor<;>intro _<;>omega
       ·exact hZ i hi (by omega)
      ·repeat' (first|(first|refine CW.seq ?_|refine CW.region ?_|refine CW.condn_t rfl (by omega) ?_|refine CW.ret ?_|(apply CW.quiet1 mixed;(· kernel_rfl);rotate_left;intro w1 hw1;replace hw:=Ext.trans hw hw1;replace hb2:=hb2.ext hw1;replace hb6:=hb6.ext hw1;replace hM2:=hM2.ext hw1;replace hE:=hE.ext hw1;clear hw1;rotate_right))|(first|refine Post.seq ?_|refine Post.seq_ret ?_|refine Post.blk_ret ?_|refine Post.again_ret ?_)|refine SW.nil ?_|(show SW _ _ _ _ (⟨_,_,_,_,_,some _⟩::_) _ _;refine SW.want rfl rfl ?_)|refine SW.pure rfl rfl ?_|(show SW _ _ _ _ (⟨_,Op.fieldAddr _ _ _,_,_,_,none⟩::_) _ _;refine SW.st (st_field rfl) rfl ?_)|(show SW _ _ _ _ (⟨_,Op.nilCheck _,_,_,_,none⟩::_) _ _;refine SW.st (st_nilCheck rfl) rfl ?_)|(show SW _ _ _ _ (⟨_,Op.load _ _,_,_,_,none⟩::_) _ _;first|refine SW.st (st_load rfl hbad) rfl ?_|refine SW.st (st_load rfl (hb6.cell rfl)) rfl ?_|refine SW.st (st_loads rfl rfl ((fun _ _=>hb2.cell))) rfl ?_)|(show SW _ _ _ _ (⟨_,Op.call ⟨.value (.func _),_,_⟩,_,_,_,none⟩::_) _ _;refine SW.qcall rfl rfl (fun w1 hw1=>(cZ _ (Ext.trans hw hw1))) ?_)|exact SW.qnil rfl)
       exact Post.ret1 rfl rfl ⟨_,rfl,hw,hE.g,.inr ⟨rfl,fun hh=>by
        have:=hh.1.zone k hkh p (by rw [← hp];exact List.getElem_mem _)
        split at hy<;>omega⟩⟩
    ·obtain rfl:j=ls[k].Pages.n:=by omega
     rw [List.take_of_length_le (l:=h.Lists[k].Pages) (by omega),← addAll_append,← pagesB_take _ _ hkh] at hM
     repeat' (first|(first|refine CW.seq ?_|refine CW.region ?_|refine CW.condd_f rfl (by omega) ?_|refine CW.exit ?_)|(first|refine Post.seq ?_|refine Post.seq_exit ?_|refine Post.hit ?_|refine Post.blk ?_|refine Post.again_exit ?_)|refine SW.nil ?_|refine SW.pure rfl rfl ?_|(show SW _ _ _ _ (⟨_,Op.binOp _ _ _ _ _,_,_,_,none⟩::_) _ _;refine SW.st (st_add rfl rfl (by omega) (by omega)) rfl ?_))
     refine Post.again (k+1) ⟨rfl,rfl,rfl,rfl,rfl,trivial⟩ (by omega) ⟨by omega,hw,hE,hb2,hM,hP.snoc hkh (by rwa [← hcp]) hah fun p hp => ?_⟩
     obtain ⟨i,hi,rfl⟩:=List.getElem_of_mem hp
     exact hZ i hi (by omega)
  ·have hno : ¬ ListsOk h.Cpus z0.To h.Lists:=fun hh=>hhd (by have:=hh.head k hkh;rwa [← hcp] at this)
   have hhd' : ¬ (((0≤ls[k].Cpu∧ls[k].Cpu<r.Cpus)∧(0≤ls[k].Zone∧ls[k].Zone≤1)∧(0≤ls[k].Ty∧ls[k].Ty≤2)∧(1≤ls[k].Pages.n∧ls[k].Pages.n≤8))):=fun hh=>hhd (by unfold headOk;omega)
   have hcs:ls[k].Cpu<0∨(0≤ls[k].Cpu∧(r.Cpus≤ls[k].Cpu∨(ls[k].Cpu<r.Cpus∧(ls[k].Zone<0∨(0≤ls[k].Zone∧(1<ls[k].Zone∨(ls[k].Zone≤1∧(ls[k].Ty<0∨(0≤ls[k].Ty∧(3≤ls[k].Ty∨(ls[k].Ty<3∧(ls[k].Pages.n=0∨(0<ls[k].Pages.n∧8<ls[k].Pages.n))))))))))))):=by omega
   rcases hcs with d|⟨d1,d|⟨d2,d|⟨d3,d|⟨d4,d|⟨d5,d|⟨d6,d|⟨d7,d⟩⟩⟩⟩⟩⟩⟩
   repeat' (first|(first|refine CW.seq ?_|refine CW.region ?_|refine CW.condtr rfl (by with_reducible rfl) ?_|refine CW.ret ?_|(apply CW.quiet1 mixed;(· kernel_rfl);rotate_left;intro w1 hw1;replace hw:=Ext.trans hw hw1;replace hb2:=hb2.ext hw1;replace hb6:=hb6.ext hw1;replace hM:=hM.ext hw1;replace hE:=hE.ext hw1;clear hw1;rotate_right))|(first|refine Post.seq ?_|refine Post.seq_ret ?_|refine Post.blk_ret ?_|refine Post.again_ret ?_)|refine SW.nil ?_|(show SW _ _ _ _ (⟨_,_,_,_,_,some _⟩::_) _ _;first|refine SW.want_f rfl rfl (by with_reducible rfl) ?_|refine SW.skip_f rfl rfl (by with_reducible rfl) rfl ?_|refine SW.skip_u rfl rfl (by with_reducible rfl) rfl ?_|refine SW.splitd_t rfl rfl rfl (by omega) ?_|refine SW.splitd_f rfl rfl rfl (by omega) ?_)|refine SW.pure rfl rfl ?_|(show SW _ _ _ _ (⟨_,Op.fieldAddr _ _ _,_,_,_,none⟩::_) _ _;refine SW.st (st_field rfl) rfl ?_)|(show SW _ _ _ _ (⟨_,Op.call ⟨.builtin .len,_,_⟩,_,_,_,none⟩::_) _ _;refine SW.st (st_len rfl) rfl ?_)|(show SW _ _ _ _ (⟨_,Op.load _ _,_,_,_,none⟩::_) _ _;first|refine SW.st (st_load rfl (hb6.cell rfl)) rfl ?_|refine SW.st (st_load rfl (hb2.cell rfl)) rfl ?_)|exact SW.qnil rfl)
   all_goals exact Post.ret1 rfl rfl ⟨_,rfl,hw,hE.g,.inr ⟨rfl,fun hh=>hno hh.1⟩⟩
 ·obtain rfl:k=r.Lists.n:=by omega
  rw [List.take_of_length_le (l:=h.Lists) (by omega)] at hM
  repeat' (first|(first|refine CW.seq ?_|refine CW.region ?_|refine CW.condd_f rfl (by omega) ?_|refine CW.ret ?_|refine CW.exit ?_)|(first|refine Post.seq ?_|refine Post.seq_exit ?_|refine Post.hit ?_|refine Post.again_exit ?_)|refine SW.nil ?_|refine SW.pure rfl rfl ?_)
  exact Post.ret1 rfl rfl ⟨_,rfl,hw,hE.g,.inl ⟨rfl,hP.all (by omega),hM⟩⟩
open Go.RowKit
theorem addAll_fits {l:List Block}:∀ {s:Option (List Block)},(addAll s l).isSome=true → ∀ b∈l,0≤b.At∧b.At+pw b.Order≤256:=by
 induction l with
 | nil=>intro s _ b hb;simp at hb
 | cons x l ih =>
  intro s h b hb
  have h':(addAll (addB s x) l).isSome=true:=h
  rcases List.mem_cons.1 hb with rfl|hb
  ·cases e:addB s b with
   | none=>rw [e,addAll_none] at h';cases h'
   | some bs=>obtain ⟨cs,_,hf,_⟩:=addB_some e;exact ⟨hf.1,hf.2.1⟩
  ·exact ih h' b hb
def liveC (b:Block) : Prop:=(0≤b.Order∧b.Order≤4)∧0≤b.At∧b.At % pw b.Order=0∧tyOk b.Ty
structure VPre (l:List Block) (k:Nat) : Prop where
 each:∀ (i:Nat) (h:i<l.length),i<k→liveC l[i]
 next:∀ (i:Nat) (h:i+1<l.length),i+1<k→l[i].At<l[i+1].At
theorem VPre.nil (l:List Block) : VPre l 0:=⟨fun i _ h=>by omega,fun i _ h=>by omega⟩
theorem VPre.snoc {l:List Block} {k:Nat} (h:VPre l k) (hk:k<l.length) (h1:liveC l[k]) (h2:∀ (h : 0<k),l[k-1].At<l[k].At) : VPre l (k+1):=by
 refine ⟨fun i hi hik => ?_,fun i hi hik => ?_⟩
 ·by_cases e:i=k
  ·subst e;exact h1
  ·exact h.each i hi (by omega)
 ·by_cases e:i+1=k
  ·subst e;exact h2 (by omega)
  ·exact h.next i hi (by omega)
theorem VPre.ok {l:List Block} {k:Nat} {s:Option (List Block)} (h:VPre l k) (hk:l.length≤k) (hf:(addAll s l).isSome=true) : LiveOk l:=by
 refine ⟨fun i hi => ?_,fun i hi=>h.next i hi (by omega)⟩
 obtain ⟨h1,h2,h3,h4⟩:=h.each i hi (by omega)
 have h5:=addAll_fits hf _ (List.getElem_mem hi)
 have h6:=pw_le h1.1 h1.2
 exact ⟨h1,⟨h2,by omega⟩,h3,h4⟩
def outM (n:Int) : Bool:=decide (n<0) || decide (256<n)
theorem Pout_ans (x:Int) (w:World) : Ans Tryz.prog 88 ([.int .i64 x]++[]) w fun v _=>v = .bool (outM x):=by
 refine ans_of Tryz.func88 rfl Tryz.ntmps88 rfl ?_
 have hw:=Ext.refl w
 have hcs:x<0∨(0≤x∧(256<x∨x≤256)):=by omega
 rcases hcs with d|⟨d1,d|d⟩
 repeat' (first|(first|refine CW.seq ?_|refine CW.region ?_|refine CW.ret ?_)|(refine Post.seq ?_)|refine SW.nil ?_|(show SW _ _ _ _ (⟨_,_,_,_,_,some _⟩::_) _ _;first|refine SW.want_f rfl rfl (by with_reducible rfl) ?_|refine SW.skip_f rfl rfl (by with_reducible rfl) rfl ?_|refine SW.splitd_t rfl rfl rfl (by omega) ?_|refine SW.splitd_f rfl rfl rfl (by omega) ?_)|refine SW.pure rfl rfl ?_)
 all_goals exact Post.ret1 rfl rfl ⟨_,rfl,hw,by unfold outM;simp;omega⟩
open Go.RowKit
def big64 (z:Zone) : Prop:=(-9223372036854775808≤z.From∧z.From≤9223372036854775807)∧(-9223372036854775808≤z.To∧z.To≤9223372036854775807)
def dimsOk (h:Heap) : Prop:=h.Zones.length=2∧h.Mins.length=2∧1≤h.Cpus∧h.Cpus≤4
instance (h:Heap) : Decidable (dimsOk h):=inferInstanceAs (Decidable (_∧_))
theorem HeapMay.dims {h:Heap} (a:HeapMay h) : dimsOk h:=by
 obtain ⟨z0,z1,e,_⟩:=a.zones
 obtain ⟨m0,m1,e',_⟩:=a.mins
 exact ⟨by rw [e];rfl,by rw [e'];rfl,a.cpus⟩
structure FrontOk (h:Heap) (z0 z1:Zone) : Prop where
 one:ZoneMay z0
 two:ZoneMay z1
 from_:z0.From=0
 mid:z0.To=z1.From
 to_:z1.To=256
 mins:h.Mins.any outM=false
theorem HeapMay.front {h:Heap} {z0 z1:Zone} (a:HeapMay h) (e:h.Zones=[z0,z1]) : FrontOk h z0 z1:=by
 obtain ⟨y0,y1,e',a1,a2,a3,a4,a5,_⟩:=a.zones
 rw [e] at e'
 simp only [List.cons.injEq,and_true] at e'
 obtain ⟨rfl,rfl⟩:=e'
 obtain ⟨m0,m1,e',b1,b2⟩:=a.mins
 exact ⟨a1,a2,a3,a4,a5,by rw [e'];simp [outM];omega⟩
def marksS (h:Heap) (z0 z1:Zone) : Option (List Block):=addAll (some []) (z0.Free++z1.Free)
theorem HeapMay.rest {h:Heap} {z0 z1:Zone} (a:HeapMay h) (e:h.Zones=[z0,z1]) : ListsOk h.Cpus z0.To h.Lists∧LiveOk h.Live∧(addAll (addAll (marksS h z0 z1) (pagesB h.Lists)) h.Live).isSome=true:=by
 obtain ⟨y0,y1,e',a1,a2,a3,a4,a5,a6,a7⟩:=a.zones
 rw [e] at e'
 simp only [List.cons.injEq,and_true] at e'
 obtain ⟨rfl,rfl⟩:=e'
 refine ⟨a6,a.live,?_⟩
 rw [addAll_append,addAll_append] at a7
 exact a7
theorem HeapMay.of {h:Heap} {z0 z1:Zone} (e:h.Zones=[z0,z1]) (hd:dimsOk h) (hf:FrontOk h z0 z1) (h1:ListsOk h.Cpus z0.To h.Lists) (h2:LiveOk h.Live) (h3:(addAll (addAll (marksS h z0 z1) (pagesB h.Lists)) h.Live).isSome=true) : HeapMay h:=by
 refine ⟨⟨z0,z1,e,hf.one,hf.two,hf.from_,hf.mid,hf.to_,h1,?_⟩,?_,hd.2.2,h2⟩
 ·rw [addAll_append,addAll_append];exact h3
 ·obtain ⟨m0,m1,em⟩:=two_of hd.2.1
  have:=hf.mins
  rw [em] at this
  simp [outM] at this
  exact ⟨m0,m1,em,by omega,by omega⟩
set_option maxHeartbeats 8000000 in
theorem Pcheck_ans (r:HRow) (h:Heap) (w:World) (hr:RdH w r h) (hs:h.small) (hzn:∀ z∈h.Zones,big64 z) :
  Ans Tryz.prog 54 [.agg (encH r).toArray] w fun v _=>v = .int .i64 (if heapB h then 0 else 8):=by
 refine ans_of Tryz.func54 rfl Tryz.ntmps54 rfl ?_
 refine CW.seq (CW.region (SW.box rfl rfl fun b1 w1 hw hb1b hb1 => ?_))
 have hcp:=hr.cpus
 have hml:=hr.mins.len
 obtain ⟨zs0,hzs⟩:=hr.zones
 obtain ⟨hzl0,hzl⟩:=hzs.len
 clear hzs hzl0 zs0
 by_cases hd:dimsOk h
 ·obtain ⟨d1,d2,d3⟩:=id hd
  obtain ⟨r0,r1,z0,z1,hr2⟩:=hr.two d1
  have hze:=hr2.eq
  have hA:=hr2.row.base
  have hb0:=hzn z0 (by rw [hze];simp)
  have hb1':=hzn z1 (by rw [hze];simp)
  have s0:=hs.free z0 (by rw [hze];simp)
  have s1:=hs.free z1 (by rw [hze];simp)
  have eF0:=hr2.z0.from_
  have eT0:=hr2.z0.to_
  have eF1:=hr2.z1.from_
  have eT1:=hr2.z1.to_
  have l0:=hr2.z0.free.len
  have l1:=hr2.z1.free.len
  have t0:=hr2.z0.types.len
  have t1:=hr2.z1.types.len
  unfold big64 at hb0 hb1'
  obtain ⟨q0,hq0⟩ : ∃ q,zoneB z0=q:=⟨_,rfl⟩
  obtain ⟨q1,hq1⟩ : ∃ q,zoneB z1=q:=⟨_,rfl⟩
  have c0:∀ w',Ext w w'→Ans Tryz.prog 87 [.agg (encZ r0).toArray] w' fun v _=>v = .int .i64 (if q0 then 0 else 8):=fun w' hx=>by
   have:=Zcheck_ans r0 z0 w' (hr2.z0.ext hx) (by omega) (by omega) (by omega) (by omega)
   rwa [hq0] at this
  have c1:∀ w',Ext w w'→Ans Tryz.prog 87 [.agg (encZ r1).toArray] w' fun v _=>v = .int .i64 (if q1 then 0 else 8):=fun w' hx=>by
   have:=Zcheck_ans r1 z1 w' (hr2.z1.ext hx) (by omega) (by omega) (by omega) (by omega)
   rwa [hq1] at this
  have hzz:(q0=true∧q1=true)∨(q0=false)∨(q0=true∧q1=false):=by cases q0<;>cases q1<;>simp
  rcases hzz with ⟨rfl,rfl⟩|rfl|⟨rfl,rfl⟩
  all_goals simp only [if_true,Bool.false_eq_true,if_false] at c0 c1
  repeat' (first|(first|refine CW.seq ?_|refine CW.region ?_|refine CW.condtr rfl (by with_reducible rfl) ?_|refine CW.condn_t rfl (by omega) ?_|refine CW.condn_f rfl (by omega) ?_|refine CW.skip ?_|refine CW.ret ?_)|(first|refine Post.seq ?_|refine Post.seq_ret ?_)|refine SW.nil ?_|(show SW _ _ _ _ (⟨_,_,_,_,_,some _⟩::_) _ _;first|refine SW.want_f rfl rfl (by with_reducible rfl) ?_|refine SW.skip_f rfl rfl (by with_reducible rfl) rfl ?_|refine SW.splitd_f rfl rfl rfl (by omega) ?_|refine SW.splitn_t rfl rfl rfl (by omega) ?_|refine SW.splitn_f rfl rfl rfl (by omega) ?_)|refine SW.pure rfl rfl ?_|(show SW _ _ _ _ (⟨_,Op.fieldAddr _ _ _,_,_,_,none⟩::_) _ _;refine SW.st (st_field rfl) rfl ?_)|(show SW _ _ _ _ (⟨_,Op.indexAddr _ _ _,_,_,_,none⟩::_) _ _;first|refine SW.st (st_indexI (0) rfl rfl (by assumption) (by omega) (by omega)) rfl ?_|refine SW.st (st_indexI (1) rfl rfl (by assumption) (by omega) (by omega)) rfl ?_)|(show SW _ _ _ _ (⟨_,Op.call ⟨.builtin .len,_,_⟩,_,_,_,none⟩::_) _ _;refine SW.st (st_len rfl) rfl ?_)|(show SW _ _ _ _ (⟨_,Op.load _ _,_,_,_,none⟩::_) _ _;first|refine SW.st (st_load rfl (hb1.cell rfl)) rfl ?_|refine SW.st (st_loadsx hw rfl rfl ((hr2.c0))) rfl ?_|refine SW.st (st_loadsx hw rfl rfl ((hr2.c1))) rfl ?_)|(show SW _ _ _ _ (⟨_,Op.call ⟨.value (.func _),_,_⟩,_,_,_,none⟩::_) _ _;first|(refine SW.call rfl rfl (c0 _ hw) ?_;intro v w1 hw1 hv;subst hv;replace hw:=Ext.trans hw hw1;replace hb1:=hb1.ext hw1;clear hw1)|(refine SW.call rfl rfl (c1 _ hw) ?_;intro v w1 hw1 hv;subst hv;replace hw:=Ext.trans hw hw1;replace hb1:=hb1.ext hw1;clear hw1)))
  rotate_left
  ·exact Post.ret1 rfl rfl ⟨_,rfl,hw,by rw [heapB_f (fun hh=>by have:=zoneB_iff.2 (hh.front hze).one;rw [hq0] at this;cases this)];rfl⟩
  ·exact Post.ret1 rfl rfl ⟨_,rfl,hw,by rw [heapB_f (fun hh=>by have:=zoneB_iff.2 (hh.front hze).two;rw [hq1] at this;cases this)];rfl⟩
  clear c0 c1
  have hz0:=zoneB_iff.1 hq0
  have hz1:=zoneB_iff.1 hq1
  have cO:∀ w',Ext w w'→Ans Tryz.prog 70 [.slice r.Mins.A r.Mins.n r.Mins.c,.func (.func 88) #[] ([] : List Value).toArray] w' fun v _=>v = .bool (h.Mins.any outM):=fun w' h =>
   ContainsFuncInt_ans _ _ _ _ _ (hr.mins.ext h) _ [] outM (fun x => .int .i64 x) (fun x=>rfl) (fun x _ w1 _=>Pout_ans x w1) (by omega)
  obtain ⟨qm,hqm⟩ : ∃ q,h.Mins.any outM=q:=⟨_,rfl⟩
  rw [hqm] at cO
  have hcs:(r0.From=0∧r0.To=r1.From∧r1.To=256∧qm=false)∨r0.From≠0∨(r0.From=0∧r0.To≠r1.From)∨(r0.From=0∧r0.To=r1.From∧r1.To≠256)∨(r0.From=0∧r0.To=r1.From∧r1.To=256∧qm=true):=by cases qm<;>simp<;>omega
  rcases hcs with ⟨d1,d2,d3,rfl⟩|d|⟨d1,d⟩|⟨d1,d2,d⟩|⟨d1,d2,d3,rfl⟩
  repeat' (first|(first|refine CW.seq ?_|refine CW.region ?_|refine CW.condtr rfl (by with_reducible rfl) ?_|refine CW.condfr rfl (by with_reducible rfl) ?_|refine CW.skip ?_|refine CW.ret ?_|(apply CW.quiet1 mixed;(· kernel_rfl);rotate_left;intro w1 hw1;replace hw:=Ext.trans hw hw1;replace hb1:=hb1.ext hw1;clear hw1;rotate_right))|(first|refine Post.seq ?_|refine Post.seq_ret ?_)|refine SW.nil ?_|(show SW _ _ _ _ (⟨_,_,_,_,_,some _⟩::_) _ _;first|refine SW.want_f rfl rfl (by with_reducible rfl) ?_|refine SW.skip_f rfl rfl (by with_reducible rfl) rfl ?_|refine SW.splitn_t rfl rfl rfl (by omega) ?_|refine SW.splitn_f rfl rfl rfl (by omega) ?_)|refine SW.pure rfl rfl ?_|(show SW _ _ _ _ (⟨_,Op.fieldAddr _ _ _,_,_,_,none⟩::_) _ _;refine SW.st (st_field rfl) rfl ?_)|(show SW _ _ _ _ (⟨_,Op.build _ _,_,_,_,none⟩::_) _ _;refine SW.st (st_build rfl rfl) rfl ?_)|(show SW _ _ _ _ (⟨_,Op.indexAddr _ _ _,_,_,_,none⟩::_) _ _;first|refine SW.st (st_indexI (0) rfl rfl (by assumption) (by omega) (by omega)) rfl ?_|refine SW.st (st_indexI (1) rfl rfl (by assumption) (by omega) (by omega)) rfl ?_)|(show SW _ _ _ _ (⟨_,Op.load _ _,_,_,_,none⟩::_) _ _;first|refine SW.st (st_load rfl (hb1.cell rfl)) rfl ?_|refine SW.st (st_loadx hw rfl (hr2.c0 0 _ rfl)) rfl ?_|refine SW.st (st_loadx hw rfl (hr2.c0 1 _ rfl)) rfl ?_|refine SW.st (st_loadx hw rfl (hr2.c1 0 _ rfl)) rfl ?_|refine SW.st (st_loadx hw rfl (hr2.c1 1 _ rfl)) rfl ?_)|(show SW _ _ _ _ (⟨_,Op.call ⟨.value (.func _),_,_⟩,_,_,_,none⟩::_) _ _;refine SW.qcall rfl rfl (fun w1 hw1=>(cO _ (Ext.trans hw hw1))) ?_)|exact SW.qnil rfl)
  rotate_left
  iterate 3 exact Post.ret1 rfl rfl ⟨_,rfl,hw,by rw [heapB_f (fun hh=>by have:=hh.front hze;have:=this.from_;have:=(hh.front hze).mid;have:=(hh.front hze).to_;omega)];rfl⟩
  ·exact Post.ret1 rfl rfl ⟨_,rfl,hw,by rw [heapB_f (fun hh=>by have:=(hh.front hze).mins;rw [hqm] at this;cases this)];rfl⟩
  have hfr:FrontOk h z0 z1:=⟨hz0,hz1,by omega,by omega,by omega,hqm⟩
  clear cO
  have hn:=hr2.n
  have hfree:∀ z∈h.Zones,∀ b∈z.Free,0≤b.Order∧b.Order≤4:=fun z hz b hb=>by
   obtain ⟨i,hi,rfl⟩:=List.getElem_of_mem hb
   rw [hze] at hz
   simp only [List.mem_cons,List.not_mem_nil,or_false] at hz
   rcases hz with rfl|rfl
   ·exact ⟨(hz0.blk i hi).1.1,(hz0.blk i hi).1.2.1⟩
   ·exact ⟨(hz1.blk i hi).1.1,(hz1.blk i hi).1.2.1⟩
  have hgF:∀ k,goodS (addAll (some []) ((h.Zones.take k).flatMap Zone.Free)):=fun k=>goodS_all goodS_nil fun x hx=>by
   obtain ⟨z,hz,hx⟩:=List.mem_flatMap.1 hx
   have:=hfree z (List.mem_of_mem_take hz) x hx
   exact (pw_le this.1 this.2).1
  refine SW.box rfl rfl fun b3 w2 hw2 hb3b hb3 => ?_
  have hb3w:w.heap.size≤b3:=Nat.le_trans hw.size hb3b
  have hM:Marks w2 b3 256 (some []):=by
   refine Eq.mp (congrArg (fun c=>Blk w2 b3 129 c) ?_) hb3
   kernel_rfl
  clear hb3
  (replace hw:=Ext.trans hw hw2;replace hb1:=hb1.ext hw2)
  repeat' (first|(first|refine CW.seq ?_|refine CW.region ?_|refine CW.block ?_)|(refine Post.seq ?_)|refine SW.nil ?_|refine SW.pure rfl rfl ?_|(show SW _ _ _ _ (⟨_,Op.fieldAddr _ _ _,_,_,_,none⟩::_) _ _;refine SW.st (st_field rfl) rfl ?_)|(show SW _ _ _ _ (⟨_,Op.call ⟨.builtin .len,_,_⟩,_,_,_,none⟩::_) _ _;refine SW.st (st_len rfl) rfl ?_)|(show SW _ _ _ _ (⟨_,Op.load _ _,_,_,_,none⟩::_) _ _;refine SW.st (st_load rfl (hb1.cell rfl)) rfl ?_))
  refine CW.loop (fun k:Nat=>[(1,.pointer (some ⟨b1,0,none⟩)),(3,.pointer (some ⟨b3,0,none⟩)),(81,.slice r.Zones.A r.Zones.n r.Zones.c),(82,.int .i64 (r.Zones.n:Int)),(83,.int .i64 (k:Int))])
   (fun k w'=>k≤2∧Ext w w'∧Blk w' b1 27 (encH r)∧Marks w' b3 256 (addAll (some []) ((h.Zones.take k).flatMap Zone.Free))) (fun k=>2-k) 0
   ⟨rfl,rfl,rfl,rfl,rfl,trivial⟩ ⟨by omega,hw,hb1,hM⟩ ?_
  clear hw hb1 hM hw2
  rintro k w' ⟨hk,hw,hb1,hM⟩
  by_cases hk2:k<2
  ·have hkz:k<h.Zones.length:=by omega
   have hrow:=hr2.row.all (i:=k) (by omega)
   have hrz:RdZ w ([r0,r1][k]'(by simpa using hk2)) h.Zones[k]:=by
    simp only [hze]
    have:k=0∨k=1:=by omega
    rcases this with rfl|rfl
    ·exact hr2.z0
    ·exact hr2.z1
   generalize hrk:([r0,r1][k]'(by simpa using hk2))=rk at hrow hrz
   have hfk:=hfree h.Zones[k] (List.getElem_mem _)
   have hsk:=hs.free h.Zones[k] (List.getElem_mem _)
   have htk:(h.Zones.take (k+1)).flatMap Zone.Free=(h.Zones.take k).flatMap Zone.Free++h.Zones[k].Free:=by
    rw [List.take_succ_eq_append_getElem hkz,List.flatMap_append];simp
   generalize h.Zones[k]=zk at hrz hfk hsk htk
   have hAk:=hrz.free.base
   have hlk:=hrz.free.len
   repeat' (first|(first|refine CW.seq ?_|refine CW.region ?_|refine CW.block ?_|refine CW.condd_t rfl (by omega) ?_|refine CW.skip ?_)|(refine Post.seq ?_)|refine SW.nil ?_|refine SW.pure rfl rfl ?_|(show SW _ _ _ _ (⟨_,Op.indexAddr _ _ _,_,_,_,none⟩::_) _ _;refine SW.st (st_indexN rfl rfl (by assumption) (by omega)) rfl ?_)|(show SW _ _ _ _ (⟨_,Op.load _ _,_,_,_,none⟩::_) _ _;refine SW.st (st_loadsx hw rfl rfl ((hrow))) rfl ?_))
   refine SW.alloc rfl fun b5 w1 hw1 hb5b hb5 => ?_
   skip
   refine SW.storeAgg hb5 rfl rfl rfl rfl (one_z _) fun w2 hb5' hg => ?_
   have hXX:=hw1.own hb5b hg
   have hb5w:w.heap.size≤b5:=Nat.le_trans hw.size hb5b
   replace hw:=Ext.trans hw hXX
   replace hb1:=hb1.ext hXX
   replace hM:=hM.ext hXX
   replace hb5:=hb5'
   clear hb5' hw1 hg hXX
   repeat' (first|(first|refine CW.seq ?_|refine CW.region ?_|refine CW.block ?_)|(refine Post.seq ?_)|refine SW.nil ?_|refine SW.pure rfl rfl ?_|(show SW _ _ _ _ (⟨_,Op.fieldAddr _ _ _,_,_,_,none⟩::_) _ _;refine SW.st (st_field rfl) rfl ?_)|(show SW _ _ _ _ (⟨_,Op.call ⟨.builtin .len,_,_⟩,_,_,_,none⟩::_) _ _;refine SW.st (st_len rfl) rfl ?_)|(show SW _ _ _ _ (⟨_,Op.load _ _,_,_,_,none⟩::_) _ _;refine SW.st (st_load rfl (hb5.cell rfl)) rfl ?_))
   refine CW.loop (fun j:Nat=>[(1,.pointer (some ⟨b1,0,none⟩)),(3,.pointer (some ⟨b3,0,none⟩)),(81,.slice r.Zones.A r.Zones.n r.Zones.c),(82,.int .i64 (r.Zones.n:Int)),(83,.int .i64 (k:Int)),(88,.slice rk.Free.A rk.Free.n rk.Free.c),(89,.int .i64 (rk.Free.n:Int)),(90,.int .i64 (j:Int))])
    (fun j w'=>j≤rk.Free.n∧Ext w w'∧Blk w' b1 27 (encH r)∧Marks w' b3 256 (addAll (addAll (some []) ((h.Zones.take k).flatMap Zone.Free)) (zk.Free.take j))) (fun j=>rk.Free.n-j) 0
    ⟨rfl,rfl,rfl,rfl,rfl,rfl,rfl,rfl,trivial⟩ ⟨by omega,hw,hb1,hM⟩ ?_
   clear hw hb1 hM hb5 hb5b hb5w
   rintro j w' ⟨hj,hw,hb1,hM⟩
   by_cases hjn:j<rk.Free.n
   ·have hjl:j<zk.Free.length:=by omega
    obtain ⟨o1,o2⟩:=hfk zk.Free[j] (List.getElem_mem _)
    have hp:=pw_le o1 o2
    repeat' (first|(first|refine CW.seq ?_|refine CW.region ?_|refine CW.block ?_|refine CW.condd_t rfl (by omega) ?_|refine CW.skip ?_)|(refine Post.seq ?_)|refine SW.nil ?_|refine SW.pure rfl rfl ?_|(show SW _ _ _ _ (⟨_,Op.indexAddr _ _ _,_,_,_,none⟩::_) _ _;refine SW.st (st_indexN rfl rfl (by assumption) (by omega)) rfl ?_)|(show SW _ _ _ _ (⟨_,Op.load _ _,_,_,_,none⟩::_) _ _;refine SW.st (st_loadsx hw rfl rfl ((hrz.free.all hjn))) rfl ?_))
    refine SW.alloc rfl fun b7 w1 hw1 hb7b hb7 => ?_
    skip
    refine SW.storeAgg hb7 rfl rfl rfl rfl (Enc.one (enc:=encBk) _) fun w2 hb7' hg => ?_
    have hXX:=hw1.own hb7b hg
    have hb7w:w.heap.size≤b7:=Nat.le_trans hw.size hb7b
    replace hw:=Ext.trans hw hXX
    replace hb1:=hb1.ext hXX
    replace hM:=hM.ext hXX
    replace hb7:=hb7'
    clear hb7' hw1 hg hXX
    repeat' (first|(refine Post.seq ?_)|refine SW.nil ?_)
    refine CW.any 6 mixed (rb_tail (by kernel_rfl)) rfl fun w1 hw1 hRB => ?_
    replace hw:=Ext.trans hw hw1;replace hb1:=hb1.ext hw1;replace hM:=hM.ext hw1;replace hb7:=hb7.ext hw1;clear hw1
    refine SA.take 0 hRB rfl (by kernel_rfl) (by kernel_rfl) rfl ?_
    repeat (refine SW.pure rfl rfl ?_)
    refine SW.tknil ?_
    refine SA.take 1 hRB rfl (by kernel_rfl) (by kernel_rfl) rfl ?_
    repeat ((show SW _ _ _ _ (⟨_,Op.fieldAddr _ _ _,_,_,_,none⟩::_) _ _;refine SW.st (st_field rfl) rfl ?_))
    refine SW.tknil ?_
    refine SA.take 2 hRB rfl (by kernel_rfl) (by kernel_rfl) rfl ?_
    repeat ((show SW _ _ _ _ (⟨_,Op.load _ _,_,_,_,none⟩::_) _ _;refine SW.st (st_load rfl (hb7.cell rfl)) rfl ?_))
    refine SW.tknil ?_
    refine SA.take 3 hRB rfl (by kernel_rfl) (by kernel_rfl) rfl ?_
    repeat ((show SW _ _ _ _ (⟨_,Op.fieldAddr _ _ _,_,_,_,none⟩::_) _ _;refine SW.st (st_field rfl) rfl ?_))
    refine SW.tknil ?_
    refine SA.take 4 hRB rfl (by kernel_rfl) (by kernel_rfl) rfl ?_
    repeat ((show SW _ _ _ _ (⟨_,Op.load _ _,_,_,_,none⟩::_) _ _;refine SW.st (st_load rfl (hb7.cell rfl)) rfl ?_))
    refine SW.tknil ?_
    refine SA.take 5 hRB rfl (by kernel_rfl) (by kernel_rfl) rfl ?_
    repeat ((refine SW.st (st_shl (r:=pw zk.Free[j].Order) rfl rfl (by omega) (by omega) (by simp [pw]) (by omega) (by omega)) rfl ?_))
    refine SW.tknil ?_
    refine SA.done (by kernel_rfl) ?_
    refine SW.callX rfl rfl (markB_ans b3 _ zk.Free[j] 256 rfl _ hM (goodS_all (hgF k) fun x hx=>by have:=hfk x (List.mem_of_mem_take hx);exact (pw_le this.1 this.2).1) ⟨by omega,by omega⟩) fun v w5 hv => ?_
    obtain ⟨hM2,hg5⟩:=hv
    have hG:=hM.gr hg5
    replace hw:=hw.own hb3w hg5
    (replace hb1:=hb1.grT hG rfl)
    rw [← addAll_take _ _ _ hjl] at hM2
    repeat' (first|(refine CW.region ?_)|(first|refine Post.seq ?_|refine Post.blk ?_|refine Post.np ?_)|refine SW.nil ?_|refine SW.pure rfl rfl ?_|(show SW _ _ _ _ (⟨_,Op.binOp _ _ _ _ _,_,_,_,none⟩::_) _ _;refine SW.st (st_add rfl rfl (by omega) (by omega)) rfl ?_))
    exact Post.again (j+1) ⟨rfl,rfl,rfl,rfl,rfl,rfl,rfl,rfl,trivial⟩ (by omega) ⟨by omega,hw,hb1,hM2⟩
   ·obtain rfl:j=rk.Free.n:=by omega
    rw [List.take_of_length_le (l:=zk.Free) (by omega),← addAll_append,← htk] at hM
    repeat' (first|(first|refine CW.seq ?_|refine CW.region ?_|refine CW.condd_f rfl (by omega) ?_|refine CW.exit ?_)|(first|refine Post.seq ?_|refine Post.seq_exit ?_|refine Post.hit ?_|refine Post.blk ?_|refine Post.again_exit ?_)|refine SW.nil ?_|refine SW.pure rfl rfl ?_|(show SW _ _ _ _ (⟨_,Op.binOp _ _ _ _ _,_,_,_,none⟩::_) _ _;refine SW.st (st_add rfl rfl (by omega) (by omega)) rfl ?_))
    exact Post.again (k+1) ⟨rfl,rfl,rfl,rfl,rfl,trivial⟩ (by omega) ⟨by omega,hw,hb1,hM⟩
  ·obtain rfl:k=2:=by omega
   have hgS:=hgF 2
   have hms:addAll (some []) ((h.Zones.take 2).flatMap Zone.Free)=marksS h z0 z1:=by rw [hze];simp [marksS]
   rw [hms] at hM hgS
   repeat' (first|(first|refine CW.seq ?_|refine CW.region ?_|refine CW.condd_f rfl (by omega) ?_|refine CW.exit ?_)|(first|refine Post.seq ?_|refine Post.seq_exit ?_|refine Post.hit ?_|refine Post.again_exit ?_)|refine SW.nil ?_|refine SW.pure rfl rfl ?_|(show SW _ _ _ _ (⟨_,Op.load _ _,_,_,_,none⟩::_) _ _;refine SW.st (st_loads rfl rfl ((fun _ _=>hb1.cell))) rfl ?_))
   obtain ⟨ls,hls⟩:=hr.lists
   have hll:=hls.len.2
   have hsl:=hs.lists
   clear hls ls
   refine SW.callX rfl rfl (lists_ans r h r0 r1 z0 z1 b3 256 rfl (marksS h z0 z1) w _ hw hb3w hr2 hM hgS (by omega)) fun v w5 hv => ?_
   obtain ⟨hw5,hg5,hres⟩:=hv
   have hG:=hM.gr hg5
   replace hw:=hw5
   (replace hb1:=hb1.grT hG rfl)
   clear hM hw5 hg5 hG
   rcases hres with ⟨rfl,hL,hM⟩|⟨rfl,hno⟩
   rotate_left
   ·repeat' (first|(first|refine CW.seq ?_|refine CW.region ?_|refine CW.condt rfl ?_|refine CW.ret ?_)|(first|refine Post.seq ?_|refine Post.seq_ret ?_)|refine SW.nil ?_|refine SW.pure rfl rfl ?_)
    exact Post.ret1 rfl rfl ⟨_,rfl,hw,by rw [heapB_f (fun hh=>hno ⟨(hh.rest hze).1,addAll_some_of (m:=h.Live) (by rw [addAll_append];exact (hh.rest hze).2.2)⟩)];rfl⟩
   have hgL:goodS (addAll (marksS h z0 z1) (pagesB h.Lists)):=goodS_all hgS fun x hx=>by
    unfold pagesB at hx
    obtain ⟨y,_,hy⟩:=List.mem_flatMap.1 hx
    obtain ⟨p,_,rfl⟩:=List.mem_map.1 hy
    simp [pageB,pw_zero]
   have hrest:HeapMay h→(addAll (addAll (marksS h z0 z1) (pagesB h.Lists)) h.Live).isSome=true:=fun hh=>(hh.rest hze).2.2
   have hof:LiveOk h.Live→(addAll (addAll (marksS h z0 z1) (pagesB h.Lists)) h.Live).isSome=true→HeapMay h:=fun a b=>HeapMay.of hze hd hfr hL a b
   generalize addAll (marksS h z0 z1) (pagesB h.Lists)=S at hM hgL hrest hof
   have hlv:=hr.live
   have hvl:=hr.live.len
   have hAv:=hr.live.base
   have hsv:=hs.live
   repeat' (first|(first|refine CW.seq ?_|refine CW.region ?_|refine CW.block ?_|refine CW.condd_f rfl (by omega) ?_|refine CW.skip ?_)|(refine Post.seq ?_)|refine SW.nil ?_|refine SW.pure rfl rfl ?_|(show SW _ _ _ _ (⟨_,Op.fieldAddr _ _ _,_,_,_,none⟩::_) _ _;refine SW.st (st_field rfl) rfl ?_)|(show SW _ _ _ _ (⟨_,Op.call ⟨.builtin .len,_,_⟩,_,_,_,none⟩::_) _ _;refine SW.st (st_len rfl) rfl ?_)|(show SW _ _ _ _ (⟨_,Op.load _ _,_,_,_,none⟩::_) _ _;refine SW.st (st_load rfl (hb1.cell rfl)) rfl ?_))
   refine CW.loop (fun k:Nat=>[(1,.pointer (some ⟨b1,0,none⟩)),(3,.pointer (some ⟨b3,0,none⟩)),(108,.slice r.Live.A r.Live.n r.Live.c),(109,.int .i64 (r.Live.n:Int)),(110,.int .i64 (k:Int))])
    (fun k w'=>k≤r.Live.n∧Ext w w'∧Blk w' b1 27 (encH r)∧Marks w' b3 256 (addAll S (h.Live.take k))∧VPre h.Live k) (fun k=>r.Live.n-k) 0
    ⟨rfl,rfl,rfl,rfl,rfl,trivial⟩ ⟨by omega,hw,hb1,hM,.nil _⟩ ?_
   clear hw hb1 hM
   rintro k w' ⟨hk,hw,hb1,hM,hP⟩
   by_cases hkn:k<r.Live.n
   ·have hkl:k<h.Live.length:=by omega
    have hk1:k-1<r.Live.n:=by omega
    have hmay:HeapMay h→liveOk h.Live[k]∧(0<k→(h.Live[k-1]'(by omega)).At<h.Live[k].At):=fun hh=>⟨hh.live.each k hkl,fun h0=>by
     have:=hh.live.next (k-1) (by omega)
     simpa only [show k-1+1=k by omega] using this⟩
    have hprev:=hlv.fld hk1 (j:=0) rfl
    repeat' (first|(first|refine CW.seq ?_|refine CW.region ?_|refine CW.block ?_|refine CW.condd_t rfl (by omega) ?_|refine CW.skip ?_)|(refine Post.seq ?_)|refine SW.nil ?_|refine SW.pure rfl rfl ?_|(show SW _ _ _ _ (⟨_,Op.indexAddr _ _ _,_,_,_,none⟩::_) _ _;refine SW.st (st_indexN rfl rfl (by assumption) (by omega)) rfl ?_)|(show SW _ _ _ _ (⟨_,Op.load _ _,_,_,_,none⟩::_) _ _;refine SW.st (st_loadsx hw rfl rfl ((hlv.all hkn))) rfl ?_))
    refine SW.alloc rfl fun b9 w1 hw1 hb9b hb9 => ?_
    repeat' (refine SW.pure rfl rfl ?_)
    refine SW.storeAgg hb9 rfl rfl rfl rfl (Enc.one (enc:=encBk) _) fun w2 hb9' hg => ?_
    have hXX:=hw1.own hb9b hg
    have hb9w:w.heap.size≤b9:=Nat.le_trans hw.size hb9b
    replace hw:=Ext.trans hw hXX
    replace hb1:=hb1.ext hXX
    replace hM:=hM.ext hXX
    replace hb9:=hb9'
    clear hb9' hw1 hg hXX
    repeat' (first|(refine CW.seq ?_)|(refine Post.seq ?_)|refine SW.nil ?_)
    have hsn:liveC h.Live[k]→(0<k→(h.Live[k-1]'(by omega)).At<h.Live[k].At)→VPre h.Live (k+1):=fun a b=>hP.snoc hkl a fun h0=>b h0
    have htk:=addAll_take S h.Live k hkl
    generalize hbb:h.Live[k]=bb at hb9 hmay hsn htk
    generalize hpv:(h.Live[k-1]'(by omega)).At=pv at hmay hsn hprev
    simp only [liveC,liveOk,tyOk] at hmay hsn
    have hp:bb.Order<0∨4<bb.Order∨(1≤pw bb.Order∧pw bb.Order≤16):=by
     by_cases h1 : 0≤bb.Order
     ·by_cases h2:bb.Order≤4
      ·exact .inr (.inr (pw_le h1 h2))
      ·omega
     ·omega
    have em:bb.At<0∨bb.At.tmod (pw bb.Order)=bb.At % pw bb.Order:=by
     by_cases h1 : 0≤bb.At
     ·exact .inr (Int.tmod_eq_emod_of_nonneg h1)
     ·omega
    have hcs:bb.Order<0∨(0≤bb.Order∧(4<bb.Order∨(bb.Order≤4∧(bb.At<0∨(0≤bb.At∧(bb.At.tmod (pw bb.Order)≠0∨(bb.At.tmod (pw bb.Order)=0∧(bb.Ty<0∨(0≤bb.Ty∧(3≤bb.Ty∨(bb.Ty<3∧((0<k∧bb.At≤pv)∨k=0∨(0<k∧pv<bb.At)))))))))))) ):=by omega
    rcases hcs with d|⟨d1,d|⟨d2,d|⟨d3,d|⟨d4,d|⟨d5,d|⟨d6,⟨hk0,d⟩|hk0|⟨hk0,d⟩⟩⟩⟩⟩⟩⟩
    all_goals (apply CW.quiet1 mixed;(· kernel_rfl);rotate_left;intro w1 hw1;replace hw:=Ext.trans hw hw1;replace hb1:=hb1.ext hw1;replace hb9:=hb9.ext hw1;replace hM:=hM.ext hw1;clear hw1;rotate_right)
    repeat' (first|(first|refine CW.seq ?_|refine CW.region ?_|refine CW.condtr rfl (by with_reducible rfl) ?_|refine CW.condfr rfl (by with_reducible rfl) ?_|refine CW.condd_t rfl (by omega) ?_|refine CW.condd_f rfl (by omega) ?_|refine CW.skip ?_|refine CW.ret ?_)|(first|refine Post.seq ?_|refine Post.seq_ret ?_|refine Post.blk_ret ?_|refine Post.again_ret ?_)|refine SW.nil ?_|(show SW _ _ _ _ (⟨_,_,_,_,_,some _⟩::_) _ _;first|refine SW.want_t rfl rfl (by with_reducible rfl) ?_|refine SW.want_f rfl rfl (by with_reducible rfl) ?_|refine SW.skip_t rfl rfl (by with_reducible rfl) rfl ?_|refine SW.skip_f rfl rfl (by with_reducible rfl) rfl ?_|refine SW.skip_u rfl rfl (by with_reducible rfl) rfl ?_|refine SW.splitd_t rfl rfl rfl (by omega) ?_|refine SW.splitd_f rfl rfl rfl (by omega) ?_|refine SW.splitn_t rfl rfl rfl (by omega) ?_|refine SW.splitn_f rfl rfl rfl (by omega) ?_)|refine SW.pure rfl rfl ?_|(show SW _ _ _ _ (⟨_,Op.fieldAddr _ _ _,_,_,_,none⟩::_) _ _;refine SW.st (st_field rfl) rfl ?_)|(show SW _ _ _ _ (⟨_,Op.binOp _ _ _ _ _,_,_,_,none⟩::_) _ _;first|refine SW.st (st_sub rfl rfl (by omega) (by omega)) rfl ?_|refine SW.st (st_rem rfl rfl (by omega)) rfl ?_)|(show SW _ _ _ _ (⟨_,Op.indexAddr _ _ _,_,_,_,none⟩::_) _ _;refine SW.st (st_indexI (k-1) rfl rfl (by assumption) (by omega) (by omega)) rfl ?_)|(show SW _ _ _ _ (⟨_,Op.load _ _,_,_,_,none⟩::_) _ _;first|refine SW.st (st_load rfl (hb9.cell rfl)) rfl ?_|refine SW.st (st_load rfl (hb1.cell rfl)) rfl ?_|refine SW.st (st_loadx hw rfl hprev) rfl ?_)|(refine SW.st (st_shl (r:=pw bb.Order) rfl rfl (by omega) (by omega) (by simp [pw]) (by omega) (by omega)) rfl ?_)|exact SW.qnil rfl)
    iterate 7 exact Post.ret1 rfl rfl ⟨_,rfl,hw,by rw [heapB_f (fun hh=>by have:=hmay hh;omega)];rfl⟩
    all_goals
     replace hsn:=hsn ⟨⟨d1,d2⟩,d3,by omega,by omega⟩ (fun h0=>by omega)
     refine CW.any 6 mixed (rb_tail (by kernel_rfl)) rfl fun w1 hw1 hRB => ?_
     replace hw:=Ext.trans hw hw1;replace hb1:=hb1.ext hw1;replace hM:=hM.ext hw1;replace hb9:=hb9.ext hw1;clear hw1
     refine SA.take 0 hRB rfl (by kernel_rfl) (by kernel_rfl) rfl ?_
     repeat (refine SW.pure rfl rfl ?_)
     refine SW.tknil ?_
     refine SA.take 1 hRB rfl (by kernel_rfl) (by kernel_rfl) rfl ?_
     repeat ((show SW _ _ _ _ (⟨_,Op.fieldAddr _ _ _,_,_,_,none⟩::_) _ _;refine SW.st (st_field rfl) rfl ?_))
     refine SW.tknil ?_
     refine SA.take 2 hRB rfl (by kernel_rfl) (by kernel_rfl) rfl ?_
     repeat ((show SW _ _ _ _ (⟨_,Op.load _ _,_,_,_,none⟩::_) _ _;refine SW.st (st_load rfl (hb9.cell rfl)) rfl ?_))
     refine SW.tknil ?_
     refine SA.take 3 hRB rfl (by kernel_rfl) (by kernel_rfl) rfl ?_
     repeat ((show SW _ _ _ _ (⟨_,Op.fieldAddr _ _ _,_,_,_,none⟩::_) _ _;refine SW.st (st_field rfl) rfl ?_))
     refine SW.tknil ?_
     refine SA.take 4 hRB rfl (by kernel_rfl) (by kernel_rfl) rfl ?_
     repeat ((show SW _ _ _ _ (⟨_,Op.load _ _,_,_,_,none⟩::_) _ _;refine SW.st (st_load rfl (hb9.cell rfl)) rfl ?_))
     refine SW.tknil ?_
     refine SA.take 5 hRB rfl (by kernel_rfl) (by kernel_rfl) rfl ?_
     repeat ((refine SW.st (st_shl (r:=pw bb.Order) rfl rfl (by omega) (by omega) (by simp [pw]) (by omega) (by omega)) rfl ?_))
     refine SW.tknil ?_
     refine SA.done (by kernel_rfl) ?_
     refine SW.callX rfl rfl (markB_ans b3 _ bb 256 rfl _ hM (goodS_all hgL fun x hx=>by
      obtain ⟨i,hi,rfl⟩:=List.getElem_of_mem hx
      rw [List.getElem_take]
      have:=(hP.each i (by simp at hi;omega) (by simp at hi;omega)).1
      exact (pw_le this.1 this.2).1) ⟨by omega,by omega⟩) fun v w5 hv => ?_
     obtain ⟨hM2,hg5⟩:=hv
     have hG:=hM.gr hg5
     replace hw:=hw.own hb3w hg5
     (replace hb1:=hb1.grT hG rfl)
     rw [← htk] at hM2
     repeat' (first|(refine CW.region ?_)|(first|refine Post.seq ?_|refine Post.blk ?_|refine Post.np ?_)|refine SW.nil ?_|refine SW.pure rfl rfl ?_|(show SW _ _ _ _ (⟨_,Op.binOp _ _ _ _ _,_,_,_,none⟩::_) _ _;refine SW.st (st_add rfl rfl (by omega) (by omega)) rfl ?_))
     exact Post.again (k+1) ⟨rfl,rfl,rfl,rfl,rfl,trivial⟩ (by omega) ⟨by omega,hw,hb1,hM2,hsn⟩
   ·obtain rfl:k=r.Live.n:=by omega
    rw [List.take_of_length_le (by omega)] at hM
    have hbad:=hM.bad rfl
    cases hS:addAll S h.Live with
    | none =>
     rw [hS] at hbad
     repeat' (first|(first|refine CW.seq ?_|refine CW.region ?_|refine CW.condd_f rfl (by omega) ?_|refine CW.condt rfl ?_|refine CW.ret ?_|refine CW.exit ?_)|(first|refine Post.seq ?_|refine Post.seq_ret ?_|refine Post.seq_exit ?_|refine Post.hit ?_|refine Post.again_exit ?_)|refine SW.nil ?_|refine SW.pure rfl rfl ?_|(show SW _ _ _ _ (⟨_,Op.fieldAddr _ _ _,_,_,_,none⟩::_) _ _;refine SW.st (st_field rfl) rfl ?_)|(show SW _ _ _ _ (⟨_,Op.nilCheck _,_,_,_,none⟩::_) _ _;refine SW.st (st_nilCheck rfl) rfl ?_)|(show SW _ _ _ _ (⟨_,Op.load _ _,_,_,_,none⟩::_) _ _;refine SW.st (st_load rfl hbad) rfl ?_))
     exact Post.ret1 rfl rfl ⟨_,rfl,hw,by rw [heapB_f (fun hh=>by have:=hrest hh;rw [hS] at this;cases this)];rfl⟩
    | some bs =>
     rw [hS] at hbad
     repeat' (first|(first|refine CW.seq ?_|refine CW.region ?_|refine CW.condd_f rfl (by omega) ?_|refine CW.condf rfl ?_|refine CW.skip ?_|refine CW.ret ?_|refine CW.exit ?_)|(first|refine Post.seq ?_|refine Post.seq_exit ?_|refine Post.hit ?_|refine Post.again_exit ?_)|refine SW.nil ?_|refine SW.pure rfl rfl ?_|(show SW _ _ _ _ (⟨_,Op.fieldAddr _ _ _,_,_,_,none⟩::_) _ _;refine SW.st (st_field rfl) rfl ?_)|(show SW _ _ _ _ (⟨_,Op.nilCheck _,_,_,_,none⟩::_) _ _;refine SW.st (st_nilCheck rfl) rfl ?_)|(show SW _ _ _ _ (⟨_,Op.load _ _,_,_,_,none⟩::_) _ _;refine SW.st (st_load rfl hbad) rfl ?_))
     exact Post.ret1 rfl rfl ⟨_,rfl,hw,by rw [heapB_t (hof (hP.ok (s:=S) (by omega) (by rw [hS];rfl)) (by rw [hS];rfl))];rfl⟩
 ·rw [heapB_f (fun hh=>hd hh.dims)]
  have hcs:r.Zones.n≠2∨(r.Zones.n=2∧(r.Mins.n≠2∨(r.Mins.n=2∧(r.Cpus<1∨(1≤r.Cpus∧4<r.Cpus))))):=by unfold dimsOk at hd;omega
  rcases hcs with d|⟨d1,d|⟨d2,d|⟨d3,d⟩⟩⟩
  repeat' (first|(first|refine CW.seq ?_|refine CW.region ?_|refine CW.condtr rfl (by with_reducible rfl) ?_|refine CW.ret ?_)|(first|refine Post.seq ?_|refine Post.seq_ret ?_)|refine SW.nil ?_|(show SW _ _ _ _ (⟨_,_,_,_,_,some _⟩::_) _ _;first|refine SW.want_f rfl rfl (by with_reducible rfl) ?_|refine SW.skip_f rfl rfl (by with_reducible rfl) rfl ?_|refine SW.splitd_t rfl rfl rfl (by omega) ?_|refine SW.splitd_f rfl rfl rfl (by omega) ?_|refine SW.splitn_t rfl rfl rfl (by omega) ?_|refine SW.splitn_f rfl rfl rfl (by omega) ?_)|refine SW.pure rfl rfl ?_|(show SW _ _ _ _ (⟨_,Op.fieldAddr _ _ _,_,_,_,none⟩::_) _ _;refine SW.st (st_field rfl) rfl ?_)|(show SW _ _ _ _ (⟨_,Op.call ⟨.builtin .len,_,_⟩,_,_,_,none⟩::_) _ _;refine SW.st (st_len rfl) rfl ?_)|(show SW _ _ _ _ (⟨_,Op.load _ _,_,_,_,none⟩::_) _ _;refine SW.st (st_load rfl (hb1.cell rfl)) rfl ?_))
  all_goals exact Post.ret1 rfl rfl ⟨_,rfl,hw,rfl⟩
end Go.Proofs.YtigikedbffjeiaaGreat
