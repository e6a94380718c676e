/-
  Texts of the claim SlabDestroys, part 14: what its theorem leans on.
-/
import Derived.Test.YtigikedbffjeiaaGreatPackSlabDestroys13
import Derived.Test.YtigikedbffjeiaaGreatPackSlabDestroys4
import Derived.Test.YtigikedbffjeiaaGreatPackSlabDestroys6
import Derived.Test.YtigikedbffjeiaaGreatPackSlabDestroys2
set_option linter.unusedVariables false
set_option linter.unusedSimpArgs false
namespace Go.Proofs.YtigikedbffjeiaaGreat
open Go.RowKit
instance:StrTy Tryz.prog 9:=⟨by kernel_rfl⟩
theorem und_u8:Tryz.prog.underlying 5=some (.int .u8):=by kernel_rfl
theorem IndexFuncUInt8_ans (A:Option Addr) (n c:Nat) (l:List UInt8) (w:World) (hl:Sl w 1 encU A n l) (f:FuncId) (cap:List Value) [Body Tryz.prog f] (p:UInt8→Bool) (arg:UInt8→Value) (harg:∀ x,arg x=(if 1=1 then (encU x)[0]?.getD undef else .agg (encU x).toArray))
  (hf:∀ x∈l,∀ w',Ext w w'→Ans Tryz.prog f ([arg x]++cap) w' fun v _=>v = .bool (p x)) (hn:n≤9223372036854775807) :
  Ans Tryz.prog 121 [.slice A n c,.func (.func f) #[] cap.toArray] w fun v _=>v = .int .i64 (idxOf p l):=by
 refine ans_of Tryz.func121 rfl Tryz.ntmps121 rfl ?_
 have hw:=Ext.refl w
 have hA:=hl.base
 repeat' (first|(first|refine CW.seq ?_|refine CW.region ?_|refine CW.block ?_)|(refine Post.seq ?_)|refine SW.nil ?_|refine SW.pure rfl rfl ?_|(show SW _ _ _ _ (⟨_,Op.call ⟨.builtin .len,_,_⟩,_,_,_,none⟩::_) _ _;refine SW.st (st_len rfl) rfl ?_))
 refine CW.loop (fun k:Nat=>[(0,.slice A n c),(1,.func (.func f) #[] cap.toArray),(7,.int .i64 (n:Int)),(8,.int .i64 (k:Int))]) (fun k w'=>k≤n∧Ext w w' ∧ ∀ j (hj:j<l.length),j<k→p l[j]=false) (fun k=>n-k) 0 ⟨rfl,rfl,rfl,rfl,trivial⟩ ⟨by omega,hw,fun j _ h=>by omega⟩ ?_
 clear hw
 rintro k w' ⟨hk',hw,hI⟩
 by_cases hk:k<n
 ·have hx:=harg (l[k]'(hl.lt hk))
  have hfk:=hf (l[k]'(hl.lt hk)) (List.getElem_mem _)
  rw [hx] at hfk
  repeat' (first|(first|refine CW.seq ?_|refine CW.region ?_|refine CW.block ?_|refine CW.condd_t rfl (by omega) ?_|refine CW.skip ?_)|(refine Post.seq ?_)|refine SW.nil ?_|refine SW.pure rfl rfl ?_|(show SW _ _ _ _ (⟨_,Op.indexAddr _ _ _,_,_,_,none⟩::_) _ _;refine SW.st (st_indexN rfl rfl (by assumption) (by omega)) rfl ?_)|(show SW _ _ _ _ (⟨_,Op.load _ _,_,_,_,none⟩::_) _ _;refine SW.st (st_loadx hw rfl (hl.one hk rfl)) rfl ?_))
  refine SW.callv rfl rfl rfl (hfk _ hw) fun v w1 hw1 hv => ?_
  subst hv
  replace hw:=Ext.trans hw hw1
  cases hp:p (l[k]'(hl.lt hk))
  ·repeat' (first|(first|refine CW.region ?_|refine CW.condfr rfl (by with_reducible rfl) ?_|refine CW.skip ?_)|(first|refine Post.seq ?_|refine Post.blk ?_)|refine SW.nil ?_|refine SW.pure rfl rfl ?_|(show SW _ _ _ _ (⟨_,Op.binOp _ _ _ _ _,_,_,_,none⟩::_) _ _;refine SW.st (st_add rfl rfl (by omega) (by omega)) rfl ?_))
   refine Post.again (k+1) ⟨rfl,rfl,rfl,rfl,trivial⟩ (by omega) ⟨by omega,hw,fun j hj h => ?_⟩
   by_cases hjk:j=k
   ·subst hjk;exact hp
   ·exact hI j hj (by omega)
  ·repeat' (first|(first|refine CW.seq ?_|refine CW.region ?_|refine CW.condtr rfl (by with_reducible rfl) ?_|refine CW.ret ?_)|(first|refine Post.seq ?_|refine Post.seq_ret ?_|refine Post.blk_ret ?_|refine Post.again_ret ?_)|refine SW.nil ?_|refine SW.pure rfl rfl ?_)
   exact Post.ret1 rfl rfl ⟨_,rfl,hw,by rw [idxOf_hit (hl.lt hk) hp hI]⟩
 ·repeat' (first|(first|refine CW.seq ?_|refine CW.region ?_|refine CW.condd_f rfl (by omega) ?_|refine CW.ret ?_|refine CW.exit ?_)|(first|refine Post.seq ?_|refine Post.seq_exit ?_|refine Post.hit ?_|refine Post.again_exit ?_)|refine SW.nil ?_|refine SW.pure rfl rfl ?_)
  exact Post.ret1 rfl rfl ⟨_,rfl,hw,by rw [(idxOf_none (fun j hj=>hI j hj (by have:=hl.len;omega))).1]⟩
theorem IndexFuncSlab_ans (A:Option Addr) (n c:Nat) (l:List Slab) (w:World) (hl:Sl w 3 encSb A n l) (f:FuncId) (cap:List Value) [Body Tryz.prog f] (p:Slab→Bool) (arg:Slab→Value) (harg:∀ x,arg x=(if 3=1 then (encSb x)[0]?.getD undef else .agg (encSb x).toArray))
  (hf:∀ x∈l,∀ w',Ext w w'→Ans Tryz.prog f ([arg x]++cap) w' fun v _=>v = .bool (p x)) (hn:n≤9223372036854775807) :
  Ans Tryz.prog 53 [.slice A n c,.func (.func f) #[] cap.toArray] w fun v _=>v = .int .i64 (idxOf p l):=by
 refine ans_of Tryz.func53 rfl Tryz.ntmps53 rfl ?_
 have hw:=Ext.refl w
 have hA:=hl.base
 repeat' (first|(first|refine CW.seq ?_|refine CW.region ?_|refine CW.block ?_)|(refine Post.seq ?_)|refine SW.nil ?_|refine SW.pure rfl rfl ?_|(show SW _ _ _ _ (⟨_,Op.call ⟨.builtin .len,_,_⟩,_,_,_,none⟩::_) _ _;refine SW.st (st_len rfl) rfl ?_))
 refine CW.loop (fun k:Nat=>[(0,.slice A n c),(1,.func (.func f) #[] cap.toArray),(7,.int .i64 (n:Int)),(8,.int .i64 (k:Int))]) (fun k w'=>k≤n∧Ext w w' ∧ ∀ j (hj:j<l.length),j<k→p l[j]=false) (fun k=>n-k) 0 ⟨rfl,rfl,rfl,rfl,trivial⟩ ⟨by omega,hw,fun j _ h=>by omega⟩ ?_
 clear hw
 rintro k w' ⟨hk',hw,hI⟩
 by_cases hk:k<n
 ·have hx:=harg (l[k]'(hl.lt hk))
  have hfk:=hf (l[k]'(hl.lt hk)) (List.getElem_mem _)
  rw [hx] at hfk
  repeat' (first|(first|refine CW.seq ?_|refine CW.region ?_|refine CW.block ?_|refine CW.condd_t rfl (by omega) ?_|refine CW.skip ?_)|(refine Post.seq ?_)|refine SW.nil ?_|refine SW.pure rfl rfl ?_|(show SW _ _ _ _ (⟨_,Op.indexAddr _ _ _,_,_,_,none⟩::_) _ _;refine SW.st (st_indexN rfl rfl (by assumption) (by omega)) rfl ?_)|(show SW _ _ _ _ (⟨_,Op.load _ _,_,_,_,none⟩::_) _ _;refine SW.st (st_loadsx hw rfl rfl ((hl.all hk))) rfl ?_))
  refine SW.callv rfl rfl rfl (hfk _ hw) fun v w1 hw1 hv => ?_
  subst hv
  replace hw:=Ext.trans hw hw1
  cases hp:p (l[k]'(hl.lt hk))
  ·repeat' (first|(first|refine CW.region ?_|refine CW.condfr rfl (by with_reducible rfl) ?_|refine CW.skip ?_)|(first|refine Post.seq ?_|refine Post.blk ?_)|refine SW.nil ?_|refine SW.pure rfl rfl ?_|(show SW _ _ _ _ (⟨_,Op.binOp _ _ _ _ _,_,_,_,none⟩::_) _ _;refine SW.st (st_add rfl rfl (by omega) (by omega)) rfl ?_))
   refine Post.again (k+1) ⟨rfl,rfl,rfl,rfl,trivial⟩ (by omega) ⟨by omega,hw,fun j hj h => ?_⟩
   by_cases hjk:j=k
   ·subst hjk;exact hp
   ·exact hI j hj (by omega)
  ·repeat' (first|(first|refine CW.seq ?_|refine CW.region ?_|refine CW.condtr rfl (by with_reducible rfl) ?_|refine CW.ret ?_)|(first|refine Post.seq ?_|refine Post.seq_ret ?_|refine Post.blk_ret ?_|refine Post.again_ret ?_)|refine SW.nil ?_|refine SW.pure rfl rfl ?_)
   exact Post.ret1 rfl rfl ⟨_,rfl,hw,by rw [idxOf_hit (hl.lt hk) hp hI]⟩
 ·repeat' (first|(first|refine CW.seq ?_|refine CW.region ?_|refine CW.condd_f rfl (by omega) ?_|refine CW.ret ?_|refine CW.exit ?_)|(first|refine Post.seq ?_|refine Post.seq_exit ?_|refine Post.hit ?_|refine Post.again_exit ?_)|refine SW.nil ?_|refine SW.pure rfl rfl ?_)
  exact Post.ret1 rfl rfl ⟨_,rfl,hw,by rw [(idxOf_none (fun j hj=>hI j hj (by have:=hl.len;omega))).1]⟩
theorem IndexFuncCRow_ans (A:Option Addr) (n c:Nat) (l:List CRow) (w:World) (hl:Sl w 6 encC A n l) (f:FuncId) (cap:List Value) [Body Tryz.prog f] (p:CRow→Bool) (arg:CRow→Value) (harg:∀ x,arg x=(if 6=1 then (encC x)[0]?.getD undef else .agg (encC x).toArray))
  (hf:∀ x∈l,∀ w',Ext w w'→Ans Tryz.prog f ([arg x]++cap) w' fun v _=>v = .bool (p x)) (hn:n≤9223372036854775807) :
  Ans Tryz.prog 59 [.slice A n c,.func (.func f) #[] cap.toArray] w fun v _=>v = .int .i64 (idxOf p l):=by
 refine ans_of Tryz.func59 rfl Tryz.ntmps59 rfl ?_
 have hw:=Ext.refl w
 have hA:=hl.base
 repeat' (first|(first|refine CW.seq ?_|refine CW.region ?_|refine CW.block ?_)|(refine Post.seq ?_)|refine SW.nil ?_|refine SW.pure rfl rfl ?_|(show SW _ _ _ _ (⟨_,Op.call ⟨.builtin .len,_,_⟩,_,_,_,none⟩::_) _ _;refine SW.st (st_len rfl) rfl ?_))
 refine CW.loop (fun k:Nat=>[(0,.slice A n c),(1,.func (.func f) #[] cap.toArray),(7,.int .i64 (n:Int)),(8,.int .i64 (k:Int))]) (fun k w'=>k≤n∧Ext w w' ∧ ∀ j (hj:j<l.length),j<k→p l[j]=false) (fun k=>n-k) 0 ⟨rfl,rfl,rfl,rfl,trivial⟩ ⟨by omega,hw,fun j _ h=>by omega⟩ ?_
 clear hw
 rintro k w' ⟨hk',hw,hI⟩
 by_cases hk:k<n
 ·have hx:=harg (l[k]'(hl.lt hk))
  have hfk:=hf (l[k]'(hl.lt hk)) (List.getElem_mem _)
  rw [hx] at hfk
  repeat' (first|(first|refine CW.seq ?_|refine CW.region ?_|refine CW.block ?_|refine CW.condd_t rfl (by omega) ?_|refine CW.skip ?_)|(refine Post.seq ?_)|refine SW.nil ?_|refine SW.pure rfl rfl ?_|(show SW _ _ _ _ (⟨_,Op.indexAddr _ _ _,_,_,_,none⟩::_) _ _;refine SW.st (st_indexN rfl rfl (by assumption) (by omega)) rfl ?_)|(show SW _ _ _ _ (⟨_,Op.load _ _,_,_,_,none⟩::_) _ _;refine SW.st (st_loadsx hw rfl rfl ((hl.all hk))) rfl ?_))
  refine SW.callv rfl rfl rfl (hfk _ hw) fun v w1 hw1 hv => ?_
  subst hv
  replace hw:=Ext.trans hw hw1
  cases hp:p (l[k]'(hl.lt hk))
  ·repeat' (first|(first|refine CW.region ?_|refine CW.condfr rfl (by with_reducible rfl) ?_|refine CW.skip ?_)|(first|refine Post.seq ?_|refine Post.blk ?_)|refine SW.nil ?_|refine SW.pure rfl rfl ?_|(show SW _ _ _ _ (⟨_,Op.binOp _ _ _ _ _,_,_,_,none⟩::_) _ _;refine SW.st (st_add rfl rfl (by omega) (by omega)) rfl ?_))
   refine Post.again (k+1) ⟨rfl,rfl,rfl,rfl,trivial⟩ (by omega) ⟨by omega,hw,fun j hj h => ?_⟩
   by_cases hjk:j=k
   ·subst hjk;exact hp
   ·exact hI j hj (by omega)
  ·repeat' (first|(first|refine CW.seq ?_|refine CW.region ?_|refine CW.condtr rfl (by with_reducible rfl) ?_|refine CW.ret ?_)|(first|refine Post.seq ?_|refine Post.seq_ret ?_|refine Post.blk_ret ?_|refine Post.again_ret ?_)|refine SW.nil ?_|refine SW.pure rfl rfl ?_)
   exact Post.ret1 rfl rfl ⟨_,rfl,hw,by rw [idxOf_hit (hl.lt hk) hp hI]⟩
 ·repeat' (first|(first|refine CW.seq ?_|refine CW.region ?_|refine CW.condd_f rfl (by omega) ?_|refine CW.ret ?_|refine CW.exit ?_)|(first|refine Post.seq ?_|refine Post.seq_exit ?_|refine Post.hit ?_|refine Post.again_exit ?_)|refine SW.nil ?_|refine SW.pure rfl rfl ?_)
  exact Post.ret1 rfl rfl ⟨_,rfl,hw,by rw [(idxOf_none (fun j hj=>hI j hj (by have:=hl.len;omega))).1]⟩
theorem ContainsFuncUInt8_ans (A:Option Addr) (n c:Nat) (l:List UInt8) (w:World) (hl:Sl w 1 encU A n l) (f:FuncId) (cap:List Value) [Body Tryz.prog f] (p:UInt8→Bool) (arg:UInt8→Value) (harg:∀ x,arg x=(if 1=1 then (encU x)[0]?.getD undef else .agg (encU x).toArray))
  (hf:∀ x∈l,∀ w',Ext w w'→Ans Tryz.prog f ([arg x]++cap) w' fun v _=>v = .bool (p x)) (hn:n≤9223372036854775807) :
  Ans Tryz.prog 95 [.slice A n c,.func (.func f) #[] cap.toArray] w fun v _=>v = .bool (l.any p):=by
 refine ans_of Tryz.func95 rfl Tryz.ntmps95 rfl ?_
 have hw:=Ext.refl w
 repeat' (first|(first|refine CW.seq ?_|refine CW.region ?_|refine CW.ret ?_)|(refine Post.seq ?_)|refine SW.nil ?_|refine SW.pure rfl rfl ?_|(show SW _ _ _ _ (⟨_,Op.call ⟨.value (.func _),_,_⟩,_,_,_,none⟩::_) _ _;(refine SW.call rfl rfl (IndexFuncUInt8_ans _ _ _ _ _ (hl.ext hw) f cap p arg harg (fun x hx w1 h1=>hf x hx w1 (Ext.trans hw h1)) hn) ?_;intro v w1 hw1 hv;subst hv;replace hw:=Ext.trans hw hw1;clear hw1)))
 exact Post.ret1 rfl rfl ⟨_,rfl,hw,by rw [idxOf_ge]⟩
theorem ContainsFuncCRow_ans (A:Option Addr) (n c:Nat) (l:List CRow) (w:World) (hl:Sl w 6 encC A n l) (f:FuncId) (cap:List Value) [Body Tryz.prog f] (p:CRow→Bool) (arg:CRow→Value) (harg:∀ x,arg x=(if 6=1 then (encC x)[0]?.getD undef else .agg (encC x).toArray))
  (hf:∀ x∈l,∀ w',Ext w w'→Ans Tryz.prog f ([arg x]++cap) w' fun v _=>v = .bool (p x)) (hn:n≤9223372036854775807) :
  Ans Tryz.prog 56 [.slice A n c,.func (.func f) #[] cap.toArray] w fun v _=>v = .bool (l.any p):=by
 refine ans_of Tryz.func56 rfl Tryz.ntmps56 rfl ?_
 have hw:=Ext.refl w
 repeat' (first|(first|refine CW.seq ?_|refine CW.region ?_|refine CW.ret ?_)|(refine Post.seq ?_)|refine SW.nil ?_|refine SW.pure rfl rfl ?_|(show SW _ _ _ _ (⟨_,Op.call ⟨.value (.func _),_,_⟩,_,_,_,none⟩::_) _ _;(refine SW.call rfl rfl (IndexFuncCRow_ans _ _ _ _ _ (hl.ext hw) f cap p arg harg (fun x hx w1 h1=>hf x hx w1 (Ext.trans hw h1)) hn) ?_;intro v w1 hw1 hv;subst hv;replace hw:=Ext.trans hw hw1;clear hw1)))
 exact Post.ret1 rfl rfl ⟨_,rfl,hw,by rw [idxOf_ge]⟩
def oddU (b:UInt8) : Bool:=(decide ((b.toNat:Int)<97) || decide (122<(b.toNat:Int))) && (decide ((b.toNat:Int)<48) || decide (57<(b.toNat:Int)))
def nameB (s:ByteArray) : Bool:=decide (1≤(s.size:Int)∧(s.size:Int)≤8) && !(s.data.toList.any oddU)
theorem nameB_t {s:ByteArray} (h : 1≤s.size∧s.size≤8) (k:s.data.toList.any oddU=false) : nameB s=true:=by
 unfold nameB
 rw [k,decide_eq_true (by omega)]
 rfl
theorem nameB_size {s:ByteArray} (h : ¬ (1≤s.size∧s.size≤8)) : nameB s=false:=by
 unfold nameB
 rw [decide_eq_false (by omega)]
 rfl
theorem nameB_odd {s:ByteArray} (k:s.data.toList.any oddU=true) : nameB s=false:=by
 unfold nameB
 rw [k]
 simp
theorem oddU_ans (b:UInt8) (w:World) : Ans Tryz.prog 96 ([.int .u8 b.toNat]++[]) w fun v _=>v = .bool (oddU b):=by
 refine ans_of Tryz.func96 rfl Tryz.ntmps96 rfl ?_
 have hw:=Ext.refl w
 unfold oddU
 obtain ⟨z,hz⟩ : ∃ z:Int,(b.toNat:Int)=z:=⟨_,rfl⟩
 rw [hz]
 by_cases a1:z<97
 ·by_cases a2:z<48
  ·repeat' (first|(first|refine CW.seq ?_|refine CW.region ?_|refine CW.ret ?_)|(refine Post.seq ?_)|refine SW.nil ?_|(show SW _ _ _ _ (⟨_,_,_,_,_,some _⟩::_) _ _;first|refine SW.want_t rfl rfl (by with_reducible rfl) ?_|refine SW.skip_f rfl rfl (by with_reducible rfl) rfl ?_|refine SW.splitd_t rfl rfl rfl (by omega) ?_)|refine SW.pure rfl rfl ?_)
   exact Post.ret1 rfl rfl ⟨_,rfl,hw,by simp [a1,a2]<;>omega⟩
  ·repeat' (first|(first|refine CW.seq ?_|refine CW.region ?_|refine CW.ret ?_)|(refine Post.seq ?_)|refine SW.nil ?_|(show SW _ _ _ _ (⟨_,_,_,_,_,some _⟩::_) _ _;first|refine SW.want_t rfl rfl (by with_reducible rfl) ?_|refine SW.want_f rfl rfl (by with_reducible rfl) ?_|refine SW.skip_f rfl rfl (by with_reducible rfl) rfl ?_|refine SW.splitd_t rfl rfl rfl (by omega) ?_|refine SW.splitd_f rfl rfl rfl (by omega) ?_)|refine SW.pure rfl rfl ?_)
   exact Post.ret1 rfl rfl ⟨_,rfl,hw,by simp [a1,a2]<;>omega⟩
 ·by_cases a2 : 122<z
  ·repeat' (first|(first|refine CW.seq ?_|refine CW.region ?_|refine CW.ret ?_)|(refine Post.seq ?_)|refine SW.nil ?_|(show SW _ _ _ _ (⟨_,_,_,_,_,some _⟩::_) _ _;first|refine SW.want_t rfl rfl (by with_reducible rfl) ?_|refine SW.want_f rfl rfl (by with_reducible rfl) ?_|refine SW.splitd_t rfl rfl rfl (by omega) ?_|refine SW.splitd_f rfl rfl rfl (by omega) ?_)|refine SW.pure rfl rfl ?_)
   exact Post.ret1 rfl rfl ⟨_,rfl,hw,by simp [a1,a2]<;>omega⟩
  ·repeat' (first|(first|refine CW.seq ?_|refine CW.region ?_|refine CW.ret ?_)|(refine Post.seq ?_)|refine SW.nil ?_|(show SW _ _ _ _ (⟨_,_,_,_,_,some _⟩::_) _ _;first|refine SW.want_f rfl rfl (by with_reducible rfl) ?_|refine SW.skip_t rfl rfl (by with_reducible rfl) rfl ?_|refine SW.skip_u rfl rfl (by with_reducible rfl) rfl ?_|refine SW.splitd_f rfl rfl rfl (by omega) ?_)|refine SW.pure rfl rfl ?_)
   exact Post.ret1 rfl rfl ⟨_,rfl,hw,by simp [a1,a2]<;>omega⟩
theorem name_ans (s:ByteArray) (w:World) (hs:s.size≤140737488351232) : Ans Tryz.prog 58 [.string s] w fun v _=>v = .bool (nameB s):=by
 refine ans_of Tryz.func58 rfl Tryz.ntmps58 rfl ?_
 have hw:=Ext.refl w
 by_cases h0:s=⟨#[]⟩
 ·subst h0
  repeat' (first|(first|refine CW.seq ?_|refine CW.region ?_|refine CW.condtr rfl (by with_reducible rfl) ?_|refine CW.ret ?_)|(first|refine Post.seq ?_|refine Post.seq_ret ?_)|refine SW.nil ?_|(show SW _ _ _ _ (⟨_,_,_,_,_,some _⟩::_) _ _;first|refine SW.want_f rfl rfl (by with_reducible rfl) ?_|refine SW.skip_f rfl rfl (by with_reducible rfl) rfl ?_|refine SW.splitd rfl rfl rfl (fun h => ?_) (fun h => ?_))|refine SW.pure rfl rfl ?_|(refine SW.st (st_eqStr rfl rfl) rfl ?_))
  all_goals first|(exfalso;simp_all;done)|skip
  exact Post.ret1 rfl rfl ⟨_,rfl,hw,rfl⟩
 ·by_cases h8:s.size≤8
  ·have h1 : 1≤s.size:=by
    rcases Nat.eq_zero_or_pos s.size with h|h
    ·exact absurd (by cases s;simp [ByteArray.size] at h;subst h;rfl) h0
    ·exact h
   have hne:decide (s=⟨#[]⟩)=false:=decide_eq_false h0
   repeat' (first|(first|refine CW.seq ?_|refine CW.region ?_|refine CW.condd_f rfl (by omega) ?_|refine CW.skip ?_)|(refine Post.seq ?_)|refine SW.nil ?_|(show SW _ _ _ _ (⟨_,_,_,_,_,some _⟩::_) _ _;refine SW.want_f rfl rfl (by with_reducible rfl) ?_)|refine SW.pure rfl rfl ?_|(refine SW.st ((st_eqStr rfl rfl).eq (congrArg Value.bool hne)) rfl ?_)|refine SW.st (st_lenS rfl) rfl ?_)
   refine SW.convBytes (e:=5) und_u8 rfl rfl fun b c w1 hw1 hb hS => ?_
   replace hw:=Ext.trans hw hw1
   refine SW.call rfl rfl (ContainsFuncUInt8_ans _ _ _ _ _ hS _ [] oddU (fun x => .int .u8 x.toNat) (fun x=>rfl) (fun x _ w1 _=>oddU_ans x w1) (by omega)) fun v w2 hw2 hv => ?_
   subst hv
   replace hw:=Ext.trans hw hw2
   repeat' (first|(refine CW.ret ?_)|(refine Post.seq ?_)|refine SW.nil ?_|refine SW.pure rfl rfl ?_)
   refine Post.ret1 rfl rfl ⟨_,rfl,hw,?_⟩
   cases k:s.data.toList.any oddU
   ·rw [nameB_t ⟨h1,h8⟩ k];rfl
   ·rw [nameB_odd k];rfl
  ·have hne:decide (s=⟨#[]⟩)=false:=decide_eq_false h0
   rw [nameB_size (by omega)]
   repeat' (first|(first|refine CW.seq ?_|refine CW.region ?_|refine CW.condd_t rfl (by omega) ?_|refine CW.ret ?_)|(first|refine Post.seq ?_|refine Post.seq_ret ?_)|refine SW.nil ?_|(show SW _ _ _ _ (⟨_,_,_,_,_,some _⟩::_) _ _;refine SW.want_f rfl rfl (by with_reducible rfl) ?_)|refine SW.pure rfl rfl ?_|(refine SW.st ((st_eqStr rfl rfl).eq (congrArg Value.bool hne)) rfl ?_)|refine SW.st (st_lenS rfl) rfl ?_)
   exact Post.ret1 rfl rfl ⟨_,rfl,hw,rfl⟩
theorem nameMay_ans (s:ByteArray) (w:World) (hs:s.size≤140737488351232) : Ans Tryz.prog 68 [.string s] w fun v _=>v = .bool (nameB s):=by
 refine ans_of Tryz.func68 rfl Tryz.ntmps68 rfl ?_
 have hw:=Ext.refl w
 repeat' (first|(first|refine CW.seq ?_|refine CW.region ?_|refine CW.block ?_)|(refine Post.seq ?_)|refine SW.nil ?_|refine SW.pure rfl rfl ?_)
 have hsl:s.data.toList.length=s.size:=Array.length_toList
 refine CW.loop (fun k:Nat=>[(0,.string s),(3,.int .i64 (k:Int))]) (fun k w'=>k≤s.size∧Ext w w' ∧ ∀ (i:Nat) (h:i<s.data.toList.length),i<k→oddU s.data.toList[i]=false) (fun k=>s.size-k) 0 ⟨rfl,rfl,trivial⟩ ⟨by omega,hw,fun i h h'=>by omega⟩ ?_
 clear hw
 rintro k w' ⟨hk,hw,hI⟩
 by_cases hks:k<s.size
 ·have hkl:k<s.data.toList.length:=by omega
  have eb:s[k]'hks=s.data.toList[k]:=rfl
  obtain ⟨q,hq⟩ : ∃ q,oddU s.data.toList[k]=q:=⟨_,rfl⟩
  obtain ⟨z,hz⟩ : ∃ z:Int,((s.data.toList[k]).toNat:Int)=z:=⟨_,rfl⟩
  have hz':(((s[k]'hks).toNat:Nat) : Int)=z:=hz
  have hq':=hq
  unfold oddU at hq'
  rw [hz] at hq'
  cases q
  ·have hc:(97≤z∧z≤122)∨(48≤z∧z≤57):=by
    simp at hq'
    omega
   repeat' (first|(first|refine CW.seq ?_|refine CW.region ?_|refine CW.block ?_|refine CW.condd_t rfl (by omega) ?_|refine CW.condn_f rfl (by omega) ?_|refine CW.condf rfl ?_|refine CW.skip ?_)|(first|refine Post.seq ?_|refine Post.blk ?_)|refine SW.nil ?_|(show SW _ _ _ _ (⟨_,_,_,_,_,some _⟩::_) _ _;first|refine SW.want_t rfl rfl (by with_reducible rfl) ?_|refine SW.want_f rfl rfl (by with_reducible rfl) ?_|refine SW.skip_t rfl rfl (by with_reducible rfl) rfl ?_|refine SW.skip_f rfl rfl (by with_reducible rfl) rfl ?_|refine SW.skip_u rfl rfl (by with_reducible rfl) rfl ?_|refine SW.splitd_t rfl rfl rfl (by omega) ?_|refine SW.splitd rfl rfl rfl (fun h => ?_) (fun h => ?_))|refine SW.pure rfl rfl ?_|(show SW _ _ _ _ (⟨_,Op.binOp _ _ _ _ _,_,_,_,none⟩::_) _ _;refine SW.st (st_add rfl rfl (by omega) (by omega)) rfl ?_)|refine SW.st (st_lenS rfl) rfl ?_|(refine SW.st ((st_idxS k rfl rfl rfl hks).eq (congrArg (Value.int .u8) hz')) rfl ?_))
   all_goals first|(exfalso;omega)|skip
   all_goals exact Post.again (k+1) ⟨rfl,rfl,trivial⟩ (by omega) ⟨by omega,hw,fun i h h'=>by
     by_cases e:i=k
     ·subst e;exact hq
     ·exact hI i h (by omega)⟩
  ·have hc : ¬ ((97≤z∧z≤122)∨(48≤z∧z≤57)):=by
    simp at hq'
    omega
   have hn:nameB s=false:=nameB_odd (List.any_eq_true.2 ⟨_,List.getElem_mem hkl,hq⟩)
   rw [hn]
   repeat' (first|(first|refine CW.seq ?_|refine CW.region ?_|refine CW.block ?_|refine CW.condd_t rfl (by omega) ?_|refine CW.condn_t rfl (by omega) ?_|refine CW.condt rfl ?_|refine CW.skip ?_|refine CW.ret ?_)|(first|refine Post.seq ?_|refine Post.seq_ret ?_|refine Post.blk_ret ?_|refine Post.again_ret ?_)|refine SW.nil ?_|(show SW _ _ _ _ (⟨_,_,_,_,_,some _⟩::_) _ _;first|refine SW.want_t rfl rfl (by with_reducible rfl) ?_|refine SW.want_f rfl rfl (by with_reducible rfl) ?_|refine SW.skip_t rfl rfl (by with_reducible rfl) rfl ?_|refine SW.splitd_t rfl rfl rfl (by omega) ?_|refine SW.splitd_f rfl rfl rfl (by omega) ?_|refine SW.splitd rfl rfl rfl (fun h => ?_) (fun h => ?_))|refine SW.pure rfl rfl ?_|refine SW.st (st_lenS rfl) rfl ?_|(refine SW.st ((st_idxS k rfl rfl rfl hks).eq (congrArg (Value.int .u8) hz')) rfl ?_))
   all_goals first|(exfalso;omega)|skip
   all_goals exact Post.ret1 rfl rfl ⟨_,rfl,hw,rfl⟩
 ·have hn:s.data.toList.any oddU=false:=by
   rw [List.any_eq_false]
   intro x hx
   obtain ⟨i,hi,rfl⟩:=List.getElem_of_mem hx
   rw [hI i hi (by omega)]
   simp
  repeat' (first|(first|refine CW.seq ?_|refine CW.region ?_|refine CW.condd_f rfl (by omega) ?_|refine CW.ret ?_|refine CW.exit ?_)|(first|refine Post.seq ?_|refine Post.seq_exit ?_|refine Post.hit ?_|refine Post.again_exit ?_)|refine SW.nil ?_|refine SW.pure rfl rfl ?_|(show SW _ _ _ _ (⟨_,Op.call ⟨.value (.func _),_,_⟩,_,_,_,none⟩::_) _ _;(refine SW.call rfl rfl (In_ans _ _ _ _) ?_;intro v w1 hw1 hv;subst hv;replace hw:=Ext.trans hw hw1;clear hw1))|refine SW.st (st_lenS rfl) rfl ?_)
  refine Post.ret1 rfl rfl ⟨_,rfl,hw,?_⟩
  unfold nameB
  rw [hn]
  simp
open Go.RowKit
def layoutF (x:Int) : Int×Int×Int:=if 1≤x∧x≤64 then (if 4≤16 / x then (0,16 / x,0) else if 4≤32 / x then (1,32 / x,0) else (2,64 / x,0)) else (0,0,1)
def layoutV (x:Int) : Value := .tuple #[.int .i64 (layoutF x).1,.int .i64 (layoutF x).2.1,.int .i64 (layoutF x).2.2]
theorem LayoutOf_ans (x:Int) (w:World) : Ans Tryz.prog 105 [.int .i64 x] w fun v _=>v=layoutV x:=by
 refine ans_of Tryz.func105 rfl Tryz.ntmps105 rfl ?_
 have hw:=Ext.refl w
 repeat' (first|(first|refine CW.seq ?_|refine CW.region ?_|refine CW.condd rfl (fun h => ?_) (fun h => ?_)|refine CW.condn rfl (fun h => ?_) (fun h => ?_)|refine CW.skip ?_|refine CW.ret ?_|(apply CW.quiet1 mixed;(· kernel_rfl);rotate_left;intro w1 hw1;replace hw:=Ext.trans hw hw1;clear hw1;rotate_right))|(first|refine Post.seq ?_|refine Post.seq_ret ?_)|refine SW.nil ?_|refine SW.pure rfl rfl ?_|(show SW _ _ _ _ (⟨_,Op.binOp _ _ _ _ _,_,_,_,none⟩::_) _ _;refine SW.st (st_quo rfl rfl (by omega) (by omega) (by omega)) rfl ?_)|(show SW _ _ _ _ (⟨_,Op.call ⟨.value (.func _),_,_⟩,_,_,_,none⟩::_) _ _;(refine SW.call rfl rfl (In_ans _ _ _ _) ?_;intro v w1 hw1 hv;subst hv;replace hw:=Ext.trans hw hw1;clear hw1))|exact SW.qnil rfl)
 all_goals refine Post.ret3 rfl rfl rfl rfl ⟨_,rfl,hw,?_⟩
 all_goals unfold layoutV layoutF
 ·rw [if_neg (by omega)]
 ·rw [if_pos (by omega),if_pos (by omega)]
 ·rw [if_pos (by omega),if_neg (by omega),if_pos (by omega)]
 ·rw [if_pos (by omega),if_neg (by omega),if_neg (by omega)]
theorem Layout_ans (x:Int) (w:World) : Ans Tryz.prog 91 [.int .i64 x] w fun v _=>v=layoutV x:=by
 refine ans_of Tryz.func91 rfl Tryz.ntmps91 rfl ?_
 have hw:=Ext.refl w
 repeat' (first|(first|refine CW.seq ?_|refine CW.region ?_|refine CW.block ?_|refine CW.condtr rfl (by with_reducible rfl) ?_|refine CW.condd rfl (fun h => ?_) (fun h => ?_)|refine CW.skip ?_|refine CW.ret ?_)|(first|refine Post.seq ?_|refine Post.seq_ret ?_)|refine SW.nil ?_|(show SW _ _ _ _ (⟨_,_,_,_,_,some _⟩::_) _ _;first|refine SW.want_f rfl rfl (by with_reducible rfl) ?_|refine SW.skip_f rfl rfl (by with_reducible rfl) rfl ?_|refine SW.splitd rfl rfl rfl (fun h => ?_) (fun h => ?_))|refine SW.pure rfl rfl ?_)
 ·refine Post.ret3 rfl rfl rfl rfl ⟨_,rfl,hw,?_⟩
  unfold layoutV layoutF
  rw [if_neg (by omega)]
 ·refine Post.ret3 rfl rfl rfl rfl ⟨_,rfl,hw,?_⟩
  unfold layoutV layoutF
  rw [if_neg (by omega)]
 ·have hx : 1≤x∧x≤64:=by omega
  refine CW.loop (fun k:Nat=>[(0,.int .i64 x),(5,.int .i64 (k:Int))]) (fun k w'=>k≤2∧Ext w w'∧(1≤k → ¬ 4≤16 / x)∧(2≤k → ¬ 4≤32 / x)) (fun k=>2-k) 0 ⟨rfl,rfl,trivial⟩ ⟨by omega,hw,by omega,by omega⟩ ?_
  clear hw
  rintro k w' ⟨hk,hw,h1,h2⟩
  obtain rfl|rfl|rfl:k=0∨k=1∨k=2:=by omega
  ·repeat' (first|(first|refine CW.seq ?_|refine CW.region ?_|refine CW.block ?_)|refine SW.pure rfl rfl ?_)
   refine SW.st (st_shl (r:=16) rfl rfl (by decide) (by decide) (by decide) (by decide) (by decide)) rfl ?_
   repeat' (first|(first|refine CW.seq ?_|refine CW.region ?_|refine CW.condtr rfl (by with_reducible rfl) ?_|refine CW.condd_f rfl (by omega) ?_|refine CW.skip ?_|refine CW.ret ?_)|(first|refine Post.seq ?_|refine Post.seq_ret ?_|refine Post.blk ?_|refine Post.blk_ret ?_|refine Post.again_ret ?_)|refine SW.nil ?_|(show SW _ _ _ _ (⟨_,_,_,_,_,some _⟩::_) _ _;first|refine SW.want_f rfl rfl (by with_reducible rfl) ?_|refine SW.skip_f rfl rfl (by with_reducible rfl) rfl ?_|refine SW.splitd rfl rfl rfl (fun h => ?_) (fun h => ?_))|refine SW.pure rfl rfl ?_|(show SW _ _ _ _ (⟨_,Op.binOp _ _ _ _ _,_,_,_,none⟩::_) _ _;first|refine SW.st (st_add rfl rfl (by omega) (by omega)) rfl ?_|refine SW.st (st_quo rfl rfl (by omega) (by omega) (by omega)) rfl ?_))
   ·refine Post.ret3 rfl rfl rfl rfl ⟨_,rfl,hw,?_⟩
    unfold layoutV layoutF
    rw [if_pos (by omega),if_pos (by omega)]
    rfl
   ·exact Post.again 1 ⟨rfl,rfl,trivial⟩ (by omega) ⟨by omega,hw,fun _=>by omega,fun h=>by omega⟩
  ·repeat' (first|(first|refine CW.seq ?_|refine CW.region ?_|refine CW.block ?_)|refine SW.pure rfl rfl ?_)
   refine SW.st (st_shl (r:=32) rfl rfl (by decide) (by decide) (by decide) (by decide) (by decide)) rfl ?_
   repeat' (first|(first|refine CW.seq ?_|refine CW.region ?_|refine CW.condtr rfl (by with_reducible rfl) ?_|refine CW.condd_f rfl (by omega) ?_|refine CW.skip ?_|refine CW.ret ?_)|(first|refine Post.seq ?_|refine Post.seq_ret ?_|refine Post.blk ?_|refine Post.blk_ret ?_|refine Post.again_ret ?_)|refine SW.nil ?_|(show SW _ _ _ _ (⟨_,_,_,_,_,some _⟩::_) _ _;first|refine SW.want_f rfl rfl (by with_reducible rfl) ?_|refine SW.skip_f rfl rfl (by with_reducible rfl) rfl ?_|refine SW.splitd rfl rfl rfl (fun h => ?_) (fun h => ?_))|refine SW.pure rfl rfl ?_|(show SW _ _ _ _ (⟨_,Op.binOp _ _ _ _ _,_,_,_,none⟩::_) _ _;first|refine SW.st (st_add rfl rfl (by omega) (by omega)) rfl ?_|refine SW.st (st_quo rfl rfl (by omega) (by omega) (by omega)) rfl ?_))
   ·refine Post.ret3 rfl rfl rfl rfl ⟨_,rfl,hw,?_⟩
    have:=h1 (by omega)
    unfold layoutV layoutF
    rw [if_pos (by omega),if_neg (by omega),if_pos (by omega)]
    rfl
   ·exact Post.again 2 ⟨rfl,rfl,trivial⟩ (by omega) ⟨by omega,hw,fun _=>h1 (by omega),fun _=>by omega⟩
  ·repeat' (first|(first|refine CW.seq ?_|refine CW.region ?_|refine CW.block ?_)|refine SW.pure rfl rfl ?_)
   refine SW.st (st_shl (r:=64) rfl rfl (by decide) (by decide) (by decide) (by decide) (by decide)) rfl ?_
   have h1':=h1 (by omega)
   have h2':=h2 (by omega)
   repeat' (first|(first|refine CW.seq ?_|refine CW.region ?_|refine CW.condtr rfl (by with_reducible rfl) ?_|refine CW.condd_t rfl (by omega) ?_|refine CW.ret ?_)|(first|refine Post.seq ?_|refine Post.seq_ret ?_|refine Post.blk_ret ?_|refine Post.again_ret ?_)|refine SW.nil ?_|(show SW _ _ _ _ (⟨_,_,_,_,_,some _⟩::_) _ _;first|refine SW.want_f rfl rfl (by with_reducible rfl) ?_|refine SW.skip_f rfl rfl (by with_reducible rfl) rfl ?_|refine SW.splitd rfl rfl rfl (fun h => ?_) (fun h => ?_))|refine SW.pure rfl rfl ?_|(show SW _ _ _ _ (⟨_,Op.binOp _ _ _ _ _,_,_,_,none⟩::_) _ _;refine SW.st (st_quo rfl rfl (by omega) (by omega) (by omega)) rfl ?_))
   all_goals refine Post.ret3 rfl rfl rfl rfl ⟨_,rfl,hw,?_⟩
   all_goals unfold layoutV layoutF
   all_goals rw [if_pos (by omega),if_neg (by omega),if_neg (by omega)]
   all_goals rfl
open Go.RowKit
def encB (b:Bool) : List Value:=[.bool b]
instance:Enc encB 1:=⟨fun _=>rfl,fun _ u hu=>by simp [encB] at hu;subst hu;rfl⟩
theorem IndexInt_ans (A:Option Addr) (n c:Nat) (l:List Int) (x:Int) (w:World) (hl:Sl w 1 encI A n l) (hn:n≤9223372036854775807) :
  Ans Tryz.prog 72 [.slice A n c,.int .i64 x] w fun v _ => ∃ i:Int,v = .int .i64 i∧(0≤i↔x∈l):=by
 refine ans_of Tryz.func72 rfl Tryz.ntmps72 rfl ?_
 have hw:=Ext.refl w
 have hA:=hl.base
 have hll:=hl.len
 repeat' (first|(first|refine CW.seq ?_|refine CW.region ?_|refine CW.block ?_)|(refine Post.seq ?_)|refine SW.nil ?_|refine SW.pure rfl rfl ?_|(show SW _ _ _ _ (⟨_,Op.call ⟨.builtin .len,_,_⟩,_,_,_,none⟩::_) _ _;refine SW.st (st_len rfl) rfl ?_))
 refine CW.loop (fun k:Nat=>[(0,.slice A n c),(1,.int .i64 x),(7,.int .i64 (n:Int)),(8,.int .i64 (k:Int))]) (fun k w'=>k≤n∧Ext w w' ∧ ∀ (i:Nat) (h:i<l.length),i<k→l[i]≠x)
  (fun k=>n-k) 0 ⟨rfl,rfl,rfl,rfl,trivial⟩ ⟨by omega,hw,fun i h hi=>by omega⟩ ?_
 clear hw
 rintro k w' ⟨hk,hw,hI⟩
 by_cases hkn:k<n
 ·repeat' (first|(first|refine CW.seq ?_|refine CW.region ?_|refine CW.block ?_|refine CW.condd_t rfl (by omega) ?_|refine CW.condd rfl (fun h => ?_) (fun h => ?_)|refine CW.skip ?_|refine CW.ret ?_)|(first|refine Post.seq ?_|refine Post.seq_ret ?_|refine Post.blk ?_|refine Post.blk_ret ?_|refine Post.again_ret ?_)|refine SW.nil ?_|refine SW.pure rfl rfl ?_|(show SW _ _ _ _ (⟨_,Op.binOp _ _ _ _ _,_,_,_,none⟩::_) _ _;refine SW.st (st_add rfl rfl (by omega) (by omega)) rfl ?_)|(show SW _ _ _ _ (⟨_,Op.indexAddr _ _ _,_,_,_,none⟩::_) _ _;refine SW.st (st_indexN rfl rfl (by assumption) (by omega)) rfl ?_)|(show SW _ _ _ _ (⟨_,Op.load _ _,_,_,_,none⟩::_) _ _;refine SW.st (st_loadx hw rfl (hl.one hkn rfl)) rfl ?_))
  ·refine Post.ret1 rfl rfl ⟨_,rfl,hw,_,rfl,?_⟩
   have hx:x∈l:=by rw [h];exact List.getElem_mem _
   simp [hx]
  ·refine Post.again (k+1) ⟨rfl,rfl,rfl,rfl,trivial⟩ (by omega) ⟨by omega,hw,fun i h' hi => ?_⟩
   by_cases hik:i=k
   ·subst hik
    exact fun e=>h e.symm
   ·exact hI i h' (by omega)
 ·repeat' (first|(first|refine CW.seq ?_|refine CW.region ?_|refine CW.condd_f rfl (by omega) ?_|refine CW.ret ?_|refine CW.exit ?_)|(first|refine Post.seq ?_|refine Post.seq_exit ?_|refine Post.hit ?_|refine Post.again_exit ?_)|refine SW.nil ?_|refine SW.pure rfl rfl ?_)
  refine Post.ret1 rfl rfl ⟨_,rfl,hw,_,rfl,?_⟩
  have hx : ¬ x∈l:=fun hm=>by
   obtain ⟨i,hi,e⟩:=List.getElem_of_mem hm
   exact hI i hi (by omega) e
  simp [hx]
theorem ContainsInt_ans (A:Option Addr) (n c:Nat) (l:List Int) (x:Int) (w:World) (hl:Sl w 1 encI A n l) (hn:n≤9223372036854775807) :
  Ans Tryz.prog 45 [.slice A n c,.int .i64 x] w fun v _=>v = .bool (decide (x∈l)):=by
 refine ans_of Tryz.func45 rfl Tryz.ntmps45 rfl ?_
 have hw:=Ext.refl w
 repeat' (first|(first|refine CW.seq ?_|refine CW.region ?_)|(refine Post.seq ?_)|refine SW.nil ?_|refine SW.pure rfl rfl ?_)
 refine SW.call rfl rfl (IndexInt_ans _ _ _ _ _ _ (hl.ext hw) hn) fun v w1 hw1 hv => ?_
 obtain ⟨i,rfl,hi⟩:=hv
 replace hw:=Ext.trans hw hw1
 repeat' (first|(refine CW.ret ?_)|(refine Post.seq ?_)|refine SW.nil ?_|refine SW.pure rfl rfl ?_)
 refine Post.ret1 rfl rfl ⟨_,rfl,hw,?_⟩
 congr 1
 rw [decide_eq_decide]
 exact hi
inductive Follows (l:List Int) (most:Int) : Int→List Int→Option (List Int)→Prop where
 | done (out:List Int) : Follows l most (-1) out (some out)
 | bad {x:Int} {out:List Int} (h:x ≠ -1) (hb:most≤out.length ∨ ¬ (0≤x∧x<l.length)∨x∈out) : Follows l most x out none
 | step {k:Nat} {out:List Int} {r:Option (List Int)} (h1:out.length<most) (hk:k<l.length) (h3:(k:Int)∉out) (h:Follows l most l[k] (out++[(k:Int)]) r) : Follows l most k out r
theorem Follows.det {l:List Int} {most x:Int} {out:List Int} {r s:Option (List Int)} (h:Follows l most x out r) : Follows l most x out s→r=s:=by
 induction h with
 | done out=>intro h';generalize hx:(-1:Int)=y at h';cases h' with
  | done=>rfl
  | bad h hb=>exact absurd hx.symm h
  | step h1 hk h3 h=>omega
 | @bad x out h hb=>intro h';cases h' with
  | done=>exact absurd rfl h
  | bad=>rfl
  | @step k _ _ h1 hk h3 h'=>rcases hb with h0|h0|h0<;>first|omega|exact absurd h0 h3
 | @step k out r h1 hk h3 h ih=>intro h';generalize hx:(k:Int)=y at h';cases h' with
  | done=>omega
  | bad h hb=>subst hx;rcases hb with h0|h0|h0<;>first|omega|exact absurd h0 h3
  | @step k' _ _ h1' hk' h3' h' =>
   have:k=k':=by omega
   subst this
   exact ih h'
def unseen (n:Nat) (out:List Int) : Nat:=((List.range n).filter fun i:Nat=>decide ((i:Int)∉out)).length
theorem unseen_lt {n k:Nat} {out:List Int} (hk:k<n) (h:(k:Int)∉out) : unseen n (out++[(k:Int)])<unseen n out:=by
 unfold unseen
 have e:((List.range n).filter fun i:Nat=>decide ((i:Int)∉out++[(k:Int)]))=((List.range n).filter fun i:Nat=>decide ((i:Int)∉out)).filter fun i:Nat=>decide (i≠k):=by
  rw [List.filter_filter]
  apply List.filter_congr
  intro i _
  rw [← Bool.decide_and,decide_eq_decide]
  simp only [List.mem_append,List.mem_singleton,not_or]
  constructor
  ·rintro ⟨h1,h2⟩;exact ⟨fun e=>h2 (by rw [e]),h1⟩
  ·rintro ⟨h1,h2⟩;exact ⟨h2,fun e=>h1 (by omega)⟩
 rw [e]
 refine List.length_filter_lt_length_iff_exists.2 ⟨k,?_,by simp⟩
 simp [hk,h]
open Go.RowKit
theorem Own.ne_own {α β : Type} {w:World} {lo lo':Nat} {e e':TypeId} {sz sz':Nat} {enc : α → List Value} {enc' : β → List Value} {A B:Option Addr} {m c k d:Nat} {l:List α} {l':List β}
  (hO:Own w lo e sz enc A m c l) (hS:Own w lo' e' sz' enc' B k d l') (hne:Nat.beq e e'=false) : ownB A c=none∨ownB A c≠ownB B d:=by
 rcases hO.row with ⟨_,rfl⟩|⟨hc,g,cur,rfl,_,h2,_⟩
 ·exact .inl (by simp [ownB])
 ·right
  rcases hS.row with ⟨_,rfl⟩|⟨hd,g',cur',rfl,_,h2',_⟩
  ·simp [ownB,Nat.pos_iff_ne_zero.1 hc]
  ·simp only [ownB,Nat.pos_iff_ne_zero.1 hc,Nat.pos_iff_ne_zero.1 hd,if_false,Option.map_some,ne_eq,Option.some.injEq]
   rintro rfl
   rw [h2] at h2'
   injection h2' with h2'
   injection h2' with _ h _
   subst h
   simp at hne
def FollowV (lo:Nat) (r:Option (List Int)) (v:Value) (w:World) : Prop:=match r with
 | none=>v = .tuple #[.slice none 0 0,.int .i64 8]
 | some out => ∃ A c,v = .tuple #[.slice A out.length c,.int .i64 0]∧Own w lo 3 1 encI A out.length c out∧out.length≤17592186044416
theorem unseen_nil (n:Nat) : unseen n []≤n:=Nat.le_trans (List.length_filter_le _ _) (by simp)
theorem Follow_ans (A:Option Addr) (n c:Nat) (l:List Int) (x most:Int) (w:World) (hl:Sl w 1 encI A n l) (hn:n*8≤140737488355328) :
  Ans Tryz.prog 69 [.slice A n c,.int .i64 x,.int .i64 most] w fun v w' => ∃ r,Follows l most x [] r∧FollowV w.heap.size r v w':=by
 refine ans_of Tryz.func69 rfl Tryz.ntmps69 rfl ?_
 have hw:=Ext.refl w
 have hn':n≤2305843009213693952:=by omega
 have hA:=hl.base
 have hll:=hl.len
 repeat' (first|(first|refine CW.seq ?_|refine CW.region ?_|refine CW.block ?_)|(refine Post.seq ?_)|refine SW.nil ?_|refine SW.pure rfl rfl ?_)
 refine CW.loop (fun s:List Int×Int×Option Addr×Nat=>[(0,.slice A n c),(1,.int .i64 s.2.1),(2,.int .i64 most),(8,.slice s.2.2.1 s.1.length s.2.2.2)])
  (fun s w'=>s.1.length+unseen n s.1≤n∧(∀ r,Follows l most s.2.1 s.1 r→Follows l most x [] r)∧Ext w w'∧Own w' w.heap.size 3 1 encI s.2.2.1 s.1.length s.2.2.2 s.1) (fun s=>unseen n s.1) ([],x,none,0) ⟨rfl,rfl,rfl,rfl,trivial⟩
  ⟨by simpa using unseen_nil n,fun _ h=>h,hw,Own.nil_ _ _ _ _ _ _⟩ ?_
 clear hw
 rintro ⟨out,y,A1,c1⟩ w' ⟨hk,hF,hw,hO⟩
 simp only at hk hF hO ⊢
 by_cases hy:y = -1
 ·repeat' (first|(first|refine CW.seq ?_|refine CW.region ?_|refine CW.condn_f rfl (by omega) ?_|refine CW.ret ?_|refine CW.exit ?_)|(first|refine Post.seq ?_|refine Post.seq_exit ?_|refine Post.hit ?_|refine Post.again_exit ?_)|refine SW.nil ?_|refine SW.pure rfl rfl ?_)
  refine Post.ret2 rfl rfl rfl ⟨_,rfl,hw,some out,hF _ (by subst hy;exact .done _),A1,c1,rfl,hO,by omega⟩
 ·by_cases hm:most≤out.length
  ·repeat' (first|(first|refine CW.seq ?_|refine CW.region ?_|refine CW.block ?_|refine CW.condtr rfl (by with_reducible rfl) ?_|refine CW.condn_t rfl (by omega) ?_|refine CW.skip ?_|refine CW.ret ?_)|(first|refine Post.seq ?_|refine Post.seq_ret ?_|refine Post.blk_ret ?_|refine Post.again_ret ?_)|refine SW.nil ?_|(show SW _ _ _ _ (⟨_,_,_,_,_,some _⟩::_) _ _;first|refine SW.skip_f rfl rfl (by with_reducible rfl) rfl ?_|refine SW.splitd_t rfl rfl rfl (by omega) ?_)|refine SW.pure rfl rfl ?_|(show SW _ _ _ _ (⟨_,Op.call ⟨.builtin .len,_,_⟩,_,_,_,none⟩::_) _ _;refine SW.st (st_len rfl) rfl ?_))
   exact Post.ret2 rfl rfl rfl ⟨_,rfl,hw,none,hF _ (.bad hy (.inl hm)),rfl⟩
  ·by_cases hx : 0≤y∧y<n
   ·obtain ⟨k,rfl⟩:=Int.eq_ofNat_of_zero_le hx.1
    have hkn:k<n:=by omega
    by_cases hmem:(k:Int)∈out
    ·repeat' (first|(first|refine CW.seq ?_|refine CW.region ?_|refine CW.block ?_|refine CW.condn_t rfl (by omega) ?_|refine CW.skip ?_)|(refine Post.seq ?_)|refine SW.nil ?_|(show SW _ _ _ _ (⟨_,_,_,_,_,some _⟩::_) _ _;first|refine SW.want_f rfl rfl (by with_reducible rfl) ?_|refine SW.splitd_f rfl rfl rfl (by omega) ?_|refine SW.splitn_f rfl rfl rfl (by omega) ?_)|refine SW.pure rfl rfl ?_|(show SW _ _ _ _ (⟨_,Op.call ⟨.builtin .len,_,_⟩,_,_,_,none⟩::_) _ _;refine SW.st (st_len rfl) rfl ?_)|(show SW _ _ _ _ (⟨_,Op.call ⟨.value (.func _),_,_⟩,_,_,_,none⟩::_) _ _;(refine SW.call rfl rfl (in_ans _ _ _ _ _ _ hn') ?_;intro v w1 hw1 hv;subst hv;replace hw:=Ext.trans hw hw1;replace hO:=hO.ext hw1;clear hw1)))
     refine SW.call rfl rfl (ContainsInt_ans _ _ _ _ _ _ hO.sl (by omega)) fun v w1 hw1 hv => ?_
     rw [decide_eq_true hmem] at hv
     subst hv
     replace hw:=Ext.trans hw hw1
     repeat' (first|(first|refine CW.seq ?_|refine CW.region ?_|refine CW.condtr rfl (by with_reducible rfl) ?_|refine CW.ret ?_)|(first|refine Post.seq ?_|refine Post.seq_ret ?_|refine Post.blk_ret ?_|refine Post.again_ret ?_)|refine SW.nil ?_|refine SW.pure rfl rfl ?_)
     exact Post.ret2 rfl rfl rfl ⟨_,rfl,hw,none,hF _ (.bad hy (.inr (.inr hmem))),rfl⟩
    ·have hu:=unseen_lt hkn hmem
     repeat' (first|(first|refine CW.seq ?_|refine CW.region ?_|refine CW.block ?_|refine CW.condn_t rfl (by omega) ?_|refine CW.skip ?_)|(refine Post.seq ?_)|refine SW.nil ?_|(show SW _ _ _ _ (⟨_,_,_,_,_,some _⟩::_) _ _;first|refine SW.want_f rfl rfl (by with_reducible rfl) ?_|refine SW.splitd_f rfl rfl rfl (by omega) ?_|refine SW.splitn_f rfl rfl rfl (by omega) ?_)|refine SW.pure rfl rfl ?_|(show SW _ _ _ _ (⟨_,Op.call ⟨.builtin .len,_,_⟩,_,_,_,none⟩::_) _ _;refine SW.st (st_len rfl) rfl ?_)|(show SW _ _ _ _ (⟨_,Op.call ⟨.value (.func _),_,_⟩,_,_,_,none⟩::_) _ _;(refine SW.call rfl rfl (in_ans _ _ _ _ _ _ hn') ?_;intro v w1 hw1 hv;subst hv;replace hw:=Ext.trans hw hw1;replace hO:=hO.ext hw1;clear hw1)))
     refine SW.call rfl rfl (ContainsInt_ans _ _ _ _ _ _ hO.sl (by omega)) fun v w1 hw1 hv => ?_
     rw [decide_eq_false hmem] at hv
     subst hv
     replace hw:=Ext.trans hw hw1
     replace hO:=hO.ext hw1
     repeat' (first|(first|refine CW.seq ?_|refine CW.region ?_|refine CW.condfr rfl (by with_reducible rfl) ?_|refine CW.skip ?_)|(refine Post.seq ?_)|refine SW.nil ?_|refine SW.pure rfl rfl ?_)
     refine SW.build1 rfl rfl rfl rfl rfl fun b w1 hw1 hb hB => ?_
     replace hw:=Ext.trans hw hw1
     replace hO:=hO.ext hw1
     refine SW.append hO (Blk.sl1 (enc:=encI) hB) hw.size rfl rfl rfl (by omega) (by omega) fun A2 c2 w2 hO1 hg => ?_
     replace hw:=ext_grown hw hg (Nat.le_refl _) hO.row_ge
     repeat' (first|(refine CW.region ?_)|(first|refine Post.seq ?_|refine Post.blk ?_)|refine SW.nil ?_|refine SW.pure rfl rfl ?_|(show SW _ _ _ _ (⟨_,Op.indexAddr _ _ _,_,_,_,none⟩::_) _ _;refine SW.st (st_indexN rfl rfl (by assumption) (by omega)) rfl ?_)|(show SW _ _ _ _ (⟨_,Op.load _ _,_,_,_,none⟩::_) _ _;refine SW.st (st_loadx hw rfl (hl.one hkn rfl)) rfl ?_))
     refine Post.again (out++[(k:Int)],l[k]'(hl.lt hkn),A2,c2) ⟨rfl,rfl,rfl,by simp;rfl,trivial⟩ hu ⟨by simp only [List.length_append,List.length_singleton];omega,fun r h=>hF r (.step (by omega) (hl.lt hkn) hmem h),hw,by simpa using hO1⟩
   ·repeat' (first|(first|refine CW.seq ?_|refine CW.region ?_|refine CW.block ?_|refine CW.condtr rfl (by with_reducible rfl) ?_|refine CW.condn_t rfl (by omega) ?_|refine CW.skip ?_|refine CW.ret ?_)|(first|refine Post.seq ?_|refine Post.seq_ret ?_|refine Post.blk_ret ?_|refine Post.again_ret ?_)|refine SW.nil ?_|(show SW _ _ _ _ (⟨_,_,_,_,_,some _⟩::_) _ _;first|refine SW.want_f rfl rfl (by with_reducible rfl) ?_|refine SW.skip_f rfl rfl (by with_reducible rfl) rfl ?_|refine SW.splitd_f rfl rfl rfl (by omega) ?_|refine SW.splitn_t rfl rfl rfl (by omega) ?_)|refine SW.pure rfl rfl ?_|(show SW _ _ _ _ (⟨_,Op.call ⟨.builtin .len,_,_⟩,_,_,_,none⟩::_) _ _;refine SW.st (st_len rfl) rfl ?_)|(show SW _ _ _ _ (⟨_,Op.call ⟨.value (.func _),_,_⟩,_,_,_,none⟩::_) _ _;(refine SW.call rfl rfl (in_ans _ _ _ _ _ _ hn') ?_;intro v w1 hw1 hv;subst hv;replace hw:=Ext.trans hw hw1;replace hO:=hO.ext hw1;clear hw1)))
    exact Post.ret2 rfl rfl rfl ⟨_,rfl,hw,none,hF _ (.bad hy (.inr (.inl (by omega)))),rfl⟩
def seenL (n:Nat) (out:List Int) : List Bool:=(List.range n).map fun i:Nat=>decide ((i:Int)∈out)
theorem seenL_nil (n:Nat) : seenL n []=List.replicate n false:=by
 apply List.ext_getElem (by simp [seenL])
 intro i h1 h2
 simp [seenL]
theorem seenL_set {n k:Nat} {out:List Int}:(seenL n out).set k true=seenL n (out++[(k:Int)]):=by
 apply List.ext_getElem (by simp [seenL])
 intro i h1 h2
 rw [List.getElem_set]
 by_cases h:k=i
 ·subst h;simp [seenL]
 ·have : ¬ i=k:=fun e=>h e.symm
  simp [seenL,h,Int.natCast_inj,this]
theorem seenL_cell {w:World} {B:Option Addr} {n k:Nat} {out:List Int} (h:Sl w 1 encB B n (seenL n out)) (hk:k<n) : w.cell? ((B.getD default).add (k*1))=some (.bool (decide ((k:Int)∈out))):=by
 have:=h.one (u := .bool (decide ((k:Int)∈out))) hk (by simp [encB,seenL])
 exact this
theorem FollowOf_ans (A:Option Addr) (n c:Nat) (l:List Int) (x most:Int) (w:World) (hl:Sl w 1 encI A n l) (hn:n*8≤140737488355328) :
  Ans Tryz.prog 80 [.slice A n c,.int .i64 x,.int .i64 most] w fun v w' => ∃ r,Follows l most x [] r∧FollowV w.heap.size r v w':=by
 refine ans_of Tryz.func80 rfl Tryz.ntmps80 rfl ?_
 have hw:=Ext.refl w
 have hn':n≤2305843009213693952:=by omega
 have hA:=hl.base
 have hll:=hl.len
 repeat' (first|(first|refine CW.seq ?_|refine CW.region ?_)|(refine Post.seq ?_)|refine SW.nil ?_|refine SW.pure rfl rfl ?_|(show SW _ _ _ _ (⟨_,Op.call ⟨.builtin .len,_,_⟩,_,_,_,none⟩::_) _ _;refine SW.st (st_len rfl) rfl ?_))
 refine SW.make (enc:=encB) (k:=n) false rfl rfl rfl (by omega) (by omega) rfl fun B d w1 hw1 hS => ?_
 have hlo:=hw.size
 replace hw:=Ext.trans hw hw1
 rw [← seenL_nil n] at hS
 replace hS:=Own.low hS hlo
 repeat' (first|(first|refine CW.seq ?_|refine CW.region ?_|refine CW.block ?_)|(refine Post.seq ?_)|refine SW.nil ?_|refine SW.pure rfl rfl ?_)
 refine CW.loop (fun s:List Int×Int×Option Addr×Nat=>[(0,.slice A n c),(1,.int .i64 s.2.1),(2,.int .i64 most),(8,.slice B n d),(9,.slice s.2.2.1 s.1.length s.2.2.2)])
  (fun s w'=>s.1.length+unseen n s.1≤n∧(∀ r,Follows l most s.2.1 s.1 r→Follows l most x [] r)∧Ext w w'∧Own w' w.heap.size 3 1 encI s.2.2.1 s.1.length s.2.2.2 s.1∧Own w' w.heap.size 4 1 encB B n d (seenL n s.1)) (fun s=>unseen n s.1) ([],x,none,0) ⟨rfl,rfl,rfl,rfl,rfl,trivial⟩
  ⟨by simpa using unseen_nil n,fun _ h=>h,hw,Own.nil_ _ _ _ _ _ _,hS⟩ ?_
 clear hw hS
 rintro ⟨out,y,A1,c1⟩ w' ⟨hk,hF,hw,hO,hS⟩
 simp only at hk hF hO hS ⊢
 by_cases hy:y = -1
 ·repeat' (first|(first|refine CW.seq ?_|refine CW.region ?_|refine CW.condn_f rfl (by omega) ?_|refine CW.ret ?_|refine CW.exit ?_)|(first|refine Post.seq ?_|refine Post.seq_exit ?_|refine Post.hit ?_|refine Post.again_exit ?_)|refine SW.nil ?_|refine SW.pure rfl rfl ?_)
  refine Post.ret2 rfl rfl rfl ⟨_,rfl,hw,some out,hF _ (by subst hy;exact .done _),A1,c1,rfl,hO,by omega⟩
 ·by_cases hm:most≤out.length
  ·repeat' (first|(first|refine CW.seq ?_|refine CW.region ?_|refine CW.block ?_|refine CW.condtr rfl (by with_reducible rfl) ?_|refine CW.condn_t rfl (by omega) ?_|refine CW.skip ?_|refine CW.ret ?_)|(first|refine Post.seq ?_|refine Post.seq_ret ?_|refine Post.blk_ret ?_|refine Post.again_ret ?_)|refine SW.nil ?_|(show SW _ _ _ _ (⟨_,_,_,_,_,some _⟩::_) _ _;first|refine SW.skip_f rfl rfl (by with_reducible rfl) rfl ?_|refine SW.splitd_t rfl rfl rfl (by omega) ?_)|refine SW.pure rfl rfl ?_|(show SW _ _ _ _ (⟨_,Op.call ⟨.builtin .len,_,_⟩,_,_,_,none⟩::_) _ _;refine SW.st (st_len rfl) rfl ?_))
   exact Post.ret2 rfl rfl rfl ⟨_,rfl,hw,none,hF _ (.bad hy (.inl hm)),rfl⟩
  ·by_cases hx : 0≤y∧y<n
   ·obtain ⟨k,rfl⟩:=Int.eq_ofNat_of_zero_le hx.1
    have hkn:k<n:=by omega
    have hBs:=hS.sl.base
    by_cases hmem:(k:Int)∈out
    ·have hcell:=seenL_cell hS.sl hkn
     rw [decide_eq_true hmem] at hcell
     repeat' (first|(first|refine CW.seq ?_|refine CW.region ?_|refine CW.block ?_|refine CW.condd_t rfl (by omega) ?_|refine CW.condn_t rfl (by omega) ?_|refine CW.skip ?_|refine CW.ret ?_)|(first|refine Post.seq ?_|refine Post.seq_ret ?_|refine Post.blk_ret ?_|refine Post.again_ret ?_)|refine SW.nil ?_|(show SW _ _ _ _ (⟨_,_,_,_,_,some _⟩::_) _ _;first|refine SW.want_f rfl rfl (by with_reducible rfl) ?_|refine SW.splitd_f rfl rfl rfl (by omega) ?_|refine SW.splitn_f rfl rfl rfl (by omega) ?_)|refine SW.pure rfl rfl ?_|(show SW _ _ _ _ (⟨_,Op.indexAddr _ _ _,_,_,_,none⟩::_) _ _;refine SW.st (st_indexN rfl rfl (by assumption) (by omega)) rfl ?_)|(show SW _ _ _ _ (⟨_,Op.call ⟨.builtin .len,_,_⟩,_,_,_,none⟩::_) _ _;refine SW.st (st_len rfl) rfl ?_)|(show SW _ _ _ _ (⟨_,Op.load _ _,_,_,_,none⟩::_) _ _;refine SW.st (st_load rfl (seenL_cell hS.sl hkn)) rfl ?_)|(show SW _ _ _ _ (⟨_,Op.call ⟨.value (.func _),_,_⟩,_,_,_,none⟩::_) _ _;(refine SW.call rfl rfl (there_ans _ _ _ _ _ _ hn') ?_;intro v w1 hw1 hv;subst hv;replace hw:=Ext.trans hw hw1;replace hO:=hO.ext hw1;replace hS:=hS.ext hw1;clear hw1)))
     exact Post.ret2 rfl rfl rfl ⟨_,rfl,hw,none,hF _ (.bad hy (.inr (.inr hmem))),rfl⟩
    ·have hu:=unseen_lt hkn hmem
     repeat' (first|(first|refine CW.seq ?_|refine CW.region ?_|refine CW.block ?_|refine CW.condd_f rfl (by omega) ?_|refine CW.condn_t rfl (by omega) ?_|refine CW.skip ?_)|(refine Post.seq ?_)|refine SW.nil ?_|(show SW _ _ _ _ (⟨_,_,_,_,_,some _⟩::_) _ _;first|refine SW.want_f rfl rfl (by with_reducible rfl) ?_|refine SW.splitd_f rfl rfl rfl (by omega) ?_|refine SW.splitn_f rfl rfl rfl (by omega) ?_)|refine SW.pure rfl rfl ?_|(show SW _ _ _ _ (⟨_,Op.indexAddr _ _ _,_,_,_,none⟩::_) _ _;refine SW.st (st_indexN rfl rfl (by assumption) (by omega)) rfl ?_)|(show SW _ _ _ _ (⟨_,Op.call ⟨.builtin .len,_,_⟩,_,_,_,none⟩::_) _ _;refine SW.st (st_len rfl) rfl ?_)|(show SW _ _ _ _ (⟨_,Op.load _ _,_,_,_,none⟩::_) _ _;refine SW.st (st_load rfl (seenL_cell hS.sl hkn)) rfl ?_)|(show SW _ _ _ _ (⟨_,Op.call ⟨.value (.func _),_,_⟩,_,_,_,none⟩::_) _ _;(refine SW.call rfl rfl (there_ans _ _ _ _ _ _ hn') ?_;intro v w1 hw1 hv;subst hv;replace hw:=Ext.trans hw hw1;replace hO:=hO.ext hw1;replace hS:=hS.ext hw1;clear hw1)))
     refine SW.storeO k 0 true hS rfl rfl rfl hkn (by omega) (by rw [add_zero]) rfl fun w2 hS2 hg => ?_
     replace hw:=ext_grown hw hg (Nat.le_refl _) hS.row_ge
     replace hO:=hO.grown hg (hO.ne_own hS rfl)
     rw [seenL_set] at hS2
     repeat' (first|(first|refine CW.seq ?_|refine CW.region ?_)|(refine Post.seq ?_)|refine SW.nil ?_|refine SW.pure rfl rfl ?_)
     refine SW.build1 rfl rfl rfl rfl rfl fun b w1 hw1 hb hB => ?_
     replace hw:=Ext.trans hw hw1
     replace hO:=hO.ext hw1
     replace hS2:=hS2.ext hw1
     refine SW.append hO (Blk.sl1 (enc:=encI) hB) hw.size rfl rfl rfl (by omega) (by omega) fun A2 c2 w2 hO1 hg => ?_
     replace hw:=ext_grown hw hg (Nat.le_refl _) hO.row_ge
     replace hS2:=hS2.grown hg (hS2.ne_own hO rfl)
     repeat' (first|(refine CW.region ?_)|(first|refine Post.seq ?_|refine Post.blk ?_)|refine SW.nil ?_|refine SW.pure rfl rfl ?_|(show SW _ _ _ _ (⟨_,Op.indexAddr _ _ _,_,_,_,none⟩::_) _ _;refine SW.st (st_indexN rfl rfl (by assumption) (by omega)) rfl ?_)|(show SW _ _ _ _ (⟨_,Op.load _ _,_,_,_,none⟩::_) _ _;refine SW.st (st_loadx hw rfl (hl.one hkn rfl)) rfl ?_))
     refine Post.again (out++[(k:Int)],l[k]'(hl.lt hkn),A2,c2) ⟨rfl,rfl,rfl,rfl,by simp;rfl,trivial⟩ hu ⟨by simp only [List.length_append,List.length_singleton];omega,fun r h=>hF r (.step (by omega) (hl.lt hkn) hmem h),hw,by simpa using hO1,hS2⟩
   ·repeat' (first|(first|refine CW.seq ?_|refine CW.region ?_|refine CW.block ?_|refine CW.condtr rfl (by with_reducible rfl) ?_|refine CW.condn_t rfl (by omega) ?_|refine CW.skip ?_|refine CW.ret ?_)|(first|refine Post.seq ?_|refine Post.seq_ret ?_|refine Post.blk_ret ?_|refine Post.again_ret ?_)|refine SW.nil ?_|(show SW _ _ _ _ (⟨_,_,_,_,_,some _⟩::_) _ _;first|refine SW.want_f rfl rfl (by with_reducible rfl) ?_|refine SW.skip_f rfl rfl (by with_reducible rfl) rfl ?_|refine SW.splitd_f rfl rfl rfl (by omega) ?_|refine SW.splitn_t rfl rfl rfl (by omega) ?_)|refine SW.pure rfl rfl ?_|(show SW _ _ _ _ (⟨_,Op.call ⟨.builtin .len,_,_⟩,_,_,_,none⟩::_) _ _;refine SW.st (st_len rfl) rfl ?_)|(show SW _ _ _ _ (⟨_,Op.call ⟨.value (.func _),_,_⟩,_,_,_,none⟩::_) _ _;(refine SW.call rfl rfl (there_ans _ _ _ _ _ _ hn') ?_;intro v w1 hw1 hv;subst hv;replace hw:=Ext.trans hw hw1;replace hO:=hO.ext hw1;replace hS:=hS.ext hw1;clear hw1)))
    exact Post.ret2 rfl rfl rfl ⟨_,rfl,hw,none,hF _ (.bad hy (.inr (.inl (by omega)))),rfl⟩
end Go.Proofs.YtigikedbffjeiaaGreat
