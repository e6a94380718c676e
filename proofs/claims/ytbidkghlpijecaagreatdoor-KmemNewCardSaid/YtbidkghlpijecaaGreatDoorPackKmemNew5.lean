/-
  Texts of the claim KmemNew, part 5: what its theorem leans on.
-/
import Derived.Test.YtbidkghlpijecaaGreatDoorPackKmemNew4
import Derived.Test.YtbidkghlpijecaaGreatDoorPackKmemNew2
set_option linter.unusedVariables false
set_option linter.unusedSimpArgs false
namespace Go.Proofs.YtbidkghlpijecaaGreatDoor
open Go.RowKit
section
variable {P:Program} {L:Env} {w:World} {d:Option Nat} {T:TypeId} {pos:String} {af:Array Edge} {g:Option (Nat×Bool)}
theorem st_xor {t ty:TypeId} {x y:Operand} {i j:Int} (a b:Nat) (hx:opv L x=some (.int .i64 i)) (hy:opv L y=some (.int .i64 j)) (ha:i=(a:Int)) (hb:j=(b:Int)) (ha':a<9223372036854775808) (hb':b<9223372036854775808) :
 St P ⟨d,.binOp .xor t x y ty,T,pos,af,g⟩ L w (.int .i64 ((a ^^^ b:Nat) : Int)) :=
 ⟨fun n A hA w' _=>by
  have e1:=hA.eval hx
  have e2:=hA.eval hy
  subst ha hb
  generalize A.eval = ρ at *
  have hlt:a ^^^ b<2 ^ 63:=Nat.xor_lt_two_pow (by omega) (by omega)
  have e:(BitVec.ofInt 64 (a:Int) ^^^ BitVec.ofInt 64 (b:Int)).toNat=a ^^^ b:=by
   rw [BitVec.toNat_xor,BitVec.ofInt_natCast,BitVec.ofInt_natCast,BitVec.toNat_ofNat,BitVec.toNat_ofNat,Nat.mod_eq_of_lt (by omega),Nat.mod_eq_of_lt (by omega)]
  have hb1:(Op.intBits .xor .i64 (a:Int) (b:Int)).run P w' = .ok (.int .i64 ((a ^^^ b:Nat) : Int)) w':=by
   have:Op.intBits .xor .i64 (a:Int) (b:Int)=(pure (.int .i64 (IntKind.i64.wrap ((BitVec.ofInt 64 (a:Int) ^^^ BitVec.ofInt 64 (b:Int)).toNat:Nat))) : Sem Value):=rfl
   rw [this,e,wrap_in (by omega) (by omega)]
   rfl
  have hb2:(binOp .xor t (.int .i64 (a:Int)) (.int .i64 (b:Int))).run P w' = .ok (.int .i64 ((a ^^^ b:Nat) : Int)) w':=by
   have:binOp .xor t (.int .i64 (a:Int)) (.int .i64 (b:Int))=Op.intBits .xor .i64 (a:Int) (b:Int):=by simp [binOp]
   rw [this,hb1]
  simp [execOp,e1,e2,eqGuard,hb2]⟩
theorem st_beside {t ty:TypeId} {x y:Operand} {i j:Int} (a o:Int) (hx:opv L x=some (.int .i64 i)) (hy:opv L y=some (.int .i64 j)) (hi:i=a) (hj:j=pw o) (h : 0≤a∧a<256∧0≤o∧o<4∧a % pw o=0) :
 St P ⟨d,.binOp .xor t x y ty,T,pos,af,g⟩ L w (.int .i64 (beside a o)):=by
 obtain ⟨h1,h2,h3,h4,h5⟩:=h
 subst hi hj
 obtain ⟨k,rfl⟩:=Int.eq_ofNat_of_zero_le h1
 have hp:=pw_le h3 (by omega)
 have e:pw o=((2 ^ o.toNat:Nat) : Int):=by unfold pw;simp
 have hlt:(2 ^ o.toNat:Nat)<9223372036854775808:=by omega
 have:=st_xor (P:=P) (t:=t) (ty:=ty) (w:=w) (d:=d) (T:=T) (pos:=pos) (af:=af) (g:=g) k (2 ^ o.toNat) hx hy rfl e (by omega) hlt
 rw [xor_beside (by omega) h3 h4 h5] at this
 exact this
end
theorem power_ans (z:Int) (h : 0≤z∧z≤5) (w:World) : Ans Tryz.prog 69 [.int .i64 z] w fun v _=>v = .int .i64 (pw z):=by
 refine ans_of Tryz.func69 rfl Tryz.ntmps69 rfl ?_
 have hw:=Ext.refl w
 obtain ⟨m,rfl⟩:=Int.eq_ofNat_of_zero_le h.1
 repeat' (first|(first|refine CW.seq ?_|refine CW.region ?_|refine CW.block ?_)|(refine Post.seq ?_)|refine SW.nil ?_|refine SW.pure rfl rfl ?_)
 refine CW.loop (fun k:Nat=>[(0,.int .i64 ((m-k:Nat) : Int)),(3,.int .i64 (pw k))]) (fun k w'=>k≤m∧Ext w w') (fun k=>m-k) 0 ⟨by simp;rfl,rfl,trivial⟩ ⟨by omega,hw⟩ ?_
 clear hw
 rintro k w' ⟨hk,hw⟩
 by_cases hkm:k<m
 ·have hp:=pw_le (o:=(k:Int)) (by omega) (by omega)
  have hs:=pw_succ (o:=(k:Int)) (by omega) (by omega)
  repeat' (first|(first|refine CW.seq ?_|refine CW.region ?_|refine CW.block ?_|refine CW.condd_t rfl (by omega) ?_|refine CW.skip ?_)|(first|refine Post.seq ?_|refine Post.blk ?_)|refine SW.nil ?_|refine SW.pure rfl rfl ?_|(show SW _ _ _ _ (⟨_,Op.binOp _ _ _ _ _,_,_,_,none⟩::_) _ _;first|refine SW.st (st_sub rfl rfl (by omega) (by omega)) rfl ?_|refine SW.st (st_mul rfl rfl (by omega) (by omega)) rfl ?_))
  have e1:((m-k:Nat) : Int)-1=((m-(k+1) : Nat) : Int):=by omega
  have e2 : 2*pw (k:Int)=pw ((k+1:Nat) : Int):=by rw [← hs];rfl
  exact Post.again (k+1) ⟨congrArg (fun z=>some (Value.int .i64 z)) e1,congrArg (fun z=>some (Value.int .i64 z)) e2,trivial⟩ (by omega) ⟨by omega,hw⟩
 ·obtain rfl:k=m:=by omega
  repeat' (first|(first|refine CW.seq ?_|refine CW.region ?_|refine CW.condd_f rfl (by omega) ?_|refine CW.ret ?_|refine CW.exit ?_)|(first|refine Post.seq ?_|refine Post.seq_exit ?_|refine Post.hit ?_|refine Post.again_exit ?_)|refine SW.nil ?_|refine SW.pure rfl rfl ?_)
  exact Post.ret1 rfl rfl ⟨_,rfl,hw,rfl⟩
theorem Zfits_ans (r:ZRow) (b:Block) (w:World) (h0 : 0≤r.From) : Ans Tryz.prog 229 [.agg (encZ r).toArray,.agg (encBk b).toArray] w fun v _=>v = .bool (decide (fitsZ r.From r.To b.At b.Order)):=by
 refine ans_of Tryz.func229 rfl Tryz.ntmps229 rfl ?_
 refine CW.seq (CW.region (SW.box rfl rfl fun b1 w1 hw hb1 h1 => ?_))
 refine SW.box rfl rfl fun b2 w2 hw2 hb2 h2 => ?_
 (replace hw:=Ext.trans hw hw2;replace h1:=h1.ext hw2)
 by_cases hf:fitsZ r.From r.To b.At b.Order
 ·obtain ⟨a1,a2,a3,a4,a5⟩:=id hf
  have hp:=pw_le a1 a2
  rw [decide_eq_true hf]
  have e:b.At.tmod (pw b.Order)=0:=by rw [Int.tmod_eq_emod_of_nonneg (by omega)];exact a5
  repeat' (first|(first|refine CW.seq ?_|refine CW.ret ?_|(apply CW.quiet1 mixed;(· kernel_rfl);rotate_left;intro w1 hw1;replace hw:=Ext.trans hw hw1;replace h1:=h1.ext hw1;replace h2:=h2.ext hw1;clear hw1;rotate_right))|(refine Post.seq ?_)|refine SW.nil ?_|(show SW _ _ _ _ (⟨_,_,_,_,_,some _⟩::_) _ _;first|refine SW.want_t rfl rfl (by with_reducible rfl) ?_|refine SW.splitd_t rfl rfl rfl (by omega) ?_)|refine SW.pure rfl rfl ?_|(show SW _ _ _ _ (⟨_,Op.fieldAddr _ _ _,_,_,_,none⟩::_) _ _;refine SW.st (st_field rfl) rfl ?_)|(show SW _ _ _ _ (⟨_,Op.binOp _ _ _ _ _,_,_,_,none⟩::_) _ _;refine SW.st (st_rem rfl rfl (by omega)) rfl ?_)|(show SW _ _ _ _ (⟨_,Op.load _ _,_,_,_,none⟩::_) _ _;first|refine SW.st (st_load rfl (h1.cell rfl)) rfl ?_|refine SW.st (st_load rfl (h2.cell rfl)) rfl ?_)|(refine SW.st (st_shl (r:=pw b.Order) rfl rfl (by omega) (by omega) (by simp [pw]) (by omega) (by omega)) rfl ?_)|exact SW.qnil rfl)
  exact Post.ret1 rfl rfl ⟨_,rfl,hw,by simp [e]⟩
 ·rw [decide_eq_false hf]
  by_cases a1 : 0≤b.Order
  ·by_cases a2:b.Order≤4
   ·by_cases a3:r.From≤b.At
    ·by_cases a4:b.At<r.To
     ·have hp:=pw_le a1 a2
      have e:b.At.tmod (pw b.Order)≠0:=by
       rw [Int.tmod_eq_emod_of_nonneg (by omega)]
       exact fun a5=>hf ⟨a1,a2,a3,a4,a5⟩
      repeat' (first|(first|refine CW.seq ?_|refine CW.ret ?_|(apply CW.quiet1 mixed;(· kernel_rfl);rotate_left;intro w1 hw1;replace hw:=Ext.trans hw hw1;replace h1:=h1.ext hw1;replace h2:=h2.ext hw1;clear hw1;rotate_right))|(refine Post.seq ?_)|refine SW.nil ?_|(show SW _ _ _ _ (⟨_,_,_,_,_,some _⟩::_) _ _;first|refine SW.want_t rfl rfl (by with_reducible rfl) ?_|refine SW.splitd_t rfl rfl rfl (by omega) ?_)|refine SW.pure rfl rfl ?_|(show SW _ _ _ _ (⟨_,Op.fieldAddr _ _ _,_,_,_,none⟩::_) _ _;refine SW.st (st_field rfl) rfl ?_)|(show SW _ _ _ _ (⟨_,Op.binOp _ _ _ _ _,_,_,_,none⟩::_) _ _;refine SW.st (st_rem rfl rfl (by omega)) rfl ?_)|(show SW _ _ _ _ (⟨_,Op.load _ _,_,_,_,none⟩::_) _ _;first|refine SW.st (st_load rfl (h1.cell rfl)) rfl ?_|refine SW.st (st_load rfl (h2.cell rfl)) rfl ?_)|(refine SW.st (st_shl (r:=pw b.Order) rfl rfl (by omega) (by omega) (by simp [pw]) (by omega) (by omega)) rfl ?_)|exact SW.qnil rfl)
      exact Post.ret1 rfl rfl ⟨_,rfl,hw,by simp [e]⟩
     ·repeat' (first|(first|refine CW.seq ?_|refine CW.ret ?_|(apply CW.quiet1 mixed;(· kernel_rfl);rotate_left;intro w1 hw1;replace hw:=Ext.trans hw hw1;replace h1:=h1.ext hw1;replace h2:=h2.ext hw1;clear hw1;rotate_right))|(refine Post.seq ?_)|refine SW.nil ?_|(show SW _ _ _ _ (⟨_,_,_,_,_,some _⟩::_) _ _;first|refine SW.want_t rfl rfl (by with_reducible rfl) ?_|refine SW.skip_t rfl rfl (by with_reducible rfl) rfl ?_|refine SW.splitd_t rfl rfl rfl (by omega) ?_|refine SW.splitd_f rfl rfl rfl (by omega) ?_)|refine SW.pure rfl rfl ?_|(show SW _ _ _ _ (⟨_,Op.fieldAddr _ _ _,_,_,_,none⟩::_) _ _;refine SW.st (st_field rfl) rfl ?_)|(show SW _ _ _ _ (⟨_,Op.load _ _,_,_,_,none⟩::_) _ _;first|refine SW.st (st_load rfl (h1.cell rfl)) rfl ?_|refine SW.st (st_load rfl (h2.cell rfl)) rfl ?_)|exact SW.qnil rfl)
      exact Post.ret1 rfl rfl ⟨_,rfl,hw,by simp [*]⟩
    ·repeat' (first|(first|refine CW.seq ?_|refine CW.ret ?_|(apply CW.quiet1 mixed;(· kernel_rfl);rotate_left;intro w1 hw1;replace hw:=Ext.trans hw hw1;replace h1:=h1.ext hw1;replace h2:=h2.ext hw1;clear hw1;rotate_right))|(refine Post.seq ?_)|refine SW.nil ?_|(show SW _ _ _ _ (⟨_,_,_,_,_,some _⟩::_) _ _;first|refine SW.want_t rfl rfl (by with_reducible rfl) ?_|refine SW.skip_t rfl rfl (by with_reducible rfl) rfl ?_|refine SW.splitd_t rfl rfl rfl (by omega) ?_|refine SW.splitd_f rfl rfl rfl (by omega) ?_)|refine SW.pure rfl rfl ?_|(show SW _ _ _ _ (⟨_,Op.fieldAddr _ _ _,_,_,_,none⟩::_) _ _;refine SW.st (st_field rfl) rfl ?_)|(show SW _ _ _ _ (⟨_,Op.load _ _,_,_,_,none⟩::_) _ _;first|refine SW.st (st_load rfl (h1.cell rfl)) rfl ?_|refine SW.st (st_load rfl (h2.cell rfl)) rfl ?_)|exact SW.qnil rfl)
     exact Post.ret1 rfl rfl ⟨_,rfl,hw,by simp [*]⟩
   ·repeat' (first|(first|refine CW.seq ?_|refine CW.ret ?_|(apply CW.quiet1 mixed;(· kernel_rfl);rotate_left;intro w1 hw1;replace hw:=Ext.trans hw hw1;replace h1:=h1.ext hw1;replace h2:=h2.ext hw1;clear hw1;rotate_right))|(refine Post.seq ?_)|refine SW.nil ?_|(show SW _ _ _ _ (⟨_,_,_,_,_,some _⟩::_) _ _;first|refine SW.want_t rfl rfl (by with_reducible rfl) ?_|refine SW.skip_t rfl rfl (by with_reducible rfl) rfl ?_|refine SW.splitd_t rfl rfl rfl (by omega) ?_|refine SW.splitd_f rfl rfl rfl (by omega) ?_)|refine SW.pure rfl rfl ?_|(show SW _ _ _ _ (⟨_,Op.fieldAddr _ _ _,_,_,_,none⟩::_) _ _;refine SW.st (st_field rfl) rfl ?_)|(show SW _ _ _ _ (⟨_,Op.load _ _,_,_,_,none⟩::_) _ _;refine SW.st (st_load rfl (h2.cell rfl)) rfl ?_)|exact SW.qnil rfl)
    exact Post.ret1 rfl rfl ⟨_,rfl,hw,by simp [*]⟩
  ·repeat' (first|(first|refine CW.seq ?_|refine CW.ret ?_|(apply CW.quiet1 mixed;(· kernel_rfl);rotate_left;intro w1 hw1;replace hw:=Ext.trans hw hw1;replace h1:=h1.ext hw1;replace h2:=h2.ext hw1;clear hw1;rotate_right))|(refine Post.seq ?_)|refine SW.nil ?_|(show SW _ _ _ _ (⟨_,_,_,_,_,some _⟩::_) _ _;first|refine SW.skip_t rfl rfl (by with_reducible rfl) rfl ?_|refine SW.splitd_f rfl rfl rfl (by omega) ?_)|refine SW.pure rfl rfl ?_|(show SW _ _ _ _ (⟨_,Op.fieldAddr _ _ _,_,_,_,none⟩::_) _ _;refine SW.st (st_field rfl) rfl ?_)|(show SW _ _ _ _ (⟨_,Op.load _ _,_,_,_,none⟩::_) _ _;refine SW.st (st_load rfl (h2.cell rfl)) rfl ?_)|exact SW.qnil rfl)
   exact Post.ret1 rfl rfl ⟨_,rfl,hw,by simp [*]⟩
theorem Zend_ans (b:Block) (w:World) (h : 0≤b.Order∧b.Order≤4) (ha : 0≤b.At∧b.At≤256) : Ans Tryz.prog 230 [.agg (encBk b).toArray] w fun v _=>v = .int .i64 (b.At+pw b.Order):=by
 refine ans_of Tryz.func230 rfl Tryz.ntmps230 rfl ?_
 refine CW.seq (CW.region (SW.box rfl rfl fun b1 w1 hw hb1 h1 => ?_))
 have hp:=pw_le h.1 h.2
 repeat' (first|(first|refine CW.seq ?_|refine CW.ret ?_|(apply CW.quiet1 mixed;(· kernel_rfl);rotate_left;intro w1 hw1;replace hw:=Ext.trans hw hw1;replace h1:=h1.ext hw1;clear hw1;rotate_right))|(refine Post.seq ?_)|refine SW.nil ?_|refine SW.pure rfl rfl ?_|(show SW _ _ _ _ (⟨_,Op.fieldAddr _ _ _,_,_,_,none⟩::_) _ _;refine SW.st (st_field rfl) rfl ?_)|(show SW _ _ _ _ (⟨_,Op.binOp _ _ _ _ _,_,_,_,none⟩::_) _ _;refine SW.st (st_add rfl rfl (by omega) (by omega)) rfl ?_)|(show SW _ _ _ _ (⟨_,Op.load _ _,_,_,_,none⟩::_) _ _;refine SW.st (st_load rfl (h1.cell rfl)) rfl ?_)|(refine SW.st (st_shl (r:=pw b.Order) rfl rfl (by omega) (by omega) (by simp [pw]) (by omega) (by omega)) rfl ?_)|exact SW.qnil rfl)
 exact Post.ret1 rfl rfl ⟨_,rfl,hw,rfl⟩
theorem blockMay_ans (r:ZRow) (a o:Int) (w:World) (h0 : 0≤r.From∧r.From≤256) (h1 : 0≤r.To∧r.To≤256) : Ans Tryz.prog 211 [.agg (encZ r).toArray,.int .i64 a,.int .i64 o] w fun v _=>v = .bool (decide (fitsZ r.From r.To a o)):=by
 refine ans_of Tryz.func211 rfl Tryz.ntmps211 rfl ?_
 refine CW.seq (CW.region (SW.box rfl rfl fun b1 w1 hw hb1 hB => ?_))
 by_cases a1 : 0≤o∧o≤4
 ·by_cases a2:r.From≤a∧a<r.To
  ·have hp:=pw_le a1.1 a1.2
   have e:a.tmod (pw o)=a % pw o:=Int.tmod_eq_emod_of_nonneg (by omega)
   repeat' (first|(first|refine CW.seq ?_|refine CW.region ?_|refine CW.ret ?_)|(refine Post.seq ?_)|refine SW.nil ?_|(show SW _ _ _ _ (⟨_,_,_,_,_,some _⟩::_) _ _;first|refine SW.want_t rfl rfl (by with_reducible rfl) ?_|refine SW.splitd_t rfl rfl rfl (by omega) ?_)|refine SW.pure rfl rfl ?_|(show SW _ _ _ _ (⟨_,Op.fieldAddr _ _ _,_,_,_,none⟩::_) _ _;refine SW.st (st_field rfl) rfl ?_)|(show SW _ _ _ _ (⟨_,Op.binOp _ _ _ _ _,_,_,_,none⟩::_) _ _;first|refine SW.st (st_sub rfl rfl (by omega) (by omega)) rfl ?_|refine SW.st (st_rem rfl rfl (by omega)) rfl ?_)|(show SW _ _ _ _ (⟨_,Op.load _ _,_,_,_,none⟩::_) _ _;refine SW.st (st_load rfl (hB.cell rfl)) rfl ?_)|(show SW _ _ _ _ (⟨_,Op.call ⟨.value (.func _),_,_⟩,_,_,_,none⟩::_) _ _;first|(refine SW.call rfl rfl (In_ans _ _ _ _) ?_;intro v w1 hw1 hv;subst hv;replace hw:=Ext.trans hw hw1;replace hB:=hB.ext hw1;clear hw1)|(refine SW.call rfl rfl (power_ans _ (by omega) _) ?_;intro v w1 hw1 hv;subst hv;replace hw:=Ext.trans hw hw1;replace hB:=hB.ext hw1;clear hw1)))
   all_goals first|(exfalso;omega)|skip
   refine Post.ret1 rfl rfl ⟨_,rfl,hw,?_⟩
   rw [e]
   simp [fitsZ,a1.1,a1.2,a2.1,a2.2]
  ·repeat' (first|(first|refine CW.seq ?_|refine CW.region ?_|refine CW.ret ?_)|(refine Post.seq ?_)|refine SW.nil ?_|(show SW _ _ _ _ (⟨_,_,_,_,_,some _⟩::_) _ _;first|refine SW.want_t rfl rfl (by with_reducible rfl) ?_|refine SW.skip_t rfl rfl (by with_reducible rfl) rfl ?_|refine SW.splitd_t rfl rfl rfl (by omega) ?_|refine SW.splitd_f rfl rfl rfl (by omega) ?_)|refine SW.pure rfl rfl ?_|(show SW _ _ _ _ (⟨_,Op.fieldAddr _ _ _,_,_,_,none⟩::_) _ _;refine SW.st (st_field rfl) rfl ?_)|(show SW _ _ _ _ (⟨_,Op.binOp _ _ _ _ _,_,_,_,none⟩::_) _ _;refine SW.st (st_sub rfl rfl (by omega) (by omega)) rfl ?_)|(show SW _ _ _ _ (⟨_,Op.load _ _,_,_,_,none⟩::_) _ _;refine SW.st (st_load rfl (hB.cell rfl)) rfl ?_)|(show SW _ _ _ _ (⟨_,Op.call ⟨.value (.func _),_,_⟩,_,_,_,none⟩::_) _ _;(refine SW.call rfl rfl (In_ans _ _ _ _) ?_;intro v w1 hw1 hv;subst hv;replace hw:=Ext.trans hw hw1;replace hB:=hB.ext hw1;clear hw1)))
   all_goals first|(exfalso;omega)|skip
   refine Post.ret1 rfl rfl ⟨_,rfl,hw,?_⟩
   rw [decide_eq_false (fun h=>a2 ⟨h.2.2.1,h.2.2.2.1⟩)]
   try (simp;omega)
 ·repeat' (first|(first|refine CW.seq ?_|refine CW.region ?_|refine CW.ret ?_)|(refine Post.seq ?_)|refine SW.nil ?_|(show SW _ _ _ _ (⟨_,_,_,_,_,some _⟩::_) _ _;first|refine SW.skip_t rfl rfl (by with_reducible rfl) rfl ?_|refine SW.splitd_f rfl rfl rfl (by omega) ?_)|refine SW.pure rfl rfl ?_|(show SW _ _ _ _ (⟨_,Op.call ⟨.value (.func _),_,_⟩,_,_,_,none⟩::_) _ _;(refine SW.call rfl rfl (In_ans _ _ _ _) ?_;intro v w1 hw1 hv;subst hv;replace hw:=Ext.trans hw hw1;replace hB:=hB.ext hw1;clear hw1)))
  all_goals first|(exfalso;omega)|skip
  refine Post.ret1 rfl rfl ⟨_,rfl,hw,?_⟩
  rw [decide_eq_false (fun h=>a1 ⟨h.1,h.2.1⟩)]
  try (simp;omega)
theorem idxOf_hit {α : Type} {p : α → Bool} {l:List α} {k:Nat} (h:k<l.length) (hp:p l[k]=true) (hf:∀ j (hj:j<l.length),j<k→p l[j]=false) : idxOf p l=(k:Int):=by
 have e:l.findIdx p=k:=(List.findIdx_eq h).2 ⟨hp,fun j hj=>hf j (by omega) hj⟩
 have e2:l.any p=true:=List.any_eq_true.2 ⟨l[k],List.getElem_mem h,hp⟩
 simp [idxOf,e,e2]
theorem idxOf_none {α : Type} {p : α → Bool} {l:List α} (hf:∀ j (hj:j<l.length),p l[j]=false) : idxOf p l = -1∧l.any p=false:=by
 have e:l.any p=false:=by
  rw [List.any_eq_false]
  intro x hx
  obtain ⟨j,hj,rfl⟩:=List.getElem_of_mem hx
  simp [hf j hj]
 exact ⟨by simp [idxOf,e],e⟩
theorem idxOf_ge {α : Type} (p : α → Bool) (l:List α) : decide (0≤idxOf p l)=l.any p:=by
 unfold idxOf
 by_cases h:l.any p=true
 ·simp [h]
 ·simp [h]
theorem IndexFuncInt_ans (A:Option Addr) (n c:Nat) (l:List Int) (w:World) (hl:Sl w 1 encI A n l) (f:FuncId) (cap:List Value) [Body Tryz.prog f] (p:Int→Bool) (arg:Int→Value) (harg:∀ x,arg x=(if 1=1 then (encI x)[0]?.getD undef else .agg (encI x).toArray))
 (hf:∀ x∈l,∀ w',Ext w w'→Ans Tryz.prog f ([arg x]++cap) w' fun v _=>v = .bool (p x)) (hn:n≤9223372036854775807) :
 Ans Tryz.prog 187 [.slice A n c,.func (.func f) #[] cap.toArray] w fun v _=>v = .int .i64 (idxOf p l):=by
 refine ans_of Tryz.func187 rfl Tryz.ntmps187 rfl ?_
 have hw:=Ext.refl w
 have hA:=hl.base
 repeat' (first|(first|refine CW.seq ?_|refine CW.region ?_|refine CW.block ?_)|(refine Post.seq ?_)|refine SW.nil ?_|refine SW.pure rfl rfl ?_|(show SW _ _ _ _ (⟨_,Op.call ⟨.builtin .len,_,_⟩,_,_,_,none⟩::_) _ _;refine SW.st (st_len rfl) rfl ?_))
 refine CW.loop (fun k:Nat=>[(0,.slice A n c),(1,.func (.func f) #[] cap.toArray),(7,.int .i64 (n:Int)),(8,.int .i64 (k:Int))]) (fun k w'=>k≤n∧Ext w w' ∧ ∀ j (hj:j<l.length),j<k→p l[j]=false) (fun k=>n-k) 0 ⟨rfl,rfl,rfl,rfl,trivial⟩ ⟨by omega,hw,fun j _ h=>by omega⟩ ?_
 clear hw
 rintro k w' ⟨hk',hw,hI⟩
 by_cases hk:k<n
 ·have hx:=harg (l[k]'(hl.lt hk))
  have hfk:=hf (l[k]'(hl.lt hk)) (List.getElem_mem _)
  rw [hx] at hfk
  repeat' (first|(first|refine CW.seq ?_|refine CW.region ?_|refine CW.block ?_|refine CW.condd_t rfl (by omega) ?_|refine CW.skip ?_)|(refine Post.seq ?_)|refine SW.nil ?_|refine SW.pure rfl rfl ?_|(show SW _ _ _ _ (⟨_,Op.indexAddr _ _ _,_,_,_,none⟩::_) _ _;refine SW.st (st_indexN rfl rfl (by assumption) (by omega)) rfl ?_)|(show SW _ _ _ _ (⟨_,Op.load _ _,_,_,_,none⟩::_) _ _;refine SW.st (st_loadx hw rfl (hl.one hk rfl)) rfl ?_))
  refine SW.callv rfl rfl rfl (hfk _ hw) fun v w1 hw1 hv => ?_
  subst hv
  replace hw:=Ext.trans hw hw1
  cases hp:p (l[k]'(hl.lt hk))
  ·repeat' (first|(first|refine CW.region ?_|refine CW.condfr rfl (by with_reducible rfl) ?_|refine CW.skip ?_)|(first|refine Post.seq ?_|refine Post.blk ?_)|refine SW.nil ?_|refine SW.pure rfl rfl ?_|(show SW _ _ _ _ (⟨_,Op.binOp _ _ _ _ _,_,_,_,none⟩::_) _ _;refine SW.st (st_add rfl rfl (by omega) (by omega)) rfl ?_))
   refine Post.again (k+1) ⟨rfl,rfl,rfl,rfl,trivial⟩ (by omega) ⟨by omega,hw,fun j hj h => ?_⟩
   by_cases hjk:j=k
   ·subst hjk;exact hp
   ·exact hI j hj (by omega)
  ·repeat' (first|(first|refine CW.seq ?_|refine CW.region ?_|refine CW.condtr rfl (by with_reducible rfl) ?_|refine CW.ret ?_)|(first|refine Post.seq ?_|refine Post.seq_ret ?_|refine Post.blk_ret ?_|refine Post.again_ret ?_)|refine SW.nil ?_|refine SW.pure rfl rfl ?_)
   exact Post.ret1 rfl rfl ⟨_,rfl,hw,by rw [idxOf_hit (hl.lt hk) hp hI]⟩
 ·repeat' (first|(first|refine CW.seq ?_|refine CW.region ?_|refine CW.condd_f rfl (by omega) ?_|refine CW.ret ?_|refine CW.exit ?_)|(first|refine Post.seq ?_|refine Post.seq_exit ?_|refine Post.hit ?_|refine Post.again_exit ?_)|refine SW.nil ?_|refine SW.pure rfl rfl ?_)
  exact Post.ret1 rfl rfl ⟨_,rfl,hw,by rw [(idxOf_none (fun j hj=>hI j hj (by have:=hl.len;omega))).1]⟩
theorem ContainsFuncInt_ans (A:Option Addr) (n c:Nat) (l:List Int) (w:World) (hl:Sl w 1 encI A n l) (f:FuncId) (cap:List Value) [Body Tryz.prog f] (p:Int→Bool) (arg:Int→Value) (harg:∀ x,arg x=(if 1=1 then (encI x)[0]?.getD undef else .agg (encI x).toArray))
 (hf:∀ x∈l,∀ w',Ext w w'→Ans Tryz.prog f ([arg x]++cap) w' fun v _=>v = .bool (p x)) (hn:n≤9223372036854775807) :
 Ans Tryz.prog 96 [.slice A n c,.func (.func f) #[] cap.toArray] w fun v _=>v = .bool (l.any p):=by
 refine ans_of Tryz.func96 rfl Tryz.ntmps96 rfl ?_
 have hw:=Ext.refl w
 repeat' (first|(first|refine CW.seq ?_|refine CW.region ?_|refine CW.ret ?_)|(refine Post.seq ?_)|refine SW.nil ?_|refine SW.pure rfl rfl ?_|(show SW _ _ _ _ (⟨_,Op.call ⟨.value (.func _),_,_⟩,_,_,_,none⟩::_) _ _;(refine SW.call rfl rfl (IndexFuncInt_ans _ _ _ _ _ (hl.ext hw) f cap p arg harg (fun x hx w1 h1=>hf x hx w1 (Ext.trans hw h1)) hn) ?_;intro v w1 hw1 hv;subst hv;replace hw:=Ext.trans hw hw1;clear hw1)))
 exact Post.ret1 rfl rfl ⟨_,rfl,hw,by rw [idxOf_ge]⟩
theorem IndexFuncBlock_ans (A:Option Addr) (n c:Nat) (l:List Block) (w:World) (hl:Sl w 3 encBk A n l) (f:FuncId) (cap:List Value) [Body Tryz.prog f] (p:Block→Bool) (arg:Block→Value) (harg:∀ x,arg x=(if 3=1 then (encBk x)[0]?.getD undef else .agg (encBk x).toArray))
 (hf:∀ x∈l,∀ w',Ext w w'→Ans Tryz.prog f ([arg x]++cap) w' fun v _=>v = .bool (p x)) (hn:n≤9223372036854775807) :
 Ans Tryz.prog 254 [.slice A n c,.func (.func f) #[] cap.toArray] w fun v _=>v = .int .i64 (idxOf p l):=by
 refine ans_of Tryz.func254 rfl Tryz.ntmps254 rfl ?_
 have hw:=Ext.refl w
 have hA:=hl.base
 repeat' (first|(first|refine CW.seq ?_|refine CW.region ?_|refine CW.block ?_)|(refine Post.seq ?_)|refine SW.nil ?_|refine SW.pure rfl rfl ?_|(show SW _ _ _ _ (⟨_,Op.call ⟨.builtin .len,_,_⟩,_,_,_,none⟩::_) _ _;refine SW.st (st_len rfl) rfl ?_))
 refine CW.loop (fun k:Nat=>[(0,.slice A n c),(1,.func (.func f) #[] cap.toArray),(7,.int .i64 (n:Int)),(8,.int .i64 (k:Int))]) (fun k w'=>k≤n∧Ext w w' ∧ ∀ j (hj:j<l.length),j<k→p l[j]=false) (fun k=>n-k) 0 ⟨rfl,rfl,rfl,rfl,trivial⟩ ⟨by omega,hw,fun j _ h=>by omega⟩ ?_
 clear hw
 rintro k w' ⟨hk',hw,hI⟩
 by_cases hk:k<n
 ·have hx:=harg (l[k]'(hl.lt hk))
  have hfk:=hf (l[k]'(hl.lt hk)) (List.getElem_mem _)
  rw [hx] at hfk
  repeat' (first|(first|refine CW.seq ?_|refine CW.region ?_|refine CW.block ?_|refine CW.condd_t rfl (by omega) ?_|refine CW.skip ?_)|(refine Post.seq ?_)|refine SW.nil ?_|refine SW.pure rfl rfl ?_|(show SW _ _ _ _ (⟨_,Op.indexAddr _ _ _,_,_,_,none⟩::_) _ _;refine SW.st (st_indexN rfl rfl (by assumption) (by omega)) rfl ?_)|(show SW _ _ _ _ (⟨_,Op.load _ _,_,_,_,none⟩::_) _ _;refine SW.st (st_loadsx hw rfl rfl ((hl.all hk))) rfl ?_))
  refine SW.callv rfl rfl rfl (hfk _ hw) fun v w1 hw1 hv => ?_
  subst hv
  replace hw:=Ext.trans hw hw1
  cases hp:p (l[k]'(hl.lt hk))
  ·repeat' (first|(first|refine CW.region ?_|refine CW.condfr rfl (by with_reducible rfl) ?_|refine CW.skip ?_)|(first|refine Post.seq ?_|refine Post.blk ?_)|refine SW.nil ?_|refine SW.pure rfl rfl ?_|(show SW _ _ _ _ (⟨_,Op.binOp _ _ _ _ _,_,_,_,none⟩::_) _ _;refine SW.st (st_add rfl rfl (by omega) (by omega)) rfl ?_))
   refine Post.again (k+1) ⟨rfl,rfl,rfl,rfl,trivial⟩ (by omega) ⟨by omega,hw,fun j hj h => ?_⟩
   by_cases hjk:j=k
   ·subst hjk;exact hp
   ·exact hI j hj (by omega)
  ·repeat' (first|(first|refine CW.seq ?_|refine CW.region ?_|refine CW.condtr rfl (by with_reducible rfl) ?_|refine CW.ret ?_)|(first|refine Post.seq ?_|refine Post.seq_ret ?_|refine Post.blk_ret ?_|refine Post.again_ret ?_)|refine SW.nil ?_|refine SW.pure rfl rfl ?_)
   exact Post.ret1 rfl rfl ⟨_,rfl,hw,by rw [idxOf_hit (hl.lt hk) hp hI]⟩
 ·repeat' (first|(first|refine CW.seq ?_|refine CW.region ?_|refine CW.condd_f rfl (by omega) ?_|refine CW.ret ?_|refine CW.exit ?_)|(first|refine Post.seq ?_|refine Post.seq_exit ?_|refine Post.hit ?_|refine Post.again_exit ?_)|refine SW.nil ?_|refine SW.pure rfl rfl ?_)
  exact Post.ret1 rfl rfl ⟨_,rfl,hw,by rw [(idxOf_none (fun j hj=>hI j hj (by have:=hl.len;omega))).1]⟩
theorem ContainsFuncBlock_ans (A:Option Addr) (n c:Nat) (l:List Block) (w:World) (hl:Sl w 3 encBk A n l) (f:FuncId) (cap:List Value) [Body Tryz.prog f] (p:Block→Bool) (arg:Block→Value) (harg:∀ x,arg x=(if 3=1 then (encBk x)[0]?.getD undef else .agg (encBk x).toArray))
 (hf:∀ x∈l,∀ w',Ext w w'→Ans Tryz.prog f ([arg x]++cap) w' fun v _=>v = .bool (p x)) (hn:n≤9223372036854775807) :
 Ans Tryz.prog 226 [.slice A n c,.func (.func f) #[] cap.toArray] w fun v _=>v = .bool (l.any p):=by
 refine ans_of Tryz.func226 rfl Tryz.ntmps226 rfl ?_
 have hw:=Ext.refl w
 repeat' (first|(first|refine CW.seq ?_|refine CW.region ?_|refine CW.ret ?_)|(refine Post.seq ?_)|refine SW.nil ?_|refine SW.pure rfl rfl ?_|(show SW _ _ _ _ (⟨_,Op.call ⟨.value (.func _),_,_⟩,_,_,_,none⟩::_) _ _;(refine SW.call rfl rfl (IndexFuncBlock_ans _ _ _ _ _ (hl.ext hw) f cap p arg harg (fun x hx w1 h1=>hf x hx w1 (Ext.trans hw h1)) hn) ?_;intro v w1 hw1 hv;subst hv;replace hw:=Ext.trans hw hw1;clear hw1)))
 exact Post.ret1 rfl rfl ⟨_,rfl,hw,by rw [idxOf_ge]⟩
open Go.RowKit
instance:StrTy Tryz.prog 9:=⟨by kernel_rfl⟩
theorem und_u8:Tryz.prog.underlying 5=some (.int .u8):=by kernel_rfl
theorem IndexFuncUInt8_ans (A:Option Addr) (n c:Nat) (l:List UInt8) (w:World) (hl:Sl w 1 encU A n l) (f:FuncId) (cap:List Value) [Body Tryz.prog f] (p:UInt8→Bool) (arg:UInt8→Value) (harg:∀ x,arg x=(if 1=1 then (encU x)[0]?.getD undef else .agg (encU x).toArray))
 (hf:∀ x∈l,∀ w',Ext w w'→Ans Tryz.prog f ([arg x]++cap) w' fun v _=>v = .bool (p x)) (hn:n≤9223372036854775807) :
 Ans Tryz.prog 232 [.slice A n c,.func (.func f) #[] cap.toArray] w fun v _=>v = .int .i64 (idxOf p l):=by
 refine ans_of Tryz.func232 rfl Tryz.ntmps232 rfl ?_
 have hw:=Ext.refl w
 have hA:=hl.base
 repeat' (first|(first|refine CW.seq ?_|refine CW.region ?_|refine CW.block ?_)|(refine Post.seq ?_)|refine SW.nil ?_|refine SW.pure rfl rfl ?_|(show SW _ _ _ _ (⟨_,Op.call ⟨.builtin .len,_,_⟩,_,_,_,none⟩::_) _ _;refine SW.st (st_len rfl) rfl ?_))
 refine CW.loop (fun k:Nat=>[(0,.slice A n c),(1,.func (.func f) #[] cap.toArray),(7,.int .i64 (n:Int)),(8,.int .i64 (k:Int))]) (fun k w'=>k≤n∧Ext w w' ∧ ∀ j (hj:j<l.length),j<k→p l[j]=false) (fun k=>n-k) 0 ⟨rfl,rfl,rfl,rfl,trivial⟩ ⟨by omega,hw,fun j _ h=>by omega⟩ ?_
 clear hw
 rintro k w' ⟨hk',hw,hI⟩
 by_cases hk:k<n
 ·have hx:=harg (l[k]'(hl.lt hk))
  have hfk:=hf (l[k]'(hl.lt hk)) (List.getElem_mem _)
  rw [hx] at hfk
  repeat' (first|(first|refine CW.seq ?_|refine CW.region ?_|refine CW.block ?_|refine CW.condd_t rfl (by omega) ?_|refine CW.skip ?_)|(refine Post.seq ?_)|refine SW.nil ?_|refine SW.pure rfl rfl ?_|(show SW _ _ _ _ (⟨_,Op.indexAddr _ _ _,_,_,_,none⟩::_) _ _;refine SW.st (st_indexN rfl rfl (by assumption) (by omega)) rfl ?_)|(show SW _ _ _ _ (⟨_,Op.load _ _,_,_,_,none⟩::_) _ _;refine SW.st (st_loadx hw rfl (hl.one hk rfl)) rfl ?_))
  refine SW.callv rfl rfl rfl (hfk _ hw) fun v w1 hw1 hv => ?_
  subst hv
  replace hw:=Ext.trans hw hw1
  cases hp:p (l[k]'(hl.lt hk))
  ·repeat' (first|(first|refine CW.region ?_|refine CW.condfr rfl (by with_reducible rfl) ?_|refine CW.skip ?_)|(first|refine Post.seq ?_|refine Post.blk ?_)|refine SW.nil ?_|refine SW.pure rfl rfl ?_|(show SW _ _ _ _ (⟨_,Op.binOp _ _ _ _ _,_,_,_,none⟩::_) _ _;refine SW.st (st_add rfl rfl (by omega) (by omega)) rfl ?_))
   refine Post.again (k+1) ⟨rfl,rfl,rfl,rfl,trivial⟩ (by omega) ⟨by omega,hw,fun j hj h => ?_⟩
   by_cases hjk:j=k
   ·subst hjk;exact hp
   ·exact hI j hj (by omega)
  ·repeat' (first|(first|refine CW.seq ?_|refine CW.region ?_|refine CW.condtr rfl (by with_reducible rfl) ?_|refine CW.ret ?_)|(first|refine Post.seq ?_|refine Post.seq_ret ?_|refine Post.blk_ret ?_|refine Post.again_ret ?_)|refine SW.nil ?_|refine SW.pure rfl rfl ?_)
   exact Post.ret1 rfl rfl ⟨_,rfl,hw,by rw [idxOf_hit (hl.lt hk) hp hI]⟩
 ·repeat' (first|(first|refine CW.seq ?_|refine CW.region ?_|refine CW.condd_f rfl (by omega) ?_|refine CW.ret ?_|refine CW.exit ?_)|(first|refine Post.seq ?_|refine Post.seq_exit ?_|refine Post.hit ?_|refine Post.again_exit ?_)|refine SW.nil ?_|refine SW.pure rfl rfl ?_)
  exact Post.ret1 rfl rfl ⟨_,rfl,hw,by rw [(idxOf_none (fun j hj=>hI j hj (by have:=hl.len;omega))).1]⟩
theorem IndexFuncSlab_ans (A:Option Addr) (n c:Nat) (l:List Slab) (w:World) (hl:Sl w 3 encSb A n l) (f:FuncId) (cap:List Value) [Body Tryz.prog f] (p:Slab→Bool) (arg:Slab→Value) (harg:∀ x,arg x=(if 3=1 then (encSb x)[0]?.getD undef else .agg (encSb x).toArray))
 (hf:∀ x∈l,∀ w',Ext w w'→Ans Tryz.prog f ([arg x]++cap) w' fun v _=>v = .bool (p x)) (hn:n≤9223372036854775807) :
 Ans Tryz.prog 190 [.slice A n c,.func (.func f) #[] cap.toArray] w fun v _=>v = .int .i64 (idxOf p l):=by
 refine ans_of Tryz.func190 rfl Tryz.ntmps190 rfl ?_
 have hw:=Ext.refl w
 have hA:=hl.base
 repeat' (first|(first|refine CW.seq ?_|refine CW.region ?_|refine CW.block ?_)|(refine Post.seq ?_)|refine SW.nil ?_|refine SW.pure rfl rfl ?_|(show SW _ _ _ _ (⟨_,Op.call ⟨.builtin .len,_,_⟩,_,_,_,none⟩::_) _ _;refine SW.st (st_len rfl) rfl ?_))
 refine CW.loop (fun k:Nat=>[(0,.slice A n c),(1,.func (.func f) #[] cap.toArray),(7,.int .i64 (n:Int)),(8,.int .i64 (k:Int))]) (fun k w'=>k≤n∧Ext w w' ∧ ∀ j (hj:j<l.length),j<k→p l[j]=false) (fun k=>n-k) 0 ⟨rfl,rfl,rfl,rfl,trivial⟩ ⟨by omega,hw,fun j _ h=>by omega⟩ ?_
 clear hw
 rintro k w' ⟨hk',hw,hI⟩
 by_cases hk:k<n
 ·have hx:=harg (l[k]'(hl.lt hk))
  have hfk:=hf (l[k]'(hl.lt hk)) (List.getElem_mem _)
  rw [hx] at hfk
  repeat' (first|(first|refine CW.seq ?_|refine CW.region ?_|refine CW.block ?_|refine CW.condd_t rfl (by omega) ?_|refine CW.skip ?_)|(refine Post.seq ?_)|refine SW.nil ?_|refine SW.pure rfl rfl ?_|(show SW _ _ _ _ (⟨_,Op.indexAddr _ _ _,_,_,_,none⟩::_) _ _;refine SW.st (st_indexN rfl rfl (by assumption) (by omega)) rfl ?_)|(show SW _ _ _ _ (⟨_,Op.load _ _,_,_,_,none⟩::_) _ _;refine SW.st (st_loadsx hw rfl rfl ((hl.all hk))) rfl ?_))
  refine SW.callv rfl rfl rfl (hfk _ hw) fun v w1 hw1 hv => ?_
  subst hv
  replace hw:=Ext.trans hw hw1
  cases hp:p (l[k]'(hl.lt hk))
  ·repeat' (first|(first|refine CW.region ?_|refine CW.condfr rfl (by with_reducible rfl) ?_|refine CW.skip ?_)|(first|refine Post.seq ?_|refine Post.blk ?_)|refine SW.nil ?_|refine SW.pure rfl rfl ?_|(show SW _ _ _ _ (⟨_,Op.binOp _ _ _ _ _,_,_,_,none⟩::_) _ _;refine SW.st (st_add rfl rfl (by omega) (by omega)) rfl ?_))
   refine Post.again (k+1) ⟨rfl,rfl,rfl,rfl,trivial⟩ (by omega) ⟨by omega,hw,fun j hj h => ?_⟩
   by_cases hjk:j=k
   ·subst hjk;exact hp
   ·exact hI j hj (by omega)
  ·repeat' (first|(first|refine CW.seq ?_|refine CW.region ?_|refine CW.condtr rfl (by with_reducible rfl) ?_|refine CW.ret ?_)|(first|refine Post.seq ?_|refine Post.seq_ret ?_|refine Post.blk_ret ?_|refine Post.again_ret ?_)|refine SW.nil ?_|refine SW.pure rfl rfl ?_)
   exact Post.ret1 rfl rfl ⟨_,rfl,hw,by rw [idxOf_hit (hl.lt hk) hp hI]⟩
 ·repeat' (first|(first|refine CW.seq ?_|refine CW.region ?_|refine CW.condd_f rfl (by omega) ?_|refine CW.ret ?_|refine CW.exit ?_)|(first|refine Post.seq ?_|refine Post.seq_exit ?_|refine Post.hit ?_|refine Post.again_exit ?_)|refine SW.nil ?_|refine SW.pure rfl rfl ?_)
  exact Post.ret1 rfl rfl ⟨_,rfl,hw,by rw [(idxOf_none (fun j hj=>hI j hj (by have:=hl.len;omega))).1]⟩
theorem IndexFuncCRow_ans (A:Option Addr) (n c:Nat) (l:List CRow) (w:World) (hl:Sl w 6 encC A n l) (f:FuncId) (cap:List Value) [Body Tryz.prog f] (p:CRow→Bool) (arg:CRow→Value) (harg:∀ x,arg x=(if 6=1 then (encC x)[0]?.getD undef else .agg (encC x).toArray))
 (hf:∀ x∈l,∀ w',Ext w w'→Ans Tryz.prog f ([arg x]++cap) w' fun v _=>v = .bool (p x)) (hn:n≤9223372036854775807) :
 Ans Tryz.prog 137 [.slice A n c,.func (.func f) #[] cap.toArray] w fun v _=>v = .int .i64 (idxOf p l):=by
 refine ans_of Tryz.func137 rfl Tryz.ntmps137 rfl ?_
 have hw:=Ext.refl w
 have hA:=hl.base
 repeat' (first|(first|refine CW.seq ?_|refine CW.region ?_|refine CW.block ?_)|(refine Post.seq ?_)|refine SW.nil ?_|refine SW.pure rfl rfl ?_|(show SW _ _ _ _ (⟨_,Op.call ⟨.builtin .len,_,_⟩,_,_,_,none⟩::_) _ _;refine SW.st (st_len rfl) rfl ?_))
 refine CW.loop (fun k:Nat=>[(0,.slice A n c),(1,.func (.func f) #[] cap.toArray),(7,.int .i64 (n:Int)),(8,.int .i64 (k:Int))]) (fun k w'=>k≤n∧Ext w w' ∧ ∀ j (hj:j<l.length),j<k→p l[j]=false) (fun k=>n-k) 0 ⟨rfl,rfl,rfl,rfl,trivial⟩ ⟨by omega,hw,fun j _ h=>by omega⟩ ?_
 clear hw
 rintro k w' ⟨hk',hw,hI⟩
 by_cases hk:k<n
 ·have hx:=harg (l[k]'(hl.lt hk))
  have hfk:=hf (l[k]'(hl.lt hk)) (List.getElem_mem _)
  rw [hx] at hfk
  repeat' (first|(first|refine CW.seq ?_|refine CW.region ?_|refine CW.block ?_|refine CW.condd_t rfl (by omega) ?_|refine CW.skip ?_)|(refine Post.seq ?_)|refine SW.nil ?_|refine SW.pure rfl rfl ?_|(show SW _ _ _ _ (⟨_,Op.indexAddr _ _ _,_,_,_,none⟩::_) _ _;refine SW.st (st_indexN rfl rfl (by assumption) (by omega)) rfl ?_)|(show SW _ _ _ _ (⟨_,Op.load _ _,_,_,_,none⟩::_) _ _;refine SW.st (st_loadsx hw rfl rfl ((hl.all hk))) rfl ?_))
  refine SW.callv rfl rfl rfl (hfk _ hw) fun v w1 hw1 hv => ?_
  subst hv
  replace hw:=Ext.trans hw hw1
  cases hp:p (l[k]'(hl.lt hk))
  ·repeat' (first|(first|refine CW.region ?_|refine CW.condfr rfl (by with_reducible rfl) ?_|refine CW.skip ?_)|(first|refine Post.seq ?_|refine Post.blk ?_)|refine SW.nil ?_|refine SW.pure rfl rfl ?_|(show SW _ _ _ _ (⟨_,Op.binOp _ _ _ _ _,_,_,_,none⟩::_) _ _;refine SW.st (st_add rfl rfl (by omega) (by omega)) rfl ?_))
   refine Post.again (k+1) ⟨rfl,rfl,rfl,rfl,trivial⟩ (by omega) ⟨by omega,hw,fun j hj h => ?_⟩
   by_cases hjk:j=k
   ·subst hjk;exact hp
   ·exact hI j hj (by omega)
  ·repeat' (first|(first|refine CW.seq ?_|refine CW.region ?_|refine CW.condtr rfl (by with_reducible rfl) ?_|refine CW.ret ?_)|(first|refine Post.seq ?_|refine Post.seq_ret ?_|refine Post.blk_ret ?_|refine Post.again_ret ?_)|refine SW.nil ?_|refine SW.pure rfl rfl ?_)
   exact Post.ret1 rfl rfl ⟨_,rfl,hw,by rw [idxOf_hit (hl.lt hk) hp hI]⟩
 ·repeat' (first|(first|refine CW.seq ?_|refine CW.region ?_|refine CW.condd_f rfl (by omega) ?_|refine CW.ret ?_|refine CW.exit ?_)|(first|refine Post.seq ?_|refine Post.seq_exit ?_|refine Post.hit ?_|refine Post.again_exit ?_)|refine SW.nil ?_|refine SW.pure rfl rfl ?_)
  exact Post.ret1 rfl rfl ⟨_,rfl,hw,by rw [(idxOf_none (fun j hj=>hI j hj (by have:=hl.len;omega))).1]⟩
theorem ContainsFuncUInt8_ans (A:Option Addr) (n c:Nat) (l:List UInt8) (w:World) (hl:Sl w 1 encU A n l) (f:FuncId) (cap:List Value) [Body Tryz.prog f] (p:UInt8→Bool) (arg:UInt8→Value) (harg:∀ x,arg x=(if 1=1 then (encU x)[0]?.getD undef else .agg (encU x).toArray))
 (hf:∀ x∈l,∀ w',Ext w w'→Ans Tryz.prog f ([arg x]++cap) w' fun v _=>v = .bool (p x)) (hn:n≤9223372036854775807) :
 Ans Tryz.prog 182 [.slice A n c,.func (.func f) #[] cap.toArray] w fun v _=>v = .bool (l.any p):=by
 refine ans_of Tryz.func182 rfl Tryz.ntmps182 rfl ?_
 have hw:=Ext.refl w
 repeat' (first|(first|refine CW.seq ?_|refine CW.region ?_|refine CW.ret ?_)|(refine Post.seq ?_)|refine SW.nil ?_|refine SW.pure rfl rfl ?_|(show SW _ _ _ _ (⟨_,Op.call ⟨.value (.func _),_,_⟩,_,_,_,none⟩::_) _ _;(refine SW.call rfl rfl (IndexFuncUInt8_ans _ _ _ _ _ (hl.ext hw) f cap p arg harg (fun x hx w1 h1=>hf x hx w1 (Ext.trans hw h1)) hn) ?_;intro v w1 hw1 hv;subst hv;replace hw:=Ext.trans hw hw1;clear hw1)))
 exact Post.ret1 rfl rfl ⟨_,rfl,hw,by rw [idxOf_ge]⟩
theorem ContainsFuncCRow_ans (A:Option Addr) (n c:Nat) (l:List CRow) (w:World) (hl:Sl w 6 encC A n l) (f:FuncId) (cap:List Value) [Body Tryz.prog f] (p:CRow→Bool) (arg:CRow→Value) (harg:∀ x,arg x=(if 6=1 then (encC x)[0]?.getD undef else .agg (encC x).toArray))
 (hf:∀ x∈l,∀ w',Ext w w'→Ans Tryz.prog f ([arg x]++cap) w' fun v _=>v = .bool (p x)) (hn:n≤9223372036854775807) :
 Ans Tryz.prog 90 [.slice A n c,.func (.func f) #[] cap.toArray] w fun v _=>v = .bool (l.any p):=by
 refine ans_of Tryz.func90 rfl Tryz.ntmps90 rfl ?_
 have hw:=Ext.refl w
 repeat' (first|(first|refine CW.seq ?_|refine CW.region ?_|refine CW.ret ?_)|(refine Post.seq ?_)|refine SW.nil ?_|refine SW.pure rfl rfl ?_|(show SW _ _ _ _ (⟨_,Op.call ⟨.value (.func _),_,_⟩,_,_,_,none⟩::_) _ _;(refine SW.call rfl rfl (IndexFuncCRow_ans _ _ _ _ _ (hl.ext hw) f cap p arg harg (fun x hx w1 h1=>hf x hx w1 (Ext.trans hw h1)) hn) ?_;intro v w1 hw1 hv;subst hv;replace hw:=Ext.trans hw hw1;clear hw1)))
 exact Post.ret1 rfl rfl ⟨_,rfl,hw,by rw [idxOf_ge]⟩
def oddU (b:UInt8) : Bool:=(decide ((b.toNat:Int)<97) || decide (122<(b.toNat:Int))) && (decide ((b.toNat:Int)<48) || decide (57<(b.toNat:Int)))
def nameB (s:ByteArray) : Bool:=decide (1≤(s.size:Int)∧(s.size:Int)≤8) && !(s.data.toList.any oddU)
theorem nameB_t {s:ByteArray} (h : 1≤s.size∧s.size≤8) (k:s.data.toList.any oddU=false) : nameB s=true:=by
 unfold nameB
 rw [k,decide_eq_true (by omega)]
 rfl
theorem nameB_size {s:ByteArray} (h : ¬ (1≤s.size∧s.size≤8)) : nameB s=false:=by
 unfold nameB
 rw [decide_eq_false (by omega)]
 rfl
theorem nameB_odd {s:ByteArray} (k:s.data.toList.any oddU=true) : nameB s=false:=by
 unfold nameB
 rw [k]
 simp
theorem oddU_ans (b:UInt8) (w:World) : Ans Tryz.prog 183 ([.int .u8 b.toNat]++[]) w fun v _=>v = .bool (oddU b):=by
 refine ans_of Tryz.func183 rfl Tryz.ntmps183 rfl ?_
 have hw:=Ext.refl w
 unfold oddU
 obtain ⟨z,hz⟩ : ∃ z:Int,(b.toNat:Int)=z:=⟨_,rfl⟩
 rw [hz]
 by_cases a1:z<97
 ·by_cases a2:z<48
  ·repeat' (first|(first|refine CW.seq ?_|refine CW.region ?_|refine CW.ret ?_)|(refine Post.seq ?_)|refine SW.nil ?_|(show SW _ _ _ _ (⟨_,_,_,_,_,some _⟩::_) _ _;first|refine SW.want_t rfl rfl (by with_reducible rfl) ?_|refine SW.skip_f rfl rfl (by with_reducible rfl) rfl ?_|refine SW.splitd_t rfl rfl rfl (by omega) ?_)|refine SW.pure rfl rfl ?_)
   exact Post.ret1 rfl rfl ⟨_,rfl,hw,by simp [a1,a2]<;>omega⟩
  ·repeat' (first|(first|refine CW.seq ?_|refine CW.region ?_|refine CW.ret ?_)|(refine Post.seq ?_)|refine SW.nil ?_|(show SW _ _ _ _ (⟨_,_,_,_,_,some _⟩::_) _ _;first|refine SW.want_t rfl rfl (by with_reducible rfl) ?_|refine SW.want_f rfl rfl (by with_reducible rfl) ?_|refine SW.skip_f rfl rfl (by with_reducible rfl) rfl ?_|refine SW.splitd_t rfl rfl rfl (by omega) ?_|refine SW.splitd_f rfl rfl rfl (by omega) ?_)|refine SW.pure rfl rfl ?_)
   exact Post.ret1 rfl rfl ⟨_,rfl,hw,by simp [a1,a2]<;>omega⟩
 ·by_cases a2 : 122<z
  ·repeat' (first|(first|refine CW.seq ?_|refine CW.region ?_|refine CW.ret ?_)|(refine Post.seq ?_)|refine SW.nil ?_|(show SW _ _ _ _ (⟨_,_,_,_,_,some _⟩::_) _ _;first|refine SW.want_t rfl rfl (by with_reducible rfl) ?_|refine SW.want_f rfl rfl (by with_reducible rfl) ?_|refine SW.splitd_t rfl rfl rfl (by omega) ?_|refine SW.splitd_f rfl rfl rfl (by omega) ?_)|refine SW.pure rfl rfl ?_)
   exact Post.ret1 rfl rfl ⟨_,rfl,hw,by simp [a1,a2]<;>omega⟩
  ·repeat' (first|(first|refine CW.seq ?_|refine CW.region ?_|refine CW.ret ?_)|(refine Post.seq ?_)|refine SW.nil ?_|(show SW _ _ _ _ (⟨_,_,_,_,_,some _⟩::_) _ _;first|refine SW.want_f rfl rfl (by with_reducible rfl) ?_|refine SW.skip_t rfl rfl (by with_reducible rfl) rfl ?_|refine SW.skip_u rfl rfl (by with_reducible rfl) rfl ?_|refine SW.splitd_f rfl rfl rfl (by omega) ?_)|refine SW.pure rfl rfl ?_)
   exact Post.ret1 rfl rfl ⟨_,rfl,hw,by simp [a1,a2]<;>omega⟩
theorem name_ans (s:ByteArray) (w:World) (hs:s.size≤140737488351232) : Ans Tryz.prog 92 [.string s] w fun v _=>v = .bool (nameB s):=by
 refine ans_of Tryz.func92 rfl Tryz.ntmps92 rfl ?_
 have hw:=Ext.refl w
 by_cases h0:s=⟨#[]⟩
 ·subst h0
  repeat' (first|(first|refine CW.seq ?_|refine CW.region ?_|refine CW.condtr rfl (by with_reducible rfl) ?_|refine CW.ret ?_)|(first|refine Post.seq ?_|refine Post.seq_ret ?_)|refine SW.nil ?_|(show SW _ _ _ _ (⟨_,_,_,_,_,some _⟩::_) _ _;first|refine SW.want_f rfl rfl (by with_reducible rfl) ?_|refine SW.skip_f rfl rfl (by with_reducible rfl) rfl ?_|refine SW.splitd rfl rfl rfl (fun h => ?_) (fun h => ?_))|refine SW.pure rfl rfl ?_|(refine SW.st (st_eqStr rfl rfl) rfl ?_))
  all_goals first|(exfalso;simp_all;done)|skip
  exact Post.ret1 rfl rfl ⟨_,rfl,hw,rfl⟩
 ·by_cases h8:s.size≤8
  ·have h1 : 1≤s.size:=by
    rcases Nat.eq_zero_or_pos s.size with h|h
    ·exact absurd (by cases s;simp [ByteArray.size] at h;subst h;rfl) h0
    ·exact h
   have hne:decide (s=⟨#[]⟩)=false:=decide_eq_false h0
   repeat' (first|(first|refine CW.seq ?_|refine CW.region ?_|refine CW.condd_f rfl (by omega) ?_|refine CW.skip ?_)|(refine Post.seq ?_)|refine SW.nil ?_|(show SW _ _ _ _ (⟨_,_,_,_,_,some _⟩::_) _ _;refine SW.want_f rfl rfl (by with_reducible rfl) ?_)|refine SW.pure rfl rfl ?_|(refine SW.st ((st_eqStr rfl rfl).eq (congrArg Value.bool hne)) rfl ?_)|refine SW.st (st_lenS rfl) rfl ?_)
   refine SW.convBytes (e:=5) und_u8 rfl rfl fun b c w1 hw1 hb hS => ?_
   replace hw:=Ext.trans hw hw1
   refine SW.call rfl rfl (ContainsFuncUInt8_ans _ _ _ _ _ hS _ [] oddU (fun x => .int .u8 x.toNat) (fun x=>rfl) (fun x _ w1 _=>oddU_ans x w1) (by omega)) fun v w2 hw2 hv => ?_
   subst hv
   replace hw:=Ext.trans hw hw2
   repeat' (first|(refine CW.ret ?_)|(refine Post.seq ?_)|refine SW.nil ?_|refine SW.pure rfl rfl ?_)
   refine Post.ret1 rfl rfl ⟨_,rfl,hw,?_⟩
   cases k:s.data.toList.any oddU
   ·rw [nameB_t ⟨h1,h8⟩ k];rfl
   ·rw [nameB_odd k];rfl
  ·have hne:decide (s=⟨#[]⟩)=false:=decide_eq_false h0
   rw [nameB_size (by omega)]
   repeat' (first|(first|refine CW.seq ?_|refine CW.region ?_|refine CW.condd_t rfl (by omega) ?_|refine CW.ret ?_)|(first|refine Post.seq ?_|refine Post.seq_ret ?_)|refine SW.nil ?_|(show SW _ _ _ _ (⟨_,_,_,_,_,some _⟩::_) _ _;refine SW.want_f rfl rfl (by with_reducible rfl) ?_)|refine SW.pure rfl rfl ?_|(refine SW.st ((st_eqStr rfl rfl).eq (congrArg Value.bool hne)) rfl ?_)|refine SW.st (st_lenS rfl) rfl ?_)
   exact Post.ret1 rfl rfl ⟨_,rfl,hw,rfl⟩
theorem nameMay_ans (s:ByteArray) (w:World) (hs:s.size≤140737488351232) : Ans Tryz.prog 116 [.string s] w fun v _=>v = .bool (nameB s):=by
 refine ans_of Tryz.func116 rfl Tryz.ntmps116 rfl ?_
 have hw:=Ext.refl w
 repeat' (first|(first|refine CW.seq ?_|refine CW.region ?_|refine CW.block ?_)|(refine Post.seq ?_)|refine SW.nil ?_|refine SW.pure rfl rfl ?_)
 have hsl:s.data.toList.length=s.size:=Array.length_toList
 refine CW.loop (fun k:Nat=>[(0,.string s),(3,.int .i64 (k:Int))]) (fun k w'=>k≤s.size∧Ext w w' ∧ ∀ (i:Nat) (h:i<s.data.toList.length),i<k→oddU s.data.toList[i]=false) (fun k=>s.size-k) 0 ⟨rfl,rfl,trivial⟩ ⟨by omega,hw,fun i h h'=>by omega⟩ ?_
 clear hw
 rintro k w' ⟨hk,hw,hI⟩
 by_cases hks:k<s.size
 ·have hkl:k<s.data.toList.length:=by omega
  have eb:s[k]'hks=s.data.toList[k]:=rfl
  obtain ⟨q,hq⟩ : ∃ q,oddU s.data.toList[k]=q:=⟨_,rfl⟩
  obtain ⟨z,hz⟩ : ∃ z:Int,((s.data.toList[k]).toNat:Int)=z:=⟨_,rfl⟩
  have hz':(((s[k]'hks).toNat:Nat) : Int)=z:=hz
  have hq':=hq
  unfold oddU at hq'
  rw [hz] at hq'
  cases q
  ·have hc:(97≤z∧z≤122)∨(48≤z∧z≤57):=by
    simp at hq'
    omega
   repeat' (first|(first|refine CW.seq ?_|refine CW.region ?_|refine CW.block ?_|refine CW.condd_t rfl (by omega) ?_|refine CW.condn_f rfl (by omega) ?_|refine CW.condf rfl ?_|refine CW.skip ?_)|(first|refine Post.seq ?_|refine Post.blk ?_)|refine SW.nil ?_|(show SW _ _ _ _ (⟨_,_,_,_,_,some _⟩::_) _ _;first|refine SW.want_t rfl rfl (by with_reducible rfl) ?_|refine SW.want_f rfl rfl (by with_reducible rfl) ?_|refine SW.skip_t rfl rfl (by with_reducible rfl) rfl ?_|refine SW.skip_f rfl rfl (by with_reducible rfl) rfl ?_|refine SW.skip_u rfl rfl (by with_reducible rfl) rfl ?_|refine SW.splitd_t rfl rfl rfl (by omega) ?_|refine SW.splitd rfl rfl rfl (fun h => ?_) (fun h => ?_))|refine SW.pure rfl rfl ?_|(show SW _ _ _ _ (⟨_,Op.binOp _ _ _ _ _,_,_,_,none⟩::_) _ _;refine SW.st (st_add rfl rfl (by omega) (by omega)) rfl ?_)|refine SW.st (st_lenS rfl) rfl ?_|(refine SW.st ((st_idxS k rfl rfl rfl hks).eq (congrArg (Value.int .u8) hz')) rfl ?_))
   all_goals first|(exfalso;omega)|skip
   all_goals exact Post.again (k+1) ⟨rfl,rfl,trivial⟩ (by omega) ⟨by omega,hw,fun i h h'=>by
    by_cases e:i=k
    ·subst e;exact hq
    ·exact hI i h (by omega)⟩
  ·have hc : ¬ ((97≤z∧z≤122)∨(48≤z∧z≤57)):=by
    simp at hq'
    omega
   have hn:nameB s=false:=nameB_odd (List.any_eq_true.2 ⟨_,List.getElem_mem hkl,hq⟩)
   rw [hn]
   repeat' (first|(first|refine CW.seq ?_|refine CW.region ?_|refine CW.block ?_|refine CW.condd_t rfl (by omega) ?_|refine CW.condn_t rfl (by omega) ?_|refine CW.condt rfl ?_|refine CW.skip ?_|refine CW.ret ?_)|(first|refine Post.seq ?_|refine Post.seq_ret ?_|refine Post.blk_ret ?_|refine Post.again_ret ?_)|refine SW.nil ?_|(show SW _ _ _ _ (⟨_,_,_,_,_,some _⟩::_) _ _;first|refine SW.want_t rfl rfl (by with_reducible rfl) ?_|refine SW.want_f rfl rfl (by with_reducible rfl) ?_|refine SW.skip_t rfl rfl (by with_reducible rfl) rfl ?_|refine SW.splitd_t rfl rfl rfl (by omega) ?_|refine SW.splitd_f rfl rfl rfl (by omega) ?_|refine SW.splitd rfl rfl rfl (fun h => ?_) (fun h => ?_))|refine SW.pure rfl rfl ?_|refine SW.st (st_lenS rfl) rfl ?_|(refine SW.st ((st_idxS k rfl rfl rfl hks).eq (congrArg (Value.int .u8) hz')) rfl ?_))
   all_goals first|(exfalso;omega)|skip
   all_goals exact Post.ret1 rfl rfl ⟨_,rfl,hw,rfl⟩
 ·have hn:s.data.toList.any oddU=false:=by
   rw [List.any_eq_false]
   intro x hx
   obtain ⟨i,hi,rfl⟩:=List.getElem_of_mem hx
   rw [hI i hi (by omega)]
   simp
  repeat' (first|(first|refine CW.seq ?_|refine CW.region ?_|refine CW.condd_f rfl (by omega) ?_|refine CW.ret ?_|refine CW.exit ?_)|(first|refine Post.seq ?_|refine Post.seq_exit ?_|refine Post.hit ?_|refine Post.again_exit ?_)|refine SW.nil ?_|refine SW.pure rfl rfl ?_|(show SW _ _ _ _ (⟨_,Op.call ⟨.value (.func _),_,_⟩,_,_,_,none⟩::_) _ _;(refine SW.call rfl rfl (In_ans _ _ _ _) ?_;intro v w1 hw1 hv;subst hv;replace hw:=Ext.trans hw hw1;clear hw1))|refine SW.st (st_lenS rfl) rfl ?_)
  refine Post.ret1 rfl rfl ⟨_,rfl,hw,?_⟩
  unfold nameB
  rw [hn]
  simp
open Go.RowKit
def layoutF (x:Int) : Int×Int×Int:=if 1≤x∧x≤64 then (if 4≤16 / x then (0,16 / x,0) else if 4≤32 / x then (1,32 / x,0) else (2,64 / x,0)) else (0,0,1)
def layoutV (x:Int) : Value := .tuple #[.int .i64 (layoutF x).1,.int .i64 (layoutF x).2.1,.int .i64 (layoutF x).2.2]
theorem LayoutOf_ans (x:Int) (w:World) : Ans Tryz.prog 150 [.int .i64 x] w fun v _=>v=layoutV x:=by
 refine ans_of Tryz.func150 rfl Tryz.ntmps150 rfl ?_
 have hw:=Ext.refl w
 repeat' (first|(first|refine CW.seq ?_|refine CW.region ?_|refine CW.condd rfl (fun h => ?_) (fun h => ?_)|refine CW.condn rfl (fun h => ?_) (fun h => ?_)|refine CW.skip ?_|refine CW.ret ?_|(apply CW.quiet1 mixed;(· kernel_rfl);rotate_left;intro w1 hw1;replace hw:=Ext.trans hw hw1;clear hw1;rotate_right))|(first|refine Post.seq ?_|refine Post.seq_ret ?_)|refine SW.nil ?_|refine SW.pure rfl rfl ?_|(show SW _ _ _ _ (⟨_,Op.binOp _ _ _ _ _,_,_,_,none⟩::_) _ _;refine SW.st (st_quo rfl rfl (by omega) (by omega) (by omega)) rfl ?_)|(show SW _ _ _ _ (⟨_,Op.call ⟨.value (.func _),_,_⟩,_,_,_,none⟩::_) _ _;(refine SW.call rfl rfl (In_ans _ _ _ _) ?_;intro v w1 hw1 hv;subst hv;replace hw:=Ext.trans hw hw1;clear hw1))|exact SW.qnil rfl)
 all_goals refine Post.ret3 rfl rfl rfl rfl ⟨_,rfl,hw,?_⟩
 all_goals unfold layoutV layoutF
 ·rw [if_neg (by omega)]
 ·rw [if_pos (by omega),if_pos (by omega)]
 ·rw [if_pos (by omega),if_neg (by omega),if_pos (by omega)]
 ·rw [if_pos (by omega),if_neg (by omega),if_neg (by omega)]
theorem Layout_ans (x:Int) (w:World) : Ans Tryz.prog 141 [.int .i64 x] w fun v _=>v=layoutV x:=by
 refine ans_of Tryz.func141 rfl Tryz.ntmps141 rfl ?_
 have hw:=Ext.refl w
 repeat' (first|(first|refine CW.seq ?_|refine CW.region ?_|refine CW.block ?_|refine CW.condtr rfl (by with_reducible rfl) ?_|refine CW.condd rfl (fun h => ?_) (fun h => ?_)|refine CW.skip ?_|refine CW.ret ?_)|(first|refine Post.seq ?_|refine Post.seq_ret ?_)|refine SW.nil ?_|(show SW _ _ _ _ (⟨_,_,_,_,_,some _⟩::_) _ _;first|refine SW.want_f rfl rfl (by with_reducible rfl) ?_|refine SW.skip_f rfl rfl (by with_reducible rfl) rfl ?_|refine SW.splitd rfl rfl rfl (fun h => ?_) (fun h => ?_))|refine SW.pure rfl rfl ?_)
 ·refine Post.ret3 rfl rfl rfl rfl ⟨_,rfl,hw,?_⟩
  unfold layoutV layoutF
  rw [if_neg (by omega)]
 ·refine Post.ret3 rfl rfl rfl rfl ⟨_,rfl,hw,?_⟩
  unfold layoutV layoutF
  rw [if_neg (by omega)]
 ·have hx : 1≤x∧x≤64:=by omega
  refine CW.loop (fun k:Nat=>[(0,.int .i64 x),(5,.int .i64 (k:Int))]) (fun k w'=>k≤2∧Ext w w'∧(1≤k → ¬ 4≤16 / x)∧(2≤k → ¬ 4≤32 / x)) (fun k=>2-k) 0 ⟨rfl,rfl,trivial⟩ ⟨by omega,hw,by omega,by omega⟩ ?_
  clear hw
  rintro k w' ⟨hk,hw,h1,h2⟩
  obtain rfl|rfl|rfl:k=0∨k=1∨k=2:=by omega
  ·repeat' (first|(first|refine CW.seq ?_|refine CW.region ?_|refine CW.block ?_)|refine SW.pure rfl rfl ?_)
   refine SW.st (st_shl (r:=16) rfl rfl (by decide) (by decide) (by decide) (by decide) (by decide)) rfl ?_
   repeat' (first|(first|refine CW.seq ?_|refine CW.region ?_|refine CW.condtr rfl (by with_reducible rfl) ?_|refine CW.condd_f rfl (by omega) ?_|refine CW.skip ?_|refine CW.ret ?_)|(first|refine Post.seq ?_|refine Post.seq_ret ?_|refine Post.blk ?_|refine Post.blk_ret ?_|refine Post.again_ret ?_)|refine SW.nil ?_|(show SW _ _ _ _ (⟨_,_,_,_,_,some _⟩::_) _ _;first|refine SW.want_f rfl rfl (by with_reducible rfl) ?_|refine SW.skip_f rfl rfl (by with_reducible rfl) rfl ?_|refine SW.splitd rfl rfl rfl (fun h => ?_) (fun h => ?_))|refine SW.pure rfl rfl ?_|(show SW _ _ _ _ (⟨_,Op.binOp _ _ _ _ _,_,_,_,none⟩::_) _ _;first|refine SW.st (st_add rfl rfl (by omega) (by omega)) rfl ?_|refine SW.st (st_quo rfl rfl (by omega) (by omega) (by omega)) rfl ?_))
   ·refine Post.ret3 rfl rfl rfl rfl ⟨_,rfl,hw,?_⟩
    unfold layoutV layoutF
    rw [if_pos (by omega),if_pos (by omega)]
    rfl
   ·exact Post.again 1 ⟨rfl,rfl,trivial⟩ (by omega) ⟨by omega,hw,fun _=>by omega,fun h=>by omega⟩
  ·repeat' (first|(first|refine CW.seq ?_|refine CW.region ?_|refine CW.block ?_)|refine SW.pure rfl rfl ?_)
   refine SW.st (st_shl (r:=32) rfl rfl (by decide) (by decide) (by decide) (by decide) (by decide)) rfl ?_
   repeat' (first|(first|refine CW.seq ?_|refine CW.region ?_|refine CW.condtr rfl (by with_reducible rfl) ?_|refine CW.condd_f rfl (by omega) ?_|refine CW.skip ?_|refine CW.ret ?_)|(first|refine Post.seq ?_|refine Post.seq_ret ?_|refine Post.blk ?_|refine Post.blk_ret ?_|refine Post.again_ret ?_)|refine SW.nil ?_|(show SW _ _ _ _ (⟨_,_,_,_,_,some _⟩::_) _ _;first|refine SW.want_f rfl rfl (by with_reducible rfl) ?_|refine SW.skip_f rfl rfl (by with_reducible rfl) rfl ?_|refine SW.splitd rfl rfl rfl (fun h => ?_) (fun h => ?_))|refine SW.pure rfl rfl ?_|(show SW _ _ _ _ (⟨_,Op.binOp _ _ _ _ _,_,_,_,none⟩::_) _ _;first|refine SW.st (st_add rfl rfl (by omega) (by omega)) rfl ?_|refine SW.st (st_quo rfl rfl (by omega) (by omega) (by omega)) rfl ?_))
   ·refine Post.ret3 rfl rfl rfl rfl ⟨_,rfl,hw,?_⟩
    have:=h1 (by omega)
    unfold layoutV layoutF
    rw [if_pos (by omega),if_neg (by omega),if_pos (by omega)]
    rfl
   ·exact Post.again 2 ⟨rfl,rfl,trivial⟩ (by omega) ⟨by omega,hw,fun _=>h1 (by omega),fun _=>by omega⟩
  ·repeat' (first|(first|refine CW.seq ?_|refine CW.region ?_|refine CW.block ?_)|refine SW.pure rfl rfl ?_)
   refine SW.st (st_shl (r:=64) rfl rfl (by decide) (by decide) (by decide) (by decide) (by decide)) rfl ?_
   have h1':=h1 (by omega)
   have h2':=h2 (by omega)
   repeat' (first|(first|refine CW.seq ?_|refine CW.region ?_|refine CW.condtr rfl (by with_reducible rfl) ?_|refine CW.condd_t rfl (by omega) ?_|refine CW.ret ?_)|(first|refine Post.seq ?_|refine Post.seq_ret ?_|refine Post.blk_ret ?_|refine Post.again_ret ?_)|refine SW.nil ?_|(show SW _ _ _ _ (⟨_,_,_,_,_,some _⟩::_) _ _;first|refine SW.want_f rfl rfl (by with_reducible rfl) ?_|refine SW.skip_f rfl rfl (by with_reducible rfl) rfl ?_|refine SW.splitd rfl rfl rfl (fun h => ?_) (fun h => ?_))|refine SW.pure rfl rfl ?_|(show SW _ _ _ _ (⟨_,Op.binOp _ _ _ _ _,_,_,_,none⟩::_) _ _;refine SW.st (st_quo rfl rfl (by omega) (by omega) (by omega)) rfl ?_))
   all_goals refine Post.ret3 rfl rfl rfl rfl ⟨_,rfl,hw,?_⟩
   all_goals unfold layoutV layoutF
   all_goals rw [if_pos (by omega),if_neg (by omega),if_neg (by omega)]
   all_goals rfl
open Go.RowKit
def encB (b:Bool) : List Value:=[.bool b]
instance:Enc encB 1:=⟨fun _=>rfl,fun _ u hu=>by simp [encB] at hu;subst hu;rfl⟩
theorem IndexInt_ans (A:Option Addr) (n c:Nat) (l:List Int) (x:Int) (w:World) (hl:Sl w 1 encI A n l) (hn:n≤9223372036854775807) :
 Ans Tryz.prog 186 [.slice A n c,.int .i64 x] w fun v _ => ∃ i:Int,v = .int .i64 i∧(0≤i↔x∈l):=by
 refine ans_of Tryz.func186 rfl Tryz.ntmps186 rfl ?_
 have hw:=Ext.refl w
 have hA:=hl.base
 have hll:=hl.len
 repeat' (first|(first|refine CW.seq ?_|refine CW.region ?_|refine CW.block ?_)|(refine Post.seq ?_)|refine SW.nil ?_|refine SW.pure rfl rfl ?_|(show SW _ _ _ _ (⟨_,Op.call ⟨.builtin .len,_,_⟩,_,_,_,none⟩::_) _ _;refine SW.st (st_len rfl) rfl ?_))
 refine CW.loop (fun k:Nat=>[(0,.slice A n c),(1,.int .i64 x),(7,.int .i64 (n:Int)),(8,.int .i64 (k:Int))]) (fun k w'=>k≤n∧Ext w w' ∧ ∀ (i:Nat) (h:i<l.length),i<k→l[i]≠x)
  (fun k=>n-k) 0 ⟨rfl,rfl,rfl,rfl,trivial⟩ ⟨by omega,hw,fun i h hi=>by omega⟩ ?_
 clear hw
 rintro k w' ⟨hk,hw,hI⟩
 by_cases hkn:k<n
 ·repeat' (first|(first|refine CW.seq ?_|refine CW.region ?_|refine CW.block ?_|refine CW.condd_t rfl (by omega) ?_|refine CW.condd rfl (fun h => ?_) (fun h => ?_)|refine CW.skip ?_|refine CW.ret ?_)|(first|refine Post.seq ?_|refine Post.seq_ret ?_|refine Post.blk ?_|refine Post.blk_ret ?_|refine Post.again_ret ?_)|refine SW.nil ?_|refine SW.pure rfl rfl ?_|(show SW _ _ _ _ (⟨_,Op.binOp _ _ _ _ _,_,_,_,none⟩::_) _ _;refine SW.st (st_add rfl rfl (by omega) (by omega)) rfl ?_)|(show SW _ _ _ _ (⟨_,Op.indexAddr _ _ _,_,_,_,none⟩::_) _ _;refine SW.st (st_indexN rfl rfl (by assumption) (by omega)) rfl ?_)|(show SW _ _ _ _ (⟨_,Op.load _ _,_,_,_,none⟩::_) _ _;refine SW.st (st_loadx hw rfl (hl.one hkn rfl)) rfl ?_))
  ·refine Post.ret1 rfl rfl ⟨_,rfl,hw,_,rfl,?_⟩
   have hx:x∈l:=by rw [h];exact List.getElem_mem _
   simp [hx]
  ·refine Post.again (k+1) ⟨rfl,rfl,rfl,rfl,trivial⟩ (by omega) ⟨by omega,hw,fun i h' hi => ?_⟩
   by_cases hik:i=k
   ·subst hik
    exact fun e=>h e.symm
   ·exact hI i h' (by omega)
 ·repeat' (first|(first|refine CW.seq ?_|refine CW.region ?_|refine CW.condd_f rfl (by omega) ?_|refine CW.ret ?_|refine CW.exit ?_)|(first|refine Post.seq ?_|refine Post.seq_exit ?_|refine Post.hit ?_|refine Post.again_exit ?_)|refine SW.nil ?_|refine SW.pure rfl rfl ?_)
  refine Post.ret1 rfl rfl ⟨_,rfl,hw,_,rfl,?_⟩
  have hx : ¬ x∈l:=fun hm=>by
   obtain ⟨i,hi,e⟩:=List.getElem_of_mem hm
   exact hI i hi (by omega) e
  simp [hx]
theorem ContainsInt_ans (A:Option Addr) (n c:Nat) (l:List Int) (x:Int) (w:World) (hl:Sl w 1 encI A n l) (hn:n≤9223372036854775807) :
 Ans Tryz.prog 95 [.slice A n c,.int .i64 x] w fun v _=>v = .bool (decide (x∈l)):=by
 refine ans_of Tryz.func95 rfl Tryz.ntmps95 rfl ?_
 have hw:=Ext.refl w
 repeat' (first|(first|refine CW.seq ?_|refine CW.region ?_)|(refine Post.seq ?_)|refine SW.nil ?_|refine SW.pure rfl rfl ?_)
 refine SW.call rfl rfl (IndexInt_ans _ _ _ _ _ _ (hl.ext hw) hn) fun v w1 hw1 hv => ?_
 obtain ⟨i,rfl,hi⟩:=hv
 replace hw:=Ext.trans hw hw1
 repeat' (first|(refine CW.ret ?_)|(refine Post.seq ?_)|refine SW.nil ?_|refine SW.pure rfl rfl ?_)
 refine Post.ret1 rfl rfl ⟨_,rfl,hw,?_⟩
 congr 1
 rw [decide_eq_decide]
 exact hi
inductive Follows (l:List Int) (most:Int) : Int→List Int→Option (List Int)→Prop where
 | done (out:List Int) : Follows l most (-1) out (some out)
 | bad {x:Int} {out:List Int} (h:x ≠ -1) (hb:most≤out.length ∨ ¬ (0≤x∧x<l.length)∨x∈out) : Follows l most x out none
 | step {k:Nat} {out:List Int} {r:Option (List Int)} (h1:out.length<most) (hk:k<l.length) (h3:(k:Int)∉out) (h:Follows l most l[k] (out++[(k:Int)]) r) : Follows l most k out r
theorem Follows.det {l:List Int} {most x:Int} {out:List Int} {r s:Option (List Int)} (h:Follows l most x out r) : Follows l most x out s→r=s:=by
 induction h with
 | done out=>intro h';generalize hx:(-1:Int)=y at h';cases h' with
   | done=>rfl
   | bad h hb=>exact absurd hx.symm h
   | step h1 hk h3 h=>omega
 | @bad x out h hb=>intro h';cases h' with
   | done=>exact absurd rfl h
   | bad=>rfl
   | @step k _ _ h1 hk h3 h'=>rcases hb with h0|h0|h0<;>first|omega|exact absurd h0 h3
 | @step k out r h1 hk h3 h ih=>intro h';generalize hx:(k:Int)=y at h';cases h' with
   | done=>omega
   | bad h hb=>subst hx;rcases hb with h0|h0|h0<;>first|omega|exact absurd h0 h3
   | @step k' _ _ h1' hk' h3' h' =>
     have:k=k':=by omega
     subst this
     exact ih h'
def unseen (n:Nat) (out:List Int) : Nat:=((List.range n).filter fun i:Nat=>decide ((i:Int)∉out)).length
theorem unseen_lt {n k:Nat} {out:List Int} (hk:k<n) (h:(k:Int)∉out) : unseen n (out++[(k:Int)])<unseen n out:=by
 unfold unseen
 have e:((List.range n).filter fun i:Nat=>decide ((i:Int)∉out++[(k:Int)]))=((List.range n).filter fun i:Nat=>decide ((i:Int)∉out)).filter fun i:Nat=>decide (i≠k):=by
  rw [List.filter_filter]
  apply List.filter_congr
  intro i _
  rw [← Bool.decide_and,decide_eq_decide]
  simp only [List.mem_append,List.mem_singleton,not_or]
  constructor
  ·rintro ⟨h1,h2⟩;exact ⟨fun e=>h2 (by rw [e]),h1⟩
  ·rintro ⟨h1,h2⟩;exact ⟨h2,fun e=>h1 (by omega)⟩
 rw [e]
 refine List.length_filter_lt_length_iff_exists.2 ⟨k,?_,by simp⟩
 simp [hk,h]
end Go.Proofs.YtbidkghlpijecaaGreatDoor
