/-
  Texts of the claim KmemNew, part 19: what its theorem leans on.
-/
import Derived.Test.YtbidkghlpijecaaGreatDoorPackKmemNew4
import Derived.Test.YtbidkghlpijecaaGreatDoorPackKmemNew18
import Derived.Test.YtbidkghlpijecaaGreatDoorPackKmemNew5
import Derived.Test.YtbidkghlpijecaaGreatDoorPackKmemNew6
import Derived.Test.YtbidkghlpijecaaGreatDoorPackKmemNew14
set_option linter.unusedVariables false
set_option linter.unusedSimpArgs false
namespace Go.Proofs.YtbidkghlpijecaaGreatDoor
open Go.RowKit
theorem inReg_take {l:List Region} {k:Nat} (hk:k<l.length) (i:Int) : inReg (l.take (k+1)) i=(inReg (l.take k) i || (decide ((l[k]).From≤i) && decide (i<(l[k]).From+(l[k]).Size))):=by
 unfold inReg
 rw [List.take_succ_eq_append_getElem hk,List.any_append]
 simp only [List.any_cons,List.any_nil,Bool.or_false]
theorem marks0:marksOf (fun i=>inReg [] i) 256=List.replicate 256 false:=by
 apply List.ext_getElem (by rw [marksOf_len,List.length_replicate])
 intro j h1 h2
 rw [marksOf_get,List.getElem_replicate]
 rfl
theorem Bpages_ans (A:Option Addr) (n c:Nat) (l:List Region) (w:World) (hl:Sl w 2 encR A n l) (hok:∀ r∈l,r.ok) (hn:n≤9223372036854775807) :
 Ans Tryz.prog 132 [.slice A n c] w fun v w' => ∃ B d,v = .slice B 256 d∧Own w' w.heap.size 4 1 encB B 256 d (marksOf (fun i=>inReg l i) 256):=by
 refine ans_of Tryz.func132 rfl Tryz.ntmps132 rfl ?_
 have hw:=Ext.refl w
 have hA:=hl.base
 repeat' (first|(first|refine CW.seq ?_|refine CW.region ?_)|(refine Post.seq ?_)|refine SW.nil ?_|refine SW.pure rfl rfl ?_)
 refine SW.make (enc:=encB) (k:=256) false rfl rfl rfl (by omega) (by omega) rfl fun B d w1 hw1 hS => ?_
 have hlo:=hw.size
 replace hw:=Ext.trans hw hw1
 replace hS:=Own.low hS hlo
 have hBs:=hS.sl.base
 repeat' (first|(first|refine CW.seq ?_|refine CW.region ?_|refine CW.block ?_)|(refine Post.seq ?_)|refine SW.nil ?_|refine SW.pure rfl rfl ?_|(show SW _ _ _ _ (⟨_,Op.call ⟨.builtin .len,_,_⟩,_,_,_,none⟩::_) _ _;refine SW.st (st_len rfl) rfl ?_))
 refine CW.loop (fun k:Nat=>[(3,.slice B 256 d),(8,.slice A n c),(9,.int .i64 (n:Int)),(10,.int .i64 (k:Int))])
  (fun k w'=>k≤n∧Ext w w'∧Own w' w.heap.size 4 1 encB B 256 d (marksOf (fun i=>inReg (l.take k) i) 256)) (fun k=>n-k) 0 ⟨rfl,rfl,rfl,rfl,trivial⟩ ⟨by omega,hw,by
    have e:marksOf (fun i=>inReg (l.take 0) i) 256=List.replicate 256 false:=marks0
    rw [e];exact hS⟩ ?_
 clear hw hS
 rintro k w' ⟨hk,hw,hO⟩
 by_cases hkn:k<n
 ·have hkl:=hl.lt hkn
  have hrok:=hok (l[k]) (List.getElem_mem hkl)
  obtain ⟨f,hf⟩:=Int.eq_ofNat_of_zero_le hrok.1
  obtain ⟨s,hs⟩:=Int.eq_ofNat_of_zero_le (show 0≤(l[k]).Size by have:=hrok.2.1;omega)
  have h256:=hrok.2.2.2
  repeat' (first|(first|refine CW.seq ?_|refine CW.region ?_|refine CW.block ?_|refine CW.condd_t rfl (by omega) ?_|refine CW.skip ?_)|(refine Post.seq ?_)|refine SW.nil ?_|refine SW.pure rfl rfl ?_|(show SW _ _ _ _ (⟨_,Op.indexAddr _ _ _,_,_,_,none⟩::_) _ _;refine SW.st (st_indexN rfl rfl (by assumption) (by omega)) rfl ?_)|(show SW _ _ _ _ (⟨_,Op.load _ _,_,_,_,none⟩::_) _ _;refine SW.st (st_loadsx hw rfl rfl ((hl.all hkn))) rfl ?_))
  refine SW.alloc rfl fun b w1 hw1 hb hB => ?_
  have hbw:w.heap.size≤b:=Nat.le_trans hw.size hb
  replace hw:=Ext.trans hw hw1
  replace hO:=hO.ext hw1
  skip
  refine SW.storeAgg hB rfl rfl rfl rfl (Enc.one (enc:=encR) _) fun w2 hB2 hg => ?_
  replace hw:=hw.own hbw hg
  replace hO:=hO.grown hg (.inr (hO.ne_blk hB rfl))
  repeat' (first|(first|refine CW.seq ?_|refine CW.region ?_|refine CW.block ?_)|(refine Post.seq ?_)|refine SW.nil ?_|refine SW.pure rfl rfl ?_|(show SW _ _ _ _ (⟨_,Op.fieldAddr _ _ _,_,_,_,none⟩::_) _ _;refine SW.st (st_field rfl) rfl ?_)|(show SW _ _ _ _ (⟨_,Op.load _ _,_,_,_,none⟩::_) _ _;refine SW.st (st_load rfl (hB2.cell rfl)) rfl ?_))
  refine CW.loop (fun j:Nat=>[(3,.slice B 256 d),(5,.pointer (some ⟨b,0,none⟩)),(6,.int .i64 ((f+j:Nat) : Int)),(8,.slice A n c),(9,.int .i64 (n:Int)),(10,.int .i64 (k:Int))])
   (fun j w'=>j≤s∧Ext w w'∧Blk w' b 123 (encR (l[k]))∧Own w' w.heap.size 4 1 encB B 256 d (marksOf (fun i=>inReg (l.take k) i || (decide (f≤i) && decide (i<f+j))) 256)) (fun j=>s-j) 0
   ⟨rfl,rfl,by rw [hf];rfl,rfl,rfl,rfl,trivial⟩ ⟨by omega,hw,hB2,by
    have e:marksOf (fun i=>inReg (l.take k) i || (decide (f≤i) && decide (i<f+0))) 256=marksOf (fun i=>inReg (l.take k) i) 256:=marksOf_congr fun i _=>by
     have:(decide (f≤i) && decide (i<f+0))=false:=by
      rcases Nat.lt_or_ge i f with h|h
      ·rw [decide_eq_false (by omega : ¬ f≤i)];rfl
      ·rw [decide_eq_false (by omega : ¬ i<f+0),Bool.and_false]
     rw [this,Bool.or_false]
    rw [e];exact hO⟩ ?_
  clear hw hO hB hB2 hg hw1
  rintro j w' ⟨hj,hw,hB2,hO⟩
  by_cases hjs:j<s
  ·repeat' (first|(first|refine CW.seq ?_|refine CW.region ?_|refine CW.block ?_|refine CW.condd_t rfl (by omega) ?_|refine CW.skip ?_)|(refine Post.seq ?_)|refine SW.nil ?_|refine SW.pure rfl rfl ?_|(show SW _ _ _ _ (⟨_,Op.indexAddr _ _ _,_,_,_,none⟩::_) _ _;refine SW.st (st_indexN rfl rfl (by assumption) (by omega)) rfl ?_)|(show SW _ _ _ _ (⟨_,Op.load _ _,_,_,_,none⟩::_) _ _;refine SW.st (st_loads rfl rfl ((fun _ _=>hB2.cell))) rfl ?_)|(show SW _ _ _ _ (⟨_,Op.call ⟨.value (.func _),_,_⟩,_,_,_,none⟩::_) _ _;(refine SW.call rfl rfl (end_ok hrok _) ?_;intro v w1 hw1 hv;subst hv;replace hw:=Ext.trans hw hw1;replace hB2:=hB2.ext hw1;replace hO:=hO.ext hw1;clear hw1)))
   refine SW.storeO (f+j) 0 true hO rfl rfl rfl (by omega) (by omega) (by rw [add_zero]) rfl fun w3 hO3 hg => ?_
   replace hw:=ext_grown hw hg (Nat.le_refl _) hO.row_ge
   replace hB2:=hB2.grown hg (fun e=>hO.ne_blk hB2 rfl e.symm)
   rw [marksOf_set] at hO3
   repeat' (first|(refine CW.region ?_)|(first|refine Post.seq ?_|refine Post.blk ?_)|refine SW.nil ?_|refine SW.pure rfl rfl ?_|(show SW _ _ _ _ (⟨_,Op.binOp _ _ _ _ _,_,_,_,none⟩::_) _ _;refine SW.st (st_add rfl rfl (by omega) (by omega)) rfl ?_))
   refine Post.again (j+1) ⟨rfl,rfl,rfl,rfl,rfl,rfl,trivial⟩ (by omega) ⟨by omega,hw,hB2,?_⟩
   have e:marksOf (fun i=>inReg (l.take k) i || (decide (f≤i) && decide (i<f+(j+1)))) 256=marksOf (fun i=>if i=f+j then true else inReg (l.take k) i || (decide (f≤i) && decide (i<f+j))) 256:=marksOf_congr fun i _=>by
    by_cases hi:i=f+j
    ·subst hi
     have h1:f≤f+j:=by omega
     have h2:f+j<f+(j+1):=by omega
     simp [h1,h2]
    ·have e2:decide (i<f+(j+1))=decide (i<f+j):=by rw [decide_eq_decide];omega
     simp [hi,e2]
   rw [e];exact hO3
  ·obtain rfl:j=s:=by omega
   repeat' (first|(first|refine CW.seq ?_|refine CW.region ?_|refine CW.condd_f rfl (by omega) ?_|refine CW.exit ?_)|(first|refine Post.seq ?_|refine Post.seq_exit ?_|refine Post.hit ?_|refine Post.blk ?_|refine Post.again_exit ?_)|refine SW.nil ?_|refine SW.pure rfl rfl ?_|(show SW _ _ _ _ (⟨_,Op.binOp _ _ _ _ _,_,_,_,none⟩::_) _ _;refine SW.st (st_add rfl rfl (by omega) (by omega)) rfl ?_)|(show SW _ _ _ _ (⟨_,Op.load _ _,_,_,_,none⟩::_) _ _;refine SW.st (st_loads rfl rfl ((fun _ _=>hB2.cell))) rfl ?_)|(show SW _ _ _ _ (⟨_,Op.call ⟨.value (.func _),_,_⟩,_,_,_,none⟩::_) _ _;(refine SW.call rfl rfl (end_ok hrok _) ?_;intro v w1 hw1 hv;subst hv;replace hw:=Ext.trans hw hw1;replace hB2:=hB2.ext hw1;replace hO:=hO.ext hw1;clear hw1)))
   refine Post.again (k+1) ⟨rfl,rfl,rfl,rfl,trivial⟩ (by omega) ⟨by omega,hw,?_⟩
   have e:marksOf (fun i=>inReg (l.take (k+1)) i) 256=marksOf (fun i=>inReg (l.take k) i || (decide (f≤i) && decide (i<f+j))) 256:=marksOf_congr fun i _=>by
    rw [inReg_take hkl,hf,hs]
    have e1:decide (((f:Nat) : Int)≤(i:Int))=decide (f≤i):=by rw [decide_eq_decide];omega
    have e2:decide ((i:Int)<((f:Nat) : Int)+((j:Nat) : Int))=decide (i<f+j):=by rw [decide_eq_decide];omega
    rw [e1,e2]
   rw [e];exact hO
 ·repeat' (first|(first|refine CW.seq ?_|refine CW.region ?_|refine CW.condd_f rfl (by omega) ?_|refine CW.ret ?_|refine CW.exit ?_)|(first|refine Post.seq ?_|refine Post.seq_exit ?_|refine Post.hit ?_|refine Post.again_exit ?_)|refine SW.nil ?_|refine SW.pure rfl rfl ?_)
  obtain rfl:k=n:=by omega
  refine Post.ret1 rfl rfl ⟨_,rfl,hw,B,d,rfl,?_⟩
  rwa [List.take_of_length_le (by have:=hl.len;omega)] at hO
open Go.RowKit
def RegsOut (lo:Nat) (l:List Region) (v:Value) (w:World) : Prop := ∃ A c,v = .slice A l.length c∧Own w lo 123 2 encR A l.length c l
theorem Blk.slR {w:World} {b:Nat} {t:TypeId} {r:Region} {vs:List Value} (h:Blk w b t vs) (e:vs=encR r) : Sl w 2 encR (some ⟨b,0,none⟩) 1 [r]:=by subst e;exact Blk.sl1 h
theorem Bregions_ans (A:Option Addr) (c N:Nat) (hN:N=256) (p:Nat→Bool) (w:World) (hl:Sl w 1 encB A N (marksOf p N)) :
 Ans Tryz.prog 133 [.slice A N c] w (RegsOut w.heap.size (runs p N)):=by
 refine ans_of Tryz.func133 rfl Tryz.ntmps133 rfl ?_
 have hw:=Ext.refl w
 have hA:=hl.base
 have hcell:∀ k,k<N→w.cell? ((A.getD default).add (k*1))=some (.bool (p k)):=fun k hk=>hl.one hk (by rw [marksOf_get];rfl)
 repeat' (first|(first|refine CW.seq ?_|refine CW.region ?_|refine CW.block ?_)|(refine Post.seq ?_)|refine SW.nil ?_|refine SW.pure rfl rfl ?_|(show SW _ _ _ _ (⟨_,Op.call ⟨.builtin .len,_,_⟩,_,_,_,none⟩::_) _ _;refine SW.st (st_len rfl) rfl ?_))
 refine CW.loop (fun s:Nat×Option Addr×Nat=>[(3,.slice s.2.1 (runs p s.1).length s.2.2),(7,.slice A N c),(8,.int .i64 (N:Int)),(9,.int .i64 (s.1:Int))])
  (fun s w'=>s.1≤N∧Ext w w'∧Own w' w.heap.size 123 2 encR s.2.1 (runs p s.1).length s.2.2 (runs p s.1)) (fun s=>N-s.1) (0,none,0) ⟨rfl,rfl,rfl,rfl,trivial⟩ ⟨by omega,hw,Own.nil_ _ _ _ _ _ _⟩ ?_
 clear hw
 rintro ⟨k,A1,c1⟩ w' ⟨hk,hw,hO⟩
 simp only at hk hO ⊢
 have hok:=runs_ok p k
 have hlen:=hok.len
 by_cases hkn:k<N
 ·obtain ⟨bk,hbk⟩ : ∃ b,p k=b:=⟨_,rfl⟩
  have hc:=hcell k hkn
  rw [hbk] at hc
  cases bk
  ·have e:runs p (k+1)=runs p k:=by simp [runs,hbk]
   repeat' (first|(first|refine CW.seq ?_|refine CW.region ?_|refine CW.block ?_|refine CW.condd_t rfl (by omega) ?_|refine CW.condt rfl ?_|refine CW.skip ?_)|(first|refine Post.seq ?_|refine Post.blk ?_)|refine SW.nil ?_|refine SW.pure rfl rfl ?_|(show SW _ _ _ _ (⟨_,Op.binOp _ _ _ _ _,_,_,_,none⟩::_) _ _;first|refine SW.st (st_add rfl rfl (by omega) (by omega)) rfl ?_|refine SW.st (st_sub rfl rfl (by omega) (by omega)) rfl ?_)|(show SW _ _ _ _ (⟨_,Op.indexAddr _ _ _,_,_,_,none⟩::_) _ _;refine SW.st (st_indexN rfl rfl (by assumption) (by omega)) rfl ?_)|(show SW _ _ _ _ (⟨_,Op.call ⟨.builtin .len,_,_⟩,_,_,_,none⟩::_) _ _;refine SW.st (st_len rfl) rfl ?_)|(show SW _ _ _ _ (⟨_,Op.load _ _,_,_,_,none⟩::_) _ _;refine SW.st (st_loadx hw rfl hc) rfl ?_))
   refine Post.again (k+1,A1,c1) ⟨by rw [e];rfl,rfl,rfl,rfl,trivial⟩ (by simp only;omega) ⟨by simp only;omega,hw,by simp only;rw [e];exact hO⟩
  ·by_cases hq : 0<k∧p (k-1)=true
   ·obtain ⟨init,r,hr,hre⟩:=hok.last hq.1 hq.2
    have e:runs p (k+1)=init++[⟨r.From,r.Size+1⟩]:=by simp [runs,hbk,hq,hr,bump_concat]
    have hrr:=hok.rng r (by rw [hr];simp)
    have hrok:r.ok:=⟨hrr.1,hrr.2.1,by omega,by omega⟩
    rw [hr] at hO hlen ⊢
    have hil:(init++[r]).length=init.length+1:=by simp
    rw [hil] at hO hlen
    rw [hil]
    have hA1:=hO.sl.base
    have hget:(init++[r])[init.length]'(by simp)=r:=by simp
    have hall:=hO.sl.all (i:=init.length) (by omega)
    rw [hget] at hall
    have hsh:(init++[r]).set init.length ⟨r.From,r.Size+1⟩=init++[⟨r.From,r.Size+1⟩]:=by simp
    refine CW.seq ?_
    repeat' (first|(first|refine CW.seq ?_|refine CW.region ?_|refine CW.block ?_|refine CW.condd_t rfl (by omega) ?_|refine CW.condf rfl ?_|refine CW.skip ?_)|(refine Post.seq ?_)|refine SW.nil ?_|(show SW _ _ _ _ (⟨_,_,_,_,_,some _⟩::_) _ _;first|refine SW.want_t rfl rfl (by with_reducible rfl) ?_|refine SW.splitd_t rfl rfl rfl (by omega) ?_)|refine SW.pure rfl rfl ?_|(show SW _ _ _ _ (⟨_,Op.binOp _ _ _ _ _,_,_,_,none⟩::_) _ _;refine SW.st (st_sub rfl rfl (by omega) (by omega)) rfl ?_)|(show SW _ _ _ _ (⟨_,Op.indexAddr _ _ _,_,_,_,none⟩::_) _ _;first|refine SW.st (st_indexN rfl rfl (by assumption) (by omega)) rfl ?_|refine SW.st (st_indexI (init.length) rfl rfl (by assumption) (by omega) (by omega)) rfl ?_)|(show SW _ _ _ _ (⟨_,Op.call ⟨.builtin .len,_,_⟩,_,_,_,none⟩::_) _ _;refine SW.st (st_len rfl) rfl ?_)|(show SW _ _ _ _ (⟨_,Op.load _ _,_,_,_,none⟩::_) _ _;refine SW.st (st_loadx hw rfl hc) rfl ?_))
    refine SW.st (st_loads rfl rfl hall) rfl ?_
    repeat' (first|(first|refine CW.region ?_|refine CW.condd_t rfl (by omega) ?_)|(refine Post.seq ?_)|refine SW.nil ?_|(show SW _ _ _ _ (⟨_,_,_,_,_,some _⟩::_) _ _;refine SW.want_t rfl rfl (by with_reducible rfl) ?_)|refine SW.pure rfl rfl ?_|(show SW _ _ _ _ (⟨_,Op.fieldAddr _ _ _,_,_,_,none⟩::_) _ _;refine SW.st (st_field rfl) rfl ?_)|(show SW _ _ _ _ (⟨_,Op.indexAddr _ _ _,_,_,_,none⟩::_) _ _;refine SW.st (st_indexI (init.length) rfl rfl (by assumption) (by omega) (by omega)) rfl ?_)|(show SW _ _ _ _ (⟨_,Op.call ⟨.value (.func _),_,_⟩,_,_,_,none⟩::_) _ _;(refine SW.call rfl rfl (end_ok hrok _) ?_;intro v w1 hw1 hv;subst hv;replace hw:=Ext.trans hw hw1;replace hO:=hO.ext hw1;clear hw1)))
    have hall:=hO.sl.all (i:=init.length) (by omega)
    rw [hget] at hall
    refine SW.st (st_load rfl (hall 1 (.int .i64 r.Size) rfl)) rfl ?_
    repeat' (first|(show SW _ _ _ _ (⟨_,Op.fieldAddr _ _ _,_,_,_,none⟩::_) _ _;refine SW.st (st_field rfl) rfl ?_)|(show SW _ _ _ _ (⟨_,Op.binOp _ _ _ _ _,_,_,_,none⟩::_) _ _;refine SW.st (st_add rfl rfl (by omega) (by omega)) rfl ?_)|(show SW _ _ _ _ (⟨_,Op.indexAddr _ _ _,_,_,_,none⟩::_) _ _;refine SW.st (st_indexI (init.length) rfl rfl (by assumption) (by omega) (by omega)) rfl ?_))
    refine SW.storeO init.length 1 ⟨r.From,r.Size+1⟩ hO rfl rfl rfl (by omega) (by omega) rfl (by rw [hget];rfl) fun w2 hO2 hg => ?_
    replace hw:=ext_grown hw hg (Nat.le_refl _) hO.row_ge
    repeat' (first|(refine CW.region ?_)|(first|refine Post.seq ?_|refine Post.blk ?_)|refine SW.nil ?_|refine SW.pure rfl rfl ?_|(show SW _ _ _ _ (⟨_,Op.binOp _ _ _ _ _,_,_,_,none⟩::_) _ _;refine SW.st (st_add rfl rfl (by omega) (by omega)) rfl ?_))
    refine Post.again (k+1,A1,c1) ⟨by simp only [e];simp [get];rfl,rfl,rfl,rfl,trivial⟩ (by simp only;omega) ⟨by simp only;omega,hw,?_⟩
    simp only [e]
    rw [hsh] at hO2
    simpa using hO2
   ·have e:runs p (k+1)=runs p k++[⟨(k:Int),1⟩]:=by
     simp only [runs,hbk,if_true]
     rw [if_neg hq]
    have hbl:∀ r∈runs p k,r.From+r.Size<(k:Int):=hok.below fun h0=>by
     cases hh:p (k-1) with
     | false=>rfl
     | true=>exact absurd ⟨h0,hh⟩ hq
    have hA1:=hO.sl.base
    rcases List.eq_nil_or_concat (runs p k) with hn|⟨init,r,hr⟩
    ·rw [hn] at hO hlen e ⊢
     simp only [List.length_nil]
     repeat' (first|(first|refine CW.seq ?_|refine CW.region ?_|refine CW.block ?_|refine CW.condfr rfl (by with_reducible rfl) ?_|refine CW.condd_t rfl (by omega) ?_|refine CW.condf rfl ?_|refine CW.skip ?_)|(refine Post.seq ?_)|refine SW.nil ?_|(show SW _ _ _ _ (⟨_,_,_,_,_,some _⟩::_) _ _;first|refine SW.skip_t rfl rfl (by with_reducible rfl) rfl ?_|refine SW.splitd_f rfl rfl rfl (by omega) ?_)|refine SW.pure rfl rfl ?_|(show SW _ _ _ _ (⟨_,Op.build _ _,_,_,_,none⟩::_) _ _;refine SW.st (st_build rfl rfl) rfl ?_)|(show SW _ _ _ _ (⟨_,Op.binOp _ _ _ _ _,_,_,_,none⟩::_) _ _;refine SW.st (st_sub rfl rfl (by omega) (by omega)) rfl ?_)|(show SW _ _ _ _ (⟨_,Op.indexAddr _ _ _,_,_,_,none⟩::_) _ _;refine SW.st (st_indexN rfl rfl (by assumption) (by omega)) rfl ?_)|(show SW _ _ _ _ (⟨_,Op.call ⟨.builtin .len,_,_⟩,_,_,_,none⟩::_) _ _;refine SW.st (st_len rfl) rfl ?_)|(show SW _ _ _ _ (⟨_,Op.load _ _,_,_,_,none⟩::_) _ _;refine SW.st (st_loadx hw rfl hc) rfl ?_))
     refine SW.build1 rfl rfl rfl rfl rfl fun b w1 hw1 hb hB => ?_
     replace hw:=Ext.trans hw hw1
     replace hO:=hO.ext hw1
     refine SW.append hO (Blk.slR (r:=⟨(k:Int),1⟩) hB rfl) hw.size rfl rfl rfl (by simp) (by simp) fun A2 c2 w2 hO1 hg => ?_
     replace hw:=ext_grown hw hg (Nat.le_refl _) hO.row_ge
     repeat' (first|(refine CW.region ?_)|(first|refine Post.seq ?_|refine Post.blk ?_)|refine SW.nil ?_|refine SW.pure rfl rfl ?_|(show SW _ _ _ _ (⟨_,Op.binOp _ _ _ _ _,_,_,_,none⟩::_) _ _;refine SW.st (st_add rfl rfl (by omega) (by omega)) rfl ?_))
     refine Post.again (k+1,A2,c2) ⟨by simp only [e];rfl,rfl,rfl,rfl,trivial⟩ (by simp only;omega) ⟨by simp only;omega,hw,?_⟩
     simp only [e]
     exact hO1
    ·have hr':runs p k=init++[r]:=by simpa using hr
     have hrr:=hok.rng r (by rw [hr'];simp)
     have hrok:r.ok:=⟨hrr.1,hrr.2.1,by omega,by omega⟩
     have hrl:=hbl r (by rw [hr'];simp)
     rw [hr'] at hO hlen e ⊢
     have hil:(init++[r]).length=init.length+1:=by simp
     rw [hil] at hO hlen
     rw [hil]
     have hA1:=hO.sl.base
     have hget:(init++[r])[init.length]'(by simp)=r:=by simp
     have hall:=hO.sl.all (i:=init.length) (by omega)
     rw [hget] at hall
     repeat' (first|(first|refine CW.seq ?_|refine CW.region ?_|refine CW.block ?_|refine CW.condd_t rfl (by omega) ?_|refine CW.condf rfl ?_|refine CW.skip ?_)|(refine Post.seq ?_)|refine SW.nil ?_|(show SW _ _ _ _ (⟨_,_,_,_,_,some _⟩::_) _ _;first|refine SW.want_t rfl rfl (by with_reducible rfl) ?_|refine SW.splitd_t rfl rfl rfl (by omega) ?_)|refine SW.pure rfl rfl ?_|(show SW _ _ _ _ (⟨_,Op.binOp _ _ _ _ _,_,_,_,none⟩::_) _ _;refine SW.st (st_sub rfl rfl (by omega) (by omega)) rfl ?_)|(show SW _ _ _ _ (⟨_,Op.indexAddr _ _ _,_,_,_,none⟩::_) _ _;first|refine SW.st (st_indexN rfl rfl (by assumption) (by omega)) rfl ?_|refine SW.st (st_indexI (init.length) rfl rfl (by assumption) (by omega) (by omega)) rfl ?_)|(show SW _ _ _ _ (⟨_,Op.call ⟨.builtin .len,_,_⟩,_,_,_,none⟩::_) _ _;refine SW.st (st_len rfl) rfl ?_)|(show SW _ _ _ _ (⟨_,Op.load _ _,_,_,_,none⟩::_) _ _;refine SW.st (st_loadx hw rfl hc) rfl ?_))
     refine SW.st (st_loads rfl rfl hall) rfl ?_
     repeat' (first|(first|refine CW.region ?_|refine CW.condd_f rfl (by omega) ?_)|(refine Post.seq ?_)|refine SW.nil ?_|(show SW _ _ _ _ (⟨_,_,_,_,_,some _⟩::_) _ _;refine SW.want_t rfl rfl (by with_reducible rfl) ?_)|refine SW.pure rfl rfl ?_|(show SW _ _ _ _ (⟨_,Op.build _ _,_,_,_,none⟩::_) _ _;refine SW.st (st_build rfl rfl) rfl ?_)|(show SW _ _ _ _ (⟨_,Op.call ⟨.value (.func _),_,_⟩,_,_,_,none⟩::_) _ _;(refine SW.call rfl rfl (end_ok hrok _) ?_;intro v w1 hw1 hv;subst hv;replace hw:=Ext.trans hw hw1;replace hO:=hO.ext hw1;clear hw1)))
     refine SW.build1 rfl rfl rfl rfl rfl fun b w1 hw1 hb hB => ?_
     replace hw:=Ext.trans hw hw1
     replace hO:=hO.ext hw1
     refine SW.append hO (Blk.slR (r:=⟨(k:Int),1⟩) hB rfl) hw.size rfl rfl rfl (by omega) (by omega) fun A2 c2 w2 hO1 hg => ?_
     replace hw:=ext_grown hw hg (Nat.le_refl _) hO.row_ge
     repeat' (first|(refine CW.region ?_)|(first|refine Post.seq ?_|refine Post.blk ?_)|refine SW.nil ?_|refine SW.pure rfl rfl ?_|(show SW _ _ _ _ (⟨_,Op.binOp _ _ _ _ _,_,_,_,none⟩::_) _ _;refine SW.st (st_add rfl rfl (by omega) (by omega)) rfl ?_))
     refine Post.again (k+1,A2,c2) ⟨by simp only [e];simp [get];rfl,rfl,rfl,rfl,trivial⟩ (by simp only;omega) ⟨by simp only;omega,hw,?_⟩
     simp only [e]
     simpa using hO1
 ·repeat' (first|(first|refine CW.seq ?_|refine CW.region ?_|refine CW.condd_f rfl (by omega) ?_|refine CW.ret ?_|refine CW.exit ?_)|(first|refine Post.seq ?_|refine Post.seq_exit ?_|refine Post.hit ?_|refine Post.again_exit ?_)|refine SW.nil ?_|refine SW.pure rfl rfl ?_)
  obtain rfl:k=N:=by omega
  exact Post.ret1 rfl rfl ⟨_,rfl,hw,A1,c1,rfl,hO⟩
open Go.RowKit
theorem inRegions_ans (A:Option Addr) (n c:Nat) (l:List Region) (x:Int) (w:World) (hl:Sl w 2 encR A n l) (hok:∀ r∈l,r.ok) (hn:n≤9223372036854775807) :
 Ans Tryz.prog 146 [.slice A n c,.int .i64 x] w fun v _=>v = .bool (inReg l x):=by
 refine ans_of Tryz.func146 rfl Tryz.ntmps146 rfl ?_
 have hw:=Ext.refl w
 have hA:=hl.base
 repeat' (first|(first|refine CW.seq ?_|refine CW.region ?_|refine CW.block ?_)|(refine Post.seq ?_)|refine SW.nil ?_|refine SW.pure rfl rfl ?_)
 refine CW.loop (fun k:Nat=>[(0,.slice A n c),(1,.int .i64 x),(5,.int .i64 (k:Int))]) (fun k w'=>k≤n∧Ext w w'∧inReg (l.take k) x=false) (fun k=>n-k) 0 ⟨rfl,rfl,rfl,trivial⟩ ⟨by omega,hw,rfl⟩ ?_
 clear hw
 rintro k w' ⟨hk,hw,hI⟩
 by_cases hkn:k<n
 ·have hkl:=hl.lt hkn
  have hrok:=hok (l[k]) (List.getElem_mem hkl)
  have h1:=hrok.1
  have h2:=hrok.2.1
  have h3:=hrok.2.2.2
  have h0:=hl.fld hkn (j:=0) (u := .int .i64 (l[k]).From) rfl
  have h4:=hl.fld hkn (j:=1) (u := .int .i64 (l[k]).Size) rfl
  have et:=inReg_take hkl x
  repeat' (first|(first|refine CW.seq ?_|refine CW.region ?_|refine CW.block ?_|refine CW.condd_t rfl (by omega) ?_|refine CW.condd rfl (fun h => ?_) (fun h => ?_)|refine CW.skip ?_|refine CW.ret ?_|(apply CW.quiet1 mixed;(· kernel_rfl);rotate_left;intro w1 hw1;replace hw:=Ext.trans hw hw1;clear hw1;rotate_right))|(first|refine Post.seq ?_|refine Post.seq_ret ?_|refine Post.blk ?_|refine Post.blk_ret ?_|refine Post.again_ret ?_)|refine SW.nil ?_|refine SW.pure rfl rfl ?_|(show SW _ _ _ _ (⟨_,Op.fieldAddr _ _ _,_,_,_,none⟩::_) _ _;refine SW.st (st_field rfl) rfl ?_)|(show SW _ _ _ _ (⟨_,Op.binOp _ _ _ _ _,_,_,_,none⟩::_) _ _;first|refine SW.st (st_add rfl rfl (by omega) (by omega)) rfl ?_|refine SW.st (st_sub rfl rfl (by omega) (by omega)) rfl ?_)|(show SW _ _ _ _ (⟨_,Op.indexAddr _ _ _,_,_,_,none⟩::_) _ _;refine SW.st (st_indexN rfl rfl (by assumption) (by omega)) rfl ?_)|(show SW _ _ _ _ (⟨_,Op.call ⟨.builtin .len,_,_⟩,_,_,_,none⟩::_) _ _;refine SW.st (st_len rfl) rfl ?_)|(show SW _ _ _ _ (⟨_,Op.load _ _,_,_,_,none⟩::_) _ _;first|refine SW.st (st_loadx hw rfl h0) rfl ?_|refine SW.st (st_loadx hw rfl h4) rfl ?_)|(show SW _ _ _ _ (⟨_,Op.call ⟨.value (.func _),_,_⟩,_,_,_,none⟩::_) _ _;refine SW.qcall rfl rfl (fun w1 hw1=>(In_ans _ _ _ _)) ?_)|exact SW.qnil rfl)
  ·refine Post.ret1 rfl rfl ⟨_,rfl,hw,?_⟩
   congr 1
   symm
   unfold inReg
   rw [List.any_eq_true]
   exact ⟨l[k],List.getElem_mem hkl,by simp;omega⟩
  ·refine Post.again (k+1) ⟨rfl,rfl,rfl,trivial⟩ (by omega) ⟨by omega,hw,?_⟩
   rw [et,hI,Bool.false_or]
   by_cases hh:(l[k]).From≤x
   ·have : ¬ x<(l[k]).From+(l[k]).Size:=by omega
    simp [this]
   ·simp [hh]
 ·repeat' (first|(first|refine CW.seq ?_|refine CW.region ?_|refine CW.condd_f rfl (by omega) ?_|refine CW.ret ?_|refine CW.exit ?_)|(first|refine Post.seq ?_|refine Post.seq_exit ?_|refine Post.hit ?_|refine Post.again_exit ?_)|refine SW.nil ?_|refine SW.pure rfl rfl ?_|(show SW _ _ _ _ (⟨_,Op.call ⟨.builtin .len,_,_⟩,_,_,_,none⟩::_) _ _;refine SW.st (st_len rfl) rfl ?_))
  refine Post.ret1 rfl rfl ⟨_,rfl,hw,?_⟩
  rw [List.take_of_length_le (by have:=hl.len;omega)] at hI
  rw [hI]
theorem drawn_ans (g:FuncId) (cap:List Value) (N:Nat) (hN:N=256) (p:Nat→Bool) (w:World) [Body Tryz.prog g]
 (hF:∀ (z:Int) (w':World),0≤z→z<256→Ext w w'→Ans Tryz.prog g ([.int .i64 z]++cap) w' fun u _=>u = .bool (p z.toNat)) :
 Ans Tryz.prog 144 [.func (.func g) #[] cap.toArray] w (RegsOut w.heap.size (runs p N)):=by
 refine ans_of Tryz.func144 rfl Tryz.ntmps144 rfl ?_
 have hw:=Ext.refl w
 repeat' (first|(first|refine CW.seq ?_|refine CW.region ?_|refine CW.block ?_)|(refine Post.seq ?_)|refine SW.nil ?_|refine SW.pure rfl rfl ?_)
 refine CW.loop (fun s:Nat×Option Addr×Nat=>[(0,.func (.func g) #[] cap.toArray),(3,.slice s.2.1 (runs p s.1).length s.2.2),(4,.int .i64 (s.1:Int))])
  (fun s w'=>s.1≤N∧Ext w w'∧Own w' w.heap.size 123 2 encR s.2.1 (runs p s.1).length s.2.2 (runs p s.1)) (fun s=>N-s.1) (0,none,0) ⟨rfl,rfl,rfl,trivial⟩ ⟨by omega,hw,Own.nil_ _ _ _ _ _ _⟩ ?_
 clear hw
 rintro ⟨k,A1,c1⟩ w' ⟨hk,hw,hO⟩
 simp only at hk hO ⊢
 have hok:=runs_ok p k
 have hlen:=hok.len
 by_cases hkn:k<N
 ·obtain ⟨bk,hbk⟩ : ∃ b,p k=b:=⟨_,rfl⟩
  have f1:∀ w',Ext w w'→Ans Tryz.prog g ([.int .i64 (k:Int)]++cap) w' fun u _=>u = .bool bk:=fun w' h=>by
   have:=hF (k:Int) w' (by omega) (by omega) h
   rwa [Int.toNat_natCast,hbk] at this
  cases bk
  ·have e:runs p (k+1)=runs p k:=by simp [runs,hbk]
   repeat' (first|(first|refine CW.seq ?_|refine CW.region ?_|refine CW.block ?_|refine CW.condd_t rfl (by omega) ?_|refine CW.condt rfl ?_|refine CW.skip ?_|refine CW.exit ?_)|(first|refine Post.seq ?_|refine Post.seq_exit ?_|refine Post.hit ?_)|refine SW.nil ?_|refine SW.pure rfl rfl ?_|(show SW _ _ _ _ (⟨_,Op.binOp _ _ _ _ _,_,_,_,none⟩::_) _ _;refine SW.st (st_add rfl rfl (by omega) (by omega)) rfl ?_)|(refine SW.callv rfl rfl rfl (f1 _ hw) ?_;intro v w1 hw1 hv;subst hv;replace hw:=Ext.trans hw hw1;replace hO:=hO.ext hw1;clear hw1))
   refine Post.again (k+1,A1,c1) ⟨rfl,by simp only [e];rfl,rfl,trivial⟩ (by simp only;omega) ⟨by simp only;omega,hw,by simp only;rw [e];exact hO⟩
  ·by_cases hq : 0<k∧p (k-1)=true
   ·obtain ⟨init,r,hr,hre⟩:=hok.last hq.1 hq.2
    have e:runs p (k+1)=init++[⟨r.From,r.Size+1⟩]:=by simp [runs,hbk,hq,hr,bump_concat]
    have hrr:=hok.rng r (by rw [hr];simp)
    have f2:∀ w',Ext w w'→Ans Tryz.prog g ([.int .i64 ((k:Int)-1)]++cap) w' fun u _=>u = .bool true:=fun w' h=>by
     have:=hF ((k:Int)-1) w' (by omega) (by omega) h
     rwa [show ((k:Int)-1).toNat=k-1 by omega,hq.2] at this
    have hq1:=hq.1
    rw [hr] at hO hlen ⊢
    have hil:(init++[r]).length=init.length+1:=by simp
    rw [hil] at hO hlen
    rw [hil]
    have hA1:=hO.sl.base
    have hget:(init++[r])[init.length]'(by simp)=r:=by simp
    have hsh:(init++[r]).set init.length ⟨r.From,r.Size+1⟩=init++[⟨r.From,r.Size+1⟩]:=by simp
    repeat' (first|(first|refine CW.seq ?_|refine CW.region ?_|refine CW.block ?_|refine CW.condtr rfl (by with_reducible rfl) ?_|refine CW.condd_t rfl (by omega) ?_|refine CW.condf rfl ?_|refine CW.skip ?_)|(refine Post.seq ?_)|refine SW.nil ?_|(show SW _ _ _ _ (⟨_,_,_,_,_,some _⟩::_) _ _;first|refine SW.want_t rfl rfl (by with_reducible rfl) ?_|refine SW.splitd_t rfl rfl rfl (by omega) ?_)|refine SW.pure rfl rfl ?_|(show SW _ _ _ _ (⟨_,Op.fieldAddr _ _ _,_,_,_,none⟩::_) _ _;refine SW.st (st_field rfl) rfl ?_)|(show SW _ _ _ _ (⟨_,Op.binOp _ _ _ _ _,_,_,_,none⟩::_) _ _;refine SW.st (st_sub rfl rfl (by omega) (by omega)) rfl ?_)|(show SW _ _ _ _ (⟨_,Op.indexAddr _ _ _,_,_,_,none⟩::_) _ _;refine SW.st (st_indexI (init.length) rfl rfl (by assumption) (by omega) (by omega)) rfl ?_)|(show SW _ _ _ _ (⟨_,Op.call ⟨.builtin .len,_,_⟩,_,_,_,none⟩::_) _ _;refine SW.st (st_len rfl) rfl ?_)|(refine SW.callv rfl rfl rfl (f1 _ hw) ?_;intro v w1 hw1 hv;subst hv;replace hw:=Ext.trans hw hw1;replace hO:=hO.ext hw1;clear hw1)|(refine SW.callv rfl rfl rfl (f2 _ hw) ?_;intro v w1 hw1 hv;subst hv;replace hw:=Ext.trans hw hw1;replace hO:=hO.ext hw1;clear hw1))
    have hall:=hO.sl.all (i:=init.length) (by omega)
    rw [hget] at hall
    refine SW.st (st_load rfl (hall 1 (.int .i64 r.Size) rfl)) rfl ?_
    repeat' (first|(show SW _ _ _ _ (⟨_,Op.fieldAddr _ _ _,_,_,_,none⟩::_) _ _;refine SW.st (st_field rfl) rfl ?_)|(show SW _ _ _ _ (⟨_,Op.binOp _ _ _ _ _,_,_,_,none⟩::_) _ _;refine SW.st (st_add rfl rfl (by omega) (by omega)) rfl ?_)|(show SW _ _ _ _ (⟨_,Op.indexAddr _ _ _,_,_,_,none⟩::_) _ _;refine SW.st (st_indexI (init.length) rfl rfl (by assumption) (by omega) (by omega)) rfl ?_))
    refine SW.storeO init.length 1 ⟨r.From,r.Size+1⟩ hO rfl rfl rfl (by omega) (by omega) rfl (by rw [hget];rfl) fun w2 hO2 hg => ?_
    replace hw:=ext_grown hw hg (Nat.le_refl _) hO.row_ge
    repeat' (first|(refine CW.region ?_)|(first|refine Post.seq ?_|refine Post.blk ?_)|refine SW.nil ?_|refine SW.pure rfl rfl ?_|(show SW _ _ _ _ (⟨_,Op.binOp _ _ _ _ _,_,_,_,none⟩::_) _ _;refine SW.st (st_add rfl rfl (by omega) (by omega)) rfl ?_))
    refine Post.again (k+1,A1,c1) ⟨rfl,by simp only [e];simp [get];rfl,rfl,trivial⟩ (by simp only;omega) ⟨by simp only;omega,hw,?_⟩
    simp only [e]
    rw [hsh] at hO2
    simpa using hO2
   ·have e:runs p (k+1)=runs p k++[⟨(k:Int),1⟩]:=by
     simp only [runs,hbk,if_true]
     rw [if_neg hq]
    by_cases hk0:k=0
    all_goals
     have f2 : 0<k → ∀ w',Ext w w'→Ans Tryz.prog g ([.int .i64 ((k:Int)-1)]++cap) w' fun u _=>u = .bool false:=fun h0 w' h=>by
      have:=hF ((k:Int)-1) w' (by omega) (by omega) h
      have hp:p (k-1)=false:=by
       cases hh:p (k-1) with
       | false=>rfl
       | true=>exact absurd ⟨h0,hh⟩ hq
      rwa [show ((k:Int)-1).toNat=k-1 by omega,hp] at this
     repeat' (first|(first|refine CW.seq ?_|refine CW.region ?_|refine CW.block ?_|refine CW.condfr rfl (by with_reducible rfl) ?_|refine CW.condd_t rfl (by omega) ?_|refine CW.condf rfl ?_|refine CW.skip ?_)|(refine Post.seq ?_)|refine SW.nil ?_|(show SW _ _ _ _ (⟨_,_,_,_,_,some _⟩::_) _ _;first|refine SW.want_t rfl rfl (by with_reducible rfl) ?_|refine SW.skip_t rfl rfl (by with_reducible rfl) rfl ?_|refine SW.splitd_t rfl rfl rfl (by omega) ?_|refine SW.splitd_f rfl rfl rfl (by omega) ?_)|refine SW.pure rfl rfl ?_|(show SW _ _ _ _ (⟨_,Op.build _ _,_,_,_,none⟩::_) _ _;refine SW.st (st_build rfl rfl) rfl ?_)|(show SW _ _ _ _ (⟨_,Op.binOp _ _ _ _ _,_,_,_,none⟩::_) _ _;refine SW.st (st_sub rfl rfl (by omega) (by omega)) rfl ?_)|(refine SW.callv rfl rfl rfl (f1 _ hw) ?_;intro v w1 hw1 hv;subst hv;replace hw:=Ext.trans hw hw1;replace hO:=hO.ext hw1;clear hw1)|(refine SW.callv rfl rfl rfl (f2 (by omega) _ hw) ?_;intro v w1 hw1 hv;subst hv;replace hw:=Ext.trans hw hw1;replace hO:=hO.ext hw1;clear hw1))
     refine SW.build1 rfl rfl rfl rfl rfl fun b w1 hw1 hb hB => ?_
     replace hw:=Ext.trans hw hw1
     replace hO:=hO.ext hw1
     refine SW.append hO (Blk.slR (r:=⟨(k:Int),1⟩) hB rfl) hw.size rfl rfl rfl (by omega) (by omega) fun A2 c2 w2 hO1 hg => ?_
     replace hw:=ext_grown hw hg (Nat.le_refl _) hO.row_ge
     repeat' (first|(refine CW.region ?_)|(first|refine Post.seq ?_|refine Post.blk ?_)|refine SW.nil ?_|refine SW.pure rfl rfl ?_|(show SW _ _ _ _ (⟨_,Op.binOp _ _ _ _ _,_,_,_,none⟩::_) _ _;refine SW.st (st_add rfl rfl (by omega) (by omega)) rfl ?_))
     refine Post.again (k+1,A2,c2) ⟨rfl,by simp only [e];simp [get];rfl,rfl,trivial⟩ (by simp only;omega) ⟨by simp only;omega,hw,?_⟩
     simp only [e]
     simpa using hO1
 ·repeat' (first|(first|refine CW.seq ?_|refine CW.region ?_|refine CW.condd_f rfl (by omega) ?_|refine CW.ret ?_|refine CW.exit ?_)|(first|refine Post.seq ?_|refine Post.seq_exit ?_|refine Post.hit ?_|refine Post.again_exit ?_)|refine SW.nil ?_|refine SW.pure rfl rfl ?_)
  obtain rfl:k=N:=by omega
  exact Post.ret1 rfl rfl ⟨_,rfl,hw,A1,c1,rfl,hO⟩
open Go.RowKit
theorem Own.ne_new {α β : Type} {w w':World} {lo lo':Nat} {e e':TypeId} {sz sz':Nat} {enc : α → List Value} {enc' : β → List Value} {A B:Option Addr} {m c k d:Nat} {l:List α} {l':List β}
 (hO:Own w lo e sz enc A m c l) (hS:Own w' lo' e' sz' enc' B k d l') (hle:w.heap.size≤lo') : (ownB A c=none∨ownB A c≠ownB B d)∧(ownB B d=none∨ownB B d≠ownB A c):=by
 rcases hO.row with ⟨_,rfl⟩|⟨hc,g,cur,rfl,_,h2,_⟩
 ·refine ⟨.inl (by simp [ownB]),?_⟩
  rcases hS.row with ⟨_,rfl⟩|⟨hd,g',cur',rfl,_,h2',_⟩
  ·exact .inl (by simp [ownB])
  ·exact .inr (by simp [ownB,Nat.pos_iff_ne_zero.1 hd])
 ·have hg:g<w.heap.size:=(Array.getElem?_eq_some_iff.1 h2).1
  rcases hS.row with ⟨_,rfl⟩|⟨hd,g',cur',rfl,hlo,h2',_⟩
  ·exact ⟨.inr (by simp [ownB,Nat.pos_iff_ne_zero.1 hc]),.inl (by simp [ownB])⟩
  ·have hne:g≠g':=by omega
   exact ⟨.inr (by simp [ownB,Nat.pos_iff_ne_zero.1 hc,Nat.pos_iff_ne_zero.1 hd,hne]),.inr (by simp [ownB,Nat.pos_iff_ne_zero.1 hc,Nat.pos_iff_ne_zero.1 hd,hne.symm])⟩
def freeP (x y:List Region) (i:Nat) : Bool:=inReg x i && !inReg y i
theorem bootB_ok {x y:List Region} (h:bootB x y=true) : (∀ r∈x,r.ok)∧(∀ r∈y,r.ok):=by
 simp only [bootB,Bool.and_eq_true,regionsB_iff] at h
 have key:∀ l:List Region,regionsOk l → ∀ r∈l,r.ok:=fun l hl r hr=>by
  obtain ⟨i,hi,rfl⟩:=List.getElem_of_mem hr
  exact (hl.2 i hi).1
 exact ⟨key x h.1,key y h.2⟩
noncomputable def rangesV (N:Nat) (x y:List Region) : Int×List Region:=if bootB x y then (0,runs (freeP x y) N) else (8,[])
def RangesOut (lo:Nat) (r:Int×List Region) (v:Value) (w:World) : Prop := ∃ A c,v = .tuple #[.slice A r.2.length c,.int .i64 r.1]∧Own w lo 123 2 encR A r.2.length c r.2
theorem rangesV_t {N:Nat} {x y:List Region} (h:bootB x y=true) : rangesV N x y=(0,runs (freeP x y) N):=by simp [rangesV,h]
theorem rangesV_f {N:Nat} {x y:List Region} (h:bootB x y=false) : rangesV N x y=(8,[]):=by simp [rangesV,h]
theorem Ranges_ans (A:Option Addr) (n c:Nat) (B:Option Addr) (m d:Nat) (x y:List Region) (N:Nat) (hN:N=256) (w:World) (hx:Sl w 2 encR A n x) (hy:Sl w 2 encR B m y) (hn:n≤9223372036854775807) (hm:m≤9223372036854775807) :
 Ans Tryz.prog 55 [.agg (bootCells A n c B m d).toArray] w (RangesOut w.heap.size (rangesV N x y)):=by
 refine ans_of Tryz.func55 rfl Tryz.ntmps55 rfl ?_
 refine CW.seq (CW.region (SW.box rfl rfl fun b w1 hw hb hB => ?_))
 obtain ⟨q,hq⟩ : ∃ b,bootB x y=b:=⟨_,rfl⟩
 have c1:∀ w',Ext w w'→Ans Tryz.prog 131 [.agg (bootCells A n c B m d).toArray] w' fun v _=>v = .int .i64 (if q then 0 else 8):=fun w' h=>by have:=Check_ans A n c B m d x y w' (hx.ext h) (hy.ext h) hn hm;rwa [hq] at this
 cases q
 ·simp only [Bool.false_eq_true,if_false] at c1
  rw [rangesV_f hq]
  repeat' (first|(first|refine CW.seq ?_|refine CW.region ?_|refine CW.condn_t rfl (by omega) ?_|refine CW.ret ?_)|(first|refine Post.seq ?_|refine Post.seq_ret ?_)|refine SW.nil ?_|refine SW.pure rfl rfl ?_|(show SW _ _ _ _ (⟨_,Op.load _ _,_,_,_,none⟩::_) _ _;refine SW.st (st_loads rfl rfl ((fun _ _=>hB.cell))) rfl ?_)|(show SW _ _ _ _ (⟨_,Op.call ⟨.value (.func _),_,_⟩,_,_,_,none⟩::_) _ _;(refine SW.call rfl rfl (c1 _ hw) ?_;intro v w1 hw1 hv;subst hv;replace hw:=Ext.trans hw hw1;replace hB:=hB.ext hw1;clear hw1)))
  exact Post.ret2 rfl rfl rfl ⟨_,rfl,hw,none,0,rfl,Own.nil_ _ _ _ _ _ _⟩
 ·simp only [if_true] at c1
  rw [rangesV_t hq]
  obtain ⟨hxo,hyo⟩:=bootB_ok hq
  repeat' (first|(first|refine CW.seq ?_|refine CW.region ?_|refine CW.condn_f rfl (by omega) ?_|refine CW.skip ?_)|(refine Post.seq ?_)|refine SW.nil ?_|refine SW.pure rfl rfl ?_|(show SW _ _ _ _ (⟨_,Op.load _ _,_,_,_,none⟩::_) _ _;refine SW.st (st_loads rfl rfl ((fun _ _=>hB.cell))) rfl ?_)|(show SW _ _ _ _ (⟨_,Op.call ⟨.value (.func _),_,_⟩,_,_,_,none⟩::_) _ _;(refine SW.call rfl rfl (c1 _ hw) ?_;intro v w1 hw1 hv;subst hv;replace hw:=Ext.trans hw hw1;replace hB:=hB.ext hw1;clear hw1)))
  refine CW.cut (fun L' w' => ∃ M d1 M2 d2,subEnv L' [(5,.slice M 256 d1),(6,.slice M2 256 d2)]∧Ext w w'∧Own w' w.heap.size 4 1 encB M 256 d1 (marksOf (fun i=>inReg x i) 256)∧Own w' w.heap.size 4 1 encB M2 256 d2 (marksOf (fun i=>inReg y i) 256)∧(ownB M2 d2=none∨ownB M2 d2≠ownB M d1)) ?_ ?_
  ·refine CW.any 6 mixed (rb_tail (by kernel_rfl)) rfl fun w1 hw1 hRB => ?_
   replace hw:=Ext.trans hw hw1;replace hB:=hB.ext hw1;clear hw1
   refine SA.take 0 hRB rfl (by kernel_rfl) (by kernel_rfl) rfl ?_
   repeat ((show SW _ _ _ _ (⟨_,Op.fieldAddr _ _ _,_,_,_,none⟩::_) _ _;refine SW.st (st_field rfl) rfl ?_))
   refine SW.tknil ?_
   refine SA.take 1 hRB rfl (by kernel_rfl) (by kernel_rfl) rfl ?_
   repeat ((show SW _ _ _ _ (⟨_,Op.load _ _,_,_,_,none⟩::_) _ _;refine SW.st (st_load rfl (hB.cell rfl)) rfl ?_))
   refine SW.tknil ?_
   refine SA.take 3 hRB rfl (by kernel_rfl) (by kernel_rfl) rfl ?_
   repeat ((show SW _ _ _ _ (⟨_,Op.fieldAddr _ _ _,_,_,_,none⟩::_) _ _;refine SW.st (st_field rfl) rfl ?_))
   refine SW.tknil ?_
   refine SA.take 4 hRB rfl (by kernel_rfl) (by kernel_rfl) rfl ?_
   repeat ((show SW _ _ _ _ (⟨_,Op.load _ _,_,_,_,none⟩::_) _ _;refine SW.st (st_load rfl (hB.cell rfl)) rfl ?_))
   refine SW.tknil ?_
   refine SA.one 2 rfl (by kernel_rfl) rfl ?_
   refine SW.call rfl rfl (Bpages_ans _ _ _ _ _ (hx.ext hw) hxo hn) fun v w2 hXX hv => ?_
   obtain ⟨M,d1,rfl,hM⟩:=hv
   replace hM:=hM.low hw.size
   replace hw:=Ext.trans hw hXX
   replace hB:=hB.ext hXX
   refine SW.nil (Post.sa hXX ?_)
   refine SA.one 5 rfl (by kernel_rfl) rfl ?_
   refine SW.call rfl rfl (Bpages_ans _ _ _ _ _ (hy.ext hw) hyo hm) fun v w3 hXX hv => ?_
   obtain ⟨M2,d2,rfl,hM2⟩:=hv
   have hne:=(hM.ne_new hM2 (Nat.le_refl _)).2
   replace hM2:=hM2.low hw.size
   replace hM:=hM.ext hXX
   replace hw:=Ext.trans hw hXX
   replace hB:=hB.ext hXX
   refine SW.nil (Post.sa hXX ?_)
   refine SA.done (by kernel_rfl) ?_
   repeat' (first|(refine Post.np ?_)|refine SW.nil ?_|refine SW.pure rfl rfl ?_)
   exact Post.cut (K:=fun L' w' => ∃ M d1 M2 d2,subEnv L' [(5,.slice M 256 d1),(6,.slice M2 256 d2)]∧Ext w w'∧Own w' w.heap.size 4 1 encB M 256 d1 (marksOf (fun i=>inReg x i) 256)∧Own w' w.heap.size 4 1 encB M2 256 d2 (marksOf (fun i=>inReg y i) 256)∧(ownB M2 d2=none∨ownB M2 d2≠ownB M d1)) ⟨M,d1,M2,d2,⟨rfl,rfl,trivial⟩,hw,hM,hM2,hne⟩
  ·clear hB hw c1
   rintro L' w' ⟨M,d1,M2,d2,hs,hw,hM,hM2,hne⟩
   refine Post.sub hs ?_
   have hMb:=hM.sl.base
   have hMb2:=hM2.sl.base
   have e0:marksOf (fun i=>inReg x i) 256=marksOf (fun i=>if i<0 then freeP x y i else inReg x i) 256:=marksOf_congr fun i _=>by rw [if_neg (by omega)]
   rw [e0] at hM
   clear e0
   repeat' (first|(first|refine CW.seq ?_|refine CW.region ?_|refine CW.block ?_)|(refine Post.seq ?_)|refine SW.nil ?_|refine SW.pure rfl rfl ?_|(show SW _ _ _ _ (⟨_,Op.call ⟨.builtin .len,_,_⟩,_,_,_,none⟩::_) _ _;refine SW.st (st_len rfl) rfl ?_))
   refine CW.loop (fun k:Nat=>[(5,.slice M 256 d1),(6,.slice M2 256 d2),(20,.int .i64 256),(21,.int .i64 (k:Int))])
    (fun k w'=>k≤256∧Ext w w'∧Own w' w.heap.size 4 1 encB M 256 d1 (marksOf (fun i=>if i<k then freeP x y i else inReg x i) 256)∧Own w' w.heap.size 4 1 encB M2 256 d2 (marksOf (fun i=>inReg y i) 256)) (fun k=>256-k) 0 ⟨rfl,rfl,rfl,rfl,trivial⟩ ⟨by omega,hw,hM,hM2⟩ ?_
   clear hw hM hM2
   rintro k w' ⟨hk,hw,hM,hM2⟩
   by_cases hkn:k<256
   ·obtain ⟨bx,hbx⟩ : ∃ b,inReg x k=b:=⟨_,rfl⟩
    obtain ⟨bY,hby⟩ : ∃ b,inReg y k=b:=⟨_,rfl⟩
    have h1:w'.cell? ((M.getD default).add (k*1))=some (.bool bx):=hM.sl.one hkn (by rw [marksOf_get,if_neg (by omega),hbx];rfl)
    have h2:w'.cell? ((M2.getD default).add (k*1))=some (.bool bY):=hM2.sl.one hkn (by rw [marksOf_get,hby];rfl)
    have hf:freeP x y k=(bx && !bY):=by simp [freeP,hbx,hby]
    have e1:marksOf (fun i=>if i<k+1 then freeP x y i else inReg x i) 256=marksOf (fun i=>if i=k then (bx && !bY) else if i<k then freeP x y i else inReg x i) 256:=marksOf_congr fun i _=>by
     by_cases hi:i=k
     ·subst hi;rw [if_pos (by omega),if_pos rfl,hf]
     ·rw [if_neg hi]
      by_cases h2:i<k
      ·rw [if_pos (by omega),if_pos h2]
      ·rw [if_neg (by omega),if_neg h2]
    cases bx<;>cases bY
    all_goals
     repeat' (first|(first|refine CW.seq ?_|refine CW.region ?_|refine CW.block ?_|refine CW.condd_t rfl (by omega) ?_|refine CW.skip ?_)|(refine Post.seq ?_)|refine SW.nil ?_|(show SW _ _ _ _ (⟨_,_,_,_,_,some _⟩::_) _ _;first|refine SW.want_t rfl rfl (by with_reducible rfl) ?_|refine SW.skip_t rfl rfl (by with_reducible rfl) rfl ?_)|refine SW.pure rfl rfl ?_|(show SW _ _ _ _ (⟨_,Op.indexAddr _ _ _,_,_,_,none⟩::_) _ _;refine SW.st (st_indexN rfl rfl (by assumption) (by omega)) rfl ?_)|(show SW _ _ _ _ (⟨_,Op.load _ _,_,_,_,none⟩::_) _ _;first|refine SW.st (st_load rfl h1) rfl ?_|refine SW.st (st_load rfl h2) rfl ?_))
     first
      | refine SW.storeO k 0 true hM rfl rfl rfl hkn (by omega) (by rw [add_zero]) rfl fun w3 hO3 hg => ?_
      | refine SW.storeO k 0 false hM rfl rfl rfl hkn (by omega) (by rw [add_zero]) rfl fun w3 hO3 hg => ?_
     replace hw:=ext_grown hw hg (Nat.le_refl _) hM.row_ge
     replace hM2:=hM2.grown hg hne
     rw [marksOf_set] at hO3
     repeat' (first|(refine CW.region ?_)|(first|refine Post.seq ?_|refine Post.blk ?_)|refine SW.nil ?_|refine SW.pure rfl rfl ?_|(show SW _ _ _ _ (⟨_,Op.binOp _ _ _ _ _,_,_,_,none⟩::_) _ _;refine SW.st (st_add rfl rfl (by omega) (by omega)) rfl ?_))
     exact Post.again (k+1) ⟨rfl,rfl,rfl,rfl,trivial⟩ (by omega) ⟨by omega,hw,by rw [e1];exact hO3,hM2⟩
   ·have e:marksOf (fun i=>if i<k then freeP x y i else inReg x i) 256=marksOf (freeP x y) 256:=marksOf_congr fun i hi=>by rw [if_pos (by omega)]
    rw [e] at hM
    have hcall:∀ w',Sl w' 1 encB M 256 (marksOf (freeP x y) 256)→Ans Tryz.prog 133 [.slice M 256 d1] w' (RegsOut w'.heap.size (runs (freeP x y) N)):=fun w' h=>by
     have hO':Sl w' 1 encB M N (marksOf (freeP x y) N):=by rw [hN];exact h
     have h1:=Bregions_ans M d1 N hN (freeP x y) _ hO'
     rwa [show Value.slice M N d1 = .slice M 256 d1 by rw [hN]] at h1
    repeat' (first|(first|refine CW.seq ?_|refine CW.region ?_|refine CW.condd_f rfl (by omega) ?_|refine CW.exit ?_)|(first|refine Post.seq ?_|refine Post.seq_exit ?_|refine Post.hit ?_|refine Post.again_exit ?_)|refine SW.nil ?_|refine SW.pure rfl rfl ?_)
    refine SW.call rfl rfl (hcall _ hM.sl) fun v w3 hw3 hv => ?_
    obtain ⟨A2,c2,rfl,hO2⟩:=hv
    have hlo:=hw.size
    replace hw:=Ext.trans hw hw3
    repeat' (first|(refine CW.ret ?_)|(refine Post.seq ?_)|refine SW.nil ?_|refine SW.pure rfl rfl ?_)
    exact Post.ret2 rfl rfl rfl ⟨_,rfl,hw,A2,c2,rfl,hO2.low hlo⟩
open Go.RowKit
set_option maxHeartbeats 4000000 in
theorem Zgive_ans (r:ZRow) (z:Zone) (f s:Int) (w:World) (hr:RdZ w r z) (hf:(r.Free.n+1)*24≤140737488355328) (ht:r.Types.n*8≤140737488355328) (h1 : -9223372036854775808≤r.From∧r.From≤9223372036854775807) (h2 : -9223372036854775808≤r.To∧r.To≤9223372036854775807) :
 Ans Tryz.prog 135 [.agg (encZ r).toArray,.int .i64 f,.int .i64 s] w (ZoneOut w.heap.size (giveV z f s)):=by
 refine ans_of Tryz.func135 rfl Tryz.ntmps135 rfl ?_
 refine CW.seq (CW.region (SW.box rfl rfl fun b3 w1 hw hb3b hb3 => ?_))
 refine SW.alloc rfl fun b6 w2 hw2 hb6b hb6 => ?_
 have hb6w:w.heap.size≤b6:=Nat.le_trans hw.size hb6b
 have hne36:b3≠b6:=by have:=hb3.lt;omega
 (replace hw:=Ext.trans hw hw2;replace hb3:=hb3.ext hw2)
 have eF:=hr.from_
 have eT:=hr.to_
 have hFl:=hr.free.len
 have hTl:=hr.types.len
 obtain ⟨q,hq⟩ : ∃ q,zoneB z=q:=⟨_,rfl⟩
 have c1:∀ w',Ext w w'→Ans Tryz.prog 176 [.agg (encZ r).toArray] w' fun v _=>v = .int .i64 (if q then 0 else 8):=fun w' h=>by
  have:=Zcheck_ans r z w' (hr.ext h) (by omega) (by omega) h1 h2
  rwa [hq] at this
 cases q
 ·simp only [Bool.false_eq_true,if_false] at c1
  rw [giveV_8 hq]
  repeat' (first|(first|refine CW.seq ?_|refine CW.region ?_|refine CW.condn_t rfl (by omega) ?_)|(refine Post.seq ?_)|refine SW.nil ?_|refine SW.pure rfl rfl ?_|(show SW _ _ _ _ (⟨_,Op.build _ _,_,_,_,none⟩::_) _ _;refine SW.st (st_build rfl rfl) rfl ?_)|(show SW _ _ _ _ (⟨_,Op.load _ _,_,_,_,none⟩::_) _ _;refine SW.st (st_loads rfl rfl ((fun _ _=>hb3.cell))) rfl ?_)|(show SW _ _ _ _ (⟨_,Op.call ⟨.value (.func _),_,_⟩,_,_,_,none⟩::_) _ _;(refine SW.call rfl rfl (c1 _ hw) ?_;intro v w1 hw1 hv;subst hv;replace hw:=Ext.trans hw hw1;replace hb3:=hb3.ext hw1;replace hb6:=hb6.ext hw1;clear hw1)))
  refine SW.storeAgg hb6 rfl rfl rfl rfl (one_z .zero) fun w5 hR2 hg => ?_
  replace hw:=hw.own hb6w hg
  repeat' (first|(refine CW.ret ?_)|(first|refine Post.seq ?_|refine Post.seq_ret ?_)|refine SW.nil ?_|refine SW.pure rfl rfl ?_)
  exact Post.ret2c rfl rfl rfl hR2 rfl ⟨_,rfl,hw,.zero,rfl,OwnZ.zero _ _⟩
 ·simp only [if_true] at c1
  have hz:=zoneB_iff.1 hq
  obtain ⟨o1,o2,o3,o4,o5⟩:=hz.ok
  have hzl:=zone_len hz
  by_cases hargs:giveArgs z f s
  ·obtain ⟨a1,a2,a3,a4⟩:=id hargs
   obtain ⟨n,rfl⟩:=Int.eq_ofNat_of_zero_le a1
   rw [giveV_0 hq hargs]
   repeat' (first|(first|refine CW.seq ?_|refine CW.region ?_|refine CW.condd_f rfl (by omega) ?_|refine CW.condn_f rfl (by omega) ?_|refine CW.skip ?_)|(refine Post.seq ?_)|refine SW.nil ?_|(show SW _ _ _ _ (⟨_,_,_,_,_,some _⟩::_) _ _;first|refine SW.want_f rfl rfl (by with_reducible rfl) ?_|refine SW.splitd_f rfl rfl rfl (by omega) ?_)|refine SW.pure rfl rfl ?_|(show SW _ _ _ _ (⟨_,Op.fieldAddr _ _ _,_,_,_,none⟩::_) _ _;refine SW.st (st_field rfl) rfl ?_)|(show SW _ _ _ _ (⟨_,Op.binOp _ _ _ _ _,_,_,_,none⟩::_) _ _;refine SW.st (st_sub rfl rfl (by omega) (by omega)) rfl ?_)|(show SW _ _ _ _ (⟨_,Op.load _ _,_,_,_,none⟩::_) _ _;first|refine SW.st (st_loads rfl rfl ((fun _ _=>hb3.cell))) rfl ?_|refine SW.st (st_load rfl (hb3.cell rfl)) rfl ?_)|(show SW _ _ _ _ (⟨_,Op.call ⟨.value (.func _),_,_⟩,_,_,_,none⟩::_) _ _;(refine SW.call rfl rfl (c1 _ hw) ?_;intro v w1 hw1 hv;subst hv;replace hw:=Ext.trans hw hw1;replace hb3:=hb3.ext hw1;replace hb6:=hb6.ext hw1;clear hw1)))
   all_goals first|(exfalso;omega)|skip
   refine SW.call rfl rfl (Zcopy_ans r z _ (hr.ext hw) (by omega) ht) fun v w4 hw4 hv => ?_
   obtain ⟨u,rfl,hs,_,_⟩:=hv
   replace hs:=hs.low hw.size
   (replace hw:=Ext.trans hw hw4;replace hb3:=hb3.ext hw4;replace hb6:=hb6.ext hw4)
   clear c1
   skip
   refine SW.storeAgg hb3 rfl rfl rfl rfl (one_z u) fun w5 hb3' hg => ?_
   have hG:=hb3.gr hg
   replace hw:=hw.own hb3b hg
   replace hs:=hs.blk hb3 hg rfl rfl
   replace hb6:=hb6.grown hg (by simpa using hne36.symm)
   replace hb3:=hb3'
   clear hb3' hg hG
   repeat' (first|(first|refine CW.seq ?_|refine CW.region ?_|refine CW.block ?_)|(refine Post.seq ?_)|refine SW.nil ?_|refine SW.pure rfl rfl ?_)
   refine CW.loop (fun t:Nat×Zone×ZRow=>[(1,.int .i64 f),(2,.int .i64 (n:Int)),(3,.pointer (some ⟨b3,0,none⟩)),(6,.pointer (some ⟨b6,0,none⟩)),(9,.int .i64 (f+(t.1:Int)))])
    (fun t w'=>t.1≤n∧Ext w w'∧Blk w' b3 139 (encZ t.2.2)∧Blk w' b6 139 (encZ .zero)∧OwnZ w' w.heap.size t.2.2 t.2.1∧giveL n z f=giveL (n-t.1) t.2.1 (f+(t.1:Int))∧t.2.1.Free.length≤257∧t.2.1.Types.length≤32∧t.2.1.From=z.From∧t.2.1.To=z.To) (fun t=>n-t.1) (0,z,u)
    ⟨rfl,rfl,rfl,rfl,congrArg (fun x=>some (Value.int .i64 x)) (by simp),trivial⟩ ⟨by omega,hw,hb3,hb6,hs,by simp,by simp only;omega,by simp only;omega,rfl,rfl⟩ ?_
   clear hw hb3 hb6 hs
   rintro ⟨k,zc,u⟩ w' ⟨hk,hw,hb3,hb6,hs,hgl,hl1,hl2,hl3,hl4⟩
   simp only at hk hb3 hs hgl hl1 hl2 hl3 hl4 ⊢
   by_cases hkn:k<n
   ·have e1:=hs.free.sl.len
    have e2:=hs.types.sl.len
    have e3:=hs.from_
    have e4:=hs.to_
    have hbl:=backV_len zc (f+(k:Int)) 0
    repeat' (first|(first|refine CW.seq ?_|refine CW.region ?_|refine CW.block ?_|refine CW.condd_t rfl (by omega) ?_|refine CW.skip ?_)|(refine Post.seq ?_)|refine SW.nil ?_|refine SW.pure rfl rfl ?_|(show SW _ _ _ _ (⟨_,Op.binOp _ _ _ _ _,_,_,_,none⟩::_) _ _;refine SW.st (st_add rfl rfl (by omega) (by omega)) rfl ?_)|(show SW _ _ _ _ (⟨_,Op.load _ _,_,_,_,none⟩::_) _ _;refine SW.st (st_loads rfl rfl ((fun _ _=>hb3.cell))) rfl ?_))
    refine SW.call rfl rfl (Zback_ans u zc (f+(k:Int)) 0 _ hs.rd (Nat.le_trans (Nat.mul_le_mul_right 24 (show u.Free.n+1≤258 by omega)) (by decide)) (by omega) ⟨by omega,by omega⟩ ⟨by omega,by omega⟩) fun v w5 hw5 hv => ?_
    obtain ⟨o,ho⟩ : ∃ o,backV zc (f+(k:Int)) 0=o:=⟨_,rfl⟩
    rw [ho] at hv hbl
    obtain ⟨u',rfl,hs'⟩:=hv
    replace hs':=hs'.low hw.size
    (replace hw:=Ext.trans hw hw5;replace hb3:=hb3.ext hw5;replace hb6:=hb6.ext hw5;replace hs:=hs.ext hw5)
    repeat' (refine SW.pure rfl rfl ?_)
    refine SW.alloc rfl fun b10 w1 hw1 hb10b hb10 => ?_
    skip
    refine SW.storeAgg hb10 rfl rfl rfl rfl (one_z _) fun w2 hb10' hg => ?_
    have hXX:=hw1.own hb10b hg
    have hb10w:w.heap.size≤b10:=Nat.le_trans hw.size hb10b
    replace hw:=Ext.trans hw hXX
    replace hb3:=hb3.ext hXX
    replace hb6:=hb6.ext hXX
    replace hs:=hs.ext hXX
    replace hs':=hs'.ext hXX
    replace hb10:=hb10'
    clear hb10' hw1 hg hXX
    have hne10:=hb3.lt
    obtain ⟨m,hm⟩ : ∃ m,n-k=m+1:=⟨n-k-1,by omega⟩
    rw [hm] at hgl
    simp only [giveL,ho] at hgl
    by_cases ho0:o.1=0
    ·rw [if_pos ho0] at hgl
     rw [ho0]
     repeat' (first|(first|refine CW.seq ?_|refine CW.region ?_|refine CW.condn_f rfl (by omega) ?_|refine CW.skip ?_)|(refine Post.seq ?_)|refine SW.nil ?_|refine SW.pure rfl rfl ?_|(show SW _ _ _ _ (⟨_,Op.load _ _,_,_,_,none⟩::_) _ _;refine SW.st (st_loads rfl rfl ((fun _ _=>hb10.cell))) rfl ?_))
     refine SW.storeAgg hb3 rfl rfl rfl rfl (one_z u') fun w6 hb3' hg => ?_
     replace hw:=hw.own hb3b hg
     replace hs':=hs'.blk hb3 hg rfl rfl
     replace hb6:=hb6.grown hg (by simpa using hne36.symm)
     repeat' (first|(refine CW.region ?_)|(first|refine Post.seq ?_|refine Post.blk ?_)|refine SW.nil ?_|refine SW.pure rfl rfl ?_|(show SW _ _ _ _ (⟨_,Op.binOp _ _ _ _ _,_,_,_,none⟩::_) _ _;refine SW.st (st_add rfl rfl (by omega) (by omega)) rfl ?_))
     obtain ⟨q1,q2,q3⟩:=hbl.2.2 ho0
     have e9:f+(k:Int)+1=f+((k+1:Nat) : Int):=by omega
     have e10:m=n-(k+1):=by omega
     exact Post.again (k+1,o.2,u') ⟨rfl,rfl,rfl,rfl,congrArg (fun x=>some (Value.int .i64 x)) e9,trivial⟩ (by simp only;omega) ⟨by simp only;omega,hw,hb3',hb6,hs',by simp only;rw [← e9,← e10];exact hgl,hbl.1,hbl.2.1,by simp only;omega,by simp only;omega⟩
    ·rw [if_neg ho0] at hgl
     rw [hgl]
     repeat' (first|(first|refine CW.seq ?_|refine CW.region ?_|refine CW.condn_t rfl (by omega) ?_)|(refine Post.seq ?_)|refine SW.nil ?_|refine SW.pure rfl rfl ?_|(show SW _ _ _ _ (⟨_,Op.build _ _,_,_,_,none⟩::_) _ _;refine SW.st (st_build rfl rfl) rfl ?_))
     refine SW.storeAgg hb6 rfl rfl rfl rfl (one_z .zero) fun w5 hR2 hg => ?_
     replace hw:=hw.own hb6w hg
     repeat' (first|(refine CW.ret ?_)|(first|refine Post.seq ?_|refine Post.seq_ret ?_|refine Post.blk_ret ?_|refine Post.again_ret ?_)|refine SW.nil ?_|refine SW.pure rfl rfl ?_)
     exact Post.ret2c rfl rfl rfl hR2 rfl ⟨_,rfl,hw,.zero,rfl,OwnZ.zero _ _⟩
   ·have e0:n-k=0:=by omega
    rw [e0] at hgl
    simp only [giveL] at hgl
    rw [hgl]
    repeat' (first|(first|refine CW.seq ?_|refine CW.region ?_|refine CW.condd_f rfl (by omega) ?_|refine CW.exit ?_)|(first|refine Post.seq ?_|refine Post.seq_exit ?_|refine Post.hit ?_|refine Post.again_exit ?_)|refine SW.nil ?_|refine SW.pure rfl rfl ?_|(show SW _ _ _ _ (⟨_,Op.binOp _ _ _ _ _,_,_,_,none⟩::_) _ _;refine SW.st (st_add rfl rfl (by omega) (by omega)) rfl ?_)|(show SW _ _ _ _ (⟨_,Op.load _ _,_,_,_,none⟩::_) _ _;refine SW.st (st_loads rfl rfl ((fun _ _=>hb3.cell))) rfl ?_))
    refine SW.storeAgg hb6 rfl rfl rfl rfl (one_z u) fun w5 hR2 hg => ?_
    replace hw:=hw.own hb6w hg
    replace hs:=hs.blk hb6 hg rfl rfl
    repeat' (first|(refine CW.ret ?_)|(refine Post.seq ?_)|refine SW.nil ?_|refine SW.pure rfl rfl ?_)
    exact Post.ret2c rfl rfl rfl hR2 rfl ⟨_,rfl,hw,u,rfl,hs⟩
  ·rw [giveV_1 hq hargs]
   unfold giveArgs at hargs
   repeat' (first|(first|refine CW.seq ?_|refine CW.region ?_|refine CW.condtr rfl (by with_reducible rfl) ?_|refine CW.condd_t rfl (by omega) ?_|refine CW.condn_f rfl (by omega) ?_|refine CW.skip ?_)|(refine Post.seq ?_)|refine SW.nil ?_|(show SW _ _ _ _ (⟨_,_,_,_,_,some _⟩::_) _ _;first|refine SW.want_f rfl rfl (by with_reducible rfl) ?_|refine SW.skip_f rfl rfl (by with_reducible rfl) rfl ?_|refine SW.splitd rfl rfl rfl (fun h => ?_) (fun h => ?_))|refine SW.pure rfl rfl ?_|(show SW _ _ _ _ (⟨_,Op.fieldAddr _ _ _,_,_,_,none⟩::_) _ _;refine SW.st (st_field rfl) rfl ?_)|(show SW _ _ _ _ (⟨_,Op.build _ _,_,_,_,none⟩::_) _ _;refine SW.st (st_build rfl rfl) rfl ?_)|(show SW _ _ _ _ (⟨_,Op.binOp _ _ _ _ _,_,_,_,none⟩::_) _ _;refine SW.st (st_sub rfl rfl (by omega) (by omega)) rfl ?_)|(show SW _ _ _ _ (⟨_,Op.load _ _,_,_,_,none⟩::_) _ _;first|refine SW.st (st_loads rfl rfl ((fun _ _=>hb3.cell))) rfl ?_|refine SW.st (st_load rfl (hb3.cell rfl)) rfl ?_)|(show SW _ _ _ _ (⟨_,Op.call ⟨.value (.func _),_,_⟩,_,_,_,none⟩::_) _ _;(refine SW.call rfl rfl (c1 _ hw) ?_;intro v w1 hw1 hv;subst hv;replace hw:=Ext.trans hw hw1;replace hb3:=hb3.ext hw1;replace hb6:=hb6.ext hw1;clear hw1)))
   all_goals
    first
     | (exfalso;omega)
     | (refine SW.storeAgg hb6 rfl rfl rfl rfl (one_z .zero) fun w5 hR2 hg => ?_
        replace hw:=hw.own hb6w hg
        repeat' (first|(refine CW.ret ?_)|(first|refine Post.seq ?_|refine Post.seq_ret ?_)|refine SW.nil ?_|refine SW.pure rfl rfl ?_)
        exact Post.ret2c rfl rfl rfl hR2 rfl ⟨_,rfl,hw,.zero,rfl,OwnZ.zero _ _⟩)
def HeapOut (lo:Nat) (o:Int×Heap) (v:Value) (w:World) : Prop := ∃ s:HRow,v = .tuple #[.agg (encH s).toArray,.int .i64 o.1]∧OwnH w lo s o.2
theorem HeapOut.zero (e:Int) (lo:Nat) (w:World) : HeapOut lo (e,⟨[],[],0,[],[]⟩) (.tuple #[.agg (encH .zero).toArray,.int .i64 e]) w:=⟨.zero,rfl,OwnH.zero w lo⟩
theorem All2.two {α β : Type} {R : α → β → Prop} {a b : α} {c d : β} (h1:R a c) (h2:R b d) : All2 R [a,b] [c,d]:=All2.snoc (All2.snoc All2.nil h1) h2
end Go.Proofs.YtbidkghlpijecaaGreatDoor
