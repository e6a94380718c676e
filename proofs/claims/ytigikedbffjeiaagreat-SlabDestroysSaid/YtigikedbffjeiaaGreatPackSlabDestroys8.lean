/-
  Texts of the claim SlabDestroys, part 8: what its theorem leans on.
-/
import Derived.Test.YtigikedbffjeiaaGreatPackSlabDestroys7
import Derived.Test.YtigikedbffjeiaaGreatPackSlabDestroys5
import Derived.Test.YtigikedbffjeiaaGreatPackSlabDestroys2
import Derived.Test.YtigikedbffjeiaaGreatPackSlabDestroys3
set_option linter.unusedVariables false
set_option linter.unusedSimpArgs false
namespace Go.Proofs.YtigikedbffjeiaaGreat
open Go.RowKit
theorem und_uint:Tryz.prog.underlying 89=some (.int .u64):=by kernel_rfl
theorem wrap_u64 {z:Int} (h0 : 0≤z) (h1:z≤9223372036854775807) : IntKind.u64.wrap z=z:=by
 simp [IntKind.wrap,IntKind.bits,IntKind.signed]
 omega
section
variable {P:Program} {L:Env} {w:World} {d:Option Nat} {T:TypeId} {pos:String} {af:Array Edge} {g:Option (Nat×Bool)}
theorem st_convI {ft tt:TypeId} {x:Operand} {k k':IntKind} {i:Int} (hf:P.underlying ft=some (.int k)) (ht:P.underlying tt=some (.int k')) (hx:opv L x=some (.int k i)) :
  St P ⟨d,.convert ft tt x,T,pos,af,g⟩ L w (.int k' (k'.wrap i)) :=
 ⟨fun n a ha w' _=>by
  have e1:=ha.eval hx
  generalize a.eval = ρ at *
  simp [go_sem,e1,convert,run_underlying hf,run_underlying ht,Conv.intToInt]⟩
theorem st_shr1 {t ty:TypeId} {x y:Operand} {yk:IntKind} {i:Int} (hx:opv L x=some (.int .u64 i)) (hy:opv L y=some (.int yk 1)) :
  St P ⟨d,.binOp .shr t x y ty,T,pos,af,g⟩ L w (.int .u64 (i / 2)) :=
 ⟨fun n a ha w' _=>by
  have e1:=ha.eval hx
  have e2:=ha.eval hy
  generalize a.eval = ρ at *
  simp [go_sem,e1,e2]⟩
end
def foundA (l:List Block) (a:Int) : Bool:=if h:lbOf l a<l.length then decide ((l[lbOf l a]).At=a) else false
theorem BinaryBlock_ans (A:Option Addr) (n c:Nat) (l:List Block) (a:Int) (w:World) (hl:Sl w 3 encBk A n l) (f:FuncId) [Body Tryz.prog f] (hf:∀ x∈l,∀ w',Ext w w'→Ans Tryz.prog f ([.agg (encBk x).toArray,.int .i64 a]++[]) w' fun v _=>v = .int .i64 (x.At-a))
  (hu:l.Pairwise fun x y=>x.At<y.At) (hn:n≤1000000000000000000) : Ans Tryz.prog 92 [.slice A n c,.int .i64 a,.func (.func f) #[] #[]] w fun v _=>v = .tuple #[.int .i64 (lbOf l a:Int),.bool (foundA l a)]:=by
 refine ans_of Tryz.func92 rfl Tryz.ntmps92 rfl ?_
 have hw:=Ext.refl w
 have hA:=hl.base
 have hll:=hl.len
 rw [List.pairwise_iff_getElem] at hu
 repeat' (first|(first|refine CW.seq ?_|refine CW.region ?_|refine CW.block ?_)|(refine Post.seq ?_)|refine SW.nil ?_|refine SW.pure rfl rfl ?_|(show SW _ _ _ _ (⟨_,Op.call ⟨.builtin .len,_,_⟩,_,_,_,none⟩::_) _ _;refine SW.st (st_len rfl) rfl ?_))
 refine CW.loop (fun s:Nat×Nat=>[(0,.slice A n c),(1,.int .i64 a),(2,.func (.func f) #[] #[]),(8,.int .i64 (n:Int)),(9,.int .i64 (s.1:Int)),(10,.int .i64 (s.2:Int))])
  (fun s w'=>s.1≤s.2∧s.2≤n∧Ext w w'∧(∀ (k:Nat) (h:k<l.length),k<s.1→l[k].At<a)∧(∀ (k:Nat) (h:k<l.length),s.2≤k→a≤l[k].At)) (fun s=>s.2-s.1) (0,n)
  ⟨rfl,rfl,rfl,rfl,rfl,rfl,trivial⟩ ⟨by omega,by omega,hw,fun k h h'=>by omega,fun k h h'=>by omega⟩ ?_
 clear hw
 rintro ⟨i,j⟩ w' ⟨hij,hjn,hw,hI,hJ⟩
 simp only at hij hjn hI hJ ⊢
 by_cases hlt:i<j
 ·have hk:(i+j) / 2<n:=by omega
  have hkl:=hl.lt hk
  have hfk:=fun w1 h1=>hf (l[(i+j) / 2]) (List.getElem_mem hkl) w1 h1
  repeat' (first|(first|refine CW.seq ?_|refine CW.region ?_|refine CW.block ?_|refine CW.condd_t rfl (by omega) ?_|refine CW.skip ?_)|(refine Post.seq ?_)|refine SW.nil ?_|refine SW.pure rfl rfl ?_|(show SW _ _ _ _ (⟨_,Op.binOp _ _ _ _ _,_,_,_,none⟩::_) _ _;refine SW.st (st_add rfl rfl (by omega) (by omega)) rfl ?_)|(show SW _ _ _ _ (⟨_,Op.indexAddr _ _ _,_,_,_,none⟩::_) _ _;refine SW.st (st_indexN rfl rfl (by assumption) (by omega)) rfl ?_)|(show SW _ _ _ _ (⟨_,Op.load _ _,_,_,_,none⟩::_) _ _;refine SW.st (st_loadsx hw rfl rfl ((hl.all hk))) rfl ?_)|(refine SW.st ((st_convI Tryz.underlying3 und_uint rfl).eq (congrArg (Value.int .u64) (wrap_u64 (by omega) (by omega)))) rfl ?_)|(refine SW.st ((st_convI und_uint Tryz.underlying3 rfl).eq (congrArg (Value.int .i64) (wrap_in (by omega) (by omega)))) rfl ?_)|(refine SW.st (st_shr1 rfl rfl) rfl ?_))
  refine SW.callv (cap:=[]) rfl rfl rfl (hfk _ hw) fun v w1 hw1 hv => ?_
  subst hv
  replace hw:=Ext.trans hw hw1
  by_cases hcmp:l[(i+j) / 2].At<a
  ·repeat' (first|(first|refine CW.region ?_|refine CW.condd_t rfl (by omega) ?_)|(first|refine Post.seq ?_|refine Post.blk ?_)|refine SW.nil ?_|refine SW.pure rfl rfl ?_|(show SW _ _ _ _ (⟨_,Op.binOp _ _ _ _ _,_,_,_,none⟩::_) _ _;refine SW.st (st_add rfl rfl (by omega) (by omega)) rfl ?_))
   refine Post.again ((i+j) / 2+1,j) ⟨rfl,rfl,rfl,rfl,congrArg (fun z=>some (Value.int .i64 z)) (by omega),rfl,trivial⟩ (by simp only;omega) ⟨by simp only;omega,hjn,hw,fun k h h' => ?_,hJ⟩
   simp only at h'
   by_cases e:k=(i+j) / 2
   ·subst e;exact hcmp
   ·have:=hu k ((i+j) / 2) h hkl (by omega)
    omega
  ·repeat' (first|(first|refine CW.region ?_|refine CW.condd_f rfl (by omega) ?_)|(first|refine Post.seq ?_|refine Post.blk ?_)|refine SW.nil ?_|refine SW.pure rfl rfl ?_)
   refine Post.again (i,(i+j) / 2) ⟨rfl,rfl,rfl,rfl,rfl,congrArg (fun z=>some (Value.int .i64 z)) (by omega),trivial⟩ (by simp only;omega) ⟨by simp only;omega,by simp only;omega,hw,hI,fun k h h' => ?_⟩
   simp only at h'
   by_cases e:k=(i+j) / 2
   ·subst e;omega
   ·have:=hu ((i+j) / 2) k hkl h (by omega)
    omega
 ·obtain rfl:i=j:=by omega
  have hlb:lbOf l a=i:=lb_spec (by omega) hI (fun h=>hJ i h (by omega))
  by_cases hin:i<n
  ·have hkl:=hl.lt hin
   have hfk:=fun w1 h1=>hf (l[i]) (List.getElem_mem hkl) w1 h1
   have hfa:foundA l a=decide (l[i].At=a):=by unfold foundA;simp only [hlb,hkl,dif_pos]
   rw [hlb,hfa]
   repeat' (first|(first|refine CW.seq ?_|refine CW.region ?_|refine CW.condd_f rfl (by omega) ?_|refine CW.exit ?_)|(first|refine Post.seq ?_|refine Post.seq_exit ?_|refine Post.hit ?_|refine Post.again_exit ?_)|refine SW.nil ?_|(show SW _ _ _ _ (⟨_,_,_,_,_,some _⟩::_) _ _;first|refine SW.want_t rfl rfl (by with_reducible rfl) ?_|refine SW.splitd_t rfl rfl rfl (by omega) ?_)|refine SW.pure rfl rfl ?_|(show SW _ _ _ _ (⟨_,Op.indexAddr _ _ _,_,_,_,none⟩::_) _ _;refine SW.st (st_indexN rfl rfl (by assumption) (by omega)) rfl ?_)|(show SW _ _ _ _ (⟨_,Op.load _ _,_,_,_,none⟩::_) _ _;refine SW.st (st_loadsx hw rfl rfl ((hl.all hin))) rfl ?_))
   refine SW.callv (cap:=[]) rfl rfl rfl (hfk _ hw) fun v w1 hw1 hv => ?_
   subst hv
   replace hw:=Ext.trans hw hw1
   by_cases he:l[i].At=a
   ·repeat' (first|(refine CW.ret ?_)|(refine Post.seq ?_)|refine SW.nil ?_|(show SW _ _ _ _ (⟨_,_,_,_,_,some _⟩::_) _ _;refine SW.want_t rfl rfl (by with_reducible rfl) ?_)|refine SW.pure rfl rfl ?_)
    refine Post.ret2 rfl rfl rfl ⟨_,rfl,hw,?_⟩
    rw [decide_eq_true he,decide_eq_true (by omega)]
   ·repeat' (first|(refine CW.ret ?_)|(refine Post.seq ?_)|refine SW.nil ?_|(show SW _ _ _ _ (⟨_,_,_,_,_,some _⟩::_) _ _;refine SW.want_t rfl rfl (by with_reducible rfl) ?_)|refine SW.pure rfl rfl ?_)
    refine Post.ret2 rfl rfl rfl ⟨_,rfl,hw,?_⟩
    rw [decide_eq_false he,decide_eq_false (by omega)]
  ·have hfa:foundA l a=false:=by unfold foundA;rw [dif_neg (by omega)]
   rw [hlb,hfa]
   repeat' (first|(first|refine CW.seq ?_|refine CW.region ?_|refine CW.condd_f rfl (by omega) ?_|refine CW.ret ?_|refine CW.exit ?_)|(first|refine Post.seq ?_|refine Post.seq_exit ?_|refine Post.hit ?_|refine Post.again_exit ?_)|refine SW.nil ?_|(show SW _ _ _ _ (⟨_,_,_,_,_,some _⟩::_) _ _;first|refine SW.skip_t rfl rfl (by with_reducible rfl) rfl ?_|refine SW.splitd_f rfl rfl rfl (by omega) ?_)|refine SW.pure rfl rfl ?_)
   exact Post.ret2 rfl rfl rfl ⟨_,rfl,hw,rfl⟩
theorem ups_lt {f t:Int} {l:List Block} (h:ups l) (hb:∀ b∈l,blkOk f t b) : l.Pairwise fun x y=>x.At<y.At:=by
 unfold ups at h
 rw [List.pairwise_iff_getElem] at h ⊢
 intro i j hi hj hij
 have h1:=h i j hi hj hij
 have hp:=hb _ (List.getElem_mem hi)
 have:=pw_le hp.1.1 hp.1.2.1
 omega
theorem cmpBlock_ans (x:Block) (a:Int) (w:World) (hx : -4000000000000000000≤x.At∧x.At≤4000000000000000000) (ha : -4000000000000000000≤a∧a≤4000000000000000000) : Ans Tryz.prog 132 ([.agg (encBk x).toArray,.int .i64 a]++[]) w fun v _=>v = .int .i64 (x.At-a):=by
 refine ans_of Tryz.func132 rfl Tryz.ntmps132 rfl ?_
 refine CW.seq (CW.region (SW.box rfl rfl fun b1 w1 hw hb1b hb1 => ?_))
 repeat' (first|(first|refine CW.seq ?_|refine CW.region ?_|refine CW.ret ?_)|(refine Post.seq ?_)|refine SW.nil ?_|refine SW.pure rfl rfl ?_|(show SW _ _ _ _ (⟨_,Op.fieldAddr _ _ _,_,_,_,none⟩::_) _ _;refine SW.st (st_field rfl) rfl ?_)|(show SW _ _ _ _ (⟨_,Op.binOp _ _ _ _ _,_,_,_,none⟩::_) _ _;refine SW.st (st_sub rfl rfl (by omega) (by omega)) rfl ?_)|(show SW _ _ _ _ (⟨_,Op.load _ _,_,_,_,none⟩::_) _ _;refine SW.st (st_load rfl (hb1.cell rfl)) rfl ?_))
 exact Post.ret1 rfl rfl ⟨_,rfl,hw,rfl⟩
theorem Zfind_ans (r:ZRow) (l:List Block) (f t a:Int) (w:World) (hl:Sl w 3 encBk r.Free.A r.Free.n l) (hu:ups l) (hb:∀ b∈l,blkOk f t b) (h0 : 0≤f) (ht:t≤256) (hn:r.Free.n≤1000000000000000000) (ha : -1000≤a∧a≤1000) :
  Ans Tryz.prog 126 [.agg (encZ r).toArray,.int .i64 a] w fun v _=>v = .tuple #[.int .i64 (lbOf l a:Int),.bool (foundA l a)]:=by
 refine ans_of Tryz.func126 rfl Tryz.ntmps126 rfl ?_
 refine CW.seq (CW.region (SW.box rfl rfl fun b1 w1 hw hb1b hb1 => ?_))
 have cB:∀ w',Ext w w'→Ans Tryz.prog 92 [.slice r.Free.A r.Free.n r.Free.c,.int .i64 a,.func (.func 132) #[] #[]] w' fun v _=>v = .tuple #[.int .i64 (lbOf l a:Int),.bool (foundA l a)]:=fun w' h =>
  BinaryBlock_ans _ _ _ _ _ _ (hl.ext h) _ (fun x hx w1 _=>cmpBlock_ans x a w1 (by have:=(hb x hx).1;unfold fitsZ at this;omega) (by omega)) (ups_lt hu hb) hn
 repeat' (first|(first|refine CW.seq ?_|refine CW.region ?_|refine CW.ret ?_)|(refine Post.seq ?_)|refine SW.nil ?_|refine SW.pure rfl rfl ?_|(show SW _ _ _ _ (⟨_,Op.fieldAddr _ _ _,_,_,_,none⟩::_) _ _;refine SW.st (st_field rfl) rfl ?_)|(show SW _ _ _ _ (⟨_,Op.load _ _,_,_,_,none⟩::_) _ _;refine SW.st (st_load rfl (hb1.cell rfl)) rfl ?_)|(show SW _ _ _ _ (⟨_,Op.call ⟨.value (.func _),_,_⟩,_,_,_,none⟩::_) _ _;(refine SW.call rfl rfl (cB _ hw) ?_;intro v w1 hw1 hv;subst hv;replace hw:=Ext.trans hw hw1;replace hb1:=hb1.ext hw1;clear hw1)))
 exact Post.ret2 rfl rfl rfl ⟨_,rfl,hw,rfl⟩
theorem without_ans (A:Option Addr) (n c:Nat) (l:List Block) (a o:Int) (w:World) (hl:Sl w 3 encBk A n l) (hn:n*24≤140737488355328) :
  Ans Tryz.prog 81 [.slice A n c,.int .i64 a,.int .i64 o] w fun v w' => ∃ B c',v = .tuple #[.slice B (without l a o).length c',.bool (l.any (isB a o))]∧Own w' w.heap.size 94 3 encBk B (without l a o).length c' (without l a o):=by
 refine ans_of Tryz.func81 rfl Tryz.ntmps81 rfl ?_
 have hw:=Ext.refl w
 have hA:=hl.base
 have hll:=hl.len
 repeat' (first|(first|refine CW.seq ?_|refine CW.region ?_|refine CW.block ?_)|(refine Post.seq ?_)|refine SW.nil ?_|refine SW.pure rfl rfl ?_)
 refine CW.loop (fun s:Nat×Option Addr×Nat=>[(0,.slice A n c),(1,.int .i64 a),(2,.int .i64 o),(8,.slice s.2.1 (without (l.take s.1) a o).length s.2.2),(9,.bool ((l.take s.1).any (isB a o))),(10,.int .i64 (s.1:Int))])
  (fun s w'=>s.1≤n∧Ext w w'∧Own w' w.heap.size 94 3 encBk s.2.1 (without (l.take s.1) a o).length s.2.2 (without (l.take s.1) a o)) (fun s=>n-s.1) (0,none,0) ⟨rfl,rfl,rfl,rfl,rfl,rfl,trivial⟩ ⟨by omega,hw,Own.nil_ _ _ _ _ _ _⟩ ?_
 clear hw
 rintro ⟨k,B,c'⟩ w' ⟨hk,hw,hO⟩
 simp only at hk hO ⊢
 by_cases hkn:k<n
 ·have hkl:=hl.lt hkn
  have et:=List.take_succ_eq_append_getElem hkl
  have hlen:(without (l.take k) a o).length≤k:=Nat.le_trans (List.length_filter_le _ _) (by simp;omega)
  cases hi:isB a o l[k]
  ·have e1:without (l.take (k+1)) a o=without (l.take k) a o++[l[k]]:=by unfold without;rw [et,List.filter_append];simp [hi]
   have e2:(l.take (k+1)).any (isB a o)=(l.take k).any (isB a o):=by rw [et,List.any_append];simp [hi]
   have hn1 : ¬ (l[k].At=a∧l[k].Order=o):=fun h=>by rw [isB_iff.2 h] at hi;cases hi
   by_cases ha:l[k].At=a
   all_goals
    repeat' (first|(first|refine CW.seq ?_|refine CW.region ?_|refine CW.block ?_|refine CW.condfr rfl (by with_reducible rfl) ?_|refine CW.condd_t rfl (by omega) ?_|refine CW.condd_f rfl (by omega) ?_|refine CW.skip ?_)|(refine Post.seq ?_)|refine SW.nil ?_|(show SW _ _ _ _ (⟨_,_,_,_,_,some _⟩::_) _ _;first|refine SW.want_t rfl rfl (by with_reducible rfl) ?_|refine SW.skip_t rfl rfl (by with_reducible rfl) rfl ?_|refine SW.splitd_t rfl rfl rfl (by omega) ?_|refine SW.splitd_f rfl rfl rfl (by omega) ?_)|refine SW.pure rfl rfl ?_|(show SW _ _ _ _ (⟨_,Op.fieldAddr _ _ _,_,_,_,none⟩::_) _ _;refine SW.st (st_field rfl) rfl ?_)|(show SW _ _ _ _ (⟨_,Op.indexAddr _ _ _,_,_,_,none⟩::_) _ _;refine SW.st (st_indexN rfl rfl (by assumption) (by omega)) rfl ?_)|(show SW _ _ _ _ (⟨_,Op.call ⟨.builtin .len,_,_⟩,_,_,_,none⟩::_) _ _;refine SW.st (st_len rfl) rfl ?_)|(show SW _ _ _ _ (⟨_,Op.load _ _,_,_,_,none⟩::_) _ _;first|refine SW.st (st_loadsx hw rfl rfl ((hl.all hkn))) rfl ?_|refine SW.st (st_loadx hw rfl (hl.fld hkn rfl)) rfl ?_))
    all_goals first|(exfalso;omega)|skip
    refine SW.build1 rfl rfl rfl rfl rfl fun b w1 hw1 hb hB => ?_
    replace hw:=Ext.trans hw hw1
    replace hO:=hO.ext hw1
    refine SW.append hO (Blk.sl1 (enc:=encBk) hB) hw.size rfl rfl rfl (by omega) (by omega) fun A2 c2 w2 hO1 hg => ?_
    replace hw:=ext_grown hw hg (Nat.le_refl _) hO.row_ge
    repeat' (first|(refine CW.region ?_)|(first|refine Post.seq ?_|refine Post.blk ?_)|refine SW.nil ?_|refine SW.pure rfl rfl ?_|(show SW _ _ _ _ (⟨_,Op.binOp _ _ _ _ _,_,_,_,none⟩::_) _ _;refine SW.st (st_add rfl rfl (by omega) (by omega)) rfl ?_))
    have e3:(without (l.take (k+1)) a o).length=(without (l.take k) a o).length+1:=by rw [e1];simp
    refine Post.again (k+1,A2,c2) ⟨rfl,rfl,rfl,by simp only;rw [e3];rfl,by simp only;rw [e2];rfl,rfl,trivial⟩ (by simp only;omega) ⟨by simp only;omega,hw,?_⟩
    simp only
    rw [e3,e1]
    exact hO1
  ·have e1:without (l.take (k+1)) a o=without (l.take k) a o:=by unfold without;rw [et,List.filter_append];simp [hi]
   have e2:(l.take (k+1)).any (isB a o)=true:=by rw [et,List.any_append];simp [hi]
   obtain ⟨h1,h2⟩:=isB_iff.1 hi
   repeat' (first|(first|refine CW.seq ?_|refine CW.region ?_|refine CW.block ?_|refine CW.condd_t rfl (by omega) ?_|refine CW.skip ?_)|(first|refine Post.seq ?_|refine Post.blk ?_)|refine SW.nil ?_|(show SW _ _ _ _ (⟨_,_,_,_,_,some _⟩::_) _ _;first|refine SW.want_t rfl rfl (by with_reducible rfl) ?_|refine SW.splitd_t rfl rfl rfl (by omega) ?_)|refine SW.pure rfl rfl ?_|(show SW _ _ _ _ (⟨_,Op.fieldAddr _ _ _,_,_,_,none⟩::_) _ _;refine SW.st (st_field rfl) rfl ?_)|(show SW _ _ _ _ (⟨_,Op.binOp _ _ _ _ _,_,_,_,none⟩::_) _ _;refine SW.st (st_add rfl rfl (by omega) (by omega)) rfl ?_)|(show SW _ _ _ _ (⟨_,Op.indexAddr _ _ _,_,_,_,none⟩::_) _ _;refine SW.st (st_indexN rfl rfl (by assumption) (by omega)) rfl ?_)|(show SW _ _ _ _ (⟨_,Op.call ⟨.builtin .len,_,_⟩,_,_,_,none⟩::_) _ _;refine SW.st (st_len rfl) rfl ?_)|(show SW _ _ _ _ (⟨_,Op.load _ _,_,_,_,none⟩::_) _ _;refine SW.st (st_loadx hw rfl (hl.fld hkn rfl)) rfl ?_))
   refine Post.again (k+1,B,c') ⟨rfl,rfl,rfl,by simp only;rw [e1];rfl,by simp only;rw [e2];rfl,rfl,trivial⟩ (by simp only;omega) ⟨by simp only;omega,hw,?_⟩
   simp only
   rw [e1]
   exact hO
 ·repeat' (first|(first|refine CW.seq ?_|refine CW.region ?_|refine CW.condd_f rfl (by omega) ?_|refine CW.ret ?_|refine CW.exit ?_)|(first|refine Post.seq ?_|refine Post.seq_exit ?_|refine Post.hit ?_|refine Post.again_exit ?_)|refine SW.nil ?_|refine SW.pure rfl rfl ?_|(show SW _ _ _ _ (⟨_,Op.call ⟨.builtin .len,_,_⟩,_,_,_,none⟩::_) _ _;refine SW.st (st_len rfl) rfl ?_))
  have et:l.take k=l:=List.take_of_length_le (by omega)
  rw [et] at hO
  refine Post.ret2 rfl rfl rfl ⟨_,rfl,hw,B,c',?_,hO⟩
  rw [et]
def gtOf (l:List Block) (a:Int) : Nat:=l.findIdx fun b=>decide (a<b.At)
theorem gt_lb {l:List Block} {a:Int} (h:∀ x∈l,x.At≠a) : gtOf l a=lbOf l a:=by
 unfold gtOf lbOf
 have:∀ q:List Block,(∀ x∈q,x.At≠a)→q.findIdx (fun b=>decide (a<b.At))=q.findIdx (fun b=>decide (a≤b.At)):=by
  intro q
  induction q with
  | nil=>intro _;rfl
  | cons x r ih =>
   intro hq
   have h1:=hq x (by simp)
   have h2:=ih (fun y hy=>hq y (by simp [hy]))
   simp only [List.findIdx_cons,h2]
   by_cases e:a<x.At
   ·rw [decide_eq_true e,decide_eq_true (by omega)]
   ·rw [decide_eq_false e,decide_eq_false (by omega)]
 exact this l h
def marksOf (p:Nat→Bool) (k:Nat) : List Bool:=(List.range k).map p
theorem marksOf_get (p:Nat→Bool) (k i:Nat) (h:i<(marksOf p k).length) : (marksOf p k)[i]=p i:=by simp [marksOf]
theorem marksOf_set (p:Nat→Bool) (k i:Nat) (b:Bool) : (marksOf p k).set i b=marksOf (fun j=>if j=i then b else p j) k:=by
 apply List.ext_getElem (by simp [marksOf])
 intro j h1 h2
 rw [List.getElem_set]
 by_cases h:i=j
 ·subst h;simp [marksOf]
 ·have : ¬ j=i:=fun e=>h e.symm
  simp [marksOf,h,this]
theorem marksOf_congr {p q:Nat→Bool} {k:Nat} (h:∀ i,i<k→p i=q i) : marksOf p k=marksOf q k:=by
 apply List.ext_getElem (by simp [marksOf])
 intro j h1 h2
 simp only [marksOf_get]
 exact h j (by simpa [marksOf] using h1)
def inB (b:Block) (i:Nat) : Bool:=decide (b.At≤(i:Int)) && decide ((i:Int)<b.At+pw b.Order)
def covP (bs:List Block) (i:Nat) : Bool:=bs.any fun b=>inB b i
def fitsL (bs:List Block) (b:Block) : Prop:=0≤b.At∧b.At+pw b.Order≤256∧overB bs b.At b.Order=false
instance (bs:List Block) (b:Block) : Decidable (fitsL bs b):=inferInstanceAs (Decidable (_∧_))
def addB (s:Option (List Block)) (b:Block) : Option (List Block):=match s with
 | none=>none
 | some bs=>if fitsL bs b then some (bs++[b]) else none
def addAll (s:Option (List Block)) (l:List Block) : Option (List Block):=l.foldl addB s
theorem addAll_none:∀ l,addAll none l=none
 | []=>rfl
 | b::l=>addAll_none l
theorem addAll_append (s:Option (List Block)) (l m:List Block) : addAll s (l++m)=addAll (addAll s l) m:=List.foldl_append
theorem addAll_take (s:Option (List Block)) (l:List Block) (k:Nat) (h:k<l.length) : addAll s (l.take (k+1))=addB (addAll s (l.take k)) l[k]:=by
 rw [List.take_succ_eq_append_getElem h,addAll_append];rfl
theorem addB_some {s:Option (List Block)} {b:Block} {bs:List Block} (h:addB s b=some bs) : ∃ cs,s=some cs∧fitsL cs b∧bs=cs++[b]:=by
 cases s with
 | none=>simp [addB] at h
 | some cs =>
  simp only [addB] at h
  split at h
  ·rename_i hf;injection h with h;exact ⟨cs,rfl,hf,h.symm⟩
  ·cases h
def okM (p:Nat→Bool) (a n:Int) : Prop:=0≤a∧a<256∧n≤256-a ∧ ∀ i:Nat,a≤(i:Int)→(i:Int)<a+n→p i=false
def addM (p:Nat→Bool) (a n:Int) (i:Nat) : Bool:=p i || (decide (a≤(i:Int)) && decide ((i:Int)<a+n))
theorem okM_iff {bs:List Block} (hb:∀ b∈bs,0≤b.At∧1≤pw b.Order) {b:Block} (h1 : 1≤pw b.Order) : okM (covP bs) b.At (pw b.Order)↔fitsL bs b:=by
 constructor
 ·rintro ⟨h2,h3,h4,h5⟩
  refine ⟨h2,by omega,?_⟩
  unfold overB
  rw [List.any_eq_false]
  intro x hx hh
  simp only [Bool.and_eq_true,decide_eq_true_eq] at hh
  obtain ⟨k1,k2⟩:=hh
  obtain ⟨q1,q2⟩:=hb x hx
  have h6:=h5 (max x.At b.At).toNat (by omega) (by omega)
  unfold covP at h6
  rw [List.any_eq_false] at h6
  apply h6 x hx
  simp only [inB,Bool.and_eq_true,decide_eq_true_eq]
  omega
 ·rintro ⟨h2,h3,h4⟩
  refine ⟨h2,by omega,by omega,fun i k1 k2 => ?_⟩
  unfold covP
  rw [List.any_eq_false]
  intro x hx hh
  simp only [inB,Bool.and_eq_true,decide_eq_true_eq] at hh
  unfold overB at h4
  rw [List.any_eq_false] at h4
  apply h4 x hx
  simp only [Bool.and_eq_true,decide_eq_true_eq]
  omega
theorem addM_cov (bs:List Block) (b:Block) (i:Nat) : addM (covP bs) b.At (pw b.Order) i=covP (bs++[b]) i:=by
 simp [addM,covP,inB]
def goodS (s:Option (List Block)) : Prop := ∀ bs,s=some bs → ∀ x∈bs,0≤x.At∧1≤pw x.Order
theorem goodS_nil:goodS (some []):=fun bs h x hx=>by cases h;simp at hx
theorem goodS_add {s:Option (List Block)} {b:Block} (h:goodS s) (hb : 1≤pw b.Order) : goodS (addB s b):=fun bs hbs x hx=>by
 obtain ⟨cs,rfl,hf,rfl⟩:=addB_some hbs
 rcases List.mem_append.1 hx with hx|hx
 ·exact h cs rfl x hx
 ·simp at hx;subst hx;exact ⟨hf.1,hb⟩
theorem goodS_all {s:Option (List Block)}:∀ {l:List Block},goodS s→(∀ b∈l,1≤pw b.Order)→goodS (addAll s l)
 | [],h,_=>h
 | b::l,h,hb=>goodS_all (l:=l) (goodS_add h (hb b (by simp))) (fun x hx=>hb x (by simp [hx]))
def pageB (p:Int) : Block:=⟨p,0,0⟩
def pagesB (l:List PList) : List Block:=l.flatMap fun x=>x.Pages.map pageB
theorem pw_zero:pw 0=1:=by decide
def aheadL (a b:PList) : Prop:=a.Cpu<b.Cpu∨(a.Cpu=b.Cpu∧(a.Zone<b.Zone∨(a.Zone=b.Zone∧a.Ty<b.Ty)))
instance (a b:PList) : Decidable (aheadL a b):=inferInstanceAs (Decidable (_∨_))
def headOk (cpus:Int) (l:PList) : Prop:=(0≤l.Cpu∧l.Cpu<cpus)∧(0≤l.Zone∧l.Zone≤1)∧(0≤l.Ty∧l.Ty≤2)∧(1≤l.Pages.length∧l.Pages.length≤8)
instance (c:Int) (l:PList) : Decidable (headOk c l):=inferInstanceAs (Decidable (_∧_))
structure ListsOk (cpus to:Int) (ls:List PList) : Prop where
 head:∀ (i:Nat) (h:i<ls.length),headOk cpus ls[i]
 next:∀ (i:Nat) (h:i+1<ls.length),aheadL ls[i] ls[i+1]
 zone:∀ (i:Nat) (h:i<ls.length),∀ p∈(ls[i]).Pages,(p<to↔(ls[i]).Zone=0)
def liveOk (b:Block) : Prop:=(0≤b.Order∧b.Order≤4)∧(0≤b.At∧b.At≤255)∧b.At % pw b.Order=0∧tyOk b.Ty
structure LiveOk (l:List Block) : Prop where
 each:∀ (i:Nat) (h:i<l.length),liveOk l[i]
 next:∀ (i:Nat) (h:i+1<l.length),l[i].At<l[i+1].At
structure HeapMay (h:Heap) : Prop where
 zones:∃ z0 z1,h.Zones=[z0,z1]∧ZoneMay z0∧ZoneMay z1∧z0.From=0∧z0.To=z1.From∧z1.To=256∧ListsOk h.Cpus z0.To h.Lists∧(addAll (some []) (z0.Free++z1.Free++pagesB h.Lists++h.Live)).isSome=true
 mins:∃ m0 m1,h.Mins=[m0,m1]∧(0≤m0∧m0≤256)∧(0≤m1∧m1≤256)
 cpus : 1≤h.Cpus∧h.Cpus≤4
 live:LiveOk h.Live
noncomputable def heapB (h:Heap) : Bool := @decide (HeapMay h) (Classical.propDecidable _)
theorem heapB_t {h:Heap} (a:HeapMay h) : heapB h=true:=by unfold heapB;exact @decide_eq_true _ (Classical.propDecidable _) a
theorem heapB_f {h:Heap} (a : ¬ HeapMay h) : heapB h=false:=by unfold heapB;exact @decide_eq_false _ (Classical.propDecidable _) a
theorem heapB_iff {h:Heap}:heapB h=true↔HeapMay h:=by
 by_cases a:HeapMay h
 ·simp [heapB_t a,a]
 ·simp [heapB_f a,a]
theorem pagesB_take (l:List PList) (k:Nat) (h:k<l.length) : pagesB (l.take (k+1))=pagesB (l.take k)++l[k].Pages.map pageB:=by
 unfold pagesB
 rw [List.take_succ_eq_append_getElem h,List.flatMap_append]
 simp
theorem addAll_some_of {s:Option (List Block)} {l m:List Block} (h:(addAll s (l++m)).isSome=true) : (addAll s l).isSome=true:=by
 rw [addAll_append] at h
 cases e:addAll s l with
 | none=>rw [e,addAll_none] at h;cases h
 | some x=>rfl
open Go.RowKit
section
variable {P:Program} {L:Env} {w:World} {d:Option Nat} {T:TypeId} {pos:String} {af:Array Edge} {g:Option (Nat×Bool)}
theorem st_indexArr {t e:TypeId} {len sz:Nat} [c:ArrTy P t len e sz] {x y:Operand} {ad:Addr} {i:Int} (k:Nat) (hx:opv L x=some (.pointer (some ad))) (hy:opv L y=some (.int .i64 i)) (hi:i=(k:Int)) (hk:k<len) :
    St P ⟨d,.indexAddr t x y,T,pos,af,g⟩ L w (.pointer (some (ad.add (k*sz)))) :=
  ⟨fun _ a ha w' _=>by
    subst hi
    have e1:=ha.eval hx
    have e2:=ha.eval hy
    generalize a.eval = ρ at *
    simp [execOp,e1,e2,Instr.indexAt,Instr.sureAddr,asIntOf,run_underlying c.und,run_sizeOf c.size,hk]⟩
end
theorem Post.ret0 {P:Program} {fn:Func} {R:Ending→World→Prop} {n:Nat} {L:Env} {w:World} (hr:fn.results = #[]) (h:R (.returned (.tuple #[])) w) : Post n (bodyPost P fn R) .ret L w :=
  ⟨fun a ha=>⟨ha.defers,_,by simpa using ResIs.results (rs:=[]) hr .nil ha,h⟩⟩
theorem Post.end0 {P:Program} {fn:Func} {R:Ending→World→Prop} {n:Nat} {L:Env} {w:World} (hr:fn.results = #[]) (h:R (.returned (.tuple #[])) w) : Post n (bodyPost P fn R) .normal L w :=
  ⟨fun a ha=>⟨ha.defers,_,by simpa using ResIs.results (rs:=[]) hr .nil ha,h⟩⟩
def cellsM (p:Nat→Bool) (N:Nat) (bad:Bool) : List Value:=(marksOf p N).map Value.bool++[.bool bad]
theorem cellsM_len (p:Nat→Bool) (N:Nat) (bad:Bool) : (cellsM p N bad).length=N+1:=by simp [cellsM,marksOf]
theorem cellsM_bad (p:Nat→Bool) (N:Nat) (bad:Bool) : (cellsM p N bad)[N]?=some (.bool bad):=by
  unfold cellsM
  rw [List.getElem?_append_right (by simp [marksOf])]
  simp [marksOf]
theorem cellsM_at (p:Nat→Bool) (N:Nat) (bad:Bool) {i:Nat} (h:i<N) : (cellsM p N bad)[i]?=some (.bool (p i)):=by
  unfold cellsM
  rw [List.getElem?_append_left (by simp [marksOf];omega)]
  simp [marksOf,h]
theorem cellsM_setBad (p:Nat→Bool) (N:Nat) (bad b:Bool) : (cellsM p N bad).set N (.bool b)=cellsM p N b:=by
  unfold cellsM
  rw [List.set_append_right _ _ (by simp [marksOf])]
  simp [marksOf]
theorem cellsM_set (p:Nat→Bool) (N:Nat) (bad:Bool) {i:Nat} (h:i<N) : (cellsM p N bad).set i (.bool true)=cellsM (fun j=>if j=i then true else p j) N bad:=by
  unfold cellsM
  rw [List.set_append_left _ _ (by simp [marksOf];omega),← marksOf_set,List.map_set]
theorem cellsM_congr {p q:Nat→Bool} {N:Nat} {bad:Bool} (h:∀ i,i<N→p i=q i) : cellsM p N bad=cellsM q N bad:=by
  unfold cellsM;rw [marksOf_congr h]
set_option maxHeartbeats 4000000 in
theorem mark_ans (b:Nat) (p:Nat→Bool) (bad:Bool) (N:Nat) (hN:N=256) (a n:Int) (w:World) (hB:Blk w b 129 (cellsM p N bad)) (hn : 0≤n∧n≤16) :
    AnsX Tryz.prog 89 [.pointer (some ⟨b,0,none⟩),.int .i64 a,.int .i64 n] w fun v w' => ∃ p' bad',Blk w' b 129 (cellsM p' N bad')∧w.grownBy w' (some b)∧((okM p a n∧bad'=bad∧p'=addM p a n)∨(¬ okM p a n∧bad'=true)):=by
  refine ansx_of Tryz.func89 rfl Tryz.ntmps89 rfl ?_
  have hg0:w.grownBy w (some b):=World.grownBy.refl _ _
  have hw:=Ext.refl w
  by_cases hin : 0≤a∧a<256∧n≤256-a
  · obtain ⟨h1,h2,h3⟩:=id hin
    obtain ⟨k,rfl⟩:=Int.eq_ofNat_of_zero_le h1
    obtain ⟨m,rfl⟩:=Int.eq_ofNat_of_zero_le hn.1
    repeat' (first|(first|refine CW.seq ?_|refine CW.region ?_|refine CW.block ?_|refine CW.condd_f rfl (by omega) ?_|refine CW.skip ?_)|(refine Post.seq ?_)|refine SW.nil ?_|(show SW _ _ _ _ (⟨_,_,_,_,_,some _⟩::_) _ _;first|refine SW.want_f rfl rfl (by with_reducible rfl) ?_|refine SW.splitd_f rfl rfl rfl (by omega) ?_)|refine SW.pure rfl rfl ?_|(show SW _ _ _ _ (⟨_,Op.binOp _ _ _ _ _,_,_,_,none⟩::_) _ _;refine SW.st (st_sub rfl rfl (by omega) (by omega)) rfl ?_))
    clear hw
    refine CW.loop (fun j:Nat=>[(0,.pointer (some ⟨b,0,none⟩)),(1,.int .i64 (k:Int)),(2,.int .i64 (m:Int)),(6,.int .i64 ((k+j:Nat) : Int))])
      (fun j w'=>j≤m∧Blk w' b 129 (cellsM (addM p k (j:Int)) N bad)∧w.grownBy w' (some b) ∧ ∀ i:Nat,k≤i→i<k+j→p i=false) (fun j=>m-j) 0
      ⟨rfl,rfl,rfl,rfl,trivial⟩ ⟨by omega,by rwa [cellsM_congr (q:=p) (fun i _=>by simp [addM]<;>omega)],hg0,fun i h1 h2=>by omega⟩ ?_
    clear hB hg0
    rintro j w' ⟨hj,hB,hg,hI⟩
    have hw:=Ext.refl w'
    by_cases hjm:j<m
    · have hlt:k+j<N:=by omega
      have hc:=hB.cell (cellsM_at _ N bad hlt)
      have hv:addM p k (j:Int) (k+j)=p (k+j):=by simp [addM]
      rw [hv] at hc
      have hc':w'.cell? (((⟨b,0,none⟩ : Addr).add 0).add ((k+j)*1))=some (.bool (p (k+j))):=by rw [add_add];simpa using hc
      cases hp:p (k+j)
      · rw [hp] at hc'
        repeat' (first|(first|refine CW.seq ?_|refine CW.region ?_|refine CW.block ?_|refine CW.condfr rfl (by with_reducible rfl) ?_|refine CW.condd_t rfl (by omega) ?_|refine CW.skip ?_)|(refine Post.seq ?_)|refine SW.nil ?_|refine SW.pure rfl rfl ?_|(show SW _ _ _ _ (⟨_,Op.fieldAddr _ _ _,_,_,_,none⟩::_) _ _;refine SW.st (st_field rfl) rfl ?_)|(show SW _ _ _ _ (⟨_,Op.nilCheck _,_,_,_,none⟩::_) _ _;refine SW.st (st_nilCheck rfl) rfl ?_)|(show SW _ _ _ _ (⟨_,Op.binOp _ _ _ _ _,_,_,_,none⟩::_) _ _;refine SW.st (st_add rfl rfl (by omega) (by omega)) rfl ?_)|(show SW _ _ _ _ (⟨_,Op.load _ _,_,_,_,none⟩::_) _ _;refine SW.st (st_load rfl (hc')) rfl ?_)|(refine SW.st (st_indexArr (k+j) rfl rfl rfl (by omega)) rfl ?_))
        have hadr:(⟨b,0,none⟩ : Addr).add (k+j)=((⟨b,0,none⟩ : Addr).add 0).add ((k+j)*1):=by rw [add_add];simp
        refine SW.storeB (i:=k+j) hB (by rw [hadr];rfl) rfl rfl (by rw [cellsM_len];simp;omega) fun w3 hB' hg' => ?_
        rw [cellsM_set _ _ _ hlt,cellsM_congr (q:=addM p k ((j+1:Nat) : Int)) (fun i _=>by
          by_cases e:i=k+j
          · subst e;simp [addM];omega
          · simp only [e,if_false,addM]
            congr 1
            by_cases e1:i<k+j
            · rw [decide_eq_true (show (i:Int)<(k:Int)+(j:Int) by omega),decide_eq_true (show (i:Int)<(k:Int)+((j+1:Nat) : Int) by omega)]
            · rw [decide_eq_false (show ¬ (i:Int)<(k:Int)+(j:Int) by omega),decide_eq_false (show ¬ (i:Int)<(k:Int)+((j+1:Nat) : Int) by omega)])] at hB'
        have hgg:=grown_trans hg hg' (.inl rfl)
        clear hw
        have hw:=Ext.refl w3
        repeat' (first|(refine CW.region ?_)|(first|refine Post.seq ?_|refine Post.blk ?_)|refine SW.nil ?_|refine SW.pure rfl rfl ?_|(show SW _ _ _ _ (⟨_,Op.binOp _ _ _ _ _,_,_,_,none⟩::_) _ _;refine SW.st (st_add rfl rfl (by omega) (by omega)) rfl ?_))
        refine Post.again (j+1) ⟨rfl,rfl,rfl,rfl,trivial⟩ (by omega) ⟨by omega,hB',hgg,fun i h1 h2 => ?_⟩
        by_cases e:i=k+j
        · subst e;exact hp
        · exact hI i h1 (by omega)
      · rw [hp] at hc'
        repeat' (first|(first|refine CW.seq ?_|refine CW.region ?_|refine CW.block ?_|refine CW.condtr rfl (by with_reducible rfl) ?_|refine CW.condd_t rfl (by omega) ?_|refine CW.skip ?_)|(refine Post.seq ?_)|refine SW.nil ?_|refine SW.pure rfl rfl ?_|(show SW _ _ _ _ (⟨_,Op.fieldAddr _ _ _,_,_,_,none⟩::_) _ _;refine SW.st (st_field rfl) rfl ?_)|(show SW _ _ _ _ (⟨_,Op.nilCheck _,_,_,_,none⟩::_) _ _;refine SW.st (st_nilCheck rfl) rfl ?_)|(show SW _ _ _ _ (⟨_,Op.binOp _ _ _ _ _,_,_,_,none⟩::_) _ _;refine SW.st (st_add rfl rfl (by omega) (by omega)) rfl ?_)|(show SW _ _ _ _ (⟨_,Op.load _ _,_,_,_,none⟩::_) _ _;refine SW.st (st_load rfl (hc')) rfl ?_)|(refine SW.st (st_indexArr (k+j) rfl rfl rfl (by omega)) rfl ?_))
        subst hN
        refine SW.storeB (i:=256) hB rfl rfl rfl (by rw [cellsM_len];rfl) fun w3 hB' hg' => ?_
        rw [cellsM_setBad] at hB'
        clear hw
        have hw:=Ext.refl w3
        repeat' (first|(refine CW.ret ?_)|(first|refine Post.seq ?_|refine Post.seq_ret ?_|refine Post.blk_ret ?_|refine Post.again_ret ?_)|refine SW.nil ?_)
        exact Post.ret0 rfl ⟨_,rfl,_,true,hB',grown_trans hg hg' (.inl rfl),.inr ⟨(fun h=>by have:=h.2.2.2 (k+j) (by omega) (by omega);rw [hp] at this;cases this),rfl⟩⟩
    · obtain rfl:j=m:=by omega
      repeat' (first|(first|refine CW.seq ?_|refine CW.region ?_|refine CW.condd_f rfl (by omega) ?_|refine CW.exit ?_)|(first|refine Post.seq ?_|refine Post.seq_exit ?_|refine Post.hit ?_|refine Post.again_exit ?_)|refine SW.nil ?_|refine SW.pure rfl rfl ?_|(show SW _ _ _ _ (⟨_,Op.binOp _ _ _ _ _,_,_,_,none⟩::_) _ _;refine SW.st (st_add rfl rfl (by omega) (by omega)) rfl ?_))
      exact Post.end0 rfl ⟨_,rfl,_,bad,hB,hg,.inl ⟨⟨h1,h2,h3,fun i h4 h5=>hI i (by omega) (by omega)⟩,rfl,rfl⟩⟩
  · have hno : ¬ okM p a n:=fun h=>hin ⟨h.1,h.2.1,h.2.2.1⟩
    subst hN
    repeat' (first|(first|refine CW.seq ?_|refine CW.region ?_|refine CW.condtr rfl (by with_reducible rfl) ?_|refine CW.condd_t rfl (by omega) ?_)|(refine Post.seq ?_)|refine SW.nil ?_|(show SW _ _ _ _ (⟨_,_,_,_,_,some _⟩::_) _ _;first|refine SW.want_f rfl rfl (by with_reducible rfl) ?_|refine SW.skip_f rfl rfl (by with_reducible rfl) rfl ?_|refine SW.splitd rfl rfl rfl (fun h => ?_) (fun h => ?_))|refine SW.pure rfl rfl ?_|(show SW _ _ _ _ (⟨_,Op.fieldAddr _ _ _,_,_,_,none⟩::_) _ _;refine SW.st (st_field rfl) rfl ?_)|(show SW _ _ _ _ (⟨_,Op.nilCheck _,_,_,_,none⟩::_) _ _;refine SW.st (st_nilCheck rfl) rfl ?_)|(show SW _ _ _ _ (⟨_,Op.binOp _ _ _ _ _,_,_,_,none⟩::_) _ _;refine SW.st (st_sub rfl rfl (by omega) (by omega)) rfl ?_))
    all_goals
      first
        | (exfalso;omega)
        | (refine SW.storeB (i:=256) hB rfl rfl rfl (by rw [cellsM_len];rfl) fun w3 hB' hg' => ?_
           rw [cellsM_setBad] at hB'
           clear hw
           have hw:=Ext.refl w3
           repeat' (first|(refine CW.ret ?_)|(first|refine Post.seq ?_|refine Post.seq_ret ?_)|refine SW.nil ?_)
           exact Post.ret0 rfl ⟨_,rfl,_,true,hB',hg',.inr ⟨hno,rfl⟩⟩)
open Go.RowKit
def Marks (w:World) (b N:Nat) : Option (List Block)→Prop
 | some bs=>Blk w b 129 (cellsM (covP bs) N false)
 | none => ∃ p,Blk w b 129 (cellsM p N true)
theorem Marks.ext {w w':World} {b N:Nat} {s:Option (List Block)} (h:Marks w b N s) (hx:Ext w w') : Marks w' b N s:=by
 cases s with
 | none=>obtain ⟨p,h⟩:=h;exact ⟨p,Blk.ext h hx⟩
 | some bs=>exact Blk.ext h hx
theorem Marks.bad {w:World} {b N:Nat} {s:Option (List Block)} (h:Marks w b N s) (hN:N=256) : w.cell? ((⟨b,0,none⟩ : Addr).add 256)=some (.bool s.isNone):=by
 subst hN
 cases s with
 | none=>obtain ⟨p,h⟩:=h;exact Blk.cell h (cellsM_bad _ _ _)
 | some bs=>exact Blk.cell h (cellsM_bad _ _ _)
theorem Marks.gr {w w':World} {b N:Nat} {s:Option (List Block)} (h:Marks w b N s) (hg:w.grownBy w' (some b)) : GrT w w' 129:=by
 cases s with
 | none=>obtain ⟨p,h⟩:=h;exact Blk.gr h hg
 | some bs=>exact Blk.gr h hg
theorem markB_ans (b:Nat) (s:Option (List Block)) (x:Block) (N:Nat) (hN:N=256) (w:World) (hM:Marks w b N s) (hs:goodS s) (hp : 1≤pw x.Order∧pw x.Order≤16) :
  AnsX Tryz.prog 89 [.pointer (some ⟨b,0,none⟩),.int .i64 x.At,.int .i64 (pw x.Order)] w fun v w'=>Marks w' b N (addB s x)∧w.grownBy w' (some b):=by
 cases s with
 | none =>
  obtain ⟨p,hB⟩:=hM
  refine ⟨Calls.mono (mark_ans b p true N hN x.At (pw x.Order) w hB ⟨by omega,hp.2⟩).out ?_⟩
  rintro e w' ⟨v,he,p',bad',hB',hg,h⟩
  refine ⟨v,he,?_,hg⟩
  have:bad'=true:=by rcases h with ⟨_,h,_⟩|⟨_,h⟩<;>exact h
  subst this
  exact ⟨p',hB'⟩
 | some bs =>
  refine ⟨Calls.mono (mark_ans b (covP bs) false N hN x.At (pw x.Order) w hM ⟨by omega,hp.2⟩).out ?_⟩
  rintro e w' ⟨v,he,p',bad',hB',hg,h⟩
  refine ⟨v,he,?_,hg⟩
  have hiff:=okM_iff (hs bs rfl) (b:=x) hp.1
  rcases h with ⟨h1,rfl,rfl⟩|⟨h1,rfl⟩
  ·have:addB (some bs) x=some (bs++[x]):=by simp [addB,hiff.1 h1]
   rw [this]
   show Blk w' b _ _
   rw [← cellsM_congr (fun i _=>addM_cov bs x i)]
   exact hB'
  ·have:addB (some bs) x=none:=by
    simp only [addB]
    rw [if_neg (fun hf=>h1 (hiff.2 hf))]
   rw [this]
   exact ⟨p',hB'⟩
theorem lessL_ans (r s:LRow) (a b:PList) (w:World) (ha:r.Cpu=a.Cpu∧r.Zone=a.Zone∧r.Ty=a.Ty) (hb:s.Cpu=b.Cpu∧s.Zone=b.Zone∧s.Ty=b.Ty) :
  Ans Tryz.prog 113 [.agg (encL r).toArray,.agg (encL s).toArray] w fun v _=>v = .bool (decide (aheadL a b)):=by
 refine ans_of Tryz.func113 rfl Tryz.ntmps113 rfl ?_
 refine CW.seq (CW.region (SW.box rfl rfl fun b2 w1 hw hb2b hb2 => ?_))
 refine SW.box rfl rfl fun b3 w2 hw2 hb3b hb3 => ?_
 (replace hw:=Ext.trans hw hw2;replace hb2:=hb2.ext hw2)
 obtain ⟨a1,a2,a3⟩:=ha
 obtain ⟨b1,b2',b3'⟩:=hb
 have key:aheadL a b↔(r.Cpu<s.Cpu∨(r.Cpu=s.Cpu∧(r.Zone<s.Zone∨(r.Zone=s.Zone∧r.Ty<s.Ty)))):=by unfold aheadL;rw [a1,a2,a3,b1,b2',b3']
 by_cases h1:r.Cpu<s.Cpu
 ·rw [decide_eq_true (key.2 (by omega))]
  repeat' (first|(first|refine CW.seq ?_|refine CW.region ?_|refine CW.condn_t rfl (by omega) ?_|refine CW.ret ?_)|(first|refine Post.seq ?_|refine Post.seq_ret ?_)|refine SW.nil ?_|refine SW.pure rfl rfl ?_|(show SW _ _ _ _ (⟨_,Op.fieldAddr _ _ _,_,_,_,none⟩::_) _ _;refine SW.st (st_field rfl) rfl ?_)|(show SW _ _ _ _ (⟨_,Op.load _ _,_,_,_,none⟩::_) _ _;first|refine SW.st (st_load rfl (hb2.cell rfl)) rfl ?_|refine SW.st (st_load rfl (hb3.cell rfl)) rfl ?_))
  all_goals first|(exfalso;omega)|exact Post.ret1 rfl rfl ⟨_,rfl,hw,by simp [h1]⟩
 ·by_cases h2:r.Cpu=s.Cpu
  ·by_cases h3:r.Zone<s.Zone
   ·rw [decide_eq_true (key.2 (by omega))]
    repeat' (first|(first|refine CW.seq ?_|refine CW.region ?_|refine CW.condn_t rfl (by omega) ?_|refine CW.condn_f rfl (by omega) ?_|refine CW.skip ?_|refine CW.ret ?_)|(first|refine Post.seq ?_|refine Post.seq_ret ?_)|refine SW.nil ?_|refine SW.pure rfl rfl ?_|(show SW _ _ _ _ (⟨_,Op.fieldAddr _ _ _,_,_,_,none⟩::_) _ _;refine SW.st (st_field rfl) rfl ?_)|(show SW _ _ _ _ (⟨_,Op.load _ _,_,_,_,none⟩::_) _ _;first|refine SW.st (st_load rfl (hb2.cell rfl)) rfl ?_|refine SW.st (st_load rfl (hb3.cell rfl)) rfl ?_))
    all_goals first|(exfalso;omega)|exact Post.ret1 rfl rfl ⟨_,rfl,hw,by simp [h3]⟩
   ·by_cases h4:r.Zone=s.Zone
    ·by_cases h5:r.Ty<s.Ty
     ·rw [decide_eq_true (key.2 (by omega))]
      repeat' (first|(first|refine CW.seq ?_|refine CW.region ?_|refine CW.condn_f rfl (by omega) ?_|refine CW.skip ?_|refine CW.ret ?_)|(refine Post.seq ?_)|refine SW.nil ?_|refine SW.pure rfl rfl ?_|(show SW _ _ _ _ (⟨_,Op.fieldAddr _ _ _,_,_,_,none⟩::_) _ _;refine SW.st (st_field rfl) rfl ?_)|(show SW _ _ _ _ (⟨_,Op.load _ _,_,_,_,none⟩::_) _ _;first|refine SW.st (st_load rfl (hb2.cell rfl)) rfl ?_|refine SW.st (st_load rfl (hb3.cell rfl)) rfl ?_))
      all_goals first|(exfalso;omega)|exact Post.ret1 rfl rfl ⟨_,rfl,hw,by simp [h5]⟩
     ·rw [decide_eq_false (fun h=>by have:=key.1 h;omega)]
      repeat' (first|(first|refine CW.seq ?_|refine CW.region ?_|refine CW.condn_f rfl (by omega) ?_|refine CW.skip ?_|refine CW.ret ?_)|(refine Post.seq ?_)|refine SW.nil ?_|refine SW.pure rfl rfl ?_|(show SW _ _ _ _ (⟨_,Op.fieldAddr _ _ _,_,_,_,none⟩::_) _ _;refine SW.st (st_field rfl) rfl ?_)|(show SW _ _ _ _ (⟨_,Op.load _ _,_,_,_,none⟩::_) _ _;first|refine SW.st (st_load rfl (hb2.cell rfl)) rfl ?_|refine SW.st (st_load rfl (hb3.cell rfl)) rfl ?_))
      all_goals first|(exfalso;omega)|exact Post.ret1 rfl rfl ⟨_,rfl,hw,by simp [h5]⟩
    ·rw [decide_eq_false (fun h=>by have:=key.1 h;omega)]
     repeat' (first|(first|refine CW.seq ?_|refine CW.region ?_|refine CW.condn_t rfl (by omega) ?_|refine CW.condn_f rfl (by omega) ?_|refine CW.skip ?_|refine CW.ret ?_)|(first|refine Post.seq ?_|refine Post.seq_ret ?_)|refine SW.nil ?_|refine SW.pure rfl rfl ?_|(show SW _ _ _ _ (⟨_,Op.fieldAddr _ _ _,_,_,_,none⟩::_) _ _;refine SW.st (st_field rfl) rfl ?_)|(show SW _ _ _ _ (⟨_,Op.load _ _,_,_,_,none⟩::_) _ _;first|refine SW.st (st_load rfl (hb2.cell rfl)) rfl ?_|refine SW.st (st_load rfl (hb3.cell rfl)) rfl ?_))
     all_goals first|(exfalso;omega)|exact Post.ret1 rfl rfl ⟨_,rfl,hw,by simp [h3]⟩
  ·rw [decide_eq_false (fun h=>by have:=key.1 h;omega)]
   repeat' (first|(first|refine CW.seq ?_|refine CW.region ?_|refine CW.condn_t rfl (by omega) ?_|refine CW.ret ?_)|(first|refine Post.seq ?_|refine Post.seq_ret ?_)|refine SW.nil ?_|refine SW.pure rfl rfl ?_|(show SW _ _ _ _ (⟨_,Op.fieldAddr _ _ _,_,_,_,none⟩::_) _ _;refine SW.st (st_field rfl) rfl ?_)|(show SW _ _ _ _ (⟨_,Op.load _ _,_,_,_,none⟩::_) _ _;first|refine SW.st (st_load rfl (hb2.cell rfl)) rfl ?_|refine SW.st (st_load rfl (hb3.cell rfl)) rfl ?_))
   all_goals first|(exfalso;omega)|exact Post.ret1 rfl rfl ⟨_,rfl,hw,by simp [h1]⟩
theorem aheadL_ans (r s:LRow) (a b:PList) (w:World) (ha:r.Cpu=a.Cpu∧r.Zone=a.Zone∧r.Ty=a.Ty) (hb:s.Cpu=b.Cpu∧s.Zone=b.Zone∧s.Ty=b.Ty) :
  Ans Tryz.prog 104 [.agg (encL r).toArray,.agg (encL s).toArray] w fun v _=>v = .bool (decide (aheadL a b)):=by
 refine ans_of Tryz.func104 rfl Tryz.ntmps104 rfl ?_
 refine CW.seq (CW.region (SW.box rfl rfl fun b2 w1 hw hb2b hb2 => ?_))
 refine SW.box rfl rfl fun b3 w2 hw2 hb3b hb3 => ?_
 (replace hw:=Ext.trans hw hw2;replace hb2:=hb2.ext hw2)
 obtain ⟨a1,a2,a3⟩:=ha
 obtain ⟨b1,b2',b3'⟩:=hb
 have key:aheadL a b↔(r.Cpu<s.Cpu∨(r.Cpu=s.Cpu∧(r.Zone<s.Zone∨(r.Zone=s.Zone∧r.Ty<s.Ty)))):=by unfold aheadL;rw [a1,a2,a3,b1,b2',b3']
 by_cases h1:r.Cpu<s.Cpu
 ·rw [decide_eq_true (key.2 (by omega))]
  repeat' (first|(first|refine CW.seq ?_|refine CW.region ?_|refine CW.ret ?_)|(refine Post.seq ?_)|refine SW.nil ?_|(show SW _ _ _ _ (⟨_,_,_,_,_,some _⟩::_) _ _;first|refine SW.skip_f rfl rfl (by with_reducible rfl) rfl ?_|refine SW.skip_u rfl rfl (by with_reducible rfl) rfl ?_|refine SW.splitd_t rfl rfl rfl (by omega) ?_)|refine SW.pure rfl rfl ?_|(show SW _ _ _ _ (⟨_,Op.fieldAddr _ _ _,_,_,_,none⟩::_) _ _;refine SW.st (st_field rfl) rfl ?_)|(show SW _ _ _ _ (⟨_,Op.load _ _,_,_,_,none⟩::_) _ _;first|refine SW.st (st_load rfl (hb2.cell rfl)) rfl ?_|refine SW.st (st_load rfl (hb3.cell rfl)) rfl ?_))
  all_goals first|(exfalso;omega)|exact Post.ret1 rfl rfl ⟨_,rfl,hw,by simp [h1]⟩
 ·by_cases h2:r.Cpu=s.Cpu
  ·by_cases h3:r.Zone<s.Zone
   ·rw [decide_eq_true (key.2 (by omega))]
    repeat' (first|(first|refine CW.seq ?_|refine CW.region ?_|refine CW.ret ?_)|(refine Post.seq ?_)|refine SW.nil ?_|(show SW _ _ _ _ (⟨_,_,_,_,_,some _⟩::_) _ _;first|refine SW.want_t rfl rfl (by with_reducible rfl) ?_|refine SW.want_f rfl rfl (by with_reducible rfl) ?_|refine SW.skip_f rfl rfl (by with_reducible rfl) rfl ?_|refine SW.skip_u rfl rfl (by with_reducible rfl) rfl ?_|refine SW.splitd_t rfl rfl rfl (by omega) ?_|refine SW.splitd_f rfl rfl rfl (by omega) ?_)|refine SW.pure rfl rfl ?_|(show SW _ _ _ _ (⟨_,Op.fieldAddr _ _ _,_,_,_,none⟩::_) _ _;refine SW.st (st_field rfl) rfl ?_)|(show SW _ _ _ _ (⟨_,Op.load _ _,_,_,_,none⟩::_) _ _;first|refine SW.st (st_load rfl (hb2.cell rfl)) rfl ?_|refine SW.st (st_load rfl (hb3.cell rfl)) rfl ?_))
    all_goals first|(exfalso;omega)|exact Post.ret1 rfl rfl ⟨_,rfl,hw,by simp [h3]⟩
   ·by_cases h4:r.Zone=s.Zone
    ·by_cases h5:r.Ty<s.Ty
     ·rw [decide_eq_true (key.2 (by omega))]
      repeat' (first|(first|refine CW.seq ?_|refine CW.region ?_|refine CW.ret ?_)|(refine Post.seq ?_)|refine SW.nil ?_|(show SW _ _ _ _ (⟨_,_,_,_,_,some _⟩::_) _ _;first|refine SW.want_t rfl rfl (by with_reducible rfl) ?_|refine SW.want_f rfl rfl (by with_reducible rfl) ?_|refine SW.splitd_t rfl rfl rfl (by omega) ?_|refine SW.splitd_f rfl rfl rfl (by omega) ?_)|refine SW.pure rfl rfl ?_|(show SW _ _ _ _ (⟨_,Op.fieldAddr _ _ _,_,_,_,none⟩::_) _ _;refine SW.st (st_field rfl) rfl ?_)|(show SW _ _ _ _ (⟨_,Op.load _ _,_,_,_,none⟩::_) _ _;first|refine SW.st (st_load rfl (hb2.cell rfl)) rfl ?_|refine SW.st (st_load rfl (hb3.cell rfl)) rfl ?_))
      all_goals first|(exfalso;omega)|exact Post.ret1 rfl rfl ⟨_,rfl,hw,by simp [h5]⟩
     ·rw [decide_eq_false (fun h=>by have:=key.1 h;omega)]
      repeat' (first|(first|refine CW.seq ?_|refine CW.region ?_|refine CW.ret ?_)|(refine Post.seq ?_)|refine SW.nil ?_|(show SW _ _ _ _ (⟨_,_,_,_,_,some _⟩::_) _ _;first|refine SW.want_t rfl rfl (by with_reducible rfl) ?_|refine SW.want_f rfl rfl (by with_reducible rfl) ?_|refine SW.splitd_t rfl rfl rfl (by omega) ?_|refine SW.splitd_f rfl rfl rfl (by omega) ?_)|refine SW.pure rfl rfl ?_|(show SW _ _ _ _ (⟨_,Op.fieldAddr _ _ _,_,_,_,none⟩::_) _ _;refine SW.st (st_field rfl) rfl ?_)|(show SW _ _ _ _ (⟨_,Op.load _ _,_,_,_,none⟩::_) _ _;first|refine SW.st (st_load rfl (hb2.cell rfl)) rfl ?_|refine SW.st (st_load rfl (hb3.cell rfl)) rfl ?_))
      all_goals first|(exfalso;omega)|exact Post.ret1 rfl rfl ⟨_,rfl,hw,by simp [h5]⟩
    ·rw [decide_eq_false (fun h=>by have:=key.1 h;omega)]
     repeat' (first|(first|refine CW.seq ?_|refine CW.region ?_|refine CW.ret ?_)|(refine Post.seq ?_)|refine SW.nil ?_|(show SW _ _ _ _ (⟨_,_,_,_,_,some _⟩::_) _ _;first|refine SW.want_t rfl rfl (by with_reducible rfl) ?_|refine SW.want_f rfl rfl (by with_reducible rfl) ?_|refine SW.skip_t rfl rfl (by with_reducible rfl) rfl ?_|refine SW.splitd_t rfl rfl rfl (by omega) ?_|refine SW.splitd_f rfl rfl rfl (by omega) ?_)|refine SW.pure rfl rfl ?_|(show SW _ _ _ _ (⟨_,Op.fieldAddr _ _ _,_,_,_,none⟩::_) _ _;refine SW.st (st_field rfl) rfl ?_)|(show SW _ _ _ _ (⟨_,Op.load _ _,_,_,_,none⟩::_) _ _;first|refine SW.st (st_load rfl (hb2.cell rfl)) rfl ?_|refine SW.st (st_load rfl (hb3.cell rfl)) rfl ?_))
     all_goals first|(exfalso;omega)|exact Post.ret1 rfl rfl ⟨_,rfl,hw,by simp [h3]⟩
  ·rw [decide_eq_false (fun h=>by have:=key.1 h;omega)]
   repeat' (first|(first|refine CW.seq ?_|refine CW.region ?_|refine CW.ret ?_)|(refine Post.seq ?_)|refine SW.nil ?_|(show SW _ _ _ _ (⟨_,_,_,_,_,some _⟩::_) _ _;first|refine SW.want_f rfl rfl (by with_reducible rfl) ?_|refine SW.skip_t rfl rfl (by with_reducible rfl) rfl ?_|refine SW.skip_u rfl rfl (by with_reducible rfl) rfl ?_|refine SW.splitd_f rfl rfl rfl (by omega) ?_)|refine SW.pure rfl rfl ?_|(show SW _ _ _ _ (⟨_,Op.fieldAddr _ _ _,_,_,_,none⟩::_) _ _;refine SW.st (st_field rfl) rfl ?_)|(show SW _ _ _ _ (⟨_,Op.load _ _,_,_,_,none⟩::_) _ _;first|refine SW.st (st_load rfl (hb2.cell rfl)) rfl ?_|refine SW.st (st_load rfl (hb3.cell rfl)) rfl ?_))
   all_goals first|(exfalso;omega)|exact Post.ret1 rfl rfl ⟨_,rfl,hw,by simp [h1]⟩
structure RdH2 (w:World) (r:HRow) (h:Heap) (r0 r1:ZRow) (z0 z1:Zone) : Prop where
 rd:RdH w r h
 eq:h.Zones=[z0,z1]
 n:r.Zones.n=2
 row:Sl w 4 encZ r.Zones.A r.Zones.n [r0,r1]
 z0:RdZ w r0 z0
 z1:RdZ w r1 z1
theorem RdH2.ext {w w':World} {r:HRow} {h:Heap} {r0 r1:ZRow} {z0 z1:Zone} (a:RdH2 w r h r0 r1 z0 z1) (hx:Ext w w') : RdH2 w' r h r0 r1 z0 z1 :=
 ⟨a.rd.ext hx,a.eq,a.n,a.row.ext hx,a.z0.ext hx,a.z1.ext hx⟩
theorem RdH2.c0 {w:World} {r:HRow} {h:Heap} {r0 r1:ZRow} {z0 z1:Zone} (a:RdH2 w r h r0 r1 z0 z1) (j:Nat) (u:Value) (hu:(encZ r0)[j]?=some u) : w.cell? (((r.Zones.A.getD default).add (0*4)).add j)=some u:=a.row.cell 0 (by simp) j u hu
theorem RdH2.c1 {w:World} {r:HRow} {h:Heap} {r0 r1:ZRow} {z0 z1:Zone} (a:RdH2 w r h r0 r1 z0 z1) (j:Nat) (u:Value) (hu:(encZ r1)[j]?=some u) : w.cell? (((r.Zones.A.getD default).add (1*4)).add j)=some u:=a.row.cell 1 (by simp) j u hu
theorem two_of {α : Type} {l:List α} (h:l.length=2) : ∃ a b,l=[a,b]:=by
 match l,h with
 | [a,b],_=>exact ⟨a,b,rfl⟩
theorem RdH.two {w:World} {r:HRow} {h:Heap} (a:RdH w r h) (hl:h.Zones.length=2) : ∃ r0 r1 z0 z1,RdH2 w r h r0 r1 z0 z1:=by
 obtain ⟨zs,hz⟩:=a.zones
 obtain ⟨z0,z1,e1⟩:=two_of hl
 have l0:=hz.each.len
 obtain ⟨r0,r1,e2⟩:=two_of (show zs.length=2 by omega)
 subst e2
 have l1:=hz.row.len
 have h0:=hz.each.get 0 (by simp) (by omega)
 have h1:=hz.each.get 1 (by simp) (by omega)
 simp only [e1] at h0 h1
 exact ⟨r0,r1,z0,z1,a,e1,by simpa using l1.symm,hz.row,h0,h1⟩
theorem Pzone_ans (r:HRow) (h:Heap) (r0 r1:ZRow) (z0 z1:Zone) (x:Int) (w:World) (hr:RdH2 w r h r0 r1 z0 z1) :
  Ans Tryz.prog 76 [.agg (encH r).toArray,.int .i64 x] w fun v _=>v = .int .i64 (if x<z0.To then 0 else 1):=by
 refine ans_of Tryz.func76 rfl Tryz.ntmps76 rfl ?_
 refine CW.seq (CW.region (SW.box rfl rfl fun b2 w1 hw hb2b hb2 => ?_))
 have hn:=hr.n
 have hA:=hr.row.base
 have e1:=hr.z0.to_
 by_cases hx:x<z0.To
 ·rw [if_pos hx]
  repeat' (first|(first|refine CW.seq ?_|refine CW.region ?_|refine CW.condd_t rfl (by omega) ?_|refine CW.ret ?_)|(first|refine Post.seq ?_|refine Post.seq_ret ?_)|refine SW.nil ?_|refine SW.pure rfl rfl ?_|(show SW _ _ _ _ (⟨_,Op.fieldAddr _ _ _,_,_,_,none⟩::_) _ _;refine SW.st (st_field rfl) rfl ?_)|(show SW _ _ _ _ (⟨_,Op.indexAddr _ _ _,_,_,_,none⟩::_) _ _;refine SW.st (st_indexI (0) rfl rfl (by assumption) (by omega) (by omega)) rfl ?_)|(show SW _ _ _ _ (⟨_,Op.load _ _,_,_,_,none⟩::_) _ _;first|refine SW.st (st_load rfl (hb2.cell rfl)) rfl ?_|refine SW.st (st_loadx hw rfl (hr.c0 1 _ rfl)) rfl ?_))
  exact Post.ret1 rfl rfl ⟨_,rfl,hw,rfl⟩
 ·rw [if_neg hx]
  repeat' (first|(first|refine CW.seq ?_|refine CW.region ?_|refine CW.condd_f rfl (by omega) ?_|refine CW.skip ?_|refine CW.ret ?_)|(refine Post.seq ?_)|refine SW.nil ?_|refine SW.pure rfl rfl ?_|(show SW _ _ _ _ (⟨_,Op.fieldAddr _ _ _,_,_,_,none⟩::_) _ _;refine SW.st (st_field rfl) rfl ?_)|(show SW _ _ _ _ (⟨_,Op.indexAddr _ _ _,_,_,_,none⟩::_) _ _;refine SW.st (st_indexI (0) rfl rfl (by assumption) (by omega) (by omega)) rfl ?_)|(show SW _ _ _ _ (⟨_,Op.load _ _,_,_,_,none⟩::_) _ _;first|refine SW.st (st_load rfl (hb2.cell rfl)) rfl ?_|refine SW.st (st_loadx hw rfl (hr.c0 1 _ rfl)) rfl ?_))
  exact Post.ret1 rfl rfl ⟨_,rfl,hw,rfl⟩
theorem backV_8 {z:Zone} {a o:Int} (h:zoneB z=false) : backV z a o=(8,.zero):=by simp [backV,h,Zone.zero]
theorem backV_1 {z:Zone} {a o:Int} (h:zoneB z=true) (hf : ¬ fitsZ z.From z.To a o) : backV z a o=(1,.zero):=by simp [backV,h,hf,Zone.zero]
theorem backV_5 {z:Zone} {a o:Int} (h:zoneB z=true) (hf:fitsZ z.From z.To a o) (ho:overB z.Free a o=true) : backV z a o=(5,.zero):=by simp [backV,h,hf,ho,Zone.zero]
theorem backV_0 {z:Zone} {a o:Int} (h:zoneB z=true) (hf:fitsZ z.From z.To a o) (ho:overB z.Free a o=false) {l:List Block} {a' o':Int} (hj:joinL 5 z.Free a o=(l,a',o')) {t:Int} (ht:z.Types.getD ((a'-z.From) / 8).toNat 0=t) :
  backV z a o=(0,⟨z.From,z.To,insAt l (lbOf l a') ⟨a',o',t⟩,z.Types⟩):=by simp [backV,h,hf,ho,hj,← ht]
theorem zone_len {z:Zone} (h:ZoneMay z) : z.Free.length≤256∧z.Types.length≤32:=by
 have hu:=zone_ups h
 have hok:=h.ok
 unfold zoneOk at hok
 have key:∀ (i:Nat) (hi:i<z.Free.length),(i:Int)≤(z.Free[i]).At:=by
  intro i
  induction i with
  | zero =>
   intro hi
   have:=(h.blk 0 hi).1
   unfold fitsZ at this
   omega
  | succ i ih =>
   intro hi
   have h1:=ih (by omega)
   have h2:=ups_get hu hi (Nat.lt_succ_self i)
   have h3:=(h.blk i (by omega)).1
   have:=pw_le h3.1 h3.2.1
   omega
 refine ⟨?_,by have:=h.len;omega⟩
 rcases Nat.eq_zero_or_pos z.Free.length with h0|h0
 ·omega
 ·have h1:=key (z.Free.length-1) (by omega)
  have h2:=(h.blk (z.Free.length-1) (by omega)).1
  unfold fitsZ at h2
  omega
theorem backV_len (z:Zone) (a o:Int) : (backV z a o).2.Free.length≤257∧(backV z a o).2.Types.length≤32∧((backV z a o).1=0→(backV z a o).2.From=z.From∧(backV z a o).2.To=z.To∧(backV z a o).2.Types=z.Types):=by
 cases hq:zoneB z
 ·rw [backV_8 hq];simp [Zone.zero]
 ·have hz:=zoneB_iff.1 hq
  have hl:=zone_len hz
  by_cases hf:fitsZ z.From z.To a o
  ·cases ho:overB z.Free a o
   ·have hJ:=over_dis (f:=0) (t:=0) hz hf ho
    have hj:=joinL_ok (by have:=hz.ok;unfold zoneOk at this;omega) 5 hJ
    obtain ⟨⟨l,a',o'⟩,hq2⟩ : ∃ u,joinL 5 z.Free a o=u:=⟨_,rfl⟩
    rw [hq2] at hj
    rw [backV_0 hq hf ho hq2 rfl]
    have h3:=hj.2
    simp only [insAt,List.length_append,List.length_take,List.length_drop,List.length_singleton] at h3 ⊢
    exact ⟨by omega,hl.2,fun _=>by simp⟩
   ·rw [backV_5 hq hf ho];simp [Zone.zero]
  ·rw [backV_1 hq hf];simp [Zone.zero]
def nxs (l:List Block) : Prop:=l.Pairwise nextOk
theorem beside_two {y o:Int} (h0 : 0≤o) (h4:o<4) (hm:y % pw o=0) : beside (beside y o) o=y∧(beside y o=y+pw o∨beside y o=y-pw o):=by
 unfold beside
 have hp:=pw_cases h0 (show o≤4 by omega)
 generalize pw o=q at *
 rcases hp with ⟨e,rfl⟩|⟨e,rfl⟩|⟨e,rfl⟩|⟨e,rfl⟩|⟨e,rfl⟩<;>(refine ⟨?_,?_⟩<;>split<;>(try split)<;>omega)
theorem zone_nxs {z:Zone} (h:ZoneMay z) : nxs z.Free:=by
 have hu:=zone_ups h
 unfold nxs
 rw [List.pairwise_iff_getElem]
 intro i j hi hj hij
 by_cases e:j=i+1
 ·subst e;exact h.next i hj
 ·refine ⟨ups_get hu hj hij,fun hh => ?_⟩
  obtain ⟨h1,h2,h3⟩:=hh
  have g1:=ups_get hu (show i+1<z.Free.length by omega) (Nat.lt_succ_self i)
  have g2:=ups_get hu hj (show i+1<j by omega)
  have b1:=(h.blk (i+1) (by omega)).1
  have b2:=(h.blk j hj).1
  have p1:=pw_le b1.1 b1.2.1
  have p2:=(beside_two b2.1 h1 b2.2.2.2.2).2
  have p3:=pw_le b2.1 b2.2.1
  rw [h2] at g1
  omega
theorem inB_union {a o:Int} (h0 : 0≤o) (h4:o<4) (hm:a % pw o=0) (t1 t2 t3:Int) (i:Nat) : inB ⟨min a (beside a o),o+1,t1⟩ i=(inB ⟨a,o,t2⟩ i || inB ⟨beside a o,o,t3⟩ i):=by
 have h1:=(beside_two h0 h4 hm).2
 have h2:=pw_succ h0 (show o≤4 by omega)
 have h3:=pw_le h0 (show o≤4 by omega)
 rw [Bool.eq_iff_iff]
 simp only [inB,Bool.and_eq_true,Bool.or_eq_true,decide_eq_true_eq]
 rw [h2]
 omega
theorem cov_without {l:List Block} {a o:Int} (h:l.any (isB a o)=true) (i:Nat) : covP l i=(covP (without l a o) i || inB ⟨a,o,0⟩ i):=by
 rw [Bool.eq_iff_iff]
 simp only [Bool.or_eq_true,covP,List.any_eq_true,without,List.mem_filter]
 constructor
 ·rintro ⟨x,hx,hi⟩
  by_cases e:isB a o x=true
  ·obtain ⟨e1,e2⟩:=isB_iff.1 e
   right;rw [← hi,← e1,← e2];rfl
  ·left;exact ⟨x,⟨hx,by simp [e]⟩,hi⟩
 ·rintro (⟨x,⟨hx,_⟩,hi⟩|hi)
  ·exact ⟨x,hx,hi⟩
  ·obtain ⟨b,hb,hh⟩:=List.any_eq_true.1 h
   obtain ⟨e1,e2⟩:=isB_iff.1 hh
   exact ⟨b,hb,by rw [← hi,← e1,← e2];rfl⟩
structure Joined (f t:Int) (l:List Block) (a o:Int) (l':List Block) (a' o':Int) : Prop where
 ok:JOk f t l' a' o'
 nx:nxs l'
 cov:∀ i,(covP l' i || inB ⟨a',o',0⟩ i)=(covP l i || inB ⟨a,o,0⟩ i)
 fin:o'<4→l'.any (isB (beside a' o') o')=false
theorem joinL_joined {f t:Int} (h0 : 0≤f) : ∀ (k:Nat) {l:List Block} {a o:Int},4-o<k→JOk f t l a o→nxs l→Joined f t l a o (joinL k l a o).1 (joinL k l a o).2.1 (joinL k l a o).2.2
 | 0,l,a,o,hk,h,hn=>by have:=h.fit.2.1;omega
 | k+1,l,a,o,hk,h,hn=>by
  simp only [joinL]
  split
  ·rename_i ho
   split
   ·rename_i hany
    have ih:=joinL_joined h0 k (by omega) (h.step h0 ho hany) (hn.sublist List.filter_sublist)
    refine ⟨ih.ok,ih.nx,fun i => ?_,ih.fin⟩
    rw [ih.cov i,inB_union h.fit.1 ho h.fit.2.2.2.2 0 0 0,cov_without hany i]
    rw [Bool.or_assoc,Bool.or_comm (inB _ i) (inB _ i)]
   ·rename_i hany
    exact ⟨h,hn,fun _=>rfl,fun _=>by simpa using hany⟩
  ·rename_i ho
   exact ⟨h,hn,fun _=>rfl,fun h=>absurd h ho⟩
theorem ins_nxs {f t:Int} {l0:List Block} {a0 o0:Int} {l:List Block} {a o:Int} (h:Joined f t l0 a0 o0 l a o) (u:Int) : nxs (insAt l (lbOf l a) ⟨a,o,u⟩):=by
 have hk:=h.ok
 have hp:=pw_le hk.fit.1 hk.fit.2.1
 have hlow:∀ x∈l.take (lbOf l a),nextOk x ⟨a,o,u⟩:=fun x hx=>by
  obtain ⟨j,hj,rfl⟩:=List.getElem_of_mem hx
  simp only [List.length_take] at hj
  rw [List.getElem_take]
  have h1:=lb_below (l:=l) (a:=a) (k:=j) (by omega)
  have h2:=hk.dis _ (List.getElem_mem (show j<l.length by omega))
  refine ⟨by simp only;omega,fun hh => ?_⟩
  obtain ⟨g1,g2,g3⟩:=hh
  have:=h.fin g1
  rw [List.any_eq_false] at this
  exact this _ (List.getElem_mem (show j<l.length by omega)) (isB_iff.2 ⟨g3,g2⟩)
 have hhigh:∀ y∈l.drop (lbOf l a),nextOk ⟨a,o,u⟩ y:=fun y hy=>by
  obtain ⟨j,hj,rfl⟩:=List.getElem_of_mem hy
  simp only [List.length_drop] at hj
  rw [List.getElem_drop]
  have hlt:lbOf l a<l.length:=by omega
  have h1:=lb_at hlt
  have hm:=List.getElem_mem (show lbOf l a+j<l.length by omega)
  have h2:=hk.dis _ hm
  have hb:=(hk.blk _ hm).1
  have hpj:=pw_le hb.1 hb.2.1
  have h3:(l[lbOf l a]).At≤(l[lbOf l a+j]'(by omega)).At:=by
   rcases Nat.eq_zero_or_pos j with e|e
   ·subst e;simp
   ·have:=ups_get hk.ups (show lbOf l a+j<l.length by omega) (show lbOf l a<lbOf l a+j by omega)
    have hb0:=(hk.blk _ (List.getElem_mem hlt)).1
    have:=pw_le hb0.1 hb0.2.1
    omega
  refine ⟨by simp only;omega,fun hh => ?_⟩
  obtain ⟨g1,g2,g3⟩:=hh
  simp only at g2 g3
  have e:=(beside_two hb.1 g1 hb.2.2.2.2).1
  rw [← g3,← g2] at e
  have:=h.fin (by omega)
  rw [List.any_eq_false] at this
  exact this _ hm (isB_iff.2 ⟨e.symm,g2.symm⟩)
 have hall:(l.take (lbOf l a)++l.drop (lbOf l a)).Pairwise nextOk:=by rw [List.take_append_drop];exact h.nx
 rw [List.pairwise_append] at hall
 unfold nxs insAt
 rw [List.append_assoc,List.pairwise_append]
 refine ⟨hall.1,?_,fun x hx y hy => ?_⟩
 ·rw [List.singleton_append,List.pairwise_cons]
  exact ⟨hhigh,hall.2.1⟩
 ·rw [List.singleton_append,List.mem_cons] at hy
  rcases hy with rfl|hy
  ·exact hlow x hx
  ·exact hall.2.2 x hx y hy
theorem cov_insAt (l:List Block) (i:Nat) (b:Block) (k:Nat) : covP (insAt l i b) k=(covP l k || inB b k):=by
 have:covP l k=(covP (l.take i) k || covP (l.drop i) k):=by
  unfold covP
  rw [← List.any_append,List.take_append_drop]
 rw [this]
 simp only [covP,insAt,List.any_append,List.any_cons,List.any_nil,Bool.or_false]
 cases (l.take i).any fun b=>inB b k<;>cases inB b k<;>simp
theorem mem_insAt {l:List Block} {i:Nat} {b x:Block} (h:x∈insAt l i b) : x=b∨x∈l:=by
 unfold insAt at h
 rw [List.mem_append,List.mem_append] at h
 rcases h with (h|h)|h
 ·exact .inr (List.mem_of_mem_take h)
 ·exact .inl (by simpa using h)
 ·exact .inr (List.mem_of_mem_drop h)
structure Kept (z z':Zone) (a o:Int) : Prop where
 may:ZoneMay z'
 from_:z'.From=z.From
 to_:z'.To=z.To
 types:z'.Types=z.Types
 cov:∀ i,covP z'.Free i=(covP z.Free i || inB ⟨a,o,0⟩ i)
theorem backV_keep {z:Zone} {a o:Int} (hz:ZoneMay z) (hf:fitsZ z.From z.To a o) (ho:overB z.Free a o=false) : (backV z a o).1=0∧Kept z (backV z a o).2 a o:=by
 have h0 : 0≤z.From:=hz.ok.1
 have hJ:=over_dis (f:=0) (t:=0) hz hf ho
 have hj:=joinL_joined h0 5 (by have:=hf.1;omega) hJ (zone_nxs hz)
 obtain ⟨⟨l,a',o'⟩,hq⟩ : ∃ u,joinL 5 z.Free a o=u:=⟨_,rfl⟩
 rw [hq] at hj
 simp only at hj
 obtain ⟨t,ht⟩ : ∃ t,z.Types.getD ((a'-z.From) / 8).toNat 0=t:=⟨_,rfl⟩
 rw [backV_0 (zoneB_t hz) hf ho hq ht]
 have htok:tyOk t:=by
  subst ht
  rw [List.getD_eq_getElem?_getD]
  cases e:z.Types[((a'-z.From) / 8).toNat]? with
  | none=>exact ⟨by decide,by decide⟩
  | some v =>
   obtain ⟨h,rfl⟩:=List.getElem?_eq_some_iff.1 e
   exact hz.types _ (List.getElem_mem h)
 have hn:=ins_nxs hj t
 refine ⟨rfl,⟨hz.ok,hz.len,hz.types,fun i hi => ?_,fun i hi => ?_⟩,rfl,rfl,rfl,fun i => ?_⟩
 ·rcases mem_insAt (List.getElem_mem hi) with e|e
  ·simp only at e ⊢
   rw [e];exact ⟨hj.ok.fit,htok⟩
  ·exact hj.ok.blk _ e
 ·unfold nxs at hn
  rw [List.pairwise_iff_getElem] at hn
  exact hn i (i+1) (by simp only at hi;omega) hi (Nat.lt_succ_self i)
 ·rw [cov_insAt,← hj.cov i];rfl
end Go.Proofs.YtigikedbffjeiaaGreat
