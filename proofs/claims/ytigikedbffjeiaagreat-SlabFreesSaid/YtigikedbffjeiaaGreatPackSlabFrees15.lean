/-
  Texts of the claim SlabFrees, part 15: what its theorem leans on.
-/
import Derived.Test.YtigikedbffjeiaaGreatPackSlabFrees14
import Derived.Test.YtigikedbffjeiaaGreatPackSlabFrees8
set_option linter.unusedVariables false
set_option linter.unusedSimpArgs false
namespace Go.Proofs.YtigikedbffjeiaaGreat
open Go.RowKit
theorem Own.ne_own {α β : Type} {w:World} {lo lo':Nat} {e e':TypeId} {sz sz':Nat} {enc : α → List Value} {enc' : β → List Value} {A B:Option Addr} {m c k d:Nat} {l:List α} {l':List β}
  (hO:Own w lo e sz enc A m c l) (hS:Own w lo' e' sz' enc' B k d l') (hne:Nat.beq e e'=false) : ownB A c=none∨ownB A c≠ownB B d:=by
 rcases hO.row with ⟨_,rfl⟩|⟨hc,g,cur,rfl,_,h2,_⟩
 ·exact .inl (by simp [ownB])
 ·right
  rcases hS.row with ⟨_,rfl⟩|⟨hd,g',cur',rfl,_,h2',_⟩
  ·simp [ownB,Nat.pos_iff_ne_zero.1 hc]
  ·simp only [ownB,Nat.pos_iff_ne_zero.1 hc,Nat.pos_iff_ne_zero.1 hd,if_false,Option.map_some,ne_eq,Option.some.injEq]
   rintro rfl
   rw [h2] at h2'
   injection h2' with h2'
   injection h2' with _ h _
   subst h
   simp at hne
def FollowV (lo:Nat) (r:Option (List Int)) (v:Value) (w:World) : Prop:=match r with
 | none=>v = .tuple #[.slice none 0 0,.int .i64 8]
 | some out => ∃ A c,v = .tuple #[.slice A out.length c,.int .i64 0]∧Own w lo 3 1 encI A out.length c out∧out.length≤17592186044416
theorem unseen_nil (n:Nat) : unseen n []≤n:=Nat.le_trans (List.length_filter_le _ _) (by simp)
theorem Follow_ans (A:Option Addr) (n c:Nat) (l:List Int) (x most:Int) (w:World) (hl:Sl w 1 encI A n l) (hn:n*8≤140737488355328) :
  Ans Tryz.prog 69 [.slice A n c,.int .i64 x,.int .i64 most] w fun v w' => ∃ r,Follows l most x [] r∧FollowV w.heap.size r v w':=by
 refine ans_of Tryz.func69 rfl Tryz.ntmps69 rfl ?_
 have hw:=Ext.refl w
 have hn':n≤2305843009213693952:=by omega
 have hA:=hl.base
 have hll:=hl.len
 repeat' (first|(first|refine CW.seq ?_|refine CW.region ?_|refine CW.block ?_)|(refine Post.seq ?_)|refine SW.nil ?_|refine SW.pure rfl rfl ?_)
 refine CW.loop (fun s:List Int×Int×Option Addr×Nat=>[(0,.slice A n c),(1,.int .i64 s.2.1),(2,.int .i64 most),(8,.slice s.2.2.1 s.1.length s.2.2.2)])
  (fun s w'=>s.1.length+unseen n s.1≤n∧(∀ r,Follows l most s.2.1 s.1 r→Follows l most x [] r)∧Ext w w'∧Own w' w.heap.size 3 1 encI s.2.2.1 s.1.length s.2.2.2 s.1) (fun s=>unseen n s.1) ([],x,none,0) ⟨rfl,rfl,rfl,rfl,trivial⟩
  ⟨by simpa using unseen_nil n,fun _ h=>h,hw,Own.nil_ _ _ _ _ _ _⟩ ?_
 clear hw
 rintro ⟨out,y,A1,c1⟩ w' ⟨hk,hF,hw,hO⟩
 simp only at hk hF hO ⊢
 by_cases hy:y = -1
 ·repeat' (first|(first|refine CW.seq ?_|refine CW.region ?_|refine CW.condn_f rfl (by omega) ?_|refine CW.ret ?_|refine CW.exit ?_)|(first|refine Post.seq ?_|refine Post.seq_exit ?_|refine Post.hit ?_|refine Post.again_exit ?_)|refine SW.nil ?_|refine SW.pure rfl rfl ?_)
  refine Post.ret2 rfl rfl rfl ⟨_,rfl,hw,some out,hF _ (by subst hy;exact .done _),A1,c1,rfl,hO,by omega⟩
 ·by_cases hm:most≤out.length
  ·repeat' (first|(first|refine CW.seq ?_|refine CW.region ?_|refine CW.block ?_|refine CW.condtr rfl (by with_reducible rfl) ?_|refine CW.condn_t rfl (by omega) ?_|refine CW.skip ?_|refine CW.ret ?_)|(first|refine Post.seq ?_|refine Post.seq_ret ?_|refine Post.blk_ret ?_|refine Post.again_ret ?_)|refine SW.nil ?_|(show SW _ _ _ _ (⟨_,_,_,_,_,some _⟩::_) _ _;first|refine SW.skip_f rfl rfl (by with_reducible rfl) rfl ?_|refine SW.splitd_t rfl rfl rfl (by omega) ?_)|refine SW.pure rfl rfl ?_|(show SW _ _ _ _ (⟨_,Op.call ⟨.builtin .len,_,_⟩,_,_,_,none⟩::_) _ _;refine SW.st (st_len rfl) rfl ?_))
   exact Post.ret2 rfl rfl rfl ⟨_,rfl,hw,none,hF _ (.bad hy (.inl hm)),rfl⟩
  ·by_cases hx : 0≤y∧y<n
   ·obtain ⟨k,rfl⟩:=Int.eq_ofNat_of_zero_le hx.1
    have hkn:k<n:=by omega
    by_cases hmem:(k:Int)∈out
    ·repeat' (first|(first|refine CW.seq ?_|refine CW.region ?_|refine CW.block ?_|refine CW.condn_t rfl (by omega) ?_|refine CW.skip ?_)|(refine Post.seq ?_)|refine SW.nil ?_|(show SW _ _ _ _ (⟨_,_,_,_,_,some _⟩::_) _ _;first|refine SW.want_f rfl rfl (by with_reducible rfl) ?_|refine SW.splitd_f rfl rfl rfl (by omega) ?_|refine SW.splitn_f rfl rfl rfl (by omega) ?_)|refine SW.pure rfl rfl ?_|(show SW _ _ _ _ (⟨_,Op.call ⟨.builtin .len,_,_⟩,_,_,_,none⟩::_) _ _;refine SW.st (st_len rfl) rfl ?_)|(show SW _ _ _ _ (⟨_,Op.call ⟨.value (.func _),_,_⟩,_,_,_,none⟩::_) _ _;(refine SW.call rfl rfl (in_ans _ _ _ _ _ _ hn') ?_;intro v w1 hw1 hv;subst hv;replace hw:=Ext.trans hw hw1;replace hO:=hO.ext hw1;clear hw1)))
     refine SW.call rfl rfl (ContainsInt_ans _ _ _ _ _ _ hO.sl (by omega)) fun v w1 hw1 hv => ?_
     rw [decide_eq_true hmem] at hv
     subst hv
     replace hw:=Ext.trans hw hw1
     repeat' (first|(first|refine CW.seq ?_|refine CW.region ?_|refine CW.condtr rfl (by with_reducible rfl) ?_|refine CW.ret ?_)|(first|refine Post.seq ?_|refine Post.seq_ret ?_|refine Post.blk_ret ?_|refine Post.again_ret ?_)|refine SW.nil ?_|refine SW.pure rfl rfl ?_)
     exact Post.ret2 rfl rfl rfl ⟨_,rfl,hw,none,hF _ (.bad hy (.inr (.inr hmem))),rfl⟩
    ·have hu:=unseen_lt hkn hmem
     repeat' (first|(first|refine CW.seq ?_|refine CW.region ?_|refine CW.block ?_|refine CW.condn_t rfl (by omega) ?_|refine CW.skip ?_)|(refine Post.seq ?_)|refine SW.nil ?_|(show SW _ _ _ _ (⟨_,_,_,_,_,some _⟩::_) _ _;first|refine SW.want_f rfl rfl (by with_reducible rfl) ?_|refine SW.splitd_f rfl rfl rfl (by omega) ?_|refine SW.splitn_f rfl rfl rfl (by omega) ?_)|refine SW.pure rfl rfl ?_|(show SW _ _ _ _ (⟨_,Op.call ⟨.builtin .len,_,_⟩,_,_,_,none⟩::_) _ _;refine SW.st (st_len rfl) rfl ?_)|(show SW _ _ _ _ (⟨_,Op.call ⟨.value (.func _),_,_⟩,_,_,_,none⟩::_) _ _;(refine SW.call rfl rfl (in_ans _ _ _ _ _ _ hn') ?_;intro v w1 hw1 hv;subst hv;replace hw:=Ext.trans hw hw1;replace hO:=hO.ext hw1;clear hw1)))
     refine SW.call rfl rfl (ContainsInt_ans _ _ _ _ _ _ hO.sl (by omega)) fun v w1 hw1 hv => ?_
     rw [decide_eq_false hmem] at hv
     subst hv
     replace hw:=Ext.trans hw hw1
     replace hO:=hO.ext hw1
     repeat' (first|(first|refine CW.seq ?_|refine CW.region ?_|refine CW.condfr rfl (by with_reducible rfl) ?_|refine CW.skip ?_)|(refine Post.seq ?_)|refine SW.nil ?_|refine SW.pure rfl rfl ?_)
     refine SW.build1 rfl rfl rfl rfl rfl fun b w1 hw1 hb hB => ?_
     replace hw:=Ext.trans hw hw1
     replace hO:=hO.ext hw1
     refine SW.append hO (Blk.sl1 (enc:=encI) hB) hw.size rfl rfl rfl (by omega) (by omega) fun A2 c2 w2 hO1 hg => ?_
     replace hw:=ext_grown hw hg (Nat.le_refl _) hO.row_ge
     repeat' (first|(refine CW.region ?_)|(first|refine Post.seq ?_|refine Post.blk ?_)|refine SW.nil ?_|refine SW.pure rfl rfl ?_|(show SW _ _ _ _ (⟨_,Op.indexAddr _ _ _,_,_,_,none⟩::_) _ _;refine SW.st (st_indexN rfl rfl (by assumption) (by omega)) rfl ?_)|(show SW _ _ _ _ (⟨_,Op.load _ _,_,_,_,none⟩::_) _ _;refine SW.st (st_loadx hw rfl (hl.one hkn rfl)) rfl ?_))
     refine Post.again (out++[(k:Int)],l[k]'(hl.lt hkn),A2,c2) ⟨rfl,rfl,rfl,by simp;rfl,trivial⟩ hu ⟨by simp only [List.length_append,List.length_singleton];omega,fun r h=>hF r (.step (by omega) (hl.lt hkn) hmem h),hw,by simpa using hO1⟩
   ·repeat' (first|(first|refine CW.seq ?_|refine CW.region ?_|refine CW.block ?_|refine CW.condtr rfl (by with_reducible rfl) ?_|refine CW.condn_t rfl (by omega) ?_|refine CW.skip ?_|refine CW.ret ?_)|(first|refine Post.seq ?_|refine Post.seq_ret ?_|refine Post.blk_ret ?_|refine Post.again_ret ?_)|refine SW.nil ?_|(show SW _ _ _ _ (⟨_,_,_,_,_,some _⟩::_) _ _;first|refine SW.want_f rfl rfl (by with_reducible rfl) ?_|refine SW.skip_f rfl rfl (by with_reducible rfl) rfl ?_|refine SW.splitd_f rfl rfl rfl (by omega) ?_|refine SW.splitn_t rfl rfl rfl (by omega) ?_)|refine SW.pure rfl rfl ?_|(show SW _ _ _ _ (⟨_,Op.call ⟨.builtin .len,_,_⟩,_,_,_,none⟩::_) _ _;refine SW.st (st_len rfl) rfl ?_)|(show SW _ _ _ _ (⟨_,Op.call ⟨.value (.func _),_,_⟩,_,_,_,none⟩::_) _ _;(refine SW.call rfl rfl (in_ans _ _ _ _ _ _ hn') ?_;intro v w1 hw1 hv;subst hv;replace hw:=Ext.trans hw hw1;replace hO:=hO.ext hw1;clear hw1)))
    exact Post.ret2 rfl rfl rfl ⟨_,rfl,hw,none,hF _ (.bad hy (.inr (.inl (by omega)))),rfl⟩
def seenL (n:Nat) (out:List Int) : List Bool:=(List.range n).map fun i:Nat=>decide ((i:Int)∈out)
theorem seenL_nil (n:Nat) : seenL n []=List.replicate n false:=by
 apply List.ext_getElem (by simp [seenL])
 intro i h1 h2
 simp [seenL]
theorem seenL_set {n k:Nat} {out:List Int}:(seenL n out).set k true=seenL n (out++[(k:Int)]):=by
 apply List.ext_getElem (by simp [seenL])
 intro i h1 h2
 rw [List.getElem_set]
 by_cases h:k=i
 ·subst h;simp [seenL]
 ·have : ¬ i=k:=fun e=>h e.symm
  simp [seenL,h,Int.natCast_inj,this]
theorem seenL_cell {w:World} {B:Option Addr} {n k:Nat} {out:List Int} (h:Sl w 1 encB B n (seenL n out)) (hk:k<n) : w.cell? ((B.getD default).add (k*1))=some (.bool (decide ((k:Int)∈out))):=by
 have:=h.one (u := .bool (decide ((k:Int)∈out))) hk (by simp [encB,seenL])
 exact this
theorem FollowOf_ans (A:Option Addr) (n c:Nat) (l:List Int) (x most:Int) (w:World) (hl:Sl w 1 encI A n l) (hn:n*8≤140737488355328) :
  Ans Tryz.prog 80 [.slice A n c,.int .i64 x,.int .i64 most] w fun v w' => ∃ r,Follows l most x [] r∧FollowV w.heap.size r v w':=by
 refine ans_of Tryz.func80 rfl Tryz.ntmps80 rfl ?_
 have hw:=Ext.refl w
 have hn':n≤2305843009213693952:=by omega
 have hA:=hl.base
 have hll:=hl.len
 repeat' (first|(first|refine CW.seq ?_|refine CW.region ?_)|(refine Post.seq ?_)|refine SW.nil ?_|refine SW.pure rfl rfl ?_|(show SW _ _ _ _ (⟨_,Op.call ⟨.builtin .len,_,_⟩,_,_,_,none⟩::_) _ _;refine SW.st (st_len rfl) rfl ?_))
 refine SW.make (enc:=encB) (k:=n) false rfl rfl rfl (by omega) (by omega) rfl fun B d w1 hw1 hS => ?_
 have hlo:=hw.size
 replace hw:=Ext.trans hw hw1
 rw [← seenL_nil n] at hS
 replace hS:=Own.low hS hlo
 repeat' (first|(first|refine CW.seq ?_|refine CW.region ?_|refine CW.block ?_)|(refine Post.seq ?_)|refine SW.nil ?_|refine SW.pure rfl rfl ?_)
 refine CW.loop (fun s:List Int×Int×Option Addr×Nat=>[(0,.slice A n c),(1,.int .i64 s.2.1),(2,.int .i64 most),(8,.slice B n d),(9,.slice s.2.2.1 s.1.length s.2.2.2)])
  (fun s w'=>s.1.length+unseen n s.1≤n∧(∀ r,Follows l most s.2.1 s.1 r→Follows l most x [] r)∧Ext w w'∧Own w' w.heap.size 3 1 encI s.2.2.1 s.1.length s.2.2.2 s.1∧Own w' w.heap.size 4 1 encB B n d (seenL n s.1)) (fun s=>unseen n s.1) ([],x,none,0) ⟨rfl,rfl,rfl,rfl,rfl,trivial⟩
  ⟨by simpa using unseen_nil n,fun _ h=>h,hw,Own.nil_ _ _ _ _ _ _,hS⟩ ?_
 clear hw hS
 rintro ⟨out,y,A1,c1⟩ w' ⟨hk,hF,hw,hO,hS⟩
 simp only at hk hF hO hS ⊢
 by_cases hy:y = -1
 ·repeat' (first|(first|refine CW.seq ?_|refine CW.region ?_|refine CW.condn_f rfl (by omega) ?_|refine CW.ret ?_|refine CW.exit ?_)|(first|refine Post.seq ?_|refine Post.seq_exit ?_|refine Post.hit ?_|refine Post.again_exit ?_)|refine SW.nil ?_|refine SW.pure rfl rfl ?_)
  refine Post.ret2 rfl rfl rfl ⟨_,rfl,hw,some out,hF _ (by subst hy;exact .done _),A1,c1,rfl,hO,by omega⟩
 ·by_cases hm:most≤out.length
  ·repeat' (first|(first|refine CW.seq ?_|refine CW.region ?_|refine CW.block ?_|refine CW.condtr rfl (by with_reducible rfl) ?_|refine CW.condn_t rfl (by omega) ?_|refine CW.skip ?_|refine CW.ret ?_)|(first|refine Post.seq ?_|refine Post.seq_ret ?_|refine Post.blk_ret ?_|refine Post.again_ret ?_)|refine SW.nil ?_|(show SW _ _ _ _ (⟨_,_,_,_,_,some _⟩::_) _ _;first|refine SW.skip_f rfl rfl (by with_reducible rfl) rfl ?_|refine SW.splitd_t rfl rfl rfl (by omega) ?_)|refine SW.pure rfl rfl ?_|(show SW _ _ _ _ (⟨_,Op.call ⟨.builtin .len,_,_⟩,_,_,_,none⟩::_) _ _;refine SW.st (st_len rfl) rfl ?_))
   exact Post.ret2 rfl rfl rfl ⟨_,rfl,hw,none,hF _ (.bad hy (.inl hm)),rfl⟩
  ·by_cases hx : 0≤y∧y<n
   ·obtain ⟨k,rfl⟩:=Int.eq_ofNat_of_zero_le hx.1
    have hkn:k<n:=by omega
    have hBs:=hS.sl.base
    by_cases hmem:(k:Int)∈out
    ·have hcell:=seenL_cell hS.sl hkn
     rw [decide_eq_true hmem] at hcell
     repeat' (first|(first|refine CW.seq ?_|refine CW.region ?_|refine CW.block ?_|refine CW.condd_t rfl (by omega) ?_|refine CW.condn_t rfl (by omega) ?_|refine CW.skip ?_|refine CW.ret ?_)|(first|refine Post.seq ?_|refine Post.seq_ret ?_|refine Post.blk_ret ?_|refine Post.again_ret ?_)|refine SW.nil ?_|(show SW _ _ _ _ (⟨_,_,_,_,_,some _⟩::_) _ _;first|refine SW.want_f rfl rfl (by with_reducible rfl) ?_|refine SW.splitd_f rfl rfl rfl (by omega) ?_|refine SW.splitn_f rfl rfl rfl (by omega) ?_)|refine SW.pure rfl rfl ?_|(show SW _ _ _ _ (⟨_,Op.indexAddr _ _ _,_,_,_,none⟩::_) _ _;refine SW.st (st_indexN rfl rfl (by assumption) (by omega)) rfl ?_)|(show SW _ _ _ _ (⟨_,Op.call ⟨.builtin .len,_,_⟩,_,_,_,none⟩::_) _ _;refine SW.st (st_len rfl) rfl ?_)|(show SW _ _ _ _ (⟨_,Op.load _ _,_,_,_,none⟩::_) _ _;refine SW.st (st_load rfl (seenL_cell hS.sl hkn)) rfl ?_)|(show SW _ _ _ _ (⟨_,Op.call ⟨.value (.func _),_,_⟩,_,_,_,none⟩::_) _ _;(refine SW.call rfl rfl (there_ans _ _ _ _ _ _ hn') ?_;intro v w1 hw1 hv;subst hv;replace hw:=Ext.trans hw hw1;replace hO:=hO.ext hw1;replace hS:=hS.ext hw1;clear hw1)))
     exact Post.ret2 rfl rfl rfl ⟨_,rfl,hw,none,hF _ (.bad hy (.inr (.inr hmem))),rfl⟩
    ·have hu:=unseen_lt hkn hmem
     repeat' (first|(first|refine CW.seq ?_|refine CW.region ?_|refine CW.block ?_|refine CW.condd_f rfl (by omega) ?_|refine CW.condn_t rfl (by omega) ?_|refine CW.skip ?_)|(refine Post.seq ?_)|refine SW.nil ?_|(show SW _ _ _ _ (⟨_,_,_,_,_,some _⟩::_) _ _;first|refine SW.want_f rfl rfl (by with_reducible rfl) ?_|refine SW.splitd_f rfl rfl rfl (by omega) ?_|refine SW.splitn_f rfl rfl rfl (by omega) ?_)|refine SW.pure rfl rfl ?_|(show SW _ _ _ _ (⟨_,Op.indexAddr _ _ _,_,_,_,none⟩::_) _ _;refine SW.st (st_indexN rfl rfl (by assumption) (by omega)) rfl ?_)|(show SW _ _ _ _ (⟨_,Op.call ⟨.builtin .len,_,_⟩,_,_,_,none⟩::_) _ _;refine SW.st (st_len rfl) rfl ?_)|(show SW _ _ _ _ (⟨_,Op.load _ _,_,_,_,none⟩::_) _ _;refine SW.st (st_load rfl (seenL_cell hS.sl hkn)) rfl ?_)|(show SW _ _ _ _ (⟨_,Op.call ⟨.value (.func _),_,_⟩,_,_,_,none⟩::_) _ _;(refine SW.call rfl rfl (there_ans _ _ _ _ _ _ hn') ?_;intro v w1 hw1 hv;subst hv;replace hw:=Ext.trans hw hw1;replace hO:=hO.ext hw1;replace hS:=hS.ext hw1;clear hw1)))
     refine SW.storeO k 0 true hS rfl rfl rfl hkn (by omega) (by rw [add_zero]) rfl fun w2 hS2 hg => ?_
     replace hw:=ext_grown hw hg (Nat.le_refl _) hS.row_ge
     replace hO:=hO.grown hg (hO.ne_own hS rfl)
     rw [seenL_set] at hS2
     repeat' (first|(first|refine CW.seq ?_|refine CW.region ?_)|(refine Post.seq ?_)|refine SW.nil ?_|refine SW.pure rfl rfl ?_)
     refine SW.build1 rfl rfl rfl rfl rfl fun b w1 hw1 hb hB => ?_
     replace hw:=Ext.trans hw hw1
     replace hO:=hO.ext hw1
     replace hS2:=hS2.ext hw1
     refine SW.append hO (Blk.sl1 (enc:=encI) hB) hw.size rfl rfl rfl (by omega) (by omega) fun A2 c2 w2 hO1 hg => ?_
     replace hw:=ext_grown hw hg (Nat.le_refl _) hO.row_ge
     replace hS2:=hS2.grown hg (hS2.ne_own hO rfl)
     repeat' (first|(refine CW.region ?_)|(first|refine Post.seq ?_|refine Post.blk ?_)|refine SW.nil ?_|refine SW.pure rfl rfl ?_|(show SW _ _ _ _ (⟨_,Op.indexAddr _ _ _,_,_,_,none⟩::_) _ _;refine SW.st (st_indexN rfl rfl (by assumption) (by omega)) rfl ?_)|(show SW _ _ _ _ (⟨_,Op.load _ _,_,_,_,none⟩::_) _ _;refine SW.st (st_loadx hw rfl (hl.one hkn rfl)) rfl ?_))
     refine Post.again (out++[(k:Int)],l[k]'(hl.lt hkn),A2,c2) ⟨rfl,rfl,rfl,rfl,by simp;rfl,trivial⟩ hu ⟨by simp only [List.length_append,List.length_singleton];omega,fun r h=>hF r (.step (by omega) (hl.lt hkn) hmem h),hw,by simpa using hO1,hS2⟩
   ·repeat' (first|(first|refine CW.seq ?_|refine CW.region ?_|refine CW.block ?_|refine CW.condtr rfl (by with_reducible rfl) ?_|refine CW.condn_t rfl (by omega) ?_|refine CW.skip ?_|refine CW.ret ?_)|(first|refine Post.seq ?_|refine Post.seq_ret ?_|refine Post.blk_ret ?_|refine Post.again_ret ?_)|refine SW.nil ?_|(show SW _ _ _ _ (⟨_,_,_,_,_,some _⟩::_) _ _;first|refine SW.want_f rfl rfl (by with_reducible rfl) ?_|refine SW.skip_f rfl rfl (by with_reducible rfl) rfl ?_|refine SW.splitd_f rfl rfl rfl (by omega) ?_|refine SW.splitn_t rfl rfl rfl (by omega) ?_)|refine SW.pure rfl rfl ?_|(show SW _ _ _ _ (⟨_,Op.call ⟨.builtin .len,_,_⟩,_,_,_,none⟩::_) _ _;refine SW.st (st_len rfl) rfl ?_)|(show SW _ _ _ _ (⟨_,Op.call ⟨.value (.func _),_,_⟩,_,_,_,none⟩::_) _ _;(refine SW.call rfl rfl (there_ans _ _ _ _ _ _ hn') ?_;intro v w1 hw1 hv;subst hv;replace hw:=Ext.trans hw hw1;replace hO:=hO.ext hw1;replace hS:=hS.ext hw1;clear hw1)))
    exact Post.ret2 rfl rfl rfl ⟨_,rfl,hw,none,hF _ (.bad hy (.inr (.inl (by omega)))),rfl⟩
open Go.RowKit
structure GB (w w':World) (b:Nat) : Prop where
 g:w.grownBy w' (some b)
theorem GB.refl (w:World) (b:Nat) : GB w w b:=⟨World.grownBy.refl _ _⟩
theorem GB.ext {w w1 w2:World} {b:Nat} (h:GB w w1 b) (hx:Ext w1 w2) : GB w w2 b:=⟨grown_trans h.g (hx.gr (some b)) (.inl rfl)⟩
theorem GB.step {w w1 w2:World} {b:Nat} (h:GB w w1 b) (hg:w1.grownBy w2 (some b)) : GB w w2 b:=⟨grown_trans h.g hg (.inl rfl)⟩
theorem markP_ans (b:Nat) (s:Option (List Block)) (p:Int) (N:Nat) (hN:N=256) (w:World) (hM:Marks w b N s) (hs:goodS s) :
  AnsX Tryz.prog 89 [.pointer (some ⟨b,0,none⟩),.int .i64 p,.int .i64 1] w fun v w'=>Marks w' b N (addB s (pageB p))∧w.grownBy w' (some b):=by
 have h:=markB_ans b s (pageB p) N hN w hM hs (by simp [pageB,pw_zero])
 simp only [pageB,pw_zero] at h ⊢
 exact h
def ListsRes (w wE:World) (b N:Nat) (s:Option (List Block)) (h:Heap) (to:Int) (v:Value) (w':World) : Prop :=
 Ext w w'∧wE.grownBy w' (some b)∧((v = .bool true∧ListsOk h.Cpus to h.Lists∧Marks w' b N (addAll s (pagesB h.Lists)))∨(v = .bool false ∧ ¬ (ListsOk h.Cpus to h.Lists∧(addAll s (pagesB h.Lists)).isSome=true)))
structure LPre (cpus to:Int) (ls:List PList) (k:Nat) : Prop where
 head:∀ (i:Nat) (h:i<ls.length),i<k→headOk cpus ls[i]
 next:∀ (i:Nat) (h:i+1<ls.length),i+1<k→aheadL ls[i] ls[i+1]
 zone:∀ (i:Nat) (h:i<ls.length),i<k → ∀ p∈(ls[i]).Pages,(p<to↔(ls[i]).Zone=0)
theorem LPre.nil (cpus to:Int) (ls:List PList) : LPre cpus to ls 0:=⟨fun i _ h=>by omega,fun i _ h=>by omega,fun i _ h=>by omega⟩
theorem LPre.all {cpus to:Int} {ls:List PList} {k:Nat} (h:LPre cpus to ls k) (hk:ls.length≤k) : ListsOk cpus to ls:=⟨fun i hi=>h.head i hi (by omega),fun i hi=>h.next i hi (by omega),fun i hi=>h.zone i hi (by omega)⟩
theorem LPre.snoc {cpus to:Int} {ls:List PList} {k:Nat} (h:LPre cpus to ls k) (hk:k<ls.length) (h1:headOk cpus ls[k]) (h2:∀ (h : 0<k),aheadL ls[k-1] ls[k]) (h3:∀ p∈(ls[k]).Pages,(p<to↔(ls[k]).Zone=0)) : LPre cpus to ls (k+1):=by
 refine ⟨fun i hi hik => ?_,fun i hi hik => ?_,fun i hi hik => ?_⟩
 ·by_cases e:i=k
  ·subst e;exact h1
  ·exact h.head i hi (by omega)
 ·by_cases e:i+1=k
  ·subst e;exact h2 (by omega)
  ·exact h.next i hi (by omega)
 ·by_cases e:i=k
  ·subst e;exact h3
  ·exact h.zone i hi (by omega)
theorem pagesB_none {s:Option (List Block)} {ls:List PList} {k j:Nat} (hk:k<ls.length) (hj:j≤(ls[k]).Pages.length) (h:addAll (addAll s (pagesB (ls.take k))) (((ls[k]).Pages.take j).map pageB)=none) : addAll s (pagesB ls)=none:=by
 rw [← addAll_append] at h
 have e:pagesB ls=(pagesB (ls.take k)++((ls[k]).Pages.take j).map pageB)++(((ls[k]).Pages.drop j).map pageB++pagesB (ls.drop (k+1))):=by
  have e1:ls=ls.take (k+1)++ls.drop (k+1):=by simp
  have e2:((ls[k]).Pages.take j).map pageB++((ls[k]).Pages.drop j).map pageB=(ls[k]).Pages.map pageB:=by rw [← List.map_append,List.take_append_drop]
  have e3:pagesB ls=pagesB (ls.take (k+1))++pagesB (ls.drop (k+1)):=by unfold pagesB;rw [← List.flatMap_append,← e1]
  rw [e3,pagesB_take _ _ hk,← e2]
  simp only [List.append_assoc]
 rw [e,addAll_append,h,addAll_none]
set_option maxHeartbeats 8000000 in
theorem lists_ans (r:HRow) (h:Heap) (r0 r1:ZRow) (z0 z1:Zone) (b N:Nat) (hN:N=256) (s:Option (List Block)) (w wE:World) (hw:Ext w wE) (hbw:w.heap.size≤b) (hr:RdH2 w r h r0 r1 z0 z1) (hM:Marks wE b N s) (hgs:goodS s) (hsm:r.Lists.n≤1000000000000000000) :
  AnsX Tryz.prog 90 [.agg (encH r).toArray,.pointer (some ⟨b,0,none⟩)] wE (ListsRes w wE b N s h z0.To):=by
 refine ansx_of Tryz.func90 rfl Tryz.ntmps90 rfl ?_
 have hE:=GB.refl wE b
 refine CW.seq (CW.region (SW.box rfl rfl fun b2 w2 hw2 hb2b hb2 => ?_))
 (replace hw:=Ext.trans hw hw2;replace hM:=hM.ext hw2;replace hE:=hE.ext hw2)
 obtain ⟨ls,hl⟩:=hr.rd.lists
 have hcp:=hr.rd.cpus
 obtain ⟨hl1,hl2⟩:=hl.len
 have hA:=hl.row.base
 repeat' (first|(first|refine CW.seq ?_|refine CW.region ?_|refine CW.block ?_)|(refine Post.seq ?_)|refine SW.nil ?_|refine SW.pure rfl rfl ?_|(show SW _ _ _ _ (⟨_,Op.fieldAddr _ _ _,_,_,_,none⟩::_) _ _;refine SW.st (st_field rfl) rfl ?_)|(show SW _ _ _ _ (⟨_,Op.call ⟨.builtin .len,_,_⟩,_,_,_,none⟩::_) _ _;refine SW.st (st_len rfl) rfl ?_)|(show SW _ _ _ _ (⟨_,Op.load _ _,_,_,_,none⟩::_) _ _;refine SW.st (st_load rfl (hb2.cell rfl)) rfl ?_))
 refine CW.loop (fun k:Nat=>[(1,.pointer (some ⟨b,0,none⟩)),(2,.pointer (some ⟨b2,0,none⟩)),(10,.slice r.Lists.A r.Lists.n r.Lists.c),(11,.int .i64 (r.Lists.n:Int)),(12,.int .i64 (k:Int))])
  (fun k w'=>k≤r.Lists.n∧Ext w w'∧GB wE w' b∧Blk w' b2 27 (encH r)∧Marks w' b N (addAll s (pagesB (h.Lists.take k)))∧LPre h.Cpus z0.To h.Lists k) (fun k=>r.Lists.n-k) 0
  ⟨rfl,rfl,rfl,rfl,rfl,trivial⟩ ⟨by omega,hw,hE,hb2,hM,.nil _ _ _⟩ ?_
 clear hw hE hb2 hM hw2
 rintro k w' ⟨hk,hw,hE,hb2,hM,hP⟩
 by_cases hkn:k<r.Lists.n
 ·have hkl:k<ls.length:=by omega
  have hkh:k<h.Lists.length:=by omega
  have hrl:=hl.each.get k hkl hkh
  have hlc:=hrl.cpu
  have hlz:=hrl.zone
  have hlt:=hrl.ty
  have hln:=hrl.pages.len
  have hAp:=hrl.pages.base
  have hpg:=hrl.pages
  have hrow:=hl.row.all hkn
  have hrow':=hl.row.all (i:=k-1) (show k-1<r.Lists.n by omega)
  have hgk:goodS (addAll s (pagesB (h.Lists.take k))):=goodS_all hgs fun x hx=>by
   unfold pagesB at hx
   obtain ⟨y,_,hy⟩:=List.mem_flatMap.1 hx
   obtain ⟨p,_,rfl⟩:=List.mem_map.1 hy
   simp [pageB,pw_zero]
  repeat' (first|(first|refine CW.seq ?_|refine CW.region ?_|refine CW.block ?_|refine CW.condd_t rfl (by omega) ?_|refine CW.skip ?_)|(refine Post.seq ?_)|refine SW.nil ?_|refine SW.pure rfl rfl ?_|(show SW _ _ _ _ (⟨_,Op.indexAddr _ _ _,_,_,_,none⟩::_) _ _;refine SW.st (st_indexN rfl rfl (by assumption) (by omega)) rfl ?_)|(show SW _ _ _ _ (⟨_,Op.load _ _,_,_,_,none⟩::_) _ _;refine SW.st (st_loadsx hw rfl rfl ((hrow))) rfl ?_))
  refine SW.alloc rfl fun b6 w1 hw1 hb6b hb6 => ?_
  repeat' (refine SW.pure rfl rfl ?_)
  refine SW.storeAgg hb6 rfl rfl rfl rfl (Enc.one (enc:=encL) _) fun w2 hb6' hg => ?_
  have hXX:=hw1.own hb6b hg
  have hb6w:w.heap.size≤b6:=Nat.le_trans hw.size hb6b
  replace hw:=Ext.trans hw hXX
  replace hb2:=hb2.ext hXX
  replace hM:=hM.ext hXX
  replace hE:=hE.ext hXX
  replace hb6:=hb6'
  clear hb6' hw1 hg hXX
  repeat' (first|(refine CW.seq ?_)|(refine Post.seq ?_)|refine SW.nil ?_)
  by_cases hhd:headOk r.Cpus h.Lists[k]
  ·obtain ⟨e1,e2,e3,e4⟩:=id hhd
   obtain ⟨q,hq⟩ : ∃ q,decide (aheadL (h.Lists[k-1]'(by omega)) h.Lists[k])=q:=⟨_,rfl⟩
   have hrl1:=hl.each.get (k-1) (by omega) (by omega)
   have cL:∀ w',Ans Tryz.prog 113 [.agg (encL (ls[k-1]'(by omega))).toArray,.agg (encL ls[k]).toArray] w' fun v _=>v = .bool q:=fun w'=>by
    have:=lessL_ans (ls[k-1]'(by omega)) ls[k] (h.Lists[k-1]'(by omega)) h.Lists[k] w' ⟨hrl1.cpu,hrl1.zone,hrl1.ty⟩ ⟨hlc,hlz,hlt⟩
    rwa [hq] at this
   have hcase:k=0∨(0<k∧q=true)∨(0<k∧q=false):=by cases q<;>simp<;>omega
   rw [or_comm,or_assoc] at hcase
   rcases hcase with ⟨hk0,rfl⟩|⟨hk0,rfl⟩|hk0
   rotate_left
   ·repeat' (first|(first|refine CW.seq ?_|refine CW.region ?_|refine CW.condt rfl ?_|refine CW.ret ?_|(apply CW.quiet1 mixed;(· kernel_rfl);rotate_left;intro w1 hw1;replace hw:=Ext.trans hw hw1;replace hb2:=hb2.ext hw1;replace hb6:=hb6.ext hw1;replace hM:=hM.ext hw1;replace hE:=hE.ext hw1;clear hw1;rotate_right))|(first|refine Post.seq ?_|refine Post.seq_ret ?_|refine Post.blk_ret ?_|refine Post.again_ret ?_)|refine SW.nil ?_|(show SW _ _ _ _ (⟨_,_,_,_,_,some _⟩::_) _ _;first|refine SW.want_t rfl rfl (by with_reducible rfl) ?_|refine SW.want_f rfl rfl (by with_reducible rfl) ?_|refine SW.splitd_t rfl rfl rfl (by omega) ?_|refine SW.splitd_f rfl rfl rfl (by omega) ?_)|refine SW.pure rfl rfl ?_|(show SW _ _ _ _ (⟨_,Op.fieldAddr _ _ _,_,_,_,none⟩::_) _ _;refine SW.st (st_field rfl) rfl ?_)|(show SW _ _ _ _ (⟨_,Op.binOp _ _ _ _ _,_,_,_,none⟩::_) _ _;refine SW.st (st_sub rfl rfl (by omega) (by omega)) rfl ?_)|(show SW _ _ _ _ (⟨_,Op.indexAddr _ _ _,_,_,_,none⟩::_) _ _;refine SW.st (st_indexI (k-1) rfl rfl (by assumption) (by omega) (by omega)) rfl ?_)|(show SW _ _ _ _ (⟨_,Op.call ⟨.builtin .len,_,_⟩,_,_,_,none⟩::_) _ _;refine SW.st (st_len rfl) rfl ?_)|(show SW _ _ _ _ (⟨_,Op.load _ _,_,_,_,none⟩::_) _ _;first|refine SW.st (st_load rfl (hb6.cell rfl)) rfl ?_|refine SW.st (st_load rfl (hb2.cell rfl)) rfl ?_|refine SW.st (st_loadsx hw rfl rfl ((hrow'))) rfl ?_|refine SW.st (st_loads rfl rfl ((fun _ _=>hb6.cell))) rfl ?_)|(show SW _ _ _ _ (⟨_,Op.call ⟨.value (.func _),_,_⟩,_,_,_,none⟩::_) _ _;refine SW.qcall rfl rfl (fun w1 hw1=>(cL _)) ?_)|exact SW.qnil rfl)
    exact Post.ret1 rfl rfl ⟨_,rfl,hw,hE.g,.inr ⟨rfl,fun hh=>by
     have:=hh.1.next (k-1) (by omega)
     simp only [show k-1+1=k by omega] at this
     exact of_decide_eq_false hq this⟩⟩
   all_goals
    have hah:∀ (h0 : 0<k),aheadL (h.Lists[k-1]'(by omega)) h.Lists[k]:=fun h0=>by first|exact of_decide_eq_true hq|omega
    repeat' (first|(first|refine CW.seq ?_|refine CW.region ?_|refine CW.block ?_|refine CW.condfr rfl (by with_reducible rfl) ?_|refine CW.condf rfl ?_|refine CW.skip ?_|(apply CW.quiet1 mixed;(· kernel_rfl);rotate_left;intro w1 hw1;replace hw:=Ext.trans hw hw1;replace hb2:=hb2.ext hw1;replace hb6:=hb6.ext hw1;replace hM:=hM.ext hw1;replace hE:=hE.ext hw1;clear hw1;rotate_right))|(refine Post.seq ?_)|refine SW.nil ?_|(show SW _ _ _ _ (⟨_,_,_,_,_,some _⟩::_) _ _;first|refine SW.want_t rfl rfl (by with_reducible rfl) ?_|refine SW.want_f rfl rfl (by with_reducible rfl) ?_|refine SW.skip_t rfl rfl (by with_reducible rfl) rfl ?_|refine SW.splitd_t rfl rfl rfl (by omega) ?_|refine SW.splitd_f rfl rfl rfl (by omega) ?_)|refine SW.pure rfl rfl ?_|(show SW _ _ _ _ (⟨_,Op.fieldAddr _ _ _,_,_,_,none⟩::_) _ _;refine SW.st (st_field rfl) rfl ?_)|(show SW _ _ _ _ (⟨_,Op.binOp _ _ _ _ _,_,_,_,none⟩::_) _ _;refine SW.st (st_sub rfl rfl (by omega) (by omega)) rfl ?_)|(show SW _ _ _ _ (⟨_,Op.indexAddr _ _ _,_,_,_,none⟩::_) _ _;refine SW.st (st_indexI (k-1) rfl rfl (by assumption) (by omega) (by omega)) rfl ?_)|(show SW _ _ _ _ (⟨_,Op.call ⟨.builtin .len,_,_⟩,_,_,_,none⟩::_) _ _;refine SW.st (st_len rfl) rfl ?_)|(show SW _ _ _ _ (⟨_,Op.load _ _,_,_,_,none⟩::_) _ _;first|refine SW.st (st_load rfl (hb6.cell rfl)) rfl ?_|refine SW.st (st_load rfl (hb2.cell rfl)) rfl ?_|refine SW.st (st_loadsx hw rfl rfl ((hrow'))) rfl ?_|refine SW.st (st_loads rfl rfl ((fun _ _=>hb6.cell))) rfl ?_)|(show SW _ _ _ _ (⟨_,Op.call ⟨.value (.func _),_,_⟩,_,_,_,none⟩::_) _ _;refine SW.qcall rfl rfl (fun w1 hw1=>(cL _)) ?_)|exact SW.qnil rfl)
    clear cL hq hrow hrow'
    refine CW.loop (fun j:Nat=>[(1,.pointer (some ⟨b,0,none⟩)),(2,.pointer (some ⟨b2,0,none⟩)),(6,.pointer (some ⟨b6,0,none⟩)),(10,.slice r.Lists.A r.Lists.n r.Lists.c),(11,.int .i64 (r.Lists.n:Int)),(12,.int .i64 (k:Int)),(75,.slice ls[k].Pages.A ls[k].Pages.n ls[k].Pages.c),(76,.int .i64 (ls[k].Pages.n:Int)),(77,.int .i64 (j:Int))])
     (fun j w'=>j≤ls[k].Pages.n∧Ext w w'∧GB wE w' b∧Blk w' b2 27 (encH r)∧Blk w' b6 75 (encL ls[k])∧Marks w' b N (addAll (addAll s (pagesB (h.Lists.take k))) ((h.Lists[k].Pages.take j).map pageB)) ∧ ∀ (i:Nat) (hi:i<h.Lists[k].Pages.length),i<j→(h.Lists[k].Pages[i]<z0.To↔h.Lists[k].Zone=0)) (fun j=>ls[k].Pages.n-j) 0
     ⟨rfl,rfl,rfl,rfl,rfl,rfl,rfl,rfl,rfl,trivial⟩ ⟨by omega,hw,hE,hb2,hb6,hM,fun i _ h=>by omega⟩ ?_
    clear hw hE hb2 hb6 hM hb6b hb6w
    rintro j w' ⟨hj,hw,hE,hb2,hb6,hM,hZ⟩
    by_cases hjn:j<ls[k].Pages.n
    ·have hjl:j<h.Lists[k].Pages.length:=by omega
     repeat' (first|(first|refine CW.seq ?_|refine CW.region ?_|refine CW.block ?_|refine CW.condd_t rfl (by omega) ?_|refine CW.skip ?_)|(refine Post.seq ?_)|refine SW.nil ?_|refine SW.pure rfl rfl ?_|(show SW _ _ _ _ (⟨_,Op.indexAddr _ _ _,_,_,_,none⟩::_) _ _;refine SW.st (st_indexN rfl rfl (by assumption) (by omega)) rfl ?_)|(show SW _ _ _ _ (⟨_,Op.load _ _,_,_,_,none⟩::_) _ _;refine SW.st (st_loadx hw rfl (hpg.one hjn rfl)) rfl ?_))
     refine SW.callX rfl rfl (markP_ans b _ h.Lists[k].Pages[j] N hN _ hM (goodS_all hgk fun x hx=>by
      obtain ⟨p,_,rfl⟩:=List.mem_map.1 hx
      simp [pageB,pw_zero])) fun v w5 hv => ?_
     obtain ⟨hM2,hg5⟩:=hv
     have hG:=hM.gr hg5
     replace hw:=hw.own hbw hg5
     replace hE:=hE.step hg5
     (replace hb2:=hb2.grT hG rfl;replace hb6:=hb6.grT hG rfl)
     have e5:addB (addAll (addAll s (pagesB (h.Lists.take k))) ((h.Lists[k].Pages.take j).map pageB)) (pageB h.Lists[k].Pages[j])=addAll (addAll s (pagesB (h.Lists.take k))) ((h.Lists[k].Pages.take (j+1)).map pageB):=by
      rw [List.take_succ_eq_append_getElem hjl,List.map_append,addAll_append];rfl
     rw [e5] at hM2
     have hbad:=hM2.bad hN
     generalize hp:h.Lists[k].Pages[j]=p
     obtain ⟨y,hy⟩ : ∃ y,(if p<z0.To then (0:Int) else 1)=y:=⟨_,rfl⟩
     have cZ:∀ w',Ext w w'→Ans Tryz.prog 76 [.agg (encH r).toArray,.int .i64 p] w' fun v _=>v = .int .i64 y:=fun w' hx=>by
      have:=Pzone_ans r h r0 r1 z0 z1 p w' (hr.ext hx)
      rwa [hy] at this
     cases hs:addAll (addAll s (pagesB (h.Lists.take k))) ((h.Lists[k].Pages.take (j+1)).map pageB) with
     | none =>
      rw [hs] at hbad
      repeat' (first|(first|refine CW.seq ?_|refine CW.region ?_|refine CW.condtr rfl (by with_reducible rfl) ?_|refine CW.ret ?_|(apply CW.quiet1 mixed;(· kernel_rfl);rotate_left;intro w1 hw1;replace hw:=Ext.trans hw hw1;replace hb2:=hb2.ext hw1;replace hb6:=hb6.ext hw1;replace hM2:=hM2.ext hw1;replace hE:=hE.ext hw1;clear hw1;rotate_right))|(first|refine Post.seq ?_|refine Post.seq_ret ?_|refine Post.blk_ret ?_|refine Post.again_ret ?_)|refine SW.nil ?_|(show SW _ _ _ _ (⟨_,_,_,_,_,some _⟩::_) _ _;refine SW.skip rfl rfl rfl rfl ?_)|refine SW.pure rfl rfl ?_|(show SW _ _ _ _ (⟨_,Op.fieldAddr _ _ _,_,_,_,none⟩::_) _ _;refine SW.st (st_field rfl) rfl ?_)|(show SW _ _ _ _ (⟨_,Op.nilCheck _,_,_,_,none⟩::_) _ _;refine SW.st (st_nilCheck rfl) rfl ?_)|(show SW _ _ _ _ (⟨_,Op.load _ _,_,_,_,none⟩::_) _ _;refine SW.st (st_load rfl hbad) rfl ?_)|exact SW.qnil rfl)
      exact Post.ret1 rfl rfl ⟨_,rfl,hw,hE.g,.inr ⟨rfl,fun hh=>by
       have:=hh.2
       rw [pagesB_none hkh (by omega) hs] at this
       cases this⟩⟩
     | some bs =>
      rw [hs] at hbad
      by_cases hz:y=ls[k].Zone
      ·repeat' (first|(first|refine CW.seq ?_|refine CW.region ?_|refine CW.condn_f rfl (by omega) ?_|refine CW.skip ?_|(apply CW.quiet1 mixed;(· kernel_rfl);rotate_left;intro w1 hw1;replace hw:=Ext.trans hw hw1;replace hb2:=hb2.ext hw1;replace hb6:=hb6.ext hw1;replace hM2:=hM2.ext hw1;replace hE:=hE.ext hw1;clear hw1;rotate_right))|(first|refine Post.seq ?_|refine Post.blk ?_)|refine SW.nil ?_|(show SW _ _ _ _ (⟨_,_,_,_,_,some _⟩::_) _ _;refine SW.want rfl rfl ?_)|refine SW.pure rfl rfl ?_|(show SW _ _ _ _ (⟨_,Op.fieldAddr _ _ _,_,_,_,none⟩::_) _ _;refine SW.st (st_field rfl) rfl ?_)|(show SW _ _ _ _ (⟨_,Op.nilCheck _,_,_,_,none⟩::_) _ _;refine SW.st (st_nilCheck rfl) rfl ?_)|(show SW _ _ _ _ (⟨_,Op.binOp _ _ _ _ _,_,_,_,none⟩::_) _ _;refine SW.st (st_add rfl rfl (by omega) (by omega)) rfl ?_)|(show SW _ _ _ _ (⟨_,Op.load _ _,_,_,_,none⟩::_) _ _;first|refine SW.st (st_load rfl hbad) rfl ?_|refine SW.st (st_load rfl (hb6.cell rfl)) rfl ?_|refine SW.st (st_loads rfl rfl ((fun _ _=>hb2.cell))) rfl ?_)|(show SW _ _ _ _ (⟨_,Op.call ⟨.value (.func _),_,_⟩,_,_,_,none⟩::_) _ _;refine SW.qcall rfl rfl (fun w1 hw1=>(cZ _ (Ext.trans hw hw1))) ?_)|exact SW.qnil rfl)
       refine Post.again (j+1) ⟨rfl,rfl,rfl,rfl,rfl,rfl,rfl,rfl,rfl,trivial⟩ (by omega) ⟨by omega,hw,hE,hb2,hb6,hM2,fun i hi hij => ?_⟩
       by_cases e:i=j
       ·subst e
        rw [hp]
        split at hy<;>constructor<;>intro _<;>omega
       ·exact hZ i hi (by omega)
      ·repeat' (first|(first|refine CW.seq ?_|refine CW.region ?_|refine CW.condn_t rfl (by omega) ?_|refine CW.ret ?_|(apply CW.quiet1 mixed;(· kernel_rfl);rotate_left;intro w1 hw1;replace hw:=Ext.trans hw hw1;replace hb2:=hb2.ext hw1;replace hb6:=hb6.ext hw1;replace hM2:=hM2.ext hw1;replace hE:=hE.ext hw1;clear hw1;rotate_right))|(first|refine Post.seq ?_|refine Post.seq_ret ?_|refine Post.blk_ret ?_|refine Post.again_ret ?_)|refine SW.nil ?_|(show SW _ _ _ _ (⟨_,_,_,_,_,some _⟩::_) _ _;refine SW.want rfl rfl ?_)|refine SW.pure rfl rfl ?_|(show SW _ _ _ _ (⟨_,Op.fieldAddr _ _ _,_,_,_,none⟩::_) _ _;refine SW.st (st_field rfl) rfl ?_)|(show SW _ _ _ _ (⟨_,Op.nilCheck _,_,_,_,none⟩::_) _ _;refine SW.st (st_nilCheck rfl) rfl ?_)|(show SW _ _ _ _ (⟨_,Op.load _ _,_,_,_,none⟩::_) _ _;first|refine SW.st (st_load rfl hbad) rfl ?_|refine SW.st (st_load rfl (hb6.cell rfl)) rfl ?_|refine SW.st (st_loads rfl rfl ((fun _ _=>hb2.cell))) rfl ?_)|(show SW _ _ _ _ (⟨_,Op.call ⟨.value (.func _),_,_⟩,_,_,_,none⟩::_) _ _;refine SW.qcall rfl rfl (fun w1 hw1=>(cZ _ (Ext.trans hw hw1))) ?_)|exact SW.qnil rfl)
       exact Post.ret1 rfl rfl ⟨_,rfl,hw,hE.g,.inr ⟨rfl,fun hh=>by
        have:=hh.1.zone k hkh p (by rw [← hp];exact List.getElem_mem _)
        split at hy<;>omega⟩⟩
    ·obtain rfl:j=ls[k].Pages.n:=by omega
     rw [List.take_of_length_le (l:=h.Lists[k].Pages) (by omega),← addAll_append,← pagesB_take _ _ hkh] at hM
     repeat' (first|(first|refine CW.seq ?_|refine CW.region ?_|refine CW.condd_f rfl (by omega) ?_|refine CW.exit ?_)|(first|refine Post.seq ?_|refine Post.seq_exit ?_|refine Post.hit ?_|refine Post.blk ?_|refine Post.again_exit ?_)|refine SW.nil ?_|refine SW.pure rfl rfl ?_|(show SW _ _ _ _ (⟨_,Op.binOp _ _ _ _ _,_,_,_,none⟩::_) _ _;refine SW.st (st_add rfl rfl (by omega) (by omega)) rfl ?_))
     refine Post.again (k+1) ⟨rfl,rfl,rfl,rfl,rfl,trivial⟩ (by omega) ⟨by omega,hw,hE,hb2,hM,hP.snoc hkh (by rwa [← hcp]) hah fun p hp => ?_⟩
     obtain ⟨i,hi,rfl⟩:=List.getElem_of_mem hp
     exact hZ i hi (by omega)
  ·have hno : ¬ ListsOk h.Cpus z0.To h.Lists:=fun hh=>hhd (by have:=hh.head k hkh;rwa [← hcp] at this)
   have hhd' : ¬ (((0≤ls[k].Cpu∧ls[k].Cpu<r.Cpus)∧(0≤ls[k].Zone∧ls[k].Zone≤1)∧(0≤ls[k].Ty∧ls[k].Ty≤2)∧(1≤ls[k].Pages.n∧ls[k].Pages.n≤8))):=fun hh=>hhd (by unfold headOk;omega)
   have hcs:ls[k].Cpu<0∨(0≤ls[k].Cpu∧(r.Cpus≤ls[k].Cpu∨(ls[k].Cpu<r.Cpus∧(ls[k].Zone<0∨(0≤ls[k].Zone∧(1<ls[k].Zone∨(ls[k].Zone≤1∧(ls[k].Ty<0∨(0≤ls[k].Ty∧(3≤ls[k].Ty∨(ls[k].Ty<3∧(ls[k].Pages.n=0∨(0<ls[k].Pages.n∧8<ls[k].Pages.n))))))))))))):=by omega
   rcases hcs with d|⟨d1,d|⟨d2,d|⟨d3,d|⟨d4,d|⟨d5,d|⟨d6,d|⟨d7,d⟩⟩⟩⟩⟩⟩⟩
   repeat' (first|(first|refine CW.seq ?_|refine CW.region ?_|refine CW.condtr rfl (by with_reducible rfl) ?_|refine CW.ret ?_|(apply CW.quiet1 mixed;(· kernel_rfl);rotate_left;intro w1 hw1;replace hw:=Ext.trans hw hw1;replace hb2:=hb2.ext hw1;replace hb6:=hb6.ext hw1;replace hM:=hM.ext hw1;replace hE:=hE.ext hw1;clear hw1;rotate_right))|(first|refine Post.seq ?_|refine Post.seq_ret ?_|refine Post.blk_ret ?_|refine Post.again_ret ?_)|refine SW.nil ?_|(show SW _ _ _ _ (⟨_,_,_,_,_,some _⟩::_) _ _;first|refine SW.want_f rfl rfl (by with_reducible rfl) ?_|refine SW.skip_f rfl rfl (by with_reducible rfl) rfl ?_|refine SW.skip_u rfl rfl (by with_reducible rfl) rfl ?_|refine SW.splitd_t rfl rfl rfl (by omega) ?_|refine SW.splitd_f rfl rfl rfl (by omega) ?_)|refine SW.pure rfl rfl ?_|(show SW _ _ _ _ (⟨_,Op.fieldAddr _ _ _,_,_,_,none⟩::_) _ _;refine SW.st (st_field rfl) rfl ?_)|(show SW _ _ _ _ (⟨_,Op.call ⟨.builtin .len,_,_⟩,_,_,_,none⟩::_) _ _;refine SW.st (st_len rfl) rfl ?_)|(show SW _ _ _ _ (⟨_,Op.load _ _,_,_,_,none⟩::_) _ _;first|refine SW.st (st_load rfl (hb6.cell rfl)) rfl ?_|refine SW.st (st_load rfl (hb2.cell rfl)) rfl ?_)|exact SW.qnil rfl)
   all_goals exact Post.ret1 rfl rfl ⟨_,rfl,hw,hE.g,.inr ⟨rfl,fun hh=>hno hh.1⟩⟩
 ·obtain rfl:k=r.Lists.n:=by omega
  rw [List.take_of_length_le (l:=h.Lists) (by omega)] at hM
  repeat' (first|(first|refine CW.seq ?_|refine CW.region ?_|refine CW.condd_f rfl (by omega) ?_|refine CW.ret ?_|refine CW.exit ?_)|(first|refine Post.seq ?_|refine Post.seq_exit ?_|refine Post.hit ?_|refine Post.again_exit ?_)|refine SW.nil ?_|refine SW.pure rfl rfl ?_)
  exact Post.ret1 rfl rfl ⟨_,rfl,hw,hE.g,.inl ⟨rfl,hP.all (by omega),hM⟩⟩
open Go.RowKit
theorem addAll_fits {l:List Block}:∀ {s:Option (List Block)},(addAll s l).isSome=true → ∀ b∈l,0≤b.At∧b.At+pw b.Order≤256:=by
 induction l with
 | nil=>intro s _ b hb;simp at hb
 | cons x l ih =>
  intro s h b hb
  have h':(addAll (addB s x) l).isSome=true:=h
  rcases List.mem_cons.1 hb with rfl|hb
  ·cases e:addB s b with
   | none=>rw [e,addAll_none] at h';cases h'
   | some bs=>obtain ⟨cs,_,hf,_⟩:=addB_some e;exact ⟨hf.1,hf.2.1⟩
  ·exact ih h' b hb
def liveC (b:Block) : Prop:=(0≤b.Order∧b.Order≤4)∧0≤b.At∧b.At % pw b.Order=0∧tyOk b.Ty
structure VPre (l:List Block) (k:Nat) : Prop where
 each:∀ (i:Nat) (h:i<l.length),i<k→liveC l[i]
 next:∀ (i:Nat) (h:i+1<l.length),i+1<k→l[i].At<l[i+1].At
theorem VPre.nil (l:List Block) : VPre l 0:=⟨fun i _ h=>by omega,fun i _ h=>by omega⟩
theorem VPre.snoc {l:List Block} {k:Nat} (h:VPre l k) (hk:k<l.length) (h1:liveC l[k]) (h2:∀ (h : 0<k),l[k-1].At<l[k].At) : VPre l (k+1):=by
 refine ⟨fun i hi hik => ?_,fun i hi hik => ?_⟩
 ·by_cases e:i=k
  ·subst e;exact h1
  ·exact h.each i hi (by omega)
 ·by_cases e:i+1=k
  ·subst e;exact h2 (by omega)
  ·exact h.next i hi (by omega)
theorem VPre.ok {l:List Block} {k:Nat} {s:Option (List Block)} (h:VPre l k) (hk:l.length≤k) (hf:(addAll s l).isSome=true) : LiveOk l:=by
 refine ⟨fun i hi => ?_,fun i hi=>h.next i hi (by omega)⟩
 obtain ⟨h1,h2,h3,h4⟩:=h.each i hi (by omega)
 have h5:=addAll_fits hf _ (List.getElem_mem hi)
 have h6:=pw_le h1.1 h1.2
 exact ⟨h1,⟨h2,by omega⟩,h3,h4⟩
def outM (n:Int) : Bool:=decide (n<0) || decide (256<n)
theorem Pout_ans (x:Int) (w:World) : Ans Tryz.prog 88 ([.int .i64 x]++[]) w fun v _=>v = .bool (outM x):=by
 refine ans_of Tryz.func88 rfl Tryz.ntmps88 rfl ?_
 have hw:=Ext.refl w
 have hcs:x<0∨(0≤x∧(256<x∨x≤256)):=by omega
 rcases hcs with d|⟨d1,d|d⟩
 repeat' (first|(first|refine CW.seq ?_|refine CW.region ?_|refine CW.ret ?_)|(refine Post.seq ?_)|refine SW.nil ?_|(show SW _ _ _ _ (⟨_,_,_,_,_,some _⟩::_) _ _;first|refine SW.want_f rfl rfl (by with_reducible rfl) ?_|refine SW.skip_f rfl rfl (by with_reducible rfl) rfl ?_|refine SW.splitd_t rfl rfl rfl (by omega) ?_|refine SW.splitd_f rfl rfl rfl (by omega) ?_)|refine SW.pure rfl rfl ?_)
 all_goals exact Post.ret1 rfl rfl ⟨_,rfl,hw,by unfold outM;simp;omega⟩
end Go.Proofs.YtigikedbffjeiaaGreat
