/-
  Texts of the claim KmemNew, part 6: what its theorem leans on.
-/
import Derived.Test.YtbidkghlpijecaaGreatDoorPackKmemNew5
import Derived.Test.YtbidkghlpijecaaGreatDoorPackKmemNew3
import Derived.Test.YtbidkghlpijecaaGreatDoorPackKmemNew2
set_option linter.unusedVariables false
set_option linter.unusedSimpArgs false
namespace Go.Proofs.YtbidkghlpijecaaGreatDoor
open Go.RowKit
theorem Own.ne_own {α β : Type} {w:World} {lo lo':Nat} {e e':TypeId} {sz sz':Nat} {enc : α → List Value} {enc' : β → List Value} {A B:Option Addr} {m c k d:Nat} {l:List α} {l':List β}
 (hO:Own w lo e sz enc A m c l) (hS:Own w lo' e' sz' enc' B k d l') (hne:Nat.beq e e'=false) : ownB A c=none∨ownB A c≠ownB B d:=by
 rcases hO.row with ⟨_,rfl⟩|⟨hc,g,cur,rfl,_,h2,_⟩
 ·exact .inl (by simp [ownB])
 ·right
  rcases hS.row with ⟨_,rfl⟩|⟨hd,g',cur',rfl,_,h2',_⟩
  ·simp [ownB,Nat.pos_iff_ne_zero.1 hc]
  ·simp only [ownB,Nat.pos_iff_ne_zero.1 hc,Nat.pos_iff_ne_zero.1 hd,if_false,Option.map_some,ne_eq,Option.some.injEq]
   rintro rfl
   rw [h2] at h2'
   injection h2' with h2'
   injection h2' with _ h _
   subst h
   simp at hne
def FollowV (lo:Nat) (r:Option (List Int)) (v:Value) (w:World) : Prop:=match r with
 | none=>v = .tuple #[.slice none 0 0,.int .i64 8]
 | some out => ∃ A c,v = .tuple #[.slice A out.length c,.int .i64 0]∧Own w lo 3 1 encI A out.length c out∧out.length≤17592186044416
theorem unseen_nil (n:Nat) : unseen n []≤n:=Nat.le_trans (List.length_filter_le _ _) (by simp)
theorem Follow_ans (A:Option Addr) (n c:Nat) (l:List Int) (x most:Int) (w:World) (hl:Sl w 1 encI A n l) (hn:n*8≤140737488355328) :
 Ans Tryz.prog 184 [.slice A n c,.int .i64 x,.int .i64 most] w fun v w' => ∃ r,Follows l most x [] r∧FollowV w.heap.size r v w':=by
 refine ans_of Tryz.func184 rfl Tryz.ntmps184 rfl ?_
 have hw:=Ext.refl w
 have hn':n≤2305843009213693952:=by omega
 have hA:=hl.base
 have hll:=hl.len
 repeat' (first|(first|refine CW.seq ?_|refine CW.region ?_|refine CW.block ?_)|(refine Post.seq ?_)|refine SW.nil ?_|refine SW.pure rfl rfl ?_)
 refine CW.loop (fun s:List Int×Int×Option Addr×Nat=>[(0,.slice A n c),(1,.int .i64 s.2.1),(2,.int .i64 most),(8,.slice s.2.2.1 s.1.length s.2.2.2)])
  (fun s w'=>s.1.length+unseen n s.1≤n∧(∀ r,Follows l most s.2.1 s.1 r→Follows l most x [] r)∧Ext w w'∧Own w' w.heap.size 3 1 encI s.2.2.1 s.1.length s.2.2.2 s.1) (fun s=>unseen n s.1) ([],x,none,0) ⟨rfl,rfl,rfl,rfl,trivial⟩
  ⟨by simpa using unseen_nil n,fun _ h=>h,hw,Own.nil_ _ _ _ _ _ _⟩ ?_
 clear hw
 rintro ⟨out,y,A1,c1⟩ w' ⟨hk,hF,hw,hO⟩
 simp only at hk hF hO ⊢
 by_cases hy:y = -1
 ·repeat' (first|(first|refine CW.seq ?_|refine CW.region ?_|refine CW.condn_f rfl (by omega) ?_|refine CW.ret ?_|refine CW.exit ?_)|(first|refine Post.seq ?_|refine Post.seq_exit ?_|refine Post.hit ?_|refine Post.again_exit ?_)|refine SW.nil ?_|refine SW.pure rfl rfl ?_)
  refine Post.ret2 rfl rfl rfl ⟨_,rfl,hw,some out,hF _ (by subst hy;exact .done _),A1,c1,rfl,hO,by omega⟩
 ·by_cases hm:most≤out.length
  ·repeat' (first|(first|refine CW.seq ?_|refine CW.region ?_|refine CW.block ?_|refine CW.condtr rfl (by with_reducible rfl) ?_|refine CW.condn_t rfl (by omega) ?_|refine CW.skip ?_|refine CW.ret ?_)|(first|refine Post.seq ?_|refine Post.seq_ret ?_|refine Post.blk_ret ?_|refine Post.again_ret ?_)|refine SW.nil ?_|(show SW _ _ _ _ (⟨_,_,_,_,_,some _⟩::_) _ _;first|refine SW.skip_f rfl rfl (by with_reducible rfl) rfl ?_|refine SW.splitd_t rfl rfl rfl (by omega) ?_)|refine SW.pure rfl rfl ?_|(show SW _ _ _ _ (⟨_,Op.call ⟨.builtin .len,_,_⟩,_,_,_,none⟩::_) _ _;refine SW.st (st_len rfl) rfl ?_))
   exact Post.ret2 rfl rfl rfl ⟨_,rfl,hw,none,hF _ (.bad hy (.inl hm)),rfl⟩
  ·by_cases hx : 0≤y∧y<n
   ·obtain ⟨k,rfl⟩:=Int.eq_ofNat_of_zero_le hx.1
    have hkn:k<n:=by omega
    by_cases hmem:(k:Int)∈out
    ·repeat' (first|(first|refine CW.seq ?_|refine CW.region ?_|refine CW.block ?_|refine CW.condn_t rfl (by omega) ?_|refine CW.skip ?_)|(refine Post.seq ?_)|refine SW.nil ?_|(show SW _ _ _ _ (⟨_,_,_,_,_,some _⟩::_) _ _;first|refine SW.want_f rfl rfl (by with_reducible rfl) ?_|refine SW.splitd_f rfl rfl rfl (by omega) ?_|refine SW.splitn_f rfl rfl rfl (by omega) ?_)|refine SW.pure rfl rfl ?_|(show SW _ _ _ _ (⟨_,Op.call ⟨.builtin .len,_,_⟩,_,_,_,none⟩::_) _ _;refine SW.st (st_len rfl) rfl ?_)|(show SW _ _ _ _ (⟨_,Op.call ⟨.value (.func _),_,_⟩,_,_,_,none⟩::_) _ _;(refine SW.call rfl rfl (in_ans _ _ _ _ _ _ hn') ?_;intro v w1 hw1 hv;subst hv;replace hw:=Ext.trans hw hw1;replace hO:=hO.ext hw1;clear hw1)))
     refine SW.call rfl rfl (ContainsInt_ans _ _ _ _ _ _ hO.sl (by omega)) fun v w1 hw1 hv => ?_
     rw [decide_eq_true hmem] at hv
     subst hv
     replace hw:=Ext.trans hw hw1
     repeat' (first|(first|refine CW.seq ?_|refine CW.region ?_|refine CW.condtr rfl (by with_reducible rfl) ?_|refine CW.ret ?_)|(first|refine Post.seq ?_|refine Post.seq_ret ?_|refine Post.blk_ret ?_|refine Post.again_ret ?_)|refine SW.nil ?_|refine SW.pure rfl rfl ?_)
     exact Post.ret2 rfl rfl rfl ⟨_,rfl,hw,none,hF _ (.bad hy (.inr (.inr hmem))),rfl⟩
    ·have hu:=unseen_lt hkn hmem
     repeat' (first|(first|refine CW.seq ?_|refine CW.region ?_|refine CW.block ?_|refine CW.condn_t rfl (by omega) ?_|refine CW.skip ?_)|(refine Post.seq ?_)|refine SW.nil ?_|(show SW _ _ _ _ (⟨_,_,_,_,_,some _⟩::_) _ _;first|refine SW.want_f rfl rfl (by with_reducible rfl) ?_|refine SW.splitd_f rfl rfl rfl (by omega) ?_|refine SW.splitn_f rfl rfl rfl (by omega) ?_)|refine SW.pure rfl rfl ?_|(show SW _ _ _ _ (⟨_,Op.call ⟨.builtin .len,_,_⟩,_,_,_,none⟩::_) _ _;refine SW.st (st_len rfl) rfl ?_)|(show SW _ _ _ _ (⟨_,Op.call ⟨.value (.func _),_,_⟩,_,_,_,none⟩::_) _ _;(refine SW.call rfl rfl (in_ans _ _ _ _ _ _ hn') ?_;intro v w1 hw1 hv;subst hv;replace hw:=Ext.trans hw hw1;replace hO:=hO.ext hw1;clear hw1)))
     refine SW.call rfl rfl (ContainsInt_ans _ _ _ _ _ _ hO.sl (by omega)) fun v w1 hw1 hv => ?_
     rw [decide_eq_false hmem] at hv
     subst hv
     replace hw:=Ext.trans hw hw1
     replace hO:=hO.ext hw1
     repeat' (first|(first|refine CW.seq ?_|refine CW.region ?_|refine CW.condfr rfl (by with_reducible rfl) ?_|refine CW.skip ?_)|(refine Post.seq ?_)|refine SW.nil ?_|refine SW.pure rfl rfl ?_)
     refine SW.build1 rfl rfl rfl rfl rfl fun b w1 hw1 hb hB => ?_
     replace hw:=Ext.trans hw hw1
     replace hO:=hO.ext hw1
     refine SW.append hO (Blk.sl1 (enc:=encI) hB) hw.size rfl rfl rfl (by omega) (by omega) fun A2 c2 w2 hO1 hg => ?_
     replace hw:=ext_grown hw hg (Nat.le_refl _) hO.row_ge
     repeat' (first|(refine CW.region ?_)|(first|refine Post.seq ?_|refine Post.blk ?_)|refine SW.nil ?_|refine SW.pure rfl rfl ?_|(show SW _ _ _ _ (⟨_,Op.indexAddr _ _ _,_,_,_,none⟩::_) _ _;refine SW.st (st_indexN rfl rfl (by assumption) (by omega)) rfl ?_)|(show SW _ _ _ _ (⟨_,Op.load _ _,_,_,_,none⟩::_) _ _;refine SW.st (st_loadx hw rfl (hl.one hkn rfl)) rfl ?_))
     refine Post.again (out++[(k:Int)],l[k]'(hl.lt hkn),A2,c2) ⟨rfl,rfl,rfl,by simp;rfl,trivial⟩ hu ⟨by simp only [List.length_append,List.length_singleton];omega,fun r h=>hF r (.step (by omega) (hl.lt hkn) hmem h),hw,by simpa using hO1⟩
   ·repeat' (first|(first|refine CW.seq ?_|refine CW.region ?_|refine CW.block ?_|refine CW.condtr rfl (by with_reducible rfl) ?_|refine CW.condn_t rfl (by omega) ?_|refine CW.skip ?_|refine CW.ret ?_)|(first|refine Post.seq ?_|refine Post.seq_ret ?_|refine Post.blk_ret ?_|refine Post.again_ret ?_)|refine SW.nil ?_|(show SW _ _ _ _ (⟨_,_,_,_,_,some _⟩::_) _ _;first|refine SW.want_f rfl rfl (by with_reducible rfl) ?_|refine SW.skip_f rfl rfl (by with_reducible rfl) rfl ?_|refine SW.splitd_f rfl rfl rfl (by omega) ?_|refine SW.splitn_t rfl rfl rfl (by omega) ?_)|refine SW.pure rfl rfl ?_|(show SW _ _ _ _ (⟨_,Op.call ⟨.builtin .len,_,_⟩,_,_,_,none⟩::_) _ _;refine SW.st (st_len rfl) rfl ?_)|(show SW _ _ _ _ (⟨_,Op.call ⟨.value (.func _),_,_⟩,_,_,_,none⟩::_) _ _;(refine SW.call rfl rfl (in_ans _ _ _ _ _ _ hn') ?_;intro v w1 hw1 hv;subst hv;replace hw:=Ext.trans hw hw1;replace hO:=hO.ext hw1;clear hw1)))
    exact Post.ret2 rfl rfl rfl ⟨_,rfl,hw,none,hF _ (.bad hy (.inr (.inl (by omega)))),rfl⟩
def seenL (n:Nat) (out:List Int) : List Bool:=(List.range n).map fun i:Nat=>decide ((i:Int)∈out)
theorem seenL_nil (n:Nat) : seenL n []=List.replicate n false:=by
 apply List.ext_getElem (by simp [seenL])
 intro i h1 h2
 simp [seenL]
theorem seenL_set {n k:Nat} {out:List Int}:(seenL n out).set k true=seenL n (out++[(k:Int)]):=by
 apply List.ext_getElem (by simp [seenL])
 intro i h1 h2
 rw [List.getElem_set]
 by_cases h:k=i
 ·subst h;simp [seenL]
 ·have : ¬ i=k:=fun e=>h e.symm
  simp [seenL,h,Int.natCast_inj,this]
theorem seenL_cell {w:World} {B:Option Addr} {n k:Nat} {out:List Int} (h:Sl w 1 encB B n (seenL n out)) (hk:k<n) : w.cell? ((B.getD default).add (k*1))=some (.bool (decide ((k:Int)∈out))):=by
 have:=h.one (u := .bool (decide ((k:Int)∈out))) hk (by simp [encB,seenL])
 exact this
theorem FollowOf_ans (A:Option Addr) (n c:Nat) (l:List Int) (x most:Int) (w:World) (hl:Sl w 1 encI A n l) (hn:n*8≤140737488355328) :
 Ans Tryz.prog 237 [.slice A n c,.int .i64 x,.int .i64 most] w fun v w' => ∃ r,Follows l most x [] r∧FollowV w.heap.size r v w':=by
 refine ans_of Tryz.func237 rfl Tryz.ntmps237 rfl ?_
 have hw:=Ext.refl w
 have hn':n≤2305843009213693952:=by omega
 have hA:=hl.base
 have hll:=hl.len
 repeat' (first|(first|refine CW.seq ?_|refine CW.region ?_)|(refine Post.seq ?_)|refine SW.nil ?_|refine SW.pure rfl rfl ?_|(show SW _ _ _ _ (⟨_,Op.call ⟨.builtin .len,_,_⟩,_,_,_,none⟩::_) _ _;refine SW.st (st_len rfl) rfl ?_))
 refine SW.make (enc:=encB) (k:=n) false rfl rfl rfl (by omega) (by omega) rfl fun B d w1 hw1 hS => ?_
 have hlo:=hw.size
 replace hw:=Ext.trans hw hw1
 rw [← seenL_nil n] at hS
 replace hS:=Own.low hS hlo
 repeat' (first|(first|refine CW.seq ?_|refine CW.region ?_|refine CW.block ?_)|(refine Post.seq ?_)|refine SW.nil ?_|refine SW.pure rfl rfl ?_)
 refine CW.loop (fun s:List Int×Int×Option Addr×Nat=>[(0,.slice A n c),(1,.int .i64 s.2.1),(2,.int .i64 most),(8,.slice B n d),(9,.slice s.2.2.1 s.1.length s.2.2.2)])
  (fun s w'=>s.1.length+unseen n s.1≤n∧(∀ r,Follows l most s.2.1 s.1 r→Follows l most x [] r)∧Ext w w'∧Own w' w.heap.size 3 1 encI s.2.2.1 s.1.length s.2.2.2 s.1∧Own w' w.heap.size 4 1 encB B n d (seenL n s.1)) (fun s=>unseen n s.1) ([],x,none,0) ⟨rfl,rfl,rfl,rfl,rfl,trivial⟩
  ⟨by simpa using unseen_nil n,fun _ h=>h,hw,Own.nil_ _ _ _ _ _ _,hS⟩ ?_
 clear hw hS
 rintro ⟨out,y,A1,c1⟩ w' ⟨hk,hF,hw,hO,hS⟩
 simp only at hk hF hO hS ⊢
 by_cases hy:y = -1
 ·repeat' (first|(first|refine CW.seq ?_|refine CW.region ?_|refine CW.condn_f rfl (by omega) ?_|refine CW.ret ?_|refine CW.exit ?_)|(first|refine Post.seq ?_|refine Post.seq_exit ?_|refine Post.hit ?_|refine Post.again_exit ?_)|refine SW.nil ?_|refine SW.pure rfl rfl ?_)
  refine Post.ret2 rfl rfl rfl ⟨_,rfl,hw,some out,hF _ (by subst hy;exact .done _),A1,c1,rfl,hO,by omega⟩
 ·by_cases hm:most≤out.length
  ·repeat' (first|(first|refine CW.seq ?_|refine CW.region ?_|refine CW.block ?_|refine CW.condtr rfl (by with_reducible rfl) ?_|refine CW.condn_t rfl (by omega) ?_|refine CW.skip ?_|refine CW.ret ?_)|(first|refine Post.seq ?_|refine Post.seq_ret ?_|refine Post.blk_ret ?_|refine Post.again_ret ?_)|refine SW.nil ?_|(show SW _ _ _ _ (⟨_,_,_,_,_,some _⟩::_) _ _;first|refine SW.skip_f rfl rfl (by with_reducible rfl) rfl ?_|refine SW.splitd_t rfl rfl rfl (by omega) ?_)|refine SW.pure rfl rfl ?_|(show SW _ _ _ _ (⟨_,Op.call ⟨.builtin .len,_,_⟩,_,_,_,none⟩::_) _ _;refine SW.st (st_len rfl) rfl ?_))
   exact Post.ret2 rfl rfl rfl ⟨_,rfl,hw,none,hF _ (.bad hy (.inl hm)),rfl⟩
  ·by_cases hx : 0≤y∧y<n
   ·obtain ⟨k,rfl⟩:=Int.eq_ofNat_of_zero_le hx.1
    have hkn:k<n:=by omega
    have hBs:=hS.sl.base
    by_cases hmem:(k:Int)∈out
    ·have hcell:=seenL_cell hS.sl hkn
     rw [decide_eq_true hmem] at hcell
     repeat' (first|(first|refine CW.seq ?_|refine CW.region ?_|refine CW.block ?_|refine CW.condd_t rfl (by omega) ?_|refine CW.condn_t rfl (by omega) ?_|refine CW.skip ?_|refine CW.ret ?_)|(first|refine Post.seq ?_|refine Post.seq_ret ?_|refine Post.blk_ret ?_|refine Post.again_ret ?_)|refine SW.nil ?_|(show SW _ _ _ _ (⟨_,_,_,_,_,some _⟩::_) _ _;first|refine SW.want_f rfl rfl (by with_reducible rfl) ?_|refine SW.splitd_f rfl rfl rfl (by omega) ?_|refine SW.splitn_f rfl rfl rfl (by omega) ?_)|refine SW.pure rfl rfl ?_|(show SW _ _ _ _ (⟨_,Op.indexAddr _ _ _,_,_,_,none⟩::_) _ _;refine SW.st (st_indexN rfl rfl (by assumption) (by omega)) rfl ?_)|(show SW _ _ _ _ (⟨_,Op.call ⟨.builtin .len,_,_⟩,_,_,_,none⟩::_) _ _;refine SW.st (st_len rfl) rfl ?_)|(show SW _ _ _ _ (⟨_,Op.load _ _,_,_,_,none⟩::_) _ _;refine SW.st (st_load rfl (seenL_cell hS.sl hkn)) rfl ?_)|(show SW _ _ _ _ (⟨_,Op.call ⟨.value (.func _),_,_⟩,_,_,_,none⟩::_) _ _;(refine SW.call rfl rfl (there_ans _ _ _ _ _ _ hn') ?_;intro v w1 hw1 hv;subst hv;replace hw:=Ext.trans hw hw1;replace hO:=hO.ext hw1;replace hS:=hS.ext hw1;clear hw1)))
     exact Post.ret2 rfl rfl rfl ⟨_,rfl,hw,none,hF _ (.bad hy (.inr (.inr hmem))),rfl⟩
    ·have hu:=unseen_lt hkn hmem
     repeat' (first|(first|refine CW.seq ?_|refine CW.region ?_|refine CW.block ?_|refine CW.condd_f rfl (by omega) ?_|refine CW.condn_t rfl (by omega) ?_|refine CW.skip ?_)|(refine Post.seq ?_)|refine SW.nil ?_|(show SW _ _ _ _ (⟨_,_,_,_,_,some _⟩::_) _ _;first|refine SW.want_f rfl rfl (by with_reducible rfl) ?_|refine SW.splitd_f rfl rfl rfl (by omega) ?_|refine SW.splitn_f rfl rfl rfl (by omega) ?_)|refine SW.pure rfl rfl ?_|(show SW _ _ _ _ (⟨_,Op.indexAddr _ _ _,_,_,_,none⟩::_) _ _;refine SW.st (st_indexN rfl rfl (by assumption) (by omega)) rfl ?_)|(show SW _ _ _ _ (⟨_,Op.call ⟨.builtin .len,_,_⟩,_,_,_,none⟩::_) _ _;refine SW.st (st_len rfl) rfl ?_)|(show SW _ _ _ _ (⟨_,Op.load _ _,_,_,_,none⟩::_) _ _;refine SW.st (st_load rfl (seenL_cell hS.sl hkn)) rfl ?_)|(show SW _ _ _ _ (⟨_,Op.call ⟨.value (.func _),_,_⟩,_,_,_,none⟩::_) _ _;(refine SW.call rfl rfl (there_ans _ _ _ _ _ _ hn') ?_;intro v w1 hw1 hv;subst hv;replace hw:=Ext.trans hw hw1;replace hO:=hO.ext hw1;replace hS:=hS.ext hw1;clear hw1)))
     refine SW.storeO k 0 true hS rfl rfl rfl hkn (by omega) (by rw [add_zero]) rfl fun w2 hS2 hg => ?_
     replace hw:=ext_grown hw hg (Nat.le_refl _) hS.row_ge
     replace hO:=hO.grown hg (hO.ne_own hS rfl)
     rw [seenL_set] at hS2
     repeat' (first|(first|refine CW.seq ?_|refine CW.region ?_)|(refine Post.seq ?_)|refine SW.nil ?_|refine SW.pure rfl rfl ?_)
     refine SW.build1 rfl rfl rfl rfl rfl fun b w1 hw1 hb hB => ?_
     replace hw:=Ext.trans hw hw1
     replace hO:=hO.ext hw1
     replace hS2:=hS2.ext hw1
     refine SW.append hO (Blk.sl1 (enc:=encI) hB) hw.size rfl rfl rfl (by omega) (by omega) fun A2 c2 w2 hO1 hg => ?_
     replace hw:=ext_grown hw hg (Nat.le_refl _) hO.row_ge
     replace hS2:=hS2.grown hg (hS2.ne_own hO rfl)
     repeat' (first|(refine CW.region ?_)|(first|refine Post.seq ?_|refine Post.blk ?_)|refine SW.nil ?_|refine SW.pure rfl rfl ?_|(show SW _ _ _ _ (⟨_,Op.indexAddr _ _ _,_,_,_,none⟩::_) _ _;refine SW.st (st_indexN rfl rfl (by assumption) (by omega)) rfl ?_)|(show SW _ _ _ _ (⟨_,Op.load _ _,_,_,_,none⟩::_) _ _;refine SW.st (st_loadx hw rfl (hl.one hkn rfl)) rfl ?_))
     refine Post.again (out++[(k:Int)],l[k]'(hl.lt hkn),A2,c2) ⟨rfl,rfl,rfl,rfl,by simp;rfl,trivial⟩ hu ⟨by simp only [List.length_append,List.length_singleton];omega,fun r h=>hF r (.step (by omega) (hl.lt hkn) hmem h),hw,by simpa using hO1,hS2⟩
   ·repeat' (first|(first|refine CW.seq ?_|refine CW.region ?_|refine CW.block ?_|refine CW.condtr rfl (by with_reducible rfl) ?_|refine CW.condn_t rfl (by omega) ?_|refine CW.skip ?_|refine CW.ret ?_)|(first|refine Post.seq ?_|refine Post.seq_ret ?_|refine Post.blk_ret ?_|refine Post.again_ret ?_)|refine SW.nil ?_|(show SW _ _ _ _ (⟨_,_,_,_,_,some _⟩::_) _ _;first|refine SW.want_f rfl rfl (by with_reducible rfl) ?_|refine SW.skip_f rfl rfl (by with_reducible rfl) rfl ?_|refine SW.splitd_f rfl rfl rfl (by omega) ?_|refine SW.splitn_t rfl rfl rfl (by omega) ?_)|refine SW.pure rfl rfl ?_|(show SW _ _ _ _ (⟨_,Op.call ⟨.builtin .len,_,_⟩,_,_,_,none⟩::_) _ _;refine SW.st (st_len rfl) rfl ?_)|(show SW _ _ _ _ (⟨_,Op.call ⟨.value (.func _),_,_⟩,_,_,_,none⟩::_) _ _;(refine SW.call rfl rfl (there_ans _ _ _ _ _ _ hn') ?_;intro v w1 hw1 hv;subst hv;replace hw:=Ext.trans hw hw1;replace hO:=hO.ext hw1;replace hS:=hS.ext hw1;clear hw1)))
    exact Post.ret2 rfl rfl rfl ⟨_,rfl,hw,none,hF _ (.bad hy (.inr (.inl (by omega)))),rfl⟩
def isB (a o:Int) (b:Block) : Bool:=decide (b.At=a) && decide (b.Order=o)
def without (l:List Block) (a o:Int) : List Block:=l.filter fun b => !isB a o b
def joinL:Nat→List Block→Int→Int→List Block×Int×Int
 | 0,l,a,o=>(l,a,o)
 | f+1,l,a,o=>if o<4 then (if l.any (isB (beside a o) o) then joinL f (without l (beside a o) o) (min a (beside a o)) (o+1) else (l,a,o)) else (l,a,o)
def lbOf (l:List Block) (a:Int) : Nat:=l.findIdx fun b=>decide (a≤b.At)
def insAt {α : Type} (l:List α) (i:Nat) (b : α) : List α := l.take i++[b]++l.drop i
def overB (l:List Block) (a o:Int) : Bool:=l.any fun x=>decide (x.At<a+pw o) && decide (a<x.At+pw x.Order)
def ups (l:List Block) : Prop:=l.Pairwise fun x y=>x.At+pw x.Order≤y.At
structure JOk (f t:Int) (l:List Block) (a o:Int) : Prop where
 ups:ups l
 blk:∀ b∈l,blkOk f t b
 fit:fitsZ f t a o
 dis:∀ b∈l,b.At+pw b.Order≤a∨a+pw o≤b.At
theorem ups_get {l:List Block} (h:ups l) {i j:Nat} (hj:j<l.length) (hij:i<j) : (l[i]'(by omega)).At+pw (l[i]'(by omega)).Order≤l[j].At:=by
 unfold ups at h
 rw [List.pairwise_iff_getElem] at h
 exact h i j (by omega) hj hij
theorem zone_ups {z:Zone} (h:ZoneMay z) : ups z.Free:=by
 have key:∀ (d i:Nat) (hj:i+d+1<z.Free.length),(z.Free[i]'(by omega)).At+pw (z.Free[i]'(by omega)).Order≤z.Free[i+d+1].At:=by
  intro d
  induction d with
  | zero=>intro i hj;exact (h.next i hj).1
  | succ d ih =>
    intro i hj
    have h1:=ih i (by omega)
    have h2:=(h.next (i+d+1) (by omega)).1
    have hb:=(h.blk (i+d+1) (by omega)).1
    have:=pw_le hb.1 hb.2.1
    have e:z.Free[i+(d+1)+1]=z.Free[i+d+1+1]'(by omega):=rfl
    rw [e]
    omega
 unfold ups
 rw [List.pairwise_iff_getElem]
 intro i j hi hj hij
 have:=key (j-i-1) i (by omega)
 have e:i+(j-i-1)+1=j:=by omega
 simp only [e] at this
 exact this
theorem ups_uniq {f t:Int} {l:List Block} (h:ups l) (hb:∀ b∈l,blkOk f t b) {x y:Block} (hx:x∈l) (hy:y∈l) : x=y∨x.At+pw x.Order≤y.At∨y.At+pw y.Order≤x.At:=by
 obtain ⟨i,hi,rfl⟩:=List.getElem_of_mem hx
 obtain ⟨j,hj,rfl⟩:=List.getElem_of_mem hy
 rcases Nat.lt_trichotomy i j with h1|h1|h1
 ·exact .inr (.inl (ups_get h hj h1))
 ·subst h1;exact .inl rfl
 ·exact .inr (.inr (ups_get h hi h1))
theorem ups_at {f t:Int} {l:List Block} (h:ups l) (hb:∀ b∈l,blkOk f t b) {i j:Nat} (hi:i<l.length) (hj:j<l.length) (e:l[i].At=l[j].At) : i=j:=by
 have p1:=hb _ (List.getElem_mem hi)
 have p2:=hb _ (List.getElem_mem hj)
 have q1:=pw_le p1.1.1 p1.1.2.1
 have q2:=pw_le p2.1.1 p2.1.2.1
 rcases Nat.lt_trichotomy i j with h1|h1|h1
 ·have:=ups_get h hj h1;omega
 ·exact h1
 ·have:=ups_get h hi h1;omega
theorem beside_fit {a o:Int} (h : 0≤a) (h0 : 0≤o) (h4:o<4) (hm:a % pw o=0) : (min a (beside a o)) % pw (o+1)=0∧(beside a o=a+pw o∨beside a o=a-pw o)∧(beside a o) % pw o=0:=by
 rw [pw_succ h0 (by omega)]
 unfold beside
 have hp:=pw_cases h0 (show o≤4 by omega)
 generalize pw o=q at *
 rcases hp with ⟨e,rfl⟩|⟨e,rfl⟩|⟨e,rfl⟩|⟨e,rfl⟩|⟨e,rfl⟩<;>split<;>omega
theorem isB_iff {a o:Int} {b:Block}:isB a o b=true↔b.At=a∧b.Order=o:=by simp [isB]
theorem JOk.step {f t:Int} {l:List Block} {a o:Int} (h:JOk f t l a o) (h0 : 0≤f) (ho:o<4) (hany:l.any (isB (beside a o) o)=true) : JOk f t (without l (beside a o) o) (min a (beside a o)) (o+1):=by
 obtain ⟨b,hb,hi⟩:=List.any_eq_true.1 hany
 obtain ⟨e1,e2⟩:=isB_iff.1 hi
 obtain ⟨f1,f2,f3,f4,f5⟩:=h.fit
 obtain ⟨g1,g2,g3,g4,g5⟩:=(h.blk b hb).1
 obtain ⟨k1,k2,k3⟩:=beside_fit (by omega) f1 ho f5
 have hp:=pw_succ f1 f2
 have hp1:=pw_le f1 f2
 refine ⟨h.ups.sublist List.filter_sublist,fun x hx=>h.blk x ((List.mem_filter.1 hx).1),⟨by omega,by omega,by omega,by omega,k1⟩,fun x hx => ?_⟩
 have hx1:=(List.mem_filter.1 hx).1
 have hx2:isB (beside a o) o x=false:=by
  have:=(List.mem_filter.1 hx).2
  simpa using this
 have hd:=h.dis x hx1
 have hxp:=pw_le (h.blk x hx1).1.1 (h.blk x hx1).1.2.1
 rcases ups_uniq h.ups h.blk hb hx1 with e|e|e
 ·subst e;rw [hi] at hx2;cases hx2
 ·rw [hp];rw [e2] at e;omega
 ·rw [hp];omega
theorem joinL_ok {f t:Int} (h0 : 0≤f) : ∀ (k:Nat) {l:List Block} {a o:Int},JOk f t l a o→JOk f t (joinL k l a o).1 (joinL k l a o).2.1 (joinL k l a o).2.2∧(joinL k l a o).1.length≤l.length
 | 0,l,a,o,h=>⟨h,Nat.le_refl _⟩
 | k+1,l,a,o,h=>by
   simp only [joinL]
   split
   ·rename_i ho
    split
    ·rename_i hany
     have ih:=joinL_ok h0 k (h.step h0 ho hany)
     exact ⟨ih.1,Nat.le_trans ih.2 (List.length_filter_le _ _)⟩
    ·exact ⟨h,Nat.le_refl _⟩
   ·exact ⟨h,Nat.le_refl _⟩
theorem lb_spec {l:List Block} {a:Int} {i:Nat} (hi:i≤l.length) (h1:∀ (k:Nat) (h:k<l.length),k<i→l[k].At<a) (h2:∀ h:i<l.length,a≤l[i].At) : lbOf l a=i:=by
 unfold lbOf
 by_cases h:i<l.length
 ·exact (List.findIdx_eq h).2 ⟨by simpa using h2 h,fun j hj=>by simpa using h1 j (by omega) hj⟩
 ·have e:i=l.length:=by omega
  subst e
  rw [List.findIdx_eq_length]
  intro x hx
  obtain ⟨k,hk,rfl⟩:=List.getElem_of_mem hx
  simpa using h1 k hk hk
theorem lb_le (l:List Block) (a:Int) : lbOf l a≤l.length:=List.findIdx_le_length
theorem lb_below {l:List Block} {a:Int} {k:Nat} (hk:k<lbOf l a) : (l[k]'(Nat.lt_of_lt_of_le hk (lb_le l a))).At<a:=by
 have:=List.not_of_lt_findIdx hk
 simpa using this
theorem lb_at {l:List Block} {a:Int} (h:lbOf l a<l.length) : a≤(l[lbOf l a]).At:=by
 have:=List.findIdx_getElem (w:=h)
 exact of_decide_eq_true this
def foundB (l:List Block) (a o:Int) : Bool:=if h:lbOf l a<l.length then decide ((l[lbOf l a]).At=a∧(l[lbOf l a]).Order=o) else false
theorem found_any {f t:Int} {l:List Block} (hu:ups l) (hb:∀ b∈l,blkOk f t b) (a o:Int) : l.any (isB a o)=foundB l a o:=by
 unfold foundB
 by_cases h:lbOf l a<l.length
 ·rw [dif_pos h]
  by_cases hh:(l[lbOf l a]).At=a∧(l[lbOf l a]).Order=o
  ·rw [decide_eq_true hh]
   exact List.any_eq_true.2 ⟨_,List.getElem_mem h,isB_iff.2 hh⟩
  ·rw [decide_eq_false hh,List.any_eq_false]
   intro x hx hi
   obtain ⟨e1,e2⟩:=isB_iff.1 hi
   obtain ⟨j,hj,rfl⟩:=List.getElem_of_mem hx
   have h1:=lb_at h
   rcases Nat.lt_trichotomy j (lbOf l a) with hlt|hlt|hlt
   ·have:=lb_below hlt;omega
   ·subst hlt;exact hh ⟨e1,e2⟩
   ·have:=ups_get hu hj hlt
    have hp:=hb _ (List.getElem_mem h)
    have:=pw_le hp.1.1 hp.1.2.1
    omega
 ·rw [dif_neg h,List.any_eq_false]
  intro x hx hi
  obtain ⟨e1,e2⟩:=isB_iff.1 hi
  obtain ⟨j,hj,rfl⟩:=List.getElem_of_mem hx
  have:=lb_below (show j<lbOf l a by omega)
  omega
theorem erase_without {f t:Int} {l:List Block} (hu:ups l) (hb:∀ b∈l,blkOk f t b) {a o:Int} {i:Nat} (hi:i<l.length) (h1:l[i].At=a) (h2:l[i].Order=o) : l.eraseIdx i=without l a o:=by
 have hne:∀ (j:Nat) (hj:j<l.length),j≠i→isB a o l[j]=false:=fun j hj hji=>by
  cases hh:isB a o l[j] with
  | false=>rfl
  | true =>
    obtain ⟨e1,e2⟩:=isB_iff.1 hh
    exact absurd (ups_at hu hb hj hi (by omega)) hji
 have e:l=l.take i++l[i]::l.drop (i+1):=by simp
 have hL:∀ x∈l.take i,isB a o x=false:=fun x hx=>by
  obtain ⟨j,hj,rfl⟩:=List.getElem_of_mem hx
  simp at hj
  rw [List.getElem_take]
  exact hne j (by omega) (by omega)
 have hR:∀ x∈l.drop (i+1),isB a o x=false:=fun x hx=>by
  obtain ⟨j,hj,rfl⟩:=List.getElem_of_mem hx
  simp at hj
  rw [List.getElem_drop]
  exact hne _ (by omega) (by omega)
 have hm:isB a o l[i]=true:=isB_iff.2 ⟨h1,h2⟩
 unfold without
 rw [List.eraseIdx_eq_take_drop_succ]
 conv=>rhs;rw [e]
 rw [List.filter_append,List.filter_cons]
 simp only [hm,Bool.not_true,Bool.false_eq_true,if_false]
 rw [List.filter_eq_self.2 (fun x hx=>by simp [hL x hx]),List.filter_eq_self.2 (fun x hx=>by simp [hR x hx])]
noncomputable def backV (z:Zone) (a o:Int) : Int×Zone :=
 if zoneB z then (if fitsZ z.From z.To a o then (if overB z.Free a o then (5,⟨0,0,[],[]⟩) else
  (0,⟨z.From,z.To,insAt (joinL 5 z.Free a o).1 (lbOf (joinL 5 z.Free a o).1 (joinL 5 z.Free a o).2.1) ⟨(joinL 5 z.Free a o).2.1,(joinL 5 z.Free a o).2.2,z.Types.getD (((joinL 5 z.Free a o).2.1-z.From) / 8).toNat 0⟩,z.Types⟩)) else (1,⟨0,0,[],[]⟩)) else (8,⟨0,0,[],[]⟩)
theorem over_dis {f t:Int} {z:Zone} {a o:Int} (hz:ZoneMay z) (hf:fitsZ z.From z.To a o) (h:overB z.Free a o=false) : JOk z.From z.To z.Free a o:=by
 refine ⟨zone_ups hz,fun b hb => ?_,hf,fun b hb => ?_⟩
 ·obtain ⟨i,hi,rfl⟩:=List.getElem_of_mem hb
  exact hz.blk i hi
 ·unfold overB at h
  rw [List.any_eq_false] at h
  have:=h b hb
  simp at this
  omega
theorem backV_8 {z:Zone} {a o:Int} (h:zoneB z=false) : backV z a o=(8,.zero):=by simp [backV,h,Zone.zero]
theorem backV_1 {z:Zone} {a o:Int} (h:zoneB z=true) (hf : ¬ fitsZ z.From z.To a o) : backV z a o=(1,.zero):=by simp [backV,h,hf,Zone.zero]
theorem backV_5 {z:Zone} {a o:Int} (h:zoneB z=true) (hf:fitsZ z.From z.To a o) (ho:overB z.Free a o=true) : backV z a o=(5,.zero):=by simp [backV,h,hf,ho,Zone.zero]
theorem backV_0 {z:Zone} {a o:Int} (h:zoneB z=true) (hf:fitsZ z.From z.To a o) (ho:overB z.Free a o=false) {l:List Block} {a' o':Int} (hj:joinL 5 z.Free a o=(l,a',o')) {t:Int} (ht:z.Types.getD ((a'-z.From) / 8).toNat 0=t) :
 backV z a o=(0,⟨z.From,z.To,insAt l (lbOf l a') ⟨a',o',t⟩,z.Types⟩):=by simp [backV,h,hf,ho,hj,← ht]
theorem zone_len {z:Zone} (h:ZoneMay z) : z.Free.length≤256∧z.Types.length≤32:=by
 have hu:=zone_ups h
 have hok:=h.ok
 unfold zoneOk at hok
 have key:∀ (i:Nat) (hi:i<z.Free.length),(i:Int)≤(z.Free[i]).At:=by
  intro i
  induction i with
  | zero =>
    intro hi
    have:=(h.blk 0 hi).1
    unfold fitsZ at this
    omega
  | succ i ih =>
    intro hi
    have h1:=ih (by omega)
    have h2:=ups_get hu hi (Nat.lt_succ_self i)
    have h3:=(h.blk i (by omega)).1
    have:=pw_le h3.1 h3.2.1
    omega
 refine ⟨?_,by have:=h.len;omega⟩
 rcases Nat.eq_zero_or_pos z.Free.length with h0|h0
 ·omega
 ·have h1:=key (z.Free.length-1) (by omega)
  have h2:=(h.blk (z.Free.length-1) (by omega)).1
  unfold fitsZ at h2
  omega
theorem backV_len (z:Zone) (a o:Int) : (backV z a o).2.Free.length≤257∧(backV z a o).2.Types.length≤32∧((backV z a o).1=0→(backV z a o).2.From=z.From∧(backV z a o).2.To=z.To∧(backV z a o).2.Types=z.Types):=by
 cases hq:zoneB z
 ·rw [backV_8 hq];simp [Zone.zero]
 ·have hz:=zoneB_iff.1 hq
  have hl:=zone_len hz
  by_cases hf:fitsZ z.From z.To a o
  ·cases ho:overB z.Free a o
   ·have hJ:=over_dis (f:=0) (t:=0) hz hf ho
    have hj:=joinL_ok (by have:=hz.ok;unfold zoneOk at this;omega) 5 hJ
    obtain ⟨⟨l,a',o'⟩,hq2⟩ : ∃ u,joinL 5 z.Free a o=u:=⟨_,rfl⟩
    rw [hq2] at hj
    rw [backV_0 hq hf ho hq2 rfl]
    have h3:=hj.2
    simp only [insAt,List.length_append,List.length_take,List.length_drop,List.length_singleton] at h3 ⊢
    exact ⟨by omega,hl.2,fun _=>by simp⟩
   ·rw [backV_5 hq hf ho];simp [Zone.zero]
  ·rw [backV_1 hq hf];simp [Zone.zero]
noncomputable def giveL:Nat→Zone→Int→Int×Zone
 | 0,z,_=>(0,z)
 | k+1,z,p=>if (backV z p 0).1=0 then giveL k (backV z p 0).2 (p+1) else ((backV z p 0).1,.zero)
def giveArgs (z:Zone) (f s:Int) : Prop:=0≤s∧z.From≤f∧f≤z.To∧s≤z.To-f
instance (z:Zone) (f s:Int) : Decidable (giveArgs z f s):=inferInstanceAs (Decidable (_∧_))
noncomputable def giveV (z:Zone) (f s:Int) : Int×Zone:=if zoneB z then (if giveArgs z f s then giveL s.toNat z f else (1,.zero)) else (8,.zero)
theorem giveV_8 {z:Zone} {f s:Int} (h:zoneB z=false) : giveV z f s=(8,.zero):=by simp [giveV,h]
theorem giveV_1 {z:Zone} {f s:Int} (h:zoneB z=true) (ha : ¬ giveArgs z f s) : giveV z f s=(1,.zero):=by simp [giveV,h,ha]
theorem giveV_0 {z:Zone} {f:Int} {k:Nat} (h:zoneB z=true) (ha:giveArgs z f (k:Int)) : giveV z f (k:Int)=giveL k z f:=by simp [giveV,h,ha]
def inReg (l:List Region) (p:Int) : Bool:=l.any fun r=>decide (r.From≤p) && decide (p<r.From+r.Size)
def bump:List Region→List Region
 | []=>[]
 | [r]=>[⟨r.From,r.Size+1⟩]
 | x::y::l=>x::bump (y::l)
def runs (p:Nat→Bool) : Nat→List Region
 | 0=>[]
 | i+1=>if p i then (if 0<i∧p (i-1)=true then bump (runs p i) else runs p i++[⟨(i:Int),1⟩]) else runs p i
theorem bump_concat:∀ (l:List Region) (r:Region),bump (l++[r])=l++[⟨r.From,r.Size+1⟩]
 | [],_=>rfl
 | [x],_=>rfl
 | x::y::l,r=>by
   have ih:=bump_concat (y::l) r
   simp only [List.cons_append,bump] at ih ⊢
   rw [ih]
structure RunsOk (p:Nat→Bool) (k:Nat) (l:List Region) : Prop where
 rng:∀ r∈l,0≤r.From∧1≤r.Size∧r.From+r.Size≤(k:Int)
 len:l.length≤k
 last : 0<k→p (k-1)=true → ∃ init r,l=init++[r]∧r.From+r.Size=(k:Int)
 below:(0<k→p (k-1)=false) → ∀ r∈l,r.From+r.Size<(k:Int)
 sep:l.Pairwise fun a b=>a.From+a.Size<b.From
 iff:∀ i:Nat,i<k→(p i=true ↔ ∃ r∈l,r.From≤(i:Int)∧(i:Int)<r.From+r.Size)
theorem runs_ok (p:Nat→Bool) : ∀ k,RunsOk p k (runs p k)
 | 0=>⟨by simp [runs],by simp [runs],by simp,by simp [runs],by simp [runs],by simp⟩
 | k+1=>by
   have ih:=runs_ok p k
   simp only [runs]
   by_cases hp:p k=true
   ·rw [if_pos hp]
    by_cases hq : 0<k∧p (k-1)=true
    ·rw [if_pos hq]
     obtain ⟨init,r,hl,hr⟩:=ih.last hq.1 hq.2
     rw [hl,bump_concat]
     have hrng:=ih.rng
     have hlen:=ih.len
     have hsep:=ih.sep
     have hiff:=ih.iff
     rw [hl] at hrng hlen hsep hiff
     have hr0:=hrng r (by simp)
     refine ⟨?_,?_,?_,?_,?_,?_⟩
     ·intro x hx
      simp only [List.mem_append,List.mem_singleton] at hx
      rcases hx with hx|rfl
      ·have:=hrng x (by simp [hx]);omega
      ·simp only;omega
     ·simp only [List.length_append,List.length_singleton] at hlen ⊢;omega
     ·intro _ _
      exact ⟨init,_,rfl,by simp only;omega⟩
     ·intro h
      simp at h
      rw [h] at hp;cases hp
     ·rw [List.pairwise_append] at hsep ⊢
      refine ⟨hsep.1,by simp,fun a ha b hb => ?_⟩
      simp only [List.mem_singleton] at hb
      subst hb
      exact hsep.2.2 a ha r (by simp)
     ·intro i hi
      by_cases hik:i=k
      ·subst hik
       simp only [hp,true_iff]
       exact ⟨⟨r.From,r.Size+1⟩,by simp,by simp only;omega,by simp only;omega⟩
      ·rw [hiff i (by omega)]
       constructor
       ·rintro ⟨x,hx,h1,h2⟩
        simp only [List.mem_append,List.mem_singleton] at hx
        rcases hx with hx|rfl
        ·exact ⟨x,by simp [hx],h1,h2⟩
        ·exact ⟨⟨x.From,x.Size+1⟩,by simp,h1,by simp only;omega⟩
       ·rintro ⟨x,hx,h1,h2⟩
        simp only [List.mem_append,List.mem_singleton] at hx
        rcases hx with hx|rfl
        ·exact ⟨x,by simp [hx],h1,h2⟩
        ·simp only at h1 h2
         exact ⟨r,by simp,h1,by omega⟩
    ·rw [if_neg hq]
     have hb:∀ r∈runs p k,r.From+r.Size<(k:Int):=ih.below (fun h0=>by
      cases hh:p (k-1) with
      | false=>rfl
      | true=>exact absurd ⟨h0,hh⟩ hq)
     refine ⟨?_,?_,?_,?_,?_,?_⟩
     ·intro x hx
      simp only [List.mem_append,List.mem_singleton] at hx
      rcases hx with hx|rfl
      ·have:=ih.rng x hx;omega
      ·simp only;omega
     ·have:=ih.len
      simp only [List.length_append,List.length_singleton];omega
     ·intro _ _
      exact ⟨runs p k,_,rfl,by simp only;omega⟩
     ·intro h
      simp at h
      rw [h] at hp;cases hp
     ·rw [List.pairwise_append]
      refine ⟨ih.sep,by simp,fun a ha b hb' => ?_⟩
      simp only [List.mem_singleton] at hb'
      subst hb'
      exact hb a ha
     ·intro i hi
      by_cases hik:i=k
      ·subst hik
       simp only [hp,true_iff]
       exact ⟨⟨(i:Int),1⟩,by simp,by simp only;omega,by simp only;omega⟩
      ·rw [ih.iff i (by omega)]
       constructor
       ·rintro ⟨x,hx,h1,h2⟩
        exact ⟨x,by simp [hx],h1,h2⟩
       ·rintro ⟨x,hx,h1,h2⟩
        simp only [List.mem_append,List.mem_singleton] at hx
        rcases hx with hx|rfl
        ·exact ⟨x,hx,h1,h2⟩
        ·simp only at h1 h2
         omega
   ·rw [if_neg hp]
    have hp':p k=false:=by simpa using hp
    refine ⟨?_,?_,?_,?_,ih.sep,?_⟩
    ·intro x hx
     have:=ih.rng x hx;omega
    ·have:=ih.len;omega
    ·intro _ h
     simp at h
     rw [h] at hp';cases hp'
    ·intro _ x hx
     have:=ih.rng x hx;omega
    ·intro i hi
     by_cases hik:i=k
     ·subst hik
      simp only [hp',Bool.false_eq_true,false_iff]
      rintro ⟨x,hx,h1,h2⟩
      have:=ih.rng x hx;omega
     ·exact ih.iff i (by omega)
def marksOf (p:Nat→Bool) (k:Nat) : List Bool:=(List.range k).map p
theorem marksOf_len (p:Nat→Bool) (k:Nat) : (marksOf p k).length=k:=by simp [marksOf]
theorem marksOf_get (p:Nat→Bool) (k i:Nat) (h:i<(marksOf p k).length) : (marksOf p k)[i]=p i:=by simp [marksOf]
theorem marksOf_set (p:Nat→Bool) (k i:Nat) (b:Bool) : (marksOf p k).set i b=marksOf (fun j=>if j=i then b else p j) k:=by
 apply List.ext_getElem (by simp [marksOf])
 intro j h1 h2
 rw [List.getElem_set]
 by_cases h:i=j
 ·subst h;simp [marksOf]
 ·have : ¬ j=i:=fun e=>h e.symm
  simp [marksOf,h,this]
theorem marksOf_congr {p q:Nat→Bool} {k:Nat} (h:∀ i,i<k→p i=q i) : marksOf p k=marksOf q k:=by
 apply List.ext_getElem (by simp [marksOf])
 intro j h1 h2
 simp only [marksOf_get]
 exact h j (by simpa [marksOf] using h1)
def inB (b:Block) (i:Nat) : Bool:=decide (b.At≤(i:Int)) && decide ((i:Int)<b.At+pw b.Order)
def covP (bs:List Block) (i:Nat) : Bool:=bs.any fun b=>inB b i
def fitsL (bs:List Block) (b:Block) : Prop:=0≤b.At∧b.At+pw b.Order≤256∧overB bs b.At b.Order=false
instance (bs:List Block) (b:Block) : Decidable (fitsL bs b):=inferInstanceAs (Decidable (_∧_))
def addB (s:Option (List Block)) (b:Block) : Option (List Block):=match s with
 | none=>none
 | some bs=>if fitsL bs b then some (bs++[b]) else none
def addAll (s:Option (List Block)) (l:List Block) : Option (List Block):=l.foldl addB s
theorem addAll_none:∀ l,addAll none l=none
 | []=>rfl
 | b::l=>addAll_none l
theorem addAll_append (s:Option (List Block)) (l m:List Block) : addAll s (l++m)=addAll (addAll s l) m:=List.foldl_append
theorem addAll_take (s:Option (List Block)) (l:List Block) (k:Nat) (h:k<l.length) : addAll s (l.take (k+1))=addB (addAll s (l.take k)) l[k]:=by
 rw [List.take_succ_eq_append_getElem h,addAll_append];rfl
theorem addB_some {s:Option (List Block)} {b:Block} {bs:List Block} (h:addB s b=some bs) : ∃ cs,s=some cs∧fitsL cs b∧bs=cs++[b]:=by
 cases s with
 | none=>simp [addB] at h
 | some cs =>
   simp only [addB] at h
   split at h
   ·rename_i hf;injection h with h;exact ⟨cs,rfl,hf,h.symm⟩
   ·cases h
def okM (p:Nat→Bool) (a n:Int) : Prop:=0≤a∧a<256∧n≤256-a ∧ ∀ i:Nat,a≤(i:Int)→(i:Int)<a+n→p i=false
def addM (p:Nat→Bool) (a n:Int) (i:Nat) : Bool:=p i || (decide (a≤(i:Int)) && decide ((i:Int)<a+n))
theorem okM_iff {bs:List Block} (hb:∀ b∈bs,0≤b.At∧1≤pw b.Order) {b:Block} (h1 : 1≤pw b.Order) : okM (covP bs) b.At (pw b.Order)↔fitsL bs b:=by
 constructor
 ·rintro ⟨h2,h3,h4,h5⟩
  refine ⟨h2,by omega,?_⟩
  unfold overB
  rw [List.any_eq_false]
  intro x hx hh
  simp only [Bool.and_eq_true,decide_eq_true_eq] at hh
  obtain ⟨k1,k2⟩:=hh
  obtain ⟨q1,q2⟩:=hb x hx
  have h6:=h5 (max x.At b.At).toNat (by omega) (by omega)
  unfold covP at h6
  rw [List.any_eq_false] at h6
  apply h6 x hx
  simp only [inB,Bool.and_eq_true,decide_eq_true_eq]
  omega
 ·rintro ⟨h2,h3,h4⟩
  refine ⟨h2,by omega,by omega,fun i k1 k2 => ?_⟩
  unfold covP
  rw [List.any_eq_false]
  intro x hx hh
  simp only [inB,Bool.and_eq_true,decide_eq_true_eq] at hh
  unfold overB at h4
  rw [List.any_eq_false] at h4
  apply h4 x hx
  simp only [Bool.and_eq_true,decide_eq_true_eq]
  omega
theorem addM_cov (bs:List Block) (b:Block) (i:Nat) : addM (covP bs) b.At (pw b.Order) i=covP (bs++[b]) i:=by
 simp [addM,covP,inB]
def goodS (s:Option (List Block)) : Prop := ∀ bs,s=some bs → ∀ x∈bs,0≤x.At∧1≤pw x.Order
theorem goodS_nil:goodS (some []):=fun bs h x hx=>by cases h;simp at hx
theorem goodS_add {s:Option (List Block)} {b:Block} (h:goodS s) (hb : 1≤pw b.Order) : goodS (addB s b):=fun bs hbs x hx=>by
 obtain ⟨cs,rfl,hf,rfl⟩:=addB_some hbs
 rcases List.mem_append.1 hx with hx|hx
 ·exact h cs rfl x hx
 ·simp at hx;subst hx;exact ⟨hf.1,hb⟩
theorem goodS_all {s:Option (List Block)}:∀ {l:List Block},goodS s→(∀ b∈l,1≤pw b.Order)→goodS (addAll s l)
 | [],h,_=>h
 | b::l,h,hb=>goodS_all (l:=l) (goodS_add h (hb b (by simp))) (fun x hx=>hb x (by simp [hx]))
def pageB (p:Int) : Block:=⟨p,0,0⟩
def pagesB (l:List PList) : List Block:=l.flatMap fun x=>x.Pages.map pageB
theorem pw_zero:pw 0=1:=by decide
def aheadL (a b:PList) : Prop:=a.Cpu<b.Cpu∨(a.Cpu=b.Cpu∧(a.Zone<b.Zone∨(a.Zone=b.Zone∧a.Ty<b.Ty)))
instance (a b:PList) : Decidable (aheadL a b):=inferInstanceAs (Decidable (_∨_))
def headOk (cpus:Int) (l:PList) : Prop:=(0≤l.Cpu∧l.Cpu<cpus)∧(0≤l.Zone∧l.Zone≤1)∧(0≤l.Ty∧l.Ty≤2)∧(1≤l.Pages.length∧l.Pages.length≤8)
instance (c:Int) (l:PList) : Decidable (headOk c l):=inferInstanceAs (Decidable (_∧_))
structure ListsOk (cpus to:Int) (ls:List PList) : Prop where
 head:∀ (i:Nat) (h:i<ls.length),headOk cpus ls[i]
 next:∀ (i:Nat) (h:i+1<ls.length),aheadL ls[i] ls[i+1]
 zone:∀ (i:Nat) (h:i<ls.length),∀ p∈(ls[i]).Pages,(p<to↔(ls[i]).Zone=0)
def liveOk (b:Block) : Prop:=(0≤b.Order∧b.Order≤4)∧(0≤b.At∧b.At≤255)∧b.At % pw b.Order=0∧tyOk b.Ty
structure LiveOk (l:List Block) : Prop where
 each:∀ (i:Nat) (h:i<l.length),liveOk l[i]
 next:∀ (i:Nat) (h:i+1<l.length),l[i].At<l[i+1].At
structure HeapMay (h:Heap) : Prop where
 zones:∃ z0 z1,h.Zones=[z0,z1]∧ZoneMay z0∧ZoneMay z1∧z0.From=0∧z0.To=z1.From∧z1.To=256∧ListsOk h.Cpus z0.To h.Lists∧(addAll (some []) (z0.Free++z1.Free++pagesB h.Lists++h.Live)).isSome=true
 mins:∃ m0 m1,h.Mins=[m0,m1]∧(0≤m0∧m0≤256)∧(0≤m1∧m1≤256)
 cpus : 1≤h.Cpus∧h.Cpus≤4
 live:LiveOk h.Live
noncomputable def heapB (h:Heap) : Bool := @decide (HeapMay h) (Classical.propDecidable _)
theorem heapB_t {h:Heap} (a:HeapMay h) : heapB h=true:=by unfold heapB;exact @decide_eq_true _ (Classical.propDecidable _) a
theorem heapB_f {h:Heap} (a : ¬ HeapMay h) : heapB h=false:=by unfold heapB;exact @decide_eq_false _ (Classical.propDecidable _) a
theorem heapB_iff {h:Heap}:heapB h=true↔HeapMay h:=by
 by_cases a:HeapMay h
 ·simp [heapB_t a,a]
 ·simp [heapB_f a,a]
theorem pagesB_take (l:List PList) (k:Nat) (h:k<l.length) : pagesB (l.take (k+1))=pagesB (l.take k)++l[k].Pages.map pageB:=by
 unfold pagesB
 rw [List.take_succ_eq_append_getElem h,List.flatMap_append]
 simp
theorem addAll_some_of {s:Option (List Block)} {l m:List Block} (h:(addAll s (l++m)).isSome=true) : (addAll s l).isSome=true:=by
 rw [addAll_append] at h
 cases e:addAll s l with
 | none=>rw [e,addAll_none] at h;cases h
 | some x=>rfl
theorem length_insAt {α : Type} (l:List α) {i:Nat} (h:i≤l.length) (x : α) : (insAt l i x).length=l.length+1:=by simp [insAt];omega
theorem insAt_lt {α : Type} {l:List α} {i:Nat} (h:i≤l.length) {x : α} {k:Nat} (hk:k<i) : (insAt l i x)[k]?=l[k]?:=by
 unfold insAt
 rw [List.append_assoc,List.getElem?_append_left (by simp;omega),List.getElem?_take_of_lt hk]
theorem insAt_eq {α : Type} {l:List α} {i:Nat} (h:i≤l.length) {x : α}:(insAt l i x)[i]?=some x:=by
 unfold insAt
 rw [List.append_assoc,List.getElem?_append_right (by simp;omega)]
 have:i-(l.take i).length=0:=by simp;omega
 rw [this];rfl
theorem insAt_gt {α : Type} {l:List α} {i:Nat} (h:i≤l.length) {x : α} {k:Nat} (hk:i≤k) : (insAt l i x)[k+1]?=l[k]?:=by
 unfold insAt
 rw [List.append_assoc,List.getElem?_append_right (by simp;omega)]
 have:k+1-(l.take i).length=(k-i)+1:=by simp;omega
 rw [this,List.singleton_append,List.getElem?_cons_succ,List.getElem?_drop]
 congr 1
 omega
end Go.Proofs.YtbidkghlpijecaaGreatDoor
