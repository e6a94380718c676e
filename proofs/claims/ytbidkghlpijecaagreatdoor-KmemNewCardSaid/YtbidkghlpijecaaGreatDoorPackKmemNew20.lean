/-
  Texts of the claim KmemNew, part 20: what its theorem leans on.
-/
import Derived.Test.YtbidkghlpijecaaGreatDoorPackKmemNew6
import Derived.Test.YtbidkghlpijecaaGreatDoorPackKmemNew3
import Derived.Test.YtbidkghlpijecaaGreatDoorPackKmemNew19
import Derived.Test.YtbidkghlpijecaaGreatDoorPackKmemNew18
import Derived.Test.YtbidkghlpijecaaGreatDoorPackKmemNew4
set_option linter.unusedVariables false
set_option linter.unusedSimpArgs false
namespace Go.Proofs.YtbidkghlpijecaaGreatDoor
noncomputable def stepZ (z:Zone) (p:Int) : Zone:=(backV z p 0).2
noncomputable def foldZ:Nat→Zone→Int→Zone
 | 0,z,_=>z
 | k+1,z,p=>foldZ k (stepZ z p) (p+1)
theorem foldZ_last:∀ (k:Nat) (z:Zone) (p:Int),foldZ (k+1) z p=stepZ (foldZ k z p) (p+k)
 | 0,z,p=>by simp [foldZ]
 | k+1,z,p=>by
   rw [foldZ,foldZ_last k,foldZ]
   congr 1
   omega
theorem backV_ne {z:Zone} {p o:Int} (h:(backV z p o).1≠0) : (backV z p o).2 = .zero:=by
 cases hq:zoneB z
 ·rw [backV_8 hq]
 ·by_cases hf:fitsZ z.From z.To p o
  ·cases ho:overB z.Free p o
   ·exfalso
    obtain ⟨⟨l,a',o'⟩,hj⟩ : ∃ u,joinL 5 z.Free p o=u:=⟨_,rfl⟩
    rw [backV_0 hq hf ho hj rfl] at h
    exact h rfl
   ·rw [backV_5 hq hf ho]
  ·rw [backV_1 hq hf]
theorem step_out {z:Zone} {p:Int} (h:p<z.From∨z.To≤p) : stepZ z p = .zero:=by
 unfold stepZ
 cases hq:zoneB z
 ·rw [backV_8 hq]
 ·rw [backV_1 hq (fun hf=>by unfold fitsZ at hf;omega)]
theorem step_zero (p:Int) : stepZ .zero p = .zero:=step_out (by simp only [Zone.zero];omega)
theorem fold_zero:∀ (k:Nat) (p:Int),foldZ k .zero p = .zero
 | 0,_=>rfl
 | k+1,p=>by rw [foldZ,step_zero,fold_zero k]
theorem giveL_fold:∀ (k:Nat) (z:Zone) (p:Int),(giveL k z p).2=foldZ k z p
 | 0,_,_=>rfl
 | k+1,z,p=>by
   rw [giveL,foldZ]
   split
   ·exact giveL_fold k _ _
   ·rename_i h
    rw [stepZ,backV_ne h,fold_zero]
theorem fold_out:∀ (k:Nat) (z:Zone) (p:Int),p≤z.To→z.To<p+k→foldZ k z p = .zero
 | 0,z,p,h1,h2=>by omega
 | k+1,z,p,h1,h2=>by
   rw [foldZ]
   by_cases e:p=z.To
   ·rw [step_out (by omega),fold_zero]
   ·by_cases h:(backV z p 0).1=0
    ·have:=((backV_len z p 0).2.2 h).2.1
     exact fold_out k _ _ (by rw [stepZ];omega) (by rw [stepZ];omega)
    ·rw [stepZ,backV_ne h,fold_zero]
theorem give_fold {k:Nat} (z:Zone) (p:Int) (h : 0<k) : (giveV z p (k:Int)).2=foldZ k z p:=by
 obtain ⟨k,rfl⟩ : ∃ m,k=m+1:=⟨k-1,by omega⟩
 cases hq:zoneB z
 ·rw [giveV_8 hq,foldZ,stepZ,backV_8 hq,fold_zero]
 ·by_cases ha:giveArgs z p ((k+1:Nat) : Int)
  ·rw [giveV_0 hq ha,giveL_fold]
  ·rw [giveV_1 hq ha]
   unfold giveArgs at ha
   by_cases h1:p<z.From∨z.To≤p
   ·rw [foldZ,step_out h1,fold_zero]
   ·exact (fold_out _ _ _ (by omega) (by omega)).symm
noncomputable def newZ (l:List Region) (split:Int) : Nat→Zone×Zone
 | 0=>((zoneNewV 0 split).2,(zoneNewV split 256).2)
 | p+1=>if inReg l p then (if (p:Int)<split then (stepZ (newZ l split p).1 p,(newZ l split p).2) else ((newZ l split p).1,stepZ (newZ l split p).2 p)) else newZ l split p
theorem newZ_skip {l:List Region} {split:Int} {p:Nat}:∀ n:Nat,(∀ i:Nat,i<n→inReg l ((p+i:Nat) : Int)=false)→newZ l split (p+n)=newZ l split p
 | 0,_=>rfl
 | n+1,h=>by
   rw [← Nat.add_assoc,newZ,h n (by omega),if_neg (by simp)]
   exact newZ_skip n fun i hi=>h i (by omega)
theorem newZ_low {l:List Region} {split:Int} {p:Nat}:∀ n:Nat,(∀ i:Nat,i<n→inReg l ((p+i:Nat) : Int)=true∧((p+i:Nat) : Int)<split)→newZ l split (p+n)=(foldZ n (newZ l split p).1 p,(newZ l split p).2)
 | 0,_=>rfl
 | n+1,h=>by
   rw [← Nat.add_assoc,newZ,(h n (by omega)).1,if_pos rfl,if_pos (h n (by omega)).2,newZ_low n fun i hi=>h i (by omega),foldZ_last]
   simp
theorem newZ_high {l:List Region} {split:Int} {p:Nat}:∀ n:Nat,(∀ i:Nat,i<n→inReg l ((p+i:Nat) : Int)=true∧split≤((p+i:Nat) : Int))→newZ l split (p+n)=((newZ l split p).1,foldZ n (newZ l split p).2 p)
 | 0,_=>rfl
 | n+1,h=>by
   rw [← Nat.add_assoc,newZ,(h n (by omega)).1,if_pos rfl,if_neg (by have:=(h n (by omega)).2;omega),newZ_high n fun i hi=>h i (by omega),foldZ_last]
   simp
def stopOf (l:List Region) (k:Nat) : Int:=match k with
 | 0=>0
 | k+1=>if h:k<l.length then l[k].From+l[k].Size else 256
theorem regs_mono {l:List Region} (h:regionsOk l) : ∀ (j:Nat) (hj:j<l.length) (i:Nat) (hi:i<j),(l[i]'(Nat.lt_trans hi hj)).From+(l[i]'(Nat.lt_trans hi hj)).Size<l[j].From
 | 0,_,i,hi=>by omega
 | j+1,hj,i,hi=>by
   have h1:=(h.2 (j+1) hj).2 (by omega)
   simp only [Nat.add_sub_cancel] at h1
   by_cases e:i=j
   ·subst e;exact h1
   ·have h2:=regs_mono h j (by omega) i (by omega)
    have h3:=(h.2 j (by omega)).1
    unfold Region.ok at h3
    omega
theorem stop_succ {l:List Region} {k:Nat} (hk:k<l.length) : stopOf l (k+1)=l[k].From+l[k].Size:=by simp only [stopOf,dif_pos hk]
theorem stop_bnd {l:List Region} (h:regionsOk l) {k:Nat} (hk:k<l.length) : 0≤stopOf l k∧stopOf l k≤l[k].From:=by
 have h0:=(h.2 k hk).1
 unfold Region.ok at h0
 cases k with
 | zero=>simp only [stopOf];omega
 | succ k =>
   have h1:=(h.2 k (by omega)).1
   unfold Region.ok at h1
   have h2:=regs_mono h (k+1) hk k (by omega)
   simp only [stopOf,dif_pos (show k<l.length by omega)]
   omega
theorem inReg_between {l:List Region} (h:regionsOk l) {k:Nat} (hk:k≤l.length) {p:Int} (h1:stopOf l k≤p) (h2:∀ hk:k<l.length,p<l[k].From) : inReg l p=false:=by
 unfold inReg
 rw [List.any_eq_false]
 intro r hr
 obtain ⟨j,hj,rfl⟩:=List.getElem_of_mem hr
 have h0:=(h.2 j hj).1
 unfold Region.ok at h0
 simp only [Bool.and_eq_true,decide_eq_true_eq,not_and]
 intro h3 h4
 by_cases hjk:j<k
 ·obtain ⟨m,rfl⟩ : ∃ m,k=m+1:=⟨k-1,by omega⟩
  simp only [stopOf,dif_pos (show m<l.length by omega)] at h1
  by_cases e:j=m
  ·subst e;omega
  ·have h5:=regs_mono h m (by omega) j (by omega)
   have h6:=(h.2 m (by omega)).1
   unfold Region.ok at h6
   omega
 ·have h5:=h2 (by omega)
  by_cases e:k=j
  ·subst e;omega
  ·have h6:=regs_mono h j hj k (by omega)
   have h7:=(h.2 k (by omega)).1
   unfold Region.ok at h7
   omega
theorem inReg_in {l:List Region} {k:Nat} (hk:k<l.length) {p:Int} (h1:l[k].From≤p) (h2:p<l[k].From+l[k].Size) : inReg l p=true:=by
 unfold inReg
 rw [List.any_eq_true]
 exact ⟨l[k],List.getElem_mem hk,by simp;omega⟩
def belowOf (r:Region) (split:Int) : Int:=max 0 (min (r.From+r.Size) split-r.From)
noncomputable def givenZ (l:List Region) (split:Int) (k:Nat) : Zone×Zone:=newZ l split (stopOf l k).toNat
noncomputable def giveIf (z:Zone) (f s:Int) : Zone:=if 0<s then (giveV z f s).2 else z
theorem giveIf_t {z:Zone} {f s:Int} (h : 0<s) : (giveV z f s).2=giveIf z f s:=by rw [giveIf,if_pos h]
theorem giveIf_f {z:Zone} {f s:Int} (h : ¬ 0<s) : z=giveIf z f s:=by rw [giveIf,if_neg h]
theorem given_succ {l:List Region} (h:regionsOk l) {split:Int} {k:Nat} (hk:k<l.length) :
 givenZ l split (k+1)=(giveIf (givenZ l split k).1 l[k].From (belowOf l[k] split),giveIf (givenZ l split k).2 (l[k].From+belowOf l[k] split) (l[k].Size-belowOf l[k] split)):=by
 have h0:=(h.2 k hk).1
 unfold Region.ok at h0
 have hs:=stop_bnd h hk
 have hb : 0≤belowOf l[k] split∧belowOf l[k] split≤l[k].Size∧(0<belowOf l[k] split→l[k].From+belowOf l[k] split≤split)∧(belowOf l[k] split<l[k].Size→split≤l[k].From+belowOf l[k] split):=by unfold belowOf;omega
 obtain ⟨b,hbe⟩ : ∃ b,belowOf l[k] split=b:=⟨_,rfl⟩
 rw [hbe] at hb ⊢
 obtain ⟨b1,b2,b3,b4⟩:=hb
 unfold givenZ
 have e1:(stopOf l (k+1)).toNat=((stopOf l k).toNat+(l[k].From-stopOf l k).toNat+b.toNat)+(l[k].Size-b).toNat:=by
  rw [stop_succ hk];omega
 have e2:((stopOf l k).toNat+(l[k].From-stopOf l k).toNat:Nat)=l[k].From.toNat:=by omega
 rw [e1,newZ_high (p:=(stopOf l k).toNat+(l[k].From-stopOf l k).toNat+b.toNat) (l[k].Size-b).toNat,newZ_low (p:=(stopOf l k).toNat+(l[k].From-stopOf l k).toNat) b.toNat,newZ_skip (p:=(stopOf l k).toNat) (l[k].From-stopOf l k).toNat]
 ·rw [e2]
  unfold giveIf
  have g1:foldZ b.toNat (newZ l split (stopOf l k).toNat).1 (l[k].From.toNat:Int)=if 0<b then (giveV (newZ l split (stopOf l k).toNat).1 l[k].From b).2 else (newZ l split (stopOf l k).toNat).1:=by
   split
   ·have:=give_fold (k:=b.toNat) (newZ l split (stopOf l k).toNat).1 l[k].From (by omega)
    rw [Int.toNat_of_nonneg b1] at this
    rw [this,Int.toNat_of_nonneg (by omega)]
   ·rw [show b.toNat=0 by omega];rfl
  have g2:foldZ (l[k].Size-b).toNat (newZ l split (stopOf l k).toNat).2 ((l[k].From.toNat+b.toNat:Nat) : Int)=if 0<l[k].Size-b then (giveV (newZ l split (stopOf l k).toNat).2 (l[k].From+b) (l[k].Size-b)).2 else (newZ l split (stopOf l k).toNat).2:=by
   split
   ·have:=give_fold (k:=(l[k].Size-b).toNat) (newZ l split (stopOf l k).toNat).2 (l[k].From+b) (by omega)
    rw [Int.toNat_of_nonneg (by omega)] at this
    rw [this,show ((l[k].From.toNat+b.toNat:Nat) : Int)=l[k].From+b by omega]
   ·rw [show (l[k].Size-b).toNat=0 by omega];rfl
  simp only [g1,g2]
 ·intro i hi
  exact inReg_between (k:=k) h (by omega) (by omega) (fun _=>by omega)
 ·intro i hi
  rw [e2]
  exact ⟨inReg_in hk (by omega) (by omega),by omega⟩
 ·intro i hi
  rw [e2]
  exact ⟨inReg_in hk (by omega) (by omega),by omega⟩
theorem given_all {l:List Region} (h:regionsOk l) (split:Int) : givenZ l split l.length=newZ l split 256:=by
 have hs : 0≤stopOf l l.length∧stopOf l l.length≤256:=by
  cases he:l.length with
  | zero=>simp [stopOf]
  | succ k =>
    have h0:=(h.2 k (by omega)).1
    unfold Region.ok at h0
    simp only [stopOf,dif_pos (show k<l.length by omega)]
    omega
 unfold givenZ
 have:=newZ_skip (l:=l) (split:=split) (p:=(stopOf l l.length).toNat) (256-(stopOf l l.length).toNat) fun i hi=>inReg_between (k:=l.length) h (Nat.le_refl _) (by omega) (fun hk=>absurd hk (Nat.lt_irrefl _))
 rw [← this]
 congr 1
 omega
structure SmallZ (z:Zone) : Prop where
 free:z.Free.length≤257
 types:z.Types.length≤32
 from_ : 0≤z.From∧z.From≤256
 to_ : 0≤z.To∧z.To≤256
theorem small_zero:SmallZ .zero:=by constructor<;>simp [Zone.zero]
theorem small_step {z:Zone} (h:SmallZ z) (p:Int) : SmallZ (stepZ z p):=by
 unfold stepZ
 by_cases e:(backV z p 0).1=0
 ·obtain ⟨h1,h2,h3⟩:=backV_len z p 0
  obtain ⟨h4,h5,_⟩:=h3 e
  exact ⟨h1,h2,by rw [h4];exact h.from_,by rw [h5];exact h.to_⟩
 ·rw [backV_ne e];exact small_zero
theorem small_new {f t:Int} (h:zoneOk f t) : SmallZ (zoneNewV f t).2:=by
 rw [zoneNewV_t h]
 unfold zoneOk at h
 exact ⟨by simp,by simp;omega,by simp only;omega,by simp only;omega⟩
theorem split_ok {split:Int}:zoneOk split 256↔zoneOk 0 split:=by unfold zoneOk;omega
theorem small_newZ {l:List Region} {split:Int} (h:zoneOk 0 split) : ∀ p,SmallZ (newZ l split p).1∧SmallZ (newZ l split p).2
 | 0=>⟨small_new h,small_new (split_ok.2 h)⟩
 | p+1=>by
   have ih:=small_newZ (l:=l) h p
   unfold newZ
   split
   ·split
    ·exact ⟨small_step ih.1 _,ih.2⟩
    ·exact ⟨ih.1,small_step ih.2 _⟩
   ·exact ih
def newArgs (split least cpus:Int) : Prop:=zoneOk 0 split∧(0≤least∧least≤256)∧(1≤cpus∧cpus≤4)
instance (a b c:Int) : Decidable (newArgs a b c):=inferInstanceAs (Decidable (_∧_))
def heapNu (z:Zone×Zone) (least cpus:Int) : Heap:=⟨[z.1,z.2],[least,least],cpus,[],[]⟩
noncomputable def heapNewV (l:List Region) (split least cpus:Int) : Int×Heap :=
 if regionsB l then (if newArgs split least cpus then (0,heapNu (newZ l split 256) least cpus) else (1,⟨[],[],0,[],[]⟩)) else (8,⟨[],[],0,[],[]⟩)
theorem heapNewV_8 {l:List Region} {a b c:Int} (h:regionsB l=false) : heapNewV l a b c=(8,⟨[],[],0,[],[]⟩):=by simp [heapNewV,h]
theorem heapNewV_1 {l:List Region} {a b c:Int} (h:regionsB l=true) (ha : ¬ newArgs a b c) : heapNewV l a b c=(1,⟨[],[],0,[],[]⟩):=by simp [heapNewV,h,ha]
theorem heapNewV_0 {l:List Region} {a b c:Int} (h:regionsB l=true) (ha:newArgs a b c) : heapNewV l a b c=(0,heapNu (newZ l a 256) b c):=by simp [heapNewV,h,ha]
open Go.RowKit
theorem OwnZ.small {w:World} {lo:Nat} {r:ZRow} {z:Zone} (h:OwnZ w lo r z) (hs:SmallZ z) : (r.Free.n+1)*24≤140737488355328∧r.Types.n*8≤140737488355328∧(-9223372036854775808≤r.From∧r.From≤9223372036854775807)∧(-9223372036854775808≤r.To∧r.To≤9223372036854775807):=by
 have e1:=h.free.sl.len
 have e2:=h.types.sl.len
 have e3:=h.from_
 have e4:=h.to_
 obtain ⟨h1,h2,h3,h4⟩:=hs
 refine ⟨Nat.le_trans (Nat.mul_le_mul_right 24 (show r.Free.n+1≤258 by omega)) (by decide),by omega,by omega,by omega⟩
theorem GiveS {w':World} {lo:Nat} {r:ZRow} {z:Zone} (f s:Int) (h:OwnZ w' lo r z) (hs:SmallZ z) : Ans Tryz.prog 135 [.agg (encZ r).toArray,.int .i64 f,.int .i64 s] w' (ZoneOut w'.heap.size (giveV z f s)):=by
 obtain ⟨h1,h2,h3,h4⟩:=h.small hs
 exact Zgive_ans r z f s w' h.rd h1 h2 h3 h4
set_option maxHeartbeats 4000000 in
theorem Hnew_ans (A:Option Addr) (n c:Nat) (l:List Region) (split least cpus:Int) (w:World) (hl:Sl w 2 encR A n l) (hn:n≤9223372036854775807) (hsp : -9223372036854775808≤split∧split≤9223372036854775807) :
 Ans Tryz.prog 56 [.slice A n c,.int .i64 split,.int .i64 least,.int .i64 cpus] w (HeapOut w.heap.size (heapNewV l split least cpus)):=by
 refine ans_of Tryz.func56 rfl Tryz.ntmps56 rfl ?_
 refine CW.seq (CW.region (SW.alloc rfl fun b8 w1 hw hb8b hb8 => ?_))
 have hb8w:=hb8b
 obtain ⟨q,hq⟩ : ∃ q,regionsB l=q:=⟨_,rfl⟩
 have c1:∀ w',Ext w w'→Ans Tryz.prog 131 [.agg (bootCells A n c none 0 0).toArray] w' fun v _=>v = .int .i64 (if q then 0 else 8):=fun w' h=>by
  have:=Check_ans A n c none 0 0 l [] w' (hl.ext h) (Sl.nil_ _ _ _ _) hn (by omega)
  have e:bootB l []=q:=by
   have:regionsB []=true:=regionsB_t ⟨by simp,fun i h=>by simp at h⟩
   simp [bootB,this,hq]
  rwa [e] at this
 cases q
 ·simp only [Bool.false_eq_true,if_false] at c1
  rw [heapNewV_8 hq]
  repeat' (first|(first|refine CW.seq ?_|refine CW.region ?_|refine CW.condn_t rfl (by omega) ?_)|(refine Post.seq ?_)|refine SW.nil ?_|refine SW.pure rfl rfl ?_|(show SW _ _ _ _ (⟨_,Op.build _ _,_,_,_,none⟩::_) _ _;refine SW.st (st_build rfl rfl) rfl ?_)|(show SW _ _ _ _ (⟨_,Op.call ⟨.value (.func _),_,_⟩,_,_,_,none⟩::_) _ _;(refine SW.call rfl rfl (c1 _ hw) ?_;intro v w1 hw1 hv;subst hv;replace hw:=Ext.trans hw hw1;replace hb8:=hb8.ext hw1;clear hw1)))
  refine SW.storeAgg hb8 rfl rfl rfl rfl (one_h .zero) fun w5 hR2 hg => ?_
  replace hw:=hw.own hb8w hg
  repeat' (first|(refine CW.ret ?_)|(first|refine Post.seq ?_|refine Post.seq_ret ?_)|refine SW.nil ?_|refine SW.pure rfl rfl ?_)
  exact Post.ret2c rfl rfl rfl hR2 rfl ⟨_,rfl,hw,HeapOut.zero 8 _ _⟩
 ·simp only [if_true] at c1
  have hok:=regionsB_iff.1 hq
  repeat' (first|(first|refine CW.seq ?_|refine CW.region ?_|refine CW.condn_f rfl (by omega) ?_|refine CW.skip ?_)|(refine Post.seq ?_)|refine SW.nil ?_|refine SW.pure rfl rfl ?_|(show SW _ _ _ _ (⟨_,Op.build _ _,_,_,_,none⟩::_) _ _;refine SW.st (st_build rfl rfl) rfl ?_)|(show SW _ _ _ _ (⟨_,Op.call ⟨.value (.func _),_,_⟩,_,_,_,none⟩::_) _ _;(refine SW.call rfl rfl (c1 _ hw) ?_;intro v w1 hw1 hv;subst hv;replace hw:=Ext.trans hw hw1;replace hb8:=hb8.ext hw1;clear hw1)))
  refine SW.call rfl rfl (Znew_ans 0 split _ (by omega) hsp) fun v w4 hw4 hv => ?_
  obtain ⟨o1,ho1⟩ : ∃ o,zoneNewV 0 split=o:=⟨_,rfl⟩
  rw [ho1] at hv
  obtain ⟨u1,rfl,hs1⟩:=hv
  replace hs1:=hs1.low hw.size
  (replace hw:=Ext.trans hw hw4;replace hb8:=hb8.ext hw4)
  clear c1
  have hlt8:=hb8.lt
  repeat' (refine SW.pure rfl rfl ?_)
  refine SW.alloc rfl fun b10 w1 hw1 hb10b hb10 => ?_
  skip
  refine SW.storeAgg hb10 rfl rfl rfl rfl (one_z u1) fun w2 hb10' hg => ?_
  have hXX:=hw1.own hb10b hg
  have hb10w:w.heap.size≤b10:=Nat.le_trans hw.size hb10b
  replace hw:=Ext.trans hw hXX
  replace hb8:=hb8.ext hXX
  replace hs1:=hs1.ext hXX
  replace hb10:=hb10'
  clear hb10' hw1 hg hXX
  have hne810:b8≠b10:=by omega
  repeat' (first|(first|refine CW.seq ?_|refine CW.region ?_)|(refine Post.seq ?_)|refine SW.nil ?_|refine SW.pure rfl rfl ?_)
  refine SW.call rfl rfl (Znew_ans split 256 _ hsp (by omega)) fun v w4 hw4 hv => ?_
  obtain ⟨o2,ho2⟩ : ∃ o,zoneNewV split 256=o:=⟨_,rfl⟩
  rw [ho2] at hv
  obtain ⟨u2,rfl,hs2⟩:=hv
  replace hs2:=hs2.low hw.size
  (replace hw:=Ext.trans hw hw4;replace hb8:=hb8.ext hw4;replace hb10:=hb10.ext hw4;replace hs1:=hs1.ext hw4)
  repeat' (refine SW.pure rfl rfl ?_)
  have hlt10:=hb10.lt
  have hne8:=hb8.lt
  refine SW.alloc rfl fun b12 w1 hw1 hb12b hb12 => ?_
  skip
  refine SW.storeAgg hb12 rfl rfl rfl rfl (one_z u2) fun w2 hb12' hg => ?_
  have hXX:=hw1.own hb12b hg
  have hb12w:w.heap.size≤b12:=Nat.le_trans hw.size hb12b
  replace hw:=Ext.trans hw hXX
  replace hb8:=hb8.ext hXX
  replace hb10:=hb10.ext hXX
  replace hs1:=hs1.ext hXX
  replace hs2:=hs2.ext hXX
  replace hb12:=hb12'
  clear hb12' hw1 hg hXX
  have hne1012:b10≠b12:=by omega
  have hne812:b8≠b12:=by omega
  by_cases hz:zoneOk 0 split
  ·have g1:o1.1=0:=by rw [← ho1,zoneNewV_t hz]
   have g2:o2.1=0:=by rw [← ho2,zoneNewV_t (split_ok.2 hz)]
   rw [g1,g2]
   by_cases ha:newArgs split least cpus
   ·obtain ⟨_,⟨a1,a2⟩,a3,a4⟩:=id ha
    obtain ⟨z1,z2,z3,z4,z5⟩:=id hz
    rw [heapNewV_0 hq ha]
    have hA:=hl.base
    have hll:=hl.len
    repeat' (first|(first|refine CW.seq ?_|refine CW.region ?_|refine CW.block ?_|refine CW.condd_f rfl (by omega) ?_|refine CW.skip ?_)|(refine Post.seq ?_)|refine SW.nil ?_|(show SW _ _ _ _ (⟨_,_,_,_,_,some _⟩::_) _ _;first|refine SW.want_f rfl rfl (by with_reducible rfl) ?_|refine SW.splitd_f rfl rfl rfl (by omega) ?_|refine SW.splitn_f rfl rfl rfl (by omega) ?_)|refine SW.pure rfl rfl ?_|(show SW _ _ _ _ (⟨_,Op.call ⟨.builtin .len,_,_⟩,_,_,_,none⟩::_) _ _;refine SW.st (st_len rfl) rfl ?_))
    have i1:o1.2=(givenZ l split 0).1:=by rw [← ho1];rfl
    have i2:o2.2=(givenZ l split 0).2:=by rw [← ho2];rfl
    rw [i1] at hs1
    rw [i2] at hs2
    refine CW.loop (fun t:Nat×ZRow×ZRow=>[(1,.int .i64 split),(2,.int .i64 least),(3,.int .i64 cpus),(8,.pointer (some ⟨b8,0,none⟩)),(10,.pointer (some ⟨b10,0,none⟩)),(12,.pointer (some ⟨b12,0,none⟩)),(55,.slice A n c),(56,.int .i64 (n:Int)),(57,.int .i64 (t.1:Int))])
     (fun t w'=>t.1≤n∧Ext w w'∧Blk w' b8 41 (encH .zero)∧Blk w' b10 139 (encZ t.2.1)∧Blk w' b12 139 (encZ t.2.2)∧OwnZ w' w.heap.size t.2.1 (givenZ l split t.1).1∧OwnZ w' w.heap.size t.2.2 (givenZ l split t.1).2) (fun t=>n-t.1) (0,u1,u2)
     ⟨rfl,rfl,rfl,rfl,rfl,rfl,rfl,rfl,rfl,trivial⟩ ⟨by omega,hw,hb8,hb10,hb12,hs1,hs2⟩ ?_
    clear hw hb8 hb10 hb12 hs1 hs2
    rintro ⟨k,u1,u2⟩ w' ⟨hk,hw,hb8,hb10,hb12,hs1,hs2⟩
    simp only at hk hb10 hb12 hs1 hs2 ⊢
    have hm:=small_newZ (l:=l) hz (stopOf l k).toNat
    by_cases hkn:k<n
    ·have hkl:=hl.lt hkn
     have hrok:=(hok.2 k hkl).1
     unfold Region.ok at hrok
     have hgs:=given_succ hok (split:=split) hkl
     obtain ⟨e1,he1⟩ : ∃ e,belowOf l[k] split=e:=⟨_,rfl⟩
     have hbo:max 0 (min (l[k].From+l[k].Size) split-l[k].From)=e1:=he1
     have hbb : 0≤e1∧e1≤l[k].Size:=by omega
     rw [he1] at hgs
     repeat' (first|(first|refine CW.seq ?_|refine CW.region ?_|refine CW.block ?_|refine CW.condd_t rfl (by omega) ?_|refine CW.skip ?_)|(refine Post.seq ?_)|refine SW.nil ?_|refine SW.pure rfl rfl ?_|(show SW _ _ _ _ (⟨_,Op.indexAddr _ _ _,_,_,_,none⟩::_) _ _;refine SW.st (st_indexN rfl rfl (by assumption) (by omega)) rfl ?_)|(show SW _ _ _ _ (⟨_,Op.load _ _,_,_,_,none⟩::_) _ _;refine SW.st (st_loadsx hw rfl rfl ((hl.all hkn))) rfl ?_))
     have l10:=hb10.lt
     have l12:=hb12.lt
     refine SW.alloc rfl fun b15 w1 hw1 hb15b hb15 => ?_
     skip
     refine SW.storeAgg hb15 rfl rfl rfl rfl (Enc.one (enc:=encR) _) fun w2 hb15' hg => ?_
     have hXX:=hw1.own hb15b hg
     have hb15w:w.heap.size≤b15:=Nat.le_trans hw.size hb15b
     replace hw:=Ext.trans hw hXX
     replace hb8:=hb8.ext hXX
     replace hb10:=hb10.ext hXX
     replace hb12:=hb12.ext hXX
     replace hs1:=hs1.ext hXX
     replace hs2:=hs2.ext hXX
     replace hb15:=hb15'
     clear hb15' hw1 hg hXX
     have d10:b10≠b15:=by omega
     have d12:b12≠b15:=by omega
     by_cases h2:e1<l[k].Size
     ·by_cases h1 : 0<e1
      case' pos =>
       repeat' (first|(first|refine CW.seq ?_|refine CW.region ?_|refine CW.condd_t rfl (by omega) ?_)|(refine Post.seq ?_)|refine SW.nil ?_|refine SW.pure rfl rfl ?_|(show SW _ _ _ _ (⟨_,Op.fieldAddr _ _ _,_,_,_,none⟩::_) _ _;refine SW.st (st_field rfl) rfl ?_)|(show SW _ _ _ _ (⟨_,Op.binOp _ _ _ _ _,_,_,_,none⟩::_) _ _;first|refine SW.st (st_add rfl rfl (by omega) (by omega)) rfl ?_|refine SW.st (st_sub rfl rfl (by omega) (by omega)) rfl ?_)|(show SW _ _ _ _ (⟨_,Op.load _ _,_,_,_,none⟩::_) _ _;first|refine SW.st (st_load rfl (hb15.cell rfl)) rfl ?_|refine SW.st (st_loads rfl rfl ((fun _ _=>hb10.cell))) rfl ?_)|(refine SW.st (st_max rfl rfl) rfl ?_)|(refine SW.st (st_min rfl rfl) rfl ?_))
       rw [hbo]
       refine SW.call rfl rfl (GiveS l[k].From e1 hs1 hm.1) fun v w4 hw4 hv => ?_
       obtain ⟨u3,rfl,hs3⟩:=hv
       replace hs3:=hs3.low hw.size
       (replace hw:=Ext.trans hw hw4;replace hb8:=hb8.ext hw4;replace hb10:=hb10.ext hw4;replace hb12:=hb12.ext hw4;replace hb15:=hb15.ext hw4;replace hs1:=hs1.ext hw4;replace hs2:=hs2.ext hw4)
       repeat' (refine SW.pure rfl rfl ?_)
       refine SW.storeAgg hb10 rfl rfl rfl rfl (one_z u3) fun w5 hb10' hg => ?_
       replace hw:=hw.own hb10w hg
       replace hs2:=hs2.blk hb10 hg rfl rfl
       replace hs3:=hs3.blk hb10 hg rfl rfl
       replace hb8:=hb8.grown hg (by simpa using hne810)
       replace hb12:=hb12.grown hg (by simpa using Ne.symm hne1012)
       replace hb15:=hb15.grown hg (by simpa using Ne.symm d10)
       replace hb10:=hb10'
       clear hb10' hg hs1
       have hs1:=hs3
       rw [giveIf_t h1] at hs1
       clear hs3
       repeat' (first|(first|refine CW.seq ?_|refine CW.region ?_)|(refine Post.seq ?_)|refine SW.nil ?_|(show SW _ _ _ _ (⟨_,Op.fieldAddr _ _ _,_,_,_,none⟩::_) _ _;refine SW.st (st_field rfl) rfl ?_))
      case' neg =>
       repeat' (first|(first|refine CW.seq ?_|refine CW.region ?_|refine CW.condd_t rfl (by omega) ?_|refine CW.condd_f rfl (by omega) ?_|refine CW.skip ?_)|(refine Post.seq ?_)|refine SW.nil ?_|refine SW.pure rfl rfl ?_|(show SW _ _ _ _ (⟨_,Op.fieldAddr _ _ _,_,_,_,none⟩::_) _ _;refine SW.st (st_field rfl) rfl ?_)|(show SW _ _ _ _ (⟨_,Op.binOp _ _ _ _ _,_,_,_,none⟩::_) _ _;first|refine SW.st (st_add rfl rfl (by omega) (by omega)) rfl ?_|refine SW.st (st_sub rfl rfl (by omega) (by omega)) rfl ?_)|(show SW _ _ _ _ (⟨_,Op.load _ _,_,_,_,none⟩::_) _ _;refine SW.st (st_load rfl (hb15.cell rfl)) rfl ?_)|(refine SW.st (st_max rfl rfl) rfl ?_)|(refine SW.st (st_min rfl rfl) rfl ?_))
       rw [hbo]
       have hs3:=hs1
       clear hs1
       obtain ⟨u3,hu3⟩ : ∃ u,u=u1:=⟨_,rfl⟩
       rw [← hu3] at hs3 hb10
       have hs1:=hs3
       rw [giveIf_f (z:=(givenZ l split k).1) (f:=l[k].From) h1] at hs1
       clear hs3
      all_goals
       repeat' (first|(first|refine CW.region ?_|refine CW.condd_t rfl (by omega) ?_)|(refine Post.seq ?_)|refine SW.nil ?_|refine SW.pure rfl rfl ?_|(show SW _ _ _ _ (⟨_,Op.fieldAddr _ _ _,_,_,_,none⟩::_) _ _;refine SW.st (st_field rfl) rfl ?_)|(show SW _ _ _ _ (⟨_,Op.binOp _ _ _ _ _,_,_,_,none⟩::_) _ _;first|refine SW.st (st_add rfl rfl (by omega) (by omega)) rfl ?_|refine SW.st (st_sub rfl rfl (by omega) (by omega)) rfl ?_)|(show SW _ _ _ _ (⟨_,Op.load _ _,_,_,_,none⟩::_) _ _;first|refine SW.st (st_load rfl (hb15.cell rfl)) rfl ?_|refine SW.st (st_loads rfl rfl ((fun _ _=>hb12.cell))) rfl ?_))
       refine SW.call rfl rfl (GiveS (l[k].From+e1) (l[k].Size-e1) hs2 hm.2) fun v w4 hw4 hv => ?_
       obtain ⟨u4,rfl,hs3⟩:=hv
       replace hs3:=hs3.low hw.size
       (replace hw:=Ext.trans hw hw4;replace hb8:=hb8.ext hw4;replace hb10:=hb10.ext hw4;replace hb12:=hb12.ext hw4;replace hb15:=hb15.ext hw4;replace hs1:=hs1.ext hw4;replace hs2:=hs2.ext hw4)
       repeat' (refine SW.pure rfl rfl ?_)
       refine SW.storeAgg hb12 rfl rfl rfl rfl (one_z u4) fun w5 hb12' hg => ?_
       replace hw:=hw.own hb12w hg
       replace hs1:=hs1.blk hb12 hg rfl rfl
       replace hs3:=hs3.blk hb12 hg rfl rfl
       replace hb8:=hb8.grown hg (by simpa using hne812)
       replace hb10:=hb10.grown hg (by simpa using hne1012)
       replace hb12:=hb12'
       clear hb12' hg hs2
       have hs2:=hs3
       rw [giveIf_t (by omega)] at hs2
       clear hs3
       repeat' (first|(refine CW.region ?_)|(first|refine Post.seq ?_|refine Post.blk ?_)|refine SW.nil ?_|refine SW.pure rfl rfl ?_|(show SW _ _ _ _ (⟨_,Op.binOp _ _ _ _ _,_,_,_,none⟩::_) _ _;refine SW.st (st_add rfl rfl (by omega) (by omega)) rfl ?_))
      all_goals
       refine Post.again (k+1,u3,u4) ⟨rfl,rfl,rfl,rfl,rfl,rfl,rfl,rfl,rfl,trivial⟩ (by simp only;omega) ⟨by simp only;omega,hw,hb8,hb10,hb12,?_,?_⟩
       ·simp only
        rw [hgs]
        exact hs1
       ·simp only
        rw [hgs]
        exact hs2
     ·have h1 : 0<e1:=by omega
      repeat' (first|(first|refine CW.seq ?_|refine CW.region ?_|refine CW.condd_t rfl (by omega) ?_)|(refine Post.seq ?_)|refine SW.nil ?_|refine SW.pure rfl rfl ?_|(show SW _ _ _ _ (⟨_,Op.fieldAddr _ _ _,_,_,_,none⟩::_) _ _;refine SW.st (st_field rfl) rfl ?_)|(show SW _ _ _ _ (⟨_,Op.binOp _ _ _ _ _,_,_,_,none⟩::_) _ _;first|refine SW.st (st_add rfl rfl (by omega) (by omega)) rfl ?_|refine SW.st (st_sub rfl rfl (by omega) (by omega)) rfl ?_)|(show SW _ _ _ _ (⟨_,Op.load _ _,_,_,_,none⟩::_) _ _;first|refine SW.st (st_load rfl (hb15.cell rfl)) rfl ?_|refine SW.st (st_loads rfl rfl ((fun _ _=>hb10.cell))) rfl ?_)|(refine SW.st (st_max rfl rfl) rfl ?_)|(refine SW.st (st_min rfl rfl) rfl ?_))
      rw [hbo]
      refine SW.call rfl rfl (GiveS l[k].From e1 hs1 hm.1) fun v w4 hw4 hv => ?_
      obtain ⟨u3,rfl,hs3⟩:=hv
      replace hs3:=hs3.low hw.size
      (replace hw:=Ext.trans hw hw4;replace hb8:=hb8.ext hw4;replace hb10:=hb10.ext hw4;replace hb12:=hb12.ext hw4;replace hb15:=hb15.ext hw4;replace hs1:=hs1.ext hw4;replace hs2:=hs2.ext hw4)
      repeat' (refine SW.pure rfl rfl ?_)
      refine SW.storeAgg hb10 rfl rfl rfl rfl (one_z u3) fun w5 hb10' hg => ?_
      replace hw:=hw.own hb10w hg
      replace hs2:=hs2.blk hb10 hg rfl rfl
      replace hs3:=hs3.blk hb10 hg rfl rfl
      replace hb8:=hb8.grown hg (by simpa using hne810)
      replace hb12:=hb12.grown hg (by simpa using Ne.symm hne1012)
      replace hb15:=hb15.grown hg (by simpa using Ne.symm d10)
      replace hb10:=hb10'
      clear hb10' hg hs1
      have hs1:=hs3
      rw [giveIf_t h1] at hs1
      clear hs3
      repeat' (first|(first|refine CW.seq ?_|refine CW.region ?_)|(refine Post.seq ?_)|refine SW.nil ?_|(show SW _ _ _ _ (⟨_,Op.fieldAddr _ _ _,_,_,_,none⟩::_) _ _;refine SW.st (st_field rfl) rfl ?_))
      repeat' (first|(first|refine CW.region ?_|refine CW.condd_f rfl (by omega) ?_|refine CW.skip ?_)|(first|refine Post.seq ?_|refine Post.blk ?_)|refine SW.nil ?_|refine SW.pure rfl rfl ?_|(show SW _ _ _ _ (⟨_,Op.binOp _ _ _ _ _,_,_,_,none⟩::_) _ _;refine SW.st (st_add rfl rfl (by omega) (by omega)) rfl ?_)|(show SW _ _ _ _ (⟨_,Op.load _ _,_,_,_,none⟩::_) _ _;refine SW.st (st_load rfl (hb15.cell rfl)) rfl ?_))
      have hs3:=hs2
      clear hs2
      obtain ⟨u4,hu4⟩ : ∃ u,u=u2:=⟨_,rfl⟩
      rw [← hu4] at hs3 hb12
      have hs2:=hs3
      rw [giveIf_f (z:=(givenZ l split k).2) (f:=l[k].From+e1) (s:=l[k].Size-e1) (by omega)] at hs2
      clear hs3
      refine Post.again (k+1,u3,u4) ⟨rfl,rfl,rfl,rfl,rfl,rfl,rfl,rfl,rfl,trivial⟩ (by simp only;omega) ⟨by simp only;omega,hw,hb8,hb10,hb12,?_,?_⟩
      ·simp only
       rw [hgs]
       exact hs1
      ·simp only
       rw [hgs]
       exact hs2
    ·have ek:k=l.length:=by omega
     have hga:=given_all hok split
     rw [← ek] at hga
     rw [hga] at hs1 hs2
     repeat' (first|(first|refine CW.seq ?_|refine CW.region ?_|refine CW.condd_f rfl (by omega) ?_|refine CW.exit ?_)|(first|refine Post.seq ?_|refine Post.seq_exit ?_|refine Post.hit ?_|refine Post.again_exit ?_)|refine SW.nil ?_|refine SW.pure rfl rfl ?_|(show SW _ _ _ _ (⟨_,Op.load _ _,_,_,_,none⟩::_) _ _;first|refine SW.st (st_loads rfl rfl ((fun _ _=>hb10.cell))) rfl ?_|refine SW.st (st_loads rfl rfl ((fun _ _=>hb12.cell))) rfl ?_))
     refine SW.build2 (enc:=encZ) u1 u2 rfl rfl rfl rfl rfl rfl fun g w2 hg2 hgw hZ => ?_
     replace hZ:=hZ.low hw.size
     (replace hw:=Ext.trans hw hg2;replace hb8:=hb8.ext hg2;replace hs1:=hs1.ext hg2;replace hs2:=hs2.ext hg2)
     repeat' (refine SW.pure rfl rfl ?_)
     refine SW.build2 (enc:=encI) least least rfl rfl rfl rfl rfl rfl fun g' w3 hg3 hgw' hM => ?_
     replace hM:=hM.low hw.size
     (replace hw:=Ext.trans hw hg3;replace hb8:=hb8.ext hg3;replace hs1:=hs1.ext hg3;replace hs2:=hs2.ext hg3;replace hZ:=hZ.ext hg3)
     repeat' (first|refine SW.pure rfl rfl ?_|(show SW _ _ _ _ (⟨_,Op.build _ _,_,_,_,none⟩::_) _ _;refine SW.st (st_build rfl rfl) rfl ?_))
     refine SW.storeAgg hb8 rfl rfl rfl rfl (one_h ⟨⟨some ⟨g,0,none⟩,2,2⟩,⟨some ⟨g',0,none⟩,2,2⟩,cpus,.nil,.nil⟩) fun w5 hR2 hg => ?_
     replace hw:=hw.own hb8w hg
     replace hs1:=hs1.blk hb8 hg rfl rfl
     replace hs2:=hs2.blk hb8 hg rfl rfl
     replace hZ:=hZ.grown hg (.inr (hZ.ne_blk hb8 rfl))
     replace hM:=hM.grown hg (.inr (hM.ne_blk hb8 rfl))
     repeat' (first|(refine CW.ret ?_)|(refine Post.seq ?_)|refine SW.nil ?_|refine SW.pure rfl rfl ?_)
     exact Post.ret2c rfl rfl rfl hR2 rfl ⟨_,rfl,hw,⟨⟨some ⟨g,0,none⟩,2,2⟩,⟨some ⟨g',0,none⟩,2,2⟩,cpus,.nil,.nil⟩,rfl,⟨rfl,hM,Own.nil_ _ _ _ _ _ _,⟨[u1,u2],⟨hZ,All2.two hs1 hs2⟩⟩,⟨[],.nil _ _⟩⟩⟩
   ·rw [heapNewV_1 hq ha]
    have ha' : ¬ ((0≤least∧least≤256)∧1≤cpus∧cpus≤4):=fun h=>ha ⟨hz,h⟩
    repeat' (first|(first|refine CW.seq ?_|refine CW.region ?_|refine CW.condtr rfl (by with_reducible rfl) ?_|refine CW.condd_t rfl (by omega) ?_)|(refine Post.seq ?_)|refine SW.nil ?_|(show SW _ _ _ _ (⟨_,_,_,_,_,some _⟩::_) _ _;first|refine SW.want_f rfl rfl (by with_reducible rfl) ?_|refine SW.skip_f rfl rfl (by with_reducible rfl) rfl ?_|refine SW.splitn_f rfl rfl rfl (by omega) ?_|refine SW.splitd rfl rfl rfl (fun h => ?_) (fun h => ?_))|refine SW.pure rfl rfl ?_|(show SW _ _ _ _ (⟨_,Op.build _ _,_,_,_,none⟩::_) _ _;refine SW.st (st_build rfl rfl) rfl ?_))
    all_goals first|(exfalso;omega)|skip
    all_goals
     refine SW.storeAgg hb8 rfl rfl rfl rfl (one_h .zero) fun w5 hR2 hg => ?_
     replace hw:=hw.own hb8w hg
     repeat' (first|(refine CW.ret ?_)|(first|refine Post.seq ?_|refine Post.seq_ret ?_)|refine SW.nil ?_|refine SW.pure rfl rfl ?_)
     exact Post.ret2c rfl rfl rfl hR2 rfl ⟨_,rfl,hw,HeapOut.zero 1 _ _⟩
  ·have g1:o1.1=1:=by rw [← ho1,zoneNewV_f hz]
   rw [g1,heapNewV_1 hq (fun h=>hz h.1)]
   repeat' (first|(first|refine CW.seq ?_|refine CW.region ?_|refine CW.condtr rfl (by with_reducible rfl) ?_)|(refine Post.seq ?_)|refine SW.nil ?_|(show SW _ _ _ _ (⟨_,_,_,_,_,some _⟩::_) _ _;first|refine SW.skip_f rfl rfl (by with_reducible rfl) rfl ?_|refine SW.splitn_t rfl rfl rfl (by omega) ?_)|refine SW.pure rfl rfl ?_|(show SW _ _ _ _ (⟨_,Op.build _ _,_,_,_,none⟩::_) _ _;refine SW.st (st_build rfl rfl) rfl ?_))
   refine SW.storeAgg hb8 rfl rfl rfl rfl (one_h .zero) fun w5 hR2 hg => ?_
   replace hw:=hw.own hb8w hg
   repeat' (first|(refine CW.ret ?_)|(first|refine Post.seq ?_|refine Post.seq_ret ?_)|refine SW.nil ?_|refine SW.pure rfl rfl ?_)
   exact Post.ret2c rfl rfl rfl hR2 rfl ⟨_,rfl,hw,HeapOut.zero 1 _ _⟩
open Go.RowKit
theorem BackS {w':World} {lo:Nat} {r:ZRow} {z:Zone} (f s:Int) (h:OwnZ w' lo r z) (hs:SmallZ z) : Ans Tryz.prog 149 [.agg (encZ r).toArray,.int .i64 f,.int .i64 s] w' (ZoneOut w'.heap.size (backV z f s)):=by
 obtain ⟨h1,h2,h3,h4⟩:=h.small hs
 exact BackOf_ans r z f s w' h.rd h1 h2 h3 h4
set_option maxHeartbeats 4000000 in
theorem HeapNew_ans (A:Option Addr) (n c:Nat) (l:List Region) (split least cpus:Int) (w:World) (hl:Sl w 2 encR A n l) (hn:n≤9223372036854775807) (hsp : -9223372036854775808≤split∧split≤9223372036854775807) :
 Ans Tryz.prog 61 [.slice A n c,.int .i64 split,.int .i64 least,.int .i64 cpus] w (HeapOut w.heap.size (heapNewV l split least cpus)):=by
 refine ans_of Tryz.func61 rfl Tryz.ntmps61 rfl ?_
 refine CW.seq (CW.region (SW.alloc rfl fun b8 w1 hw hb8b hb8 => ?_))
 have hb8w:=hb8b
 obtain ⟨q,hq⟩ : ∃ q,regionsB l=q:=⟨_,rfl⟩
 have c1:∀ w',Ext w w'→Ans Tryz.prog 147 [.slice A n c] w' fun v _=>v = .bool q:=fun w' h=>by
  have:=regionsMay_ans A n c l w' (hl.ext h) hn
  rwa [hq] at this
 cases q
 ·rw [heapNewV_8 hq]
  repeat' (first|(first|refine CW.seq ?_|refine CW.region ?_|refine CW.condt rfl ?_)|(refine Post.seq ?_)|refine SW.nil ?_|refine SW.pure rfl rfl ?_|(show SW _ _ _ _ (⟨_,Op.build _ _,_,_,_,none⟩::_) _ _;refine SW.st (st_build rfl rfl) rfl ?_)|(show SW _ _ _ _ (⟨_,Op.call ⟨.value (.func _),_,_⟩,_,_,_,none⟩::_) _ _;(refine SW.call rfl rfl (c1 _ hw) ?_;intro v w1 hw1 hv;subst hv;replace hw:=Ext.trans hw hw1;replace hb8:=hb8.ext hw1;clear hw1)))
  refine SW.storeAgg hb8 rfl rfl rfl rfl (one_h .zero) fun w5 hR2 hg => ?_
  replace hw:=hw.own hb8w hg
  repeat' (first|(refine CW.ret ?_)|(first|refine Post.seq ?_|refine Post.seq_ret ?_)|refine SW.nil ?_|refine SW.pure rfl rfl ?_)
  exact Post.ret2c rfl rfl rfl hR2 rfl ⟨_,rfl,hw,HeapOut.zero 8 _ _⟩
 ·have hok:=regionsB_iff.1 hq
  repeat' (first|(first|refine CW.seq ?_|refine CW.region ?_|refine CW.condf rfl ?_|refine CW.skip ?_)|(refine Post.seq ?_)|refine SW.nil ?_|refine SW.pure rfl rfl ?_|(show SW _ _ _ _ (⟨_,Op.call ⟨.value (.func _),_,_⟩,_,_,_,none⟩::_) _ _;(refine SW.call rfl rfl (c1 _ hw) ?_;intro v w1 hw1 hv;subst hv;replace hw:=Ext.trans hw hw1;replace hb8:=hb8.ext hw1;clear hw1)))
  refine SW.call rfl rfl (ZoneNew_ans 0 split _ (by omega) hsp) fun v w4 hw4 hv => ?_
  obtain ⟨o1,ho1⟩ : ∃ o,zoneNewV 0 split=o:=⟨_,rfl⟩
  rw [ho1] at hv
  obtain ⟨u1,rfl,hs1⟩:=hv
  replace hs1:=hs1.low hw.size
  (replace hw:=Ext.trans hw hw4;replace hb8:=hb8.ext hw4)
  clear c1
  have hlt8:=hb8.lt
  repeat' (refine SW.pure rfl rfl ?_)
  refine SW.alloc rfl fun b10 w1 hw1 hb10b hb10 => ?_
  skip
  refine SW.storeAgg hb10 rfl rfl rfl rfl (one_z u1) fun w2 hb10' hg => ?_
  have hXX:=hw1.own hb10b hg
  have hb10w:w.heap.size≤b10:=Nat.le_trans hw.size hb10b
  replace hw:=Ext.trans hw hXX
  replace hb8:=hb8.ext hXX
  replace hs1:=hs1.ext hXX
  replace hb10:=hb10'
  clear hb10' hw1 hg hXX
  have hne810:b8≠b10:=by omega
  by_cases hz:zoneOk 0 split
  ·have g1:o1.1=0:=by rw [← ho1,zoneNewV_t hz]
   rw [g1]
   by_cases ha:newArgs split least cpus
   ·obtain ⟨_,⟨a1,a2⟩,a3,a4⟩:=id ha
    obtain ⟨z1,z2,z3,z4,z5⟩:=id hz
    rw [heapNewV_0 hq ha]
    repeat' (first|(first|refine CW.seq ?_|refine CW.region ?_|refine CW.condn_f rfl (by omega) ?_|refine CW.skip ?_)|(refine Post.seq ?_)|refine SW.nil ?_|(show SW _ _ _ _ (⟨_,_,_,_,_,some _⟩::_) _ _;first|refine SW.want_f rfl rfl (by with_reducible rfl) ?_|refine SW.splitn_f rfl rfl rfl (by omega) ?_)|refine SW.pure rfl rfl ?_|(show SW _ _ _ _ (⟨_,Op.call ⟨.value (.func _),_,_⟩,_,_,_,none⟩::_) _ _;(refine SW.call rfl rfl (In_ans _ _ _ _) ?_;intro v w1 hw1 hv;subst hv;replace hw:=Ext.trans hw hw1;replace hb8:=hb8.ext hw1;replace hb10:=hb10.ext hw1;replace hs1:=hs1.ext hw1;clear hw1)))
    all_goals first|(exfalso;omega)|skip
    refine SW.call rfl rfl (ZoneNew_ans split 256 _ hsp (by omega)) fun v w4 hw4 hv => ?_
    obtain ⟨o2,ho2⟩ : ∃ o,zoneNewV split 256=o:=⟨_,rfl⟩
    rw [ho2] at hv
    obtain ⟨u2,rfl,hs2⟩:=hv
    replace hs2:=hs2.low hw.size
    (replace hw:=Ext.trans hw hw4;replace hb8:=hb8.ext hw4;replace hb10:=hb10.ext hw4;replace hs1:=hs1.ext hw4)
    repeat' (refine SW.pure rfl rfl ?_)
    have hlt10:=hb10.lt
    have hne8:=hb8.lt
    refine SW.alloc rfl fun b12 w1 hw1 hb12b hb12 => ?_
    skip
    refine SW.storeAgg hb12 rfl rfl rfl rfl (one_z u2) fun w2 hb12' hg => ?_
    have hXX:=hw1.own hb12b hg
    have hb12w:w.heap.size≤b12:=Nat.le_trans hw.size hb12b
    replace hw:=Ext.trans hw hXX
    replace hb8:=hb8.ext hXX
    replace hb10:=hb10.ext hXX
    replace hs1:=hs1.ext hXX
    replace hs2:=hs2.ext hXX
    replace hb12:=hb12'
    clear hb12' hw1 hg hXX
    have hne1012:b10≠b12:=by omega
    have hne812:b8≠b12:=by omega
    repeat' (first|(first|refine CW.seq ?_|refine CW.region ?_|refine CW.block ?_)|(refine Post.seq ?_)|refine SW.nil ?_|refine SW.pure rfl rfl ?_)
    have i1:o1.2=(newZ l split 0).1:=by rw [← ho1];rfl
    have i2:o2.2=(newZ l split 0).2:=by rw [← ho2];rfl
    rw [i1] at hs1
    rw [i2] at hs2
    obtain ⟨N,hN⟩ : ∃ N:Nat,N=256:=⟨_,rfl⟩
    refine CW.loop (fun t:Nat×ZRow×ZRow=>[(0,.slice A n c),(1,.int .i64 split),(2,.int .i64 least),(3,.int .i64 cpus),(8,.pointer (some ⟨b8,0,none⟩)),(10,.pointer (some ⟨b10,0,none⟩)),(12,.pointer (some ⟨b12,0,none⟩)),(14,.int .i64 (t.1:Int))])
     (fun t w'=>t.1≤N∧Ext w w'∧Blk w' b8 41 (encH .zero)∧Blk w' b10 139 (encZ t.2.1)∧Blk w' b12 139 (encZ t.2.2)∧OwnZ w' w.heap.size t.2.1 (newZ l split t.1).1∧OwnZ w' w.heap.size t.2.2 (newZ l split t.1).2) (fun t=>N-t.1) (0,u1,u2)
     ⟨rfl,rfl,rfl,rfl,rfl,rfl,rfl,rfl,trivial⟩ ⟨by omega,hw,hb8,hb10,hb12,hs1,hs2⟩ ?_
    clear hw hb8 hb10 hb12 hs1 hs2
    rintro ⟨k,u1,u2⟩ w' ⟨hk,hw,hb8,hb10,hb12,hs1,hs2⟩
    simp only at hk hb10 hb12 hs1 hs2 ⊢
    have hm:=small_newZ (l:=l) hz k
    by_cases hkn:k<N
    ·obtain ⟨e,he⟩ : ∃ e,inReg l (k:Int)=e:=⟨_,rfl⟩
     have cI:∀ w',Ext w w'→Ans Tryz.prog 146 [.slice A n c,.int .i64 (k:Int)] w' fun v _=>v = .bool e:=fun w' h=>by
      have:=inRegions_ans A n c l (k:Int) w' (hl.ext h) (fun r hr=>by obtain ⟨i,hi,rfl⟩:=List.getElem_of_mem hr;exact (hok.2 i hi).1) hn
      rwa [he] at this
     cases e
     ·repeat' (first|(first|refine CW.seq ?_|refine CW.region ?_|refine CW.block ?_|refine CW.condd_t rfl (by omega) ?_|refine CW.condt rfl ?_|refine CW.skip ?_|refine CW.exit ?_)|(first|refine Post.seq ?_|refine Post.seq_exit ?_|refine Post.hit ?_)|refine SW.nil ?_|refine SW.pure rfl rfl ?_|(show SW _ _ _ _ (⟨_,Op.binOp _ _ _ _ _,_,_,_,none⟩::_) _ _;refine SW.st (st_add rfl rfl (by omega) (by omega)) rfl ?_)|(show SW _ _ _ _ (⟨_,Op.call ⟨.value (.func _),_,_⟩,_,_,_,none⟩::_) _ _;(refine SW.call rfl rfl (cI _ hw) ?_;intro v w1 hw1 hv;subst hv;replace hw:=Ext.trans hw hw1;replace hb8:=hb8.ext hw1;replace hb10:=hb10.ext hw1;replace hb12:=hb12.ext hw1;replace hs1:=hs1.ext hw1;replace hs2:=hs2.ext hw1;clear hw1)))
      have en:newZ l split (k+1)=newZ l split k:=by rw [newZ,he,if_neg (by simp)]
      exact Post.again (k+1,u1,u2) ⟨rfl,rfl,rfl,rfl,rfl,rfl,rfl,rfl,trivial⟩ (by simp only;omega) ⟨by simp only;omega,hw,hb8,hb10,hb12,by simp only;rw [en];exact hs1,by simp only;rw [en];exact hs2⟩
     ·by_cases hks:(k:Int)<split
      ·have en:newZ l split (k+1)=(stepZ (newZ l split k).1 k,(newZ l split k).2):=by rw [newZ,he,if_pos rfl,if_pos hks]
       repeat' (first|(first|refine CW.seq ?_|refine CW.region ?_|refine CW.block ?_|refine CW.condd_t rfl (by omega) ?_|refine CW.condf rfl ?_|refine CW.skip ?_)|(refine Post.seq ?_)|refine SW.nil ?_|refine SW.pure rfl rfl ?_|(show SW _ _ _ _ (⟨_,Op.load _ _,_,_,_,none⟩::_) _ _;refine SW.st (st_loads rfl rfl ((fun _ _=>hb10.cell))) rfl ?_)|(show SW _ _ _ _ (⟨_,Op.call ⟨.value (.func _),_,_⟩,_,_,_,none⟩::_) _ _;(refine SW.call rfl rfl (cI _ hw) ?_;intro v w1 hw1 hv;subst hv;replace hw:=Ext.trans hw hw1;replace hb8:=hb8.ext hw1;replace hb10:=hb10.ext hw1;replace hb12:=hb12.ext hw1;replace hs1:=hs1.ext hw1;replace hs2:=hs2.ext hw1;clear hw1)))
       refine SW.call rfl rfl (BackS (k:Int) 0 hs1 hm.1) fun v w4 hw4 hv => ?_
       obtain ⟨u3,rfl,hs3⟩:=hv
       replace hs3:=hs3.low hw.size
       (replace hw:=Ext.trans hw hw4;replace hb8:=hb8.ext hw4;replace hb10:=hb10.ext hw4;replace hb12:=hb12.ext hw4;replace hs1:=hs1.ext hw4;replace hs2:=hs2.ext hw4)
       repeat' (refine SW.pure rfl rfl ?_)
       refine SW.storeAgg hb10 rfl rfl rfl rfl (one_z u3) fun w5 hb10' hg => ?_
       replace hw:=hw.own hb10w hg
       replace hs2:=hs2.blk hb10 hg rfl rfl
       replace hs3:=hs3.blk hb10 hg rfl rfl
       replace hb8:=hb8.grown hg (by simpa using hne810)
       replace hb12:=hb12.grown hg (by simpa using Ne.symm hne1012)
       repeat' (first|(refine CW.region ?_)|(first|refine Post.seq ?_|refine Post.blk ?_)|refine SW.nil ?_|refine SW.pure rfl rfl ?_|(show SW _ _ _ _ (⟨_,Op.binOp _ _ _ _ _,_,_,_,none⟩::_) _ _;refine SW.st (st_add rfl rfl (by omega) (by omega)) rfl ?_))
       exact Post.again (k+1,u3,u2) ⟨rfl,rfl,rfl,rfl,rfl,rfl,rfl,rfl,trivial⟩ (by simp only;omega) ⟨by simp only;omega,hw,hb8,hb10',hb12,by simp only;rw [en];exact hs3,by simp only;rw [en];exact hs2⟩
      ·have en:newZ l split (k+1)=((newZ l split k).1,stepZ (newZ l split k).2 k):=by rw [newZ,he,if_pos rfl,if_neg hks]
       repeat' (first|(first|refine CW.seq ?_|refine CW.region ?_|refine CW.block ?_|refine CW.condd_t rfl (by omega) ?_|refine CW.condd_f rfl (by omega) ?_|refine CW.condf rfl ?_|refine CW.skip ?_)|(refine Post.seq ?_)|refine SW.nil ?_|refine SW.pure rfl rfl ?_|(show SW _ _ _ _ (⟨_,Op.load _ _,_,_,_,none⟩::_) _ _;refine SW.st (st_loads rfl rfl ((fun _ _=>hb12.cell))) rfl ?_)|(show SW _ _ _ _ (⟨_,Op.call ⟨.value (.func _),_,_⟩,_,_,_,none⟩::_) _ _;(refine SW.call rfl rfl (cI _ hw) ?_;intro v w1 hw1 hv;subst hv;replace hw:=Ext.trans hw hw1;replace hb8:=hb8.ext hw1;replace hb10:=hb10.ext hw1;replace hb12:=hb12.ext hw1;replace hs1:=hs1.ext hw1;replace hs2:=hs2.ext hw1;clear hw1)))
       refine SW.call rfl rfl (BackS (k:Int) 0 hs2 hm.2) fun v w4 hw4 hv => ?_
       obtain ⟨u3,rfl,hs3⟩:=hv
       replace hs3:=hs3.low hw.size
       (replace hw:=Ext.trans hw hw4;replace hb8:=hb8.ext hw4;replace hb10:=hb10.ext hw4;replace hb12:=hb12.ext hw4;replace hs1:=hs1.ext hw4;replace hs2:=hs2.ext hw4)
       repeat' (refine SW.pure rfl rfl ?_)
       refine SW.storeAgg hb12 rfl rfl rfl rfl (one_z u3) fun w5 hb12' hg => ?_
       replace hw:=hw.own hb12w hg
       replace hs1:=hs1.blk hb12 hg rfl rfl
       replace hs3:=hs3.blk hb12 hg rfl rfl
       replace hb8:=hb8.grown hg (by simpa using hne812)
       replace hb10:=hb10.grown hg (by simpa using hne1012)
       repeat' (first|(refine CW.region ?_)|(first|refine Post.seq ?_|refine Post.blk ?_)|refine SW.nil ?_|refine SW.pure rfl rfl ?_|(show SW _ _ _ _ (⟨_,Op.binOp _ _ _ _ _,_,_,_,none⟩::_) _ _;refine SW.st (st_add rfl rfl (by omega) (by omega)) rfl ?_))
       exact Post.again (k+1,u1,u3) ⟨rfl,rfl,rfl,rfl,rfl,rfl,rfl,rfl,trivial⟩ (by simp only;omega) ⟨by simp only;omega,hw,hb8,hb10,hb12',by simp only;rw [en];exact hs1,by simp only;rw [en];exact hs3⟩
    ·have ek:k=256:=by omega
     subst ek
     repeat' (first|(first|refine CW.seq ?_|refine CW.region ?_|refine CW.condd_f rfl (by omega) ?_|refine CW.exit ?_)|(first|refine Post.seq ?_|refine Post.seq_exit ?_|refine Post.hit ?_|refine Post.again_exit ?_)|refine SW.nil ?_|refine SW.pure rfl rfl ?_|(show SW _ _ _ _ (⟨_,Op.load _ _,_,_,_,none⟩::_) _ _;first|refine SW.st (st_loads rfl rfl ((fun _ _=>hb10.cell))) rfl ?_|refine SW.st (st_loads rfl rfl ((fun _ _=>hb12.cell))) rfl ?_))
     refine SW.build2 (enc:=encZ) u1 u2 rfl rfl rfl rfl rfl rfl fun g w2 hg2 hgw hZ => ?_
     replace hZ:=hZ.low hw.size
     (replace hw:=Ext.trans hw hg2;replace hb8:=hb8.ext hg2;replace hs1:=hs1.ext hg2;replace hs2:=hs2.ext hg2)
     repeat' (refine SW.pure rfl rfl ?_)
     refine SW.build2 (enc:=encI) least least rfl rfl rfl rfl rfl rfl fun g' w3 hg3 hgw' hM => ?_
     replace hM:=hM.low hw.size
     (replace hw:=Ext.trans hw hg3;replace hb8:=hb8.ext hg3;replace hs1:=hs1.ext hg3;replace hs2:=hs2.ext hg3;replace hZ:=hZ.ext hg3)
     repeat' (first|refine SW.pure rfl rfl ?_|(show SW _ _ _ _ (⟨_,Op.build _ _,_,_,_,none⟩::_) _ _;refine SW.st (st_build rfl rfl) rfl ?_))
     refine SW.storeAgg hb8 rfl rfl rfl rfl (one_h ⟨⟨some ⟨g,0,none⟩,2,2⟩,⟨some ⟨g',0,none⟩,2,2⟩,cpus,.nil,.nil⟩) fun w5 hR2 hg => ?_
     replace hw:=hw.own hb8w hg
     replace hs1:=hs1.blk hb8 hg rfl rfl
     replace hs2:=hs2.blk hb8 hg rfl rfl
     replace hZ:=hZ.grown hg (.inr (hZ.ne_blk hb8 rfl))
     replace hM:=hM.grown hg (.inr (hM.ne_blk hb8 rfl))
     repeat' (first|(refine CW.ret ?_)|(refine Post.seq ?_)|refine SW.nil ?_|refine SW.pure rfl rfl ?_)
     exact Post.ret2c rfl rfl rfl hR2 rfl ⟨_,rfl,hw,⟨⟨some ⟨g,0,none⟩,2,2⟩,⟨some ⟨g',0,none⟩,2,2⟩,cpus,.nil,.nil⟩,rfl,⟨rfl,hM,Own.nil_ _ _ _ _ _ _,⟨[u1,u2],⟨hZ,All2.two hs1 hs2⟩⟩,⟨[],.nil _ _⟩⟩⟩
   ·rw [heapNewV_1 hq ha]
    have ha' : ¬ ((0≤least∧least≤256)∧1≤cpus∧cpus≤4):=fun h=>ha ⟨hz,h⟩
    repeat' (first|(first|refine CW.seq ?_|refine CW.region ?_|refine CW.condtr rfl (by with_reducible rfl) ?_|refine CW.condn_t rfl (by omega) ?_)|(refine Post.seq ?_)|refine SW.nil ?_|(show SW _ _ _ _ (⟨_,_,_,_,_,some _⟩::_) _ _;first|refine SW.want_f rfl rfl (by with_reducible rfl) ?_|refine SW.skip_f rfl rfl (by with_reducible rfl) rfl ?_|refine SW.splitn_f rfl rfl rfl (by omega) ?_|refine SW.splitn rfl rfl rfl (fun h => ?_) (fun h => ?_))|refine SW.pure rfl rfl ?_|(show SW _ _ _ _ (⟨_,Op.build _ _,_,_,_,none⟩::_) _ _;refine SW.st (st_build rfl rfl) rfl ?_)|(show SW _ _ _ _ (⟨_,Op.call ⟨.value (.func _),_,_⟩,_,_,_,none⟩::_) _ _;(refine SW.call rfl rfl (In_ans _ _ _ _) ?_;intro v w1 hw1 hv;subst hv;replace hw:=Ext.trans hw hw1;replace hb8:=hb8.ext hw1;clear hw1)))
    all_goals first|(exfalso;omega)|skip
    all_goals
     refine SW.storeAgg hb8 rfl rfl rfl rfl (one_h .zero) fun w5 hR2 hg => ?_
     replace hw:=hw.own hb8w hg
     repeat' (first|(refine CW.ret ?_)|(first|refine Post.seq ?_|refine Post.seq_ret ?_)|refine SW.nil ?_|refine SW.pure rfl rfl ?_)
     exact Post.ret2c rfl rfl rfl hR2 rfl ⟨_,rfl,hw,HeapOut.zero 1 _ _⟩
  ·have g1:o1.1=1:=by rw [← ho1,zoneNewV_f hz]
   rw [g1,heapNewV_1 hq (fun h=>hz h.1)]
   repeat' (first|(first|refine CW.seq ?_|refine CW.region ?_|refine CW.condtr rfl (by with_reducible rfl) ?_)|(refine Post.seq ?_)|refine SW.nil ?_|(show SW _ _ _ _ (⟨_,_,_,_,_,some _⟩::_) _ _;first|refine SW.skip_f rfl rfl (by with_reducible rfl) rfl ?_|refine SW.splitn_t rfl rfl rfl (by omega) ?_)|refine SW.pure rfl rfl ?_|(show SW _ _ _ _ (⟨_,Op.build _ _,_,_,_,none⟩::_) _ _;refine SW.st (st_build rfl rfl) rfl ?_))
   refine SW.storeAgg hb8 rfl rfl rfl rfl (one_h .zero) fun w5 hR2 hg => ?_
   replace hw:=hw.own hb8w hg
   repeat' (first|(refine CW.ret ?_)|(first|refine Post.seq ?_|refine Post.seq_ret ?_)|refine SW.nil ?_|refine SW.pure rfl rfl ?_)
   exact Post.ret2c rfl rfl rfl hR2 rfl ⟨_,rfl,hw,HeapOut.zero 1 _ _⟩
theorem small_heapNewV (l:List Region) (split least cpus:Int) : (heapNewV l split least cpus).2.small:=by
 cases hq:regionsB l
 ·rw [heapNewV_8 hq];constructor<;>simp
 ·by_cases ha:newArgs split least cpus
  ·rw [heapNewV_0 hq ha]
   obtain ⟨h1,h2⟩:=small_newZ (l:=l) ha.1 256
   constructor<;>simp [heapNu]
   exact ⟨⟨by have:=h1.free;omega,by have:=h1.types;omega⟩,by have:=h2.free;omega,by have:=h2.types;omega⟩
  ·rw [heapNewV_1 hq ha];constructor<;>simp
end Go.Proofs.YtbidkghlpijecaaGreatDoor
