/-
  SlabDestroys: for every input the law returns true, and each argument reads afterwards as it read before. No condition.
-/
import Derived.Test.YtigikedbffjeiaaGreatFact
import Derived.Test.YtigikedbffjeiaaGreatPackSlabDestroys4
import Derived.Test.YtigikedbffjeiaaGreatPackSlabDestroys28
set_option linter.unusedVariables false
set_option linter.unusedSimpArgs false
namespace Go.Proofs.YtigikedbffjeiaaGreat
open Go.ChangeShapes Go.WideShapes Go.ChangeAt Go.RowKit Go.Deep Go.Joins
set_option maxRecDepth 100000 in
theorem slabDestroys_lifted (os:Os) (started:os.Started) (H:Type) (enc:TypeId×Value→H) :
  ReturnsInHanded {} Tryz.checked os 5 .any (Rows.slabDestroysSpec.pre6 enc Tryz.prog Tryz.f5 Rows.slabDestroysRow.domain false) (Rows.slabDestroysSpec.post enc Tryz.prog Tryz.f5 false true false false):=by
 refine returnsInHanded_of_change_sized (C:=Tryz.checked) own started (by kernel_rfl) Tryz.func5
  (ChangeSpec.witness6 (enc:=enc) (C:=Tryz.checked) false ⟨#[],#[.agg #[.slice none 0 0,.slice none 0 0,.slice none 0 0,.int .i64 0,.slice none 0 0,.slice none 0 0,.slice none 0 0],.string ⟨#[]⟩],[]⟩ 8 (by kernel_rfl) (by kernel_rfl) (by kernel_rfl) (by kernel_rfl)) ?_
 intro W base args ds gs before hval hW _ hsz0 _
 have hsz:(DataW.weightsEach Tryz.prog (Tryz.f5.params.toList++Rows.slabDestroysSpec.plain.varTypes Tryz.prog) (ds++gs)).all (· ≤ reachBytes)=true:=hsz0
 clear hsz0
 have hW':=hW
 obtain ⟨p,q,hA0,hV,rfl,_,_⟩:=hW
 have hA:DataW.TrodAll enc Tryz.prog W 0 (fun _=>true) true Tryz.f5.params.toList args.toList ds p:=hA0
 have hval:∀ (j:Nat) t v,Tryz.f5.params[j]?=some t→args[j]?=some v→Value.okWide Tryz.prog W .any base t v:=hval
 rw [Tryz.params5] at hA hval hsz
 obtain ⟨v0,vs0,d0,ds0,p0,q0,hargs,rfl,rfl,h0,r0⟩:=trodAll_cons hA
 obtain ⟨v1,vs1,d1,ds1,p1,q1,rfl,rfl,rfl,h1,r1⟩:=trodAll_cons r0
 obtain ⟨rfl,rfl,rfl⟩:=trodAll_nil r1
 obtain rfl:args = #[v0,v1]:=by cases args;simp_all
 obtain ⟨rfl,rfl⟩:=trodVars_none hV
 obtain ⟨srow,sp,rfl,hRd,hgd⟩:=open_system (hval 0 30 v0 rfl rfl) h0 (bd_arg hsz (j:=0) (t:=30) rfl rfl)
 obtain ⟨x1,rfl,hn1⟩:=open_str (hval 1 9 v1 rfl rfl) h1 (bd_arg hsz (j:=1) (t:=9) rfl rfl)
 refine law_close laidOut (fun t ht => ?_) rfl Tryz.underlying4 rfl ⟨rfl,rfl,rfl⟩ hW' ((slabDestroys_ans _ _ x1 W hRd hgd.fine hn1))
 rw [Tryz.params5] at ht
 simp only [List.mem_cons,List.not_mem_nil,or_false] at ht
 rcases ht with rfl|rfl
 all_goals exact ⟨by kernel_rfl,of_decide_eq_true (by kernel_rfl)⟩
set_option maxHeartbeats 4000000 in
theorem slabDestroys_closed:joinedFacts Tryz.pinned.checked.prog 5 Tryz.f5 Rows.slabDestroysSpec Rows.slabDestroysRow=true:=by
 simp only [joinedFacts,Bool.and_eq_true]
 repeat' apply And.intro
 rotate_left 24
 ·exact factStops
 ·exact factEnter
 ·rw [factLifts];kernel_rfl
 all_goals as_aux_lemma=>kernel_rfl
theorem slabDestroys_holds:Rows.SlabDestroysSaid :=
 OpenClaim.holds_of_wide 5 Tryz.f5 rfl rfl rfl rfl rfl rfl rfl ⟨rfl,rfl,rfl,rfl,rfl⟩ rfl rfl rfl rfl rfl (by kernel_rfl) Tryz.func5 slabDestroys_closed
  (of_decide_eq_true (by kernel_rfl)) (by unfold Func.isWrapper;first|(rw [if_pos (by decide +kernel)];kernel_rfl)|(rw [if_neg (by decide +kernel)];exact ⟨rfl,rfl⟩))
  (fun os started H enc _=>slabDestroys_lifted os started H enc)
end Go.Proofs.YtigikedbffjeiaaGreat
