/-
  KmemNew: for every input the law returns true, and each argument reads afterwards as it read before. No condition.
-/
import Derived.Test.YtbidkghlpijecaaGreatDoorTie
import Derived.Test.YtbidkghlpijecaaGreatDoorCards
import Derived.SevenTiedAt
import Derived.Test.YtbidkghlpijecaaGreatDoorPackKmemNew18
import Derived.Test.YtbidkghlpijecaaGreatDoorPackKmemNew25
import Derived.Test.YtbidkghlpijecaaGreatDoorFact
import Derived.Test.YtbidkghlpijecaaGreatDoorPackKmemNew17
set_option linter.unusedVariables false
set_option linter.unusedSimpArgs false
namespace Go.Proofs.YtbidkghlpijecaaGreatDoor
open Go.ChangeShapes Go.WideShapes Go.ChangeAt Go.RowKit Go.Deep Go.Joins
set_option maxRecDepth 100000 in
theorem kmemNew_lifted (os:Os) (started:os.Started) (H:Type) (enc:TypeId×Value→H) :
 ReturnsInHanded {} Tryz.checked os 7 .any (fun w args=>(Rows.kmemNewSpec.pre enc Tryz.prog Tryz.f7 [] false w args∧laidMetH Tryz.prog Rows.kmemNewRow.laid w)∧sizedMet enc Tryz.prog Tryz.f7 (OpenSpec.ofChange Rows.kmemNewSpec) false w args) (Rows.kmemNewSpec.post enc Tryz.prog Tryz.f7 false true false false):=by
 refine returnsInHanded_of_change_and (C:=Tryz.checked) (X:=fun w _=>laidMetH Tryz.prog Rows.kmemNewRow.laid w) (fun _ _ _ hh h=>h.of_heap hh) own started (by kernel_rfl) Tryz.func7
  (ChangeSpec.witness_shaped (enc:=enc) (C:=Tryz.checked) (os:=os) (X:=fun w _=>laidMetH Tryz.prog Rows.kmemNewRow.laid w) false (World.doorLaid Tryz.prog 400 os) #[.agg #[.slice none 0 0,.slice none 0 0,.int .i64 0,.int .i64 0,.int .i64 0]] 8 rfl (World.shaped_of_RefB (by kernel_rfl) (by kernel_rfl)) (by kernel_rfl) (by kernel_rfl) (by kernel_rfl)
    (laidMetH_of_parts3 (fuel:=8) (laidMet_of_run' 8 (by kernel_rfl) (by kernel_rfl)) (by kernel_rfl) (by kernel_rfl))) ?_
 intro W base args ds gs before hval hW _ hsz0 hL _
 have hsz:(DataW.weightsEach Tryz.prog (Tryz.f7.params.toList++Rows.kmemNewSpec.plain.varTypes Tryz.prog) (ds++gs)).all (· ≤ reachBytes)=true:=hsz0
 clear hsz0
 have hW':=hW
 obtain ⟨p,q,hA0,hV,rfl,_,_⟩:=hW
 have hA:DataW.TrodAll enc Tryz.prog W 0 (fun _=>true) true Tryz.f7.params.toList args.toList ds p:=hA0
 have hval:∀ (j:Nat) t v,Tryz.f7.params[j]?=some t→args[j]?=some v→Value.okWide Tryz.prog W .any base t v:=hval
 rw [Tryz.params7] at hA hval hsz
 obtain ⟨v0,vs0,d0,ds0,p0,q0,hargs,rfl,rfl,h0,r0⟩:=trodAll_cons hA
 obtain ⟨rfl,rfl,rfl⟩:=trodAll_nil r0
 obtain rfl:args = #[v0]:=by cases args;simp_all
 obtain ⟨rfl,rfl⟩:=trodVars_none hV
 obtain ⟨Ux,un,uc,Uy,um,ud,ux,uy,usp,ule,ucp,rfl,hux,huy,hun,hum,hus⟩:=open_setup (hval 0 29 v0 rfl rfl) h0
 refine law_close laidOut (fun t ht => ?_) rfl Tryz.underlying4 rfl ⟨rfl,rfl,rfl⟩ hW' ((kmemNew_ans Ux un uc Uy um ud ux uy usp ule ucp W hux huy hun hum hus (sizes_of_laid (by kernel_rfl) hL)))
 rw [Tryz.params7] at ht
 simp only [List.mem_cons,List.not_mem_nil,or_false] at ht
 subst ht
 exact ⟨by kernel_rfl,of_decide_eq_true (by kernel_rfl)⟩
set_option maxHeartbeats 4000000 in
theorem kmemNew_closed:joinedFacts Tryz.pinned.checked.prog 7 Tryz.f7 Rows.kmemNewSpec Rows.kmemNewRow=true:=by
 simp only [joinedFacts,Bool.and_eq_true]
 repeat' apply And.intro
 rotate_left 24
 ·exact factStops
 ·exact factEnter
 ·rw [factLifts];kernel_rfl
 all_goals as_aux_lemma=>kernel_rfl
theorem kmemNew_row:Rows.KmemNewSaid :=
 OpenClaim.holds_of_wide 7 Tryz.f7 rfl rfl rfl rfl rfl rfl rfl ⟨rfl,rfl,rfl,rfl,rfl⟩ rfl rfl rfl rfl rfl (by kernel_rfl) Tryz.func7 kmemNew_closed
  (of_decide_eq_true (by kernel_rfl)) (by unfold Func.isWrapper;first|(rw [if_pos (by decide +kernel)];kernel_rfl)|(rw [if_neg (by decide +kernel)];exact ⟨rfl,rfl⟩))
  (fun os started H enc _=>kmemNew_lifted os started H enc)
set_option maxRecDepth 100000 in
theorem kmemNew_holds:Rows.KmemNewCardSaid :=
 Claim7.holds_tied_plain_at .later [] [.data, .data, .data, .widerDeep] true (true, "05ebf2ea9526a9a9d2ec54fc9a388e4a642ed1478c9dc3100183cde6289a3d01") false
  kmemNew_row (fun _ h=>by cases h) (by kernel_rfl) (fun _ h=>by cases h) kmemNew_row_tie rfl ⟨rfl,rfl⟩ (by kernel_rfl) rfl
  (fun f fn hf hfn=>by
    obtain rfl : f = 7 := Option.some.inj ((show Tryz.prog.funcNamed "paddock/paddocklaw.KmemNew" = some 7 by kernel_rfl).symm.trans hf) |>.symm
    obtain rfl:fn=Tryz.f7:=(Option.some.inj (Tryz.func7.symm.trans hfn)).symm
    exact ⟨by kernel_rfl,fun j t ht=>by
     rw [Tryz.params7] at ht
     have hm:t∈[29]:=by simpa using Array.mem_of_getElem? ht
     have hall:([29].all fun u => !Tryz.prog.wantsStandIn u)=true:=by kernel_rfl
     exact (show Tryz.prog.wantsStandIn t=false by simpa using List.all_eq_true.1 hall t hm)⟩)
  (by kernel_rfl)
end Go.Proofs.YtbidkghlpijecaaGreatDoor
