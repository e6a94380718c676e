/-
  KmemFrees: for every input the law returns true, and each argument reads afterwards as it read before. No condition.
-/
import Derived.Test.YtbidkghlpijecaaGreatDoorTie
import Derived.Test.YtbidkghlpijecaaGreatDoorCards
import Derived.SevenTiedAt
import Derived.Test.YtbidkghlpijecaaGreatDoorPackKmemFrees15
import Derived.Test.YtbidkghlpijecaaGreatDoorFact
import Derived.Test.YtbidkghlpijecaaGreatDoorPackKmemFrees14
import Derived.Test.YtbidkghlpijecaaGreatDoorPackKmemFrees19
set_option linter.unusedVariables false
set_option linter.unusedSimpArgs false
namespace Go.Proofs.YtbidkghlpijecaaGreatDoor
open Go.ChangeShapes Go.WideShapes Go.ChangeAt Go.RowKit Go.Deep Go.Joins
set_option maxRecDepth 100000 in
theorem ni (os:Os) (started:os.Started) (H:Type) (enc:TypeId×Value→H) :
 ReturnsInHanded {} Tryz.checked os 6 .any (fun w args=>(Rows.kmemFreesSpec.pre enc Tryz.prog Tryz.f6 [] false w args∧laidMetH Tryz.prog Rows.kmemFreesRow.laid w)∧sizedMet enc Tryz.prog Tryz.f6 (OpenSpec.ofChange Rows.kmemFreesSpec) false w args) (Rows.kmemFreesSpec.post enc Tryz.prog Tryz.f6 false true false false):=by
 refine returnsInHanded_of_change_and (C:=Tryz.checked) (X:=fun w _=>laidMetH Tryz.prog Rows.kmemFreesRow.laid w) (fun _ _ _ hh h=>h.of_heap hh) own started (by kernel_rfl) Tryz.func6
  (ChangeSpec.witness_shaped (enc:=enc) (C:=Tryz.checked) (os:=os) (X:=fun w _=>laidMetH Tryz.prog Rows.kmemFreesRow.laid w) false (World.doorLaid Tryz.prog 400 os) #[.agg #[.slice none 0 0,.slice none 0 0,.slice none 0 0,.int .i64 0,.slice none 0 0,.slice none 0 0,.slice none 0 0],.int .i64 0,.int .i64 0] 8 rfl (World.shaped_of_RefB (by kernel_rfl) (by kernel_rfl)) (by kernel_rfl) (by kernel_rfl) (by kernel_rfl)
    (laidMetH_of_parts3 (fuel:=8) (laidMet_of_run' 8 (by kernel_rfl) (by kernel_rfl)) (by kernel_rfl) (by kernel_rfl))) ?_
 intro W base args ds gs before xt hW _ tB hL _;have ub:(DataW.weightsEach Tryz.prog (Tryz.f6.params.toList++Rows.kmemFreesSpec.plain.varTypes Tryz.prog) (ds++gs)).all (· ≤ reachBytes)=true:=tB
 clear tB;have Dq:=hW;obtain ⟨p,q,Gj,hV,rfl,_,_⟩:=hW;have hA:DataW.TrodAll enc Tryz.prog W 0 (fun _=>true) true Tryz.f6.params.toList args.toList ds p:=Gj
 have xt:∀ (j:Nat) t v,Tryz.f6.params[j]?=some t→args[j]?=some v→Value.okWide Tryz.prog W .any base t v:=xt
 rw [Tryz.params6] at hA xt ub;obtain ⟨v0,Jl,d0,Jm,p0,q0,G0,rfl,rfl,h0,r0⟩:=trodAll_cons hA;obtain ⟨v1,Jn,d1,Jo,p1,q1,rfl,rfl,rfl,h1,r1⟩:=trodAll_cons r0;obtain ⟨v2,Jp,d2,Jq,p2,q2,rfl,rfl,rfl,h2,r2⟩:=trodAll_cons r1;obtain ⟨rfl,rfl,rfl⟩:=trodAll_nil r2;obtain rfl:args = #[v0,v1,v2]:=by cases args;simp_all
 obtain ⟨rfl,rfl⟩:=trodVars_none hV;obtain ⟨IJ,sp,rfl,IK,IL⟩:=tE (xt 0 44 v0 rfl rfl) h0 (BX ub (j:=0) (t:=44) rfl rfl);obtain ⟨x1,rfl,rfl,rfl,w1⟩:=open_int Tryz.underlying3 (xt 1 3 v1 rfl rfl) h1;obtain ⟨x2,rfl,rfl,rfl,w2⟩:=open_int Tryz.underlying3 (xt 2 3 v2 rfl rfl) h2;refine wT laidOut (fun t ht => ?_) rfl Tryz.underlying4 rfl ⟨rfl,rfl,rfl⟩ Dq ((qG _ _ x1 x2 W IK IL.iN (in64_of_wf w2) (qD (by kernel_rfl) hL)));rw [Tryz.params6] at ht;simp only [List.mem_cons,List.not_mem_nil,or_false] at ht;rcases ht with rfl|rfl|rfl
 all_goals exact ⟨by kernel_rfl,of_decide_eq_true (by kernel_rfl)⟩
set_option maxHeartbeats 4000000 in
theorem nj:joinedFacts Tryz.pinned.checked.prog 6 Tryz.f6 Rows.kmemFreesSpec Rows.kmemFreesRow=true:=by
 simp only [joinedFacts,Bool.and_eq_true];repeat' apply And.intro
 rotate_left 24
 ·exact factStops
 ·exact factEnter
 ·rw [factLifts];kernel_rfl
 all_goals as_aux_lemma=>kernel_rfl
theorem qH:Rows.KmemFreesSaid :=
 OpenClaim.holds_of_wide 6 Tryz.f6 rfl rfl rfl rfl rfl rfl rfl ⟨rfl,rfl,rfl,rfl,rfl⟩ rfl rfl rfl rfl rfl (by kernel_rfl) Tryz.func6 nj
  (of_decide_eq_true (by kernel_rfl)) (by unfold Func.isWrapper;first|(rw [if_pos (by decide +kernel)];kernel_rfl)|(rw [if_neg (by decide +kernel)];exact ⟨rfl,rfl⟩))
  (fun os started H enc _=>ni os started H enc)
set_option maxRecDepth 100000 in
theorem kmemFrees_holds:Rows.KmemFreesCardSaid :=
 Claim7.holds_tied_plain_at .later [] [.data, .data, .data, .widerDeep] true (true, "05ebf2ea9526a9a9d2ec54fc9a388e4a642ed1478c9dc3100183cde6289a3d01") false
  qH (fun _ h=>by cases h) (by kernel_rfl) (fun _ h=>by cases h) kmemFrees_row_tie rfl ⟨rfl,rfl⟩ (by kernel_rfl) rfl
  (fun f fn hf IM=>by
    obtain rfl : f = 6 := Option.some.inj ((show Tryz.prog.funcNamed "paddock/paddocklaw.KmemFrees" = some 6 by kernel_rfl).symm.trans hf) |>.symm
    obtain rfl:fn=Tryz.f6:=(Option.some.inj (Tryz.func6.symm.trans IM)).symm
    exact ⟨by kernel_rfl,fun j t ht=>by
     rw [Tryz.params6] at ht;have hm:t∈[44,3,3]:=by simpa using Array.mem_of_getElem? ht
     have gH:([44,3,3].all fun u => !Tryz.prog.wantsStandIn u)=true:=by kernel_rfl
     exact (show Tryz.prog.wantsStandIn t=false by simpa using List.all_eq_true.1 gH t hm)⟩)
  (by kernel_rfl)
end Go.Proofs.YtbidkghlpijecaaGreatDoor
