/-
  TopProcessors: for every input the law returns true, and each argument reads afterwards as it read before. No condition.
-/
import Derived.Test.YtbidkghlpijecaaGreatDoorTie
import Derived.Test.YtbidkghlpijecaaGreatDoorCards
import Derived.SevenTiedAt
import Derived.Test.YtbidkghlpijecaaGreatDoorPackTopProcessors12
import Derived.Test.YtbidkghlpijecaaGreatDoorFact
import Derived.Test.YtbidkghlpijecaaGreatDoorPackTopProcessors26
set_option linter.unusedVariables false
set_option linter.unusedSimpArgs false
namespace Go.Proofs.YtbidkghlpijecaaGreatDoor
open Go.ChangeShapes Go.WideShapes Go.ChangeAt Go.RowKit Go.Deep Go.Joins
set_option maxRecDepth 100000 in
theorem pi (os:Os) (started:os.Started) (H:Type) (enc:TypeId×Value→H) :
 ReturnsInHanded {} Tryz.checked os 12 .any (fun w args=>(Rows.topProcessorsSpec.pre enc Tryz.prog Tryz.f12 [] false w args∧laidMetH Tryz.prog Rows.topProcessorsRow.laid w)∧sizedMet enc Tryz.prog Tryz.f12 (OpenSpec.ofChange Rows.topProcessorsSpec) false w args) (Rows.topProcessorsSpec.post enc Tryz.prog Tryz.f12 false true false false):=by
 refine returnsInHanded_of_change_and (C:=Tryz.checked) (X:=fun w _=>laidMetH Tryz.prog Rows.topProcessorsRow.laid w) (fun _ _ _ hh h=>h.of_heap hh) own started (by kernel_rfl) Tryz.func12
  (ChangeSpec.witness_shaped (enc:=enc) (C:=Tryz.checked) (os:=os) (X:=fun w _=>laidMetH Tryz.prog Rows.topProcessorsRow.laid w) false (World.doorLaid Tryz.prog 400 os) #[.int .i64 0,.int .i64 0,.int .i64 0,.int .i64 0,.int .i64 0] 8 rfl (World.shaped_of_RefB (by kernel_rfl) (by kernel_rfl)) (by kernel_rfl) (by kernel_rfl) (by kernel_rfl)
    (laidMetH_of_parts3 (fuel:=8) (laidMet_of_run' 8 (by kernel_rfl) (by kernel_rfl)) (by kernel_rfl) (by kernel_rfl))) ?_
 intro W base args ds gs before B7 hW _ Ba hL _;have qO:(DataW.weightsEach Tryz.prog (Tryz.f12.params.toList++Rows.topProcessorsSpec.plain.varTypes Tryz.prog) (ds++gs)).all (· ≤ reachBytes)=true:=Ba
 clear Ba;have N8:=hW;obtain ⟨p,q,LY,hV,rfl,_,_⟩:=hW;have hA:DataW.TrodAll enc Tryz.prog W 0 (fun _=>true) true Tryz.f12.params.toList args.toList ds p:=LY
 have B7:∀ (j:Nat) t v,Tryz.f12.params[j]?=some t→args[j]?=some v→Value.okWide Tryz.prog W .any base t v:=B7
 rw [Tryz.params12] at hA B7 qO;obtain ⟨v0,Wc,d0,Wd,p0,q0,yA,rfl,rfl,h0,r0⟩:=trodAll_cons hA;obtain ⟨v1,We,d1,Wg,p1,q1,rfl,rfl,rfl,h1,r1⟩:=trodAll_cons r0;obtain ⟨v2,Wh,d2,Wi,p2,q2,rfl,rfl,rfl,h2,r2⟩:=trodAll_cons r1;obtain ⟨v3,Wj,d3,Wk,p3,q3,rfl,rfl,rfl,h3,r3⟩:=trodAll_cons r2;obtain ⟨v4,Wl,d4,Wm,p4,q4,rfl,rfl,rfl,h4,r4⟩:=trodAll_cons r3;obtain ⟨rfl,rfl,rfl⟩:=trodAll_nil r4;obtain rfl:args = #[v0,v1,v2,v3,v4]:=by cases args;simp_all
 obtain ⟨rfl,rfl⟩:=trodVars_none hV;obtain ⟨x0,rfl,rfl,rfl,w0⟩:=open_int Tryz.underlying3 (B7 0 3 v0 rfl rfl) h0;obtain ⟨x1,rfl,rfl,rfl,w1⟩:=open_int Tryz.underlying3 (B7 1 3 v1 rfl rfl) h1;obtain ⟨x2,rfl,rfl,rfl,w2⟩:=open_int Tryz.underlying3 (B7 2 3 v2 rfl rfl) h2;obtain ⟨x3,rfl,rfl,rfl,w3⟩:=open_int Tryz.underlying3 (B7 3 3 v3 rfl rfl) h3;obtain ⟨x4,rfl,rfl,rfl,w4⟩:=open_int Tryz.underlying3 (B7 4 3 v4 rfl rfl) h4;refine Fo laidOut (fun t ht => ?_) rfl Tryz.underlying4 rfl ⟨rfl,rfl,rfl⟩ N8 (z6 x0 x1 x2 x3 x4 W (in64_of_wf w0) (in64_of_wf w1) (in64_of_wf w2) (in64_of_wf w3) (in64_of_wf w4) (oW (by kernel_rfl) hL).1 (oW (by kernel_rfl) hL).2);rw [Tryz.params12] at ht;simp only [List.mem_cons,List.not_mem_nil,or_false] at ht;rcases ht with rfl|rfl|rfl|rfl|rfl
 all_goals exact ⟨by kernel_rfl,of_decide_eq_true (by kernel_rfl)⟩
set_option maxHeartbeats 4000000 in
theorem pj:joinedFacts Tryz.pinned.checked.prog 12 Tryz.f12 Rows.topProcessorsSpec Rows.topProcessorsRow=true:=by
 simp only [joinedFacts,Bool.and_eq_true];repeat' apply And.intro
 rotate_left 24
 ·exact factStops
 ·exact factEnter
 ·rw [factLifts];kernel_rfl
 all_goals as_aux_lemma=>kernel_rfl
theorem rZ:Rows.TopProcessorsSaid :=
 OpenClaim.holds_of_wide 12 Tryz.f12 rfl rfl rfl rfl rfl rfl rfl ⟨rfl,rfl,rfl,rfl,rfl⟩ rfl rfl rfl rfl rfl (by kernel_rfl) Tryz.func12 pj
  (of_decide_eq_true (by kernel_rfl)) (by unfold Func.isWrapper;first|(rw [if_pos (by decide +kernel)];kernel_rfl)|(rw [if_neg (by decide +kernel)];exact ⟨rfl,rfl⟩))
  (fun os started H enc _=>pi os started H enc)
set_option maxRecDepth 100000 in
theorem topProcessors_holds:Rows.TopProcessorsCardSaid :=
 Claim7.holds_tied_plain_at .later [] [.data, .data, .data, .data, .widerDeep] true (true, "05ebf2ea9526a9a9d2ec54fc9a388e4a642ed1478c9dc3100183cde6289a3d01") false
  rZ (fun _ h=>by cases h) (by kernel_rfl) (fun _ h=>by cases h) topProcessors_row_tie rfl ⟨rfl,rfl⟩ (by kernel_rfl) rfl
  (fun f fn hf Va=>by
    obtain rfl : f = 12 := Option.some.inj ((show Tryz.prog.funcNamed "paddock/paddocktop.TopProcessors" = some 12 by kernel_rfl).symm.trans hf) |>.symm
    obtain rfl:fn=Tryz.f12:=(Option.some.inj (Tryz.func12.symm.trans Va)).symm
    exact ⟨by kernel_rfl,fun j t ht=>by
     rw [Tryz.params12] at ht;have hm:t∈[3,3,3,3,3]:=by simpa using Array.mem_of_getElem? ht
     have fk:([3,3,3,3,3].all fun u => !Tryz.prog.wantsStandIn u)=true:=by kernel_rfl
     exact (show Tryz.prog.wantsStandIn t=false by simpa using List.all_eq_true.1 fk t hm)⟩)
  (by kernel_rfl)
end Go.Proofs.YtbidkghlpijecaaGreatDoor
