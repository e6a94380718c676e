/-
  KmemAllocs: for every input the law returns true, and each argument reads afterwards as it read before. No condition.
-/
import Derived.Test.YtbidkghlpijecaaGreatDoorTie
import Derived.Test.YtbidkghlpijecaaGreatDoorCards
import Derived.SevenTiedAt
import Derived.Test.YtbidkghlpijecaaGreatDoorPackKmemAllocs15
import Derived.Test.YtbidkghlpijecaaGreatDoorFact
import Derived.Test.YtbidkghlpijecaaGreatDoorPackKmemAllocs14
import Derived.Test.YtbidkghlpijecaaGreatDoorPackKmemAllocs25
set_option linter.unusedVariables false
set_option linter.unusedSimpArgs false
namespace Go.Proofs.YtbidkghlpijecaaGreatDoor
open Go.ChangeShapes Go.WideShapes Go.ChangeAt Go.RowKit Go.Deep Go.Joins
set_option maxRecDepth 100000 in
theorem pP (os:Os) (started:os.Started) (H:Type) (enc:TypeId×Value→H) :
 ReturnsInHanded {} Tryz.checked os 8 .any (fun w args=>(Rows.kmemAllocsSpec.pre enc Tryz.prog Tryz.f8 [] false w args∧laidMetH Tryz.prog Rows.kmemAllocsRow.laid w)∧sizedMet enc Tryz.prog Tryz.f8 (OpenSpec.ofChange Rows.kmemAllocsSpec) false w args) (Rows.kmemAllocsSpec.post enc Tryz.prog Tryz.f8 false true false false):=by
 refine returnsInHanded_of_change_and (C:=Tryz.checked) (X:=fun w _=>laidMetH Tryz.prog Rows.kmemAllocsRow.laid w) (fun _ _ _ hh h=>h.of_heap hh) own started (by kernel_rfl) Tryz.func8
  (ChangeSpec.witness_shaped (enc:=enc) (C:=Tryz.checked) (os:=os) (X:=fun w _=>laidMetH Tryz.prog Rows.kmemAllocsRow.laid w) false (World.doorLaid Tryz.prog 400 os) #[.agg #[.slice none 0 0,.slice none 0 0,.slice none 0 0,.int .i64 0,.slice none 0 0,.slice none 0 0,.slice none 0 0],.int .i64 0,.int .i64 0] 8 rfl (World.shaped_of_RefB (by kernel_rfl) (by kernel_rfl)) (by kernel_rfl) (by kernel_rfl) (by kernel_rfl)
    (laidMetH_of_parts3 (fuel:=8) (laidMet_of_run' 8 (by kernel_rfl) (by kernel_rfl)) (by kernel_rfl) (by kernel_rfl))) ?_
 intro W base args ds gs before B9 hW _ xJ hL _;have vt:(DataW.weightsEach Tryz.prog (Tryz.f8.params.toList++Rows.kmemAllocsSpec.plain.varTypes Tryz.prog) (ds++gs)).all (· ≤ reachBytes)=true:=xJ
 clear xJ;have Jf:=hW;obtain ⟨p,q,FW,hV,rfl,_,_⟩:=hW;have hA:DataW.TrodAll enc Tryz.prog W 0 (fun _=>true) true Tryz.f8.params.toList args.toList ds p:=FW
 have B9:∀ (j:Nat) t v,Tryz.f8.params[j]?=some t→args[j]?=some v→Value.okWide Tryz.prog W .any base t v:=B9
 rw [Tryz.params8] at hA B9 vt;obtain ⟨v0,PO,d0,PP,p0,q0,Nt,rfl,rfl,h0,r0⟩:=trodAll_cons hA;obtain ⟨v1,PQ,d1,PR,p1,q1,rfl,rfl,rfl,h1,r1⟩:=trodAll_cons r0;obtain ⟨v2,PS,d2,PT,p2,q2,rfl,rfl,rfl,h2,r2⟩:=trodAll_cons r1;obtain ⟨rfl,rfl,rfl⟩:=trodAll_nil r2;obtain rfl:args = #[v0,v1,v2]:=by cases args;simp_all
 obtain ⟨rfl,rfl⟩:=trodVars_none hV;obtain ⟨Pf,sp,rfl,Iq,Pg⟩:=xO (B9 0 44 v0 rfl rfl) h0 (Hg vt (j:=0) (t:=44) rfl rfl);obtain ⟨x1,rfl,rfl,rfl,w1⟩:=open_int Tryz.underlying3 (B9 1 3 v1 rfl rfl) h1;obtain ⟨x2,rfl,rfl,rfl,w2⟩:=open_int Tryz.underlying3 (B9 2 3 v2 rfl rfl) h2;refine Bx laidOut (fun t ht => ?_) rfl Tryz.underlying4 rfl ⟨rfl,rfl,rfl⟩ Jf ((tT _ _ x1 x2 W Iq Pg.kh (nq (by kernel_rfl) hL).1 (nq (by kernel_rfl) hL).2));rw [Tryz.params8] at ht;simp only [List.mem_cons,List.not_mem_nil,or_false] at ht;rcases ht with rfl|rfl|rfl
 all_goals exact ⟨by kernel_rfl,of_decide_eq_true (by kernel_rfl)⟩
set_option maxHeartbeats 4000000 in
theorem pQ:joinedFacts Tryz.pinned.checked.prog 8 Tryz.f8 Rows.kmemAllocsSpec Rows.kmemAllocsRow=true:=by
 simp only [joinedFacts,Bool.and_eq_true];repeat' apply And.intro
 rotate_left 24
 ·exact factStops
 ·exact factEnter
 ·rw [factLifts];kernel_rfl
 all_goals as_aux_lemma=>kernel_rfl
theorem tU:Rows.KmemAllocsSaid :=
 OpenClaim.holds_of_wide 8 Tryz.f8 rfl rfl rfl rfl rfl rfl rfl ⟨rfl,rfl,rfl,rfl,rfl⟩ rfl rfl rfl rfl rfl (by kernel_rfl) Tryz.func8 pQ
  (of_decide_eq_true (by kernel_rfl)) (by unfold Func.isWrapper;first|(rw [if_pos (by decide +kernel)];kernel_rfl)|(rw [if_neg (by decide +kernel)];exact ⟨rfl,rfl⟩))
  (fun os started H enc _=>pP os started H enc)
set_option maxRecDepth 100000 in
theorem kmemAllocs_holds:Rows.KmemAllocsCardSaid :=
 Claim7.holds_tied_plain_at .later [] [.data, .data, .data, .data, .widerDeep] true (true, "05ebf2ea9526a9a9d2ec54fc9a388e4a642ed1478c9dc3100183cde6289a3d01") false
  tU (fun _ h=>by cases h) (by kernel_rfl) (fun _ h=>by cases h) kmemAllocs_row_tie rfl ⟨rfl,rfl⟩ (by kernel_rfl) rfl
  (fun f fn hf Ph=>by
    obtain rfl : f = 8 := Option.some.inj ((show Tryz.prog.funcNamed "paddock/paddocklaw.KmemAllocs" = some 8 by kernel_rfl).symm.trans hf) |>.symm
    obtain rfl:fn=Tryz.f8:=(Option.some.inj (Tryz.func8.symm.trans Ph)).symm
    exact ⟨by kernel_rfl,fun j t ht=>by
     rw [Tryz.params8] at ht;have hm:t∈[44,3,3]:=by simpa using Array.mem_of_getElem? ht
     have fP:([44,3,3].all fun u => !Tryz.prog.wantsStandIn u)=true:=by kernel_rfl
     exact (show Tryz.prog.wantsStandIn t=false by simpa using List.all_eq_true.1 fP t hm)⟩)
  (by kernel_rfl)
end Go.Proofs.YtbidkghlpijecaaGreatDoor
