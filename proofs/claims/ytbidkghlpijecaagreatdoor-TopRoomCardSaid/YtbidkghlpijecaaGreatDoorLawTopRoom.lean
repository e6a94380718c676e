/-
  TopRoom: for every input the law returns true, and each argument reads afterwards as it read before. No condition.
-/
import Derived.Test.YtbidkghlpijecaaGreatDoorTie
import Derived.Test.YtbidkghlpijecaaGreatDoorCards
import Derived.SevenTiedAt
import Derived.Test.YtbidkghlpijecaaGreatDoorPackTopRoom12
import Derived.Test.YtbidkghlpijecaaGreatDoorFact
import Derived.Test.YtbidkghlpijecaaGreatDoorPackTopRoom21
set_option linter.unusedVariables false
set_option linter.unusedSimpArgs false
namespace Go.Proofs.YtbidkghlpijecaaGreatDoor
open Go.ChangeShapes Go.WideShapes Go.ChangeAt Go.RowKit Go.Deep Go.Joins
set_option maxRecDepth 100000 in
theorem tU (os:Os) (started:os.Started) (H:Type) (enc:TypeId×Value→H) :
 ReturnsInHanded {} Tryz.checked os 11 .any (fun w args=>(Rows.topRoomSpec.pre enc Tryz.prog Tryz.f11 [] false w args∧laidMetH Tryz.prog Rows.topRoomRow.laid w)∧sizedMet enc Tryz.prog Tryz.f11 (OpenSpec.ofChange Rows.topRoomSpec) false w args) (Rows.topRoomSpec.post enc Tryz.prog Tryz.f11 false true false false):=by
 refine returnsInHanded_of_change_and (C:=Tryz.checked) (X:=fun w _=>laidMetH Tryz.prog Rows.topRoomRow.laid w) (fun _ _ _ hh h=>h.of_heap hh) own started (by kernel_rfl) Tryz.func11
  (ChangeSpec.witness_shaped (enc:=enc) (C:=Tryz.checked) (os:=os) (X:=fun w _=>laidMetH Tryz.prog Rows.topRoomRow.laid w) false (World.doorLaid Tryz.prog 400 os) #[.int .i64 0,.int .i64 0,.int .i64 0,.int .i64 0] 8 rfl (World.shaped_of_RefB (by kernel_rfl) (by kernel_rfl)) (by kernel_rfl) (by kernel_rfl) (by kernel_rfl)
    (laidMetH_of_parts3 (fuel:=8) (laidMet_of_run' 8 (by kernel_rfl) (by kernel_rfl)) (by kernel_rfl) (by kernel_rfl))) ?_
 intro W base args ds gs before AA hW _ xU hL _;have qW:(DataW.weightsEach Tryz.prog (Tryz.f11.params.toList++Rows.topRoomSpec.plain.varTypes Tryz.prog) (ds++gs)).all (· ≤ reachBytes)=true:=xU
 clear xU;have Ki:=hW;obtain ⟨p,q,Ij,hV,rfl,_,_⟩:=hW;have hA:DataW.TrodAll enc Tryz.prog W 0 (fun _=>true) true Tryz.f11.params.toList args.toList ds p:=Ij
 have AA:∀ (j:Nat) t v,Tryz.f11.params[j]?=some t→args[j]?=some v→Value.okWide Tryz.prog W .any base t v:=AA
 rw [Tryz.params11] at hA AA qW;obtain ⟨v0,So,d0,Sp,p0,q0,vg,rfl,rfl,h0,r0⟩:=trodAll_cons hA;obtain ⟨v1,Sq,d1,Sr,p1,q1,rfl,rfl,rfl,h1,r1⟩:=trodAll_cons r0;obtain ⟨v2,Ss,d2,Su,p2,q2,rfl,rfl,rfl,h2,r2⟩:=trodAll_cons r1;obtain ⟨v3,Sv,d3,Sw,p3,q3,rfl,rfl,rfl,h3,r3⟩:=trodAll_cons r2;obtain ⟨rfl,rfl,rfl⟩:=trodAll_nil r3;obtain rfl:args = #[v0,v1,v2,v3]:=by cases args;simp_all
 obtain ⟨rfl,rfl⟩:=trodVars_none hV;obtain ⟨x0,rfl,rfl,rfl,w0⟩:=open_int Tryz.underlying3 (AA 0 3 v0 rfl rfl) h0;obtain ⟨x1,rfl,rfl,rfl,w1⟩:=open_int Tryz.underlying3 (AA 1 3 v1 rfl rfl) h1;obtain ⟨x2,rfl,rfl,rfl,w2⟩:=open_int Tryz.underlying3 (AA 2 3 v2 rfl rfl) h2;obtain ⟨x3,rfl,rfl,rfl,w3⟩:=open_int Tryz.underlying3 (AA 3 3 v3 rfl rfl) h3;refine B7 laidOut (fun t ht => ?_) rfl Tryz.underlying4 rfl ⟨rfl,rfl,rfl⟩ Ki (yQ x0 x1 x2 x3 W (in64_of_wf w0) (in64_of_wf w1) (in64_of_wf w2) (in64_of_wf w3) (mY (by kernel_rfl) hL).1 (mY (by kernel_rfl) hL).2);rw [Tryz.params11] at ht;simp only [List.mem_cons,List.not_mem_nil,or_false] at ht;rcases ht with rfl|rfl|rfl|rfl
 all_goals exact ⟨by kernel_rfl,of_decide_eq_true (by kernel_rfl)⟩
set_option maxHeartbeats 4000000 in
theorem tV:joinedFacts Tryz.pinned.checked.prog 11 Tryz.f11 Rows.topRoomSpec Rows.topRoomRow=true:=by
 simp only [joinedFacts,Bool.and_eq_true];repeat' apply And.intro
 rotate_left 24
 ·exact factStops
 ·exact factEnter
 ·rw [factLifts];kernel_rfl
 all_goals as_aux_lemma=>kernel_rfl
theorem yR:Rows.TopRoomSaid :=
 OpenClaim.holds_of_wide 11 Tryz.f11 rfl rfl rfl rfl rfl rfl rfl ⟨rfl,rfl,rfl,rfl,rfl⟩ rfl rfl rfl rfl rfl (by kernel_rfl) Tryz.func11 tV
  (of_decide_eq_true (by kernel_rfl)) (by unfold Func.isWrapper;first|(rw [if_pos (by decide +kernel)];kernel_rfl)|(rw [if_neg (by decide +kernel)];exact ⟨rfl,rfl⟩))
  (fun os started H enc _=>tU os started H enc)
set_option maxRecDepth 100000 in
theorem topRoom_holds:Rows.TopRoomCardSaid :=
 Claim7.holds_tied_plain_at .later [] [.data, .data, .data, .data, .widerDeep] true (true, "05ebf2ea9526a9a9d2ec54fc9a388e4a642ed1478c9dc3100183cde6289a3d01") false
  yR (fun _ h=>by cases h) (by kernel_rfl) (fun _ h=>by cases h) topRoom_row_tie rfl ⟨rfl,rfl⟩ (by kernel_rfl) rfl
  (fun f fn hf Rl=>by
    obtain rfl : f = 11 := Option.some.inj ((show Tryz.prog.funcNamed "paddock/paddocktop.TopRoom" = some 11 by kernel_rfl).symm.trans hf) |>.symm
    obtain rfl:fn=Tryz.f11:=(Option.some.inj (Tryz.func11.symm.trans Rl)).symm
    exact ⟨by kernel_rfl,fun j t ht=>by
     rw [Tryz.params11] at ht;have hm:t∈[3,3,3,3]:=by simpa using Array.mem_of_getElem? ht
     have eH:([3,3,3,3].all fun u => !Tryz.prog.wantsStandIn u)=true:=by kernel_rfl
     exact (show Tryz.prog.wantsStandIn t=false by simpa using List.all_eq_true.1 eH t hm)⟩)
  (by kernel_rfl)
end Go.Proofs.YtbidkghlpijecaaGreatDoor
