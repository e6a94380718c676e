/-
  TopEnds: for every input the law returns true, and each argument reads afterwards as it read before. No condition.
-/
import Derived.Test.YtenhkiaaebnggaaGreatDoorTie
import Derived.Test.YtenhkiaaebnggaaGreatDoorCards
import Derived.SevenTiedAt
import Derived.Test.YtenhkiaaebnggaaGreatDoorPackTopEnds4
import Derived.Test.YtenhkiaaebnggaaGreatDoorFact
import Derived.Test.YtenhkiaaebnggaaGreatDoorPackTopEnds3
import Derived.Test.YtenhkiaaebnggaaGreatDoorPackTopEnds8
import Derived.Test.YtenhkiaaebnggaaGreatDoorPackTopEnds10
set_option linter.unusedVariables false
namespace Go.Proofs.YtenhkiaaebnggaaGreatDoor
open Go.ChangeShapes Go.WideShapes Go.ChangeAt Go.RowKit Go.Deep Go.Joins
set_option maxRecDepth 100000 in
theorem BC (os:Os) (started:os.Started) (H:Type) (enc:TypeId×Value→H) :
 ReturnsInHanded {} Tryz.checked os 3 .any (fun w args=>(Rows.topEndsSpec.pre enc Tryz.prog Tryz.f3 [] false w args∧laidMetH Tryz.prog Rows.topEndsRow.laid w)∧sizedMet enc Tryz.prog Tryz.f3 (OpenSpec.ofChange Rows.topEndsSpec) false w args) (Rows.topEndsSpec.post enc Tryz.prog Tryz.f3 false true false false):=by
 refine returnsInHanded_of_change_and (C:=Tryz.checked) (X:=fun w _=>laidMetH Tryz.prog Rows.topEndsRow.laid w) (fun _ _ _ hh h=>h.of_heap hh) own started (by kernel_rfl) Tryz.func3
  (ChangeSpec.witness_shaped (enc:=enc) (C:=Tryz.checked) (os:=os) (X:=fun w _=>laidMetH Tryz.prog Rows.topEndsRow.laid w) false (World.doorLaid Tryz.prog 400 os) #[.slice none 0 0,.int .i64 0,.int .i64 0,.int .i64 0] 8 rfl (World.shaped_of_RefB (by kernel_rfl) (by kernel_rfl)) (by kernel_rfl) (by kernel_rfl) (by kernel_rfl)
    (laidMetH_of_parts3 (fuel:=8) (laidMet_of_run' 8 (by kernel_rfl) (by kernel_rfl)) (by kernel_rfl) (by kernel_rfl))) ?_
 intro W base args ds gs before I0 hW _ FE hL _;have nq:(DataW.weightsEach Tryz.prog (Tryz.f3.params.toList++Rows.topEndsSpec.plain.varTypes Tryz.prog) (ds++gs)).all (· ≤ reachBytes)=true:=FE
 clear FE;have UD:=hW;obtain ⟨p,q,R2,hV,rfl,_,_⟩:=hW;have hA:DataW.TrodAll enc Tryz.prog W 0 (fun _=>true) true Tryz.f3.params.toList args.toList ds p:=R2
 have I0:∀ (j:Nat) t v,Tryz.f3.params[j]?=some t→args[j]?=some v→Value.okWide Tryz.prog W .any base t v:=I0
 rw [Tryz.params3] at hA I0 nq;obtain ⟨v0,vs0,d0,ds0,p0,q0,Gl,rfl,rfl,h0,r0⟩:=trodAll_cons hA;obtain ⟨v1,vs1,d1,ds1,p1,q1,rfl,rfl,rfl,h1,r1⟩:=trodAll_cons r0;obtain ⟨v2,vs2,d2,ds2,p2,q2,rfl,rfl,rfl,h2,r2⟩:=trodAll_cons r1;obtain ⟨v3,vs3,d3,ds3,p3,q3,rfl,rfl,rfl,h3,r3⟩:=trodAll_cons r2;obtain ⟨rfl,rfl,rfl⟩:=trodAll_nil r3;obtain rfl:args = #[v0,v1,v2,v3]:=by cases args;simp_all
 obtain ⟨rfl,rfl⟩:=trodVars_none hV;obtain ⟨A0,n0,c0,l0,rfl,TG,V5,ER,E1,Tp⟩:=FF (t:=22) (by kernel_rfl) (fun _ _ _=>Tb) (I0 0 22 v0 rfl rfl) h0;have DZ:=M7 nq (j:=0) (t:=22) rfl rfl (by kernel_rfl:Tryz.prog.bytesOf 85=32) Tp;obtain ⟨x1,rfl,rfl,rfl,w1⟩:=open_int Tryz.underlying3 (I0 1 3 v1 rfl rfl) h1;obtain ⟨x2,rfl,rfl,rfl,w2⟩:=open_int Tryz.underlying3 (I0 2 3 v2 rfl rfl) h2;obtain ⟨x3,rfl,rfl,rfl,w3⟩:=open_int Tryz.underlying3 (I0 3 3 v3 rfl rfl) h3;refine KB laidOut (fun t ht => ?_) rfl Tryz.underlying4 rfl ⟨rfl,rfl,rfl⟩ UD (GS A0 n0 c0 l0 x1 x2 x3 W TG (by omega) E1 (in64_of_wf w1) (in64_of_wf w2) (in64_of_wf w3) (sP (by kernel_rfl) hL).1 (sP (by kernel_rfl) hL).2);rw [Tryz.params3] at ht;simp only [List.mem_cons,List.not_mem_nil,or_false] at ht;rcases ht with rfl|rfl|rfl|rfl
 all_goals exact ⟨by kernel_rfl,of_decide_eq_true (by kernel_rfl)⟩
set_option maxHeartbeats 4000000 in
theorem BD:joinedFacts Tryz.pinned.checked.prog 3 Tryz.f3 Rows.topEndsSpec Rows.topEndsRow=true:=by
 simp only [joinedFacts,Bool.and_eq_true];repeat' apply And.intro
 rotate_left 24
 ·exact factStops
 ·exact factEnter
 ·rw [factLifts];kernel_rfl
 all_goals as_aux_lemma=>kernel_rfl
theorem GU:Rows.TopEndsSaid :=
 OpenClaim.holds_of_wide 3 Tryz.f3 rfl rfl rfl rfl rfl rfl rfl ⟨rfl,rfl,rfl,rfl,rfl⟩ rfl rfl rfl rfl rfl (by kernel_rfl) Tryz.func3 BD
  (of_decide_eq_true (by kernel_rfl)) (by unfold Func.isWrapper;first|(rw [if_pos (by decide +kernel)];kernel_rfl)|(rw [if_neg (by decide +kernel)];exact ⟨rfl,rfl⟩))
  (fun os started H enc _=>BC os started H enc)
set_option maxRecDepth 100000 in
theorem topEnds_holds:Rows.TopEndsCardSaid :=
 Claim7.holds_tied_plain_at .later [] [.data, .data, .data, .data, .widerDeep] true (true, "87a7fee2a59eb61b5972f315b076d0ae3b649f27115f5491b4df59a255aa798a") false
  GU (fun _ h=>by cases h) (by kernel_rfl) (fun _ h=>by cases h) topEnds_row_tie rfl ⟨rfl,rfl⟩ (by kernel_rfl) rfl
  (fun f fn hf hfn=>by
    obtain rfl : f = 3 := Option.some.inj ((show Tryz.prog.funcNamed "paddock/paddocktop.TopEnds" = some 3 by kernel_rfl).symm.trans hf) |>.symm
    obtain rfl:fn=Tryz.f3:=(Option.some.inj (Tryz.func3.symm.trans hfn)).symm
    exact ⟨by kernel_rfl,fun j t ht=>by
     rw [Tryz.params3] at ht;have hm:t∈[22,3,3,3]:=by simpa using Array.mem_of_getElem? ht
     have fc:([22,3,3,3].all fun u => !Tryz.prog.wantsStandIn u)=true:=by kernel_rfl
     exact (show Tryz.prog.wantsStandIn t=false by simpa using List.all_eq_true.1 fc t hm)⟩)
  (by kernel_rfl)
end Go.Proofs.YtenhkiaaebnggaaGreatDoor
