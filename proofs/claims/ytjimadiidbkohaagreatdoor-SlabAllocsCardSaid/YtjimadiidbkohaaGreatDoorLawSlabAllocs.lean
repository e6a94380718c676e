/-
  SlabAllocs: for every input the law returns true, and each argument reads afterwards as it read before. No condition.
-/
import Derived.Test.YtjimadiidbkohaaGreatDoorTie
import Derived.Test.YtjimadiidbkohaaGreatDoorCards
import Derived.SevenTiedAt
import Derived.Test.YtjimadiidbkohaaGreatDoorPackSlabAllocs7
import Derived.Test.YtjimadiidbkohaaGreatDoorFact
import Derived.Test.YtjimadiidbkohaaGreatDoorPackSlabAllocs8
import Derived.Test.YtjimadiidbkohaaGreatDoorPackSlabAllocs26
set_option linter.unusedVariables false
namespace Go.Proofs.YtjimadiidbkohaaGreatDoor
open Go.ChangeShapes Go.WideShapes Go.ChangeAt Go.RowKit Go.Deep Go.Joins
set_option maxRecDepth 100000 in
theorem px (os:Os) (started:os.Started) (H:Type) (enc:TypeId×Value→H) :
 ReturnsInHanded {} Tryz.checked os 3 .any (fun w args=>(Rows.slabAllocsSpec.pre enc Tryz.prog Tryz.f3 [] false w args∧laidMetH Tryz.prog Rows.slabAllocsRow.laid w)∧sizedMet enc Tryz.prog Tryz.f3 (OpenSpec.ofChange Rows.slabAllocsSpec) false w args) (Rows.slabAllocsSpec.post enc Tryz.prog Tryz.f3 false true false false):=by
 refine returnsInHanded_of_change_and (C:=Tryz.checked) (X:=fun w _=>laidMetH Tryz.prog Rows.slabAllocsRow.laid w) (fun _ _ _ hh h=>h.of_heap hh) own started (by kernel_rfl) Tryz.func3
  (ChangeSpec.witness_shaped (enc:=enc) (C:=Tryz.checked) (os:=os) (X:=fun w _=>laidMetH Tryz.prog Rows.slabAllocsRow.laid w) false (World.doorLaid Tryz.prog 400 os) #[.agg #[.slice none 0 0,.slice none 0 0,.slice none 0 0,.int .i64 0,.slice none 0 0,.slice none 0 0,.slice none 0 0],.string ⟨#[]⟩,.int .i64 0] 8 rfl (World.shaped_of_RefB (by kernel_rfl) (by kernel_rfl)) (by kernel_rfl) (by kernel_rfl) (by kernel_rfl)
    (laidMetH_of_parts3 (fuel:=8) (laidMet_of_run' 8 (by kernel_rfl) (by kernel_rfl)) (by kernel_rfl) (by kernel_rfl))) ?_
 intro W base args ds gs before Bu hW _ xd hL _;have ui:(DataW.weightsEach Tryz.prog (Tryz.f3.params.toList++Rows.slabAllocsSpec.plain.varTypes Tryz.prog) (ds++gs)).all (· ≤ reachBytes)=true:=xd
 clear xd;have HW:=hW;obtain ⟨p,q,E3,hV,rfl,_,_⟩:=hW;have hA:DataW.TrodAll enc Tryz.prog W 0 (fun _=>true) true Tryz.f3.params.toList args.toList ds p:=E3
 have Bu:∀ (j:Nat) t v,Tryz.f3.params[j]?=some t→args[j]?=some v→Value.okWide Tryz.prog W .any base t v:=Bu
 rw [Tryz.params3] at hA Bu ui;obtain ⟨v0,OM,d0,ON,p0,q0,Mt,rfl,rfl,h0,r0⟩:=trodAll_cons hA;obtain ⟨v1,OO,d1,OP,p1,q1,rfl,rfl,rfl,h1,r1⟩:=trodAll_cons r0;obtain ⟨v2,OQ,d2,OR,p2,q2,rfl,rfl,rfl,h2,r2⟩:=trodAll_cons r1;obtain ⟨rfl,rfl,rfl⟩:=trodAll_nil r2;obtain rfl:args = #[v0,v1,v2]:=by cases args;simp_all
 obtain ⟨rfl,rfl⟩:=trodVars_none hV;obtain ⟨Oc,sp,rfl,Hr,Od⟩:=wO (Bu 0 30 v0 rfl rfl) h0 (Cl ui (j:=0) (t:=30) rfl rfl);obtain ⟨x1,rfl,Bw⟩:=Ct (Bu 1 9 v1 rfl rfl) h1 (Cl ui (j:=1) (t:=9) rfl rfl);obtain ⟨x2,rfl,rfl,rfl,w2⟩:=open_int Tryz.underlying3 (Bu 2 3 v2 rfl rfl) h2;refine Ar laidOut (fun t ht => ?_) rfl Tryz.underlying4 rfl ⟨rfl,rfl,rfl⟩ HW ((tv _ _ x1 x2 W Hr Od.lA Bw (wM hL)));rw [Tryz.params3] at ht;simp only [List.mem_cons,List.not_mem_nil,or_false] at ht;rcases ht with rfl|rfl|rfl
 all_goals exact ⟨by kernel_rfl,of_decide_eq_true (by kernel_rfl)⟩
set_option maxHeartbeats 4000000 in
theorem py:joinedFacts Tryz.pinned.checked.prog 3 Tryz.f3 Rows.slabAllocsSpec Rows.slabAllocsRow=true:=by
 simp only [joinedFacts,Bool.and_eq_true];repeat' apply And.intro
 rotate_left 24
 ·exact factStops
 ·exact factEnter
 ·rw [factLifts];kernel_rfl
 all_goals as_aux_lemma=>kernel_rfl
theorem tw:Rows.SlabAllocsSaid :=
 OpenClaim.holds_of_wide 3 Tryz.f3 rfl rfl rfl rfl rfl rfl rfl ⟨rfl,rfl,rfl,rfl,rfl⟩ rfl rfl rfl rfl rfl (by kernel_rfl) Tryz.func3 py
  (of_decide_eq_true (by kernel_rfl)) (by unfold Func.isWrapper;first|(rw [if_pos (by decide +kernel)];kernel_rfl)|(rw [if_neg (by decide +kernel)];exact ⟨rfl,rfl⟩))
  (fun os started H enc _=>px os started H enc)
set_option maxRecDepth 100000 in
theorem slabAllocs_holds:Rows.SlabAllocsCardSaid :=
 Claim7.holds_tied_plain_at .later [] [.data] true (true, "d4a31ae4f05e72160410defe0529e9e118a270238f1da36be43e742e6f00e6dd") false
  tw (fun _ h=>by cases h) (by kernel_rfl) (fun _ h=>by cases h) slabAllocs_row_tie rfl ⟨rfl,rfl⟩ (by kernel_rfl) rfl
  (fun f fn hf Oe=>by
    obtain rfl : f = 3 := Option.some.inj ((show Tryz.prog.funcNamed "paddock/paddocklaw.SlabAllocs" = some 3 by kernel_rfl).symm.trans hf) |>.symm
    obtain rfl:fn=Tryz.f3:=(Option.some.inj (Tryz.func3.symm.trans Oe)).symm
    exact ⟨by kernel_rfl,fun j t ht=>by
     rw [Tryz.params3] at ht;have hm:t∈[30,9,3]:=by simpa using Array.mem_of_getElem? ht
     have fO:([30,9,3].all fun u => !Tryz.prog.wantsStandIn u)=true:=by kernel_rfl
     exact (show Tryz.prog.wantsStandIn t=false by simpa using List.all_eq_true.1 fO t hm)⟩)
  (by kernel_rfl)
end Go.Proofs.YtjimadiidbkohaaGreatDoor
