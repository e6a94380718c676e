/-
  SlabBulks: for every input the law returns true, and each argument reads afterwards as it read before. No condition.
-/
import Derived.Test.YtjimadiidbkohaaGreatDoorTie
import Derived.Test.YtjimadiidbkohaaGreatDoorCards
import Derived.SevenTiedAt
import Derived.Test.YtjimadiidbkohaaGreatDoorPackSlabBulks7
import Derived.Test.YtjimadiidbkohaaGreatDoorFact
import Derived.Test.YtjimadiidbkohaaGreatDoorPackSlabBulks8
import Derived.Test.YtjimadiidbkohaaGreatDoorPackSlabBulks26
set_option linter.unusedVariables false
namespace Go.Proofs.YtjimadiidbkohaaGreatDoor
open Go.ChangeShapes Go.WideShapes Go.ChangeAt Go.RowKit Go.Deep Go.Joins
set_option maxRecDepth 100000 in
theorem qz (os:Os) (started:os.Started) (H:Type) (enc:TypeId×Value→H) :
 ReturnsInHanded {} Tryz.checked os 4 .any (fun w args=>(Rows.slabBulksSpec.pre enc Tryz.prog Tryz.f4 [] false w args∧laidMetH Tryz.prog Rows.slabBulksRow.laid w)∧sizedMet enc Tryz.prog Tryz.f4 (OpenSpec.ofChange Rows.slabBulksSpec) false w args) (Rows.slabBulksSpec.post enc Tryz.prog Tryz.f4 false true false false):=by
 refine returnsInHanded_of_change_and (C:=Tryz.checked) (X:=fun w _=>laidMetH Tryz.prog Rows.slabBulksRow.laid w) (fun _ _ _ hh h=>h.of_heap hh) own started (by kernel_rfl) Tryz.func4
  (ChangeSpec.witness_shaped (enc:=enc) (C:=Tryz.checked) (os:=os) (X:=fun w _=>laidMetH Tryz.prog Rows.slabBulksRow.laid w) false (World.doorLaid Tryz.prog 400 os) #[.agg #[.slice none 0 0,.slice none 0 0,.slice none 0 0,.int .i64 0,.slice none 0 0,.slice none 0 0,.slice none 0 0],.string ⟨#[]⟩,.int .i64 0,.int .i64 0] 8 rfl (World.shaped_of_RefB (by kernel_rfl) (by kernel_rfl)) (by kernel_rfl) (by kernel_rfl) (by kernel_rfl)
    (laidMetH_of_parts3 (fuel:=8) (laidMet_of_run' 8 (by kernel_rfl) (by kernel_rfl)) (by kernel_rfl) (by kernel_rfl))) ?_
 intro W base args ds gs before zO hW _ xz hL _;have uB:(DataW.weightsEach Tryz.prog (Tryz.f4.params.toList++Rows.slabBulksSpec.plain.varTypes Tryz.prog) (ds++gs)).all (· ≤ reachBytes)=true:=xz
 clear xz;have Ir:=hW;obtain ⟨p,q,Fv,hV,rfl,_,_⟩:=hW;have hA:DataW.TrodAll enc Tryz.prog W 0 (fun _=>true) true Tryz.f4.params.toList args.toList ds p:=Fv
 have zO:∀ (j:Nat) t v,Tryz.f4.params[j]?=some t→args[j]?=some v→Value.okWide Tryz.prog W .any base t v:=zO
 rw [Tryz.params4] at hA zO uB;obtain ⟨v0,Pa,d0,Pb,p0,q0,MW,rfl,rfl,h0,r0⟩:=trodAll_cons hA;obtain ⟨v1,Pc,d1,Pd,p1,q1,rfl,rfl,rfl,h1,r1⟩:=trodAll_cons r0;obtain ⟨v2,Pe,d2,Pf,p2,q2,rfl,rfl,rfl,h2,r2⟩:=trodAll_cons r1;obtain ⟨v3,Pg,d3,Ph,p3,q3,rfl,rfl,rfl,h3,r3⟩:=trodAll_cons r2;obtain ⟨rfl,rfl,rfl⟩:=trodAll_nil r3;obtain rfl:args = #[v0,v1,v2,v3]:=by cases args;simp_all
 obtain ⟨rfl,rfl⟩:=trodVars_none hV;obtain ⟨OD,sp,rfl,HN,OE⟩:=xj (zO 0 30 v0 rfl rfl) h0 (CM uB (j:=0) (t:=30) rfl rfl);obtain ⟨x1,rfl,BY⟩:=CU (zO 1 9 v1 rfl rfl) h1 (CM uB (j:=1) (t:=9) rfl rfl);obtain ⟨x2,rfl,rfl,rfl,w2⟩:=open_int Tryz.underlying3 (zO 2 3 v2 rfl rfl) h2;obtain ⟨x3,rfl,rfl,rfl,w3⟩:=open_int Tryz.underlying3 (zO 3 3 v3 rfl rfl) h3;refine AT laidOut (fun t ht => ?_) rfl Tryz.underlying4 rfl ⟨rfl,rfl,rfl⟩ Ir ((uy _ _ x1 x2 x3 W HN OE.gL BY (xh hL)));rw [Tryz.params4] at ht;simp only [List.mem_cons,List.not_mem_nil,or_false] at ht;rcases ht with rfl|rfl|rfl|rfl
 all_goals exact ⟨by kernel_rfl,of_decide_eq_true (by kernel_rfl)⟩
set_option maxHeartbeats 4000000 in
theorem qA:joinedFacts Tryz.pinned.checked.prog 4 Tryz.f4 Rows.slabBulksSpec Rows.slabBulksRow=true:=by
 simp only [joinedFacts,Bool.and_eq_true];repeat' apply And.intro
 rotate_left 24
 ·exact factStops
 ·exact factEnter
 ·rw [factLifts];kernel_rfl
 all_goals as_aux_lemma=>kernel_rfl
theorem uA:Rows.SlabBulksSaid :=
 OpenClaim.holds_of_wide 4 Tryz.f4 rfl rfl rfl rfl rfl rfl rfl ⟨rfl,rfl,rfl,rfl,rfl⟩ rfl rfl rfl rfl rfl (by kernel_rfl) Tryz.func4 qA
  (of_decide_eq_true (by kernel_rfl)) (by unfold Func.isWrapper;first|(rw [if_pos (by decide +kernel)];kernel_rfl)|(rw [if_neg (by decide +kernel)];exact ⟨rfl,rfl⟩))
  (fun os started H enc _=>qz os started H enc)
set_option maxRecDepth 100000 in
theorem slabBulks_holds:Rows.SlabBulksCardSaid :=
 Claim7.holds_tied_plain_at .later [] [.data] true (true, "d4a31ae4f05e72160410defe0529e9e118a270238f1da36be43e742e6f00e6dd") false
  uA (fun _ h=>by cases h) (by kernel_rfl) (fun _ h=>by cases h) slabBulks_row_tie rfl ⟨rfl,rfl⟩ (by kernel_rfl) rfl
  (fun f fn hf OF=>by
    obtain rfl : f = 4 := Option.some.inj ((show Tryz.prog.funcNamed "paddock/paddocklaw.SlabBulks" = some 4 by kernel_rfl).symm.trans hf) |>.symm
    obtain rfl:fn=Tryz.f4:=(Option.some.inj (Tryz.func4.symm.trans OF)).symm
    exact ⟨by kernel_rfl,fun j t ht=>by
     rw [Tryz.params4] at ht;have hm:t∈[30,9,3,3]:=by simpa using Array.mem_of_getElem? ht
     have gd:([30,9,3,3].all fun u => !Tryz.prog.wantsStandIn u)=true:=by kernel_rfl
     exact (show Tryz.prog.wantsStandIn t=false by simpa using List.all_eq_true.1 gd t hm)⟩)
  (by kernel_rfl)
end Go.Proofs.YtjimadiidbkohaaGreatDoor
