/-
  TopApart: for every input the law returns true, and each argument reads afterwards as it read before. No condition.
-/
import Derived.Test.YtohigmjjbgpfmaaGreatDoorTie
import Derived.Test.YtohigmjjbgpfmaaGreatDoorCards
import Derived.SevenTiedAt
import Derived.Test.YtohigmjjbgpfmaaGreatDoorPackTopApart4
import Derived.Test.YtohigmjjbgpfmaaGreatDoorFact
import Derived.Test.YtohigmjjbgpfmaaGreatDoorPackTopApart3
import Derived.Test.YtohigmjjbgpfmaaGreatDoorPackTopApart8
import Derived.Test.YtohigmjjbgpfmaaGreatDoorPackTopApart10
set_option linter.unusedVariables false
namespace Go.Proofs.YtohigmjjbgpfmaaGreatDoor
open Go.ChangeShapes Go.WideShapes Go.ChangeAt Go.RowKit Go.Deep Go.Joins
set_option maxRecDepth 100000 in
theorem yi (os:Os) (started:os.Started) (H:Type) (enc:TypeId×Value→H) :
 ReturnsInHanded {} Tryz.checked os 4 .any (fun w args=>(Rows.topApartSpec.pre enc Tryz.prog Tryz.f4 [] false w args∧laidMetH Tryz.prog Rows.topApartRow.laid w)∧sizedMet enc Tryz.prog Tryz.f4 (OpenSpec.ofChange Rows.topApartSpec) false w args) (Rows.topApartSpec.post enc Tryz.prog Tryz.f4 false true false false):=by
 refine returnsInHanded_of_change_and (C:=Tryz.checked) (X:=fun w _=>laidMetH Tryz.prog Rows.topApartRow.laid w) (fun _ _ _ hh h=>h.of_heap hh) own started (by kernel_rfl) Tryz.func4
  (ChangeSpec.witness_shaped (enc:=enc) (C:=Tryz.checked) (os:=os) (X:=fun w _=>laidMetH Tryz.prog Rows.topApartRow.laid w) false (World.doorLaid Tryz.prog 400 os) #[.slice none 0 0,.int .i64 0,.int .i64 0,.int .i64 0,.int .i64 0,.int .i64 0] 8 rfl (World.shaped_of_RefB (by kernel_rfl) (by kernel_rfl)) (by kernel_rfl) (by kernel_rfl) (by kernel_rfl)
    (laidMetH_of_parts3 (fuel:=8) (laidMet_of_run' 8 (by kernel_rfl) (by kernel_rfl)) (by kernel_rfl) (by kernel_rfl))) ?_
 intro W base args ds gs before D4 hW _ E5 hL _;have oD:(DataW.weightsEach Tryz.prog (Tryz.f4.params.toList++Rows.topApartSpec.plain.varTypes Tryz.prog) (ds++gs)).all (· ≤ reachBytes)=true:=E5
 clear E5;have TF:=hW;obtain ⟨p,q,Q8,hV,rfl,_,_⟩:=hW;have hA:DataW.TrodAll enc Tryz.prog W 0 (fun _=>true) true Tryz.f4.params.toList args.toList ds p:=Q8
 have D4:∀ (j:Nat) t v,Tryz.f4.params[j]?=some t→args[j]?=some v→Value.okWide Tryz.prog W .any base t v:=D4
 rw [Tryz.params4] at hA D4 oD;obtain ⟨v0,vs0,d0,ds0,p0,q0,FO,rfl,rfl,h0,r0⟩:=trodAll_cons hA;obtain ⟨v1,vs1,d1,ds1,p1,q1,rfl,rfl,rfl,h1,r1⟩:=trodAll_cons r0;obtain ⟨v2,vs2,d2,ds2,p2,q2,rfl,rfl,rfl,h2,r2⟩:=trodAll_cons r1;obtain ⟨v3,vs3,d3,ds3,p3,q3,rfl,rfl,rfl,h3,r3⟩:=trodAll_cons r2;obtain ⟨v4,vs4,d4,ds4,p4,q4,rfl,rfl,rfl,h4,r4⟩:=trodAll_cons r3;obtain ⟨v5,vs5,d5,ds5,p5,q5,rfl,rfl,rfl,h5,r5⟩:=trodAll_cons r4;obtain ⟨rfl,rfl,rfl⟩:=trodAll_nil r5;obtain rfl:args = #[v0,v1,v2,v3,v4,v5]:=by cases args;simp_all
 obtain ⟨rfl,rfl⟩:=trodVars_none hV;obtain ⟨A0,n0,c0,l0,rfl,Sv,U3,Eh,GD,Sd⟩:=E7 (t:=22) (by kernel_rfl) (fun _ _ _=>R7) (D4 0 22 v0 rfl rfl) h0;have Dr:=Mo oD (j:=0) (t:=22) rfl rfl (by kernel_rfl:Tryz.prog.bytesOf 88=32) Sd;obtain ⟨x1,rfl,rfl,rfl,w1⟩:=open_int Tryz.underlying3 (D4 1 3 v1 rfl rfl) h1;obtain ⟨x2,rfl,rfl,rfl,w2⟩:=open_int Tryz.underlying3 (D4 2 3 v2 rfl rfl) h2;obtain ⟨x3,rfl,rfl,rfl,w3⟩:=open_int Tryz.underlying3 (D4 3 3 v3 rfl rfl) h3;obtain ⟨x4,rfl,rfl,rfl,w4⟩:=open_int Tryz.underlying3 (D4 4 3 v4 rfl rfl) h4;obtain ⟨x5,rfl,rfl,rfl,w5⟩:=open_int Tryz.underlying3 (D4 5 3 v5 rfl rfl) h5;refine JZ laidOut (fun t ht => ?_) rfl Tryz.underlying4 rfl ⟨rfl,rfl,rfl⟩ TF (D0 A0 n0 c0 l0 x1 x2 x3 x4 x5 W Sv (by omega) GD (in64_of_wf w1) (in64_of_wf w2) (in64_of_wf w3) (in64_of_wf w4) (in64_of_wf w5) (sC (by kernel_rfl) hL).1 (sC (by kernel_rfl) hL).2);rw [Tryz.params4] at ht;simp only [List.mem_cons,List.not_mem_nil,or_false] at ht;rcases ht with rfl|rfl|rfl|rfl|rfl|rfl
 all_goals exact ⟨by kernel_rfl,of_decide_eq_true (by kernel_rfl)⟩
set_option maxHeartbeats 4000000 in
theorem yj:joinedFacts Tryz.pinned.checked.prog 4 Tryz.f4 Rows.topApartSpec Rows.topApartRow=true:=by
 simp only [joinedFacts,Bool.and_eq_true];repeat' apply And.intro
 rotate_left 24
 ·exact factStops
 ·exact factEnter
 ·rw [factLifts];kernel_rfl
 all_goals as_aux_lemma=>kernel_rfl
theorem D5:Rows.TopApartSaid :=
 OpenClaim.holds_of_wide 4 Tryz.f4 rfl rfl rfl rfl rfl rfl rfl ⟨rfl,rfl,rfl,rfl,rfl⟩ rfl rfl rfl rfl rfl (by kernel_rfl) Tryz.func4 yj
  (of_decide_eq_true (by kernel_rfl)) (by unfold Func.isWrapper;first|(rw [if_pos (by decide +kernel)];kernel_rfl)|(rw [if_neg (by decide +kernel)];exact ⟨rfl,rfl⟩))
  (fun os started H enc _=>yi os started H enc)
set_option maxRecDepth 100000 in
theorem topApart_holds:Rows.TopApartCardSaid :=
 Claim7.holds_tied_plain_at .later [] [.data, .data, .data, .data, .widerDeep] true (true, "65eeced44938fc4a50d37fbbf9a97957ef39f735ec82fa335bb36a9d320a180c") false
  D5 (fun _ h=>by cases h) (by kernel_rfl) (fun _ h=>by cases h) topApart_row_tie rfl ⟨rfl,rfl⟩ (by kernel_rfl) rfl
  (fun f fn hf hfn=>by
    obtain rfl : f = 4 := Option.some.inj ((show Tryz.prog.funcNamed "paddock/paddocktop.TopApart" = some 4 by kernel_rfl).symm.trans hf) |>.symm
    obtain rfl:fn=Tryz.f4:=(Option.some.inj (Tryz.func4.symm.trans hfn)).symm
    exact ⟨by kernel_rfl,fun j t ht=>by
     rw [Tryz.params4] at ht;have hm:t∈[22,3,3,3,3,3]:=by simpa using Array.mem_of_getElem? ht
     have fk:([22,3,3,3,3,3].all fun u => !Tryz.prog.wantsStandIn u)=true:=by kernel_rfl
     exact (show Tryz.prog.wantsStandIn t=false by simpa using List.all_eq_true.1 fk t hm)⟩)
  (by kernel_rfl)
end Go.Proofs.YtohigmjjbgpfmaaGreatDoor
