/-
  KmemRuns: for every input the law returns true, and each argument reads afterwards as it read before. No condition.
-/
import Derived.Test.YtdlfabkacdgneaaGreatDoorTie
import Derived.Test.YtdlfabkacdgneaaGreatDoorCards
import Derived.SevenTiedAt
import Derived.Test.YtdlfabkacdgneaaGreatDoorPackKmemRuns13
import Derived.Test.YtdlfabkacdgneaaGreatDoorPackKmemRuns18
import Derived.Test.YtdlfabkacdgneaaGreatDoorFact
import Derived.Test.YtdlfabkacdgneaaGreatDoorPackKmemRuns2
set_option linter.unusedVariables false
namespace Go.Proofs.YtdlfabkacdgneaaGreatDoor
open Go.ChangeShapes Go.WideShapes Go.ChangeAt Go.RowKit Go.Deep Go.Joins
set_option maxRecDepth 100000 in
theorem vS(os:Os)(c:os.Started)(H:Type)(enc:TypeId×Value→H):
 ReturnsInHanded {} Tryz.checked os 3 .any (λw a=>(Rows.kmemRunsSpec.pre enc Tryz.prog Tryz.f3 [] false w a∧laidMetH Tryz.prog Rows.kmemRunsRow.laid w)∧sizedMet enc Tryz.prog Tryz.f3 (OpenSpec.ofChange Rows.kmemRunsSpec) false w a) (Rows.kmemRunsSpec.post enc Tryz.prog Tryz.f3 false true false false):=by
 refine returnsInHanded_of_change_and (C:=Tryz.checked) (X:=λw _=>laidMetH Tryz.prog Rows.kmemRunsRow.laid w) (λ_ _ _ M h=>h.of_heap M) own c bm Tryz.func3
  (ChangeSpec.witness_shaped (enc:=enc) (C:=Tryz.checked) (os:=os) (X:=λw _=>laidMetH Tryz.prog Rows.kmemRunsRow.laid w) false (World.doorLaid Tryz.prog 400 os) #[.agg #[.slice none 0 0,.slice none 0 0,Iv 0,Iv 0,Iv 0],.slice none 0 0] 8 rfl (World.shaped_of_RefB bm bm) bm bm bm
    (laidMetH_of_parts3 (fuel:=8) (laidMet_of_run' 8 bm bm) bm bm)) ?_
 intro W e a F N g b G _ d I _;have f:(DataW.weightsEach Tryz.prog (Tryz.f3.params.toList++Rows.kmemRunsSpec.plain.varTypes Tryz.prog) (F++N)).all (·≤reachBytes)=true:=d;have i:=G;obtain⟨p,q,k,O,rfl,_,_⟩:=G;have J:DataW.TrodAll enc Tryz.prog W 0 (λ_=>true) true Tryz.f3.params.toList a.toList F p:=k;have b:∀(j:Nat)t v,Tryz.f3.params[j]?=some t→a[j]?=some v→Value.okWide Tryz.prog W .any e t v:=b;rw[Tryz.params3]at J b f;obtain⟨K,P,d0,Q,p0,q0,l,rfl,rfl,R,S⟩:=trodAll_cons J;obtain⟨L,T,d1,U,p1,q1,rfl,rfl,rfl,V,r1⟩:=trodAll_cons S;obtain⟨rfl,rfl,rfl⟩:=trodAll_nil r1;obtain rfl:a= #[K,L]:=by cases a;simp_all
 obtain⟨rfl,rfl⟩:=trodVars_none O;obtain⟨Ux,un,uc,Uy,um,ud,ux,uy,m,n,o,rfl,r,s,u,x,y⟩:=F0 (b 0 26 K rfl rfl) R;obtain⟨A1,n1,c1,l1,rfl,z,A,B,D⟩:=I4 (b 1 27 L rfl rfl) V (MV f (j:=1) (t:=27) rfl rfl);refine Ii laidOut (λt E=>?_) rfl Tryz.underlying4 rfl ⟨rfl,rfl,rfl⟩ i ((Ds Ux un uc Uy um ud ux uy m n o A1 n1 c1 l1 W r s u x y (qB bm I).1 (qB bm I).2 z A B D));rw[Tryz.params3]at E;simp only[List.mem_cons,List.not_mem_nil,or_false]at E;rcases E with rfl|rfl
 all_goals exact⟨by kernel_rfl,of_decide_eq_true bm⟩
set_option maxHeartbeats 4000000 in
theorem vT:joinedFacts Tryz.pinned.checked.prog 3 Tryz.f3 Rows.kmemRunsSpec Rows.kmemRunsRow=true:=by
 simp only[joinedFacts,Bool.and_eq_true];repeat' apply And.intro
 rotate_left 24
 ·exact factStops
 ·exact factEnter
 ·rw[factLifts];kernel_rfl
 all_goals as_aux_lemma=>kernel_rfl
theorem Dt:Rows.KmemRunsSaid:=
 OpenClaim.holds_of_wide 3 Tryz.f3 Z Z Z Z Z Z Z ⟨Z,Z,Z,Z,Z⟩ Z Z Z Z Z bm Tryz.func3 vT
  (of_decide_eq_true bm) (by unfold Func.isWrapper;first|(rw[if_pos (by decide+kernel)];kernel_rfl)|(rw[if_neg (by decide+kernel)];exact⟨rfl,rfl⟩))
  (λos a H enc _=>vS os a H enc)
set_option maxRecDepth 100000 in
theorem kmemRuns_holds:Rows.KmemRunsCardSaid:=
 Claim7.holds_tied_plain_at .later [] [.data, .data, .data, .data, .widerDeep] true (true, "b3314af55c055743049f9da543f848d4d81cbd4f40375b3d5706569b02a80f3d") false
  Dt (λ_ h=>by cases h) bm (λ_ h=>by cases h) kmemRuns_row_tie Z ⟨Z,Z⟩ bm Z
  (λf d e b=>by
    obtain rfl:f=3:=Option.some.inj ((show Tryz.prog.funcNamed "paddock/paddocklaw.KmemRuns" =some 3 by kernel_rfl).symm.trans e)|>.symm
    obtain rfl:d=Tryz.f3:=(Option.some.inj (Tryz.func3.symm.trans b)).symm
    exact⟨by kernel_rfl,λj t c=>by
     rw[Tryz.params3]at c;have g:t∈[26,27]:=by simpa using Array.mem_of_getElem? c
     have a:([26,27].all λu=> !Tryz.prog.wantsStandIn u)=true:=by kernel_rfl
     exact(show Tryz.prog.wantsStandIn t=false by simpa using List.all_eq_true.1 a t g)⟩)
  bm
end Go.Proofs.YtdlfabkacdgneaaGreatDoor
