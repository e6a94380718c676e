/-
  Texts of the claim TopRoom, part 2: what its theorem leans on.
-/
import Derived.Test.YtbidkghlpijecaaGreatDoorPackTopRoom1
set_option linter.unusedVariables false
set_option linter.unusedSimpArgs false
namespace Go.Proofs.YtbidkghlpijecaaGreatDoor
open Go.RowKit
def qZ (P:Program) (ops:Array Oper) (Q:Exit→Act→World→Prop) (fin fO:Nat) (S2:World→Prop) : (World→Prop)→Nat→Array Bool→Act→World→Prop
 | _,0,listed,a,w=>Region.ready .any ops listed=[]∧Q .normal a w
 | S,f+1,listed,a,w=>Region.ready .any ops listed≠[] ∧ ∀ i∈Region.ready .any ops listed,i<ops.size∧wpOp P ops Q i (fun a' w'=>(i=fO→qZ P ops Q fin fO S2 (fun _=>True) f (listed.setIfInBounds i true) a' w') ∧
    (i≠fO→i=fin→S2 w'∧qZ P ops Q fin fO S2 S2 f (listed.setIfInBounds i true) a' w')∧(i≠fO→i≠fin→S w'∧qZ P ops Q fin fO S2 S f (listed.setIfInBounds i true) a' w')) a w
section
variable {P:Program} {ops:Array Oper} {Q:Exit→Act→World→Prop} {fin fO:Nat} {S2:World→Prop}
theorem uC:∀ (f:Nat) {S S':World→Prop} (hS:∀ w,S' w→S w) (listed:Array Bool) (a:Act) (w:World),qZ P ops Q fin fO S2 S' f listed a w→qZ P ops Q fin fO S2 S f listed a w
 | 0,_,_,_,_,_,_,h=>h
 | f+1,S,S',hS,_,_,_,h=>⟨h.1,fun i hi=>⟨(h.2 i hi).1,wpOp_mono (fun a' w' h'=>⟨h'.1,h'.2.1,fun n1 n2=>⟨hS _ (h'.2.2 n1 n2).1,uC f hS _ a' w' (h'.2.2 n1 n2).2⟩⟩) (h.2 i hi).2⟩⟩
theorem j6:∀ (f:Nat) {S:World→Prop} (listed:Array Bool) (a:Act) (w:World),qZ P ops Q fin fO S2 S f listed a w→wpAny P .any ops Q f listed a w
 | 0,_,_,_,_,h=>h
 | f+1,S,listed,a,w,h=>⟨fun h0=>absurd h0 h.1,fun i hi=>wpOp_mono (fun a' w' h'=>by
    by_cases e:i=fO
    ·exact j6 f _ a' w' (h'.1 e)
    ·by_cases e2:i=fin
     ·exact j6 f _ a' w' (h'.2.1 e e2).2
     ·exact j6 f _ a' w' (h'.2.2 e e2).2) (h.2 i hi).2⟩
def eD (ops:Array Oper) (k:Nat) : List Nat→Nat→Bool
 | [],i=>match ops[k]? with
   | some o=>o.after.any fun e=>Region.binds .any e && Nat.beq e.on i
   | none=>false
 | x::r,i=>(match ops[k]? with
   | some o=>o.after.any fun e=>Region.binds .any e && Nat.beq e.on x
   | none=>false) && eD ops x r i
theorem vI {k i:Nat} (h:(match ops[k]? with|some o=>o.after.any fun e=>Region.binds .any e && Nat.beq e.on i|none=>false)=true) : ∃ o,ops[k]?=some o ∧ ∃ e∈o.after,Region.binds .any e=true∧e.on=i:=by
 cases ho:ops[k]? with
 | none=>rw [ho] at h;cases h
 | some o =>
   rw [ho] at h;simp only [Array.any_eq_true',Bool.and_eq_true] at h;obtain ⟨e,he,hb,hn⟩:=h;exact ⟨o,rfl,e,he,hb,Nat.eq_of_beq_eq_true hn⟩
theorem nS {n:Nat} {listed:Array Bool} (inv:HeadInv .any ops n listed) : ∀ (p:List Nat) (k i:Nat),eD ops k p i=true→listed.getD k false=true→listed.getD i false=true
 | [],k,i,h,hk=>by
   obtain ⟨o,ho,e,he,hb,Hz⟩:=vI h;rw [← Hz];exact inv.closed k o ho hk e he hb
 | x::r,k,i,h,hk=>by
   simp only [eD,Bool.and_eq_true] at h;obtain ⟨o,ho,e,he,hb,Hz⟩:=vI h.1;exact nS inv r x i h.2 (by rw [← Hz];exact inv.closed k o ho hk e he hb)
theorem vJ {n:Nat} {listed:Array Bool} (inv:HeadInv .any ops n listed) {p:List Nat} {k i:Nat} (h:eD ops k p i=true) (hk:k∈Region.ready .any ops listed) : listed.getD i false=true:=by
 obtain ⟨_,o,ho,eH⟩:=mem_ready.1 hk;cases p with
 | nil =>
   obtain ⟨o',sb,e,he,hb,Hz⟩:=vI h;rw [ho] at sb;cases sb
   rw [← Hz];exact eH e he hb
 | cons x r =>
   simp only [eD,Bool.and_eq_true] at h;obtain ⟨o',sb,e,he,hb,Hz⟩:=vI h.1;rw [ho] at sb;cases sb
   exact nS inv r x i h.2 (by rw [← Hz];exact eH e he hb)
theorem ll {T:World→Prop} {i:Nat} {oi:Oper} {v:Value} (hi:ops[i]?=some oi) (y4:∀ (j:Nat) (o:Oper) cs b,ops[j]?=some o→o.op ≠ .select cs b) (FB:i≠fO) (NQ:i≠fin)
 (hQ:∀ c a w,Q (.panic c) (a.put oi.dst v) w→Q (.panic c) a w) (LU:(∀ w,T w) ∨ ∃ p,eD ops fO p i=true) (y6:(∀ w,S2 w→T w) ∨ ∃ p,eD ops fin p i=true) :
 ∀ (f:Nat) {S:World→Prop} (JB:∀ w,S w→T w) (listed:Array Bool) (a:Act) (w:World),HeadInv .any ops ops.size listed →
  (∀ j oj,ops[j]?=some oj→j≠i→listed.getD j true=false→(∀ e∈oj.after,Region.binds .any e=true→e.on≠i)→oi.apart ops oj=true) →
  i∈Region.ready .any ops listed→YieldsIf P ops T oi v a→S w →
  qZ P ops Q fin fO S2 S f (listed.setIfInBounds i true) (a.put oi.dst v) w→qZ P ops Q fin fO S2 S (f+1) listed a w:=by
 intro f;induction f with
 | zero =>
   intro S JB listed a w inv _ hr hy hS H;have yS:=(mem_ready.1 hr).1;refine ⟨fun h=>(by rw [h] at hr;cases hr),fun j hj => ?_⟩;have mm:j<ops.size:=by obtain ⟨_,o,ho,_⟩:=mem_ready.1 hj;exact (Array.getElem?_eq_some_iff.1 ho).1
   refine ⟨mm,?_⟩;by_cases j5:j=i
   ·subst j5;exact hy.wpOp hi (JB _ hS) ⟨fun e=>absurd e FB,fun _ e=>absurd e NQ,fun _ _=>⟨hS,H⟩⟩
   ·have h0:=ready_mono hj j5;rw [H.1] at h0;cases h0
 | succ f ih =>
   intro S JB listed a w inv my hr hy hS H;have yS:=(mem_ready.1 hr).1;refine ⟨fun h=>(by rw [h] at hr;cases hr),fun j hj => ?_⟩;have mm:j<ops.size:=by obtain ⟨_,o,ho,_⟩:=mem_ready.1 hj;exact (Array.getElem?_eq_some_iff.1 ho).1
   refine ⟨mm,?_⟩;by_cases j5:j=i
   ·subst j5;exact hy.wpOp hi (JB _ hS) ⟨fun e=>absurd e FB,fun _ e=>absurd e NQ,fun _ _=>⟨hS,H⟩⟩
   ·have h1:=(H.2 j (ready_mono hj j5)).2;obtain ⟨De,oj,Hw,eH⟩:=mem_ready.1 hj
    have Hx:∀ e∈oj.after,Region.binds .any e=true→e.on≠i:=fun e he hb LP=>by
     have h1:=eH e he hb;rw [LP,getD_both yS] at h1;cases h1
    have h2:=wpOp_putIf Hw (my j oj Hw j5 De Hx) (fun cs b=>y4 i oi cs b hi) (fun cs b=>y4 j oj cs b Hw) hQ hy h1
    have sd:∀ k ok,ops[k]?=some ok→k≠i→(listed.setIfInBounds j true).getD k true=false →
     (∀ e∈ok.after,Region.binds .any e=true→e.on≠i)→oi.apart ops ok=true:=fun k ok hk LQ yS nD=>by
     refine my k ok hk LQ ?_ nD;by_cases kB:j=k
     ·subst kB;exact De
     ·rw [getD_set_ne true kB] at yS;exact yS
    have Df:=inv.set hj mm
    have no:∀ {k:Nat} {p:List Nat},eD ops k p i=true→j=k→False:=fun {k p} JC e=>by
     subst e;have:=vJ inv JC hj
     rw [getD_both yS] at this;cases this
    refine wpOp_mono (fun a' w' h3=>⟨fun e => ?_,fun n1 e => ?_,fun n1 n2=>⟨(h3.2.2.2 n1 n2).1,ih JB (listed.setIfInBounds j true) a' w' Df sd (ready_mono hr (Ne.symm j5)) h3.1 (h3.2.2.2 n1 n2).1 ?_⟩⟩) h2
    ·rcases LU with hT|⟨p,JC⟩
     ·refine ih (fun w _=>hT w) (listed.setIfInBounds j true) a' w' Df sd (ready_mono hr (Ne.symm j5)) h3.1 trivial ?_;rw [Array.setIfInBounds_comm _ _ j5];exact h3.2.1 e
     ·exact (no JC e).elim
    ·rcases y6 with hT|⟨p,JC⟩
     ·refine ⟨(h3.2.2.1 n1 e).1,ih hT (listed.setIfInBounds j true) a' w' Df sd (ready_mono hr (Ne.symm j5)) h3.1 (h3.2.2.1 n1 e).1 ?_⟩;rw [Array.setIfInBounds_comm _ _ j5];exact (h3.2.2.1 n1 e).2
     ·exact (no JC e).elim
    ·rw [Array.setIfInBounds_comm _ _ j5];exact (h3.2.2.2 n1 n2).2
end
structure SF (P:Program) (n:Nat) (ops:Array Oper) (Q:Exit→Act→World→Prop) (fin fO:Nat) (S2:World→Prop) (f:Nat) (listed:Array Bool) (L:Env) (w:World) : Prop where
 out:∀ a,Fit n a L→HeadInv .any ops ops.size listed→qZ P ops (NoPanic Q) fin fO S2 (Ext w) f listed a w
structure SG (P:Program) (n:Nat) (ops:Array Oper) (Q:Exit→Act→World→Prop) (fin fO:Nat) (S2:World→Prop) (f:Nat) (listed:Array Bool) (L:Env) (w:World) : Prop where
 out:∀ a,Fit n a L→HeadInv .any ops ops.size listed→qZ P ops (NoPanic Q) fin fO S2 S2 f listed a w
def LV (P:Program) (n:Nat) (ops:Array Oper) (Q:Exit→Act→World→Prop) (fin fO:Nat) (S2:World→Prop) (f:Nat) (listed:Array Bool) (w:World) : Exit→Act→World→Prop
 | .normal,a,w'=>Ext w w'∧(HeadInv .any ops ops.size listed→qZ P ops (NoPanic Q) fin fO S2 (Ext w') f listed a w')
 | e,a,w'=>NoPanic Q e a w'
def JD (P:Program) (n:Nat) (ops:Array Oper) (Q:Exit→Act→World→Prop) (fin fO:Nat) (S2:World→Prop) (f:Nat) (listed:Array Bool) : Exit→Act→World→Prop
 | .normal,a,w'=>S2 w'∧(HeadInv .any ops ops.size listed→qZ P ops (NoPanic Q) fin fO S2 S2 f listed a w')
 | e,a,w'=>NoPanic Q e a w'
section
variable {P:Program} {n:Nat} {ops:Array Oper} {Q:Exit→Act→World→Prop} {fin fO f:Nat} {S2:World→Prop} {listed:Array Bool} {L:Env} {w:World}
theorem JE {i:Nat} (h:(!Nat.beq i fO && !Nat.beq i fin)=true) : i≠fO∧i≠fin:=by
 simp only [Bool.and_eq_true,Bool.not_eq_true'] at h;exact ⟨fun e=>by subst e;simp at h,fun e=>by subst e;simp at h⟩
theorem SF.take (i:Nat) (p q:List Nat) {o:Oper} (hB:Region.noSelect ops=true) (hi:ops[i]?=some o) (hf:Region.free .any ops listed i=true) (hr:(Region.ready .any ops listed).contains i=true) (hw:((eD ops fin p i && eD ops fO q i) && (!Nat.beq i fO && !Nat.beq i fin))=true)
 (h:SW P n ops (.tk fun L'=>SF P n ops Q fin fO S2 f (listed.setIfInBounds i true) L' w) [o] L w) : SF P n ops Q fin fO S2 (f+1) listed L w :=
 ⟨fun a ha inv=>by
  have hs:=h.out a ha;rw [Bool.and_eq_true,Bool.and_eq_true] at hw;obtain ⟨⟨aa,bo⟩,iN⟩:=hw;obtain ⟨n1,n2⟩:=JE iN;have lS:i∈Region.ready .any ops listed:=by simpa using hr
  have gR:i<ops.size:=(Array.getElem?_eq_some_iff.1 hi).1
  simp only [swp,vy] at hs;by_cases hw:Region.wanted o (yielded ops a.tmps)=true
  ·rw [if_pos hw] at hs;obtain ⟨v,hv,L',yT,hK⟩:=hs;exact ll (T:=Ext w) hi (Region.noSelect_spec hB) n1 n2 (fun _ _ _ h=>(h:False).elim) (.inr ⟨q,bo⟩) (.inr ⟨p,aa⟩) f (fun _ h=>h) listed a w inv (Region.free_spec hi hf) lS (.inl ⟨hw,hv⟩) (Ext.refl w) (hK.out _ yT (inv.set lS gR))
  ·rw [if_neg hw] at hs;obtain ⟨L',yT,hK⟩:=hs;exact ll (T:=Ext w) hi (Region.noSelect_spec hB) n1 n2 (fun _ _ _ h=>(h:False).elim) (.inr ⟨q,bo⟩) (.inr ⟨p,aa⟩) f (fun _ h=>h) listed a w inv (Region.free_spec hi hf) lS (.inr ⟨by simpa using hw,rfl⟩) (Ext.refl w) (hK.out _ yT (inv.set lS gR))⟩
theorem SF.hU (i:Nat) (q:List Nat) {d:Nat} {op:Op} {T:TypeId} {pos:String} {af:Array Edge} {v:Value} (hB:Region.noSelect ops=true) (hi:ops[i]?=some ⟨some d,op,T,pos,af,none⟩) (hf:Region.free .any ops listed i=true) (hr:(Region.ready .any ops listed).contains i=true) (hw:(eD ops fO q i && (!Nat.beq i fO && !Nat.beq i fin))=true)
 (h1:St P ⟨some d,op,T,pos,af,none⟩ L w v) (h2:∀ w2,S2 w2→St P ⟨some d,op,T,pos,af,none⟩ L w2 v) (hn:Nat.blt d n=true) (h:SF P n ops Q fin fO S2 f (listed.setIfInBounds i true) ((d,v)::L) w) : SF P n ops Q fin fO S2 (f+1) listed L w :=
 ⟨fun a ha inv=>by
  rw [Bool.and_eq_true] at hw;obtain ⟨aa,iN⟩:=hw;obtain ⟨n1,n2⟩:=JE iN;have lS:i∈Region.ready .any ops listed:=by simpa using hr
  have gR:i<ops.size:=(Array.getElem?_eq_some_iff.1 hi).1
  exact ll (T:=fun w'=>Ext w w'∨S2 w') hi (Region.noSelect_spec hB) n1 n2 (fun _ _ _ h=>(h:False).elim) (.inr ⟨q,aa⟩) (.inl fun _ => .inr) f (fun _ => .inl) listed a w inv (Region.free_spec hi hf) lS (v:=v)
   (.inl ⟨by simp [Region.wanted],fun w' hh=>by rcases hh with hh|hh;exact h1.out n a ha w' hh;exact (h2 w' hh).out n a ha w' (Ext.refl w')⟩) (Ext.refl w) (h.out _ (ha.put hn v) (inv.set lS gR))⟩
theorem SF.wZ (i:Nat) {d:Nat} {op:Op} {T:TypeId} {pos:String} {af:Array Edge} {v:Value} (hB:Region.noSelect ops=true) (hi:ops[i]?=some ⟨some d,op,T,pos,af,none⟩) (hf:Region.free .any ops listed i=true) (hr:(Region.ready .any ops listed).contains i=true) (hw:(!Nat.beq i fO && !Nat.beq i fin)=true)
 (h1:∀ w2,St P ⟨some d,op,T,pos,af,none⟩ L w2 v) (hn:Nat.blt d n=true) (h:SF P n ops Q fin fO S2 f (listed.setIfInBounds i true) ((d,v)::L) w) : SF P n ops Q fin fO S2 (f+1) listed L w :=
 ⟨fun a ha inv=>by
  obtain ⟨n1,n2⟩:=JE hw;have lS:i∈Region.ready .any ops listed:=by simpa using hr
  have gR:i<ops.size:=(Array.getElem?_eq_some_iff.1 hi).1
  exact ll (T:=fun _=>True) hi (Region.noSelect_spec hB) n1 n2 (fun _ _ _ h=>(h:False).elim) (.inl fun _=>trivial) (.inl fun _ _=>trivial) f (fun _ _=>trivial) listed a w inv (Region.free_spec hi hf) lS (v:=v)
   (.inl ⟨by simp [Region.wanted],fun w' _=>(h1 w').out n a ha w' (Ext.refl w')⟩) (Ext.refl w) (h.out _ (ha.put hn v) (inv.set lS gR))⟩
theorem Oper.FC {o:Oper} {a:Act} {N:Act→World→Prop} {Q1 Q2:Exit→Act→World→Prop} (hq:∀ e a w,e ≠ .normal→Q1 e a w→Q2 e a w) (hl:LetsOut Q1→LetsOut Q2) (h:o.wp P a w N Q1) : o.wp P a w N Q2:=by
 unfold Oper.wp at *;generalize (execOp a.eval o).run P w=r at *
 cases r with
 | ok x w' =>
   cases x<;>simp only [Oper.upon] at h ⊢
   case value=>exact h
   case skip=>exact h
   case defer=>exact h
   case row=>exact h
   case enter =>
    refine Calls.mono h fun e Jz he => ?_
    cases e
    ·exact he
    ·exact hq _ _ _ (by simp) he
    ·exact hl he
 | halt x w' =>
   cases x<;>simp only [Oper.upon] at h ⊢
   exact hq _ _ _ (by simp) h
theorem xa {i:Nat} {o:Oper} {a:Act} {Q1:Exit→Act→World→Prop} {K:Act→World→Prop} (hi:ops[i]?=some o) (hq:∀ e a w,e ≠ .normal→Q1 e a w→NoPanic Q e a w) (hl:LetsOut Q1→LetsOut (NoPanic Q)) (conv:∀ a' w',Q1 .normal a' w'→K a' w') (hs:wpList P ops Q1 [o] a w) : wpOp P ops (NoPanic Q) i K a w:=by
 simp only [wpList] at hs;unfold wpOp;simp only [hi];by_cases hw:Region.wanted o (yielded ops a.tmps)=true
 ·rw [if_pos hw] at hs ⊢;rcases hs with hs|⟨h1,h2⟩
  ·exact .inl (Oper.wp_mono conv (Oper.FC hq hl hs))
  ·exact .inr ⟨h1,hl h2⟩
 ·rw [if_neg hw] at hs ⊢;exact conv _ _ hs
theorem SF.one (i:Nat) {o:Oper} (hi:ops[i]?=some o) (hr:Region.ready .any ops listed=[i]) (hw:(!Nat.beq i fO && !Nat.beq i fin)=true) (h:SW P n ops (.fB (LV P n ops Q fin fO S2 f (listed.setIfInBounds i true) w)) [o] L w) : SF P n ops Q fin fO S2 (f+1) listed L w :=
 ⟨fun a ha inv=>⟨by rw [hr];simp,fun j hj=>by
  obtain ⟨n1,n2⟩:=JE hw;have j5:j=i:=by rw [hr] at hj;simpa using hj
  subst j5;have gR:j<ops.size:=(Array.getElem?_eq_some_iff.1 hi).1
  refine ⟨gR,xa (Q1:=LV P n ops Q fin fO S2 f (listed.setIfInBounds j true) w) hi (fun e a w ne h=>by cases e<;>first|exact h|exact absurd rfl ne) (fun h=>h) (fun a' w' hh=>⟨fun e=>absurd e n1,fun _ e=>absurd e n2,fun _ _=>⟨hh.1,uC f (fun Jz LR=>Ext.trans hh.1 LR) _ _ _ (hh.2 (inv.set hj gR))⟩⟩) (h.out a ha)⟩⟩⟩
theorem ae.sf {l:Array Bool} {w0:World} (hx:Ext w0 w) (h:SF P n ops Q fin fO S2 f l L w) : ae n (LV P n ops Q fin fO S2 f l w0) .normal L w:=⟨fun a ha=>⟨hx,h.out a ha⟩⟩
theorem SF.turn {o:Oper} (hi:ops[fin]?=some o) (hr:Region.ready .any ops listed=[fin]) (hw:Nat.beq fin fO=false) (h:SW P n ops (.fB (JD P n ops Q fin fO S2 f (listed.setIfInBounds fin true))) [o] L w) : SF P n ops Q fin fO S2 (f+1) listed L w :=
 ⟨fun a ha inv=>⟨by rw [hr];simp,fun j hj=>by
  have j5:j=fin:=by rw [hr] at hj;simpa using hj
  have n1:j≠fO:=fun e=>by rw [← j5,e] at hw;simp at hw
  subst j5;have gR:j<ops.size:=(Array.getElem?_eq_some_iff.1 hi).1
  exact ⟨gR,xa (Q1:=JD P n ops Q j fO S2 f (listed.setIfInBounds j true)) hi (fun e a w ne h=>by cases e<;>first|exact h|exact absurd rfl ne) (fun h=>h) (fun a' w' hh=>⟨fun e=>absurd e n1,fun _ _=>⟨hh.1,hh.2 (inv.set hj gR)⟩,fun _ n2=>absurd rfl n2⟩) (h.out a ha)⟩⟩⟩
theorem ae.sg {l:Array Bool} (hx:S2 w) (h:SG P n ops Q fin fO S2 f l L w) : ae n (JD P n ops Q fin fO S2 f l) .normal L w:=⟨fun a ha=>⟨hx,h.out a ha⟩⟩
theorem SG.one (i:Nat) {o:Oper} (hi:ops[i]?=some o) (hr:Region.ready .any ops listed=[i]) (hw:(!Nat.beq i fO && !Nat.beq i fin)=true) (h:SW P n ops (.fB (JD P n ops Q fin fO S2 f (listed.setIfInBounds i true))) [o] L w) : SG P n ops Q fin fO S2 (f+1) listed L w :=
 ⟨fun a ha inv=>⟨by rw [hr];simp,fun j hj=>by
  obtain ⟨n1,n2⟩:=JE hw;have j5:j=i:=by rw [hr] at hj;simpa using hj
  subst j5;have gR:j<ops.size:=(Array.getElem?_eq_some_iff.1 hi).1
  exact ⟨gR,xa (Q1:=JD P n ops Q fin fO S2 f (listed.setIfInBounds j true)) hi (fun e a w ne h=>by cases e<;>first|exact h|exact absurd rfl ne) (fun h=>h) (fun a' w' hh=>⟨fun e=>absurd e n1,fun _ e=>absurd e n2,fun _ _=>⟨hh.1,hh.2 (inv.set hj gR)⟩⟩) (h.out a ha)⟩⟩⟩
theorem SF.last {o:Oper} (hi:ops[fO]?=some o) (hr:Region.ready .any ops listed=[fO]) (he:Region.ready .any ops (listed.setIfInBounds fO true)=[]) (h:SW P n ops (.fB (NoPanic Q)) [o] L w) : SF P n ops Q fin fO S2 1 listed L w :=
 ⟨fun a ha inv=>⟨by rw [hr];simp,fun j hj=>by
  have j5:j=fO:=by rw [hr] at hj;simpa using hj
  subst j5;exact ⟨(Array.getElem?_eq_some_iff.1 hi).1,xa (Q1:=NoPanic Q) hi (fun _ _ _ _ h=>h) (fun h=>h) (fun a' w' hh=>⟨fun _=>⟨he,hh⟩,fun n=>absurd rfl n,fun n=>absurd rfl n⟩) (h.out a ha)⟩⟩⟩
theorem SG.last {o:Oper} (hi:ops[fO]?=some o) (hr:Region.ready .any ops listed=[fO]) (he:Region.ready .any ops (listed.setIfInBounds fO true)=[]) (h:SW P n ops (.fB (NoPanic Q)) [o] L w) : SG P n ops Q fin fO S2 1 listed L w :=
 ⟨fun a ha inv=>⟨by rw [hr];simp,fun j hj=>by
  have j5:j=fO:=by rw [hr] at hj;simpa using hj
  subst j5;exact ⟨(Array.getElem?_eq_some_iff.1 hi).1,xa (Q1:=NoPanic Q) hi (fun _ _ _ _ h=>h) (fun h=>h) (fun a' w' hh=>⟨fun _=>⟨he,hh⟩,fun n=>absurd rfl n,fun n=>absurd rfl n⟩) (h.out a ha)⟩⟩⟩
theorem CW.l9 {id:Nat} {l:List Oper} (fin fO:Nat) (S2:World→Prop) (hm:P.follows .mixedOrders=true) (hB:Region.noSelect l.toArray=true) (h:∀ w',Ext w w'→Region.noSelect l.toArray=true→SF P n l.toArray Q fin fO S2 l.length (Array.replicate l.length false) L w') : CW P n (.region id l.toArray true) Q L w :=
 ⟨fun a ha=>by
  refine wp_region_noPanic (wp_region_any hm ?_);have h0:=(h _ (Ext.drew w) hB).out a ha ⟨by simp,fun j oj _ hl=>(by rw [getD_replicate_false] at hl;cases hl),fun t h1 h2=>absurd h2 (Nat.not_lt.2 h1)⟩;have:=j6 _ _ _ _ h0
  simpa using this⟩
end
end Go.Proofs.YtbidkghlpijecaaGreatDoor
/-
  Plain steps in one: as Ro as Pm go; what is left is the Pn that Wz (Ws, Wa, Wf) takes. No program in NR.
-/
namespace Go.Proofs.YtbidkghlpijecaaGreatDoor
open Go.RowKit

structure Dh (T : Prop) : Prop where
  out : T
section
variable {P : Program} {n : Nat} {ops : Array Oper} {L : Env} {w : World} {d : Option Nat} {T : TypeId} {pos : String} {af : Array Edge} {g : Option (Nat × Bool)}
theorem sh {t : TypeId} [fP P t] {x : Operand} {b i : Nat} {tb : TypeId} {cs : List Value} {v : Value} (hx : bF L x = some (.pointer (some ⟨b, i, none⟩))) (h : aT w b tb cs ∧ cs[i]? = some v := by (apply And.intro; assumption; rfl)) : St P ⟨d, .load t x, T, pos, af, g⟩ L w v :=
  ax hx (by have := h.1.cell h.2; rwa [cn] at this)
theorem pO {t : TypeId} {m : Nat} [c : dZ P t m] {x : Operand} {b : Nat} {tb : TypeId} {cs : List Value} (hx : bF L x = some (.pointer (some ⟨b, 0, none⟩))) (h : aT w b tb cs ∧ cs.length = m := by (apply And.intro; assumption; rfl)) : St P ⟨d, .load t x, T, pos, af, g⟩ L w (.agg cs.toArray) :=
  ay hx h.2 fun _ _ hv => h.1.cell hv
def NS (ops : Array Oper) (k i : Nat) : List Nat := bif eD ops k [] i then [] else (((List.range ops.size).find? fun j => eD ops k [j] i).map fun j => [j]).getD ((((List.range ops.size).flatMap fun j => (List.range ops.size).map fun m => [j, m]).find? fun p => eD ops k p i).getD [])
theorem SF.dR {Q : Exit → Act → World → Prop} {fin fO f : Nat} {S2 : World → Prop} {listed : Array Bool} (i : Nat) {o : Oper} (hB : Region.noSelect ops = true) (hi : ops[i]? = some o) (hf : Region.free .any ops listed i = true) (hr : (Region.ready .any ops listed).contains i = true) (hw : ((eD ops fin (NS ops fin i) i && eD ops fO (NS ops fO i) i) && (!Nat.beq i fO && !Nat.beq i fin)) = true)
    (h : SW P n ops (.tk fun L' => SF P n ops Q fin fO S2 f (listed.setIfInBounds i true) L' w) [o] L w) : SF P n ops Q fin fO S2 (f + 1) listed L w := SF.take i _ _ hB hi hf hr hw h
end
theorem Wz {g T : Prop} (h : T) (hg : Dh T → g := by
    intro h
    (first
      | (show CW _ _ _ _ _ _; first | refine CW.seq ?_ | refine CW.region ?_ | refine CW.block ?_ | refine CW.vA rfl (by with_reducible rfl) ?_ | refine CW.vB rfl (by with_reducible rfl) ?_ | refine CW.rr rfl (by omega) ?_ | refine CW.ru rfl (by omega) ?_ | refine CW.rv rfl (by omega) ?_ | refine CW.ry rfl (by omega) ?_ | refine CW.skip ?_ | refine CW.ret ?_ | refine CW.exit ?_)
      | (show ae _ _ _ _ _; first | refine ae.seq ?_ | refine ae.rq ?_ | refine ae.oC ?_ | refine ae.hit ?_ | refine ae.pass rfl ?_ | refine ae.cU ?_ | refine ae.rz ?_ | refine ae.lg ?_ | refine ae.ng ?_ | refine ae.np ?_)
      | refine SW.nil ?_
      | (show SW _ _ _ _ (⟨_, _, _, _, _, some _⟩ :: _) _ _; first | refine SW.rT rfl rfl (by with_reducible rfl) ?_ | refine SW.rU rfl rfl (by with_reducible rfl) ?_ | refine SW.rV rfl rfl (by with_reducible rfl) rfl ?_ | refine SW.rW rfl rfl (by with_reducible rfl) rfl ?_ | refine SW.rX rfl rfl (by with_reducible rfl) rfl ?_ | refine SW.mq rfl rfl rfl (by omega) ?_ | refine SW.mr rfl rfl rfl (by omega) ?_ | refine SW.ms rfl rfl rfl (by omega) ?_ | refine SW.mu rfl rfl rfl (by omega) ?_)
      | refine SW.pure rfl rfl ?_
      | (show SW _ _ _ _ (⟨_, Op.fieldAddr _ _ _, _, _, _, none⟩ :: _) _ _; refine SW.st (br rfl) rfl ?_)
      | (show SW _ _ _ _ (⟨_, Op.nilCheck _, _, _, _, none⟩ :: _) _ _; refine SW.st (bd rfl) rfl ?_)
      | (show SW _ _ _ _ (⟨_, Op.build _ _, _, _, _, none⟩ :: _) _ _; refine SW.st (mA rfl rfl) rfl ?_)
      | (show SW _ _ _ _ (⟨_, Op.binOp _ _ _ _ _, _, _, _, none⟩ :: _) _ _; first | refine SW.st (rZ rfl rfl (by omega) (by omega)) rfl ?_ | refine SW.st (r4 rfl rfl (by omega) (by omega)) rfl ?_ | refine SW.st (r5 rfl rfl (by omega) (by omega)) rfl ?_ | refine SW.st (r6 rfl rfl (by omega) (by omega) (by omega)) rfl ?_ | refine SW.st (r7 rfl rfl (by omega)) rfl ?_)
      | (show SW _ _ _ _ (⟨_, Op.indexAddr _ _ _, _, _, _, none⟩ :: _) _ _; refine SW.st (ca rfl rfl (by assumption) (by omega)) rfl ?_)
      | (show SW _ _ _ _ (⟨_, Op.call ⟨.builtin .len, _, _⟩, _, _, _, none⟩ :: _) _ _; refine SW.st (r8 rfl) rfl ?_)
      | (show SW _ _ _ _ (⟨_, Op.call ⟨.builtin .cap, _, _⟩, _, _, _, none⟩ :: _) _ _; refine SW.st (se rfl) rfl ?_)
      | (show SW _ _ _ _ (⟨_, Op.load _ _, _, _, _, none⟩ :: _) _ _; first | refine SW.st (sh rfl) rfl ?_ | refine SW.st (pO rfl) rfl ?_))
    repeat' (first
      | (show CW _ _ _ _ _ _; first | refine CW.seq ?_ | refine CW.region ?_ | refine CW.block ?_ | refine CW.vA rfl (by with_reducible rfl) ?_ | refine CW.vB rfl (by with_reducible rfl) ?_ | refine CW.rr rfl (by omega) ?_ | refine CW.ru rfl (by omega) ?_ | refine CW.rv rfl (by omega) ?_ | refine CW.ry rfl (by omega) ?_ | refine CW.skip ?_ | refine CW.ret ?_ | refine CW.exit ?_)
      | (show ae _ _ _ _ _; first | refine ae.seq ?_ | refine ae.rq ?_ | refine ae.oC ?_ | refine ae.hit ?_ | refine ae.pass rfl ?_ | refine ae.cU ?_ | refine ae.rz ?_ | refine ae.lg ?_ | refine ae.ng ?_ | refine ae.np ?_)
      | refine SW.nil ?_
      | (show SW _ _ _ _ (⟨_, _, _, _, _, some _⟩ :: _) _ _; first | refine SW.rT rfl rfl (by with_reducible rfl) ?_ | refine SW.rU rfl rfl (by with_reducible rfl) ?_ | refine SW.rV rfl rfl (by with_reducible rfl) rfl ?_ | refine SW.rW rfl rfl (by with_reducible rfl) rfl ?_ | refine SW.rX rfl rfl (by with_reducible rfl) rfl ?_ | refine SW.mq rfl rfl rfl (by omega) ?_ | refine SW.mr rfl rfl rfl (by omega) ?_ | refine SW.ms rfl rfl rfl (by omega) ?_ | refine SW.mu rfl rfl rfl (by omega) ?_)
      | refine SW.pure rfl rfl ?_
      | (show SW _ _ _ _ (⟨_, Op.fieldAddr _ _ _, _, _, _, none⟩ :: _) _ _; refine SW.st (br rfl) rfl ?_)
      | (show SW _ _ _ _ (⟨_, Op.nilCheck _, _, _, _, none⟩ :: _) _ _; refine SW.st (bd rfl) rfl ?_)
      | (show SW _ _ _ _ (⟨_, Op.build _ _, _, _, _, none⟩ :: _) _ _; refine SW.st (mA rfl rfl) rfl ?_)
      | (show SW _ _ _ _ (⟨_, Op.binOp _ _ _ _ _, _, _, _, none⟩ :: _) _ _; first | refine SW.st (rZ rfl rfl (by omega) (by omega)) rfl ?_ | refine SW.st (r4 rfl rfl (by omega) (by omega)) rfl ?_ | refine SW.st (r5 rfl rfl (by omega) (by omega)) rfl ?_ | refine SW.st (r6 rfl rfl (by omega) (by omega) (by omega)) rfl ?_ | refine SW.st (r7 rfl rfl (by omega)) rfl ?_)
      | (show SW _ _ _ _ (⟨_, Op.indexAddr _ _ _, _, _, _, none⟩ :: _) _ _; refine SW.st (ca rfl rfl (by assumption) (by omega)) rfl ?_)
      | (show SW _ _ _ _ (⟨_, Op.call ⟨.builtin .len, _, _⟩, _, _, _, none⟩ :: _) _ _; refine SW.st (r8 rfl) rfl ?_)
      | (show SW _ _ _ _ (⟨_, Op.call ⟨.builtin .cap, _, _⟩, _, _, _, none⟩ :: _) _ _; refine SW.st (se rfl) rfl ?_)
      | (show SW _ _ _ _ (⟨_, Op.load _ _, _, _, _, none⟩ :: _) _ _; first | refine SW.st (sh rfl) rfl ?_ | refine SW.st (pO rfl) rfl ?_)
      | exact h.out)) : g := hg ⟨h⟩

theorem Ws {g T : Prop} (h : T) (hg : Dh T → g := by
    intro h
    repeat' (first
      | (show SW _ _ _ _ (⟨_, _, _, _, _, some _⟩ :: _) _ _; first | refine SW.rT rfl rfl (by with_reducible rfl) ?_ | refine SW.rU rfl rfl (by with_reducible rfl) ?_ | refine SW.rV rfl rfl (by with_reducible rfl) rfl ?_ | refine SW.rW rfl rfl (by with_reducible rfl) rfl ?_ | refine SW.rX rfl rfl (by with_reducible rfl) rfl ?_ | refine SW.mq rfl rfl rfl (by omega) ?_ | refine SW.mr rfl rfl rfl (by omega) ?_ | refine SW.ms rfl rfl rfl (by omega) ?_ | refine SW.mu rfl rfl rfl (by omega) ?_)
      | refine SW.pure rfl rfl ?_
      | (show SW _ _ _ _ (⟨_, Op.fieldAddr _ _ _, _, _, _, none⟩ :: _) _ _; refine SW.st (br rfl) rfl ?_)
      | (show SW _ _ _ _ (⟨_, Op.nilCheck _, _, _, _, none⟩ :: _) _ _; refine SW.st (bd rfl) rfl ?_)
      | (show SW _ _ _ _ (⟨_, Op.build _ _, _, _, _, none⟩ :: _) _ _; refine SW.st (mA rfl rfl) rfl ?_)
      | (show SW _ _ _ _ (⟨_, Op.binOp _ _ _ _ _, _, _, _, none⟩ :: _) _ _; first | refine SW.st (rZ rfl rfl (by omega) (by omega)) rfl ?_ | refine SW.st (r4 rfl rfl (by omega) (by omega)) rfl ?_ | refine SW.st (r5 rfl rfl (by omega) (by omega)) rfl ?_ | refine SW.st (r6 rfl rfl (by omega) (by omega) (by omega)) rfl ?_ | refine SW.st (r7 rfl rfl (by omega)) rfl ?_)
      | (show SW _ _ _ _ (⟨_, Op.indexAddr _ _ _, _, _, _, none⟩ :: _) _ _; refine SW.st (ca rfl rfl (by assumption) (by omega)) rfl ?_)
      | (show SW _ _ _ _ (⟨_, Op.call ⟨.builtin .len, _, _⟩, _, _, _, none⟩ :: _) _ _; refine SW.st (r8 rfl) rfl ?_)
      | (show SW _ _ _ _ (⟨_, Op.call ⟨.builtin .cap, _, _⟩, _, _, _, none⟩ :: _) _ _; refine SW.st (se rfl) rfl ?_)
      | (show SW _ _ _ _ (⟨_, Op.load _ _, _, _, _, none⟩ :: _) _ _; first | refine SW.st (sh rfl) rfl ?_ | refine SW.st (pO rfl) rfl ?_)
      | exact h.out)) : g := hg ⟨h⟩

theorem Wa {g T : Prop} (h : T) (hg : Dh T → g := by
    intro h
    repeat' (first
      | (refine SA.take 0 (by assumption) rfl (by decide +kernel) (by decide +kernel) rfl ?_; refine Ws ?_; refine SW.ar ?_)
      | (refine SA.take 1 (by assumption) rfl (by decide +kernel) (by decide +kernel) rfl ?_; refine Ws ?_; refine SW.ar ?_)
      | (refine SA.take 2 (by assumption) rfl (by decide +kernel) (by decide +kernel) rfl ?_; refine Ws ?_; refine SW.ar ?_)
      | (refine SA.take 3 (by assumption) rfl (by decide +kernel) (by decide +kernel) rfl ?_; refine Ws ?_; refine SW.ar ?_)
      | (refine SA.take 4 (by assumption) rfl (by decide +kernel) (by decide +kernel) rfl ?_; refine Ws ?_; refine SW.ar ?_)
      | (refine SA.take 5 (by assumption) rfl (by decide +kernel) (by decide +kernel) rfl ?_; refine Ws ?_; refine SW.ar ?_)
      | (refine SA.take 6 (by assumption) rfl (by decide +kernel) (by decide +kernel) rfl ?_; refine Ws ?_; refine SW.ar ?_)
      | (refine SA.take 7 (by assumption) rfl (by decide +kernel) (by decide +kernel) rfl ?_; refine Ws ?_; refine SW.ar ?_)
      | (refine SA.take 8 (by assumption) rfl (by decide +kernel) (by decide +kernel) rfl ?_; refine Ws ?_; refine SW.ar ?_)
      | (refine SA.take 9 (by assumption) rfl (by decide +kernel) (by decide +kernel) rfl ?_; refine Ws ?_; refine SW.ar ?_)
      | (refine SA.take 10 (by assumption) rfl (by decide +kernel) (by decide +kernel) rfl ?_; refine Ws ?_; refine SW.ar ?_)
      | (refine SA.take 11 (by assumption) rfl (by decide +kernel) (by decide +kernel) rfl ?_; refine Ws ?_; refine SW.ar ?_)
      | (refine SA.take 12 (by assumption) rfl (by decide +kernel) (by decide +kernel) rfl ?_; refine Ws ?_; refine SW.ar ?_)
      | (refine SA.take 13 (by assumption) rfl (by decide +kernel) (by decide +kernel) rfl ?_; refine Ws ?_; refine SW.ar ?_)
      | (refine SA.take 14 (by assumption) rfl (by decide +kernel) (by decide +kernel) rfl ?_; refine Ws ?_; refine SW.ar ?_)
      | (refine SA.take 15 (by assumption) rfl (by decide +kernel) (by decide +kernel) rfl ?_; refine Ws ?_; refine SW.ar ?_)
      | (refine SA.take 16 (by assumption) rfl (by decide +kernel) (by decide +kernel) rfl ?_; refine Ws ?_; refine SW.ar ?_)
      | (refine SA.take 17 (by assumption) rfl (by decide +kernel) (by decide +kernel) rfl ?_; refine Ws ?_; refine SW.ar ?_)
      | (refine SA.take 18 (by assumption) rfl (by decide +kernel) (by decide +kernel) rfl ?_; refine Ws ?_; refine SW.ar ?_)
      | (refine SA.take 19 (by assumption) rfl (by decide +kernel) (by decide +kernel) rfl ?_; refine Ws ?_; refine SW.ar ?_)
      | (refine SA.take 20 (by assumption) rfl (by decide +kernel) (by decide +kernel) rfl ?_; refine Ws ?_; refine SW.ar ?_)
      | (refine SA.take 21 (by assumption) rfl (by decide +kernel) (by decide +kernel) rfl ?_; refine Ws ?_; refine SW.ar ?_)
      | (refine SA.take 22 (by assumption) rfl (by decide +kernel) (by decide +kernel) rfl ?_; refine Ws ?_; refine SW.ar ?_)
      | (refine SA.take 23 (by assumption) rfl (by decide +kernel) (by decide +kernel) rfl ?_; refine Ws ?_; refine SW.ar ?_)
      | (refine SA.take 24 (by assumption) rfl (by decide +kernel) (by decide +kernel) rfl ?_; refine Ws ?_; refine SW.ar ?_)
      | (refine SA.take 25 (by assumption) rfl (by decide +kernel) (by decide +kernel) rfl ?_; refine Ws ?_; refine SW.ar ?_)
      | (refine SA.take 26 (by assumption) rfl (by decide +kernel) (by decide +kernel) rfl ?_; refine Ws ?_; refine SW.ar ?_)
      | (refine SA.take 27 (by assumption) rfl (by decide +kernel) (by decide +kernel) rfl ?_; refine Ws ?_; refine SW.ar ?_)
      | (refine SA.take 28 (by assumption) rfl (by decide +kernel) (by decide +kernel) rfl ?_; refine Ws ?_; refine SW.ar ?_)
      | (refine SA.take 29 (by assumption) rfl (by decide +kernel) (by decide +kernel) rfl ?_; refine Ws ?_; refine SW.ar ?_)
      | exact h.out)) : g := hg ⟨h⟩

theorem Wf {g T : Prop} (h : T) (hg : Dh T → g := by
    intro h
    repeat' (first
      | (refine SF.dR 0 (by assumption) rfl (by decide +kernel) (by decide +kernel) (by decide +kernel) ?_; refine Ws ?_; refine SW.ar ?_)
      | (refine SF.dR 1 (by assumption) rfl (by decide +kernel) (by decide +kernel) (by decide +kernel) ?_; refine Ws ?_; refine SW.ar ?_)
      | (refine SF.dR 2 (by assumption) rfl (by decide +kernel) (by decide +kernel) (by decide +kernel) ?_; refine Ws ?_; refine SW.ar ?_)
      | (refine SF.dR 3 (by assumption) rfl (by decide +kernel) (by decide +kernel) (by decide +kernel) ?_; refine Ws ?_; refine SW.ar ?_)
      | (refine SF.dR 4 (by assumption) rfl (by decide +kernel) (by decide +kernel) (by decide +kernel) ?_; refine Ws ?_; refine SW.ar ?_)
      | (refine SF.dR 5 (by assumption) rfl (by decide +kernel) (by decide +kernel) (by decide +kernel) ?_; refine Ws ?_; refine SW.ar ?_)
      | (refine SF.dR 6 (by assumption) rfl (by decide +kernel) (by decide +kernel) (by decide +kernel) ?_; refine Ws ?_; refine SW.ar ?_)
      | (refine SF.dR 7 (by assumption) rfl (by decide +kernel) (by decide +kernel) (by decide +kernel) ?_; refine Ws ?_; refine SW.ar ?_)
      | (refine SF.dR 8 (by assumption) rfl (by decide +kernel) (by decide +kernel) (by decide +kernel) ?_; refine Ws ?_; refine SW.ar ?_)
      | (refine SF.dR 9 (by assumption) rfl (by decide +kernel) (by decide +kernel) (by decide +kernel) ?_; refine Ws ?_; refine SW.ar ?_)
      | (refine SF.dR 10 (by assumption) rfl (by decide +kernel) (by decide +kernel) (by decide +kernel) ?_; refine Ws ?_; refine SW.ar ?_)
      | (refine SF.dR 11 (by assumption) rfl (by decide +kernel) (by decide +kernel) (by decide +kernel) ?_; refine Ws ?_; refine SW.ar ?_)
      | (refine SF.dR 12 (by assumption) rfl (by decide +kernel) (by decide +kernel) (by decide +kernel) ?_; refine Ws ?_; refine SW.ar ?_)
      | (refine SF.dR 13 (by assumption) rfl (by decide +kernel) (by decide +kernel) (by decide +kernel) ?_; refine Ws ?_; refine SW.ar ?_)
      | (refine SF.dR 14 (by assumption) rfl (by decide +kernel) (by decide +kernel) (by decide +kernel) ?_; refine Ws ?_; refine SW.ar ?_)
      | (refine SF.dR 15 (by assumption) rfl (by decide +kernel) (by decide +kernel) (by decide +kernel) ?_; refine Ws ?_; refine SW.ar ?_)
      | (refine SF.dR 16 (by assumption) rfl (by decide +kernel) (by decide +kernel) (by decide +kernel) ?_; refine Ws ?_; refine SW.ar ?_)
      | (refine SF.dR 17 (by assumption) rfl (by decide +kernel) (by decide +kernel) (by decide +kernel) ?_; refine Ws ?_; refine SW.ar ?_)
      | (refine SF.dR 18 (by assumption) rfl (by decide +kernel) (by decide +kernel) (by decide +kernel) ?_; refine Ws ?_; refine SW.ar ?_)
      | (refine SF.dR 19 (by assumption) rfl (by decide +kernel) (by decide +kernel) (by decide +kernel) ?_; refine Ws ?_; refine SW.ar ?_)
      | (refine SF.dR 20 (by assumption) rfl (by decide +kernel) (by decide +kernel) (by decide +kernel) ?_; refine Ws ?_; refine SW.ar ?_)
      | (refine SF.dR 21 (by assumption) rfl (by decide +kernel) (by decide +kernel) (by decide +kernel) ?_; refine Ws ?_; refine SW.ar ?_)
      | (refine SF.dR 22 (by assumption) rfl (by decide +kernel) (by decide +kernel) (by decide +kernel) ?_; refine Ws ?_; refine SW.ar ?_)
      | (refine SF.dR 23 (by assumption) rfl (by decide +kernel) (by decide +kernel) (by decide +kernel) ?_; refine Ws ?_; refine SW.ar ?_)
      | (refine SF.dR 24 (by assumption) rfl (by decide +kernel) (by decide +kernel) (by decide +kernel) ?_; refine Ws ?_; refine SW.ar ?_)
      | (refine SF.dR 25 (by assumption) rfl (by decide +kernel) (by decide +kernel) (by decide +kernel) ?_; refine Ws ?_; refine SW.ar ?_)
      | (refine SF.dR 26 (by assumption) rfl (by decide +kernel) (by decide +kernel) (by decide +kernel) ?_; refine Ws ?_; refine SW.ar ?_)
      | (refine SF.dR 27 (by assumption) rfl (by decide +kernel) (by decide +kernel) (by decide +kernel) ?_; refine Ws ?_; refine SW.ar ?_)
      | (refine SF.dR 28 (by assumption) rfl (by decide +kernel) (by decide +kernel) (by decide +kernel) ?_; refine Ws ?_; refine SW.ar ?_)
      | (refine SF.dR 29 (by assumption) rfl (by decide +kernel) (by decide +kernel) (by decide +kernel) ?_; refine Ws ?_; refine SW.ar ?_)
      | exact h.out)) : g := hg ⟨h⟩

theorem Wy {g T : Prop} (h : T) (hg : Dh T → g := by
    intro h
    (first
      | (show CW _ _ _ _ _ _; first | refine CW.seq ?_ | refine CW.region ?_ | refine CW.block ?_ | refine CW.vA rfl (by with_reducible rfl) ?_ | refine CW.vB rfl (by with_reducible rfl) ?_ | refine CW.rr rfl (by omega) ?_ | refine CW.ru rfl (by omega) ?_ | refine CW.rv rfl (by omega) ?_ | refine CW.ry rfl (by omega) ?_ | refine CW.skip ?_ | refine CW.ret ?_ | refine CW.exit ?_)
      | (show ae _ _ _ _ _; first | refine ae.seq ?_ | refine ae.rq ?_ | refine ae.oC ?_ | refine ae.hit ?_ | refine ae.pass rfl ?_ | refine ae.cU ?_ | refine ae.rz ?_ | refine ae.lg ?_ | refine ae.ng ?_ | refine ae.np ?_)
      | refine SW.nil ?_
      | (show SW _ _ _ _ (⟨_, _, _, _, _, some _⟩ :: _) _ _; first | refine SW.rT rfl rfl (by with_reducible rfl) ?_ | refine SW.rU rfl rfl (by with_reducible rfl) ?_ | refine SW.rV rfl rfl (by with_reducible rfl) rfl ?_ | refine SW.rW rfl rfl (by with_reducible rfl) rfl ?_ | refine SW.rX rfl rfl (by with_reducible rfl) rfl ?_ | refine SW.mq rfl rfl rfl (by omega) ?_ | refine SW.mr rfl rfl rfl (by omega) ?_ | refine SW.ms rfl rfl rfl (by omega) ?_ | refine SW.mu rfl rfl rfl (by omega) ?_)
      | refine SW.pure rfl rfl ?_
      | (show SW _ _ _ _ (⟨_, Op.fieldAddr _ _ _, _, _, _, none⟩ :: _) _ _; refine SW.st (br rfl) rfl ?_)
      | (show SW _ _ _ _ (⟨_, Op.nilCheck _, _, _, _, none⟩ :: _) _ _; refine SW.st (bd rfl) rfl ?_)
      | (show SW _ _ _ _ (⟨_, Op.build _ _, _, _, _, none⟩ :: _) _ _; refine SW.st (mA rfl rfl) rfl ?_)
      | (show SW _ _ _ _ (⟨_, Op.binOp _ _ _ _ _, _, _, _, none⟩ :: _) _ _; first | refine SW.st (rZ rfl rfl (by omega) (by omega)) rfl ?_ | refine SW.st (r4 rfl rfl (by omega) (by omega)) rfl ?_ | refine SW.st (r5 rfl rfl (by omega) (by omega)) rfl ?_ | refine SW.st (r6 rfl rfl (by omega) (by omega) (by omega)) rfl ?_ | refine SW.st (r7 rfl rfl (by omega)) rfl ?_)
      | (show SW _ _ _ _ (⟨_, Op.indexAddr _ _ _, _, _, _, none⟩ :: _) _ _; refine SW.st (ca rfl rfl (by assumption) (by omega)) rfl ?_)
      | (show SW _ _ _ _ (⟨_, Op.call ⟨.builtin .len, _, _⟩, _, _, _, none⟩ :: _) _ _; refine SW.st (r8 rfl) rfl ?_)
      | (show SW _ _ _ _ (⟨_, Op.call ⟨.builtin .cap, _, _⟩, _, _, _, none⟩ :: _) _ _; refine SW.st (se rfl) rfl ?_))
    repeat' (first
      | (show CW _ _ _ _ _ _; first | refine CW.seq ?_ | refine CW.region ?_ | refine CW.block ?_ | refine CW.vA rfl (by with_reducible rfl) ?_ | refine CW.vB rfl (by with_reducible rfl) ?_ | refine CW.rr rfl (by omega) ?_ | refine CW.ru rfl (by omega) ?_ | refine CW.rv rfl (by omega) ?_ | refine CW.ry rfl (by omega) ?_ | refine CW.skip ?_ | refine CW.ret ?_ | refine CW.exit ?_)
      | (show ae _ _ _ _ _; first | refine ae.seq ?_ | refine ae.rq ?_ | refine ae.oC ?_ | refine ae.hit ?_ | refine ae.pass rfl ?_ | refine ae.cU ?_ | refine ae.rz ?_ | refine ae.lg ?_ | refine ae.ng ?_ | refine ae.np ?_)
      | refine SW.nil ?_
      | (show SW _ _ _ _ (⟨_, _, _, _, _, some _⟩ :: _) _ _; first | refine SW.rT rfl rfl (by with_reducible rfl) ?_ | refine SW.rU rfl rfl (by with_reducible rfl) ?_ | refine SW.rV rfl rfl (by with_reducible rfl) rfl ?_ | refine SW.rW rfl rfl (by with_reducible rfl) rfl ?_ | refine SW.rX rfl rfl (by with_reducible rfl) rfl ?_ | refine SW.mq rfl rfl rfl (by omega) ?_ | refine SW.mr rfl rfl rfl (by omega) ?_ | refine SW.ms rfl rfl rfl (by omega) ?_ | refine SW.mu rfl rfl rfl (by omega) ?_)
      | refine SW.pure rfl rfl ?_
      | (show SW _ _ _ _ (⟨_, Op.fieldAddr _ _ _, _, _, _, none⟩ :: _) _ _; refine SW.st (br rfl) rfl ?_)
      | (show SW _ _ _ _ (⟨_, Op.nilCheck _, _, _, _, none⟩ :: _) _ _; refine SW.st (bd rfl) rfl ?_)
      | (show SW _ _ _ _ (⟨_, Op.build _ _, _, _, _, none⟩ :: _) _ _; refine SW.st (mA rfl rfl) rfl ?_)
      | (show SW _ _ _ _ (⟨_, Op.binOp _ _ _ _ _, _, _, _, none⟩ :: _) _ _; first | refine SW.st (rZ rfl rfl (by omega) (by omega)) rfl ?_ | refine SW.st (r4 rfl rfl (by omega) (by omega)) rfl ?_ | refine SW.st (r5 rfl rfl (by omega) (by omega)) rfl ?_ | refine SW.st (r6 rfl rfl (by omega) (by omega) (by omega)) rfl ?_ | refine SW.st (r7 rfl rfl (by omega)) rfl ?_)
      | (show SW _ _ _ _ (⟨_, Op.indexAddr _ _ _, _, _, _, none⟩ :: _) _ _; refine SW.st (ca rfl rfl (by assumption) (by omega)) rfl ?_)
      | (show SW _ _ _ _ (⟨_, Op.call ⟨.builtin .len, _, _⟩, _, _, _, none⟩ :: _) _ _; refine SW.st (r8 rfl) rfl ?_)
      | (show SW _ _ _ _ (⟨_, Op.call ⟨.builtin .cap, _, _⟩, _, _, _, none⟩ :: _) _ _; refine SW.st (se rfl) rfl ?_)
      | exact h.out)) : g := hg ⟨h⟩
end Go.Proofs.YtbidkghlpijecaaGreatDoor
