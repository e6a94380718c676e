/- Part 1 of what topWords_holds leans on. -/
import Derived.Test.YtohigmjjbgpfmaaGreatDoorPackTopWords0
import Derived.Test.YtohigmjjbgpfmaaGreatDoorChecked
set_option linter.unusedVariables false
set_option linter.unusedSimpArgs false
set_option linter.defProp false
open Go.Proofs.Tryz
namespace Go.Proofs.YtohigmjjbgpfmaaGreatDoor
open Go.RowKit
variable {listed:Array Bool} {af:Array Edge} {Q1 Q2:Exit->Act->World->Prop} {d i k:Nat} {op:Op} {oi:Oper} {T:TypeId} {w0:World}
def xw (P:Program) (ops:Array Oper) (Q:Exit->Act->World->Prop) (fin fr:Nat) (S2:World->Prop) : (World->Prop)->Nat->Array Bool->Act->World->Prop
 | _,0,listed,a,w=>Region.ready .any ops listed=[]∧Q .normal a w
 | S,f+1,listed,a,w=>Region.ready .any ops listed≠[] ∧ ∀ i∈Region.ready .any ops listed,i<ops.size∧wpOp P ops Q i (fun a' w'=>(i=fr->xw P ops Q fin fr S2 (fun _=>True) f (listed.setIfInBounds i true) a' w') ∧
    (i≠fr->i=fin->S2 w'∧xw P ops Q fin fr S2 S2 f (listed.setIfInBounds i true) a' w')∧(i≠fr->i≠fin->S w'∧xw P ops Q fin fr S2 S f (listed.setIfInBounds i true) a' w')) a w
section
variable {P:Program} {ops:Array Oper} {Q:Exit->Act->World->Prop} {fin fr:Nat} {S2:World->Prop}
theorem lT:∀ (f:Nat) {S S':World->Prop} (hS:∀ w,S' w->S w) (listed:Array Bool) (a:Act) (w:World),xw P ops Q fin fr S2 S' f listed a w->xw P ops Q fin fr S2 S f listed a w
 | 0,_,_,_,_,_,_,h=>h
 | f+1,S,S',hS,_,_,_,h=>⟨h.1,fun i hi=>⟨(h.2 i hi).1,wpOp_mono (fun a' w' h'=>⟨h'.1,h'.2.1,fun n1 n2=>⟨hS _ (h'.2.2 n1 n2).1,lT f hS _ a' w' (h'.2.2 n1 n2).2⟩⟩) (h.2 i hi).2⟩⟩
theorem oE:∀ (f:Nat) {S:World->Prop} (listed:Array Bool) (a:Act) (w:World),xw P ops Q fin fr S2 S f listed a w->wpAny P .any ops Q f listed a w
 | 0,_,_,_,_,h=>h
 | f+1,S,listed,a,w,h=>⟨fun h0=>absurd h0 h.1,fun i hi=>wpOp_mono (fun a' w' h'=>by
    by_cases e:i=fr
    ·exact oE f _ a' w' (h'.1 e)
    ·by_cases e2:i=fin
     ·exact oE f _ a' w' (h'.2.1 e e2).2
     ·exact oE f _ a' w' (h'.2.2 e e2).2) (h.2 i hi).2⟩
def fL (ops:Array Oper) (k:Nat) : List Nat->Nat->Bool
 | [],i=>match ops[k]? with
   | some o=>o.after.any fun e=>Region.binds .any e && Nat.beq e.on i
   | none=>false
 | x::r,i=>(match ops[k]? with
   | some o=>o.after.any fun e=>Region.binds .any e && Nat.beq e.on x
   | none=>false) && fL ops x r i
theorem CM (h:(match ops[k]? with|some o=>o.after.any fun e=>Region.binds .any e && Nat.beq e.on i|none=>false)=true) : ∃ o,ops[k]?=some o ∧ ∃ e∈o.after,Region.binds .any e=true∧e.on=i:=by
 cases ho:ops[k]? with
 | none=>rw [ho] at h;cases h
 | some o =>
   rw [ho] at h;simp only [Array.any_eq_true',Bool.and_eq_true] at h;obtain ⟨e,he,hb,hn⟩:=h;exact ⟨o,rfl,e,he,hb,adv hn⟩
theorem tD {n:Nat} (inv:HeadInv .any ops n listed) : ∀ (p:List Nat) (k i:Nat),fL ops k p i=true->listed.getD k false=true->listed.getD i false=true
 | [],k,i,h,hk=>by
   obtain ⟨o,ho,e,he,hb,Qp⟩:=CM h;rw [<- Qp];exact inv.closed k o ho hk e he hb
 | x::r,k,i,h,hk=>by
   simp only [fL,Bool.and_eq_true] at h;obtain ⟨o,ho,e,he,hb,Qp⟩:=CM h.1;exact tD inv r x i h.2 (by rw [<- Qp];exact inv.closed k o ho hk e he hb)
theorem CN {n:Nat} (inv:HeadInv .any ops n listed) {p:List Nat} (h:fL ops k p i=true) (hk:k∈Region.ready .any ops listed) : listed.getD i false=true:=by
 obtain ⟨_,o,ho,fe⟩:=mem_ready.1 hk;cases p with
 | nil =>
   obtain ⟨o',nK,e,he,hb,Qp⟩:=CM h;rw [ho] at nK;cases nK
   rw [<- Qp];exact fe e he hb
 | cons x r =>
   simp only [fL,Bool.and_eq_true] at h;obtain ⟨o',nK,e,he,hb,Qp⟩:=CM h.1;rw [ho] at nK;cases nK
   exact tD inv r x i h.2 (by rw [<- Qp];exact fe e he hb)
theorem qs {T:World->Prop} {v:Value} (hi:ops[i]?=some oi) (F1:∀ (j:Nat) (o:Oper) cs b,ops[j]?=some o->o.op ≠ .select cs b) (I0:i≠fr) (Pq:i≠fin)
 (hQ:∀ c a w,Q (.panic c) (a.put oi.dst v) w->Q (.panic c) a w) (Vc:(∀ w,T w) ∨ ∃ p,fL ops fr p i=true) (yQ:(∀ w,S2 w->T w) ∨ ∃ p,fL ops fin p i=true) :
 ∀ (f:Nat) {S:World->Prop} (SE:∀ w,S w->T w) (listed:Array Bool) (a:Act) (w:World),HeadInv .any ops ops.size listed ->
  (∀ j oj,ops[j]?=some oj->j≠i->listed.getD j true=false->(∀ e∈oj.after,Region.binds .any e=true->e.on≠i)->oi.apart ops oj=true) ->
  i∈Region.ready .any ops listed->YieldsIf P ops T oi v a->S w ->
  xw P ops Q fin fr S2 S f (listed.setIfInBounds i true) (a.put oi.dst v) w->xw P ops Q fin fr S2 S (f+1) listed a w:=by
 intro f;induction f with
 | zero =>
   intro S SE listed a w inv _ hr hy hS H;have FQ:=(mem_ready.1 hr).1;refine ⟨fun h=>(by rw [h] at hr;cases hr),fun j hj => ?_⟩;have pB:j<ops.size:=by obtain ⟨_,o,ho,_⟩:=mem_ready.1 hj;exact (adh.1 ho).1
   refine ⟨pB,?_⟩;by_cases js:j=i
   ·subst js;exact hy.wpOp hi (SE _ hS) ⟨fun e=>absurd e I0,fun _ e=>absurd e Pq,fun _ _=>⟨hS,H⟩⟩
   ·have h0:=ready_mono hj js;rw [H.1] at h0;cases h0
 | succ f ih =>
   intro S SE listed a w inv m7 hr hy hS H;have FQ:=(mem_ready.1 hr).1;refine ⟨fun h=>(by rw [h] at hr;cases hr),fun j hj => ?_⟩;have pB:j<ops.size:=by obtain ⟨_,o,ho,_⟩:=mem_ready.1 hj;exact (adh.1 ho).1
   refine ⟨pB,?_⟩;by_cases js:j=i
   ·subst js;exact hy.wpOp hi (SE _ hS) ⟨fun e=>absurd e I0,fun _ e=>absurd e Pq,fun _ _=>⟨hS,H⟩⟩
   ·have h1:=(H.2 j (ready_mono hj js)).2;obtain ⟨Le,oj,Qn,fe⟩:=mem_ready.1 hj
    have AQ:∀ e∈oj.after,Region.binds .any e=true->e.on≠i:=fun e he hb U9=>by
     have h1:=fe e he hb;rw [U9,getD_both FQ] at h1;cases h1
    have h2:=wpOp_putIf Qn (m7 j oj Qn js Le AQ) (fun cs b=>F1 i oi cs b hi) (fun cs b=>F1 j oj cs b Qn) hQ hy h1
    have yO:∀ k ok,ops[k]?=some ok->k≠i->(listed.setIfInBounds j true).getD k true=false ->
     (∀ e∈ok.after,Region.binds .any e=true->e.on≠i)->oi.apart ops ok=true:=fun k ok hk F2 FQ oD=>by
     refine m7 k ok hk F2 ?_ oD;by_cases mO:j=k
     ·subst mO;exact Le
     ·rw [getD_set_ne true mO] at FQ;exact FQ
    have Lg:=inv.set hj pB
    have no:∀ {k:Nat} {p:List Nat},fL ops k p i=true->j=k->False:=fun {k p} SH e=>by
     subst e;have:=CN inv SH hj
     rw [getD_both FQ] at this;cases this
    refine wpOp_mono (fun a' w' h3=>⟨fun e => ?_,fun n1 e => ?_,fun n1 n2=>⟨(h3.2.2.2 n1 n2).1,ih SE (listed.setIfInBounds j true) a' w' Lg yO (ready_mono hr (Ne.symm js)) h3.1 (h3.2.2.2 n1 n2).1 ?_⟩⟩) h2
    ·rcases Vc with hT|⟨p,SH⟩
     ·refine ih (fun w _=>hT w) (listed.setIfInBounds j true) a' w' Lg yO (ready_mono hr (Ne.symm js)) h3.1 trivial ?_;rw [ael _ _ js];exact h3.2.1 e
     ·exact (no SH e).elim
    ·rcases yQ with hT|⟨p,SH⟩
     ·refine ⟨(h3.2.2.1 n1 e).1,ih hT (listed.setIfInBounds j true) a' w' Lg yO (ready_mono hr (Ne.symm js)) h3.1 (h3.2.2.1 n1 e).1 ?_⟩;rw [ael _ _ js];exact (h3.2.2.1 n1 e).2
     ·exact (no SH e).elim
    ·rw [ael _ _ js];exact (h3.2.2.2 n1 n2).2
end
structure SF (P:Program) (n:Nat) (ops:Array Oper) (Q:Exit->Act->World->Prop) (fin fr:Nat) (S2:World->Prop) (f:Nat) (listed:Array Bool) (L:Env) (w:World) : Prop where
 out:∀ a,Fit n a L->HeadInv .any ops ops.size listed->xw P ops (NoPanic Q) fin fr S2 (Ext w) f listed a w
structure SG (P:Program) (n:Nat) (ops:Array Oper) (Q:Exit->Act->World->Prop) (fin fr:Nat) (S2:World->Prop) (f:Nat) (listed:Array Bool) (L:Env) (w:World) : Prop where
 out:∀ a,Fit n a L->HeadInv .any ops ops.size listed->xw P ops (NoPanic Q) fin fr S2 S2 f listed a w
def I1 (P:Program) (n:Nat) (ops:Array Oper) (Q:Exit->Act->World->Prop) (fin fr:Nat) (S2:World->Prop) (f:Nat) (listed:Array Bool) (w:World) : Exit->Act->World->Prop
 | .normal,a,w'=>Ext w w'∧(HeadInv .any ops ops.size listed->xw P ops (NoPanic Q) fin fr S2 (Ext w') f listed a w')
 | e,a,w'=>NoPanic Q e a w'
def NV (P:Program) (n:Nat) (ops:Array Oper) (Q:Exit->Act->World->Prop) (fin fr:Nat) (S2:World->Prop) (f:Nat) (listed:Array Bool) : Exit->Act->World->Prop
 | .normal,a,w'=>S2 w'∧(HeadInv .any ops ops.size listed->xw P ops (NoPanic Q) fin fr S2 S2 f listed a w')
 | e,a,w'=>NoPanic Q e a w'
section
variable {P:Program} {n:Nat} {ops:Array Oper} {Q:Exit->Act->World->Prop} {fin fr f:Nat} {S2:World->Prop} {listed:Array Bool} {L:Env} {w:World}
theorem KP (h:(!Nat.beq i fr && !Nat.beq i fin)=true) : i≠fr∧i≠fin:=by
 simp only [Bool.and_eq_true,Bool.not_eq_true'] at h;exact ⟨fun e=>by subst e;simp at h,fun e=>by subst e;simp at h⟩
theorem SF.take (i:Nat) (p q:List Nat) {o:Oper} (hB:Region.noSelect ops=true) (hi:ops[i]?=some o) (hf:Region.free .any ops listed i=true) (hr:(Region.ready .any ops listed).contains i=true) (hw:((fL ops fin p i && fL ops fr q i) && (!Nat.beq i fr && !Nat.beq i fin))=true)
 (h:SW P n ops (.tk fun L'=>SF P n ops Q fin fr S2 f (listed.setIfInBounds i true) L' w) [o] L w) : SF P n ops Q fin fr S2 (f+1) listed L w :=
 ⟨fun a ha inv=>by
  have hs:=h.out a ha;rw [adG,adG] at hw;obtain ⟨⟨ai,bt⟩,nL⟩:=hw;obtain ⟨n1,n2⟩:=KP nL;have qf:i∈Region.ready .any ops listed:=by simpa using hr
  have cQ:i<ops.size:=(adh.1 hi).1
  simp only [swp,CE] at hs;by_cases hw:Region.wanted o (yielded ops a.tmps)=true
  ·rw [if_pos hw] at hs;obtain ⟨v,hv,L',FR,hK⟩:=hs;exact qs (T:=Ext w) hi (Region.noSelect_spec hB) n1 n2 (fun _ _ _ h=>(h:False).elim) (.inr ⟨q,bt⟩) (.inr ⟨p,ai⟩) f (fun _ h=>h) listed a w inv (Region.free_spec hi hf) qf (.inl ⟨hw,hv⟩) (Ext.refl w) (hK.out _ FR (inv.set qf cQ))
  ·rw [if_neg hw] at hs;obtain ⟨L',FR,hK⟩:=hs;exact qs (T:=Ext w) hi (Region.noSelect_spec hB) n1 n2 (fun _ _ _ h=>(h:False).elim) (.inr ⟨q,bt⟩) (.inr ⟨p,ai⟩) f (fun _ h=>h) listed a w inv (Region.free_spec hi hf) qf (.inr ⟨by simpa using hw,rfl⟩) (Ext.refl w) (hK.out _ FR (inv.set qf cQ))⟩
theorem SF.cq (i:Nat) (q:List Nat) {pos:String} {v:Value} (hB:Region.noSelect ops=true) (hi:ops[i]?=some ⟨some d,op,T,pos,af,none⟩) (hf:Region.free .any ops listed i=true) (hr:(Region.ready .any ops listed).contains i=true) (hw:(fL ops fr q i && (!Nat.beq i fr && !Nat.beq i fin))=true)
 (h1:St P ⟨some d,op,T,pos,af,none⟩ L w v) (h2:∀ w2,S2 w2->St P ⟨some d,op,T,pos,af,none⟩ L w2 v) (hn:Nat.blt d n=true) (h:SF P n ops Q fin fr S2 f (listed.setIfInBounds i true) ((d,v)::L) w) : SF P n ops Q fin fr S2 (f+1) listed L w :=
 ⟨fun a ha inv=>by
  rw [adG] at hw;obtain ⟨ai,nL⟩:=hw;obtain ⟨n1,n2⟩:=KP nL;have qf:i∈Region.ready .any ops listed:=by simpa using hr
  have cQ:i<ops.size:=(adh.1 hi).1
  exact qs (T:=fun w'=>Ext w w'∨S2 w') hi (Region.noSelect_spec hB) n1 n2 (fun _ _ _ h=>(h:False).elim) (.inr ⟨q,ai⟩) (.inl fun _ => .inr) f (fun _ => .inl) listed a w inv (Region.free_spec hi hf) qf (v:=v)
   (.inl ⟨by simp [Region.wanted],fun w' hh=>by rcases hh with hh|hh;exact h1.out n a ha w' hh;exact (h2 w' hh).out n a ha w' (Ext.refl w')⟩) (Ext.refl w) (h.out _ (ha.put hn v) (inv.set qf cQ))⟩
theorem SF.Br (i:Nat) {pos:String} {v:Value} (hB:Region.noSelect ops=true) (hi:ops[i]?=some ⟨some d,op,T,pos,af,none⟩) (hf:Region.free .any ops listed i=true) (hr:(Region.ready .any ops listed).contains i=true) (hw:(!Nat.beq i fr && !Nat.beq i fin)=true)
 (h1:∀ w2,St P ⟨some d,op,T,pos,af,none⟩ L w2 v) (hn:Nat.blt d n=true) (h:SF P n ops Q fin fr S2 f (listed.setIfInBounds i true) ((d,v)::L) w) : SF P n ops Q fin fr S2 (f+1) listed L w :=
 ⟨fun a ha inv=>by
  obtain ⟨n1,n2⟩:=KP hw;have qf:i∈Region.ready .any ops listed:=by simpa using hr
  have cQ:i<ops.size:=(adh.1 hi).1
  exact qs (T:=fun _=>True) hi (Region.noSelect_spec hB) n1 n2 (fun _ _ _ h=>(h:False).elim) (.inl fun _=>trivial) (.inl fun _ _=>trivial) f (fun _ _=>trivial) listed a w inv (Region.free_spec hi hf) qf (v:=v)
   (.inl ⟨by simp [Region.wanted],fun w' _=>(h1 w').out n a ha w' (Ext.refl w')⟩) (Ext.refl w) (h.out _ (ha.put hn v) (inv.set qf cQ))⟩
theorem Oper.NW {o:Oper} {a:Act} {N:Act->World->Prop} (hq:∀ e a w,e ≠ .normal->Q1 e a w->Q2 e a w) (hl:LetsOut Q1->LetsOut Q2) (h:o.wp P a w N Q1) : o.wp P a w N Q2:=by
 unfold Oper.wp at *;generalize (execOp a.eval o).run P w=r at *
 cases r with
 | ok x w' =>
   cases x<;>simp only [Oper.upon] at h ⊢
   case value=>exact h
   case skip=>exact h
   case defer=>exact h
   case row=>exact h
   case enter =>
    refine Calls.mono h fun e NA he => ?_
    cases e
    ·exact he
    ·exact hq _ _ _ (by simp) he
    ·exact hl he
 | halt x w' =>
   cases x<;>simp only [Oper.upon] at h ⊢
   exact hq _ _ _ (by simp) h
theorem rj {o:Oper} {a:Act} {K:Act->World->Prop} (hi:ops[i]?=some o) (hq:∀ e a w,e ≠ .normal->Q1 e a w->NoPanic Q e a w) (hl:LetsOut Q1->LetsOut (NoPanic Q)) (conv:∀ a' w',Q1 .normal a' w'->K a' w') (hs:wpList P ops Q1 [o] a w) : wpOp P ops (NoPanic Q) i K a w:=by
 simp only [wpList] at hs;unfold wpOp;simp only [hi];by_cases hw:Region.wanted o (yielded ops a.tmps)=true
 ·rw [if_pos hw] at hs ⊢;rcases hs with hs|⟨h1,h2⟩
  ·exact .inl (Oper.wp_mono conv (Oper.NW hq hl hs))
  ·exact .inr ⟨h1,hl h2⟩
 ·rw [if_neg hw] at hs ⊢;exact conv _ _ hs
theorem SF.one (i:Nat) {o:Oper} (hi:ops[i]?=some o) (hr:Region.ready .any ops listed=[i]) (hw:(!Nat.beq i fr && !Nat.beq i fin)=true) (h:SW P n ops (.gL (I1 P n ops Q fin fr S2 f (listed.setIfInBounds i true) w)) [o] L w) : SF P n ops Q fin fr S2 (f+1) listed L w :=
 ⟨fun a ha inv=>⟨by rw [hr];simp,fun j hj=>by
  obtain ⟨n1,n2⟩:=KP hw;have js:j=i:=by rw [hr] at hj;simpa using hj
  subst js;have cQ:j<ops.size:=(adh.1 hi).1
  refine ⟨cQ,rj (Q1:=I1 P n ops Q fin fr S2 f (listed.setIfInBounds j true) w) hi (fun e a w ne h=>by cases e<;>first|exact h|exact absurd rfl ne) (fun h=>h) (fun a' w' hh=>⟨fun e=>absurd e n1,fun _ e=>absurd e n2,fun _ _=>⟨hh.1,lT f (fun NA F3=>Ext.trans hh.1 F3) _ _ _ (hh.2 (inv.set hj cQ))⟩⟩) (h.out a ha)⟩⟩⟩
theorem ae.sf {l:Array Bool} (hx:Ext w0 w) (h:SF P n ops Q fin fr S2 f l L w) : ae n (I1 P n ops Q fin fr S2 f l w0) .normal L w:=⟨fun a ha=>⟨hx,h.out a ha⟩⟩
theorem SF.turn {o:Oper} (hi:ops[fin]?=some o) (hr:Region.ready .any ops listed=[fin]) (hw:Nat.beq fin fr=false) (h:SW P n ops (.gL (NV P n ops Q fin fr S2 f (listed.setIfInBounds fin true))) [o] L w) : SF P n ops Q fin fr S2 (f+1) listed L w :=
 ⟨fun a ha inv=>⟨by rw [hr];simp,fun j hj=>by
  have js:j=fin:=by rw [hr] at hj;simpa using hj
  have n1:j≠fr:=fun e=>by rw [<- js,e] at hw;simp at hw
  subst js;have cQ:j<ops.size:=(adh.1 hi).1
  exact ⟨cQ,rj (Q1:=NV P n ops Q j fr S2 f (listed.setIfInBounds j true)) hi (fun e a w ne h=>by cases e<;>first|exact h|exact absurd rfl ne) (fun h=>h) (fun a' w' hh=>⟨fun e=>absurd e n1,fun _ _=>⟨hh.1,hh.2 (inv.set hj cQ)⟩,fun _ n2=>absurd rfl n2⟩) (h.out a ha)⟩⟩⟩
theorem ae.sg {l:Array Bool} (hx:S2 w) (h:SG P n ops Q fin fr S2 f l L w) : ae n (NV P n ops Q fin fr S2 f l) .normal L w:=⟨fun a ha=>⟨hx,h.out a ha⟩⟩
theorem SG.one (i:Nat) {o:Oper} (hi:ops[i]?=some o) (hr:Region.ready .any ops listed=[i]) (hw:(!Nat.beq i fr && !Nat.beq i fin)=true) (h:SW P n ops (.gL (NV P n ops Q fin fr S2 f (listed.setIfInBounds i true))) [o] L w) : SG P n ops Q fin fr S2 (f+1) listed L w :=
 ⟨fun a ha inv=>⟨by rw [hr];simp,fun j hj=>by
  obtain ⟨n1,n2⟩:=KP hw;have js:j=i:=by rw [hr] at hj;simpa using hj
  subst js;have cQ:j<ops.size:=(adh.1 hi).1
  exact ⟨cQ,rj (Q1:=NV P n ops Q fin fr S2 f (listed.setIfInBounds j true)) hi (fun e a w ne h=>by cases e<;>first|exact h|exact absurd rfl ne) (fun h=>h) (fun a' w' hh=>⟨fun e=>absurd e n1,fun _ e=>absurd e n2,fun _ _=>⟨hh.1,hh.2 (inv.set hj cQ)⟩⟩) (h.out a ha)⟩⟩⟩
theorem SF.last {o:Oper} (hi:ops[fr]?=some o) (hr:Region.ready .any ops listed=[fr]) (he:Region.ready .any ops (listed.setIfInBounds fr true)=[]) (h:SW P n ops (.gL (NoPanic Q)) [o] L w) : SF P n ops Q fin fr S2 1 listed L w :=
 ⟨fun a ha inv=>⟨by rw [hr];simp,fun j hj=>by
  have js:j=fr:=by rw [hr] at hj;simpa using hj
  subst js;exact ⟨(adh.1 hi).1,rj (Q1:=NoPanic Q) hi (fun _ _ _ _ h=>h) (fun h=>h) (fun a' w' hh=>⟨fun _=>⟨he,hh⟩,fun n=>absurd rfl n,fun n=>absurd rfl n⟩) (h.out a ha)⟩⟩⟩
theorem SG.last {o:Oper} (hi:ops[fr]?=some o) (hr:Region.ready .any ops listed=[fr]) (he:Region.ready .any ops (listed.setIfInBounds fr true)=[]) (h:SW P n ops (.gL (NoPanic Q)) [o] L w) : SG P n ops Q fin fr S2 1 listed L w :=
 ⟨fun a ha inv=>⟨by rw [hr];simp,fun j hj=>by
  have js:j=fr:=by rw [hr] at hj;simpa using hj
  subst js;exact ⟨(adh.1 hi).1,rj (Q1:=NoPanic Q) hi (fun _ _ _ _ h=>h) (fun h=>h) (fun a' w' hh=>⟨fun _=>⟨he,hh⟩,fun n=>absurd rfl n,fun n=>absurd rfl n⟩) (h.out a ha)⟩⟩⟩
theorem CW.gl {id:Nat} {l:List Oper} (fin fr:Nat) (S2:World->Prop) (hm:P.follows .mixedOrders=true) (hB:Region.noSelect l.toArray=true) (h:∀ w',Ext w w'->Region.noSelect l.toArray=true->SF P n l.toArray Q fin fr S2 l.length (Array.replicate l.length false) L w') : CW P n (.region id l.toArray true) Q L w :=
 ⟨fun a ha=>by
  refine wp_region_noPanic (wp_region_any hm ?_);have h0:=(h _ (Ext.drew w) hB).out a ha ⟨by simp,fun j oj _ hl=>(by rw [getD_replicate_false] at hl;cases hl),fun t h1 h2=>absurd h2 (Nat.not_lt.2 h1)⟩;have:=oE _ _ _ _ h0
  simpa using this⟩
end

structure Li (T : Prop) : Prop where
  out : T
section
variable {P : Program} {n : Nat} {ops : Array Oper} {L : Env} {w : World} {d : Option Nat} {T : TypeId} {pos : String} {af : Array Edge} {g : Option (Nat × Bool)}
theorem yR {t : TypeId} [gI P t] {x : Operand} {b i : Nat} {tb : TypeId} {cs : List Value} {v : Value} (hx : cK L x = some (.pointer (some ⟨b, i, none⟩))) (h : aS w b tb cs ∧ cs[i]? = some v := by (apply And.intro; assumption; rfl)) : St P ⟨d, .load t x, T, pos, af, g⟩ L w v :=
  aT hx (by have := h.1.cell h.2; rwa [cU] at this)
theorem vH {t : TypeId} {m : Nat} [c : fu P t m] {x : Operand} {b : Nat} {tb : TypeId} {cs : List Value} (hx : cK L x = some (.pointer (some ⟨b, 0, none⟩))) (h : aS w b tb cs ∧ cs.length = m := by (apply And.intro; assumption; rfl)) : St P ⟨d, .load t x, T, pos, af, g⟩ L w (.agg cs.toArray) :=
  aX hx h.2 fun _ _ hv => h.1.cell hv
def XL (ops : Array Oper) (k i : Nat) : List Nat := bif fL ops k [] i then [] else (((List.range ops.size).find? fun j => fL ops k [j] i).map fun j => [j]).getD ((((List.range ops.size).flatMap fun j => (List.range ops.size).map fun m => [j, m]).find? fun p => fL ops k p i).getD [])
theorem SF.gJ {Q : Exit -> Act -> World -> Prop} {fin fr f : Nat} {S2 : World -> Prop} {listed : Array Bool} (i : Nat) {o : Oper} (hB : Region.noSelect ops = true) (hi : ops[i]? = some o) (hf : Region.free .any ops listed i = true) (hr : (Region.ready .any ops listed).contains i = true) (hw : ((fL ops fin (XL ops fin i) i && fL ops fr (XL ops fr i) i) && (!Nat.beq i fr && !Nat.beq i fin)) = true)
    (h : SW P n ops (.tk fun L' => SF P n ops Q fin fr S2 f (listed.setIfInBounds i true) L' w) [o] L w) : SF P n ops Q fin fr S2 (f + 1) listed L w := SF.take i _ _ hB hi hf hr hw h
/-- one operation of a UC region, whole: Wt, Wp ahead of 'Zm (SF), Wu, Wq where all extend (SA) -/
theorem Wt {Q : Exit -> Act -> World -> Prop} {fin fr f : Nat} {S2 : World -> Prop} {listed : Array Bool} (i : Nat) (p q : List Nat) {op : Op} {d : Nat} {v : Value} (hB : Region.noSelect ops = true) (hi : ops[i]? = some ⟨some d, op, T, pos, af, none⟩) (hs : St P ⟨some d, op, T, pos, af, none⟩ L w v)
    (h : SF P n ops Q fin fr S2 f (listed.setIfInBounds i true) ((d, v) :: L) w) (hn : Nat.blt d n = true := by rfl) (hf : Region.free .any ops listed i = true := by kernel_rfl) (hr : (Region.ready .any ops listed).contains i = true := by kernel_rfl)
    (hw : ((fL ops fin p i && fL ops fr q i) && (!Nat.beq i fr && !Nat.beq i fin)) = true := by kernel_rfl) : SF P n ops Q fin fr S2 (f + 1) listed L w := SF.take i p q hB hi hf hr hw (SW.st hs hn (SW.cu h))
theorem Wp {Q : Exit -> Act -> World -> Prop} {fin fr f : Nat} {S2 : World -> Prop} {listed : Array Bool} (i : Nat) (p q : List Nat) {op : Op} {d : Nat} {v : Value} (hB : Region.noSelect ops = true) (hi : ops[i]? = some ⟨some d, op, T, pos, af, none⟩) (hs : tA L op = some v)
    (h : SF P n ops Q fin fr S2 f (listed.setIfInBounds i true) ((d, v) :: L) w) (hn : Nat.blt d n = true := by rfl) (hf : Region.free .any ops listed i = true := by kernel_rfl) (hr : (Region.ready .any ops listed).contains i = true := by kernel_rfl)
    (hw : ((fL ops fin p i && fL ops fr q i) && (!Nat.beq i fr && !Nat.beq i fin)) = true := by kernel_rfl) : SF P n ops Q fin fr S2 (f + 1) listed L w := SF.take i p q hB hi hf hr hw (SW.st (bi hs) hn (SW.cu h))
theorem Wu {Q : Exit -> Act -> World -> Prop} {nh f : Nat} {tl : List Oper} {listed : Array Bool} (i : Nat) {op : Op} {d : Nat} {v : Value} (hB : RB ops nh) (hi : ops[i]? = some ⟨some d, op, T, pos, af, none⟩) (hs : St P ⟨some d, op, T, pos, af, none⟩ L w v)
    (h : SA P n ops Q nh tl f (listed.setIfInBounds i true) ((d, v) :: L) w) (hn : Nat.blt d n = true := by rfl) (hf : Region.free .any ops listed i = true := by kernel_rfl) (hr : (Region.ready .any ops listed).contains i = true := by kernel_rfl) (eQ : Nat.blt i nh = true := by rfl) : SA P n ops Q nh tl (f + 1) listed L w := SA.take i hB hi hf hr eQ (SW.st hs hn (SW.cu h))
theorem Wq {Q : Exit -> Act -> World -> Prop} {nh f : Nat} {tl : List Oper} {listed : Array Bool} (i : Nat) {op : Op} {d : Nat} {v : Value} (hB : RB ops nh) (hi : ops[i]? = some ⟨some d, op, T, pos, af, none⟩) (hs : tA L op = some v)
    (h : SA P n ops Q nh tl f (listed.setIfInBounds i true) ((d, v) :: L) w) (hn : Nat.blt d n = true := by rfl) (hf : Region.free .any ops listed i = true := by kernel_rfl) (hr : (Region.ready .any ops listed).contains i = true := by kernel_rfl) (eQ : Nat.blt i nh = true := by rfl) : SA P n ops Q nh tl (f + 1) listed L w := SA.take i hB hi hf hr eQ (SW.st (bi hs) hn (SW.cu h))
end
section
variable {P : Program} {n : Nat} {ops : Array Oper} {M : Md} {Q : Exit -> Act -> World -> Prop} {rest : List Oper} {L : Env} {w w0 : World} {d : Nat} {T : TypeId} {pos : String} {af : Array Edge} {t : TypeId}
theorem Wl [gI P t] {x : Operand} {ad : Addr} {v : Value} (hc : w.cell? ad = some v) (h : SW P n ops M rest ((d, v) :: L) w) (hx : cK L x = some (.pointer (some ad)) := by rfl) (hn : Nat.blt d n = true := by rfl) : SW P n ops M (⟨some d, .load t x, T, pos, af, none⟩ :: rest) L w := SW.st (aT hx hc) hn h
theorem Wn [gI P t] {x : Operand} {ad : Addr} {v : Value} (hw : Ext w0 w) (hc : w0.cell? ad = some v) (h : SW P n ops M rest ((d, v) :: L) w) (hx : cK L x = some (.pointer (some ad)) := by rfl) (hn : Nat.blt d n = true := by rfl) : SW P n ops M (⟨some d, .load t x, T, pos, af, none⟩ :: rest) L w := SW.st (mu hw hx hc) hn h
theorem Wm {m : Nat} [fu P t m] {x : Operand} {ad : Addr} {vs : List Value} (hc : ∀ j v, vs[j]? = some v -> w.cell? (ad.add j) = some v) (h : SW P n ops M rest ((d, .agg vs.toArray) :: L) w) (hx : cK L x = some (.pointer (some ad)) := by rfl) (hm : vs.length = m := by rfl) (hn : Nat.blt d n = true := by rfl) : SW P n ops M (⟨some d, .load t x, T, pos, af, none⟩ :: rest) L w := SW.st (aX hx hm hc) hn h
theorem Wo {m : Nat} [fu P t m] {x : Operand} {ad : Addr} {vs : List Value} (hw : Ext w0 w) (hc : ∀ j v, vs[j]? = some v -> w0.cell? (ad.add j) = some v) (h : SW P n ops M rest ((d, .agg vs.toArray) :: L) w) (hx : cK L x = some (.pointer (some ad)) := by rfl) (hm : vs.length = m := by rfl) (hn : Nat.blt d n = true := by rfl) : SW P n ops M (⟨some d, .load t x, T, pos, af, none⟩ :: rest) L w := SW.st (vE hw hx hm hc) hn h
theorem Wb {b i : Nat} {t' : TypeId} {cs : List Value} [gI P t'] {x y : Operand} {v : Value} (hB : aS w b t cs) (h : ∀ w', aS w' b t (cs.set i v) -> w.grownBy w' (some b) -> SW P n ops (.gL Q) rest L w') (hx : cK L x = some (.pointer (some ((⟨b, 0, none⟩ : Addr).add i))) := by rfl) (hy : cK L y = some v := by rfl) (h1 : v.oneCell' = true := by rfl) (hi : Nat.blt i cs.length = true := by rfl) : SW P n ops (.gL Q) (⟨none, .store t' x y, T, pos, af, none⟩ :: rest) L w := SW.rR hB hx hy h1 hi h
theorem Wk {f : FuncId} {xs : List Operand} {vs : List Value} {ts : Array TypeId} {R : Value -> World -> Prop} [Body P f] (hc : bI P f vs w R) (h : ∀ v w', Ext w w' -> R v w' -> SW P n ops (.gL Q) rest ((d, v) :: L) w') (hx : uE L xs = some vs := by rfl) (hn : Nat.blt d n = true := by rfl) : SW P n ops (.gL Q) (⟨some d, .call ⟨.value (.func f), xs.toArray, ts⟩, T, pos, af, none⟩ :: rest) L w := SW.call hx hn hc h
end
theorem Ext.up {w w' : World} {b : Nat} (h : Ext w w') (k : w'.heap.size <= b) : w.heap.size <= b := ac2 h.size k
theorem oF {G A B : Prop} (g : G) (a : A) (h : G -> A -> B := by
    intro g h
    first
      | exact h.ext g
      | exact h.aN g rfl
      | exact h.trans g) : B := h g a
theorem cX {G A0 A1 B0 B1 : Prop} (g : G) (a0 : A0) (a1 : A1) (h0 : G -> A0 -> B0 := by
    intro g h
    exact oF g h) (h1 : G -> A1 -> B1 := by
    intro g h
    exact oF g h) : B0 ∧ B1 := ⟨h0 g a0, h1 g a1⟩
theorem cj {G A0 A1 A2 B0 B1 B2 : Prop} (g : G) (a0 : A0) (a1 : A1) (a2 : A2) (h0 : G -> A0 -> B0 := by
    intro g h
    exact oF g h) (h1 : G -> A1 -> B1 := by
    intro g h
    exact oF g h) (h2 : G -> A2 -> B2 := by
    intro g h
    exact oF g h) : B0 ∧ B1 ∧ B2 := ⟨h0 g a0, h1 g a1, h2 g a2⟩
theorem dG {G A0 A1 A2 A3 B0 B1 B2 B3 : Prop} (g : G) (a0 : A0) (a1 : A1) (a2 : A2) (a3 : A3) (h0 : G -> A0 -> B0 := by
    intro g h
    exact oF g h) (h1 : G -> A1 -> B1 := by
    intro g h
    exact oF g h) (h2 : G -> A2 -> B2 := by
    intro g h
    exact oF g h) (h3 : G -> A3 -> B3 := by
    intro g h
    exact oF g h) : B0 ∧ B1 ∧ B2 ∧ B3 := ⟨h0 g a0, h1 g a1, h2 g a2, h3 g a3⟩
theorem fI {G A0 A1 A2 A3 A4 B0 B1 B2 B3 B4 : Prop} (g : G) (a0 : A0) (a1 : A1) (a2 : A2) (a3 : A3) (a4 : A4) (h0 : G -> A0 -> B0 := by
    intro g h
    exact oF g h) (h1 : G -> A1 -> B1 := by
    intro g h
    exact oF g h) (h2 : G -> A2 -> B2 := by
    intro g h
    exact oF g h) (h3 : G -> A3 -> B3 := by
    intro g h
    exact oF g h) (h4 : G -> A4 -> B4 := by
    intro g h
    exact oF g h) : B0 ∧ B1 ∧ B2 ∧ B3 ∧ B4 := ⟨h0 g a0, h1 g a1, h2 g a2, h3 g a3, h4 g a4⟩
theorem iS {G A0 A1 A2 A3 A4 A5 B0 B1 B2 B3 B4 B5 : Prop} (g : G) (a0 : A0) (a1 : A1) (a2 : A2) (a3 : A3) (a4 : A4) (a5 : A5) (h0 : G -> A0 -> B0 := by
    intro g h
    exact oF g h) (h1 : G -> A1 -> B1 := by
    intro g h
    exact oF g h) (h2 : G -> A2 -> B2 := by
    intro g h
    exact oF g h) (h3 : G -> A3 -> B3 := by
    intro g h
    exact oF g h) (h4 : G -> A4 -> B4 := by
    intro g h
    exact oF g h) (h5 : G -> A5 -> B5 := by
    intro g h
    exact oF g h) : B0 ∧ B1 ∧ B2 ∧ B3 ∧ B4 ∧ B5 := ⟨h0 g a0, h1 g a1, h2 g a2, h3 g a3, h4 g a4, h5 g a5⟩
theorem ur {G A0 A1 A2 A3 A4 A5 A6 B0 B1 B2 B3 B4 B5 B6 : Prop} (g : G) (a0 : A0) (a1 : A1) (a2 : A2) (a3 : A3) (a4 : A4) (a5 : A5) (a6 : A6) (h0 : G -> A0 -> B0 := by
    intro g h
    exact oF g h) (h1 : G -> A1 -> B1 := by
    intro g h
    exact oF g h) (h2 : G -> A2 -> B2 := by
    intro g h
    exact oF g h) (h3 : G -> A3 -> B3 := by
    intro g h
    exact oF g h) (h4 : G -> A4 -> B4 := by
    intro g h
    exact oF g h) (h5 : G -> A5 -> B5 := by
    intro g h
    exact oF g h) (h6 : G -> A6 -> B6 := by
    intro g h
    exact oF g h) : B0 ∧ B1 ∧ B2 ∧ B3 ∧ B4 ∧ B5 ∧ B6 := ⟨h0 g a0, h1 g a1, h2 g a2, h3 g a3, h4 g a4, h5 g a5, h6 g a6⟩
theorem DJ {G A0 A1 A2 A3 A4 A5 A6 A7 B0 B1 B2 B3 B4 B5 B6 B7 : Prop} (g : G) (a0 : A0) (a1 : A1) (a2 : A2) (a3 : A3) (a4 : A4) (a5 : A5) (a6 : A6) (a7 : A7) (h0 : G -> A0 -> B0 := by
    intro g h
    exact oF g h) (h1 : G -> A1 -> B1 := by
    intro g h
    exact oF g h) (h2 : G -> A2 -> B2 := by
    intro g h
    exact oF g h) (h3 : G -> A3 -> B3 := by
    intro g h
    exact oF g h) (h4 : G -> A4 -> B4 := by
    intro g h
    exact oF g h) (h5 : G -> A5 -> B5 := by
    intro g h
    exact oF g h) (h6 : G -> A6 -> B6 := by
    intro g h
    exact oF g h) (h7 : G -> A7 -> B7 := by
    intro g h
    exact oF g h) : B0 ∧ B1 ∧ B2 ∧ B3 ∧ B4 ∧ B5 ∧ B6 ∧ B7 := ⟨h0 g a0, h1 g a1, h2 g a2, h3 g a3, h4 g a4, h5 g a5, h6 g a6, h7 g a7⟩
theorem Lj {G A0 A1 A2 A3 A4 A5 A6 A7 A8 B0 B1 B2 B3 B4 B5 B6 B7 B8 : Prop} (g : G) (a0 : A0) (a1 : A1) (a2 : A2) (a3 : A3) (a4 : A4) (a5 : A5) (a6 : A6) (a7 : A7) (a8 : A8) (h0 : G -> A0 -> B0 := by
    intro g h
    exact oF g h) (h1 : G -> A1 -> B1 := by
    intro g h
    exact oF g h) (h2 : G -> A2 -> B2 := by
    intro g h
    exact oF g h) (h3 : G -> A3 -> B3 := by
    intro g h
    exact oF g h) (h4 : G -> A4 -> B4 := by
    intro g h
    exact oF g h) (h5 : G -> A5 -> B5 := by
    intro g h
    exact oF g h) (h6 : G -> A6 -> B6 := by
    intro g h
    exact oF g h) (h7 : G -> A7 -> B7 := by
    intro g h
    exact oF g h) (h8 : G -> A8 -> B8 := by
    intro g h
    exact oF g h) : B0 ∧ B1 ∧ B2 ∧ B3 ∧ B4 ∧ B5 ∧ B6 ∧ B7 ∧ B8 := ⟨h0 g a0, h1 g a1, h2 g a2, h3 g a3, h4 g a4, h5 g a5, h6 g a6, h7 g a7, h8 g a8⟩
theorem Wz {g T : Prop} (h : T) (hg : Li T -> g := by
    intro h
    (first
      | (show CW _ _ _ _ _ _; first | refine CW.seq ?_ | refine CW.region ?_ | refine CW.block ?_ | refine CW.CG rfl (by with_reducible rfl) ?_ | refine CW.CH rfl (by with_reducible rfl) ?_ | refine CW.uB rfl (by omega) ?_ | refine CW.xR rfl (by omega) ?_ | refine CW.uC rfl (by omega) ?_ | refine CW.uD rfl (by omega) ?_ | refine CW.skip ?_ | refine CW.ret ?_ | refine CW.exit ?_)
      | (show ae _ _ _ _ _; first | refine ae.seq ?_ | refine ae.ux ?_ | refine ae.uy ?_ | refine ae.hit ?_ | refine ae.pass rfl ?_ | refine ae.eG ?_ | refine ae.xS ?_ | refine ae.qk ?_ | refine ae.sI ?_ | refine ae.np ?_)
      | refine SW.nil ?_
      | (show SW _ _ _ _ (⟨_, _, _, _, _, some _⟩ :: _) _ _; first | refine SW.yy rfl rfl (by with_reducible rfl) ?_ | refine SW.yA rfl rfl (by with_reducible rfl) ?_ | refine SW.yB rfl rfl (by with_reducible rfl) rfl ?_ | refine SW.yC rfl rfl (by with_reducible rfl) rfl ?_ | refine SW.yD rfl rfl (by with_reducible rfl) rfl ?_ | refine SW.rJ rfl rfl rfl (by omega) ?_ | refine SW.rK rfl rfl rfl (by omega) ?_ | refine SW.rL rfl rfl rfl (by omega) ?_ | refine SW.rM rfl rfl rfl (by omega) ?_)
      | refine SW.pure rfl rfl ?_
      | (show SW _ _ _ _ (⟨_, Op.fieldAddr _ _ _, _, _, _, none⟩ :: _) _ _; refine SW.st (az rfl) rfl ?_)
      | (show SW _ _ _ _ (⟨_, Op.nilCheck _, _, _, _, none⟩ :: _) _ _; refine SW.st (aG rfl) rfl ?_)
      | (show SW _ _ _ _ (⟨_, Op.build _ _, _, _, _, none⟩ :: _) _ _; refine SW.st (iH rfl rfl) rfl ?_)
      | (show SW _ _ _ _ (⟨_, Op.binOp _ _ _ _ _, _, _, _, none⟩ :: _) _ _; first | refine SW.st (yG rfl rfl (by omega) (by omega)) rfl ?_ | refine SW.st (yH rfl rfl (by omega) (by omega)) rfl ?_ | refine SW.st (oX rfl rfl (by omega) (by omega)) rfl ?_ | refine SW.st (yI rfl rfl (by omega) (by omega) (by omega)) rfl ?_ | refine SW.st (yJ rfl rfl (by omega)) rfl ?_)
      | (show SW _ _ _ _ (⟨_, Op.indexAddr _ _ _, _, _, _, none⟩ :: _) _ _; refine SW.st (bZ rfl rfl (by assumption) (by omega)) rfl ?_)
      | (show SW _ _ _ _ (⟨_, Op.call ⟨.builtin .len, _, _⟩, _, _, _, none⟩ :: _) _ _; refine SW.st (yK rfl) rfl ?_)
      | (show SW _ _ _ _ (⟨_, Op.call ⟨.builtin .cap, _, _⟩, _, _, _, none⟩ :: _) _ _; refine SW.st (yP rfl) rfl ?_)
      | (show SW _ _ _ _ (⟨_, Op.load _ _, _, _, _, none⟩ :: _) _ _; first | refine SW.st (yR rfl) rfl ?_ | refine SW.st (vH rfl) rfl ?_))
    repeat' (first
      | (show CW _ _ _ _ _ _; first | refine CW.seq ?_ | refine CW.region ?_ | refine CW.block ?_ | refine CW.CG rfl (by with_reducible rfl) ?_ | refine CW.CH rfl (by with_reducible rfl) ?_ | refine CW.uB rfl (by omega) ?_ | refine CW.xR rfl (by omega) ?_ | refine CW.uC rfl (by omega) ?_ | refine CW.uD rfl (by omega) ?_ | refine CW.skip ?_ | refine CW.ret ?_ | refine CW.exit ?_)
      | (show ae _ _ _ _ _; first | refine ae.seq ?_ | refine ae.ux ?_ | refine ae.uy ?_ | refine ae.hit ?_ | refine ae.pass rfl ?_ | refine ae.eG ?_ | refine ae.xS ?_ | refine ae.qk ?_ | refine ae.sI ?_ | refine ae.np ?_)
      | refine SW.nil ?_
      | (show SW _ _ _ _ (⟨_, _, _, _, _, some _⟩ :: _) _ _; first | refine SW.yy rfl rfl (by with_reducible rfl) ?_ | refine SW.yA rfl rfl (by with_reducible rfl) ?_ | refine SW.yB rfl rfl (by with_reducible rfl) rfl ?_ | refine SW.yC rfl rfl (by with_reducible rfl) rfl ?_ | refine SW.yD rfl rfl (by with_reducible rfl) rfl ?_ | refine SW.rJ rfl rfl rfl (by omega) ?_ | refine SW.rK rfl rfl rfl (by omega) ?_ | refine SW.rL rfl rfl rfl (by omega) ?_ | refine SW.rM rfl rfl rfl (by omega) ?_)
      | refine SW.pure rfl rfl ?_
      | (show SW _ _ _ _ (⟨_, Op.fieldAddr _ _ _, _, _, _, none⟩ :: _) _ _; refine SW.st (az rfl) rfl ?_)
      | (show SW _ _ _ _ (⟨_, Op.nilCheck _, _, _, _, none⟩ :: _) _ _; refine SW.st (aG rfl) rfl ?_)
      | (show SW _ _ _ _ (⟨_, Op.build _ _, _, _, _, none⟩ :: _) _ _; refine SW.st (iH rfl rfl) rfl ?_)
      | (show SW _ _ _ _ (⟨_, Op.binOp _ _ _ _ _, _, _, _, none⟩ :: _) _ _; first | refine SW.st (yG rfl rfl (by omega) (by omega)) rfl ?_ | refine SW.st (yH rfl rfl (by omega) (by omega)) rfl ?_ | refine SW.st (oX rfl rfl (by omega) (by omega)) rfl ?_ | refine SW.st (yI rfl rfl (by omega) (by omega) (by omega)) rfl ?_ | refine SW.st (yJ rfl rfl (by omega)) rfl ?_)
      | (show SW _ _ _ _ (⟨_, Op.indexAddr _ _ _, _, _, _, none⟩ :: _) _ _; refine SW.st (bZ rfl rfl (by assumption) (by omega)) rfl ?_)
      | (show SW _ _ _ _ (⟨_, Op.call ⟨.builtin .len, _, _⟩, _, _, _, none⟩ :: _) _ _; refine SW.st (yK rfl) rfl ?_)
      | (show SW _ _ _ _ (⟨_, Op.call ⟨.builtin .cap, _, _⟩, _, _, _, none⟩ :: _) _ _; refine SW.st (yP rfl) rfl ?_)
      | (show SW _ _ _ _ (⟨_, Op.load _ _, _, _, _, none⟩ :: _) _ _; first | refine SW.st (yR rfl) rfl ?_ | refine SW.st (vH rfl) rfl ?_)
      | exact h.out)) : g := hg ⟨h⟩

theorem Ws {g T : Prop} (h : T) (hg : Li T -> g := by
    intro h
    repeat' (first
      | (show SW _ _ _ _ (⟨_, _, _, _, _, some _⟩ :: _) _ _; first | refine SW.yy rfl rfl (by with_reducible rfl) ?_ | refine SW.yA rfl rfl (by with_reducible rfl) ?_ | refine SW.yB rfl rfl (by with_reducible rfl) rfl ?_ | refine SW.yC rfl rfl (by with_reducible rfl) rfl ?_ | refine SW.yD rfl rfl (by with_reducible rfl) rfl ?_ | refine SW.rJ rfl rfl rfl (by omega) ?_ | refine SW.rK rfl rfl rfl (by omega) ?_ | refine SW.rL rfl rfl rfl (by omega) ?_ | refine SW.rM rfl rfl rfl (by omega) ?_)
      | refine SW.pure rfl rfl ?_
      | (show SW _ _ _ _ (⟨_, Op.fieldAddr _ _ _, _, _, _, none⟩ :: _) _ _; refine SW.st (az rfl) rfl ?_)
      | (show SW _ _ _ _ (⟨_, Op.nilCheck _, _, _, _, none⟩ :: _) _ _; refine SW.st (aG rfl) rfl ?_)
      | (show SW _ _ _ _ (⟨_, Op.build _ _, _, _, _, none⟩ :: _) _ _; refine SW.st (iH rfl rfl) rfl ?_)
      | (show SW _ _ _ _ (⟨_, Op.binOp _ _ _ _ _, _, _, _, none⟩ :: _) _ _; first | refine SW.st (yG rfl rfl (by omega) (by omega)) rfl ?_ | refine SW.st (yH rfl rfl (by omega) (by omega)) rfl ?_ | refine SW.st (oX rfl rfl (by omega) (by omega)) rfl ?_ | refine SW.st (yI rfl rfl (by omega) (by omega) (by omega)) rfl ?_ | refine SW.st (yJ rfl rfl (by omega)) rfl ?_)
      | (show SW _ _ _ _ (⟨_, Op.indexAddr _ _ _, _, _, _, none⟩ :: _) _ _; refine SW.st (bZ rfl rfl (by assumption) (by omega)) rfl ?_)
      | (show SW _ _ _ _ (⟨_, Op.call ⟨.builtin .len, _, _⟩, _, _, _, none⟩ :: _) _ _; refine SW.st (yK rfl) rfl ?_)
      | (show SW _ _ _ _ (⟨_, Op.call ⟨.builtin .cap, _, _⟩, _, _, _, none⟩ :: _) _ _; refine SW.st (yP rfl) rfl ?_)
      | (show SW _ _ _ _ (⟨_, Op.load _ _, _, _, _, none⟩ :: _) _ _; first | refine SW.st (yR rfl) rfl ?_ | refine SW.st (vH rfl) rfl ?_)
      | exact h.out)) : g := hg ⟨h⟩

theorem Wa {g T : Prop} (h : T) (hg : Li T -> g := by
    intro h
    repeat' (first
      | (refine SA.take 0 (by assumption) rfl (by decide +kernel) (by decide +kernel) rfl ?_; refine Ws ?_; refine SW.cu ?_)
      | (refine SA.take 1 (by assumption) rfl (by decide +kernel) (by decide +kernel) rfl ?_; refine Ws ?_; refine SW.cu ?_)
      | (refine SA.take 2 (by assumption) rfl (by decide +kernel) (by decide +kernel) rfl ?_; refine Ws ?_; refine SW.cu ?_)
      | (refine SA.take 3 (by assumption) rfl (by decide +kernel) (by decide +kernel) rfl ?_; refine Ws ?_; refine SW.cu ?_)
      | (refine SA.take 4 (by assumption) rfl (by decide +kernel) (by decide +kernel) rfl ?_; refine Ws ?_; refine SW.cu ?_)
      | (refine SA.take 5 (by assumption) rfl (by decide +kernel) (by decide +kernel) rfl ?_; refine Ws ?_; refine SW.cu ?_)
      | (refine SA.take 6 (by assumption) rfl (by decide +kernel) (by decide +kernel) rfl ?_; refine Ws ?_; refine SW.cu ?_)
      | (refine SA.take 7 (by assumption) rfl (by decide +kernel) (by decide +kernel) rfl ?_; refine Ws ?_; refine SW.cu ?_)
      | (refine SA.take 8 (by assumption) rfl (by decide +kernel) (by decide +kernel) rfl ?_; refine Ws ?_; refine SW.cu ?_)
      | (refine SA.take 9 (by assumption) rfl (by decide +kernel) (by decide +kernel) rfl ?_; refine Ws ?_; refine SW.cu ?_)
      | (refine SA.take 10 (by assumption) rfl (by decide +kernel) (by decide +kernel) rfl ?_; refine Ws ?_; refine SW.cu ?_)
      | (refine SA.take 11 (by assumption) rfl (by decide +kernel) (by decide +kernel) rfl ?_; refine Ws ?_; refine SW.cu ?_)
      | (refine SA.take 12 (by assumption) rfl (by decide +kernel) (by decide +kernel) rfl ?_; refine Ws ?_; refine SW.cu ?_)
      | (refine SA.take 13 (by assumption) rfl (by decide +kernel) (by decide +kernel) rfl ?_; refine Ws ?_; refine SW.cu ?_)
      | (refine SA.take 14 (by assumption) rfl (by decide +kernel) (by decide +kernel) rfl ?_; refine Ws ?_; refine SW.cu ?_)
      | (refine SA.take 15 (by assumption) rfl (by decide +kernel) (by decide +kernel) rfl ?_; refine Ws ?_; refine SW.cu ?_)
      | (refine SA.take 16 (by assumption) rfl (by decide +kernel) (by decide +kernel) rfl ?_; refine Ws ?_; refine SW.cu ?_)
      | (refine SA.take 17 (by assumption) rfl (by decide +kernel) (by decide +kernel) rfl ?_; refine Ws ?_; refine SW.cu ?_)
      | (refine SA.take 18 (by assumption) rfl (by decide +kernel) (by decide +kernel) rfl ?_; refine Ws ?_; refine SW.cu ?_)
      | (refine SA.take 19 (by assumption) rfl (by decide +kernel) (by decide +kernel) rfl ?_; refine Ws ?_; refine SW.cu ?_)
      | (refine SA.take 20 (by assumption) rfl (by decide +kernel) (by decide +kernel) rfl ?_; refine Ws ?_; refine SW.cu ?_)
      | (refine SA.take 21 (by assumption) rfl (by decide +kernel) (by decide +kernel) rfl ?_; refine Ws ?_; refine SW.cu ?_)
      | (refine SA.take 22 (by assumption) rfl (by decide +kernel) (by decide +kernel) rfl ?_; refine Ws ?_; refine SW.cu ?_)
      | (refine SA.take 23 (by assumption) rfl (by decide +kernel) (by decide +kernel) rfl ?_; refine Ws ?_; refine SW.cu ?_)
      | (refine SA.take 24 (by assumption) rfl (by decide +kernel) (by decide +kernel) rfl ?_; refine Ws ?_; refine SW.cu ?_)
      | (refine SA.take 25 (by assumption) rfl (by decide +kernel) (by decide +kernel) rfl ?_; refine Ws ?_; refine SW.cu ?_)
      | (refine SA.take 26 (by assumption) rfl (by decide +kernel) (by decide +kernel) rfl ?_; refine Ws ?_; refine SW.cu ?_)
      | (refine SA.take 27 (by assumption) rfl (by decide +kernel) (by decide +kernel) rfl ?_; refine Ws ?_; refine SW.cu ?_)
      | (refine SA.take 28 (by assumption) rfl (by decide +kernel) (by decide +kernel) rfl ?_; refine Ws ?_; refine SW.cu ?_)
      | (refine SA.take 29 (by assumption) rfl (by decide +kernel) (by decide +kernel) rfl ?_; refine Ws ?_; refine SW.cu ?_)
      | exact h.out)) : g := hg ⟨h⟩

theorem Wf {g T : Prop} (h : T) (hg : Li T -> g := by
    intro h
    repeat' (first
      | (refine SF.gJ 0 (by assumption) rfl (by decide +kernel) (by decide +kernel) (by decide +kernel) ?_; refine Ws ?_; refine SW.cu ?_)
      | (refine SF.gJ 1 (by assumption) rfl (by decide +kernel) (by decide +kernel) (by decide +kernel) ?_; refine Ws ?_; refine SW.cu ?_)
      | (refine SF.gJ 2 (by assumption) rfl (by decide +kernel) (by decide +kernel) (by decide +kernel) ?_; refine Ws ?_; refine SW.cu ?_)
      | (refine SF.gJ 3 (by assumption) rfl (by decide +kernel) (by decide +kernel) (by decide +kernel) ?_; refine Ws ?_; refine SW.cu ?_)
      | (refine SF.gJ 4 (by assumption) rfl (by decide +kernel) (by decide +kernel) (by decide +kernel) ?_; refine Ws ?_; refine SW.cu ?_)
      | (refine SF.gJ 5 (by assumption) rfl (by decide +kernel) (by decide +kernel) (by decide +kernel) ?_; refine Ws ?_; refine SW.cu ?_)
      | (refine SF.gJ 6 (by assumption) rfl (by decide +kernel) (by decide +kernel) (by decide +kernel) ?_; refine Ws ?_; refine SW.cu ?_)
      | (refine SF.gJ 7 (by assumption) rfl (by decide +kernel) (by decide +kernel) (by decide +kernel) ?_; refine Ws ?_; refine SW.cu ?_)
      | (refine SF.gJ 8 (by assumption) rfl (by decide +kernel) (by decide +kernel) (by decide +kernel) ?_; refine Ws ?_; refine SW.cu ?_)
      | (refine SF.gJ 9 (by assumption) rfl (by decide +kernel) (by decide +kernel) (by decide +kernel) ?_; refine Ws ?_; refine SW.cu ?_)
      | (refine SF.gJ 10 (by assumption) rfl (by decide +kernel) (by decide +kernel) (by decide +kernel) ?_; refine Ws ?_; refine SW.cu ?_)
      | (refine SF.gJ 11 (by assumption) rfl (by decide +kernel) (by decide +kernel) (by decide +kernel) ?_; refine Ws ?_; refine SW.cu ?_)
      | (refine SF.gJ 12 (by assumption) rfl (by decide +kernel) (by decide +kernel) (by decide +kernel) ?_; refine Ws ?_; refine SW.cu ?_)
      | (refine SF.gJ 13 (by assumption) rfl (by decide +kernel) (by decide +kernel) (by decide +kernel) ?_; refine Ws ?_; refine SW.cu ?_)
      | (refine SF.gJ 14 (by assumption) rfl (by decide +kernel) (by decide +kernel) (by decide +kernel) ?_; refine Ws ?_; refine SW.cu ?_)
      | (refine SF.gJ 15 (by assumption) rfl (by decide +kernel) (by decide +kernel) (by decide +kernel) ?_; refine Ws ?_; refine SW.cu ?_)
      | (refine SF.gJ 16 (by assumption) rfl (by decide +kernel) (by decide +kernel) (by decide +kernel) ?_; refine Ws ?_; refine SW.cu ?_)
      | (refine SF.gJ 17 (by assumption) rfl (by decide +kernel) (by decide +kernel) (by decide +kernel) ?_; refine Ws ?_; refine SW.cu ?_)
      | (refine SF.gJ 18 (by assumption) rfl (by decide +kernel) (by decide +kernel) (by decide +kernel) ?_; refine Ws ?_; refine SW.cu ?_)
      | (refine SF.gJ 19 (by assumption) rfl (by decide +kernel) (by decide +kernel) (by decide +kernel) ?_; refine Ws ?_; refine SW.cu ?_)
      | (refine SF.gJ 20 (by assumption) rfl (by decide +kernel) (by decide +kernel) (by decide +kernel) ?_; refine Ws ?_; refine SW.cu ?_)
      | (refine SF.gJ 21 (by assumption) rfl (by decide +kernel) (by decide +kernel) (by decide +kernel) ?_; refine Ws ?_; refine SW.cu ?_)
      | (refine SF.gJ 22 (by assumption) rfl (by decide +kernel) (by decide +kernel) (by decide +kernel) ?_; refine Ws ?_; refine SW.cu ?_)
      | (refine SF.gJ 23 (by assumption) rfl (by decide +kernel) (by decide +kernel) (by decide +kernel) ?_; refine Ws ?_; refine SW.cu ?_)
      | (refine SF.gJ 24 (by assumption) rfl (by decide +kernel) (by decide +kernel) (by decide +kernel) ?_; refine Ws ?_; refine SW.cu ?_)
      | (refine SF.gJ 25 (by assumption) rfl (by decide +kernel) (by decide +kernel) (by decide +kernel) ?_; refine Ws ?_; refine SW.cu ?_)
      | (refine SF.gJ 26 (by assumption) rfl (by decide +kernel) (by decide +kernel) (by decide +kernel) ?_; refine Ws ?_; refine SW.cu ?_)
      | (refine SF.gJ 27 (by assumption) rfl (by decide +kernel) (by decide +kernel) (by decide +kernel) ?_; refine Ws ?_; refine SW.cu ?_)
      | (refine SF.gJ 28 (by assumption) rfl (by decide +kernel) (by decide +kernel) (by decide +kernel) ?_; refine Ws ?_; refine SW.cu ?_)
      | (refine SF.gJ 29 (by assumption) rfl (by decide +kernel) (by decide +kernel) (by decide +kernel) ?_; refine Ws ?_; refine SW.cu ?_)
      | exact h.out)) : g := hg ⟨h⟩

theorem Wy {g T : Prop} (h : T) (hg : Li T -> g := by
    intro h
    (first
      | (show CW _ _ _ _ _ _; first | refine CW.seq ?_ | refine CW.region ?_ | refine CW.block ?_ | refine CW.CG rfl (by with_reducible rfl) ?_ | refine CW.CH rfl (by with_reducible rfl) ?_ | refine CW.uB rfl (by omega) ?_ | refine CW.xR rfl (by omega) ?_ | refine CW.uC rfl (by omega) ?_ | refine CW.uD rfl (by omega) ?_ | refine CW.skip ?_ | refine CW.ret ?_ | refine CW.exit ?_)
      | (show ae _ _ _ _ _; first | refine ae.seq ?_ | refine ae.ux ?_ | refine ae.uy ?_ | refine ae.hit ?_ | refine ae.pass rfl ?_ | refine ae.eG ?_ | refine ae.xS ?_ | refine ae.qk ?_ | refine ae.sI ?_ | refine ae.np ?_)
      | refine SW.nil ?_
      | (show SW _ _ _ _ (⟨_, _, _, _, _, some _⟩ :: _) _ _; first | refine SW.yy rfl rfl (by with_reducible rfl) ?_ | refine SW.yA rfl rfl (by with_reducible rfl) ?_ | refine SW.yB rfl rfl (by with_reducible rfl) rfl ?_ | refine SW.yC rfl rfl (by with_reducible rfl) rfl ?_ | refine SW.yD rfl rfl (by with_reducible rfl) rfl ?_ | refine SW.rJ rfl rfl rfl (by omega) ?_ | refine SW.rK rfl rfl rfl (by omega) ?_ | refine SW.rL rfl rfl rfl (by omega) ?_ | refine SW.rM rfl rfl rfl (by omega) ?_)
      | refine SW.pure rfl rfl ?_
      | (show SW _ _ _ _ (⟨_, Op.fieldAddr _ _ _, _, _, _, none⟩ :: _) _ _; refine SW.st (az rfl) rfl ?_)
      | (show SW _ _ _ _ (⟨_, Op.nilCheck _, _, _, _, none⟩ :: _) _ _; refine SW.st (aG rfl) rfl ?_)
      | (show SW _ _ _ _ (⟨_, Op.build _ _, _, _, _, none⟩ :: _) _ _; refine SW.st (iH rfl rfl) rfl ?_)
      | (show SW _ _ _ _ (⟨_, Op.binOp _ _ _ _ _, _, _, _, none⟩ :: _) _ _; first | refine SW.st (yG rfl rfl (by omega) (by omega)) rfl ?_ | refine SW.st (yH rfl rfl (by omega) (by omega)) rfl ?_ | refine SW.st (oX rfl rfl (by omega) (by omega)) rfl ?_ | refine SW.st (yI rfl rfl (by omega) (by omega) (by omega)) rfl ?_ | refine SW.st (yJ rfl rfl (by omega)) rfl ?_)
      | (show SW _ _ _ _ (⟨_, Op.indexAddr _ _ _, _, _, _, none⟩ :: _) _ _; refine SW.st (bZ rfl rfl (by assumption) (by omega)) rfl ?_)
      | (show SW _ _ _ _ (⟨_, Op.call ⟨.builtin .len, _, _⟩, _, _, _, none⟩ :: _) _ _; refine SW.st (yK rfl) rfl ?_)
      | (show SW _ _ _ _ (⟨_, Op.call ⟨.builtin .cap, _, _⟩, _, _, _, none⟩ :: _) _ _; refine SW.st (yP rfl) rfl ?_))
    repeat' (first
      | (show CW _ _ _ _ _ _; first | refine CW.seq ?_ | refine CW.region ?_ | refine CW.block ?_ | refine CW.CG rfl (by with_reducible rfl) ?_ | refine CW.CH rfl (by with_reducible rfl) ?_ | refine CW.uB rfl (by omega) ?_ | refine CW.xR rfl (by omega) ?_ | refine CW.uC rfl (by omega) ?_ | refine CW.uD rfl (by omega) ?_ | refine CW.skip ?_ | refine CW.ret ?_ | refine CW.exit ?_)
      | (show ae _ _ _ _ _; first | refine ae.seq ?_ | refine ae.ux ?_ | refine ae.uy ?_ | refine ae.hit ?_ | refine ae.pass rfl ?_ | refine ae.eG ?_ | refine ae.xS ?_ | refine ae.qk ?_ | refine ae.sI ?_ | refine ae.np ?_)
      | refine SW.nil ?_
      | (show SW _ _ _ _ (⟨_, _, _, _, _, some _⟩ :: _) _ _; first | refine SW.yy rfl rfl (by with_reducible rfl) ?_ | refine SW.yA rfl rfl (by with_reducible rfl) ?_ | refine SW.yB rfl rfl (by with_reducible rfl) rfl ?_ | refine SW.yC rfl rfl (by with_reducible rfl) rfl ?_ | refine SW.yD rfl rfl (by with_reducible rfl) rfl ?_ | refine SW.rJ rfl rfl rfl (by omega) ?_ | refine SW.rK rfl rfl rfl (by omega) ?_ | refine SW.rL rfl rfl rfl (by omega) ?_ | refine SW.rM rfl rfl rfl (by omega) ?_)
      | refine SW.pure rfl rfl ?_
      | (show SW _ _ _ _ (⟨_, Op.fieldAddr _ _ _, _, _, _, none⟩ :: _) _ _; refine SW.st (az rfl) rfl ?_)
      | (show SW _ _ _ _ (⟨_, Op.nilCheck _, _, _, _, none⟩ :: _) _ _; refine SW.st (aG rfl) rfl ?_)
      | (show SW _ _ _ _ (⟨_, Op.build _ _, _, _, _, none⟩ :: _) _ _; refine SW.st (iH rfl rfl) rfl ?_)
      | (show SW _ _ _ _ (⟨_, Op.binOp _ _ _ _ _, _, _, _, none⟩ :: _) _ _; first | refine SW.st (yG rfl rfl (by omega) (by omega)) rfl ?_ | refine SW.st (yH rfl rfl (by omega) (by omega)) rfl ?_ | refine SW.st (oX rfl rfl (by omega) (by omega)) rfl ?_ | refine SW.st (yI rfl rfl (by omega) (by omega) (by omega)) rfl ?_ | refine SW.st (yJ rfl rfl (by omega)) rfl ?_)
      | (show SW _ _ _ _ (⟨_, Op.indexAddr _ _ _, _, _, _, none⟩ :: _) _ _; refine SW.st (bZ rfl rfl (by assumption) (by omega)) rfl ?_)
      | (show SW _ _ _ _ (⟨_, Op.call ⟨.builtin .len, _, _⟩, _, _, _, none⟩ :: _) _ _; refine SW.st (yK rfl) rfl ?_)
      | (show SW _ _ _ _ (⟨_, Op.call ⟨.builtin .cap, _, _⟩, _, _, _, none⟩ :: _) _ _; refine SW.st (yP rfl) rfl ?_)
      | exact h.out)) : g := hg ⟨h⟩
instance:gI prog 3 := {}
instance:dn prog 3 (.int .i64 0) 1 8 := {}
instance:gI prog 4 := {}
instance:dn prog 4 (.bool false) 1 1 := {}
instance:gI prog 5 := {}
instance:gI prog 9 := {}
instance:dn prog 9 (.string ByteArray.empty) 1 16 := {}
instance:bz prog 22 88 4 := {}
instance:gI prog 25 := {}
instance:bz prog 25 82 2 := {}
instance:fu prog 27 2 := {}
instance:hU prog 27 [(0,1),(1,1)] [.slice none 0 0,.slice none 0 0] := {}
instance:bo prog 27 0 0 25 := {}
instance:bo prog 27 1 1 25 := {}
instance:dn prog 29 (.agg #[.slice none 0 0,.slice none 0 0,.int .i64 0,.int .i64 0,.int .i64 0]) 5 72 := {}
instance:fu prog 29 5 := {}
instance:hU prog 29 [(0,2),(2,1),(3,1),(4,1)] [.slice none 0 0,.slice none 0 0,.int .i64 0,.int .i64 0,.int .i64 0] := {}
instance:bo prog 29 0 0 27 := {}
instance:bo prog 29 1 2 3 := {}
instance:bo prog 29 2 3 3 := {}
instance:bo prog 29 3 4 3 := {}
instance:gI prog 32 := {}
instance:bz prog 32 35 7 := {}
instance:dn prog 35 (.agg #[.int .i64 0,.int .i64 0,.int .i64 0,.int .i64 0,.int .i64 0,.int .i64 0,.string ByteArray.empty]) 7 64 := {}
instance:fu prog 35 7 := {}
instance:hU prog 35 [(0,1),(1,1),(2,1),(3,1),(4,1),(5,1),(6,1)] [.int .i64 0,.int .i64 0,.int .i64 0,.int .i64 0,.int .i64 0,.int .i64 0,.string ByteArray.empty] := {}
instance:bo prog 35 0 0 3 := {}
instance:bo prog 35 1 1 3 := {}
instance:bo prog 35 2 2 3 := {}
instance:bo prog 35 3 3 3 := {}
instance:bo prog 35 4 4 3 := {}
instance:bo prog 35 5 5 3 := {}
instance:bo prog 35 6 6 9 := {}
instance:gI prog 36 := {}
instance:bz prog 36 3 1 := {}
instance:gI prog 37 := {}
instance:bz prog 37 117 4 := {}
instance:gI prog 38 := {}
instance:bz prog 38 159 4 := {}
instance:gI prog 39 := {}
instance:bz prog 39 147 3 := {}
instance:dn prog 41 (.agg #[.slice none 0 0,.slice none 0 0,.int .i64 0,.slice none 0 0,.slice none 0 0]) 5 104 := {}
instance:fu prog 41 5 := {}
instance:hU prog 41 [(0,1),(1,1),(2,1),(3,1),(4,1)] [.slice none 0 0,.slice none 0 0,.int .i64 0,.slice none 0 0,.slice none 0 0] := {}
instance:bo prog 41 0 0 37 := {}
instance:bo prog 41 1 1 36 := {}
instance:bo prog 41 2 2 3 := {}
instance:bo prog 41 3 3 38 := {}
instance:bo prog 41 4 4 39 := {}
instance:gI prog 42 := {}
instance:bz prog 42 107 6 := {}
instance:dn prog 44 (.agg #[.slice none 0 0,.slice none 0 0,.slice none 0 0,.int .i64 0,.slice none 0 0,.slice none 0 0,.slice none 0 0]) 7 152 := {}
instance:fu prog 44 7 := {}
instance:hU prog 44 [(0,1),(1,5),(6,1)] [.slice none 0 0,.slice none 0 0,.slice none 0 0,.int .i64 0,.slice none 0 0,.slice none 0 0,.slice none 0 0] := {}
instance:bo prog 44 0 0 36 := {}
instance:bo prog 44 1 1 41 := {}
instance:bo prog 44 2 6 42 := {}
instance:gI prog 45 := {}
instance:bz prog 45 55 3 := {}
instance:gI prog 46 := {}
instance:bz prog 46 50 6 := {}
instance:hU prog 48 [(0,7),(7,1),(8,1),(9,1)] [.slice none 0 0,.slice none 0 0,.slice none 0 0,.int .i64 0,.slice none 0 0,.slice none 0 0,.slice none 0 0,.slice none 0 0,.slice none 0 0,.slice none 0 0] := {}
instance:bo prog 48 0 0 44 := {}
instance:bo prog 48 1 7 32 := {}
instance:bo prog 48 2 8 45 := {}
instance:bo prog 48 3 9 46 := {}
instance:dn prog 50 (.agg #[.int .i64 0,.int .i64 0,.int .i64 0,.string ByteArray.empty,.int .i64 0,.bool false]) 6 56 := {}
instance:fu prog 50 6 := {}
instance:hU prog 50 [(0,1),(1,1),(2,1),(3,1),(4,1),(5,1)] [.int .i64 0,.int .i64 0,.int .i64 0,.string ByteArray.empty,.int .i64 0,.bool false] := {}
instance:bo prog 50 0 0 3 := {}
instance:bo prog 50 1 1 3 := {}
instance:bo prog 50 2 2 3 := {}
instance:bo prog 50 3 3 9 := {}
instance:bo prog 50 4 4 3 := {}
instance:bo prog 50 5 5 4 := {}
instance:gI prog 51 := {}
instance:dn prog 55 (.agg #[.int .i64 0,.int .i64 0,.slice none 0 0]) 3 40 := {}
instance:fu prog 55 3 := {}
instance:hU prog 55 [(0,1),(1,1),(2,1)] [.int .i64 0,.int .i64 0,.slice none 0 0] := {}
instance:bo prog 55 0 0 51 := {}
instance:bo prog 55 1 1 3 := {}
instance:bo prog 55 2 2 36 := {}
instance:bz prog 66 84 8 := {}
instance:yF prog 78 6 3 1 := {}
instance:fu prog 78 6 := {}
instance:dn prog 82 (.agg #[.int .i64 0,.int .i64 0]) 2 16 := {}
instance:fu prog 82 2 := {}
instance:hU prog 82 [(0,1),(1,1)] [.int .i64 0,.int .i64 0] := {}
instance:bo prog 82 0 0 3 := {}
instance:bo prog 82 1 1 3 := {}
instance:dn prog 84 (.agg #[.int .i64 0,.int .i64 0,.int .i64 0,.int .i64 0,.int .i64 0,.int .i64 0,.string ByteArray.empty,.int .i64 0]) 8 72 := {}
instance:fu prog 84 8 := {}
instance:hU prog 84 [(0,7),(7,1)] [.int .i64 0,.int .i64 0,.int .i64 0,.int .i64 0,.int .i64 0,.int .i64 0,.string ByteArray.empty,.int .i64 0] := {}
instance:bo prog 84 0 0 35 := {}
instance:bo prog 84 1 7 3 := {}
instance:dn prog 88 (.agg #[.int .i64 0,.int .i64 0,.int .i64 0,.int .i64 0]) 4 32 := {}
instance:fu prog 88 4 := {}
instance:bo prog 88 0 0 3 := {}
instance:bo prog 88 1 1 3 := {}
instance:bo prog 88 2 2 3 := {}
instance:bo prog 88 3 3 3 := {}
instance:gI prog 89 := {}
instance:bz prog 89 9 1 := {}
instance:gI prog 105 := {}
instance:bz prog 105 111 3 := {}
instance:dn prog 107 (.agg #[.slice none 0 0,.int .i64 0,.int .i64 0,.int .i64 0,.slice none 0 0,.slice none 0 0]) 6 96 := {}
instance:fu prog 107 6 := {}
instance:hU prog 107 [(0,1),(1,1),(2,1),(3,1),(4,1),(5,1)] [.slice none 0 0,.int .i64 0,.int .i64 0,.int .i64 0,.slice none 0 0,.slice none 0 0] := {}
instance:bo prog 107 0 0 89 := {}
instance:bo prog 107 1 1 3 := {}
instance:bo prog 107 2 2 3 := {}
instance:bo prog 107 3 3 3 := {}
instance:bo prog 107 4 4 105 := {}
instance:bo prog 107 5 5 36 := {}
instance:dn prog 111 (.agg #[.int .i64 0,.int .i64 0,.int .i64 0]) 3 24 := {}
instance:fu prog 111 3 := {}
instance:hU prog 111 [(0,1),(1,1),(2,1)] [.int .i64 0,.int .i64 0,.int .i64 0] := {}
instance:bo prog 111 0 0 3 := {}
instance:bo prog 111 1 1 3 := {}
instance:bo prog 111 2 2 3 := {}
instance:bz prog 113 4 1 := {}
instance:dn prog 117 (.agg #[.int .i64 0,.int .i64 0,.slice none 0 0,.slice none 0 0]) 4 64 := {}
instance:fu prog 117 4 := {}
instance:hU prog 117 [(0,1),(1,1),(2,1),(3,1)] [.int .i64 0,.int .i64 0,.slice none 0 0,.slice none 0 0] := {}
instance:bo prog 117 0 0 3 := {}
instance:bo prog 117 1 1 3 := {}
instance:bo prog 117 2 2 39 := {}
instance:bo prog 117 3 3 36 := {}
instance:gI prog 127 := {}
instance:dn prog 127 (.pointer none) 1 8 := {}
instance:dn prog 147 (.agg #[.int .i64 0,.int .i64 0,.int .i64 0]) 3 24 := {}
instance:fu prog 147 3 := {}
instance:hU prog 147 [(0,1),(1,1),(2,1)] [.int .i64 0,.int .i64 0,.int .i64 0] := {}
instance:bo prog 147 0 0 3 := {}
instance:bo prog 147 1 1 3 := {}
instance:bo prog 147 2 2 3 := {}
instance:dn prog 159 (.agg #[.int .i64 0,.int .i64 0,.int .i64 0,.slice none 0 0]) 4 48 := {}
instance:fu prog 159 4 := {}
instance:hU prog 159 [(0,1),(1,1),(2,1),(3,1)] [.int .i64 0,.int .i64 0,.int .i64 0,.slice none 0 0] := {}
instance:bo prog 159 0 0 3 := {}
instance:bo prog 159 1 1 3 := {}
instance:bo prog 159 2 2 3 := {}
instance:bo prog 159 3 3 36 := {}
instance:bz prog 168 5 1 := {}
instance:yF prog 189 256 4 1 := {}
instance:hU prog 191 [(0,256),(256,1)] [.bool false,.bool false,.bool false,.bool false,.bool false,.bool false,.bool false,.bool false,.bool false,.bool false,.bool false,.bool false,.bool false,.bool false,.bool false,.bool false,.bool false,.bool false,.bool false,.bool false,.bool false,.bool false,.bool false,.bool false,.bool false,.bool false,.bool false,.bool false,.bool false,.bool false,.bool false,.bool false,.bool false,.bool false,.bool false,.bool false,.bool false,.bool false,.bool false,.bool false,.bool false,.bool false,.bool false,.bool false,.bool false,.bool false,.bool false,.bool false,.bool false,.bool false,.bool false,.bool false,.bool false,.bool false,.bool false,.bool false,.bool false,.bool false,.bool false,.bool false,.bool false,.bool false,.bool false,.bool false,.bool false,.bool false,.bool false,.bool false,.bool false,.bool false,.bool false,.bool false,.bool false,.bool false,.bool false,.bool false,.bool false,.bool false,.bool false,.bool false,.bool false,.bool false,.bool false,.bool false,.bool false,.bool false,.bool false,.bool false,.bool false,.bool false,.bool false,.bool false,.bool false,.bool false,.bool false,.bool false,.bool false,.bool false,.bool false,.bool false,.bool false,.bool false,.bool false,.bool false,.bool false,.bool false,.bool false,.bool false,.bool false,.bool false,.bool false,.bool false,.bool false,.bool false,.bool false,.bool false,.bool false,.bool false,.bool false,.bool false,.bool false,.bool false,.bool false,.bool false,.bool false,.bool false,.bool false,.bool false,.bool false,.bool false,.bool false,.bool false,.bool false,.bool false,.bool false,.bool false,.bool false,.bool false,.bool false,.bool false,.bool false,.bool false,.bool false,.bool false,.bool false,.bool false,.bool false,.bool false,.bool false,.bool false,.bool false,.bool false,.bool false,.bool false,.bool false,.bool false,.bool false,.bool false,.bool false,.bool false,.bool false,.bool false,.bool false,.bool false,.bool false,.bool false,.bool false,.bool false,.bool false,.bool false,.bool false,.bool false,.bool false,.bool false,.bool false,.bool false,.bool false,.bool false,.bool false,.bool false,.bool false,.bool false,.bool false,.bool false,.bool false,.bool false,.bool false,.bool false,.bool false,.bool false,.bool false,.bool false,.bool false,.bool false,.bool false,.bool false,.bool false,.bool false,.bool false,.bool false,.bool false,.bool false,.bool false,.bool false,.bool false,.bool false,.bool false,.bool false,.bool false,.bool false,.bool false,.bool false,.bool false,.bool false,.bool false,.bool false,.bool false,.bool false,.bool false,.bool false,.bool false,.bool false,.bool false,.bool false,.bool false,.bool false,.bool false,.bool false,.bool false,.bool false,.bool false,.bool false,.bool false,.bool false,.bool false,.bool false,.bool false,.bool false,.bool false,.bool false,.bool false,.bool false,.bool false,.bool false,.bool false,.bool false,.bool false,.bool false,.bool false,.bool false,.bool false,.bool false,.bool false,.bool false,.bool false,.bool false,.bool false] := {}
instance:bo prog 191 0 0 189 := {}
instance:bo prog 191 1 256 4 := {}
instance:yF prog 239 2 3 1 := {}
instance:fu prog 239 2 := {}
instance:yF prog 240 3 239 2 := {}
instance:Body prog 5:=ay func5
instance:Body prog 6:=ay func6
instance:Body prog 7:=ay func7
instance:Body prog 8:=ay func8
instance:Body prog 12:=ay func12
instance:Body prog 13:=ay func13
instance:Body prog 14:=ay func14
instance:Body prog 15:=ay func15
instance:Body prog 16:=ay func16
instance:Body prog 17:=ay func17
instance:Body prog 18:=ay func18
instance:Body prog 20:=ay func20
instance:Body prog 21:=ay func21
instance:Body prog 22:=ay func22
instance:Body prog 23:=ay func23
instance:Body prog 24:=ay func24
instance:Body prog 25:=ay func25
instance:Body prog 26:=ay func26
instance:Body prog 27:=ay func27
instance:Body prog 28:=ay func28
instance:Body prog 29:=ay func29
instance:Body prog 30:=ay func30
instance:Body prog 31:=ay func31
instance:Body prog 32:=ay func32
instance:Body prog 33:=ay func33
instance:Body prog 34:=ay func34
instance:Body prog 35:=ay func35
instance:Body prog 36:=ay func36
instance:Body prog 37:=ay func37
instance:Body prog 38:=ay func38
instance:Body prog 39:=ay func39
instance:Body prog 40:=ay func40
instance:Body prog 41:=ay func41
instance:Body prog 42:=ay func42
instance:Body prog 43:=ay func43
instance:Body prog 44:=ay func44
instance:Body prog 45:=ay func45
instance:Body prog 46:=ay func46
instance:Body prog 47:=ay func47
instance:Body prog 48:=ay func48
instance:Body prog 49:=ay func49
instance:Body prog 50:=ay func50
instance:Body prog 51:=ay func51
instance:Body prog 52:=ay func52
instance:Body prog 53:=ay func53
instance:Body prog 54:=ay func54
instance:Body prog 55:=ay func55
instance:Body prog 56:=ay func56
instance:Body prog 57:=ay func57
instance:Body prog 58:=ay func58
instance:Body prog 59:=ay func59
instance:Body prog 60:=ay func60
instance:Body prog 61:=ay func61
instance:Body prog 62:=ay func62
instance:Body prog 63:=ay func63
instance:Body prog 64:=ay func64
instance:Body prog 65:=ay func65
instance:Body prog 66:=ay func66
instance:Body prog 67:=ay func67
instance:Body prog 70:=ay func70
instance:Body prog 71:=ay func71
instance:Body prog 72:=ay func72
instance:Body prog 73:=ay func73
instance:Body prog 74:=ay func74
instance:Body prog 75:=ay func75
instance:Body prog 76:=ay func76
instance:Body prog 77:=ay func77
instance:Body prog 78:=ay func78
instance:Body prog 79:=ay func79
instance:Body prog 80:=ay func80
instance:Body prog 81:=ay func81
instance:Body prog 82:=ay func82
instance:Body prog 83:=ay func83
instance:Body prog 84:=ay func84
instance:Body prog 85:=ay func85
instance:Body prog 86:=ay func86
instance:Body prog 87:=ay func87
instance:Body prog 88:=ay func88
instance:Body prog 89:=ay func89
instance:Body prog 90:=ay func90
instance:Body prog 93:=ay func93
instance:Body prog 94:=ay func94
instance:Body prog 95:=ay func95
instance:Body prog 96:=ay func96
instance:Body prog 97:=ay func97
instance:Body prog 98:=ay func98
instance:Body prog 99:=ay func99
instance:Body prog 100:=ay func100
instance:Body prog 101:=ay func101
instance:Body prog 102:=ay func102
instance:Body prog 103:=ay func103
instance:Body prog 104:=ay func104
instance:Body prog 105:=ay func105
instance:Body prog 106:=ay func106
instance:Body prog 107:=ay func107
instance:Body prog 108:=ay func108
instance:Body prog 109:=ay func109
instance:Body prog 110:=ay func110
instance:Body prog 111:=ay func111
instance:Body prog 112:=ay func112
instance:Body prog 115:=ay func115
instance:Body prog 116:=ay func116
instance:Body prog 117:=ay func117
instance:Body prog 118:=ay func118
instance:Body prog 123:=ay func123
instance:Body prog 124:=ay func124
instance:Body prog 125:=ay func125
instance:Body prog 126:=ay func126
instance:Body prog 127:=ay func127
instance:Body prog 128:=ay func128
instance:Body prog 129:=ay func129
instance:Body prog 130:=ay func130
instance:Body prog 131:=ay func131
instance:Body prog 132:=ay func132
instance:Body prog 133:=ay func133
instance:Body prog 134:=ay func134
instance:Body prog 135:=ay func135
instance:Body prog 136:=ay func136
instance:Body prog 137:=ay func137
instance:Body prog 138:=ay func138
instance:Body prog 139:=ay func139
instance:Body prog 140:=ay func140
instance:Body prog 142:=ay func142
instance:Body prog 143:=ay func143
instance:Body prog 144:=ay func144
instance:Body prog 145:=ay func145
instance:Body prog 146:=ay func146
instance:Body prog 147:=ay func147
instance:Body prog 148:=ay func148
instance:Body prog 149:=ay func149
instance:Body prog 150:=ay func150
instance:Body prog 151:=ay func151
instance:Body prog 153:=ay func153
instance:Body prog 154:=ay func154
instance:Body prog 155:=ay func155
instance:Body prog 156:=ay func156
instance:Body prog 157:=ay func157
instance:Body prog 158:=ay func158
instance:Body prog 159:=ay func159
instance:Body prog 161:=ay func161
instance:Body prog 167:=ay func167
instance:Body prog 168:=ay func168
instance:Body prog 169:=ay func169
instance:Body prog 170:=ay func170
instance:Body prog 178:=ay func178
instance:Body prog 179:=ay func179
instance:Body prog 180:=ay func180
theorem mixed:prog.follows .mixedOrders=true:=by kernel_rfl
structure Region where
 aU:Int
 aA:Int
 deriving DecidableEq
structure Block where
 At:Int
 Order:Int
 Ty:Int
 deriving DecidableEq
structure ak where
 aU:Int
 To:Int
 aj:List Block
 Types:List Int
 deriving DecidableEq
structure aR where
 fV:Int
 ak:Int
 Ty:Int
 ax:List Int
structure Heap where
 bp:List ak
 dK:List Int
 bG:Int
 av:List aR
 Live:List Block
structure Slab where
 At:Int
 aj:Int
 cf:Int
 deriving DecidableEq
variable {α:Type}
theorem qt (A:Option Addr) (n c:Nat) (x k:Int) (w:World) (hn:n<=2305843009213693952) : bI prog 127 [.slice A n c,.int .i64 x,.int .i64 k] w fun v _=>v = .bool (decide (0<=x∧0<=k∧k<=n∧x+k<=n)):=by
 refine aE func127 rfl ntmps127 rfl ?_;repeat' (first|refine Wz ?_|refine SW.fZ rfl rfl rfl (fun h => ?_) (fun h => ?_))
 all_goals refine ae.bj rfl rfl ⟨_,rfl,Ext.refl _,?_⟩
 all_goals congr 1
 all_goals symm
 all_goals first|(refine decide_eq_true ?_;omega)|(refine decide_eq_false ?_;omega)|(rw [decide_eq_decide];omega)
def yS (w:World) (e sz:Nat) (enc : α -> List Value) (n:Nat) (l:List α) : Value->World->Prop:=fun v w' => ∃ A c,v = .slice A n c∧Own w' w.heap.size e sz enc A n c l
theorem dB (A:Option Addr) (n c:Nat) (l:List Int) (w:World) (hl:Sl w 1 bw A n l) (hn:n*8<=140737488355328) : bI prog 37 [.slice A n c] w (yS w 3 1 bw n l):=by
 refine aE func37 rfl ntmps37 rfl ?_;have hw:=Ext.refl w;refine Wz ?_;refine SW.st (rO rfl rfl) rfl ?_;repeat' (first|refine Wz ?_|(refine CW.cond rfl (fun h => ?_) (fun h => ?_)))
 ·have F4:n=0:=by
   rcases adj n with h0|h0
   ·exact h0
   ·have:=hl.base h0;simp_all
  subst F4;have:l=[]:=adl hl.len
  subst this;exact ae.bj rfl rfl ⟨_,rfl,hw,none,0,rfl,Own.fv _ _ _ _ _ _⟩
 ·refine SW.yL rfl fun b w1 ai hb => ?_
  have hw:=hw.trans ai;refine Wz ?_;refine SW.uH (aet n) (adV l) (Own.fv w1 w.heap.size _ _ bw (some ⟨b,0,none⟩)) (hl.ext hw) hw.size rfl rfl rfl (by omega) (by omega) fun A2 c2 w2 hO hg => ?_
  have hw:=aF hw hg (ac3 _) (by simp [aI]);refine Wz ?_;exact ae.bj rfl rfl ⟨_,rfl,hw,A2,c2,rfl,hO⟩
theorem NX (k:Int) (w:World) : bI prog 22 [.int .i64 k] w fun v w' =>
 if 0<=k∧k<=256 then ∃ A c,v = .tuple #[.slice A (16*k).toNat c,.int .i64 0]∧Own w' w.heap.size 3 1 bw A (16*k).toNat c (List.replicate (16*k).toNat 0) else v = .tuple #[.slice none 0 0,.int .i64 1]:=by
 refine aE func22 rfl ntmps22 rfl ?_;have hw:=Ext.refl w;repeat' (first|refine Wz ?_|(refine CW.uA rfl (fun h => ?_) (fun h => ?_))|refine SW.fZ rfl rfl rfl (fun h => ?_) (fun h => ?_))
 ·refine ae.dj rfl rfl rfl ⟨_,rfl,hw,?_⟩;rw [if_neg (by omega)]
 ·refine ae.dj rfl rfl rfl ⟨_,rfl,hw,?_⟩;rw [if_neg (by omega)]
 ·refine SW.make (enc:=bw) (k:=(16*k).toNat) 0 rfl rfl (by omega) (by omega) (by omega) rfl fun A c w1 ai hO => ?_
  have hw:=hw.trans ai;refine Wz ?_;refine ae.dj rfl rfl rfl ⟨_,rfl,hw,?_⟩;rw [if_pos (by omega)];exact ⟨A,c,rfl,hO⟩
def Region.ok (r:Region) : Prop:=0<=r.aU∧1<=r.aA∧r.aA<=256∧r.aU+r.aA<=256
instance (r:Region) : Decidable r.ok:=inferInstanceAs (Decidable (_∧_))
def iz (r:Region) : List Value:=[.int .i64 r.aU,.int .i64 r.aA]
theorem rl (r:Region) (w:World) : bI prog 130 [.agg (iz r).toArray] w fun v _=>v = .int .i64 (if r.ok then 0 else 1):=by
 refine aE func130 rfl ntmps130 rfl ?_;refine CW.seq (CW.region (SW.box rfl rfl fun b w1 hw hb hB => ?_));repeat' (first|refine Wz ?_|(refine CW.uA rfl (fun h => ?_) (fun h => ?_))|refine SW.fZ rfl rfl rfl (fun h => ?_) (fun h => ?_))
 all_goals refine ae.bj rfl rfl ⟨_,rfl,hw,?_⟩
 all_goals first|rw [if_pos (by unfold Region.ok;omega)] | rw [if_neg (by unfold Region.ok;omega)]
instance:im iz 2:=⟨fun _=>rfl,fun r u hu=>by simp [iz] at hu;rcases hu with rfl|rfl<;>rfl⟩
def gZ (l:List Region) : Prop:=l.length<=40 ∧ ∀ (i:Nat) (h:i<l.length),(l[i]).ok ∧ ∀ (h0 : 0<i),(l[i-1]'(by omega)).aU+(l[i-1]'(by omega)).aA<(l[i]).aU
noncomputable def eR (l:List Region) : Bool := @decide (gZ l) (Classical.propDecidable _)
theorem lU {l:List Region} (h:gZ l) : eR l=true:=by unfold eR;exact @decide_eq_true _ (Classical.propDecidable _) h
theorem qu {l:List Region} (h : ¬ gZ l) : eR l=false:=by unfold eR;exact @decide_eq_false _ (Classical.propDecidable _) h
theorem uJ {l:List Region}:eR l=true↔gZ l:=by
 by_cases h:gZ l
 ·simp [lU h,h]
 ·simp [qu h,h]
theorem rS {r:Region} (h:r.ok) (w:World) : bI prog 130 [.agg (iz r).toArray] w fun v _=>v = .int .i64 0:=(rl r w).mono fun _ _ _ hv=>by rw [hv,if_pos h]
theorem yT {r:Region} (h : ¬ r.ok) (w:World) : bI prog 130 [.agg (iz r).toArray] w fun v _=>v = .int .i64 1:=(rl r w).mono fun _ _ _ hv=>by rw [hv,if_neg h]
theorem yU {r:Region} (h:r.ok) (w:World) : bI prog 79 [.agg (iz r).toArray] w fun v _=>v = .int .i64 (r.aU+r.aA):=by
 obtain ⟨h1,h2,h3,h4⟩:=h;refine aE func79 rfl ntmps79 rfl ?_;refine CW.seq (CW.region (SW.box rfl rfl fun b w1 hw hb hB => ?_));refine Wz ?_;exact ae.bj rfl rfl ⟨_,rfl,hw,rfl⟩
def aO (b:Block) : List Value:=[.int .i64 b.At,.int .i64 b.Order,.int .i64 b.Ty]
instance:im aO 3:=⟨fun _=>rfl,fun r u hu=>by simp [aO] at hu;rcases hu with rfl|rfl|rfl<;>rfl⟩
def bf (b:Slab) : List Value:=[.int .i64 b.At,.int .i64 b.aj,.int .i64 b.cf]
instance:im bf 3:=⟨fun _=>rfl,fun r u hu=>by simp [bf] at hu;rcases hu with rfl|rfl|rfl<;>rfl⟩
theorem lg (A:Option Addr) (n c:Nat) (l:List Block) (w:World) (hl:Sl w 3 aO A n l) (hn:n*24<=140737488355328) : bI prog 76 [.slice A n c] w (yS w 147 3 aO n l):=by
 refine aE func76 rfl ntmps76 rfl ?_;have hw:=Ext.refl w;refine Wz ?_;refine SW.st (rO rfl rfl) rfl ?_;repeat' (first|refine Wz ?_|(refine CW.cond rfl (fun h => ?_) (fun h => ?_)))
 ·have F4:n=0:=by
   rcases adj n with h0|h0
   ·exact h0
   ·have:=hl.base h0;simp_all
  subst F4;have:l=[]:=adl hl.len
  subst this;exact ae.bj rfl rfl ⟨_,rfl,hw,none,0,rfl,Own.fv _ _ _ _ _ _⟩
 ·refine SW.yL rfl fun b w1 ai hb => ?_
  have hw:=hw.trans ai;refine Wz ?_;refine SW.uH (aet n) (adV l) (Own.fv w1 w.heap.size _ _ aO (some ⟨b,0,none⟩)) (hl.ext hw) hw.size rfl rfl rfl (by omega) (by omega) fun A2 c2 w2 hO hg => ?_
  have hw:=aF hw hg (ac3 _) (by simp [aI]);refine Wz ?_;exact ae.bj rfl rfl ⟨_,rfl,hw,A2,c2,rfl,hO⟩
variable {a o:Int} {z:ak}
def pw (o:Int) : Int:=2 ^ o.toNat
theorem fB (h0 : 0<=o) (h4:o<=4) : (o=0∧pw o=1)∨(o=1∧pw o=2)∨(o=2∧pw o=4)∨(o=3∧pw o=8)∨(o=4∧pw o=16):=by
 have:o=0∨o=1∨o=2∨o=3∨o=4:=by omega
 rcases this with rfl|rfl|rfl|rfl|rfl<;>decide
theorem cy (h0 : 0<=o) (h4:o<=4) : 1<=pw o∧pw o<=16:=by rcases fB h0 h4 with h|h|h|h|h<;>omega
theorem qv (h0 : 0<=o) (h4:o<=4) : pw (o+1)=2*pw o:=by
 have:o=0∨o=1∨o=2∨o=3∨o=4:=by omega
 rcases this with rfl|rfl|rfl|rfl|rfl<;>decide
def beside (a o:Int) : Int:=if a % (2*pw o)=0 then a+pw o else a-pw o
theorem uK:∀ a<256,∀ o<4,a % 2 ^ o=0->((a ^^^ 2 ^ o:Nat) : Int)=if (a:Int) % (2*2 ^ o)=0 then (a:Int)+2 ^ o else (a:Int)-2 ^ o:=by decide +kernel
theorem F5 {a:Nat} (ha:a<256) (h0 : 0<=o) (h4:o<4) (h:(a:Int) % pw o=0) : ((a ^^^ 2 ^ o.toNat:Nat) : Int)=beside a o:=by
 have:o=0∨o=1∨o=2∨o=3:=by omega
 rcases this with rfl|rfl|rfl|rfl
 ·exact uK a ha 0 (by omega) (by simp only [pw] at h;omega)
 ·exact uK a ha 1 (by omega) (by
   rw [show pw 1=2 by decide] at h;simp;omega)
 ·exact uK a ha 2 (by omega) (by
   rw [show pw 2=4 by decide] at h;simp;omega)
 ·exact uK a ha 3 (by omega) (by
   rw [show pw 3=8 by decide] at h;simp;omega)
def j9 (f t a o:Int) : Prop:=0<=o∧o<=4∧f<=a∧a<t∧a % pw o=0
instance (f t a o:Int) : Decidable (j9 f t a o):=inferInstanceAs (Decidable (_∧_))
def kH (t:Int) : Prop:=0<=t∧t<=2
instance (t:Int) : Decidable (kH t):=inferInstanceAs (Decidable (_∧_))
def mQ (a b:Block) : Prop:=a.At+pw a.Order<=b.At ∧ ¬ (b.Order<4∧a.Order=b.Order∧a.At=beside b.At b.Order)
instance (a b:Block) : Decidable (mQ a b):=inferInstanceAs (Decidable (_∧_))
def kV (f t:Int) (b:Block) : Prop:=j9 f t b.At b.Order∧kH b.Ty
instance (f t:Int) (b:Block) : Decidable (kV f t b):=inferInstanceAs (Decidable (_∧_))
def fC (f t:Int) : Prop:=0<=f∧f<=t∧t<=256∧f % 16=0∧t % 16=0
instance (f t:Int) : Decidable (fC f t):=inferInstanceAs (Decidable (_∧_))
structure bU (z:ak) : Prop where
 ok:fC z.aU z.To
 len : 8*(z.Types.length:Int)=z.To-z.aU
 types:∀ t∈z.Types,kH t
 eG:∀ (i:Nat) (h:i<z.aj.length),kV z.aU z.To z.aj[i]
 next:∀ (i:Nat) (h:i+1<z.aj.length),mQ z.aj[i] z.aj[i+1]
noncomputable def fD (z:ak) : Bool := @decide (bU z) (Classical.propDecidable _)
theorem xV (h:bU z) : fD z=true:=by unfold fD;exact @decide_eq_true _ (Classical.propDecidable _) h
theorem qw (h : ¬ bU z) : fD z=false:=by unfold fD;exact @decide_eq_false _ (Classical.propDecidable _) h
theorem fg:fD z=true↔bU z:=by
 by_cases h:bU z
 ·simp [xV h,h]
 ·simp [qw h,h]
def idxOf (p : α -> Bool) (l:List α) : Int:=if l.any p then (l.findIdx p:Int) else -1
def jW (l:List Block) : Int:=(l.map fun b=>pw b.Order).sum
theorem uL (l:List Block) (k:Nat) (h:k<l.length) : jW (l.take (k+1))=jW (l.take k)+pw l[k].Order:=by
 unfold jW;rw [ac5 h,adr,List.sum_append];simp
theorem o7 (h:bU z) : ∀ k,k<=z.aj.length->0<=jW (z.aj.take k)∧jW (z.aj.take k)<=16*(k:Int)
 | 0,_=>by simp [jW]
 | k+1,hk=>by
   have ih:=o7 h k (by omega);have hb:=(h.eG k (by omega)).1;have:=cy hb.1 hb.2.1
   rw [uL _ _ (by omega)];omega
theorem HU (hz:bU z) (h1:z.aU<=a) (h2:a<z.To) : ∃ k:Nat,(a-z.aU) / 8=k∧k<z.Types.length:=by
 have:=hz.len
 exact ⟨((a-z.aU) / 8).toNat,by omega,by omega⟩
variable {f:Int} {cs:List Value} {b lo ov:Nat} {w w':World}
structure ga where
 A:Option Addr
 n:Nat
 c:Nat
def ga.v (s:ga) : Value := .slice s.A s.n s.c
def ga.nil:ga:=⟨none,0,0⟩
structure dZ where
 aU:Int
 To:Int
 aj:ga
 Types:ga
def dp (z:dZ) : List Value:=[.int .i64 z.aU,.int .i64 z.To,z.aj.v,z.Types.v]
instance:im dp 4:=⟨fun _=>rfl,fun r u hu=>by simp [dp,ga.v] at hu;rcases hu with rfl|rfl|rfl|rfl<;>rfl⟩
theorem fE (r:dZ) : ∀ v∈dp r,v.oneCell'=true:=im.one (enc:=dp) r
structure F6 (w:World) (r:dZ) (z:ak) : Prop where
 from_:r.aU=z.aU
 o8:r.To=z.To
 free:Sl w 3 aO r.aj.A r.aj.n z.aj
 types:Sl w 1 bw r.Types.A r.Types.n z.Types
structure iA (w:World) (lo:Nat) (r:dZ) (z:ak) : Prop where
 from_:r.aU=z.aU
 o8:r.To=z.To
 free:Own w lo 147 3 aO r.aj.A r.aj.n r.aj.c z.aj
 types:Own w lo 3 1 bw r.Types.A r.Types.n r.Types.c z.Types
theorem F6.ext {r:dZ} {z:ak} (h:F6 w r z) (hx:Ext w w') : F6 w' r z:=⟨h.from_,h.o8,h.free.ext hx,h.types.ext hx⟩
theorem iA.ext {r:dZ} {z:ak} (h:iA w lo r z) (hx:Ext w w') : iA w' lo r z:=⟨h.from_,h.o8,h.free.ext hx,h.types.ext hx⟩
theorem iA.low {r:dZ} {z:ak} (h:iA w lo r z) (hl:ov<=lo) : iA w ov r z:=⟨h.from_,h.o8,h.free.low hl,h.types.low hl⟩
theorem iA.rd {r:dZ} {z:ak} (h:iA w lo r z) : F6 w r z:=⟨h.from_,h.o8,h.free.sl,h.types.sl⟩
theorem iA.eG {t:Nat} {r:dZ} {z:ak} (h:iA w lo r z) (hB:aS w b t cs) (hg:w.grownBy w' (some b)) (h1:Nat.beq t 147=false) (h2:Nat.beq t 3=false) : iA w' lo r z :=
 ⟨h.from_,h.o8,h.free.grown hg (.inr (h.free.fb hB h1)),h.types.grown hg (.inr (h.types.fb hB h2))⟩
def ak.zero:ak:=⟨0,0,[],[]⟩
def dZ.zero:dZ:=⟨0,0,.nil,.nil⟩
theorem iA.zero (w:World) (lo:Nat) : iA w lo .zero .zero:=⟨rfl,rfl,Own.fv _ _ _ _ _ _,Own.fv _ _ _ _ _ _⟩
theorem sL (r:dZ) (z:ak) (w:World) (hr:F6 w r z) (hn:r.aj.n*24<=140737488355328) (hm:r.Types.n*8<=140737488355328) :
 bI prog 77 [.agg (dp r).toArray] w fun v w' => ∃ s,v = .agg (dp s).toArray∧iA w' w.heap.size s z∧s.aj.n=r.aj.n∧s.Types.n=r.Types.n:=by
 refine aE func77 rfl ntmps77 rfl ?_;refine CW.seq (CW.region (SW.box rfl rfl fun b w1 hw hb hB => ?_));refine SW.alloc rfl fun b2 w2 bt au qg => ?_
 have uM:=hw.up au
 have bL:b2≠b:=by have:=hB.lt;omega
 obtain ⟨hw,hB⟩:=cX bt hw hB;have DK:=hb;refine Wz ?_;refine CW.any 7 mixed (dg (by kernel_rfl)) rfl fun w1 ai aJ => ?_
 obtain ⟨hw,hB,qg⟩:=cj ai hw hB qg;clear ai;refine Wa ?_;refine SA.one 2 rfl (by kernel_rfl) rfl ?_;refine Wk (lg _ _ _ _ _ (hr.free.ext hw) hn) fun v w4 ar hv => ?_
 obtain ⟨X,c4,rfl,hX⟩:=hv;have hX:=hX.low hw.size;obtain ⟨hw,hB,qg⟩:=cj ar hw hB qg;refine SW.nil (ae.sa ar ?_);refine Wa ?_;refine SA.one 5 rfl (by kernel_rfl) rfl ?_;refine Wk (dB _ _ _ _ _ (hr.types.ext hw) hm) fun v w4 ar hv => ?_
 obtain ⟨Y,d4,rfl,hY⟩:=hv;have hY:=hY.low hw.size;obtain ⟨hX,hw,hB,qg⟩:=dG ar hX hw hB qg;refine SW.nil (ae.sa ar ?_);refine SA.done (by kernel_rfl) ?_;skip;refine Wb (i:=2) hB fun w5 vI hg => ?_
 have hw:=hw.own DK hg;have hX:=hX.grown hg (.inr (hX.fb hB rfl));have hY:=hY.grown hg (.inr (hY.fb hB rfl));have qg:=qg.grown hg (by simpa using bL);refine Wz ?_;refine Wb (i:=3) vI fun w6 Vd hg => ?_
 have hw:=hw.own DK hg;have hX:=hX.grown hg (.inr (hX.fb vI rfl));have hY:=hY.grown hg (.inr (hY.fb vI rfl));have qg:=qg.grown hg (by simpa using bL);repeat' (first|refine Wz ?_|refine Wm ((fun _ _=>Vd.cell)) ?_)
 refine SW.ag qg rfl rfl rfl rfl (fE ⟨r.aU,r.To,⟨X,r.aj.n,c4⟩,⟨Y,r.Types.n,d4⟩⟩) fun w7 cS hg => ?_
 have hw:=hw.own uM hg;have hX:=hX.grown hg (.inr (hX.fb qg rfl));have hY:=hY.grown hg (.inr (hY.fb qg rfl));refine Wz ?_;exact ae.DZ rfl rfl cS rfl ⟨_,rfl,hw,⟨r.aU,r.To,⟨X,r.aj.n,c4⟩,⟨Y,r.Types.n,d4⟩⟩,rfl,⟨hr.from_,hr.o8,hX,hY⟩,rfl,rfl⟩
def jt (f t:Int) : Int×ak:=if fC f t then (0,⟨f,t,[],List.replicate ((t-f) / 8).toNat 1⟩) else (1,.zero)
def xW (lo:Nat) (r:Int×ak) (v:Value) (w:World) : Prop := ∃ s:dZ,v = .tuple #[.agg (dp s).toArray,.int .i64 r.1]∧iA w lo s r.2
theorem tT {t:Int} (h : ¬ fC f t) : jt f t=(1,.zero):=if_neg h
theorem lV {t:Int} (h:fC f t) : jt f t=(0,⟨f,t,[],List.replicate ((t-f) / 8).toNat 1⟩):=if_pos h
theorem CO {x:Int} (h : 0<=x) : x.tmod 16=x % 16:=adE h
theorem NY (k i:Nat) (h:i<k) : (List.replicate i (1:Int)++List.replicate (k-i) 0).set i 1=List.replicate (i+1) 1++List.replicate (k-(i+1)) 0:=by
 apply adR (by simp;omega);intro j h1 h2;rw [adq];by_cases hj:i=j
 ·subst hj;simp
 ·simp only [hj,if_false,List.getElem_append,List.length_replicate,List.getElem_replicate];by_cases h3:j<i
  ·simp [h3,show j<i+1 by omega]
  ·simp [h3,show ¬ j<i+1 by omega]
theorem yV (f t:Int) (w:World) (hf : -9223372036854775808<=f∧f<=9223372036854775807) (ht : -9223372036854775808<=t∧t<=9223372036854775807) : bI prog 44 [.int .i64 f,.int .i64 t] w (xW w.heap.size (jt f t)):=by
 refine aE func44 rfl ntmps44 rfl ?_;refine CW.seq (CW.region (SW.alloc rfl fun b4 w1 hw fJ aH => ?_));have eu:=fJ;by_cases lP:fC f t
 ·obtain ⟨h1,h2,h3,h4,h5⟩:=id lP;have m1:=CO h1;have m2:=CO (show 0<=t by omega);rw [lV lP];obtain ⟨k,hk⟩ : ∃ k:Nat,(t-f) / 8=k:=⟨((t-f) / 8).toNat,by omega⟩;refine Wz ?_;refine SW.make (enc:=bw) (k:=k) 0 rfl rfl (by omega) (by omega) (by omega) rfl fun A c w2 bt hO => ?_
  have hO:=hO.low hw.size;(obtain ⟨hw,aH⟩:=cX bt hw aH);refine Wz ?_;refine SW.alloc rfl fun b6 w1 ai dt aq => ?_
  have cG:=hw.up dt
  have Qq:b4≠b6:=by have:=aH.lt;omega
  obtain ⟨hw,aH,hO⟩:=cj ai hw aH hO;refine SW.ag aq rfl rfl rfl rfl (fE ⟨f,t,.nil,⟨A,k,c⟩⟩) fun w2 bP hg => ?_
  have hw:=hw.own cG hg;have hO:=hO.grown hg (.inr (hO.fb aq rfl));have aH:=aH.grown hg (by simpa using Qq);have aq:=bP;clear bP ai hg dt;have hA:=hO.sl.base;refine Wz ?_
  refine CW.loop (fun i:Nat=>[(4,.pointer (some ⟨b4,0,none⟩)),(6,.pointer (some ⟨b6,0,none⟩)),(40,.int .i64 (k:Int)),(41,.int .i64 (i:Int))])
   (fun i w'=>i<=k∧Ext w w'∧aS w' b4 117 (dp .zero)∧aS w' b6 117 (dp ⟨f,t,.nil,⟨A,k,c⟩⟩)∧Own w' w.heap.size 3 1 bw A k c (List.replicate i 1++List.replicate (k-i) 0)) (fun i=>k-i) 0
   ⟨rfl,rfl,rfl,rfl,trivial⟩ ⟨by omega,hw,aH,aq,by simpa using hO⟩ ?_
  clear hw aH aq hO;rintro i w' ⟨hi,hw,aH,aq,hO⟩
  have hA:=hO.sl.base;by_cases D0:i<k
  ·refine Wz ?_;refine SW.qp i hO rfl rfl D0 fun w3 D4 hg => ?_
   have hw:=aF hw hg (ac3 _) hO.ba;have aH:=aH.grown hg (fun e=>hO.fb aH rfl e.symm);have aq:=aq.grown hg (fun e=>hO.fb aq rfl e.symm);rw [NY k i D0] at D4;refine Wz ?_;exact ae.again (i+1) ⟨rfl,rfl,rfl,rfl,trivial⟩ (by omega) ⟨by omega,hw,aH,aq,D4⟩
  ·obtain rfl:i=k:=by omega
   simp only [Nat.sub_self,List.replicate_zero,List.append_nil] at hO;refine Wz ?_;refine SW.ag aH rfl rfl rfl rfl (fE ⟨f,t,.nil,⟨A,i,c⟩⟩) fun w5 cS hg => ?_
   have hw:=hw.own eu hg;have hO:=hO.grown hg (.inr (hO.fb aH rfl));refine Wz ?_;refine ae.dw rfl rfl rfl cS rfl ⟨_,rfl,hw,⟨f,t,.nil,⟨A,i,c⟩⟩,rfl,rfl,rfl,Own.fv _ _ _ _ _ _,?_⟩;simp only [hk,Int.toNat_natCast];exact hO
 ·rw [tT lP];unfold fC at lP;have m1:=fun h => @CO f h
  have m2:=fun h => @CO t h
  by_cases h1 : 0<=f
  ·have m1:=m1 h1;by_cases h2:f<=t
   ·have m2:=m2 (by omega);repeat' (first|refine Wz ?_|refine SW.fZ rfl rfl rfl (fun h => ?_) (fun h => ?_)|refine SW.CF rfl rfl rfl (fun h => ?_) (fun h => ?_))
    all_goals
     first
      | (exfalso;omega)
      | (refine SW.ag aH rfl rfl rfl rfl (fE .zero) fun w5 cS hg => ?_
         have hw:=hw.own eu hg;refine Wz ?_;exact ae.dw rfl rfl rfl cS rfl ⟨_,rfl,hw,.zero,rfl,iA.zero _ _⟩)
   ·repeat' (first|refine Wz ?_|refine SW.fZ rfl rfl rfl (fun h => ?_) (fun h => ?_))
    all_goals
     refine SW.ag aH rfl rfl rfl rfl (fE .zero) fun w5 cS hg => ?_
     have hw:=hw.own eu hg;refine Wz ?_;exact ae.dw rfl rfl rfl cS rfl ⟨_,rfl,hw,.zero,rfl,iA.zero _ _⟩
  ·refine Wz ?_
   all_goals
    refine SW.ag aH rfl rfl rfl rfl (fE .zero) fun w5 cS hg => ?_
    have hw:=hw.own eu hg;refine Wz ?_;exact ae.dw rfl rfl rfl cS rfl ⟨_,rfl,hw,.zero,rfl,iA.zero _ _⟩
variable {y:Operand} {t ty:TypeId} {p:α -> Bool}
section
variable {P:Program} {L:Env} {w:World} {d:Option Nat} {T:TypeId} {pos:String} {af:Array Edge} {g:Option (Nat×Bool)}
theorem Qr {x:Operand} {i j:Int} (a b:Nat) (hx:cK L x=some (.int .i64 i)) (hy:cK L y=some (.int .i64 j)) (ha:i=(a:Int)) (hb:j=(b:Int)) (mm:a<9223372036854775808) (iq:b<9223372036854775808) :
 St P ⟨d,.binOp .xor t x y ty,T,pos,af,g⟩ L w (.int .i64 ((a ^^^ b:Nat) : Int)) :=
 ⟨fun n A hA w' _=>by
  have e1:=hA.eval hx;have e2:=hA.eval hy;subst ha hb;generalize A.eval = ρ at *
  have eQ:a ^^^ b<2 ^ 63:=Nat.xor_lt_two_pow (by omega) (by omega)
  have e:(BitVec.ofInt 64 (a:Int) ^^^ BitVec.ofInt 64 (b:Int)).toNat=a ^^^ b:=by
   rw [BitVec.toNat_xor,BitVec.ofInt_natCast,BitVec.ofInt_natCast,BitVec.toNat_ofNat,BitVec.toNat_ofNat,aeE (by omega),aeE (by omega)]
  have aW:(Op.intBits .xor .i64 (a:Int) (b:Int)).run P w' = .ok (.int .i64 ((a ^^^ b:Nat) : Int)) w':=by
   have:Op.intBits .xor .i64 (a:Int) (b:Int)=(pure (.int .i64 (IntKind.i64.wrap ((BitVec.ofInt 64 (a:Int) ^^^ BitVec.ofInt 64 (b:Int)).toNat:Nat))) : Sem Value):=rfl
   rw [this,e,jf (by omega) (by omega)]
   rfl
  have au:(binOp .xor t (.int .i64 (a:Int)) (.int .i64 (b:Int))).run P w' = .ok (.int .i64 ((a ^^^ b:Nat) : Int)) w':=by
   have:binOp .xor t (.int .i64 (a:Int)) (.int .i64 (b:Int))=Op.intBits .xor .i64 (a:Int) (b:Int):=by simp [binOp]
   rw [this,aW]
  simp [execOp,e1,e2,eqGuard,au]⟩
theorem nD {x:Operand} {i j:Int} (a o:Int) (hx:cK L x=some (.int .i64 i)) (hy:cK L y=some (.int .i64 j)) (hi:i=a) (hj:j=pw o) (h : 0<=a∧a<256∧0<=o∧o<4∧a % pw o=0) :
 St P ⟨d,.binOp .xor t x y ty,T,pos,af,g⟩ L w (.int .i64 (beside a o)):=by
 obtain ⟨h1,h2,h3,h4,h5⟩:=h;subst hi hj;obtain ⟨k,rfl⟩:=ada h1;have hp:=cy h3 (by omega);have e:pw o=((2 ^ o.toNat:Nat) : Int):=by unfold pw;simp
 have eQ:(2 ^ o.toNat:Nat)<9223372036854775808:=by omega
 have:=Qr (P:=P) (t:=t) (ty:=ty) (w:=w) (d:=d) (T:=T) (pos:=pos) (af:=af) (g:=g) k (2 ^ o.toNat) hx hy rfl e (by omega) eQ
 rw [F5 (by omega) h3 h4 h5] at this;exact this
end
theorem sM (r:dZ) (b:Block) (w:World) (h0 : 0<=r.aU) : bI prog 132 [.agg (dp r).toArray,.agg (aO b).toArray] w fun v _=>v = .bool (decide (j9 r.aU r.To b.At b.Order)):=by
 refine aE func132 rfl ntmps132 rfl ?_;refine CW.seq (CW.region (SW.box rfl rfl fun b1 w1 hw aW h1 => ?_));refine SW.box rfl rfl fun b2 w2 bt au h2 => ?_
 (obtain ⟨hw,h1⟩:=cX bt hw h1);by_cases hf:j9 r.aU r.To b.At b.Order
 ·obtain ⟨a1,a2,a3,a4,a5⟩:=id hf;have hp:=cy a1 a2;rw [decide_eq_true hf];have e:b.At.tmod (pw b.Order)=0:=by rw [adE (by omega)];exact a5
  repeat' (first|refine Wz ?_|((apply CW.bF mixed;(· kernel_rfl);rotate_left;intro w1 ai;obtain ⟨hw,h1,h2⟩:=cj ai hw h1 h2;clear ai;rotate_right))|(refine SW.st (fA (r:=pw b.Order) rfl rfl (by omega) (by omega) (by simp [pw]) (by omega) (by omega)) rfl ?_)|exact SW.eI rfl)
  exact ae.bj rfl rfl ⟨_,rfl,hw,by simp [e]⟩
 ·rw [decide_eq_false hf];by_cases a1 : 0<=b.Order
  ·by_cases a2:b.Order<=4
   ·by_cases a3:r.aU<=b.At
    ·by_cases a4:b.At<r.To
     ·have hp:=cy a1 a2
      have e:b.At.tmod (pw b.Order)≠0:=by
       rw [adE (by omega)];exact fun a5=>hf ⟨a1,a2,a3,a4,a5⟩
      repeat' (first|refine Wz ?_|((apply CW.bF mixed;(· kernel_rfl);rotate_left;intro w1 ai;obtain ⟨hw,h1,h2⟩:=cj ai hw h1 h2;clear ai;rotate_right))|(refine SW.st (fA (r:=pw b.Order) rfl rfl (by omega) (by omega) (by simp [pw]) (by omega) (by omega)) rfl ?_)|exact SW.eI rfl)
      exact ae.bj rfl rfl ⟨_,rfl,hw,by simp [e]⟩
     ·repeat' (first|refine Wz ?_|((apply CW.bF mixed;(· kernel_rfl);rotate_left;intro w1 ai;obtain ⟨hw,h1,h2⟩:=cj ai hw h1 h2;clear ai;rotate_right))|exact SW.eI rfl)
      exact ae.bj rfl rfl ⟨_,rfl,hw,by simp [*]⟩
    ·repeat' (first|refine Wz ?_|((apply CW.bF mixed;(· kernel_rfl);rotate_left;intro w1 ai;obtain ⟨hw,h1,h2⟩:=cj ai hw h1 h2;clear ai;rotate_right))|exact SW.eI rfl)
     exact ae.bj rfl rfl ⟨_,rfl,hw,by simp [*]⟩
   ·repeat' (first|refine Wz ?_|((apply CW.bF mixed;(· kernel_rfl);rotate_left;intro w1 ai;obtain ⟨hw,h1,h2⟩:=cj ai hw h1 h2;clear ai;rotate_right))|exact SW.eI rfl)
    exact ae.bj rfl rfl ⟨_,rfl,hw,by simp [*]⟩
  ·repeat' (first|refine Wz ?_|((apply CW.bF mixed;(· kernel_rfl);rotate_left;intro w1 ai;obtain ⟨hw,h1,h2⟩:=cj ai hw h1 h2;clear ai;rotate_right))|exact SW.eI rfl)
   exact ae.bj rfl rfl ⟨_,rfl,hw,by simp [*]⟩
theorem pC (b:Block) (w:World) (h : 0<=b.Order∧b.Order<=4) (ha : 0<=b.At∧b.At<=256) : bI prog 133 [.agg (aO b).toArray] w fun v _=>v = .int .i64 (b.At+pw b.Order):=by
 refine aE func133 rfl ntmps133 rfl ?_;refine CW.seq (CW.region (SW.box rfl rfl fun b1 w1 hw aW h1 => ?_));have hp:=cy h.1 h.2;repeat' (first|refine Wz ?_|((apply CW.bF mixed;(· kernel_rfl);rotate_left;intro w1 ai;obtain ⟨hw,h1⟩:=cX ai hw h1;clear ai;rotate_right))|(refine SW.st (fA (r:=pw b.Order) rfl rfl (by omega) (by omega) (by simp [pw]) (by omega) (by omega)) rfl ?_)|exact SW.eI rfl)
 exact ae.bj rfl rfl ⟨_,rfl,hw,rfl⟩
theorem nE {l:List α} (h:k<l.length) (hp:p l[k]=true) (hf:∀ j (hj:j<l.length),j<k->p l[j]=false) : idxOf p l=(k:Int):=by
 have e:l.findIdx p=k:=(List.findIdx_eq h).2 ⟨hp,fun j hj=>hf j (by omega) hj⟩
 have e2:l.any p=true:=ade.2 ⟨l[k],ac0 h,hp⟩
 simp [idxOf,e,e2]
theorem kI {l:List α} (hf:∀ j (hj:j<l.length),p l[j]=false) : idxOf p l = -1∧l.any p=false:=by
 have e:l.any p=false:=by
  rw [ado];intro x hx;obtain ⟨j,hj,rfl⟩:=ac1 hx;simp [hf j hj]
 exact ⟨by simp [idxOf,e],e⟩
theorem mx (p : α -> Bool) (l:List α) : decide (0<=idxOf p l)=l.any p:=by
 unfold idxOf;by_cases h:l.any p=true
 ·simp [h]
 ·simp [h]
theorem vJ (A:Option Addr) (n c:Nat) (l:List Int) (w:World) (hl:Sl w 1 bw A n l) (f:FuncId) (cap:List Value) [Body prog f] (p:Int->Bool) (arg:Int->Value) (qx:∀ x,arg x=(if 1=1 then (bw x)[0]?.getD undef else .agg (bw x).toArray))
 (hf:∀ x∈l,∀ w',Ext w w'->bI prog f ([arg x]++cap) w' fun v _=>v = .bool (p x)) (hn:n<=9223372036854775807) :
 bI prog 147 [.slice A n c,.func (.func f) #[] cap.toArray] w fun v _=>v = .int .i64 (idxOf p l):=by
 refine aE func147 rfl ntmps147 rfl ?_;have hw:=Ext.refl w;have hA:=hl.base;refine Wz ?_;refine CW.loop (fun k:Nat=>[(0,.slice A n c),(1,.func (.func f) #[] cap.toArray),(7,.int .i64 (n:Int)),(8,.int .i64 (k:Int))]) (fun k w'=>k<=n∧Ext w w' ∧ ∀ j (hj:j<l.length),j<k->p l[j]=false) (fun k=>n-k) 0 ⟨rfl,rfl,rfl,rfl,trivial⟩ ⟨by omega,hw,fun j _ h=>by omega⟩ ?_;clear hw;rintro k w' ⟨bW,hw,hI⟩
 by_cases hk:k<n
 ·have hx:=qx (l[k]'(hl.lt hk));have wR:=hf (l[k]'(hl.lt hk)) (ac0 _);rw [hx] at wR;repeat' (first|refine Wz ?_|refine Wn hw (hl.one hk rfl) ?_)
  refine SW.uI rfl rfl rfl (wR _ hw) fun v w1 ai hv => ?_
  subst hv;have hw:=hw.trans ai;cases hp:p (l[k]'(hl.lt hk))
  ·refine Wz ?_;refine ae.again (k+1) ⟨rfl,rfl,rfl,rfl,trivial⟩ (by omega) ⟨by omega,hw,fun j hj h => ?_⟩;by_cases mO:j=k
   ·subst mO;exact hp
   ·exact hI j hj (by omega)
  ·refine Wz ?_;exact ae.bj rfl rfl ⟨_,rfl,hw,by rw [nE (hl.lt hk) hp hI]⟩
 ·refine Wz ?_;exact ae.bj rfl rfl ⟨_,rfl,hw,by rw [(kI (fun j hj=>hI j hj (by have:=hl.len;omega))).1]⟩
theorem iE (A:Option Addr) (n c:Nat) (l:List Int) (w:World) (hl:Sl w 1 bw A n l) (f:FuncId) (cap:List Value) [Body prog f] (p:Int->Bool) (arg:Int->Value) (qx:∀ x,arg x=(if 1=1 then (bw x)[0]?.getD undef else .agg (bw x).toArray))
 (hf:∀ x∈l,∀ w',Ext w w'->bI prog f ([arg x]++cap) w' fun v _=>v = .bool (p x)) (hn:n<=9223372036854775807) :
 bI prog 105 [.slice A n c,.func (.func f) #[] cap.toArray] w fun v _=>v = .bool (l.any p):=by
 refine aE func105 rfl ntmps105 rfl ?_;have hw:=Ext.refl w;repeat' (first|refine Wz ?_|(refine Wk (vJ _ _ _ _ _ (hl.ext hw) f cap p arg qx (fun x hx w1 h1=>hf x hx w1 (hw.trans h1)) hn) ?_;intro v w1 ai hv;subst hv;have hw:=hw.trans ai;clear ai))
 exact ae.bj rfl rfl ⟨_,rfl,hw,by rw [mx]⟩
theorem nM (A:Option Addr) (n c:Nat) (l:List Block) (w:World) (hl:Sl w 3 aO A n l) (f:FuncId) (cap:List Value) [Body prog f] (p:Block->Bool) (arg:Block->Value) (qx:∀ x,arg x=(if 3=1 then (aO x)[0]?.getD undef else .agg (aO x).toArray))
 (hf:∀ x∈l,∀ w',Ext w w'->bI prog f ([arg x]++cap) w' fun v _=>v = .bool (p x)) (hn:n<=9223372036854775807) :
 bI prog 157 [.slice A n c,.func (.func f) #[] cap.toArray] w fun v _=>v = .int .i64 (idxOf p l):=by
 refine aE func157 rfl ntmps157 rfl ?_;have hw:=Ext.refl w;have hA:=hl.base;refine Wz ?_;refine CW.loop (fun k:Nat=>[(0,.slice A n c),(1,.func (.func f) #[] cap.toArray),(7,.int .i64 (n:Int)),(8,.int .i64 (k:Int))]) (fun k w'=>k<=n∧Ext w w' ∧ ∀ j (hj:j<l.length),j<k->p l[j]=false) (fun k=>n-k) 0 ⟨rfl,rfl,rfl,rfl,trivial⟩ ⟨by omega,hw,fun j _ h=>by omega⟩ ?_;clear hw;rintro k w' ⟨bW,hw,hI⟩
 by_cases hk:k<n
 ·have hx:=qx (l[k]'(hl.lt hk));have wR:=hf (l[k]'(hl.lt hk)) (ac0 _);rw [hx] at wR;repeat' (first|refine Wz ?_|refine Wo hw ((hl.all hk)) ?_)
  refine SW.uI rfl rfl rfl (wR _ hw) fun v w1 ai hv => ?_
  subst hv;have hw:=hw.trans ai;cases hp:p (l[k]'(hl.lt hk))
  ·refine Wz ?_;refine ae.again (k+1) ⟨rfl,rfl,rfl,rfl,trivial⟩ (by omega) ⟨by omega,hw,fun j hj h => ?_⟩;by_cases mO:j=k
   ·subst mO;exact hp
   ·exact hI j hj (by omega)
  ·refine Wz ?_;exact ae.bj rfl rfl ⟨_,rfl,hw,by rw [nE (hl.lt hk) hp hI]⟩
 ·refine Wz ?_;exact ae.bj rfl rfl ⟨_,rfl,hw,by rw [(kI (fun j hj=>hI j hj (by have:=hl.len;omega))).1]⟩
theorem lQ (A:Option Addr) (n c:Nat) (l:List Block) (w:World) (hl:Sl w 3 aO A n l) (f:FuncId) (cap:List Value) [Body prog f] (p:Block->Bool) (arg:Block->Value) (qx:∀ x,arg x=(if 3=1 then (aO x)[0]?.getD undef else .agg (aO x).toArray))
 (hf:∀ x∈l,∀ w',Ext w w'->bI prog f ([arg x]++cap) w' fun v _=>v = .bool (p x)) (hn:n<=9223372036854775807) :
 bI prog 128 [.slice A n c,.func (.func f) #[] cap.toArray] w fun v _=>v = .bool (l.any p):=by
 refine aE func128 rfl ntmps128 rfl ?_;have hw:=Ext.refl w;repeat' (first|refine Wz ?_|(refine Wk (nM _ _ _ _ _ (hl.ext hw) f cap p arg qx (fun x hx w1 h1=>hf x hx w1 (hw.trans h1)) hn) ?_;intro v w1 ai hv;subst hv;have hw:=hw.trans ai;clear ai))
 exact ae.bj rfl rfl ⟨_,rfl,hw,by rw [mx]⟩
end Go.Proofs.YtohigmjjbgpfmaaGreatDoor
