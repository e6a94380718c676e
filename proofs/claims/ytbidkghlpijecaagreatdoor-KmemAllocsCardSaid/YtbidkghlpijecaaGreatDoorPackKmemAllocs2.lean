/-
  Texts of the claim KmemAllocs, part 2: what its theorem leans on.
-/
import Derived.Test.YtbidkghlpijecaaGreatDoorPackKmemAllocs1
import Derived.Test.YtbidkghlpijecaaGreatDoorChecked
set_option linter.unusedVariables false
set_option linter.unusedSimpArgs false
namespace Go.Proofs.YtbidkghlpijecaaGreatDoor
open Go.RowKit
def rn (P:Program) (ops:Array Oper) (Q:Exit→Act→World→Prop) (fin ef:Nat) (S2:World→Prop) : (World→Prop)→Nat→Array Bool→Act→World→Prop
 | _,0,listed,a,w=>Region.ready .any ops listed=[]∧Q .normal a w
 | S,f+1,listed,a,w=>Region.ready .any ops listed≠[] ∧ ∀ i∈Region.ready .any ops listed,i<ops.size∧wpOp P ops Q i (fun a' w'=>(i=ef→rn P ops Q fin ef S2 (fun _=>True) f (listed.setIfInBounds i true) a' w') ∧
    (i≠ef→i=fin→S2 w'∧rn P ops Q fin ef S2 S2 f (listed.setIfInBounds i true) a' w')∧(i≠ef→i≠fin→S w'∧rn P ops Q fin ef S2 S f (listed.setIfInBounds i true) a' w')) a w
section
variable {P:Program} {ops:Array Oper} {Q:Exit→Act→World→Prop} {fin ef:Nat} {S2:World→Prop}
theorem lh:∀ (f:Nat) {S S':World→Prop} (hS:∀ w,S' w→S w) (listed:Array Bool) (a:Act) (w:World),rn P ops Q fin ef S2 S' f listed a w→rn P ops Q fin ef S2 S f listed a w
 | 0,_,_,_,_,_,_,h=>h
 | f+1,S,S',hS,_,_,_,h=>⟨h.1,fun i hi=>⟨(h.2 i hi).1,wpOp_mono (fun a' w' h'=>⟨h'.1,h'.2.1,fun n1 n2=>⟨hS _ (h'.2.2 n1 n2).1,lh f hS _ a' w' (h'.2.2 n1 n2).2⟩⟩) (h.2 i hi).2⟩⟩
theorem kD:∀ (f:Nat) {S:World→Prop} (listed:Array Bool) (a:Act) (w:World),rn P ops Q fin ef S2 S f listed a w→wpAny P .any ops Q f listed a w
 | 0,_,_,_,_,h=>h
 | f+1,S,listed,a,w,h=>⟨fun h0=>absurd h0 h.1,fun i hi=>wpOp_mono (fun a' w' h'=>by
    by_cases e:i=ef
    ·exact kD f _ a' w' (h'.1 e)
    ·by_cases e2:i=fin
     ·exact kD f _ a' w' (h'.2.1 e e2).2
     ·exact kD f _ a' w' (h'.2.2 e e2).2) (h.2 i hi).2⟩
def eQ (ops:Array Oper) (k:Nat) : List Nat→Nat→Bool
 | [],i=>match ops[k]? with
   | some o=>o.after.any fun e=>Region.binds .any e && Nat.beq e.on i
   | none=>false
 | x::r,i=>(match ops[k]? with
   | some o=>o.after.any fun e=>Region.binds .any e && Nat.beq e.on x
   | none=>false) && eQ ops x r i
theorem vx {k i:Nat} (h:(match ops[k]? with|some o=>o.after.any fun e=>Region.binds .any e && Nat.beq e.on i|none=>false)=true) : ∃ o,ops[k]?=some o ∧ ∃ e∈o.after,Region.binds .any e=true∧e.on=i:=by
 cases ho:ops[k]? with
 | none=>rw [ho] at h;cases h
 | some o =>
   rw [ho] at h;simp only [Array.any_eq_true',Bool.and_eq_true] at h;obtain ⟨e,he,hb,hn⟩:=h;exact ⟨o,rfl,e,he,hb,Nat.eq_of_beq_eq_true hn⟩
theorem n8 {n:Nat} {listed:Array Bool} (inv:HeadInv .any ops n listed) : ∀ (p:List Nat) (k i:Nat),eQ ops k p i=true→listed.getD k false=true→listed.getD i false=true
 | [],k,i,h,hk=>by
   obtain ⟨o,ho,e,he,hb,Gt⟩:=vx h;rw [← Gt];exact inv.closed k o ho hk e he hb
 | x::r,k,i,h,hk=>by
   simp only [eQ,Bool.and_eq_true] at h;obtain ⟨o,ho,e,he,hb,Gt⟩:=vx h.1;exact n8 inv r x i h.2 (by rw [← Gt];exact inv.closed k o ho hk e he hb)
theorem vy {n:Nat} {listed:Array Bool} (inv:HeadInv .any ops n listed) {p:List Nat} {k i:Nat} (h:eQ ops k p i=true) (hk:k∈Region.ready .any ops listed) : listed.getD i false=true:=by
 obtain ⟨_,o,ho,fP⟩:=mem_ready.1 hk;cases p with
 | nil =>
   obtain ⟨o',sc,e,he,hb,Gt⟩:=vx h;rw [ho] at sc;cases sc
   rw [← Gt];exact fP e he hb
 | cons x r =>
   simp only [eQ,Bool.and_eq_true] at h;obtain ⟨o',sc,e,he,hb,Gt⟩:=vx h.1;rw [ho] at sc;cases sc
   exact n8 inv r x i h.2 (by rw [← Gt];exact fP e he hb)
theorem j5 {T:World→Prop} {i:Nat} {oi:Oper} {v:Value} (hi:ops[i]?=some oi) (Cs:∀ (j:Nat) (o:Oper) cs b,ops[j]?=some o→o.op ≠ .select cs b) (zZ:i≠ef) (EE:i≠fin)
 (hQ:∀ c a w,Q (.panic c) (a.put oi.dst v) w→Q (.panic c) a w) (KB:(∀ w,T w) ∨ ∃ p,eQ ops ef p i=true) (rp:(∀ w,S2 w→T w) ∨ ∃ p,eQ ops fin p i=true) :
 ∀ (f:Nat) {S:World→Prop} (IA:∀ w,S w→T w) (listed:Array Bool) (a:Act) (w:World),HeadInv .any ops ops.size listed →
  (∀ j oj,ops[j]?=some oj→j≠i→listed.getD j true=false→(∀ e∈oj.after,Region.binds .any e=true→e.on≠i)→oi.apart ops oj=true) →
  i∈Region.ready .any ops listed→YieldsIf P ops T oi v a→S w →
  rn P ops Q fin ef S2 S f (listed.setIfInBounds i true) (a.put oi.dst v) w→rn P ops Q fin ef S2 S (f+1) listed a w:=by
 intro f;induction f with
 | zero =>
   intro S IA listed a w inv _ hr hy hS H;have yn:=(mem_ready.1 hr).1;refine ⟨fun h=>(by rw [h] at hr;cases hr),fun j hj => ?_⟩;have je:j<ops.size:=by obtain ⟨_,o,ho,_⟩:=mem_ready.1 hj;exact (Array.getElem?_eq_some_iff.1 ho).1
   refine ⟨je,?_⟩;by_cases iL:j=i
   ·subst iL;exact hy.wpOp hi (IA _ hS) ⟨fun e=>absurd e zZ,fun _ e=>absurd e EE,fun _ _=>⟨hS,H⟩⟩
   ·have h0:=ready_mono hj iL;rw [H.1] at h0;cases h0
 | succ f ih =>
   intro S IA listed a w inv fH hr hy hS H;have yn:=(mem_ready.1 hr).1;refine ⟨fun h=>(by rw [h] at hr;cases hr),fun j hj => ?_⟩;have je:j<ops.size:=by obtain ⟨_,o,ho,_⟩:=mem_ready.1 hj;exact (Array.getElem?_eq_some_iff.1 ho).1
   refine ⟨je,?_⟩;by_cases iL:j=i
   ·subst iL;exact hy.wpOp hi (IA _ hS) ⟨fun e=>absurd e zZ,fun _ e=>absurd e EE,fun _ _=>⟨hS,H⟩⟩
   ·have h1:=(H.2 j (ready_mono hj iL)).2;obtain ⟨Ct,oj,Gp,fP⟩:=mem_ready.1 hj
    have ug:∀ e∈oj.after,Region.binds .any e=true→e.on≠i:=fun e he hb Ey=>by
     have h1:=fP e he hb;rw [Ey,getD_both yn] at h1;cases h1
    have h2:=wpOp_putIf Gp (fH j oj Gp iL Ct ug) (fun cs b=>Cs i oi cs b hi) (fun cs b=>Cs j oj cs b Gp) hQ hy h1
    have se:∀ k ok,ops[k]?=some ok→k≠i→(listed.setIfInBounds j true).getD k true=false →
     (∀ e∈ok.after,Region.binds .any e=true→e.on≠i)→oi.apart ops ok=true:=fun k ok hk rm yn lf=>by
     refine fH k ok hk rm ?_ lf;by_cases lg:j=k
     ·subst lg;exact Ct
     ·rw [getD_set_ne true lg] at yn;exact yn
    have Cu:=inv.set hj je
    have no:∀ {k:Nat} {p:List Nat},eQ ops k p i=true→j=k→False:=fun {k p} IB e=>by
     subst e;have:=vy inv IB hj
     rw [getD_both yn] at this;cases this
    refine wpOp_mono (fun a' w' h3=>⟨fun e => ?_,fun n1 e => ?_,fun n1 n2=>⟨(h3.2.2.2 n1 n2).1,ih IA (listed.setIfInBounds j true) a' w' Cu se (ready_mono hr (Ne.symm iL)) h3.1 (h3.2.2.2 n1 n2).1 ?_⟩⟩) h2
    ·rcases KB with hT|⟨p,IB⟩
     ·refine ih (fun w _=>hT w) (listed.setIfInBounds j true) a' w' Cu se (ready_mono hr (Ne.symm iL)) h3.1 trivial ?_;rw [Array.setIfInBounds_comm _ _ iL];exact h3.2.1 e
     ·exact (no IB e).elim
    ·rcases rp with hT|⟨p,IB⟩
     ·refine ⟨(h3.2.2.1 n1 e).1,ih hT (listed.setIfInBounds j true) a' w' Cu se (ready_mono hr (Ne.symm iL)) h3.1 (h3.2.2.1 n1 e).1 ?_⟩;rw [Array.setIfInBounds_comm _ _ iL];exact (h3.2.2.1 n1 e).2
     ·exact (no IB e).elim
    ·rw [Array.setIfInBounds_comm _ _ iL];exact (h3.2.2.2 n1 n2).2
end
structure SF (P:Program) (n:Nat) (ops:Array Oper) (Q:Exit→Act→World→Prop) (fin ef:Nat) (S2:World→Prop) (f:Nat) (listed:Array Bool) (L:Env) (w:World) : Prop where
 out:∀ a,Fit n a L→HeadInv .any ops ops.size listed→rn P ops (NoPanic Q) fin ef S2 (Ext w) f listed a w
structure SG (P:Program) (n:Nat) (ops:Array Oper) (Q:Exit→Act→World→Prop) (fin ef:Nat) (S2:World→Prop) (f:Nat) (listed:Array Bool) (L:Env) (w:World) : Prop where
 out:∀ a,Fit n a L→HeadInv .any ops ops.size listed→rn P ops (NoPanic Q) fin ef S2 S2 f listed a w
def EF (P:Program) (n:Nat) (ops:Array Oper) (Q:Exit→Act→World→Prop) (fin ef:Nat) (S2:World→Prop) (f:Nat) (listed:Array Bool) (w:World) : Exit→Act→World→Prop
 | .normal,a,w'=>Ext w w'∧(HeadInv .any ops ops.size listed→rn P ops (NoPanic Q) fin ef S2 (Ext w') f listed a w')
 | e,a,w'=>NoPanic Q e a w'
def Gu (P:Program) (n:Nat) (ops:Array Oper) (Q:Exit→Act→World→Prop) (fin ef:Nat) (S2:World→Prop) (f:Nat) (listed:Array Bool) : Exit→Act→World→Prop
 | .normal,a,w'=>S2 w'∧(HeadInv .any ops ops.size listed→rn P ops (NoPanic Q) fin ef S2 S2 f listed a w')
 | e,a,w'=>NoPanic Q e a w'
section
variable {P:Program} {n:Nat} {ops:Array Oper} {Q:Exit→Act→World→Prop} {fin ef f:Nat} {S2:World→Prop} {listed:Array Bool} {L:Env} {w:World}
theorem EG {i:Nat} (h:(!Nat.beq i ef && !Nat.beq i fin)=true) : i≠ef∧i≠fin:=by
 simp only [Bool.and_eq_true,Bool.not_eq_true'] at h;exact ⟨fun e=>by subst e;simp at h,fun e=>by subst e;simp at h⟩
theorem SF.take (i:Nat) (p q:List Nat) {o:Oper} (hB:Region.noSelect ops=true) (hi:ops[i]?=some o) (hf:Region.free .any ops listed i=true) (hr:(Region.ready .any ops listed).contains i=true) (hw:((eQ ops fin p i && eQ ops ef q i) && (!Nat.beq i ef && !Nat.beq i fin))=true)
 (h:SW P n ops (.tk fun L'=>SF P n ops Q fin ef S2 f (listed.setIfInBounds i true) L' w) [o] L w) : SF P n ops Q fin ef S2 (f+1) listed L w :=
 ⟨fun a ha inv=>by
  have hs:=h.out a ha;rw [Bool.and_eq_true,Bool.and_eq_true] at hw;obtain ⟨⟨ab,cq⟩,jW⟩:=hw;obtain ⟨n1,n2⟩:=EG jW;have my:i∈Region.ready .any ops listed:=by simpa using hr
  have cf:i<ops.size:=(Array.getElem?_eq_some_iff.1 hi).1
  simp only [swp,vr] at hs;by_cases hw:Region.wanted o (yielded ops a.tmps)=true
  ·rw [if_pos hw] at hs;obtain ⟨v,hv,L',uh,hK⟩:=hs;exact j5 (T:=Ext w) hi (Region.noSelect_spec hB) n1 n2 (fun _ _ _ h=>(h:False).elim) (.inr ⟨q,cq⟩) (.inr ⟨p,ab⟩) f (fun _ h=>h) listed a w inv (Region.free_spec hi hf) my (.inl ⟨hw,hv⟩) (Ext.refl w) (hK.out _ uh (inv.set my cf))
  ·rw [if_neg hw] at hs;obtain ⟨L',uh,hK⟩:=hs;exact j5 (T:=Ext w) hi (Region.noSelect_spec hB) n1 n2 (fun _ _ _ h=>(h:False).elim) (.inr ⟨q,cq⟩) (.inr ⟨p,ab⟩) f (fun _ h=>h) listed a w inv (Region.free_spec hi hf) my (.inr ⟨by simpa using hw,rfl⟩) (Ext.refl w) (hK.out _ uh (inv.set my cf))⟩
theorem SF.dK (i:Nat) (q:List Nat) {d:Nat} {op:Op} {T:TypeId} {pos:String} {af:Array Edge} {v:Value} (hB:Region.noSelect ops=true) (hi:ops[i]?=some ⟨some d,op,T,pos,af,none⟩) (hf:Region.free .any ops listed i=true) (hr:(Region.ready .any ops listed).contains i=true) (hw:(eQ ops ef q i && (!Nat.beq i ef && !Nat.beq i fin))=true)
 (h1:St P ⟨some d,op,T,pos,af,none⟩ L w v) (h2:∀ w2,S2 w2→St P ⟨some d,op,T,pos,af,none⟩ L w2 v) (hn:Nat.blt d n=true) (h:SF P n ops Q fin ef S2 f (listed.setIfInBounds i true) ((d,v)::L) w) : SF P n ops Q fin ef S2 (f+1) listed L w :=
 ⟨fun a ha inv=>by
  rw [Bool.and_eq_true] at hw;obtain ⟨ab,jW⟩:=hw;obtain ⟨n1,n2⟩:=EG jW;have my:i∈Region.ready .any ops listed:=by simpa using hr
  have cf:i<ops.size:=(Array.getElem?_eq_some_iff.1 hi).1
  exact j5 (T:=fun w'=>Ext w w'∨S2 w') hi (Region.noSelect_spec hB) n1 n2 (fun _ _ _ h=>(h:False).elim) (.inr ⟨q,ab⟩) (.inl fun _ => .inr) f (fun _ => .inl) listed a w inv (Region.free_spec hi hf) my (v:=v)
   (.inl ⟨by simp [Region.wanted],fun w' hh=>by rcases hh with hh|hh;exact h1.out n a ha w' hh;exact (h2 w' hh).out n a ha w' (Ext.refl w')⟩) (Ext.refl w) (h.out _ (ha.put hn v) (inv.set my cf))⟩
theorem SF.jI (i:Nat) {d:Nat} {op:Op} {T:TypeId} {pos:String} {af:Array Edge} {v:Value} (hB:Region.noSelect ops=true) (hi:ops[i]?=some ⟨some d,op,T,pos,af,none⟩) (hf:Region.free .any ops listed i=true) (hr:(Region.ready .any ops listed).contains i=true) (hw:(!Nat.beq i ef && !Nat.beq i fin)=true)
 (h1:∀ w2,St P ⟨some d,op,T,pos,af,none⟩ L w2 v) (hn:Nat.blt d n=true) (h:SF P n ops Q fin ef S2 f (listed.setIfInBounds i true) ((d,v)::L) w) : SF P n ops Q fin ef S2 (f+1) listed L w :=
 ⟨fun a ha inv=>by
  obtain ⟨n1,n2⟩:=EG hw;have my:i∈Region.ready .any ops listed:=by simpa using hr
  have cf:i<ops.size:=(Array.getElem?_eq_some_iff.1 hi).1
  exact j5 (T:=fun _=>True) hi (Region.noSelect_spec hB) n1 n2 (fun _ _ _ h=>(h:False).elim) (.inl fun _=>trivial) (.inl fun _ _=>trivial) f (fun _ _=>trivial) listed a w inv (Region.free_spec hi hf) my (v:=v)
   (.inl ⟨by simp [Region.wanted],fun w' _=>(h1 w').out n a ha w' (Ext.refl w')⟩) (Ext.refl w) (h.out _ (ha.put hn v) (inv.set my cf))⟩
theorem Oper.EH {o:Oper} {a:Act} {N:Act→World→Prop} {Q1 Q2:Exit→Act→World→Prop} (hq:∀ e a w,e ≠ .normal→Q1 e a w→Q2 e a w) (hl:LetsOut Q1→LetsOut Q2) (h:o.wp P a w N Q1) : o.wp P a w N Q2:=by
 unfold Oper.wp at *;generalize (execOp a.eval o).run P w=r at *
 cases r with
 | ok x w' =>
   cases x<;>simp only [Oper.upon] at h ⊢
   case value=>exact h
   case skip=>exact h
   case defer=>exact h
   case row=>exact h
   case enter =>
    refine Calls.mono h fun e FC he => ?_
    cases e
    ·exact he
    ·exact hq _ _ _ (by simp) he
    ·exact hl he
 | halt x w' =>
   cases x<;>simp only [Oper.upon] at h ⊢
   exact hq _ _ _ (by simp) h
theorem o6 {i:Nat} {o:Oper} {a:Act} {Q1:Exit→Act→World→Prop} {K:Act→World→Prop} (hi:ops[i]?=some o) (hq:∀ e a w,e ≠ .normal→Q1 e a w→NoPanic Q e a w) (hl:LetsOut Q1→LetsOut (NoPanic Q)) (conv:∀ a' w',Q1 .normal a' w'→K a' w') (hs:wpList P ops Q1 [o] a w) : wpOp P ops (NoPanic Q) i K a w:=by
 simp only [wpList] at hs;unfold wpOp;simp only [hi];by_cases hw:Region.wanted o (yielded ops a.tmps)=true
 ·rw [if_pos hw] at hs ⊢;rcases hs with hs|⟨h1,h2⟩
  ·exact .inl (Oper.wp_mono conv (Oper.EH hq hl hs))
  ·exact .inr ⟨h1,hl h2⟩
 ·rw [if_neg hw] at hs ⊢;exact conv _ _ hs
theorem SF.one (i:Nat) {o:Oper} (hi:ops[i]?=some o) (hr:Region.ready .any ops listed=[i]) (hw:(!Nat.beq i ef && !Nat.beq i fin)=true) (h:SW P n ops (.ff (EF P n ops Q fin ef S2 f (listed.setIfInBounds i true) w)) [o] L w) : SF P n ops Q fin ef S2 (f+1) listed L w :=
 ⟨fun a ha inv=>⟨by rw [hr];simp,fun j hj=>by
  obtain ⟨n1,n2⟩:=EG hw;have iL:j=i:=by rw [hr] at hj;simpa using hj
  subst iL;have cf:j<ops.size:=(Array.getElem?_eq_some_iff.1 hi).1
  refine ⟨cf,o6 (Q1:=EF P n ops Q fin ef S2 f (listed.setIfInBounds j true) w) hi (fun e a w ne h=>by cases e<;>first|exact h|exact absurd rfl ne) (fun h=>h) (fun a' w' hh=>⟨fun e=>absurd e n1,fun _ e=>absurd e n2,fun _ _=>⟨hh.1,lh f (fun FC Ez=>Ext.trans hh.1 Ez) _ _ _ (hh.2 (inv.set hj cf))⟩⟩) (h.out a ha)⟩⟩⟩
theorem ae.sf {l:Array Bool} {w0:World} (hx:Ext w0 w) (h:SF P n ops Q fin ef S2 f l L w) : ae n (EF P n ops Q fin ef S2 f l w0) .normal L w:=⟨fun a ha=>⟨hx,h.out a ha⟩⟩
theorem SF.turn {o:Oper} (hi:ops[fin]?=some o) (hr:Region.ready .any ops listed=[fin]) (hw:Nat.beq fin ef=false) (h:SW P n ops (.ff (Gu P n ops Q fin ef S2 f (listed.setIfInBounds fin true))) [o] L w) : SF P n ops Q fin ef S2 (f+1) listed L w :=
 ⟨fun a ha inv=>⟨by rw [hr];simp,fun j hj=>by
  have iL:j=fin:=by rw [hr] at hj;simpa using hj
  have n1:j≠ef:=fun e=>by rw [← iL,e] at hw;simp at hw
  subst iL;have cf:j<ops.size:=(Array.getElem?_eq_some_iff.1 hi).1
  exact ⟨cf,o6 (Q1:=Gu P n ops Q j ef S2 f (listed.setIfInBounds j true)) hi (fun e a w ne h=>by cases e<;>first|exact h|exact absurd rfl ne) (fun h=>h) (fun a' w' hh=>⟨fun e=>absurd e n1,fun _ _=>⟨hh.1,hh.2 (inv.set hj cf)⟩,fun _ n2=>absurd rfl n2⟩) (h.out a ha)⟩⟩⟩
theorem ae.sg {l:Array Bool} (hx:S2 w) (h:SG P n ops Q fin ef S2 f l L w) : ae n (Gu P n ops Q fin ef S2 f l) .normal L w:=⟨fun a ha=>⟨hx,h.out a ha⟩⟩
theorem SG.one (i:Nat) {o:Oper} (hi:ops[i]?=some o) (hr:Region.ready .any ops listed=[i]) (hw:(!Nat.beq i ef && !Nat.beq i fin)=true) (h:SW P n ops (.ff (Gu P n ops Q fin ef S2 f (listed.setIfInBounds i true))) [o] L w) : SG P n ops Q fin ef S2 (f+1) listed L w :=
 ⟨fun a ha inv=>⟨by rw [hr];simp,fun j hj=>by
  obtain ⟨n1,n2⟩:=EG hw;have iL:j=i:=by rw [hr] at hj;simpa using hj
  subst iL;have cf:j<ops.size:=(Array.getElem?_eq_some_iff.1 hi).1
  exact ⟨cf,o6 (Q1:=Gu P n ops Q fin ef S2 f (listed.setIfInBounds j true)) hi (fun e a w ne h=>by cases e<;>first|exact h|exact absurd rfl ne) (fun h=>h) (fun a' w' hh=>⟨fun e=>absurd e n1,fun _ e=>absurd e n2,fun _ _=>⟨hh.1,hh.2 (inv.set hj cf)⟩⟩) (h.out a ha)⟩⟩⟩
theorem SF.last {o:Oper} (hi:ops[ef]?=some o) (hr:Region.ready .any ops listed=[ef]) (he:Region.ready .any ops (listed.setIfInBounds ef true)=[]) (h:SW P n ops (.ff (NoPanic Q)) [o] L w) : SF P n ops Q fin ef S2 1 listed L w :=
 ⟨fun a ha inv=>⟨by rw [hr];simp,fun j hj=>by
  have iL:j=ef:=by rw [hr] at hj;simpa using hj
  subst iL;exact ⟨(Array.getElem?_eq_some_iff.1 hi).1,o6 (Q1:=NoPanic Q) hi (fun _ _ _ _ h=>h) (fun h=>h) (fun a' w' hh=>⟨fun _=>⟨he,hh⟩,fun n=>absurd rfl n,fun n=>absurd rfl n⟩) (h.out a ha)⟩⟩⟩
theorem SG.last {o:Oper} (hi:ops[ef]?=some o) (hr:Region.ready .any ops listed=[ef]) (he:Region.ready .any ops (listed.setIfInBounds ef true)=[]) (h:SW P n ops (.ff (NoPanic Q)) [o] L w) : SG P n ops Q fin ef S2 1 listed L w :=
 ⟨fun a ha inv=>⟨by rw [hr];simp,fun j hj=>by
  have iL:j=ef:=by rw [hr] at hj;simpa using hj
  subst iL;exact ⟨(Array.getElem?_eq_some_iff.1 hi).1,o6 (Q1:=NoPanic Q) hi (fun _ _ _ _ h=>h) (fun h=>h) (fun a' w' hh=>⟨fun _=>⟨he,hh⟩,fun n=>absurd rfl n,fun n=>absurd rfl n⟩) (h.out a ha)⟩⟩⟩
theorem CW.iS {id:Nat} {l:List Oper} (fin ef:Nat) (S2:World→Prop) (hm:P.follows .mixedOrders=true) (hB:Region.noSelect l.toArray=true) (h:∀ w',Ext w w'→Region.noSelect l.toArray=true→SF P n l.toArray Q fin ef S2 l.length (Array.replicate l.length false) L w') : CW P n (.region id l.toArray true) Q L w :=
 ⟨fun a ha=>by
  refine wp_region_noPanic (wp_region_any hm ?_);have h0:=(h _ (Ext.drew w) hB).out a ha ⟨by simp,fun j oj _ hl=>(by rw [getD_replicate_false] at hl;cases hl),fun t h1 h2=>absurd h2 (Nat.not_lt.2 h1)⟩;have:=kD _ _ _ _ h0
  simpa using this⟩
end
end Go.Proofs.YtbidkghlpijecaaGreatDoor
/-
  Plain steps in one: as Po as Ny go; what is left is the Nz that Wz (Ws, Wa, Wf) takes. No program in Mn.
-/
namespace Go.Proofs.YtbidkghlpijecaaGreatDoor
open Go.RowKit

structure Cw (T : Prop) : Prop where
  out : T
section
variable {P : Program} {n : Nat} {ops : Array Oper} {L : Env} {w : World} {d : Option Nat} {T : TypeId} {pos : String} {af : Array Edge} {g : Option (Nat × Bool)}
theorem so {t : TypeId} [gk P t] {x : Operand} {b i : Nat} {tb : TypeId} {cs : List Value} {v : Value} (hx : bR L x = some (.pointer (some ⟨b, i, none⟩))) (h : aJ w b tb cs ∧ cs[i]? = some v := by (apply And.intro; assumption; rfl)) : St P ⟨d, .load t x, T, pos, af, g⟩ L w v :=
  ao hx (by have := h.1.cell h.2; rwa [c7] at this)
theorem pV {t : TypeId} {m : Nat} [c : gz P t m] {x : Operand} {b : Nat} {tb : TypeId} {cs : List Value} (hx : bR L x = some (.pointer (some ⟨b, 0, none⟩))) (h : aJ w b tb cs ∧ cs.length = m := by (apply And.intro; assumption; rfl)) : St P ⟨d, .load t x, T, pos, af, g⟩ L w (.agg cs.toArray) :=
  aW hx h.2 fun _ _ hv => h.1.cell hv
def Mo (ops : Array Oper) (k i : Nat) : List Nat := bif eQ ops k [] i then [] else (((List.range ops.size).find? fun j => eQ ops k [j] i).map fun j => [j]).getD ((((List.range ops.size).flatMap fun j => (List.range ops.size).map fun m => [j, m]).find? fun p => eQ ops k p i).getD [])
theorem SF.ec {Q : Exit → Act → World → Prop} {fin ef f : Nat} {S2 : World → Prop} {listed : Array Bool} (i : Nat) {o : Oper} (hB : Region.noSelect ops = true) (hi : ops[i]? = some o) (hf : Region.free .any ops listed i = true) (hr : (Region.ready .any ops listed).contains i = true) (hw : ((eQ ops fin (Mo ops fin i) i && eQ ops ef (Mo ops ef i) i) && (!Nat.beq i ef && !Nat.beq i fin)) = true)
    (h : SW P n ops (.tk fun L' => SF P n ops Q fin ef S2 f (listed.setIfInBounds i true) L' w) [o] L w) : SF P n ops Q fin ef S2 (f + 1) listed L w := SF.take i _ _ hB hi hf hr hw h
end
theorem Wz {g T : Prop} (h : T) (hg : Cw T → g := by
    intro h
    (first
      | (show CW _ _ _ _ _ _; first | refine CW.seq ?_ | refine CW.region ?_ | refine CW.block ?_ | refine CW.kS rfl (by with_reducible rfl) ?_ | refine CW.r6 rfl (by with_reducible rfl) ?_ | refine CW.jd rfl (by omega) ?_ | refine CW.iu rfl (by omega) ?_ | refine CW.ny rfl (by omega) ?_ | refine CW.oU rfl (by omega) ?_ | refine CW.skip ?_ | refine CW.ret ?_ | refine CW.exit ?_)
      | (show ae _ _ _ _ _; first | refine ae.seq ?_ | refine ae.fG ?_ | refine ae.ir ?_ | refine ae.hit ?_ | refine ae.pass rfl ?_ | refine ae.c8 ?_ | refine ae.iv ?_ | refine ae.fk ?_ | refine ae.eU ?_ | refine ae.np ?_)
      | refine SW.nil ?_
      | (show SW _ _ _ _ (⟨_, _, _, _, _, some _⟩ :: _) _ _; first | refine SW.fQ rfl rfl (by with_reducible rfl) ?_ | refine SW.bW rfl rfl (by with_reducible rfl) ?_ | refine SW.gp rfl rfl (by with_reducible rfl) rfl ?_ | refine SW.kR rfl rfl (by with_reducible rfl) rfl ?_ | refine SW.oo rfl rfl (by with_reducible rfl) rfl ?_ | refine SW.jn rfl rfl rfl (by omega) ?_ | refine SW.jo rfl rfl rfl (by omega) ?_ | refine SW.gx rfl rfl rfl (by omega) ?_ | refine SW.dS rfl rfl rfl (by omega) ?_)
      | refine SW.pure rfl rfl ?_
      | (show SW _ _ _ _ (⟨_, Op.fieldAddr _ _ _, _, _, _, none⟩ :: _) _ _; refine SW.st (aD rfl) rfl ?_)
      | (show SW _ _ _ _ (⟨_, Op.nilCheck _, _, _, _, none⟩ :: _) _ _; refine SW.st (aK rfl) rfl ?_)
      | (show SW _ _ _ _ (⟨_, Op.build _ _, _, _, _, none⟩ :: _) _ _; refine SW.st (fR rfl rfl) rfl ?_)
      | (show SW _ _ _ _ (⟨_, Op.binOp _ _ _ _ _, _, _, _, none⟩ :: _) _ _; first | refine SW.st (kT rfl rfl (by omega) (by omega)) rfl ?_ | refine SW.st (iy rfl rfl (by omega) (by omega)) rfl ?_ | refine SW.st (iQ rfl rfl (by omega) (by omega)) rfl ?_ | refine SW.st (r8 rfl rfl (by omega) (by omega) (by omega)) rfl ?_ | refine SW.st (oq rfl rfl (by omega)) rfl ?_)
      | (show SW _ _ _ _ (⟨_, Op.indexAddr _ _ _, _, _, _, none⟩ :: _) _ _; refine SW.st (bj rfl rfl (by assumption) (by omega)) rfl ?_)
      | (show SW _ _ _ _ (⟨_, Op.call ⟨.builtin .len, _, _⟩, _, _, _, none⟩ :: _) _ _; refine SW.st (eV rfl) rfl ?_)
      | (show SW _ _ _ _ (⟨_, Op.call ⟨.builtin .cap, _, _⟩, _, _, _, none⟩ :: _) _ _; refine SW.st (si rfl) rfl ?_)
      | (show SW _ _ _ _ (⟨_, Op.load _ _, _, _, _, none⟩ :: _) _ _; first | refine SW.st (so rfl) rfl ?_ | refine SW.st (pV rfl) rfl ?_))
    repeat' (first
      | (show CW _ _ _ _ _ _; first | refine CW.seq ?_ | refine CW.region ?_ | refine CW.block ?_ | refine CW.kS rfl (by with_reducible rfl) ?_ | refine CW.r6 rfl (by with_reducible rfl) ?_ | refine CW.jd rfl (by omega) ?_ | refine CW.iu rfl (by omega) ?_ | refine CW.ny rfl (by omega) ?_ | refine CW.oU rfl (by omega) ?_ | refine CW.skip ?_ | refine CW.ret ?_ | refine CW.exit ?_)
      | (show ae _ _ _ _ _; first | refine ae.seq ?_ | refine ae.fG ?_ | refine ae.ir ?_ | refine ae.hit ?_ | refine ae.pass rfl ?_ | refine ae.c8 ?_ | refine ae.iv ?_ | refine ae.fk ?_ | refine ae.eU ?_ | refine ae.np ?_)
      | refine SW.nil ?_
      | (show SW _ _ _ _ (⟨_, _, _, _, _, some _⟩ :: _) _ _; first | refine SW.fQ rfl rfl (by with_reducible rfl) ?_ | refine SW.bW rfl rfl (by with_reducible rfl) ?_ | refine SW.gp rfl rfl (by with_reducible rfl) rfl ?_ | refine SW.kR rfl rfl (by with_reducible rfl) rfl ?_ | refine SW.oo rfl rfl (by with_reducible rfl) rfl ?_ | refine SW.jn rfl rfl rfl (by omega) ?_ | refine SW.jo rfl rfl rfl (by omega) ?_ | refine SW.gx rfl rfl rfl (by omega) ?_ | refine SW.dS rfl rfl rfl (by omega) ?_)
      | refine SW.pure rfl rfl ?_
      | (show SW _ _ _ _ (⟨_, Op.fieldAddr _ _ _, _, _, _, none⟩ :: _) _ _; refine SW.st (aD rfl) rfl ?_)
      | (show SW _ _ _ _ (⟨_, Op.nilCheck _, _, _, _, none⟩ :: _) _ _; refine SW.st (aK rfl) rfl ?_)
      | (show SW _ _ _ _ (⟨_, Op.build _ _, _, _, _, none⟩ :: _) _ _; refine SW.st (fR rfl rfl) rfl ?_)
      | (show SW _ _ _ _ (⟨_, Op.binOp _ _ _ _ _, _, _, _, none⟩ :: _) _ _; first | refine SW.st (kT rfl rfl (by omega) (by omega)) rfl ?_ | refine SW.st (iy rfl rfl (by omega) (by omega)) rfl ?_ | refine SW.st (iQ rfl rfl (by omega) (by omega)) rfl ?_ | refine SW.st (r8 rfl rfl (by omega) (by omega) (by omega)) rfl ?_ | refine SW.st (oq rfl rfl (by omega)) rfl ?_)
      | (show SW _ _ _ _ (⟨_, Op.indexAddr _ _ _, _, _, _, none⟩ :: _) _ _; refine SW.st (bj rfl rfl (by assumption) (by omega)) rfl ?_)
      | (show SW _ _ _ _ (⟨_, Op.call ⟨.builtin .len, _, _⟩, _, _, _, none⟩ :: _) _ _; refine SW.st (eV rfl) rfl ?_)
      | (show SW _ _ _ _ (⟨_, Op.call ⟨.builtin .cap, _, _⟩, _, _, _, none⟩ :: _) _ _; refine SW.st (si rfl) rfl ?_)
      | (show SW _ _ _ _ (⟨_, Op.load _ _, _, _, _, none⟩ :: _) _ _; first | refine SW.st (so rfl) rfl ?_ | refine SW.st (pV rfl) rfl ?_)
      | exact h.out)) : g := hg ⟨h⟩

theorem Ws {g T : Prop} (h : T) (hg : Cw T → g := by
    intro h
    repeat' (first
      | (show SW _ _ _ _ (⟨_, _, _, _, _, some _⟩ :: _) _ _; first | refine SW.fQ rfl rfl (by with_reducible rfl) ?_ | refine SW.bW rfl rfl (by with_reducible rfl) ?_ | refine SW.gp rfl rfl (by with_reducible rfl) rfl ?_ | refine SW.kR rfl rfl (by with_reducible rfl) rfl ?_ | refine SW.oo rfl rfl (by with_reducible rfl) rfl ?_ | refine SW.jn rfl rfl rfl (by omega) ?_ | refine SW.jo rfl rfl rfl (by omega) ?_ | refine SW.gx rfl rfl rfl (by omega) ?_ | refine SW.dS rfl rfl rfl (by omega) ?_)
      | refine SW.pure rfl rfl ?_
      | (show SW _ _ _ _ (⟨_, Op.fieldAddr _ _ _, _, _, _, none⟩ :: _) _ _; refine SW.st (aD rfl) rfl ?_)
      | (show SW _ _ _ _ (⟨_, Op.nilCheck _, _, _, _, none⟩ :: _) _ _; refine SW.st (aK rfl) rfl ?_)
      | (show SW _ _ _ _ (⟨_, Op.build _ _, _, _, _, none⟩ :: _) _ _; refine SW.st (fR rfl rfl) rfl ?_)
      | (show SW _ _ _ _ (⟨_, Op.binOp _ _ _ _ _, _, _, _, none⟩ :: _) _ _; first | refine SW.st (kT rfl rfl (by omega) (by omega)) rfl ?_ | refine SW.st (iy rfl rfl (by omega) (by omega)) rfl ?_ | refine SW.st (iQ rfl rfl (by omega) (by omega)) rfl ?_ | refine SW.st (r8 rfl rfl (by omega) (by omega) (by omega)) rfl ?_ | refine SW.st (oq rfl rfl (by omega)) rfl ?_)
      | (show SW _ _ _ _ (⟨_, Op.indexAddr _ _ _, _, _, _, none⟩ :: _) _ _; refine SW.st (bj rfl rfl (by assumption) (by omega)) rfl ?_)
      | (show SW _ _ _ _ (⟨_, Op.call ⟨.builtin .len, _, _⟩, _, _, _, none⟩ :: _) _ _; refine SW.st (eV rfl) rfl ?_)
      | (show SW _ _ _ _ (⟨_, Op.call ⟨.builtin .cap, _, _⟩, _, _, _, none⟩ :: _) _ _; refine SW.st (si rfl) rfl ?_)
      | (show SW _ _ _ _ (⟨_, Op.load _ _, _, _, _, none⟩ :: _) _ _; first | refine SW.st (so rfl) rfl ?_ | refine SW.st (pV rfl) rfl ?_)
      | exact h.out)) : g := hg ⟨h⟩

theorem Wa {g T : Prop} (h : T) (hg : Cw T → g := by
    intro h
    repeat' (first
      | (refine SA.take 0 (by assumption) rfl (by decide +kernel) (by decide +kernel) rfl ?_; refine Ws ?_; refine SW.ah ?_)
      | (refine SA.take 1 (by assumption) rfl (by decide +kernel) (by decide +kernel) rfl ?_; refine Ws ?_; refine SW.ah ?_)
      | (refine SA.take 2 (by assumption) rfl (by decide +kernel) (by decide +kernel) rfl ?_; refine Ws ?_; refine SW.ah ?_)
      | (refine SA.take 3 (by assumption) rfl (by decide +kernel) (by decide +kernel) rfl ?_; refine Ws ?_; refine SW.ah ?_)
      | (refine SA.take 4 (by assumption) rfl (by decide +kernel) (by decide +kernel) rfl ?_; refine Ws ?_; refine SW.ah ?_)
      | (refine SA.take 5 (by assumption) rfl (by decide +kernel) (by decide +kernel) rfl ?_; refine Ws ?_; refine SW.ah ?_)
      | (refine SA.take 6 (by assumption) rfl (by decide +kernel) (by decide +kernel) rfl ?_; refine Ws ?_; refine SW.ah ?_)
      | (refine SA.take 7 (by assumption) rfl (by decide +kernel) (by decide +kernel) rfl ?_; refine Ws ?_; refine SW.ah ?_)
      | (refine SA.take 8 (by assumption) rfl (by decide +kernel) (by decide +kernel) rfl ?_; refine Ws ?_; refine SW.ah ?_)
      | (refine SA.take 9 (by assumption) rfl (by decide +kernel) (by decide +kernel) rfl ?_; refine Ws ?_; refine SW.ah ?_)
      | (refine SA.take 10 (by assumption) rfl (by decide +kernel) (by decide +kernel) rfl ?_; refine Ws ?_; refine SW.ah ?_)
      | (refine SA.take 11 (by assumption) rfl (by decide +kernel) (by decide +kernel) rfl ?_; refine Ws ?_; refine SW.ah ?_)
      | (refine SA.take 12 (by assumption) rfl (by decide +kernel) (by decide +kernel) rfl ?_; refine Ws ?_; refine SW.ah ?_)
      | (refine SA.take 13 (by assumption) rfl (by decide +kernel) (by decide +kernel) rfl ?_; refine Ws ?_; refine SW.ah ?_)
      | (refine SA.take 14 (by assumption) rfl (by decide +kernel) (by decide +kernel) rfl ?_; refine Ws ?_; refine SW.ah ?_)
      | (refine SA.take 15 (by assumption) rfl (by decide +kernel) (by decide +kernel) rfl ?_; refine Ws ?_; refine SW.ah ?_)
      | (refine SA.take 16 (by assumption) rfl (by decide +kernel) (by decide +kernel) rfl ?_; refine Ws ?_; refine SW.ah ?_)
      | (refine SA.take 17 (by assumption) rfl (by decide +kernel) (by decide +kernel) rfl ?_; refine Ws ?_; refine SW.ah ?_)
      | (refine SA.take 18 (by assumption) rfl (by decide +kernel) (by decide +kernel) rfl ?_; refine Ws ?_; refine SW.ah ?_)
      | (refine SA.take 19 (by assumption) rfl (by decide +kernel) (by decide +kernel) rfl ?_; refine Ws ?_; refine SW.ah ?_)
      | (refine SA.take 20 (by assumption) rfl (by decide +kernel) (by decide +kernel) rfl ?_; refine Ws ?_; refine SW.ah ?_)
      | (refine SA.take 21 (by assumption) rfl (by decide +kernel) (by decide +kernel) rfl ?_; refine Ws ?_; refine SW.ah ?_)
      | (refine SA.take 22 (by assumption) rfl (by decide +kernel) (by decide +kernel) rfl ?_; refine Ws ?_; refine SW.ah ?_)
      | (refine SA.take 23 (by assumption) rfl (by decide +kernel) (by decide +kernel) rfl ?_; refine Ws ?_; refine SW.ah ?_)
      | (refine SA.take 24 (by assumption) rfl (by decide +kernel) (by decide +kernel) rfl ?_; refine Ws ?_; refine SW.ah ?_)
      | (refine SA.take 25 (by assumption) rfl (by decide +kernel) (by decide +kernel) rfl ?_; refine Ws ?_; refine SW.ah ?_)
      | (refine SA.take 26 (by assumption) rfl (by decide +kernel) (by decide +kernel) rfl ?_; refine Ws ?_; refine SW.ah ?_)
      | (refine SA.take 27 (by assumption) rfl (by decide +kernel) (by decide +kernel) rfl ?_; refine Ws ?_; refine SW.ah ?_)
      | (refine SA.take 28 (by assumption) rfl (by decide +kernel) (by decide +kernel) rfl ?_; refine Ws ?_; refine SW.ah ?_)
      | (refine SA.take 29 (by assumption) rfl (by decide +kernel) (by decide +kernel) rfl ?_; refine Ws ?_; refine SW.ah ?_)
      | exact h.out)) : g := hg ⟨h⟩

theorem Wf {g T : Prop} (h : T) (hg : Cw T → g := by
    intro h
    repeat' (first
      | (refine SF.ec 0 (by assumption) rfl (by decide +kernel) (by decide +kernel) (by decide +kernel) ?_; refine Ws ?_; refine SW.ah ?_)
      | (refine SF.ec 1 (by assumption) rfl (by decide +kernel) (by decide +kernel) (by decide +kernel) ?_; refine Ws ?_; refine SW.ah ?_)
      | (refine SF.ec 2 (by assumption) rfl (by decide +kernel) (by decide +kernel) (by decide +kernel) ?_; refine Ws ?_; refine SW.ah ?_)
      | (refine SF.ec 3 (by assumption) rfl (by decide +kernel) (by decide +kernel) (by decide +kernel) ?_; refine Ws ?_; refine SW.ah ?_)
      | (refine SF.ec 4 (by assumption) rfl (by decide +kernel) (by decide +kernel) (by decide +kernel) ?_; refine Ws ?_; refine SW.ah ?_)
      | (refine SF.ec 5 (by assumption) rfl (by decide +kernel) (by decide +kernel) (by decide +kernel) ?_; refine Ws ?_; refine SW.ah ?_)
      | (refine SF.ec 6 (by assumption) rfl (by decide +kernel) (by decide +kernel) (by decide +kernel) ?_; refine Ws ?_; refine SW.ah ?_)
      | (refine SF.ec 7 (by assumption) rfl (by decide +kernel) (by decide +kernel) (by decide +kernel) ?_; refine Ws ?_; refine SW.ah ?_)
      | (refine SF.ec 8 (by assumption) rfl (by decide +kernel) (by decide +kernel) (by decide +kernel) ?_; refine Ws ?_; refine SW.ah ?_)
      | (refine SF.ec 9 (by assumption) rfl (by decide +kernel) (by decide +kernel) (by decide +kernel) ?_; refine Ws ?_; refine SW.ah ?_)
      | (refine SF.ec 10 (by assumption) rfl (by decide +kernel) (by decide +kernel) (by decide +kernel) ?_; refine Ws ?_; refine SW.ah ?_)
      | (refine SF.ec 11 (by assumption) rfl (by decide +kernel) (by decide +kernel) (by decide +kernel) ?_; refine Ws ?_; refine SW.ah ?_)
      | (refine SF.ec 12 (by assumption) rfl (by decide +kernel) (by decide +kernel) (by decide +kernel) ?_; refine Ws ?_; refine SW.ah ?_)
      | (refine SF.ec 13 (by assumption) rfl (by decide +kernel) (by decide +kernel) (by decide +kernel) ?_; refine Ws ?_; refine SW.ah ?_)
      | (refine SF.ec 14 (by assumption) rfl (by decide +kernel) (by decide +kernel) (by decide +kernel) ?_; refine Ws ?_; refine SW.ah ?_)
      | (refine SF.ec 15 (by assumption) rfl (by decide +kernel) (by decide +kernel) (by decide +kernel) ?_; refine Ws ?_; refine SW.ah ?_)
      | (refine SF.ec 16 (by assumption) rfl (by decide +kernel) (by decide +kernel) (by decide +kernel) ?_; refine Ws ?_; refine SW.ah ?_)
      | (refine SF.ec 17 (by assumption) rfl (by decide +kernel) (by decide +kernel) (by decide +kernel) ?_; refine Ws ?_; refine SW.ah ?_)
      | (refine SF.ec 18 (by assumption) rfl (by decide +kernel) (by decide +kernel) (by decide +kernel) ?_; refine Ws ?_; refine SW.ah ?_)
      | (refine SF.ec 19 (by assumption) rfl (by decide +kernel) (by decide +kernel) (by decide +kernel) ?_; refine Ws ?_; refine SW.ah ?_)
      | (refine SF.ec 20 (by assumption) rfl (by decide +kernel) (by decide +kernel) (by decide +kernel) ?_; refine Ws ?_; refine SW.ah ?_)
      | (refine SF.ec 21 (by assumption) rfl (by decide +kernel) (by decide +kernel) (by decide +kernel) ?_; refine Ws ?_; refine SW.ah ?_)
      | (refine SF.ec 22 (by assumption) rfl (by decide +kernel) (by decide +kernel) (by decide +kernel) ?_; refine Ws ?_; refine SW.ah ?_)
      | (refine SF.ec 23 (by assumption) rfl (by decide +kernel) (by decide +kernel) (by decide +kernel) ?_; refine Ws ?_; refine SW.ah ?_)
      | (refine SF.ec 24 (by assumption) rfl (by decide +kernel) (by decide +kernel) (by decide +kernel) ?_; refine Ws ?_; refine SW.ah ?_)
      | (refine SF.ec 25 (by assumption) rfl (by decide +kernel) (by decide +kernel) (by decide +kernel) ?_; refine Ws ?_; refine SW.ah ?_)
      | (refine SF.ec 26 (by assumption) rfl (by decide +kernel) (by decide +kernel) (by decide +kernel) ?_; refine Ws ?_; refine SW.ah ?_)
      | (refine SF.ec 27 (by assumption) rfl (by decide +kernel) (by decide +kernel) (by decide +kernel) ?_; refine Ws ?_; refine SW.ah ?_)
      | (refine SF.ec 28 (by assumption) rfl (by decide +kernel) (by decide +kernel) (by decide +kernel) ?_; refine Ws ?_; refine SW.ah ?_)
      | (refine SF.ec 29 (by assumption) rfl (by decide +kernel) (by decide +kernel) (by decide +kernel) ?_; refine Ws ?_; refine SW.ah ?_)
      | exact h.out)) : g := hg ⟨h⟩

theorem Wy {g T : Prop} (h : T) (hg : Cw T → g := by
    intro h
    (first
      | (show CW _ _ _ _ _ _; first | refine CW.seq ?_ | refine CW.region ?_ | refine CW.block ?_ | refine CW.kS rfl (by with_reducible rfl) ?_ | refine CW.r6 rfl (by with_reducible rfl) ?_ | refine CW.jd rfl (by omega) ?_ | refine CW.iu rfl (by omega) ?_ | refine CW.ny rfl (by omega) ?_ | refine CW.oU rfl (by omega) ?_ | refine CW.skip ?_ | refine CW.ret ?_ | refine CW.exit ?_)
      | (show ae _ _ _ _ _; first | refine ae.seq ?_ | refine ae.fG ?_ | refine ae.ir ?_ | refine ae.hit ?_ | refine ae.pass rfl ?_ | refine ae.c8 ?_ | refine ae.iv ?_ | refine ae.fk ?_ | refine ae.eU ?_ | refine ae.np ?_)
      | refine SW.nil ?_
      | (show SW _ _ _ _ (⟨_, _, _, _, _, some _⟩ :: _) _ _; first | refine SW.fQ rfl rfl (by with_reducible rfl) ?_ | refine SW.bW rfl rfl (by with_reducible rfl) ?_ | refine SW.gp rfl rfl (by with_reducible rfl) rfl ?_ | refine SW.kR rfl rfl (by with_reducible rfl) rfl ?_ | refine SW.oo rfl rfl (by with_reducible rfl) rfl ?_ | refine SW.jn rfl rfl rfl (by omega) ?_ | refine SW.jo rfl rfl rfl (by omega) ?_ | refine SW.gx rfl rfl rfl (by omega) ?_ | refine SW.dS rfl rfl rfl (by omega) ?_)
      | refine SW.pure rfl rfl ?_
      | (show SW _ _ _ _ (⟨_, Op.fieldAddr _ _ _, _, _, _, none⟩ :: _) _ _; refine SW.st (aD rfl) rfl ?_)
      | (show SW _ _ _ _ (⟨_, Op.nilCheck _, _, _, _, none⟩ :: _) _ _; refine SW.st (aK rfl) rfl ?_)
      | (show SW _ _ _ _ (⟨_, Op.build _ _, _, _, _, none⟩ :: _) _ _; refine SW.st (fR rfl rfl) rfl ?_)
      | (show SW _ _ _ _ (⟨_, Op.binOp _ _ _ _ _, _, _, _, none⟩ :: _) _ _; first | refine SW.st (kT rfl rfl (by omega) (by omega)) rfl ?_ | refine SW.st (iy rfl rfl (by omega) (by omega)) rfl ?_ | refine SW.st (iQ rfl rfl (by omega) (by omega)) rfl ?_ | refine SW.st (r8 rfl rfl (by omega) (by omega) (by omega)) rfl ?_ | refine SW.st (oq rfl rfl (by omega)) rfl ?_)
      | (show SW _ _ _ _ (⟨_, Op.indexAddr _ _ _, _, _, _, none⟩ :: _) _ _; refine SW.st (bj rfl rfl (by assumption) (by omega)) rfl ?_)
      | (show SW _ _ _ _ (⟨_, Op.call ⟨.builtin .len, _, _⟩, _, _, _, none⟩ :: _) _ _; refine SW.st (eV rfl) rfl ?_)
      | (show SW _ _ _ _ (⟨_, Op.call ⟨.builtin .cap, _, _⟩, _, _, _, none⟩ :: _) _ _; refine SW.st (si rfl) rfl ?_))
    repeat' (first
      | (show CW _ _ _ _ _ _; first | refine CW.seq ?_ | refine CW.region ?_ | refine CW.block ?_ | refine CW.kS rfl (by with_reducible rfl) ?_ | refine CW.r6 rfl (by with_reducible rfl) ?_ | refine CW.jd rfl (by omega) ?_ | refine CW.iu rfl (by omega) ?_ | refine CW.ny rfl (by omega) ?_ | refine CW.oU rfl (by omega) ?_ | refine CW.skip ?_ | refine CW.ret ?_ | refine CW.exit ?_)
      | (show ae _ _ _ _ _; first | refine ae.seq ?_ | refine ae.fG ?_ | refine ae.ir ?_ | refine ae.hit ?_ | refine ae.pass rfl ?_ | refine ae.c8 ?_ | refine ae.iv ?_ | refine ae.fk ?_ | refine ae.eU ?_ | refine ae.np ?_)
      | refine SW.nil ?_
      | (show SW _ _ _ _ (⟨_, _, _, _, _, some _⟩ :: _) _ _; first | refine SW.fQ rfl rfl (by with_reducible rfl) ?_ | refine SW.bW rfl rfl (by with_reducible rfl) ?_ | refine SW.gp rfl rfl (by with_reducible rfl) rfl ?_ | refine SW.kR rfl rfl (by with_reducible rfl) rfl ?_ | refine SW.oo rfl rfl (by with_reducible rfl) rfl ?_ | refine SW.jn rfl rfl rfl (by omega) ?_ | refine SW.jo rfl rfl rfl (by omega) ?_ | refine SW.gx rfl rfl rfl (by omega) ?_ | refine SW.dS rfl rfl rfl (by omega) ?_)
      | refine SW.pure rfl rfl ?_
      | (show SW _ _ _ _ (⟨_, Op.fieldAddr _ _ _, _, _, _, none⟩ :: _) _ _; refine SW.st (aD rfl) rfl ?_)
      | (show SW _ _ _ _ (⟨_, Op.nilCheck _, _, _, _, none⟩ :: _) _ _; refine SW.st (aK rfl) rfl ?_)
      | (show SW _ _ _ _ (⟨_, Op.build _ _, _, _, _, none⟩ :: _) _ _; refine SW.st (fR rfl rfl) rfl ?_)
      | (show SW _ _ _ _ (⟨_, Op.binOp _ _ _ _ _, _, _, _, none⟩ :: _) _ _; first | refine SW.st (kT rfl rfl (by omega) (by omega)) rfl ?_ | refine SW.st (iy rfl rfl (by omega) (by omega)) rfl ?_ | refine SW.st (iQ rfl rfl (by omega) (by omega)) rfl ?_ | refine SW.st (r8 rfl rfl (by omega) (by omega) (by omega)) rfl ?_ | refine SW.st (oq rfl rfl (by omega)) rfl ?_)
      | (show SW _ _ _ _ (⟨_, Op.indexAddr _ _ _, _, _, _, none⟩ :: _) _ _; refine SW.st (bj rfl rfl (by assumption) (by omega)) rfl ?_)
      | (show SW _ _ _ _ (⟨_, Op.call ⟨.builtin .len, _, _⟩, _, _, _, none⟩ :: _) _ _; refine SW.st (eV rfl) rfl ?_)
      | (show SW _ _ _ _ (⟨_, Op.call ⟨.builtin .cap, _, _⟩, _, _, _, none⟩ :: _) _ _; refine SW.st (si rfl) rfl ?_)
      | exact h.out)) : g := hg ⟨h⟩
instance:gk Tryz.prog 3:=⟨by kernel_rfl,by kernel_rfl⟩
instance:df Tryz.prog 3 (.int .i64 0) 1 8:=⟨by kernel_rfl,by kernel_rfl,by decide⟩
instance:gk Tryz.prog 4:=⟨by kernel_rfl,by kernel_rfl⟩
instance:df Tryz.prog 4 (.bool false) 1 1:=⟨by kernel_rfl,by kernel_rfl,by decide⟩
instance:gk Tryz.prog 5:=⟨by kernel_rfl,by kernel_rfl⟩
instance:gk Tryz.prog 9:=⟨by kernel_rfl,by kernel_rfl⟩
instance:df Tryz.prog 9 (.string ByteArray.empty) 1 16:=⟨by kernel_rfl,by kernel_rfl,by decide⟩
instance:gk Tryz.prog 36:=⟨by kernel_rfl,by kernel_rfl⟩
instance:bu Tryz.prog 36 3 1:=⟨by kernel_rfl,by kernel_rfl⟩
instance:gk Tryz.prog 37:=⟨by kernel_rfl,by kernel_rfl⟩
instance:bu Tryz.prog 37 139 4:=⟨by kernel_rfl,by kernel_rfl⟩
instance:gk Tryz.prog 38:=⟨by kernel_rfl,by kernel_rfl⟩
instance:bu Tryz.prog 38 142 4:=⟨by kernel_rfl,by kernel_rfl⟩
instance:gk Tryz.prog 39:=⟨by kernel_rfl,by kernel_rfl⟩
instance:df Tryz.prog 39 (.slice none 0 0) 1 24:=⟨by kernel_rfl,by kernel_rfl,by decide⟩
instance:bu Tryz.prog 39 165 3:=⟨by kernel_rfl,by kernel_rfl⟩
instance:df Tryz.prog 41 (.agg #[.slice none 0 0,.slice none 0 0,.int .i64 0,.slice none 0 0,.slice none 0 0]) 5 104:=⟨by kernel_rfl,by kernel_rfl,by decide⟩
instance:gz Tryz.prog 41 5:=⟨by kernel_rfl,by kernel_rfl⟩
instance:kA Tryz.prog 41 [(0,1),(1,1),(2,1),(3,1),(4,1)] [.slice none 0 0,.slice none 0 0,.int .i64 0,.slice none 0 0,.slice none 0 0]:=⟨by kernel_rfl,by kernel_rfl⟩
instance:cg Tryz.prog 41 0 0 37:=⟨by kernel_rfl,by kernel_rfl⟩
instance:cg Tryz.prog 41 1 1 36:=⟨by kernel_rfl,by kernel_rfl⟩
instance:cg Tryz.prog 41 2 2 3:=⟨by kernel_rfl,by kernel_rfl⟩
instance:cg Tryz.prog 41 3 3 38:=⟨by kernel_rfl,by kernel_rfl⟩
instance:cg Tryz.prog 41 4 4 39:=⟨by kernel_rfl,by kernel_rfl⟩
instance:gk Tryz.prog 42:=⟨by kernel_rfl,by kernel_rfl⟩
instance:bu Tryz.prog 42 89 6:=⟨by kernel_rfl,by kernel_rfl⟩
instance:df Tryz.prog 44 (.agg #[.slice none 0 0,.slice none 0 0,.slice none 0 0,.int .i64 0,.slice none 0 0,.slice none 0 0,.slice none 0 0]) 7 152:=⟨by kernel_rfl,by kernel_rfl,by decide⟩
instance:gz Tryz.prog 44 7:=⟨by kernel_rfl,by kernel_rfl⟩
instance:kA Tryz.prog 44 [(0,1),(1,5),(6,1)] [.slice none 0 0,.slice none 0 0,.slice none 0 0,.int .i64 0,.slice none 0 0,.slice none 0 0,.slice none 0 0]:=⟨by kernel_rfl,by kernel_rfl⟩
instance:cg Tryz.prog 44 0 0 36:=⟨by kernel_rfl,by kernel_rfl⟩
instance:cg Tryz.prog 44 1 1 41:=⟨by kernel_rfl,by kernel_rfl⟩
instance:cg Tryz.prog 44 2 6 42:=⟨by kernel_rfl,by kernel_rfl⟩
instance:gk Tryz.prog 61:=⟨by kernel_rfl,by kernel_rfl⟩
instance:bu Tryz.prog 61 9 1:=⟨by kernel_rfl,by kernel_rfl⟩
instance:gk Tryz.prog 87:=⟨by kernel_rfl,by kernel_rfl⟩
instance:bu Tryz.prog 87 91 3:=⟨by kernel_rfl,by kernel_rfl⟩
instance:df Tryz.prog 89 (.agg #[.slice none 0 0,.int .i64 0,.int .i64 0,.int .i64 0,.slice none 0 0,.slice none 0 0]) 6 96:=⟨by kernel_rfl,by kernel_rfl,by decide⟩
instance:gz Tryz.prog 89 6:=⟨by kernel_rfl,by kernel_rfl⟩
instance:cg Tryz.prog 89 0 0 61:=⟨by kernel_rfl,by kernel_rfl⟩
instance:cg Tryz.prog 89 1 1 3:=⟨by kernel_rfl,by kernel_rfl⟩
instance:cg Tryz.prog 89 2 2 3:=⟨by kernel_rfl,by kernel_rfl⟩
instance:cg Tryz.prog 89 3 3 3:=⟨by kernel_rfl,by kernel_rfl⟩
instance:cg Tryz.prog 89 4 4 87:=⟨by kernel_rfl,by kernel_rfl⟩
instance:cg Tryz.prog 89 5 5 36:=⟨by kernel_rfl,by kernel_rfl⟩
instance:df Tryz.prog 91 (.agg #[.int .i64 0,.int .i64 0,.int .i64 0]) 3 24:=⟨by kernel_rfl,by kernel_rfl,by decide⟩
instance:gz Tryz.prog 91 3:=⟨by kernel_rfl,by kernel_rfl⟩
instance:kA Tryz.prog 91 [(0,1),(1,1),(2,1)] [.int .i64 0,.int .i64 0,.int .i64 0]:=⟨by kernel_rfl,by kernel_rfl⟩
instance:sn Tryz.prog 91 3:=⟨by kernel_rfl,by kernel_rfl,by kernel_rfl,by kernel_rfl⟩
instance:cg Tryz.prog 91 0 0 3:=⟨by kernel_rfl,by kernel_rfl⟩
instance:cg Tryz.prog 91 1 1 3:=⟨by kernel_rfl,by kernel_rfl⟩
instance:cg Tryz.prog 91 2 2 3:=⟨by kernel_rfl,by kernel_rfl⟩
instance:uK Tryz.prog 111 6 3 1:=⟨by kernel_rfl,by kernel_rfl⟩
instance:gz Tryz.prog 111 6:=⟨by kernel_rfl,by kernel_rfl⟩
instance:df Tryz.prog 139 (.agg #[.int .i64 0,.int .i64 0,.slice none 0 0,.slice none 0 0]) 4 64:=⟨by kernel_rfl,by kernel_rfl,by decide⟩
instance:gz Tryz.prog 139 4:=⟨by kernel_rfl,by kernel_rfl⟩
instance:kA Tryz.prog 139 [(0,1),(1,1),(2,1),(3,1)] [.int .i64 0,.int .i64 0,.slice none 0 0,.slice none 0 0]:=⟨by kernel_rfl,by kernel_rfl⟩
instance:cg Tryz.prog 139 0 0 3:=⟨by kernel_rfl,by kernel_rfl⟩
instance:cg Tryz.prog 139 1 1 3:=⟨by kernel_rfl,by kernel_rfl⟩
instance:cg Tryz.prog 139 2 2 39:=⟨by kernel_rfl,by kernel_rfl⟩
instance:cg Tryz.prog 139 3 3 36:=⟨by kernel_rfl,by kernel_rfl⟩
instance:df Tryz.prog 142 (.agg #[.int .i64 0,.int .i64 0,.int .i64 0,.slice none 0 0]) 4 48:=⟨by kernel_rfl,by kernel_rfl,by decide⟩
instance:gz Tryz.prog 142 4:=⟨by kernel_rfl,by kernel_rfl⟩
instance:kA Tryz.prog 142 [(0,1),(1,1),(2,1),(3,1)] [.int .i64 0,.int .i64 0,.int .i64 0,.slice none 0 0]:=⟨by kernel_rfl,by kernel_rfl⟩
instance:cg Tryz.prog 142 0 0 3:=⟨by kernel_rfl,by kernel_rfl⟩
instance:cg Tryz.prog 142 1 1 3:=⟨by kernel_rfl,by kernel_rfl⟩
instance:cg Tryz.prog 142 2 2 3:=⟨by kernel_rfl,by kernel_rfl⟩
instance:cg Tryz.prog 142 3 3 36:=⟨by kernel_rfl,by kernel_rfl⟩
instance:gk Tryz.prog 156:=⟨by kernel_rfl,by kernel_rfl⟩
instance:df Tryz.prog 156 (.pointer none) 1 8:=⟨by kernel_rfl,by kernel_rfl,by decide⟩
instance:df Tryz.prog 165 (.agg #[.int .i64 0,.int .i64 0,.int .i64 0]) 3 24:=⟨by kernel_rfl,by kernel_rfl,by decide⟩
instance:gz Tryz.prog 165 3:=⟨by kernel_rfl,by kernel_rfl⟩
instance:kA Tryz.prog 165 [(0,1),(1,1),(2,1)] [.int .i64 0,.int .i64 0,.int .i64 0]:=⟨by kernel_rfl,by kernel_rfl⟩
instance:sn Tryz.prog 165 3:=⟨by kernel_rfl,by kernel_rfl,by kernel_rfl,by kernel_rfl⟩
instance:cg Tryz.prog 165 0 0 3:=⟨by kernel_rfl,by kernel_rfl⟩
instance:cg Tryz.prog 165 1 1 3:=⟨by kernel_rfl,by kernel_rfl⟩
instance:cg Tryz.prog 165 2 2 3:=⟨by kernel_rfl,by kernel_rfl⟩
instance:bu Tryz.prog 189 4 1:=⟨by kernel_rfl,by kernel_rfl⟩
instance:uK Tryz.prog 222 256 4 1:=⟨by kernel_rfl,by kernel_rfl⟩
instance:kA Tryz.prog 224 [(0,256),(256,1)] [.bool false,.bool false,.bool false,.bool false,.bool false,.bool false,.bool false,.bool false,.bool false,.bool false,.bool false,.bool false,.bool false,.bool false,.bool false,.bool false,.bool false,.bool false,.bool false,.bool false,.bool false,.bool false,.bool false,.bool false,.bool false,.bool false,.bool false,.bool false,.bool false,.bool false,.bool false,.bool false,.bool false,.bool false,.bool false,.bool false,.bool false,.bool false,.bool false,.bool false,.bool false,.bool false,.bool false,.bool false,.bool false,.bool false,.bool false,.bool false,.bool false,.bool false,.bool false,.bool false,.bool false,.bool false,.bool false,.bool false,.bool false,.bool false,.bool false,.bool false,.bool false,.bool false,.bool false,.bool false,.bool false,.bool false,.bool false,.bool false,.bool false,.bool false,.bool false,.bool false,.bool false,.bool false,.bool false,.bool false,.bool false,.bool false,.bool false,.bool false,.bool false,.bool false,.bool false,.bool false,.bool false,.bool false,.bool false,.bool false,.bool false,.bool false,.bool false,.bool false,.bool false,.bool false,.bool false,.bool false,.bool false,.bool false,.bool false,.bool false,.bool false,.bool false,.bool false,.bool false,.bool false,.bool false,.bool false,.bool false,.bool false,.bool false,.bool false,.bool false,.bool false,.bool false,.bool false,.bool false,.bool false,.bool false,.bool false,.bool false,.bool false,.bool false,.bool false,.bool false,.bool false,.bool false,.bool false,.bool false,.bool false,.bool false,.bool false,.bool false,.bool false,.bool false,.bool false,.bool false,.bool false,.bool false,.bool false,.bool false,.bool false,.bool false,.bool false,.bool false,.bool false,.bool false,.bool false,.bool false,.bool false,.bool false,.bool false,.bool false,.bool false,.bool false,.bool false,.bool false,.bool false,.bool false,.bool false,.bool false,.bool false,.bool false,.bool false,.bool false,.bool false,.bool false,.bool false,.bool false,.bool false,.bool false,.bool false,.bool false,.bool false,.bool false,.bool false,.bool false,.bool false,.bool false,.bool false,.bool false,.bool false,.bool false,.bool false,.bool false,.bool false,.bool false,.bool false,.bool false,.bool false,.bool false,.bool false,.bool false,.bool false,.bool false,.bool false,.bool false,.bool false,.bool false,.bool false,.bool false,.bool false,.bool false,.bool false,.bool false,.bool false,.bool false,.bool false,.bool false,.bool false,.bool false,.bool false,.bool false,.bool false,.bool false,.bool false,.bool false,.bool false,.bool false,.bool false,.bool false,.bool false,.bool false,.bool false,.bool false,.bool false,.bool false,.bool false,.bool false,.bool false,.bool false,.bool false,.bool false,.bool false,.bool false,.bool false,.bool false,.bool false,.bool false,.bool false,.bool false,.bool false,.bool false,.bool false,.bool false,.bool false,.bool false,.bool false,.bool false,.bool false,.bool false,.bool false,.bool false,.bool false,.bool false,.bool false,.bool false,.bool false]:=⟨by kernel_rfl,by kernel_rfl⟩
instance:cg Tryz.prog 224 0 0 222:=⟨by kernel_rfl,by kernel_rfl⟩
instance:cg Tryz.prog 224 1 256 4:=⟨by kernel_rfl,by kernel_rfl⟩
instance:bu Tryz.prog 229 5 1:=⟨by kernel_rfl,by kernel_rfl⟩
instance:uK Tryz.prog 280 2 3 1:=⟨by kernel_rfl,by kernel_rfl⟩
instance:gz Tryz.prog 280 2:=⟨by kernel_rfl,by kernel_rfl⟩
instance:uK Tryz.prog 281 3 280 2:=⟨by kernel_rfl,by kernel_rfl⟩
instance:Body Tryz.prog 20:=az Tryz.func20 (by kernel_rfl) (by kernel_rfl)
instance:Body Tryz.prog 23:=az Tryz.func23 (by kernel_rfl) (by kernel_rfl)
instance:Body Tryz.prog 26:=az Tryz.func26 (by kernel_rfl) (by kernel_rfl)
instance:Body Tryz.prog 27:=az Tryz.func27 (by kernel_rfl) (by kernel_rfl)
instance:Body Tryz.prog 36:=az Tryz.func36 (by kernel_rfl) (by kernel_rfl)
instance:Body Tryz.prog 39:=az Tryz.func39 (by kernel_rfl) (by kernel_rfl)
instance:Body Tryz.prog 40:=az Tryz.func40 (by kernel_rfl) (by kernel_rfl)
instance:Body Tryz.prog 41:=az Tryz.func41 (by kernel_rfl) (by kernel_rfl)
instance:Body Tryz.prog 47:=az Tryz.func47 (by kernel_rfl) (by kernel_rfl)
instance:Body Tryz.prog 48:=az Tryz.func48 (by kernel_rfl) (by kernel_rfl)
instance:Body Tryz.prog 53:=az Tryz.func53 (by kernel_rfl) (by kernel_rfl)
instance:Body Tryz.prog 54:=az Tryz.func54 (by kernel_rfl) (by kernel_rfl)
instance:Body Tryz.prog 59:=az Tryz.func59 (by kernel_rfl) (by kernel_rfl)
instance:Body Tryz.prog 64:=az Tryz.func64 (by kernel_rfl) (by kernel_rfl)
instance:Body Tryz.prog 65:=az Tryz.func65 (by kernel_rfl) (by kernel_rfl)
instance:Body Tryz.prog 66:=az Tryz.func66 (by kernel_rfl) (by kernel_rfl)
instance:Body Tryz.prog 67:=az Tryz.func67 (by kernel_rfl) (by kernel_rfl)
instance:Body Tryz.prog 68:=az Tryz.func68 (by kernel_rfl) (by kernel_rfl)
instance:Body Tryz.prog 69:=az Tryz.func69 (by kernel_rfl) (by kernel_rfl)
instance:Body Tryz.prog 70:=az Tryz.func70 (by kernel_rfl) (by kernel_rfl)
instance:Body Tryz.prog 82:=az Tryz.func82 (by kernel_rfl) (by kernel_rfl)
instance:Body Tryz.prog 83:=az Tryz.func83 (by kernel_rfl) (by kernel_rfl)
instance:Body Tryz.prog 84:=az Tryz.func84 (by kernel_rfl) (by kernel_rfl)
instance:Body Tryz.prog 85:=az Tryz.func85 (by kernel_rfl) (by kernel_rfl)
instance:Body Tryz.prog 86:=az Tryz.func86 (by kernel_rfl) (by kernel_rfl)
instance:Body Tryz.prog 87:=az Tryz.func87 (by kernel_rfl) (by kernel_rfl)
instance:Body Tryz.prog 88:=az Tryz.func88 (by kernel_rfl) (by kernel_rfl)
instance:Body Tryz.prog 89:=az Tryz.func89 (by kernel_rfl) (by kernel_rfl)
instance:Body Tryz.prog 90:=az Tryz.func90 (by kernel_rfl) (by kernel_rfl)
instance:Body Tryz.prog 91:=az Tryz.func91 (by kernel_rfl) (by kernel_rfl)
instance:Body Tryz.prog 92:=az Tryz.func92 (by kernel_rfl) (by kernel_rfl)
instance:Body Tryz.prog 93:=az Tryz.func93 (by kernel_rfl) (by kernel_rfl)
instance:Body Tryz.prog 94:=az Tryz.func94 (by kernel_rfl) (by kernel_rfl)
instance:Body Tryz.prog 95:=az Tryz.func95 (by kernel_rfl) (by kernel_rfl)
instance:Body Tryz.prog 96:=az Tryz.func96 (by kernel_rfl) (by kernel_rfl)
instance:Body Tryz.prog 98:=az Tryz.func98 (by kernel_rfl) (by kernel_rfl)
instance:Body Tryz.prog 99:=az Tryz.func99 (by kernel_rfl) (by kernel_rfl)
instance:Body Tryz.prog 105:=az Tryz.func105 (by kernel_rfl) (by kernel_rfl)
instance:Body Tryz.prog 107:=az Tryz.func107 (by kernel_rfl) (by kernel_rfl)
instance:Body Tryz.prog 108:=az Tryz.func108 (by kernel_rfl) (by kernel_rfl)
instance:Body Tryz.prog 109:=az Tryz.func109 (by kernel_rfl) (by kernel_rfl)
instance:Body Tryz.prog 110:=az Tryz.func110 (by kernel_rfl) (by kernel_rfl)
instance:Body Tryz.prog 112:=az Tryz.func112 (by kernel_rfl) (by kernel_rfl)
instance:Body Tryz.prog 113:=az Tryz.func113 (by kernel_rfl) (by kernel_rfl)
instance:Body Tryz.prog 114:=az Tryz.func114 (by kernel_rfl) (by kernel_rfl)
instance:Body Tryz.prog 115:=az Tryz.func115 (by kernel_rfl) (by kernel_rfl)
instance:Body Tryz.prog 116:=az Tryz.func116 (by kernel_rfl) (by kernel_rfl)
instance:Body Tryz.prog 118:=az Tryz.func118 (by kernel_rfl) (by kernel_rfl)
instance:Body Tryz.prog 119:=az Tryz.func119 (by kernel_rfl) (by kernel_rfl)
instance:Body Tryz.prog 120:=az Tryz.func120 (by kernel_rfl) (by kernel_rfl)
instance:Body Tryz.prog 123:=az Tryz.func123 (by kernel_rfl) (by kernel_rfl)
instance:Body Tryz.prog 124:=az Tryz.func124 (by kernel_rfl) (by kernel_rfl)
instance:Body Tryz.prog 125:=az Tryz.func125 (by kernel_rfl) (by kernel_rfl)
instance:Body Tryz.prog 126:=az Tryz.func126 (by kernel_rfl) (by kernel_rfl)
instance:Body Tryz.prog 127:=az Tryz.func127 (by kernel_rfl) (by kernel_rfl)
instance:Body Tryz.prog 128:=az Tryz.func128 (by kernel_rfl) (by kernel_rfl)
instance:Body Tryz.prog 129:=az Tryz.func129 (by kernel_rfl) (by kernel_rfl)
instance:Body Tryz.prog 130:=az Tryz.func130 (by kernel_rfl) (by kernel_rfl)
instance:Body Tryz.prog 134:=az Tryz.func134 (by kernel_rfl) (by kernel_rfl)
instance:Body Tryz.prog 136:=az Tryz.func136 (by kernel_rfl) (by kernel_rfl)
instance:Body Tryz.prog 137:=az Tryz.func137 (by kernel_rfl) (by kernel_rfl)
instance:Body Tryz.prog 141:=az Tryz.func141 (by kernel_rfl) (by kernel_rfl)
instance:Body Tryz.prog 142:=az Tryz.func142 (by kernel_rfl) (by kernel_rfl)
instance:Body Tryz.prog 148:=az Tryz.func148 (by kernel_rfl) (by kernel_rfl)
instance:Body Tryz.prog 149:=az Tryz.func149 (by kernel_rfl) (by kernel_rfl)
instance:Body Tryz.prog 150:=az Tryz.func150 (by kernel_rfl) (by kernel_rfl)
instance:Body Tryz.prog 151:=az Tryz.func151 (by kernel_rfl) (by kernel_rfl)
instance:Body Tryz.prog 152:=az Tryz.func152 (by kernel_rfl) (by kernel_rfl)
instance:Body Tryz.prog 153:=az Tryz.func153 (by kernel_rfl) (by kernel_rfl)
instance:Body Tryz.prog 154:=az Tryz.func154 (by kernel_rfl) (by kernel_rfl)
instance:Body Tryz.prog 155:=az Tryz.func155 (by kernel_rfl) (by kernel_rfl)
instance:Body Tryz.prog 156:=az Tryz.func156 (by kernel_rfl) (by kernel_rfl)
instance:Body Tryz.prog 157:=az Tryz.func157 (by kernel_rfl) (by kernel_rfl)
instance:Body Tryz.prog 158:=az Tryz.func158 (by kernel_rfl) (by kernel_rfl)
instance:Body Tryz.prog 159:=az Tryz.func159 (by kernel_rfl) (by kernel_rfl)
instance:Body Tryz.prog 160:=az Tryz.func160 (by kernel_rfl) (by kernel_rfl)
instance:Body Tryz.prog 161:=az Tryz.func161 (by kernel_rfl) (by kernel_rfl)
instance:Body Tryz.prog 174:=az Tryz.func174 (by kernel_rfl) (by kernel_rfl)
instance:Body Tryz.prog 175:=az Tryz.func175 (by kernel_rfl) (by kernel_rfl)
instance:Body Tryz.prog 176:=az Tryz.func176 (by kernel_rfl) (by kernel_rfl)
instance:Body Tryz.prog 177:=az Tryz.func177 (by kernel_rfl) (by kernel_rfl)
instance:Body Tryz.prog 178:=az Tryz.func178 (by kernel_rfl) (by kernel_rfl)
instance:Body Tryz.prog 179:=az Tryz.func179 (by kernel_rfl) (by kernel_rfl)
instance:Body Tryz.prog 180:=az Tryz.func180 (by kernel_rfl) (by kernel_rfl)
instance:Body Tryz.prog 181:=az Tryz.func181 (by kernel_rfl) (by kernel_rfl)
instance:Body Tryz.prog 182:=az Tryz.func182 (by kernel_rfl) (by kernel_rfl)
instance:Body Tryz.prog 183:=az Tryz.func183 (by kernel_rfl) (by kernel_rfl)
instance:Body Tryz.prog 184:=az Tryz.func184 (by kernel_rfl) (by kernel_rfl)
instance:Body Tryz.prog 185:=az Tryz.func185 (by kernel_rfl) (by kernel_rfl)
instance:Body Tryz.prog 186:=az Tryz.func186 (by kernel_rfl) (by kernel_rfl)
instance:Body Tryz.prog 187:=az Tryz.func187 (by kernel_rfl) (by kernel_rfl)
instance:Body Tryz.prog 188:=az Tryz.func188 (by kernel_rfl) (by kernel_rfl)
instance:Body Tryz.prog 190:=az Tryz.func190 (by kernel_rfl) (by kernel_rfl)
instance:Body Tryz.prog 191:=az Tryz.func191 (by kernel_rfl) (by kernel_rfl)
instance:Body Tryz.prog 192:=az Tryz.func192 (by kernel_rfl) (by kernel_rfl)
instance:Body Tryz.prog 193:=az Tryz.func193 (by kernel_rfl) (by kernel_rfl)
instance:Body Tryz.prog 194:=az Tryz.func194 (by kernel_rfl) (by kernel_rfl)
instance:Body Tryz.prog 195:=az Tryz.func195 (by kernel_rfl) (by kernel_rfl)
instance:Body Tryz.prog 196:=az Tryz.func196 (by kernel_rfl) (by kernel_rfl)
instance:Body Tryz.prog 197:=az Tryz.func197 (by kernel_rfl) (by kernel_rfl)
instance:Body Tryz.prog 198:=az Tryz.func198 (by kernel_rfl) (by kernel_rfl)
instance:Body Tryz.prog 199:=az Tryz.func199 (by kernel_rfl) (by kernel_rfl)
instance:Body Tryz.prog 200:=az Tryz.func200 (by kernel_rfl) (by kernel_rfl)
instance:Body Tryz.prog 201:=az Tryz.func201 (by kernel_rfl) (by kernel_rfl)
instance:Body Tryz.prog 204:=az Tryz.func204 (by kernel_rfl) (by kernel_rfl)
instance:Body Tryz.prog 209:=az Tryz.func209 (by kernel_rfl) (by kernel_rfl)
instance:Body Tryz.prog 211:=az Tryz.func211 (by kernel_rfl) (by kernel_rfl)
instance:Body Tryz.prog 212:=az Tryz.func212 (by kernel_rfl) (by kernel_rfl)
instance:Body Tryz.prog 213:=az Tryz.func213 (by kernel_rfl) (by kernel_rfl)
instance:Body Tryz.prog 214:=az Tryz.func214 (by kernel_rfl) (by kernel_rfl)
instance:Body Tryz.prog 217:=az Tryz.func217 (by kernel_rfl) (by kernel_rfl)
instance:Body Tryz.prog 218:=az Tryz.func218 (by kernel_rfl) (by kernel_rfl)
instance:Body Tryz.prog 219:=az Tryz.func219 (by kernel_rfl) (by kernel_rfl)
instance:Body Tryz.prog 226:=az Tryz.func226 (by kernel_rfl) (by kernel_rfl)
instance:Body Tryz.prog 228:=az Tryz.func228 (by kernel_rfl) (by kernel_rfl)
instance:Body Tryz.prog 229:=az Tryz.func229 (by kernel_rfl) (by kernel_rfl)
instance:Body Tryz.prog 230:=az Tryz.func230 (by kernel_rfl) (by kernel_rfl)
instance:Body Tryz.prog 231:=az Tryz.func231 (by kernel_rfl) (by kernel_rfl)
instance:Body Tryz.prog 232:=az Tryz.func232 (by kernel_rfl) (by kernel_rfl)
instance:Body Tryz.prog 233:=az Tryz.func233 (by kernel_rfl) (by kernel_rfl)
instance:Body Tryz.prog 234:=az Tryz.func234 (by kernel_rfl) (by kernel_rfl)
instance:Body Tryz.prog 237:=az Tryz.func237 (by kernel_rfl) (by kernel_rfl)
instance:Body Tryz.prog 241:=az Tryz.func241 (by kernel_rfl) (by kernel_rfl)
instance:Body Tryz.prog 242:=az Tryz.func242 (by kernel_rfl) (by kernel_rfl)
instance:Body Tryz.prog 243:=az Tryz.func243 (by kernel_rfl) (by kernel_rfl)
instance:Body Tryz.prog 244:=az Tryz.func244 (by kernel_rfl) (by kernel_rfl)
instance:Body Tryz.prog 245:=az Tryz.func245 (by kernel_rfl) (by kernel_rfl)
instance:Body Tryz.prog 246:=az Tryz.func246 (by kernel_rfl) (by kernel_rfl)
instance:Body Tryz.prog 247:=az Tryz.func247 (by kernel_rfl) (by kernel_rfl)
instance:Body Tryz.prog 249:=az Tryz.func249 (by kernel_rfl) (by kernel_rfl)
instance:Body Tryz.prog 250:=az Tryz.func250 (by kernel_rfl) (by kernel_rfl)
instance:Body Tryz.prog 251:=az Tryz.func251 (by kernel_rfl) (by kernel_rfl)
instance:Body Tryz.prog 252:=az Tryz.func252 (by kernel_rfl) (by kernel_rfl)
instance:Body Tryz.prog 253:=az Tryz.func253 (by kernel_rfl) (by kernel_rfl)
instance:Body Tryz.prog 254:=az Tryz.func254 (by kernel_rfl) (by kernel_rfl)
instance:Body Tryz.prog 255:=az Tryz.func255 (by kernel_rfl) (by kernel_rfl)
instance:Body Tryz.prog 258:=az Tryz.func258 (by kernel_rfl) (by kernel_rfl)
instance:Body Tryz.prog 262:=az Tryz.func262 (by kernel_rfl) (by kernel_rfl)
instance:Body Tryz.prog 263:=az Tryz.func263 (by kernel_rfl) (by kernel_rfl)
instance:Body Tryz.prog 264:=az Tryz.func264 (by kernel_rfl) (by kernel_rfl)
instance:Body Tryz.prog 265:=az Tryz.func265 (by kernel_rfl) (by kernel_rfl)
instance:Body Tryz.prog 275:=az Tryz.func275 (by kernel_rfl) (by kernel_rfl)
theorem mixed:Tryz.prog.follows .mixedOrders=true:=by kernel_rfl
end Go.Proofs.YtbidkghlpijecaaGreatDoor
