/-
  Texts of the claim SlabBulks, part 2: what its theorem leans on.
-/
import Derived.Test.YtjimadiidbkohaaGreatDoorPackSlabBulks1
import Derived.Test.YtjimadiidbkohaaGreatDoorChecked
set_option linter.unusedVariables false
set_option linter.unusedSimpArgs false
namespace Go.Proofs.YtjimadiidbkohaaGreatDoor
open Go.RowKit
def qX (P:Program) (ops:Array Oper) (Q:Exit→Act→World→Prop) (fin ew:Nat) (S2:World→Prop) : (World→Prop)→Nat→Array Bool→Act→World→Prop
 | _,0,listed,a,w=>Region.ready .any ops listed=[]∧Q .normal a w
 | S,f+1,listed,a,w=>Region.ready .any ops listed≠[] ∧ ∀ i∈Region.ready .any ops listed,i<ops.size∧wpOp P ops Q i (fun a' w'=>(i=ew→qX P ops Q fin ew S2 (fun _=>True) f (listed.setIfInBounds i true) a' w') ∧
    (i≠ew→i=fin→S2 w'∧qX P ops Q fin ew S2 S2 f (listed.setIfInBounds i true) a' w')∧(i≠ew→i≠fin→S w'∧qX P ops Q fin ew S2 S f (listed.setIfInBounds i true) a' w')) a w
section
variable {P:Program} {ops:Array Oper} {Q:Exit→Act→World→Prop} {fin ew:Nat} {S2:World→Prop}
theorem lm:∀ (f:Nat) {S S':World→Prop} (hS:∀ w,S' w→S w) (listed:Array Bool) (a:Act) (w:World),qX P ops Q fin ew S2 S' f listed a w→qX P ops Q fin ew S2 S f listed a w
 | 0,_,_,_,_,_,_,h=>h
 | f+1,S,S',hS,_,_,_,h=>⟨h.1,fun i hi=>⟨(h.2 i hi).1,wpOp_mono (fun a' w' h'=>⟨h'.1,h'.2.1,fun n1 n2=>⟨hS _ (h'.2.2 n1 n2).1,lm f hS _ a' w' (h'.2.2 n1 n2).2⟩⟩) (h.2 i hi).2⟩⟩
theorem kF:∀ (f:Nat) {S:World→Prop} (listed:Array Bool) (a:Act) (w:World),qX P ops Q fin ew S2 S f listed a w→wpAny P .any ops Q f listed a w
 | 0,_,_,_,_,h=>h
 | f+1,S,listed,a,w,h=>⟨fun h0=>absurd h0 h.1,fun i hi=>wpOp_mono (fun a' w' h'=>by
    by_cases e:i=ew
    ·exact kF f _ a' w' (h'.1 e)
    ·by_cases e2:i=fin
     ·exact kF f _ a' w' (h'.2.1 e e2).2
     ·exact kF f _ a' w' (h'.2.2 e e2).2) (h.2 i hi).2⟩
def eV (ops:Array Oper) (k:Nat) : List Nat→Nat→Bool
 | [],i=>match ops[k]? with
   | some o=>o.after.any fun e=>Region.binds .any e && Nat.beq e.on i
   | none=>false
 | x::r,i=>(match ops[k]? with
   | some o=>o.after.any fun e=>Region.binds .any e && Nat.beq e.on x
   | none=>false) && eV ops x r i
theorem vq {k i:Nat} (h:(match ops[k]? with|some o=>o.after.any fun e=>Region.binds .any e && Nat.beq e.on i|none=>false)=true) : ∃ o,ops[k]?=some o ∧ ∃ e∈o.after,Region.binds .any e=true∧e.on=i:=by
 cases ho:ops[k]? with
 | none=>rw [ho] at h;cases h
 | some o =>
   rw [ho] at h;simp only [Array.any_eq_true',Bool.and_eq_true] at h;obtain ⟨e,he,hb,hn⟩:=h;exact ⟨o,rfl,e,he,hb,Nat.eq_of_beq_eq_true hn⟩
theorem nW {n:Nat} {listed:Array Bool} (inv:HeadInv .any ops n listed) : ∀ (p:List Nat) (k i:Nat),eV ops k p i=true→listed.getD k false=true→listed.getD i false=true
 | [],k,i,h,hk=>by
   obtain ⟨o,ho,e,he,hb,F7⟩:=vq h;rw [← F7];exact inv.closed k o ho hk e he hb
 | x::r,k,i,h,hk=>by
   simp only [eV,Bool.and_eq_true] at h;obtain ⟨o,ho,e,he,hb,F7⟩:=vq h.1;exact nW inv r x i h.2 (by rw [← F7];exact inv.closed k o ho hk e he hb)
theorem vr {n:Nat} {listed:Array Bool} (inv:HeadInv .any ops n listed) {p:List Nat} {k i:Nat} (h:eV ops k p i=true) (hk:k∈Region.ready .any ops listed) : listed.getD i false=true:=by
 obtain ⟨_,o,ho,gd⟩:=mem_ready.1 hk;cases p with
 | nil =>
   obtain ⟨o',tU,e,he,hb,F7⟩:=vq h;rw [ho] at tU;cases tU
   rw [← F7];exact gd e he hb
 | cons x r =>
   simp only [eV,Bool.and_eq_true] at h;obtain ⟨o',tU,e,he,hb,F7⟩:=vq h.1;rw [ho] at tU;cases tU
   exact nW inv r x i h.2 (by rw [← F7];exact gd e he hb)
theorem j9 {T:World→Prop} {i:Nat} {oi:Oper} {v:Value} (hi:ops[i]?=some oi) (Cg:∀ (j:Nat) (o:Oper) cs b,ops[j]?=some o→o.op ≠ .select cs b) (BY:i≠ew) (LQ:i≠fin)
 (hQ:∀ c a w,Q (.panic c) (a.put oi.dst v) w→Q (.panic c) a w) (J7:(∀ w,T w) ∨ ∃ p,eV ops ew p i=true) (qY:(∀ w,S2 w→T w) ∨ ∃ p,eV ops fin p i=true) :
 ∀ (f:Nat) {S:World→Prop} (HY:∀ w,S w→T w) (listed:Array Bool) (a:Act) (w:World),HeadInv .any ops ops.size listed →
  (∀ j oj,ops[j]?=some oj→j≠i→listed.getD j true=false→(∀ e∈oj.after,Region.binds .any e=true→e.on≠i)→oi.apart ops oj=true) →
  i∈Region.ready .any ops listed→YieldsIf P ops T oi v a→S w →
  qX P ops Q fin ew S2 S f (listed.setIfInBounds i true) (a.put oi.dst v) w→qX P ops Q fin ew S2 S (f+1) listed a w:=by
 intro f;induction f with
 | zero =>
   intro S HY listed a w inv _ hr hy hS H;have yl:=(mem_ready.1 hr).1;refine ⟨fun h=>(by rw [h] at hr;cases hr),fun j hj => ?_⟩;have jo:j<ops.size:=by obtain ⟨_,o,ho,_⟩:=mem_ready.1 hj;exact (Array.getElem?_eq_some_iff.1 ho).1
   refine ⟨jo,?_⟩;by_cases iY:j=i
   ·subst iY;exact hy.wpOp hi (HY _ hS) ⟨fun e=>absurd e BY,fun _ e=>absurd e LQ,fun _ _=>⟨hS,H⟩⟩
   ·have h0:=ready_mono hj iY;rw [H.1] at h0;cases h0
 | succ f ih =>
   intro S HY listed a w inv fH hr hy hS H;have yl:=(mem_ready.1 hr).1;refine ⟨fun h=>(by rw [h] at hr;cases hr),fun j hj => ?_⟩;have jo:j<ops.size:=by obtain ⟨_,o,ho,_⟩:=mem_ready.1 hj;exact (Array.getElem?_eq_some_iff.1 ho).1
   refine ⟨jo,?_⟩;by_cases iY:j=i
   ·subst iY;exact hy.wpOp hi (HY _ hS) ⟨fun e=>absurd e BY,fun _ e=>absurd e LQ,fun _ _=>⟨hS,H⟩⟩
   ·have h1:=(H.2 j (ready_mono hj iY)).2;obtain ⟨Ch,oj,F3,gd⟩:=mem_ready.1 hj
    have tW:∀ e∈oj.after,Region.binds .any e=true→e.on≠i:=fun e he hb Ef=>by
     have h1:=gd e he hb;rw [Ef,getD_both yl] at h1;cases h1
    have h2:=wpOp_putIf F3 (fH j oj F3 iY Ch tW) (fun cs b=>Cg i oi cs b hi) (fun cs b=>Cg j oj cs b F3) hQ hy h1
    have rW:∀ k ok,ops[k]?=some ok→k≠i→(listed.setIfInBounds j true).getD k true=false →
     (∀ e∈ok.after,Region.binds .any e=true→e.on≠i)→oi.apart ops ok=true:=fun k ok hk nM yl ll=>by
     refine fH k ok hk nM ?_ ll;by_cases kx:j=k
     ·subst kx;exact Ch
     ·rw [getD_set_ne true kx] at yl;exact yl
    have Ci:=inv.set hj jo
    have no:∀ {k:Nat} {p:List Nat},eV ops k p i=true→j=k→False:=fun {k p} HZ e=>by
     subst e;have:=vr inv HZ hj
     rw [getD_both yl] at this;cases this
    refine wpOp_mono (fun a' w' h3=>⟨fun e => ?_,fun n1 e => ?_,fun n1 n2=>⟨(h3.2.2.2 n1 n2).1,ih HY (listed.setIfInBounds j true) a' w' Ci rW (ready_mono hr (Ne.symm iY)) h3.1 (h3.2.2.2 n1 n2).1 ?_⟩⟩) h2
    ·rcases J7 with hT|⟨p,HZ⟩
     ·refine ih (fun w _=>hT w) (listed.setIfInBounds j true) a' w' Ci rW (ready_mono hr (Ne.symm iY)) h3.1 trivial ?_;rw [Array.setIfInBounds_comm _ _ iY];exact h3.2.1 e
     ·exact (no HZ e).elim
    ·rcases qY with hT|⟨p,HZ⟩
     ·refine ⟨(h3.2.2.1 n1 e).1,ih hT (listed.setIfInBounds j true) a' w' Ci rW (ready_mono hr (Ne.symm iY)) h3.1 (h3.2.2.1 n1 e).1 ?_⟩;rw [Array.setIfInBounds_comm _ _ iY];exact (h3.2.2.1 n1 e).2
     ·exact (no HZ e).elim
    ·rw [Array.setIfInBounds_comm _ _ iY];exact (h3.2.2.2 n1 n2).2
end
structure SF (P:Program) (n:Nat) (ops:Array Oper) (Q:Exit→Act→World→Prop) (fin ew:Nat) (S2:World→Prop) (f:Nat) (listed:Array Bool) (L:Env) (w:World) : Prop where
 out:∀ a,Fit n a L→HeadInv .any ops ops.size listed→qX P ops (NoPanic Q) fin ew S2 (Ext w) f listed a w
structure SG (P:Program) (n:Nat) (ops:Array Oper) (Q:Exit→Act→World→Prop) (fin ew:Nat) (S2:World→Prop) (f:Nat) (listed:Array Bool) (L:Env) (w:World) : Prop where
 out:∀ a,Fit n a L→HeadInv .any ops ops.size listed→qX P ops (NoPanic Q) fin ew S2 S2 f listed a w
def El (P:Program) (n:Nat) (ops:Array Oper) (Q:Exit→Act→World→Prop) (fin ew:Nat) (S2:World→Prop) (f:Nat) (listed:Array Bool) (w:World) : Exit→Act→World→Prop
 | .normal,a,w'=>Ext w w'∧(HeadInv .any ops ops.size listed→qX P ops (NoPanic Q) fin ew S2 (Ext w') f listed a w')
 | e,a,w'=>NoPanic Q e a w'
def F8 (P:Program) (n:Nat) (ops:Array Oper) (Q:Exit→Act→World→Prop) (fin ew:Nat) (S2:World→Prop) (f:Nat) (listed:Array Bool) : Exit→Act→World→Prop
 | .normal,a,w'=>S2 w'∧(HeadInv .any ops ops.size listed→qX P ops (NoPanic Q) fin ew S2 S2 f listed a w')
 | e,a,w'=>NoPanic Q e a w'
section
variable {P:Program} {n:Nat} {ops:Array Oper} {Q:Exit→Act→World→Prop} {fin ew f:Nat} {S2:World→Prop} {listed:Array Bool} {L:Env} {w:World}
theorem Em {i:Nat} (h:(!Nat.beq i ew && !Nat.beq i fin)=true) : i≠ew∧i≠fin:=by
 simp only [Bool.and_eq_true,Bool.not_eq_true'] at h;exact ⟨fun e=>by subst e;simp at h,fun e=>by subst e;simp at h⟩
theorem SF.take (i:Nat) (p q:List Nat) {o:Oper} (hB:Region.noSelect ops=true) (hi:ops[i]?=some o) (hf:Region.free .any ops listed i=true) (hr:(Region.ready .any ops listed).contains i=true) (hw:((eV ops fin p i && eV ops ew q i) && (!Nat.beq i ew && !Nat.beq i fin))=true)
 (h:SW P n ops (.tk fun L'=>SF P n ops Q fin ew S2 f (listed.setIfInBounds i true) L' w) [o] L w) : SF P n ops Q fin ew S2 (f+1) listed L w :=
 ⟨fun a ha inv=>by
  have hs:=h.out a ha;rw [Bool.and_eq_true,Bool.and_eq_true] at hw;obtain ⟨⟨ab,cJ⟩,j2⟩:=hw;obtain ⟨n1,n2⟩:=Em j2;have lQ:i∈Region.ready .any ops listed:=by simpa using hr
  have ck:i<ops.size:=(Array.getElem?_eq_some_iff.1 hi).1
  simp only [swp,vm] at hs;by_cases hw:Region.wanted o (yielded ops a.tmps)=true
  ·rw [if_pos hw] at hs;obtain ⟨v,hv,L',tX,hK⟩:=hs;exact j9 (T:=Ext w) hi (Region.noSelect_spec hB) n1 n2 (fun _ _ _ h=>(h:False).elim) (.inr ⟨q,cJ⟩) (.inr ⟨p,ab⟩) f (fun _ h=>h) listed a w inv (Region.free_spec hi hf) lQ (.inl ⟨hw,hv⟩) (Ext.refl w) (hK.out _ tX (inv.set lQ ck))
  ·rw [if_neg hw] at hs;obtain ⟨L',tX,hK⟩:=hs;exact j9 (T:=Ext w) hi (Region.noSelect_spec hB) n1 n2 (fun _ _ _ h=>(h:False).elim) (.inr ⟨q,cJ⟩) (.inr ⟨p,ab⟩) f (fun _ h=>h) listed a w inv (Region.free_spec hi hf) lQ (.inr ⟨by simpa using hw,rfl⟩) (Ext.refl w) (hK.out _ tX (inv.set lQ ck))⟩
theorem SF.dM (i:Nat) (q:List Nat) {d:Nat} {op:Op} {T:TypeId} {pos:String} {af:Array Edge} {v:Value} (hB:Region.noSelect ops=true) (hi:ops[i]?=some ⟨some d,op,T,pos,af,none⟩) (hf:Region.free .any ops listed i=true) (hr:(Region.ready .any ops listed).contains i=true) (hw:(eV ops ew q i && (!Nat.beq i ew && !Nat.beq i fin))=true)
 (h1:St P ⟨some d,op,T,pos,af,none⟩ L w v) (h2:∀ w2,S2 w2→St P ⟨some d,op,T,pos,af,none⟩ L w2 v) (hn:Nat.blt d n=true) (h:SF P n ops Q fin ew S2 f (listed.setIfInBounds i true) ((d,v)::L) w) : SF P n ops Q fin ew S2 (f+1) listed L w :=
 ⟨fun a ha inv=>by
  rw [Bool.and_eq_true] at hw;obtain ⟨ab,j2⟩:=hw;obtain ⟨n1,n2⟩:=Em j2;have lQ:i∈Region.ready .any ops listed:=by simpa using hr
  have ck:i<ops.size:=(Array.getElem?_eq_some_iff.1 hi).1
  exact j9 (T:=fun w'=>Ext w w'∨S2 w') hi (Region.noSelect_spec hB) n1 n2 (fun _ _ _ h=>(h:False).elim) (.inr ⟨q,ab⟩) (.inl fun _ => .inr) f (fun _ => .inl) listed a w inv (Region.free_spec hi hf) lQ (v:=v)
   (.inl ⟨by simp [Region.wanted],fun w' hh=>by rcases hh with hh|hh;exact h1.out n a ha w' hh;exact (h2 w' hh).out n a ha w' (Ext.refl w')⟩) (Ext.refl w) (h.out _ (ha.put hn v) (inv.set lQ ck))⟩
theorem SF.ln (i:Nat) {d:Nat} {op:Op} {T:TypeId} {pos:String} {af:Array Edge} {v:Value} (hB:Region.noSelect ops=true) (hi:ops[i]?=some ⟨some d,op,T,pos,af,none⟩) (hf:Region.free .any ops listed i=true) (hr:(Region.ready .any ops listed).contains i=true) (hw:(!Nat.beq i ew && !Nat.beq i fin)=true)
 (h1:∀ w2,St P ⟨some d,op,T,pos,af,none⟩ L w2 v) (hn:Nat.blt d n=true) (h:SF P n ops Q fin ew S2 f (listed.setIfInBounds i true) ((d,v)::L) w) : SF P n ops Q fin ew S2 (f+1) listed L w :=
 ⟨fun a ha inv=>by
  obtain ⟨n1,n2⟩:=Em hw;have lQ:i∈Region.ready .any ops listed:=by simpa using hr
  have ck:i<ops.size:=(Array.getElem?_eq_some_iff.1 hi).1
  exact j9 (T:=fun _=>True) hi (Region.noSelect_spec hB) n1 n2 (fun _ _ _ h=>(h:False).elim) (.inl fun _=>trivial) (.inl fun _ _=>trivial) f (fun _ _=>trivial) listed a w inv (Region.free_spec hi hf) lQ (v:=v)
   (.inl ⟨by simp [Region.wanted],fun w' _=>(h1 w').out n a ha w' (Ext.refl w')⟩) (Ext.refl w) (h.out _ (ha.put hn v) (inv.set lQ ck))⟩
theorem Oper.En {o:Oper} {a:Act} {N:Act→World→Prop} {Q1 Q2:Exit→Act→World→Prop} (hq:∀ e a w,e ≠ .normal→Q1 e a w→Q2 e a w) (hl:LetsOut Q1→LetsOut Q2) (h:o.wp P a w N Q1) : o.wp P a w N Q2:=by
 unfold Oper.wp at *;generalize (execOp a.eval o).run P w=r at *
 cases r with
 | ok x w' =>
   cases x<;>simp only [Oper.upon] at h ⊢
   case value=>exact h
   case skip=>exact h
   case defer=>exact h
   case row=>exact h
   case enter =>
    refine Calls.mono h fun e Ff he => ?_
    cases e
    ·exact he
    ·exact hq _ _ _ (by simp) he
    ·exact hl he
 | halt x w' =>
   cases x<;>simp only [Oper.upon] at h ⊢
   exact hq _ _ _ (by simp) h
theorem oR {i:Nat} {o:Oper} {a:Act} {Q1:Exit→Act→World→Prop} {K:Act→World→Prop} (hi:ops[i]?=some o) (hq:∀ e a w,e ≠ .normal→Q1 e a w→NoPanic Q e a w) (hl:LetsOut Q1→LetsOut (NoPanic Q)) (conv:∀ a' w',Q1 .normal a' w'→K a' w') (hs:wpList P ops Q1 [o] a w) : wpOp P ops (NoPanic Q) i K a w:=by
 simp only [wpList] at hs;unfold wpOp;simp only [hi];by_cases hw:Region.wanted o (yielded ops a.tmps)=true
 ·rw [if_pos hw] at hs ⊢;rcases hs with hs|⟨h1,h2⟩
  ·exact .inl (Oper.wp_mono conv (Oper.En hq hl hs))
  ·exact .inr ⟨h1,hl h2⟩
 ·rw [if_neg hw] at hs ⊢;exact conv _ _ hs
theorem SF.one (i:Nat) {o:Oper} (hi:ops[i]?=some o) (hr:Region.ready .any ops listed=[i]) (hw:(!Nat.beq i ew && !Nat.beq i fin)=true) (h:SW P n ops (.fF (El P n ops Q fin ew S2 f (listed.setIfInBounds i true) w)) [o] L w) : SF P n ops Q fin ew S2 (f+1) listed L w :=
 ⟨fun a ha inv=>⟨by rw [hr];simp,fun j hj=>by
  obtain ⟨n1,n2⟩:=Em hw;have iY:j=i:=by rw [hr] at hj;simpa using hj
  subst iY;have ck:j<ops.size:=(Array.getElem?_eq_some_iff.1 hi).1
  refine ⟨ck,oR (Q1:=El P n ops Q fin ew S2 f (listed.setIfInBounds j true) w) hi (fun e a w ne h=>by cases e<;>first|exact h|exact absurd rfl ne) (fun h=>h) (fun a' w' hh=>⟨fun e=>absurd e n1,fun _ e=>absurd e n2,fun _ _=>⟨hh.1,lm f (fun Ff Eg=>Ext.trans hh.1 Eg) _ _ _ (hh.2 (inv.set hj ck))⟩⟩) (h.out a ha)⟩⟩⟩
theorem ae.sf {l:Array Bool} {w0:World} (hx:Ext w0 w) (h:SF P n ops Q fin ew S2 f l L w) : ae n (El P n ops Q fin ew S2 f l w0) .normal L w:=⟨fun a ha=>⟨hx,h.out a ha⟩⟩
theorem SF.turn {o:Oper} (hi:ops[fin]?=some o) (hr:Region.ready .any ops listed=[fin]) (hw:Nat.beq fin ew=false) (h:SW P n ops (.fF (F8 P n ops Q fin ew S2 f (listed.setIfInBounds fin true))) [o] L w) : SF P n ops Q fin ew S2 (f+1) listed L w :=
 ⟨fun a ha inv=>⟨by rw [hr];simp,fun j hj=>by
  have iY:j=fin:=by rw [hr] at hj;simpa using hj
  have n1:j≠ew:=fun e=>by rw [← iY,e] at hw;simp at hw
  subst iY;have ck:j<ops.size:=(Array.getElem?_eq_some_iff.1 hi).1
  exact ⟨ck,oR (Q1:=F8 P n ops Q j ew S2 f (listed.setIfInBounds j true)) hi (fun e a w ne h=>by cases e<;>first|exact h|exact absurd rfl ne) (fun h=>h) (fun a' w' hh=>⟨fun e=>absurd e n1,fun _ _=>⟨hh.1,hh.2 (inv.set hj ck)⟩,fun _ n2=>absurd rfl n2⟩) (h.out a ha)⟩⟩⟩
theorem ae.sg {l:Array Bool} (hx:S2 w) (h:SG P n ops Q fin ew S2 f l L w) : ae n (F8 P n ops Q fin ew S2 f l) .normal L w:=⟨fun a ha=>⟨hx,h.out a ha⟩⟩
theorem SG.one (i:Nat) {o:Oper} (hi:ops[i]?=some o) (hr:Region.ready .any ops listed=[i]) (hw:(!Nat.beq i ew && !Nat.beq i fin)=true) (h:SW P n ops (.fF (F8 P n ops Q fin ew S2 f (listed.setIfInBounds i true))) [o] L w) : SG P n ops Q fin ew S2 (f+1) listed L w :=
 ⟨fun a ha inv=>⟨by rw [hr];simp,fun j hj=>by
  obtain ⟨n1,n2⟩:=Em hw;have iY:j=i:=by rw [hr] at hj;simpa using hj
  subst iY;have ck:j<ops.size:=(Array.getElem?_eq_some_iff.1 hi).1
  exact ⟨ck,oR (Q1:=F8 P n ops Q fin ew S2 f (listed.setIfInBounds j true)) hi (fun e a w ne h=>by cases e<;>first|exact h|exact absurd rfl ne) (fun h=>h) (fun a' w' hh=>⟨fun e=>absurd e n1,fun _ e=>absurd e n2,fun _ _=>⟨hh.1,hh.2 (inv.set hj ck)⟩⟩) (h.out a ha)⟩⟩⟩
theorem SF.last {o:Oper} (hi:ops[ew]?=some o) (hr:Region.ready .any ops listed=[ew]) (he:Region.ready .any ops (listed.setIfInBounds ew true)=[]) (h:SW P n ops (.fF (NoPanic Q)) [o] L w) : SF P n ops Q fin ew S2 1 listed L w :=
 ⟨fun a ha inv=>⟨by rw [hr];simp,fun j hj=>by
  have iY:j=ew:=by rw [hr] at hj;simpa using hj
  subst iY;exact ⟨(Array.getElem?_eq_some_iff.1 hi).1,oR (Q1:=NoPanic Q) hi (fun _ _ _ _ h=>h) (fun h=>h) (fun a' w' hh=>⟨fun _=>⟨he,hh⟩,fun n=>absurd rfl n,fun n=>absurd rfl n⟩) (h.out a ha)⟩⟩⟩
theorem SG.last {o:Oper} (hi:ops[ew]?=some o) (hr:Region.ready .any ops listed=[ew]) (he:Region.ready .any ops (listed.setIfInBounds ew true)=[]) (h:SW P n ops (.fF (NoPanic Q)) [o] L w) : SG P n ops Q fin ew S2 1 listed L w :=
 ⟨fun a ha inv=>⟨by rw [hr];simp,fun j hj=>by
  have iY:j=ew:=by rw [hr] at hj;simpa using hj
  subst iY;exact ⟨(Array.getElem?_eq_some_iff.1 hi).1,oR (Q1:=NoPanic Q) hi (fun _ _ _ _ h=>h) (fun h=>h) (fun a' w' hh=>⟨fun _=>⟨he,hh⟩,fun n=>absurd rfl n,fun n=>absurd rfl n⟩) (h.out a ha)⟩⟩⟩
theorem CW.jf {id:Nat} {l:List Oper} (fin ew:Nat) (S2:World→Prop) (hm:P.follows .mixedOrders=true) (hB:Region.noSelect l.toArray=true) (h:∀ w',Ext w w'→Region.noSelect l.toArray=true→SF P n l.toArray Q fin ew S2 l.length (Array.replicate l.length false) L w') : CW P n (.region id l.toArray true) Q L w :=
 ⟨fun a ha=>by
  refine wp_region_noPanic (wp_region_any hm ?_);have h0:=(h _ (Ext.drew w) hB).out a ha ⟨by simp,fun j oj _ hl=>(by rw [getD_replicate_false] at hl;cases hl),fun t h1 h2=>absurd h2 (Nat.not_lt.2 h1)⟩;have:=kF _ _ _ _ h0
  simpa using this⟩
end
end Go.Proofs.YtjimadiidbkohaaGreatDoor
/-
  Plain steps in one: as OK as M1 go; what is left is the M2 that Wz (Ws, Wa, Wf) takes. No program in LR.
-/
namespace Go.Proofs.YtjimadiidbkohaaGreatDoor
open Go.RowKit

structure Ck (T : Prop) : Prop where
  out : T
section
variable {P : Program} {n : Nat} {ops : Array Oper} {L : Env} {w : World} {d : Option Nat} {T : TypeId} {pos : String} {af : Array Edge} {g : Option (Nat × Bool)}
theorem r5 {t : TypeId} [gD P t] {x : Operand} {b i : Nat} {tb : TypeId} {cs : List Value} {v : Value} (hx : cd L x = some (.pointer (some ⟨b, i, none⟩))) (h : aI w b tb cs ∧ cs[i]? = some v := by (apply And.intro; assumption; rfl)) : St P ⟨d, .load t x, T, pos, af, g⟩ L w v :=
  ak hx (by have := h.1.cell h.2; rwa [c9] at this)
theorem pN {t : TypeId} {m : Nat} [c : iv P t m] {x : Operand} {b : Nat} {tb : TypeId} {cs : List Value} (hx : cd L x = some (.pointer (some ⟨b, 0, none⟩))) (h : aI w b tb cs ∧ cs.length = m := by (apply And.intro; assumption; rfl)) : St P ⟨d, .load t x, T, pos, af, g⟩ L w (.agg cs.toArray) :=
  aY hx h.2 fun _ _ hv => h.1.cell hv
def LS (ops : Array Oper) (k i : Nat) : List Nat := bif eV ops k [] i then [] else (((List.range ops.size).find? fun j => eV ops k [j] i).map fun j => [j]).getD ((((List.range ops.size).flatMap fun j => (List.range ops.size).map fun m => [j, m]).find? fun p => eV ops k p i).getD [])
theorem SF.eu {Q : Exit → Act → World → Prop} {fin ew f : Nat} {S2 : World → Prop} {listed : Array Bool} (i : Nat) {o : Oper} (hB : Region.noSelect ops = true) (hi : ops[i]? = some o) (hf : Region.free .any ops listed i = true) (hr : (Region.ready .any ops listed).contains i = true) (hw : ((eV ops fin (LS ops fin i) i && eV ops ew (LS ops ew i) i) && (!Nat.beq i ew && !Nat.beq i fin)) = true)
    (h : SW P n ops (.tk fun L' => SF P n ops Q fin ew S2 f (listed.setIfInBounds i true) L' w) [o] L w) : SF P n ops Q fin ew S2 (f + 1) listed L w := SF.take i _ _ hB hi hf hr hw h
end
theorem Wz {g T : Prop} (h : T) (hg : Ck T → g := by
    intro h
    (first
      | (show CW _ _ _ _ _ _; first | refine CW.seq ?_ | refine CW.region ?_ | refine CW.block ?_ | refine CW.kT rfl (by with_reducible rfl) ?_ | refine CW.rR rfl (by with_reducible rfl) ?_ | refine CW.jn rfl (by omega) ?_ | refine CW.iF rfl (by omega) ?_ | refine CW.nt rfl (by omega) ?_ | refine CW.oL rfl (by omega) ?_ | refine CW.skip ?_ | refine CW.ret ?_ | refine CW.exit ?_)
      | (show ae _ _ _ _ _; first | refine ae.seq ?_ | refine ae.fT ?_ | refine ae.iE ?_ | refine ae.hit ?_ | refine ae.pass rfl ?_ | refine ae.cV ?_ | refine ae.iG ?_ | refine ae.fw ?_ | refine ae.eX ?_ | refine ae.np ?_)
      | refine SW.nil ?_
      | (show SW _ _ _ _ (⟨_, _, _, _, _, some _⟩ :: _) _ _; first | refine SW.gg rfl rfl (by with_reducible rfl) ?_ | refine SW.bV rfl rfl (by with_reducible rfl) ?_ | refine SW.gG rfl rfl (by with_reducible rfl) rfl ?_ | refine SW.kS rfl rfl (by with_reducible rfl) rfl ?_ | refine SW.oa rfl rfl (by with_reducible rfl) rfl ?_ | refine SW.jx rfl rfl rfl (by omega) ?_ | refine SW.jy rfl rfl rfl (by omega) ?_ | refine SW.gR rfl rfl rfl (by omega) ?_ | refine SW.dY rfl rfl rfl (by omega) ?_)
      | refine SW.pure rfl rfl ?_
      | (show SW _ _ _ _ (⟨_, Op.fieldAddr _ _ _, _, _, _, none⟩ :: _) _ _; refine SW.st (aC rfl) rfl ?_)
      | (show SW _ _ _ _ (⟨_, Op.nilCheck _, _, _, _, none⟩ :: _) _ _; refine SW.st (aJ rfl) rfl ?_)
      | (show SW _ _ _ _ (⟨_, Op.build _ _, _, _, _, none⟩ :: _) _ _; refine SW.st (gh rfl rfl) rfl ?_)
      | (show SW _ _ _ _ (⟨_, Op.binOp _ _ _ _ _, _, _, _, none⟩ :: _) _ _; first | refine SW.st (kU rfl rfl (by omega) (by omega)) rfl ?_ | refine SW.st (iI rfl rfl (by omega) (by omega)) rfl ?_ | refine SW.st (je rfl rfl (by omega) (by omega)) rfl ?_ | refine SW.st (rT rfl rfl (by omega) (by omega) (by omega)) rfl ?_ | refine SW.st (oc rfl rfl (by omega)) rfl ?_)
      | (show SW _ _ _ _ (⟨_, Op.indexAddr _ _ _, _, _, _, none⟩ :: _) _ _; refine SW.st (bk rfl rfl (by assumption) (by omega)) rfl ?_)
      | (show SW _ _ _ _ (⟨_, Op.call ⟨.builtin .len, _, _⟩, _, _, _, none⟩ :: _) _ _; refine SW.st (eY rfl) rfl ?_)
      | (show SW _ _ _ _ (⟨_, Op.call ⟨.builtin .cap, _, _⟩, _, _, _, none⟩ :: _) _ _; refine SW.st (rY rfl) rfl ?_)
      | (show SW _ _ _ _ (⟨_, Op.load _ _, _, _, _, none⟩ :: _) _ _; first | refine SW.st (r5 rfl) rfl ?_ | refine SW.st (pN rfl) rfl ?_))
    repeat' (first
      | (show CW _ _ _ _ _ _; first | refine CW.seq ?_ | refine CW.region ?_ | refine CW.block ?_ | refine CW.kT rfl (by with_reducible rfl) ?_ | refine CW.rR rfl (by with_reducible rfl) ?_ | refine CW.jn rfl (by omega) ?_ | refine CW.iF rfl (by omega) ?_ | refine CW.nt rfl (by omega) ?_ | refine CW.oL rfl (by omega) ?_ | refine CW.skip ?_ | refine CW.ret ?_ | refine CW.exit ?_)
      | (show ae _ _ _ _ _; first | refine ae.seq ?_ | refine ae.fT ?_ | refine ae.iE ?_ | refine ae.hit ?_ | refine ae.pass rfl ?_ | refine ae.cV ?_ | refine ae.iG ?_ | refine ae.fw ?_ | refine ae.eX ?_ | refine ae.np ?_)
      | refine SW.nil ?_
      | (show SW _ _ _ _ (⟨_, _, _, _, _, some _⟩ :: _) _ _; first | refine SW.gg rfl rfl (by with_reducible rfl) ?_ | refine SW.bV rfl rfl (by with_reducible rfl) ?_ | refine SW.gG rfl rfl (by with_reducible rfl) rfl ?_ | refine SW.kS rfl rfl (by with_reducible rfl) rfl ?_ | refine SW.oa rfl rfl (by with_reducible rfl) rfl ?_ | refine SW.jx rfl rfl rfl (by omega) ?_ | refine SW.jy rfl rfl rfl (by omega) ?_ | refine SW.gR rfl rfl rfl (by omega) ?_ | refine SW.dY rfl rfl rfl (by omega) ?_)
      | refine SW.pure rfl rfl ?_
      | (show SW _ _ _ _ (⟨_, Op.fieldAddr _ _ _, _, _, _, none⟩ :: _) _ _; refine SW.st (aC rfl) rfl ?_)
      | (show SW _ _ _ _ (⟨_, Op.nilCheck _, _, _, _, none⟩ :: _) _ _; refine SW.st (aJ rfl) rfl ?_)
      | (show SW _ _ _ _ (⟨_, Op.build _ _, _, _, _, none⟩ :: _) _ _; refine SW.st (gh rfl rfl) rfl ?_)
      | (show SW _ _ _ _ (⟨_, Op.binOp _ _ _ _ _, _, _, _, none⟩ :: _) _ _; first | refine SW.st (kU rfl rfl (by omega) (by omega)) rfl ?_ | refine SW.st (iI rfl rfl (by omega) (by omega)) rfl ?_ | refine SW.st (je rfl rfl (by omega) (by omega)) rfl ?_ | refine SW.st (rT rfl rfl (by omega) (by omega) (by omega)) rfl ?_ | refine SW.st (oc rfl rfl (by omega)) rfl ?_)
      | (show SW _ _ _ _ (⟨_, Op.indexAddr _ _ _, _, _, _, none⟩ :: _) _ _; refine SW.st (bk rfl rfl (by assumption) (by omega)) rfl ?_)
      | (show SW _ _ _ _ (⟨_, Op.call ⟨.builtin .len, _, _⟩, _, _, _, none⟩ :: _) _ _; refine SW.st (eY rfl) rfl ?_)
      | (show SW _ _ _ _ (⟨_, Op.call ⟨.builtin .cap, _, _⟩, _, _, _, none⟩ :: _) _ _; refine SW.st (rY rfl) rfl ?_)
      | (show SW _ _ _ _ (⟨_, Op.load _ _, _, _, _, none⟩ :: _) _ _; first | refine SW.st (r5 rfl) rfl ?_ | refine SW.st (pN rfl) rfl ?_)
      | exact h.out)) : g := hg ⟨h⟩

theorem Ws {g T : Prop} (h : T) (hg : Ck T → g := by
    intro h
    repeat' (first
      | (show SW _ _ _ _ (⟨_, _, _, _, _, some _⟩ :: _) _ _; first | refine SW.gg rfl rfl (by with_reducible rfl) ?_ | refine SW.bV rfl rfl (by with_reducible rfl) ?_ | refine SW.gG rfl rfl (by with_reducible rfl) rfl ?_ | refine SW.kS rfl rfl (by with_reducible rfl) rfl ?_ | refine SW.oa rfl rfl (by with_reducible rfl) rfl ?_ | refine SW.jx rfl rfl rfl (by omega) ?_ | refine SW.jy rfl rfl rfl (by omega) ?_ | refine SW.gR rfl rfl rfl (by omega) ?_ | refine SW.dY rfl rfl rfl (by omega) ?_)
      | refine SW.pure rfl rfl ?_
      | (show SW _ _ _ _ (⟨_, Op.fieldAddr _ _ _, _, _, _, none⟩ :: _) _ _; refine SW.st (aC rfl) rfl ?_)
      | (show SW _ _ _ _ (⟨_, Op.nilCheck _, _, _, _, none⟩ :: _) _ _; refine SW.st (aJ rfl) rfl ?_)
      | (show SW _ _ _ _ (⟨_, Op.build _ _, _, _, _, none⟩ :: _) _ _; refine SW.st (gh rfl rfl) rfl ?_)
      | (show SW _ _ _ _ (⟨_, Op.binOp _ _ _ _ _, _, _, _, none⟩ :: _) _ _; first | refine SW.st (kU rfl rfl (by omega) (by omega)) rfl ?_ | refine SW.st (iI rfl rfl (by omega) (by omega)) rfl ?_ | refine SW.st (je rfl rfl (by omega) (by omega)) rfl ?_ | refine SW.st (rT rfl rfl (by omega) (by omega) (by omega)) rfl ?_ | refine SW.st (oc rfl rfl (by omega)) rfl ?_)
      | (show SW _ _ _ _ (⟨_, Op.indexAddr _ _ _, _, _, _, none⟩ :: _) _ _; refine SW.st (bk rfl rfl (by assumption) (by omega)) rfl ?_)
      | (show SW _ _ _ _ (⟨_, Op.call ⟨.builtin .len, _, _⟩, _, _, _, none⟩ :: _) _ _; refine SW.st (eY rfl) rfl ?_)
      | (show SW _ _ _ _ (⟨_, Op.call ⟨.builtin .cap, _, _⟩, _, _, _, none⟩ :: _) _ _; refine SW.st (rY rfl) rfl ?_)
      | (show SW _ _ _ _ (⟨_, Op.load _ _, _, _, _, none⟩ :: _) _ _; first | refine SW.st (r5 rfl) rfl ?_ | refine SW.st (pN rfl) rfl ?_)
      | exact h.out)) : g := hg ⟨h⟩

theorem Wa {g T : Prop} (h : T) (hg : Ck T → g := by
    intro h
    repeat' (first
      | (refine SA.take 0 (by assumption) rfl (by decide +kernel) (by decide +kernel) rfl ?_; refine Ws ?_; refine SW.ai ?_)
      | (refine SA.take 1 (by assumption) rfl (by decide +kernel) (by decide +kernel) rfl ?_; refine Ws ?_; refine SW.ai ?_)
      | (refine SA.take 2 (by assumption) rfl (by decide +kernel) (by decide +kernel) rfl ?_; refine Ws ?_; refine SW.ai ?_)
      | (refine SA.take 3 (by assumption) rfl (by decide +kernel) (by decide +kernel) rfl ?_; refine Ws ?_; refine SW.ai ?_)
      | (refine SA.take 4 (by assumption) rfl (by decide +kernel) (by decide +kernel) rfl ?_; refine Ws ?_; refine SW.ai ?_)
      | (refine SA.take 5 (by assumption) rfl (by decide +kernel) (by decide +kernel) rfl ?_; refine Ws ?_; refine SW.ai ?_)
      | (refine SA.take 6 (by assumption) rfl (by decide +kernel) (by decide +kernel) rfl ?_; refine Ws ?_; refine SW.ai ?_)
      | (refine SA.take 7 (by assumption) rfl (by decide +kernel) (by decide +kernel) rfl ?_; refine Ws ?_; refine SW.ai ?_)
      | (refine SA.take 8 (by assumption) rfl (by decide +kernel) (by decide +kernel) rfl ?_; refine Ws ?_; refine SW.ai ?_)
      | (refine SA.take 9 (by assumption) rfl (by decide +kernel) (by decide +kernel) rfl ?_; refine Ws ?_; refine SW.ai ?_)
      | (refine SA.take 10 (by assumption) rfl (by decide +kernel) (by decide +kernel) rfl ?_; refine Ws ?_; refine SW.ai ?_)
      | (refine SA.take 11 (by assumption) rfl (by decide +kernel) (by decide +kernel) rfl ?_; refine Ws ?_; refine SW.ai ?_)
      | (refine SA.take 12 (by assumption) rfl (by decide +kernel) (by decide +kernel) rfl ?_; refine Ws ?_; refine SW.ai ?_)
      | (refine SA.take 13 (by assumption) rfl (by decide +kernel) (by decide +kernel) rfl ?_; refine Ws ?_; refine SW.ai ?_)
      | (refine SA.take 14 (by assumption) rfl (by decide +kernel) (by decide +kernel) rfl ?_; refine Ws ?_; refine SW.ai ?_)
      | (refine SA.take 15 (by assumption) rfl (by decide +kernel) (by decide +kernel) rfl ?_; refine Ws ?_; refine SW.ai ?_)
      | (refine SA.take 16 (by assumption) rfl (by decide +kernel) (by decide +kernel) rfl ?_; refine Ws ?_; refine SW.ai ?_)
      | (refine SA.take 17 (by assumption) rfl (by decide +kernel) (by decide +kernel) rfl ?_; refine Ws ?_; refine SW.ai ?_)
      | (refine SA.take 18 (by assumption) rfl (by decide +kernel) (by decide +kernel) rfl ?_; refine Ws ?_; refine SW.ai ?_)
      | (refine SA.take 19 (by assumption) rfl (by decide +kernel) (by decide +kernel) rfl ?_; refine Ws ?_; refine SW.ai ?_)
      | (refine SA.take 20 (by assumption) rfl (by decide +kernel) (by decide +kernel) rfl ?_; refine Ws ?_; refine SW.ai ?_)
      | (refine SA.take 21 (by assumption) rfl (by decide +kernel) (by decide +kernel) rfl ?_; refine Ws ?_; refine SW.ai ?_)
      | (refine SA.take 22 (by assumption) rfl (by decide +kernel) (by decide +kernel) rfl ?_; refine Ws ?_; refine SW.ai ?_)
      | (refine SA.take 23 (by assumption) rfl (by decide +kernel) (by decide +kernel) rfl ?_; refine Ws ?_; refine SW.ai ?_)
      | (refine SA.take 24 (by assumption) rfl (by decide +kernel) (by decide +kernel) rfl ?_; refine Ws ?_; refine SW.ai ?_)
      | (refine SA.take 25 (by assumption) rfl (by decide +kernel) (by decide +kernel) rfl ?_; refine Ws ?_; refine SW.ai ?_)
      | (refine SA.take 26 (by assumption) rfl (by decide +kernel) (by decide +kernel) rfl ?_; refine Ws ?_; refine SW.ai ?_)
      | (refine SA.take 27 (by assumption) rfl (by decide +kernel) (by decide +kernel) rfl ?_; refine Ws ?_; refine SW.ai ?_)
      | (refine SA.take 28 (by assumption) rfl (by decide +kernel) (by decide +kernel) rfl ?_; refine Ws ?_; refine SW.ai ?_)
      | (refine SA.take 29 (by assumption) rfl (by decide +kernel) (by decide +kernel) rfl ?_; refine Ws ?_; refine SW.ai ?_)
      | exact h.out)) : g := hg ⟨h⟩

theorem Wf {g T : Prop} (h : T) (hg : Ck T → g := by
    intro h
    repeat' (first
      | (refine SF.eu 0 (by assumption) rfl (by decide +kernel) (by decide +kernel) (by decide +kernel) ?_; refine Ws ?_; refine SW.ai ?_)
      | (refine SF.eu 1 (by assumption) rfl (by decide +kernel) (by decide +kernel) (by decide +kernel) ?_; refine Ws ?_; refine SW.ai ?_)
      | (refine SF.eu 2 (by assumption) rfl (by decide +kernel) (by decide +kernel) (by decide +kernel) ?_; refine Ws ?_; refine SW.ai ?_)
      | (refine SF.eu 3 (by assumption) rfl (by decide +kernel) (by decide +kernel) (by decide +kernel) ?_; refine Ws ?_; refine SW.ai ?_)
      | (refine SF.eu 4 (by assumption) rfl (by decide +kernel) (by decide +kernel) (by decide +kernel) ?_; refine Ws ?_; refine SW.ai ?_)
      | (refine SF.eu 5 (by assumption) rfl (by decide +kernel) (by decide +kernel) (by decide +kernel) ?_; refine Ws ?_; refine SW.ai ?_)
      | (refine SF.eu 6 (by assumption) rfl (by decide +kernel) (by decide +kernel) (by decide +kernel) ?_; refine Ws ?_; refine SW.ai ?_)
      | (refine SF.eu 7 (by assumption) rfl (by decide +kernel) (by decide +kernel) (by decide +kernel) ?_; refine Ws ?_; refine SW.ai ?_)
      | (refine SF.eu 8 (by assumption) rfl (by decide +kernel) (by decide +kernel) (by decide +kernel) ?_; refine Ws ?_; refine SW.ai ?_)
      | (refine SF.eu 9 (by assumption) rfl (by decide +kernel) (by decide +kernel) (by decide +kernel) ?_; refine Ws ?_; refine SW.ai ?_)
      | (refine SF.eu 10 (by assumption) rfl (by decide +kernel) (by decide +kernel) (by decide +kernel) ?_; refine Ws ?_; refine SW.ai ?_)
      | (refine SF.eu 11 (by assumption) rfl (by decide +kernel) (by decide +kernel) (by decide +kernel) ?_; refine Ws ?_; refine SW.ai ?_)
      | (refine SF.eu 12 (by assumption) rfl (by decide +kernel) (by decide +kernel) (by decide +kernel) ?_; refine Ws ?_; refine SW.ai ?_)
      | (refine SF.eu 13 (by assumption) rfl (by decide +kernel) (by decide +kernel) (by decide +kernel) ?_; refine Ws ?_; refine SW.ai ?_)
      | (refine SF.eu 14 (by assumption) rfl (by decide +kernel) (by decide +kernel) (by decide +kernel) ?_; refine Ws ?_; refine SW.ai ?_)
      | (refine SF.eu 15 (by assumption) rfl (by decide +kernel) (by decide +kernel) (by decide +kernel) ?_; refine Ws ?_; refine SW.ai ?_)
      | (refine SF.eu 16 (by assumption) rfl (by decide +kernel) (by decide +kernel) (by decide +kernel) ?_; refine Ws ?_; refine SW.ai ?_)
      | (refine SF.eu 17 (by assumption) rfl (by decide +kernel) (by decide +kernel) (by decide +kernel) ?_; refine Ws ?_; refine SW.ai ?_)
      | (refine SF.eu 18 (by assumption) rfl (by decide +kernel) (by decide +kernel) (by decide +kernel) ?_; refine Ws ?_; refine SW.ai ?_)
      | (refine SF.eu 19 (by assumption) rfl (by decide +kernel) (by decide +kernel) (by decide +kernel) ?_; refine Ws ?_; refine SW.ai ?_)
      | (refine SF.eu 20 (by assumption) rfl (by decide +kernel) (by decide +kernel) (by decide +kernel) ?_; refine Ws ?_; refine SW.ai ?_)
      | (refine SF.eu 21 (by assumption) rfl (by decide +kernel) (by decide +kernel) (by decide +kernel) ?_; refine Ws ?_; refine SW.ai ?_)
      | (refine SF.eu 22 (by assumption) rfl (by decide +kernel) (by decide +kernel) (by decide +kernel) ?_; refine Ws ?_; refine SW.ai ?_)
      | (refine SF.eu 23 (by assumption) rfl (by decide +kernel) (by decide +kernel) (by decide +kernel) ?_; refine Ws ?_; refine SW.ai ?_)
      | (refine SF.eu 24 (by assumption) rfl (by decide +kernel) (by decide +kernel) (by decide +kernel) ?_; refine Ws ?_; refine SW.ai ?_)
      | (refine SF.eu 25 (by assumption) rfl (by decide +kernel) (by decide +kernel) (by decide +kernel) ?_; refine Ws ?_; refine SW.ai ?_)
      | (refine SF.eu 26 (by assumption) rfl (by decide +kernel) (by decide +kernel) (by decide +kernel) ?_; refine Ws ?_; refine SW.ai ?_)
      | (refine SF.eu 27 (by assumption) rfl (by decide +kernel) (by decide +kernel) (by decide +kernel) ?_; refine Ws ?_; refine SW.ai ?_)
      | (refine SF.eu 28 (by assumption) rfl (by decide +kernel) (by decide +kernel) (by decide +kernel) ?_; refine Ws ?_; refine SW.ai ?_)
      | (refine SF.eu 29 (by assumption) rfl (by decide +kernel) (by decide +kernel) (by decide +kernel) ?_; refine Ws ?_; refine SW.ai ?_)
      | exact h.out)) : g := hg ⟨h⟩

theorem Wy {g T : Prop} (h : T) (hg : Ck T → g := by
    intro h
    (first
      | (show CW _ _ _ _ _ _; first | refine CW.seq ?_ | refine CW.region ?_ | refine CW.block ?_ | refine CW.kT rfl (by with_reducible rfl) ?_ | refine CW.rR rfl (by with_reducible rfl) ?_ | refine CW.jn rfl (by omega) ?_ | refine CW.iF rfl (by omega) ?_ | refine CW.nt rfl (by omega) ?_ | refine CW.oL rfl (by omega) ?_ | refine CW.skip ?_ | refine CW.ret ?_ | refine CW.exit ?_)
      | (show ae _ _ _ _ _; first | refine ae.seq ?_ | refine ae.fT ?_ | refine ae.iE ?_ | refine ae.hit ?_ | refine ae.pass rfl ?_ | refine ae.cV ?_ | refine ae.iG ?_ | refine ae.fw ?_ | refine ae.eX ?_ | refine ae.np ?_)
      | refine SW.nil ?_
      | (show SW _ _ _ _ (⟨_, _, _, _, _, some _⟩ :: _) _ _; first | refine SW.gg rfl rfl (by with_reducible rfl) ?_ | refine SW.bV rfl rfl (by with_reducible rfl) ?_ | refine SW.gG rfl rfl (by with_reducible rfl) rfl ?_ | refine SW.kS rfl rfl (by with_reducible rfl) rfl ?_ | refine SW.oa rfl rfl (by with_reducible rfl) rfl ?_ | refine SW.jx rfl rfl rfl (by omega) ?_ | refine SW.jy rfl rfl rfl (by omega) ?_ | refine SW.gR rfl rfl rfl (by omega) ?_ | refine SW.dY rfl rfl rfl (by omega) ?_)
      | refine SW.pure rfl rfl ?_
      | (show SW _ _ _ _ (⟨_, Op.fieldAddr _ _ _, _, _, _, none⟩ :: _) _ _; refine SW.st (aC rfl) rfl ?_)
      | (show SW _ _ _ _ (⟨_, Op.nilCheck _, _, _, _, none⟩ :: _) _ _; refine SW.st (aJ rfl) rfl ?_)
      | (show SW _ _ _ _ (⟨_, Op.build _ _, _, _, _, none⟩ :: _) _ _; refine SW.st (gh rfl rfl) rfl ?_)
      | (show SW _ _ _ _ (⟨_, Op.binOp _ _ _ _ _, _, _, _, none⟩ :: _) _ _; first | refine SW.st (kU rfl rfl (by omega) (by omega)) rfl ?_ | refine SW.st (iI rfl rfl (by omega) (by omega)) rfl ?_ | refine SW.st (je rfl rfl (by omega) (by omega)) rfl ?_ | refine SW.st (rT rfl rfl (by omega) (by omega) (by omega)) rfl ?_ | refine SW.st (oc rfl rfl (by omega)) rfl ?_)
      | (show SW _ _ _ _ (⟨_, Op.indexAddr _ _ _, _, _, _, none⟩ :: _) _ _; refine SW.st (bk rfl rfl (by assumption) (by omega)) rfl ?_)
      | (show SW _ _ _ _ (⟨_, Op.call ⟨.builtin .len, _, _⟩, _, _, _, none⟩ :: _) _ _; refine SW.st (eY rfl) rfl ?_)
      | (show SW _ _ _ _ (⟨_, Op.call ⟨.builtin .cap, _, _⟩, _, _, _, none⟩ :: _) _ _; refine SW.st (rY rfl) rfl ?_))
    repeat' (first
      | (show CW _ _ _ _ _ _; first | refine CW.seq ?_ | refine CW.region ?_ | refine CW.block ?_ | refine CW.kT rfl (by with_reducible rfl) ?_ | refine CW.rR rfl (by with_reducible rfl) ?_ | refine CW.jn rfl (by omega) ?_ | refine CW.iF rfl (by omega) ?_ | refine CW.nt rfl (by omega) ?_ | refine CW.oL rfl (by omega) ?_ | refine CW.skip ?_ | refine CW.ret ?_ | refine CW.exit ?_)
      | (show ae _ _ _ _ _; first | refine ae.seq ?_ | refine ae.fT ?_ | refine ae.iE ?_ | refine ae.hit ?_ | refine ae.pass rfl ?_ | refine ae.cV ?_ | refine ae.iG ?_ | refine ae.fw ?_ | refine ae.eX ?_ | refine ae.np ?_)
      | refine SW.nil ?_
      | (show SW _ _ _ _ (⟨_, _, _, _, _, some _⟩ :: _) _ _; first | refine SW.gg rfl rfl (by with_reducible rfl) ?_ | refine SW.bV rfl rfl (by with_reducible rfl) ?_ | refine SW.gG rfl rfl (by with_reducible rfl) rfl ?_ | refine SW.kS rfl rfl (by with_reducible rfl) rfl ?_ | refine SW.oa rfl rfl (by with_reducible rfl) rfl ?_ | refine SW.jx rfl rfl rfl (by omega) ?_ | refine SW.jy rfl rfl rfl (by omega) ?_ | refine SW.gR rfl rfl rfl (by omega) ?_ | refine SW.dY rfl rfl rfl (by omega) ?_)
      | refine SW.pure rfl rfl ?_
      | (show SW _ _ _ _ (⟨_, Op.fieldAddr _ _ _, _, _, _, none⟩ :: _) _ _; refine SW.st (aC rfl) rfl ?_)
      | (show SW _ _ _ _ (⟨_, Op.nilCheck _, _, _, _, none⟩ :: _) _ _; refine SW.st (aJ rfl) rfl ?_)
      | (show SW _ _ _ _ (⟨_, Op.build _ _, _, _, _, none⟩ :: _) _ _; refine SW.st (gh rfl rfl) rfl ?_)
      | (show SW _ _ _ _ (⟨_, Op.binOp _ _ _ _ _, _, _, _, none⟩ :: _) _ _; first | refine SW.st (kU rfl rfl (by omega) (by omega)) rfl ?_ | refine SW.st (iI rfl rfl (by omega) (by omega)) rfl ?_ | refine SW.st (je rfl rfl (by omega) (by omega)) rfl ?_ | refine SW.st (rT rfl rfl (by omega) (by omega) (by omega)) rfl ?_ | refine SW.st (oc rfl rfl (by omega)) rfl ?_)
      | (show SW _ _ _ _ (⟨_, Op.indexAddr _ _ _, _, _, _, none⟩ :: _) _ _; refine SW.st (bk rfl rfl (by assumption) (by omega)) rfl ?_)
      | (show SW _ _ _ _ (⟨_, Op.call ⟨.builtin .len, _, _⟩, _, _, _, none⟩ :: _) _ _; refine SW.st (eY rfl) rfl ?_)
      | (show SW _ _ _ _ (⟨_, Op.call ⟨.builtin .cap, _, _⟩, _, _, _, none⟩ :: _) _ _; refine SW.st (rY rfl) rfl ?_)
      | exact h.out)) : g := hg ⟨h⟩
instance:gD Tryz.prog 3:=⟨by kernel_rfl,by kernel_rfl⟩
instance:dl Tryz.prog 3 (.int .i64 0) 1 8:=⟨by kernel_rfl,by kernel_rfl,by decide⟩
instance:gD Tryz.prog 4:=⟨by kernel_rfl,by kernel_rfl⟩
instance:dl Tryz.prog 4 (.bool false) 1 1:=⟨by kernel_rfl,by kernel_rfl,by decide⟩
instance:gD Tryz.prog 5:=⟨by kernel_rfl,by kernel_rfl⟩
instance:gD Tryz.prog 9:=⟨by kernel_rfl,by kernel_rfl⟩
instance:dl Tryz.prog 9 (.string ByteArray.empty) 1 16:=⟨by kernel_rfl,by kernel_rfl,by decide⟩
instance:gD Tryz.prog 22:=⟨by kernel_rfl,by kernel_rfl⟩
instance:bw Tryz.prog 22 3 1:=⟨by kernel_rfl,by kernel_rfl⟩
instance:gD Tryz.prog 23:=⟨by kernel_rfl,by kernel_rfl⟩
instance:bw Tryz.prog 23 59 4:=⟨by kernel_rfl,by kernel_rfl⟩
instance:gD Tryz.prog 24:=⟨by kernel_rfl,by kernel_rfl⟩
instance:bw Tryz.prog 24 62 4:=⟨by kernel_rfl,by kernel_rfl⟩
instance:gD Tryz.prog 25:=⟨by kernel_rfl,by kernel_rfl⟩
instance:dl Tryz.prog 25 (.slice none 0 0) 1 24:=⟨by kernel_rfl,by kernel_rfl,by decide⟩
instance:bw Tryz.prog 25 77 3:=⟨by kernel_rfl,by kernel_rfl⟩
instance:dl Tryz.prog 27 (.agg #[.slice none 0 0,.slice none 0 0,.int .i64 0,.slice none 0 0,.slice none 0 0]) 5 104:=⟨by kernel_rfl,by kernel_rfl,by decide⟩
instance:iv Tryz.prog 27 5:=⟨by kernel_rfl,by kernel_rfl⟩
instance:kC Tryz.prog 27 [(0,1),(1,1),(2,1),(3,1),(4,1)] [.slice none 0 0,.slice none 0 0,.int .i64 0,.slice none 0 0,.slice none 0 0]:=⟨by kernel_rfl,by kernel_rfl⟩
instance:cm Tryz.prog 27 0 0 23:=⟨by kernel_rfl,by kernel_rfl⟩
instance:cm Tryz.prog 27 1 1 22:=⟨by kernel_rfl,by kernel_rfl⟩
instance:cm Tryz.prog 27 2 2 3:=⟨by kernel_rfl,by kernel_rfl⟩
instance:cm Tryz.prog 27 3 3 24:=⟨by kernel_rfl,by kernel_rfl⟩
instance:cm Tryz.prog 27 4 4 25:=⟨by kernel_rfl,by kernel_rfl⟩
instance:gD Tryz.prog 28:=⟨by kernel_rfl,by kernel_rfl⟩
instance:bw Tryz.prog 28 46 6:=⟨by kernel_rfl,by kernel_rfl⟩
instance:dl Tryz.prog 30 (.agg #[.slice none 0 0,.slice none 0 0,.slice none 0 0,.int .i64 0,.slice none 0 0,.slice none 0 0,.slice none 0 0]) 7 152:=⟨by kernel_rfl,by kernel_rfl,by decide⟩
instance:iv Tryz.prog 30 7:=⟨by kernel_rfl,by kernel_rfl⟩
instance:kC Tryz.prog 30 [(0,1),(1,5),(6,1)] [.slice none 0 0,.slice none 0 0,.slice none 0 0,.int .i64 0,.slice none 0 0,.slice none 0 0,.slice none 0 0]:=⟨by kernel_rfl,by kernel_rfl⟩
instance:cm Tryz.prog 30 0 0 22:=⟨by kernel_rfl,by kernel_rfl⟩
instance:cm Tryz.prog 30 1 1 27:=⟨by kernel_rfl,by kernel_rfl⟩
instance:cm Tryz.prog 30 2 6 28:=⟨by kernel_rfl,by kernel_rfl⟩
instance:gD Tryz.prog 43:=⟨by kernel_rfl,by kernel_rfl⟩
instance:bw Tryz.prog 43 9 1:=⟨by kernel_rfl,by kernel_rfl⟩
instance:gD Tryz.prog 44:=⟨by kernel_rfl,by kernel_rfl⟩
instance:bw Tryz.prog 44 48 3:=⟨by kernel_rfl,by kernel_rfl⟩
instance:dl Tryz.prog 46 (.agg #[.slice none 0 0,.int .i64 0,.int .i64 0,.int .i64 0,.slice none 0 0,.slice none 0 0]) 6 96:=⟨by kernel_rfl,by kernel_rfl,by decide⟩
instance:iv Tryz.prog 46 6:=⟨by kernel_rfl,by kernel_rfl⟩
instance:cm Tryz.prog 46 0 0 43:=⟨by kernel_rfl,by kernel_rfl⟩
instance:cm Tryz.prog 46 1 1 3:=⟨by kernel_rfl,by kernel_rfl⟩
instance:cm Tryz.prog 46 2 2 3:=⟨by kernel_rfl,by kernel_rfl⟩
instance:cm Tryz.prog 46 3 3 3:=⟨by kernel_rfl,by kernel_rfl⟩
instance:cm Tryz.prog 46 4 4 44:=⟨by kernel_rfl,by kernel_rfl⟩
instance:cm Tryz.prog 46 5 5 22:=⟨by kernel_rfl,by kernel_rfl⟩
instance:dl Tryz.prog 48 (.agg #[.int .i64 0,.int .i64 0,.int .i64 0]) 3 24:=⟨by kernel_rfl,by kernel_rfl,by decide⟩
instance:iv Tryz.prog 48 3:=⟨by kernel_rfl,by kernel_rfl⟩
instance:kC Tryz.prog 48 [(0,1),(1,1),(2,1)] [.int .i64 0,.int .i64 0,.int .i64 0]:=⟨by kernel_rfl,by kernel_rfl⟩
instance:r4 Tryz.prog 48 3:=⟨by kernel_rfl,by kernel_rfl,by kernel_rfl,by kernel_rfl⟩
instance:cm Tryz.prog 48 0 0 3:=⟨by kernel_rfl,by kernel_rfl⟩
instance:cm Tryz.prog 48 1 1 3:=⟨by kernel_rfl,by kernel_rfl⟩
instance:cm Tryz.prog 48 2 2 3:=⟨by kernel_rfl,by kernel_rfl⟩
instance:dl Tryz.prog 59 (.agg #[.int .i64 0,.int .i64 0,.slice none 0 0,.slice none 0 0]) 4 64:=⟨by kernel_rfl,by kernel_rfl,by decide⟩
instance:iv Tryz.prog 59 4:=⟨by kernel_rfl,by kernel_rfl⟩
instance:kC Tryz.prog 59 [(0,1),(1,1),(2,1),(3,1)] [.int .i64 0,.int .i64 0,.slice none 0 0,.slice none 0 0]:=⟨by kernel_rfl,by kernel_rfl⟩
instance:cm Tryz.prog 59 0 0 3:=⟨by kernel_rfl,by kernel_rfl⟩
instance:cm Tryz.prog 59 1 1 3:=⟨by kernel_rfl,by kernel_rfl⟩
instance:cm Tryz.prog 59 2 2 25:=⟨by kernel_rfl,by kernel_rfl⟩
instance:cm Tryz.prog 59 3 3 22:=⟨by kernel_rfl,by kernel_rfl⟩
instance:dl Tryz.prog 62 (.agg #[.int .i64 0,.int .i64 0,.int .i64 0,.slice none 0 0]) 4 48:=⟨by kernel_rfl,by kernel_rfl,by decide⟩
instance:iv Tryz.prog 62 4:=⟨by kernel_rfl,by kernel_rfl⟩
instance:kC Tryz.prog 62 [(0,1),(1,1),(2,1),(3,1)] [.int .i64 0,.int .i64 0,.int .i64 0,.slice none 0 0]:=⟨by kernel_rfl,by kernel_rfl⟩
instance:cm Tryz.prog 62 0 0 3:=⟨by kernel_rfl,by kernel_rfl⟩
instance:cm Tryz.prog 62 1 1 3:=⟨by kernel_rfl,by kernel_rfl⟩
instance:cm Tryz.prog 62 2 2 3:=⟨by kernel_rfl,by kernel_rfl⟩
instance:cm Tryz.prog 62 3 3 22:=⟨by kernel_rfl,by kernel_rfl⟩
instance:dl Tryz.prog 77 (.agg #[.int .i64 0,.int .i64 0,.int .i64 0]) 3 24:=⟨by kernel_rfl,by kernel_rfl,by decide⟩
instance:iv Tryz.prog 77 3:=⟨by kernel_rfl,by kernel_rfl⟩
instance:kC Tryz.prog 77 [(0,1),(1,1),(2,1)] [.int .i64 0,.int .i64 0,.int .i64 0]:=⟨by kernel_rfl,by kernel_rfl⟩
instance:r4 Tryz.prog 77 3:=⟨by kernel_rfl,by kernel_rfl,by kernel_rfl,by kernel_rfl⟩
instance:cm Tryz.prog 77 0 0 3:=⟨by kernel_rfl,by kernel_rfl⟩
instance:cm Tryz.prog 77 1 1 3:=⟨by kernel_rfl,by kernel_rfl⟩
instance:cm Tryz.prog 77 2 2 3:=⟨by kernel_rfl,by kernel_rfl⟩
instance:gD Tryz.prog 89:=⟨by kernel_rfl,by kernel_rfl⟩
instance:dl Tryz.prog 89 (.pointer none) 1 8:=⟨by kernel_rfl,by kernel_rfl,by decide⟩
instance:wK Tryz.prog 103 256 4 1:=⟨by kernel_rfl,by kernel_rfl⟩
instance:kC Tryz.prog 105 [(0,256),(256,1)] [.bool false,.bool false,.bool false,.bool false,.bool false,.bool false,.bool false,.bool false,.bool false,.bool false,.bool false,.bool false,.bool false,.bool false,.bool false,.bool false,.bool false,.bool false,.bool false,.bool false,.bool false,.bool false,.bool false,.bool false,.bool false,.bool false,.bool false,.bool false,.bool false,.bool false,.bool false,.bool false,.bool false,.bool false,.bool false,.bool false,.bool false,.bool false,.bool false,.bool false,.bool false,.bool false,.bool false,.bool false,.bool false,.bool false,.bool false,.bool false,.bool false,.bool false,.bool false,.bool false,.bool false,.bool false,.bool false,.bool false,.bool false,.bool false,.bool false,.bool false,.bool false,.bool false,.bool false,.bool false,.bool false,.bool false,.bool false,.bool false,.bool false,.bool false,.bool false,.bool false,.bool false,.bool false,.bool false,.bool false,.bool false,.bool false,.bool false,.bool false,.bool false,.bool false,.bool false,.bool false,.bool false,.bool false,.bool false,.bool false,.bool false,.bool false,.bool false,.bool false,.bool false,.bool false,.bool false,.bool false,.bool false,.bool false,.bool false,.bool false,.bool false,.bool false,.bool false,.bool false,.bool false,.bool false,.bool false,.bool false,.bool false,.bool false,.bool false,.bool false,.bool false,.bool false,.bool false,.bool false,.bool false,.bool false,.bool false,.bool false,.bool false,.bool false,.bool false,.bool false,.bool false,.bool false,.bool false,.bool false,.bool false,.bool false,.bool false,.bool false,.bool false,.bool false,.bool false,.bool false,.bool false,.bool false,.bool false,.bool false,.bool false,.bool false,.bool false,.bool false,.bool false,.bool false,.bool false,.bool false,.bool false,.bool false,.bool false,.bool false,.bool false,.bool false,.bool false,.bool false,.bool false,.bool false,.bool false,.bool false,.bool false,.bool false,.bool false,.bool false,.bool false,.bool false,.bool false,.bool false,.bool false,.bool false,.bool false,.bool false,.bool false,.bool false,.bool false,.bool false,.bool false,.bool false,.bool false,.bool false,.bool false,.bool false,.bool false,.bool false,.bool false,.bool false,.bool false,.bool false,.bool false,.bool false,.bool false,.bool false,.bool false,.bool false,.bool false,.bool false,.bool false,.bool false,.bool false,.bool false,.bool false,.bool false,.bool false,.bool false,.bool false,.bool false,.bool false,.bool false,.bool false,.bool false,.bool false,.bool false,.bool false,.bool false,.bool false,.bool false,.bool false,.bool false,.bool false,.bool false,.bool false,.bool false,.bool false,.bool false,.bool false,.bool false,.bool false,.bool false,.bool false,.bool false,.bool false,.bool false,.bool false,.bool false,.bool false,.bool false,.bool false,.bool false,.bool false,.bool false,.bool false,.bool false,.bool false,.bool false,.bool false,.bool false,.bool false,.bool false,.bool false,.bool false,.bool false,.bool false,.bool false,.bool false,.bool false,.bool false,.bool false]:=⟨by kernel_rfl,by kernel_rfl⟩
instance:cm Tryz.prog 105 0 0 103:=⟨by kernel_rfl,by kernel_rfl⟩
instance:cm Tryz.prog 105 1 256 4:=⟨by kernel_rfl,by kernel_rfl⟩
instance:bw Tryz.prog 115 5 1:=⟨by kernel_rfl,by kernel_rfl⟩
instance:bw Tryz.prog 159 4 1:=⟨by kernel_rfl,by kernel_rfl⟩
instance:wK Tryz.prog 167 2 3 1:=⟨by kernel_rfl,by kernel_rfl⟩
instance:iv Tryz.prog 167 2:=⟨by kernel_rfl,by kernel_rfl⟩
instance:wK Tryz.prog 168 3 167 2:=⟨by kernel_rfl,by kernel_rfl⟩
instance:Body Tryz.prog 5:=aD Tryz.func5 (by kernel_rfl) (by kernel_rfl)
instance:Body Tryz.prog 8:=aD Tryz.func8 (by kernel_rfl) (by kernel_rfl)
instance:Body Tryz.prog 9:=aD Tryz.func9 (by kernel_rfl) (by kernel_rfl)
instance:Body Tryz.prog 10:=aD Tryz.func10 (by kernel_rfl) (by kernel_rfl)
instance:Body Tryz.prog 11:=aD Tryz.func11 (by kernel_rfl) (by kernel_rfl)
instance:Body Tryz.prog 12:=aD Tryz.func12 (by kernel_rfl) (by kernel_rfl)
instance:Body Tryz.prog 13:=aD Tryz.func13 (by kernel_rfl) (by kernel_rfl)
instance:Body Tryz.prog 14:=aD Tryz.func14 (by kernel_rfl) (by kernel_rfl)
instance:Body Tryz.prog 15:=aD Tryz.func15 (by kernel_rfl) (by kernel_rfl)
instance:Body Tryz.prog 16:=aD Tryz.func16 (by kernel_rfl) (by kernel_rfl)
instance:Body Tryz.prog 17:=aD Tryz.func17 (by kernel_rfl) (by kernel_rfl)
instance:Body Tryz.prog 18:=aD Tryz.func18 (by kernel_rfl) (by kernel_rfl)
instance:Body Tryz.prog 19:=aD Tryz.func19 (by kernel_rfl) (by kernel_rfl)
instance:Body Tryz.prog 20:=aD Tryz.func20 (by kernel_rfl) (by kernel_rfl)
instance:Body Tryz.prog 21:=aD Tryz.func21 (by kernel_rfl) (by kernel_rfl)
instance:Body Tryz.prog 22:=aD Tryz.func22 (by kernel_rfl) (by kernel_rfl)
instance:Body Tryz.prog 23:=aD Tryz.func23 (by kernel_rfl) (by kernel_rfl)
instance:Body Tryz.prog 24:=aD Tryz.func24 (by kernel_rfl) (by kernel_rfl)
instance:Body Tryz.prog 25:=aD Tryz.func25 (by kernel_rfl) (by kernel_rfl)
instance:Body Tryz.prog 26:=aD Tryz.func26 (by kernel_rfl) (by kernel_rfl)
instance:Body Tryz.prog 27:=aD Tryz.func27 (by kernel_rfl) (by kernel_rfl)
instance:Body Tryz.prog 28:=aD Tryz.func28 (by kernel_rfl) (by kernel_rfl)
instance:Body Tryz.prog 29:=aD Tryz.func29 (by kernel_rfl) (by kernel_rfl)
instance:Body Tryz.prog 30:=aD Tryz.func30 (by kernel_rfl) (by kernel_rfl)
instance:Body Tryz.prog 31:=aD Tryz.func31 (by kernel_rfl) (by kernel_rfl)
instance:Body Tryz.prog 32:=aD Tryz.func32 (by kernel_rfl) (by kernel_rfl)
instance:Body Tryz.prog 33:=aD Tryz.func33 (by kernel_rfl) (by kernel_rfl)
instance:Body Tryz.prog 34:=aD Tryz.func34 (by kernel_rfl) (by kernel_rfl)
instance:Body Tryz.prog 35:=aD Tryz.func35 (by kernel_rfl) (by kernel_rfl)
instance:Body Tryz.prog 36:=aD Tryz.func36 (by kernel_rfl) (by kernel_rfl)
instance:Body Tryz.prog 37:=aD Tryz.func37 (by kernel_rfl) (by kernel_rfl)
instance:Body Tryz.prog 38:=aD Tryz.func38 (by kernel_rfl) (by kernel_rfl)
instance:Body Tryz.prog 39:=aD Tryz.func39 (by kernel_rfl) (by kernel_rfl)
instance:Body Tryz.prog 40:=aD Tryz.func40 (by kernel_rfl) (by kernel_rfl)
instance:Body Tryz.prog 41:=aD Tryz.func41 (by kernel_rfl) (by kernel_rfl)
instance:Body Tryz.prog 42:=aD Tryz.func42 (by kernel_rfl) (by kernel_rfl)
instance:Body Tryz.prog 43:=aD Tryz.func43 (by kernel_rfl) (by kernel_rfl)
instance:Body Tryz.prog 44:=aD Tryz.func44 (by kernel_rfl) (by kernel_rfl)
instance:Body Tryz.prog 45:=aD Tryz.func45 (by kernel_rfl) (by kernel_rfl)
instance:Body Tryz.prog 46:=aD Tryz.func46 (by kernel_rfl) (by kernel_rfl)
instance:Body Tryz.prog 47:=aD Tryz.func47 (by kernel_rfl) (by kernel_rfl)
instance:Body Tryz.prog 48:=aD Tryz.func48 (by kernel_rfl) (by kernel_rfl)
instance:Body Tryz.prog 49:=aD Tryz.func49 (by kernel_rfl) (by kernel_rfl)
instance:Body Tryz.prog 50:=aD Tryz.func50 (by kernel_rfl) (by kernel_rfl)
instance:Body Tryz.prog 51:=aD Tryz.func51 (by kernel_rfl) (by kernel_rfl)
instance:Body Tryz.prog 52:=aD Tryz.func52 (by kernel_rfl) (by kernel_rfl)
instance:Body Tryz.prog 53:=aD Tryz.func53 (by kernel_rfl) (by kernel_rfl)
instance:Body Tryz.prog 54:=aD Tryz.func54 (by kernel_rfl) (by kernel_rfl)
instance:Body Tryz.prog 55:=aD Tryz.func55 (by kernel_rfl) (by kernel_rfl)
instance:Body Tryz.prog 56:=aD Tryz.func56 (by kernel_rfl) (by kernel_rfl)
instance:Body Tryz.prog 57:=aD Tryz.func57 (by kernel_rfl) (by kernel_rfl)
instance:Body Tryz.prog 58:=aD Tryz.func58 (by kernel_rfl) (by kernel_rfl)
instance:Body Tryz.prog 59:=aD Tryz.func59 (by kernel_rfl) (by kernel_rfl)
instance:Body Tryz.prog 60:=aD Tryz.func60 (by kernel_rfl) (by kernel_rfl)
instance:Body Tryz.prog 61:=aD Tryz.func61 (by kernel_rfl) (by kernel_rfl)
instance:Body Tryz.prog 62:=aD Tryz.func62 (by kernel_rfl) (by kernel_rfl)
instance:Body Tryz.prog 63:=aD Tryz.func63 (by kernel_rfl) (by kernel_rfl)
instance:Body Tryz.prog 64:=aD Tryz.func64 (by kernel_rfl) (by kernel_rfl)
instance:Body Tryz.prog 65:=aD Tryz.func65 (by kernel_rfl) (by kernel_rfl)
instance:Body Tryz.prog 66:=aD Tryz.func66 (by kernel_rfl) (by kernel_rfl)
instance:Body Tryz.prog 67:=aD Tryz.func67 (by kernel_rfl) (by kernel_rfl)
instance:Body Tryz.prog 68:=aD Tryz.func68 (by kernel_rfl) (by kernel_rfl)
instance:Body Tryz.prog 69:=aD Tryz.func69 (by kernel_rfl) (by kernel_rfl)
instance:Body Tryz.prog 70:=aD Tryz.func70 (by kernel_rfl) (by kernel_rfl)
instance:Body Tryz.prog 71:=aD Tryz.func71 (by kernel_rfl) (by kernel_rfl)
instance:Body Tryz.prog 72:=aD Tryz.func72 (by kernel_rfl) (by kernel_rfl)
instance:Body Tryz.prog 73:=aD Tryz.func73 (by kernel_rfl) (by kernel_rfl)
instance:Body Tryz.prog 74:=aD Tryz.func74 (by kernel_rfl) (by kernel_rfl)
instance:Body Tryz.prog 75:=aD Tryz.func75 (by kernel_rfl) (by kernel_rfl)
instance:Body Tryz.prog 76:=aD Tryz.func76 (by kernel_rfl) (by kernel_rfl)
instance:Body Tryz.prog 77:=aD Tryz.func77 (by kernel_rfl) (by kernel_rfl)
instance:Body Tryz.prog 78:=aD Tryz.func78 (by kernel_rfl) (by kernel_rfl)
instance:Body Tryz.prog 79:=aD Tryz.func79 (by kernel_rfl) (by kernel_rfl)
instance:Body Tryz.prog 80:=aD Tryz.func80 (by kernel_rfl) (by kernel_rfl)
instance:Body Tryz.prog 81:=aD Tryz.func81 (by kernel_rfl) (by kernel_rfl)
instance:Body Tryz.prog 82:=aD Tryz.func82 (by kernel_rfl) (by kernel_rfl)
instance:Body Tryz.prog 83:=aD Tryz.func83 (by kernel_rfl) (by kernel_rfl)
instance:Body Tryz.prog 84:=aD Tryz.func84 (by kernel_rfl) (by kernel_rfl)
instance:Body Tryz.prog 85:=aD Tryz.func85 (by kernel_rfl) (by kernel_rfl)
instance:Body Tryz.prog 86:=aD Tryz.func86 (by kernel_rfl) (by kernel_rfl)
instance:Body Tryz.prog 87:=aD Tryz.func87 (by kernel_rfl) (by kernel_rfl)
instance:Body Tryz.prog 88:=aD Tryz.func88 (by kernel_rfl) (by kernel_rfl)
instance:Body Tryz.prog 89:=aD Tryz.func89 (by kernel_rfl) (by kernel_rfl)
instance:Body Tryz.prog 90:=aD Tryz.func90 (by kernel_rfl) (by kernel_rfl)
instance:Body Tryz.prog 91:=aD Tryz.func91 (by kernel_rfl) (by kernel_rfl)
instance:Body Tryz.prog 92:=aD Tryz.func92 (by kernel_rfl) (by kernel_rfl)
instance:Body Tryz.prog 93:=aD Tryz.func93 (by kernel_rfl) (by kernel_rfl)
instance:Body Tryz.prog 94:=aD Tryz.func94 (by kernel_rfl) (by kernel_rfl)
instance:Body Tryz.prog 95:=aD Tryz.func95 (by kernel_rfl) (by kernel_rfl)
instance:Body Tryz.prog 96:=aD Tryz.func96 (by kernel_rfl) (by kernel_rfl)
instance:Body Tryz.prog 97:=aD Tryz.func97 (by kernel_rfl) (by kernel_rfl)
instance:Body Tryz.prog 98:=aD Tryz.func98 (by kernel_rfl) (by kernel_rfl)
instance:Body Tryz.prog 99:=aD Tryz.func99 (by kernel_rfl) (by kernel_rfl)
instance:Body Tryz.prog 100:=aD Tryz.func100 (by kernel_rfl) (by kernel_rfl)
instance:Body Tryz.prog 101:=aD Tryz.func101 (by kernel_rfl) (by kernel_rfl)
instance:Body Tryz.prog 102:=aD Tryz.func102 (by kernel_rfl) (by kernel_rfl)
instance:Body Tryz.prog 103:=aD Tryz.func103 (by kernel_rfl) (by kernel_rfl)
instance:Body Tryz.prog 104:=aD Tryz.func104 (by kernel_rfl) (by kernel_rfl)
instance:Body Tryz.prog 105:=aD Tryz.func105 (by kernel_rfl) (by kernel_rfl)
instance:Body Tryz.prog 106:=aD Tryz.func106 (by kernel_rfl) (by kernel_rfl)
instance:Body Tryz.prog 107:=aD Tryz.func107 (by kernel_rfl) (by kernel_rfl)
instance:Body Tryz.prog 110:=aD Tryz.func110 (by kernel_rfl) (by kernel_rfl)
instance:Body Tryz.prog 111:=aD Tryz.func111 (by kernel_rfl) (by kernel_rfl)
instance:Body Tryz.prog 112:=aD Tryz.func112 (by kernel_rfl) (by kernel_rfl)
instance:Body Tryz.prog 113:=aD Tryz.func113 (by kernel_rfl) (by kernel_rfl)
instance:Body Tryz.prog 114:=aD Tryz.func114 (by kernel_rfl) (by kernel_rfl)
instance:Body Tryz.prog 115:=aD Tryz.func115 (by kernel_rfl) (by kernel_rfl)
instance:Body Tryz.prog 116:=aD Tryz.func116 (by kernel_rfl) (by kernel_rfl)
instance:Body Tryz.prog 117:=aD Tryz.func117 (by kernel_rfl) (by kernel_rfl)
instance:Body Tryz.prog 118:=aD Tryz.func118 (by kernel_rfl) (by kernel_rfl)
instance:Body Tryz.prog 119:=aD Tryz.func119 (by kernel_rfl) (by kernel_rfl)
instance:Body Tryz.prog 120:=aD Tryz.func120 (by kernel_rfl) (by kernel_rfl)
instance:Body Tryz.prog 121:=aD Tryz.func121 (by kernel_rfl) (by kernel_rfl)
instance:Body Tryz.prog 122:=aD Tryz.func122 (by kernel_rfl) (by kernel_rfl)
instance:Body Tryz.prog 123:=aD Tryz.func123 (by kernel_rfl) (by kernel_rfl)
instance:Body Tryz.prog 124:=aD Tryz.func124 (by kernel_rfl) (by kernel_rfl)
instance:Body Tryz.prog 128:=aD Tryz.func128 (by kernel_rfl) (by kernel_rfl)
instance:Body Tryz.prog 129:=aD Tryz.func129 (by kernel_rfl) (by kernel_rfl)
instance:Body Tryz.prog 130:=aD Tryz.func130 (by kernel_rfl) (by kernel_rfl)
instance:Body Tryz.prog 131:=aD Tryz.func131 (by kernel_rfl) (by kernel_rfl)
instance:Body Tryz.prog 132:=aD Tryz.func132 (by kernel_rfl) (by kernel_rfl)
instance:Body Tryz.prog 133:=aD Tryz.func133 (by kernel_rfl) (by kernel_rfl)
instance:Body Tryz.prog 134:=aD Tryz.func134 (by kernel_rfl) (by kernel_rfl)
instance:Body Tryz.prog 137:=aD Tryz.func137 (by kernel_rfl) (by kernel_rfl)
instance:Body Tryz.prog 138:=aD Tryz.func138 (by kernel_rfl) (by kernel_rfl)
instance:Body Tryz.prog 139:=aD Tryz.func139 (by kernel_rfl) (by kernel_rfl)
instance:Body Tryz.prog 140:=aD Tryz.func140 (by kernel_rfl) (by kernel_rfl)
instance:Body Tryz.prog 141:=aD Tryz.func141 (by kernel_rfl) (by kernel_rfl)
instance:Body Tryz.prog 142:=aD Tryz.func142 (by kernel_rfl) (by kernel_rfl)
instance:Body Tryz.prog 143:=aD Tryz.func143 (by kernel_rfl) (by kernel_rfl)
instance:Body Tryz.prog 147:=aD Tryz.func147 (by kernel_rfl) (by kernel_rfl)
instance:Body Tryz.prog 148:=aD Tryz.func148 (by kernel_rfl) (by kernel_rfl)
instance:Body Tryz.prog 149:=aD Tryz.func149 (by kernel_rfl) (by kernel_rfl)
theorem mixed:Tryz.prog.follows .mixedOrders=true:=by kernel_rfl
structure Block where
 At:Int
 Order:Int
 Ty:Int
 deriving DecidableEq
structure aq where
 aV:Int
 To:Int
 ag:List Block
 Types:List Int
 deriving DecidableEq
structure aA where
 dU:Int
 aq:Int
 Ty:Int
 aw:List Int
structure Heap where
 aN:List aq
 bJ:List Int
 bX:Int
 av:List aA
 Live:List Block
structure Slab where
 At:Int
 ag:Int
 dg:Int
 deriving DecidableEq
end Go.Proofs.YtjimadiidbkohaaGreatDoor
