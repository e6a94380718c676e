/-
  Texts of the claim KmemFrees, part 2: what its theorem leans on.
-/
import Derived.Test.YtbidkghlpijecaaGreatDoorPackKmemFrees1
import Derived.Lib.ConvBytes
import Derived.Laws.Strings
set_option linter.unusedVariables false
set_option linter.unusedSimpArgs false
namespace Go.Proofs.YtbidkghlpijecaaGreatDoor
open Go.RowKit
def nT (P:Program) (ops:Array Oper) (Q:Exit→Act→World→Prop) (fin dX:Nat) (S2:World→Prop) : (World→Prop)→Nat→Array Bool→Act→World→Prop
 | _,0,listed,a,w=>Region.ready .any ops listed=[]∧Q .normal a w
 | S,f+1,listed,a,w=>Region.ready .any ops listed≠[] ∧ ∀ i∈Region.ready .any ops listed,i<ops.size∧wpOp P ops Q i (fun a' w'=>(i=dX→nT P ops Q fin dX S2 (fun _=>True) f (listed.setIfInBounds i true) a' w') ∧
    (i≠dX→i=fin→S2 w'∧nT P ops Q fin dX S2 S2 f (listed.setIfInBounds i true) a' w')∧(i≠dX→i≠fin→S w'∧nT P ops Q fin dX S2 S f (listed.setIfInBounds i true) a' w')) a w
section
variable {P:Program} {ops:Array Oper} {Q:Exit→Act→World→Prop} {fin dX:Nat} {S2:World→Prop}
theorem kP:∀ (f:Nat) {S S':World→Prop} (hS:∀ w,S' w→S w) (listed:Array Bool) (a:Act) (w:World),nT P ops Q fin dX S2 S' f listed a w→nT P ops Q fin dX S2 S f listed a w
 | 0,_,_,_,_,_,_,h=>h
 | f+1,S,S',hS,_,_,_,h=>⟨h.1,fun i hi=>⟨(h.2 i hi).1,wpOp_mono (fun a' w' h'=>⟨h'.1,h'.2.1,fun n1 n2=>⟨hS _ (h'.2.2 n1 n2).1,kP f hS _ a' w' (h'.2.2 n1 n2).2⟩⟩) (h.2 i hi).2⟩⟩
theorem iU:∀ (f:Nat) {S:World→Prop} (listed:Array Bool) (a:Act) (w:World),nT P ops Q fin dX S2 S f listed a w→wpAny P .any ops Q f listed a w
 | 0,_,_,_,_,h=>h
 | f+1,S,listed,a,w,h=>⟨fun h0=>absurd h0 h.1,fun i hi=>wpOp_mono (fun a' w' h'=>by
    by_cases e:i=dX
    ·exact iU f _ a' w' (h'.1 e)
    ·by_cases e2:i=fin
     ·exact iU f _ a' w' (h'.2.1 e e2).2
     ·exact iU f _ a' w' (h'.2.2 e e2).2) (h.2 i hi).2⟩
def dN (ops:Array Oper) (k:Nat) : List Nat→Nat→Bool
 | [],i=>match ops[k]? with
   | some o=>o.after.any fun e=>Region.binds .any e && Nat.beq e.on i
   | none=>false
 | x::r,i=>(match ops[k]? with
   | some o=>o.after.any fun e=>Region.binds .any e && Nat.beq e.on x
   | none=>false) && dN ops x r i
theorem rB {k i:Nat} (h:(match ops[k]? with|some o=>o.after.any fun e=>Region.binds .any e && Nat.beq e.on i|none=>false)=true) : ∃ o,ops[k]?=some o ∧ ∃ e∈o.after,Region.binds .any e=true∧e.on=i:=by
 cases ho:ops[k]? with
 | none=>rw [ho] at h;cases h
 | some o =>
   rw [ho] at h;simp only [Array.any_eq_true',Bool.and_eq_true] at h;obtain ⟨e,he,hb,hn⟩:=h;exact ⟨o,rfl,e,he,hb,Nat.eq_of_beq_eq_true hn⟩
theorem ld {n:Nat} {listed:Array Bool} (inv:HeadInv .any ops n listed) : ∀ (p:List Nat) (k i:Nat),dN ops k p i=true→listed.getD k false=true→listed.getD i false=true
 | [],k,i,h,hk=>by
   obtain ⟨o,ho,e,he,hb,A9⟩:=rB h;rw [← A9];exact inv.closed k o ho hk e he hb
 | x::r,k,i,h,hk=>by
   simp only [dN,Bool.and_eq_true] at h;obtain ⟨o,ho,e,he,hb,A9⟩:=rB h.1;exact ld inv r x i h.2 (by rw [← A9];exact inv.closed k o ho hk e he hb)
theorem rC {n:Nat} {listed:Array Bool} (inv:HeadInv .any ops n listed) {p:List Nat} {k i:Nat} (h:dN ops k p i=true) (hk:k∈Region.ready .any ops listed) : listed.getD i false=true:=by
 obtain ⟨_,o,ho,gH⟩:=mem_ready.1 hk;cases p with
 | nil =>
   obtain ⟨o',uc,e,he,hb,A9⟩:=rB h;rw [ho] at uc;cases uc
   rw [← A9];exact gH e he hb
 | cons x r =>
   simp only [dN,Bool.and_eq_true] at h;obtain ⟨o',uc,e,he,hb,A9⟩:=rB h.1;rw [ho] at uc;cases uc
   exact ld inv r x i h.2 (by rw [← A9];exact gH e he hb)
theorem jH {T:World→Prop} {i:Nat} {oi:Oper} {v:Value} (hi:ops[i]?=some oi) (rA:∀ (j:Nat) (o:Oper) cs b,ops[j]?=some o→o.op ≠ .select cs b) (Ak:i≠dX) (FZ:i≠fin)
 (hQ:∀ c a w,Q (.panic c) (a.put oi.dst v) w→Q (.panic c) a w) (EA:(∀ w,T w) ∨ ∃ p,dN ops dX p i=true) (EB:(∀ w,S2 w→T w) ∨ ∃ p,dN ops fin p i=true) :
 ∀ (f:Nat) {S:World→Prop} (CL:∀ w,S w→T w) (listed:Array Bool) (a:Act) (w:World),HeadInv .any ops ops.size listed →
  (∀ j oj,ops[j]?=some oj→j≠i→listed.getD j true=false→(∀ e∈oj.after,Region.binds .any e=true→e.on≠i)→oi.apart ops oj=true) →
  i∈Region.ready .any ops listed→YieldsIf P ops T oi v a→S w →
  nT P ops Q fin dX S2 S f (listed.setIfInBounds i true) (a.put oi.dst v) w→nT P ops Q fin dX S2 S (f+1) listed a w:=by
 intro f;induction f with
 | zero =>
   intro S CL listed a w inv _ hr hy hS H;have ud:=(mem_ready.1 hr).1;refine ⟨fun h=>(by rw [h] at hr;cases hr),fun j hj => ?_⟩;have fF:j<ops.size:=by obtain ⟨_,o,ho,_⟩:=mem_ready.1 hj;exact (Array.getElem?_eq_some_iff.1 ho).1
   refine ⟨fF,?_⟩;by_cases iP:j=i
   ·subst iP;exact hy.wpOp hi (CL _ hS) ⟨fun e=>absurd e Ak,fun _ e=>absurd e FZ,fun _ _=>⟨hS,H⟩⟩
   ·have h0:=ready_mono hj iP;rw [H.1] at h0;cases h0
 | succ f ih =>
   intro S CL listed a w inv iQ hr hy hS H;have ud:=(mem_ready.1 hr).1;refine ⟨fun h=>(by rw [h] at hr;cases hr),fun j hj => ?_⟩;have fF:j<ops.size:=by obtain ⟨_,o,ho,_⟩:=mem_ready.1 hj;exact (Array.getElem?_eq_some_iff.1 ho).1
   refine ⟨fF,?_⟩;by_cases iP:j=i
   ·subst iP;exact hy.wpOp hi (CL _ hS) ⟨fun e=>absurd e Ak,fun _ e=>absurd e FZ,fun _ _=>⟨hS,H⟩⟩
   ·have h1:=(H.2 j (ready_mono hj iP)).2;obtain ⟨xK,oj,AY,gH⟩:=mem_ready.1 hj
    have uw:∀ e∈oj.after,Region.binds .any e=true→e.on≠i:=fun e he hb zE=>by
     have h1:=gH e he hb;rw [zE,getD_both ud] at h1;cases h1
    have h2:=wpOp_putIf AY (iQ j oj AY iP xK uw) (fun cs b=>rA i oi cs b hi) (fun cs b=>rA j oj cs b AY) hQ hy h1
    have oL:∀ k ok,ops[k]?=some ok→k≠i→(listed.setIfInBounds j true).getD k true=false →
     (∀ e∈ok.after,Region.binds .any e=true→e.on≠i)→oi.apart ops ok=true:=fun k ok hk Ex ud lc=>by
     refine iQ k ok hk Ex ?_ lc;by_cases iB:j=k
     ·subst iB;exact xK
     ·rw [getD_set_ne true iB] at ud;exact ud
    have xL:=inv.set hj fF
    have no:∀ {k:Nat} {p:List Nat},dN ops k p i=true→j=k→False:=fun {k p} CM e=>by
     subst e;have:=rC inv CM hj
     rw [getD_both ud] at this;cases this
    refine wpOp_mono (fun a' w' h3=>⟨fun e => ?_,fun n1 e => ?_,fun n1 n2=>⟨(h3.2.2.2 n1 n2).1,ih CL (listed.setIfInBounds j true) a' w' xL oL (ready_mono hr (Ne.symm iP)) h3.1 (h3.2.2.2 n1 n2).1 ?_⟩⟩) h2
    ·rcases EA with hT|⟨p,CM⟩
     ·refine ih (fun w _=>hT w) (listed.setIfInBounds j true) a' w' xL oL (ready_mono hr (Ne.symm iP)) h3.1 trivial ?_;rw [Array.setIfInBounds_comm _ _ iP];exact h3.2.1 e
     ·exact (no CM e).elim
    ·rcases EB with hT|⟨p,CM⟩
     ·refine ⟨(h3.2.2.1 n1 e).1,ih hT (listed.setIfInBounds j true) a' w' xL oL (ready_mono hr (Ne.symm iP)) h3.1 (h3.2.2.1 n1 e).1 ?_⟩;rw [Array.setIfInBounds_comm _ _ iP];exact (h3.2.2.1 n1 e).2
     ·exact (no CM e).elim
    ·rw [Array.setIfInBounds_comm _ _ iP];exact (h3.2.2.2 n1 n2).2
end
structure SF (P:Program) (n:Nat) (ops:Array Oper) (Q:Exit→Act→World→Prop) (fin dX:Nat) (S2:World→Prop) (f:Nat) (listed:Array Bool) (L:Env) (w:World) : Prop where
 out:∀ a,Fit n a L→HeadInv .any ops ops.size listed→nT P ops (NoPanic Q) fin dX S2 (Ext w) f listed a w
structure SG (P:Program) (n:Nat) (ops:Array Oper) (Q:Exit→Act→World→Prop) (fin dX:Nat) (S2:World→Prop) (f:Nat) (listed:Array Bool) (L:Env) (w:World) : Prop where
 out:∀ a,Fit n a L→HeadInv .any ops ops.size listed→nT P ops (NoPanic Q) fin dX S2 S2 f listed a w
def Ba (P:Program) (n:Nat) (ops:Array Oper) (Q:Exit→Act→World→Prop) (fin dX:Nat) (S2:World→Prop) (f:Nat) (listed:Array Bool) (w:World) : Exit→Act→World→Prop
 | .normal,a,w'=>Ext w w'∧(HeadInv .any ops ops.size listed→nT P ops (NoPanic Q) fin dX S2 (Ext w') f listed a w')
 | e,a,w'=>NoPanic Q e a w'
def CN (P:Program) (n:Nat) (ops:Array Oper) (Q:Exit→Act→World→Prop) (fin dX:Nat) (S2:World→Prop) (f:Nat) (listed:Array Bool) : Exit→Act→World→Prop
 | .normal,a,w'=>S2 w'∧(HeadInv .any ops ops.size listed→nT P ops (NoPanic Q) fin dX S2 S2 f listed a w')
 | e,a,w'=>NoPanic Q e a w'
section
variable {P:Program} {n:Nat} {ops:Array Oper} {Q:Exit→Act→World→Prop} {fin dX f:Nat} {S2:World→Prop} {listed:Array Bool} {L:Env} {w:World}
theorem Bb {i:Nat} (h:(!Nat.beq i dX && !Nat.beq i fin)=true) : i≠dX∧i≠fin:=by
 simp only [Bool.and_eq_true,Bool.not_eq_true'] at h;exact ⟨fun e=>by subst e;simp at h,fun e=>by subst e;simp at h⟩
theorem SF.take (i:Nat) (p q:List Nat) {o:Oper} (hB:Region.noSelect ops=true) (hi:ops[i]?=some o) (hf:Region.free .any ops listed i=true) (hr:(Region.ready .any ops listed).contains i=true) (hw:((dN ops fin p i && dN ops dX q i) && (!Nat.beq i dX && !Nat.beq i fin))=true)
 (h:SW P n ops (.tk fun L'=>SF P n ops Q fin dX S2 f (listed.setIfInBounds i true) L' w) [o] L w) : SF P n ops Q fin dX S2 (f+1) listed L w :=
 ⟨fun a ha inv=>by
  have hs:=h.out a ha;rw [Bool.and_eq_true,Bool.and_eq_true] at hw;obtain ⟨⟨ab,cg⟩,jI⟩:=hw;obtain ⟨n1,n2⟩:=Bb jI;have sK:i∈Region.ready .any ops listed:=by simpa using hr
  have cy:i<ops.size:=(Array.getElem?_eq_some_iff.1 hi).1
  simp only [swp,rv] at hs;by_cases hw:Region.wanted o (yielded ops a.tmps)=true
  ·rw [if_pos hw] at hs;obtain ⟨v,hv,L',AZ,hK⟩:=hs;exact jH (T:=Ext w) hi (Region.noSelect_spec hB) n1 n2 (fun _ _ _ h=>(h:False).elim) (.inr ⟨q,cg⟩) (.inr ⟨p,ab⟩) f (fun _ h=>h) listed a w inv (Region.free_spec hi hf) sK (.inl ⟨hw,hv⟩) (Ext.refl w) (hK.out _ AZ (inv.set sK cy))
  ·rw [if_neg hw] at hs;obtain ⟨L',AZ,hK⟩:=hs;exact jH (T:=Ext w) hi (Region.noSelect_spec hB) n1 n2 (fun _ _ _ h=>(h:False).elim) (.inr ⟨q,cg⟩) (.inr ⟨p,ab⟩) f (fun _ h=>h) listed a w inv (Region.free_spec hi hf) sK (.inr ⟨by simpa using hw,rfl⟩) (Ext.refl w) (hK.out _ AZ (inv.set sK cy))⟩
theorem SF.js (i:Nat) (q:List Nat) {d:Nat} {op:Op} {T:TypeId} {pos:String} {af:Array Edge} {v:Value} (hB:Region.noSelect ops=true) (hi:ops[i]?=some ⟨some d,op,T,pos,af,none⟩) (hf:Region.free .any ops listed i=true) (hr:(Region.ready .any ops listed).contains i=true) (hw:(dN ops dX q i && (!Nat.beq i dX && !Nat.beq i fin))=true)
 (h1:St P ⟨some d,op,T,pos,af,none⟩ L w v) (h2:∀ w2,S2 w2→St P ⟨some d,op,T,pos,af,none⟩ L w2 v) (hn:Nat.blt d n=true) (h:SF P n ops Q fin dX S2 f (listed.setIfInBounds i true) ((d,v)::L) w) : SF P n ops Q fin dX S2 (f+1) listed L w :=
 ⟨fun a ha inv=>by
  rw [Bool.and_eq_true] at hw;obtain ⟨ab,jI⟩:=hw;obtain ⟨n1,n2⟩:=Bb jI;have sK:i∈Region.ready .any ops listed:=by simpa using hr
  have cy:i<ops.size:=(Array.getElem?_eq_some_iff.1 hi).1
  exact jH (T:=fun w'=>Ext w w'∨S2 w') hi (Region.noSelect_spec hB) n1 n2 (fun _ _ _ h=>(h:False).elim) (.inr ⟨q,ab⟩) (.inl fun _ => .inr) f (fun _ => .inl) listed a w inv (Region.free_spec hi hf) sK (v:=v)
   (.inl ⟨by simp [Region.wanted],fun w' hh=>by rcases hh with hh|hh;exact h1.out n a ha w' hh;exact (h2 w' hh).out n a ha w' (Ext.refl w')⟩) (Ext.refl w) (h.out _ (ha.put hn v) (inv.set sK cy))⟩
theorem SF.xO (i:Nat) {d:Nat} {op:Op} {T:TypeId} {pos:String} {af:Array Edge} {v:Value} (hB:Region.noSelect ops=true) (hi:ops[i]?=some ⟨some d,op,T,pos,af,none⟩) (hf:Region.free .any ops listed i=true) (hr:(Region.ready .any ops listed).contains i=true) (hw:(!Nat.beq i dX && !Nat.beq i fin)=true)
 (h1:∀ w2,St P ⟨some d,op,T,pos,af,none⟩ L w2 v) (hn:Nat.blt d n=true) (h:SF P n ops Q fin dX S2 f (listed.setIfInBounds i true) ((d,v)::L) w) : SF P n ops Q fin dX S2 (f+1) listed L w :=
 ⟨fun a ha inv=>by
  obtain ⟨n1,n2⟩:=Bb hw;have sK:i∈Region.ready .any ops listed:=by simpa using hr
  have cy:i<ops.size:=(Array.getElem?_eq_some_iff.1 hi).1
  exact jH (T:=fun _=>True) hi (Region.noSelect_spec hB) n1 n2 (fun _ _ _ h=>(h:False).elim) (.inl fun _=>trivial) (.inl fun _ _=>trivial) f (fun _ _=>trivial) listed a w inv (Region.free_spec hi hf) sK (v:=v)
   (.inl ⟨by simp [Region.wanted],fun w' _=>(h1 w').out n a ha w' (Ext.refl w')⟩) (Ext.refl w) (h.out _ (ha.put hn v) (inv.set sK cy))⟩
theorem Oper.zI {o:Oper} {a:Act} {N:Act→World→Prop} {Q1 Q2:Exit→Act→World→Prop} (hq:∀ e a w,e ≠ .normal→Q1 e a w→Q2 e a w) (hl:LetsOut Q1→LetsOut Q2) (h:o.wp P a w N Q1) : o.wp P a w N Q2:=by
 unfold Oper.wp at *;generalize (execOp a.eval o).run P w=r at *
 cases r with
 | ok x w' =>
   cases x<;>simp only [Oper.upon] at h ⊢
   case value=>exact h
   case skip=>exact h
   case defer=>exact h
   case row=>exact h
   case enter =>
    refine Calls.mono h fun e AV he => ?_
    cases e
    ·exact he
    ·exact hq _ _ _ (by simp) he
    ·exact hl he
 | halt x w' =>
   cases x<;>simp only [Oper.upon] at h ⊢
   exact hq _ _ _ (by simp) h
theorem oR {i:Nat} {o:Oper} {a:Act} {Q1:Exit→Act→World→Prop} {K:Act→World→Prop} (hi:ops[i]?=some o) (hq:∀ e a w,e ≠ .normal→Q1 e a w→NoPanic Q e a w) (hl:LetsOut Q1→LetsOut (NoPanic Q)) (conv:∀ a' w',Q1 .normal a' w'→K a' w') (hs:wpList P ops Q1 [o] a w) : wpOp P ops (NoPanic Q) i K a w:=by
 simp only [wpList] at hs;unfold wpOp;simp only [hi];by_cases hw:Region.wanted o (yielded ops a.tmps)=true
 ·rw [if_pos hw] at hs ⊢;rcases hs with hs|⟨h1,h2⟩
  ·exact .inl (Oper.wp_mono conv (Oper.zI hq hl hs))
  ·exact .inr ⟨h1,hl h2⟩
 ·rw [if_neg hw] at hs ⊢;exact conv _ _ hs
theorem SF.one (i:Nat) {o:Oper} (hi:ops[i]?=some o) (hr:Region.ready .any ops listed=[i]) (hw:(!Nat.beq i dX && !Nat.beq i fin)=true) (h:SW P n ops (.eG (Ba P n ops Q fin dX S2 f (listed.setIfInBounds i true) w)) [o] L w) : SF P n ops Q fin dX S2 (f+1) listed L w :=
 ⟨fun a ha inv=>⟨by rw [hr];simp,fun j hj=>by
  obtain ⟨n1,n2⟩:=Bb hw;have iP:j=i:=by rw [hr] at hj;simpa using hj
  subst iP;have cy:j<ops.size:=(Array.getElem?_eq_some_iff.1 hi).1
  refine ⟨cy,oR (Q1:=Ba P n ops Q fin dX S2 f (listed.setIfInBounds j true) w) hi (fun e a w ne h=>by cases e<;>first|exact h|exact absurd rfl ne) (fun h=>h) (fun a' w' hh=>⟨fun e=>absurd e n1,fun _ e=>absurd e n2,fun _ _=>⟨hh.1,kP f (fun AV A7=>Ext.trans hh.1 A7) _ _ _ (hh.2 (inv.set hj cy))⟩⟩) (h.out a ha)⟩⟩⟩
theorem ae.sf {l:Array Bool} {w0:World} (hx:Ext w0 w) (h:SF P n ops Q fin dX S2 f l L w) : ae n (Ba P n ops Q fin dX S2 f l w0) .normal L w:=⟨fun a ha=>⟨hx,h.out a ha⟩⟩
theorem SF.turn {o:Oper} (hi:ops[fin]?=some o) (hr:Region.ready .any ops listed=[fin]) (hw:Nat.beq fin dX=false) (h:SW P n ops (.eG (CN P n ops Q fin dX S2 f (listed.setIfInBounds fin true))) [o] L w) : SF P n ops Q fin dX S2 (f+1) listed L w :=
 ⟨fun a ha inv=>⟨by rw [hr];simp,fun j hj=>by
  have iP:j=fin:=by rw [hr] at hj;simpa using hj
  have n1:j≠dX:=fun e=>by rw [← iP,e] at hw;simp at hw
  subst iP;have cy:j<ops.size:=(Array.getElem?_eq_some_iff.1 hi).1
  exact ⟨cy,oR (Q1:=CN P n ops Q j dX S2 f (listed.setIfInBounds j true)) hi (fun e a w ne h=>by cases e<;>first|exact h|exact absurd rfl ne) (fun h=>h) (fun a' w' hh=>⟨fun e=>absurd e n1,fun _ _=>⟨hh.1,hh.2 (inv.set hj cy)⟩,fun _ n2=>absurd rfl n2⟩) (h.out a ha)⟩⟩⟩
theorem ae.sg {l:Array Bool} (hx:S2 w) (h:SG P n ops Q fin dX S2 f l L w) : ae n (CN P n ops Q fin dX S2 f l) .normal L w:=⟨fun a ha=>⟨hx,h.out a ha⟩⟩
theorem SG.one (i:Nat) {o:Oper} (hi:ops[i]?=some o) (hr:Region.ready .any ops listed=[i]) (hw:(!Nat.beq i dX && !Nat.beq i fin)=true) (h:SW P n ops (.eG (CN P n ops Q fin dX S2 f (listed.setIfInBounds i true))) [o] L w) : SG P n ops Q fin dX S2 (f+1) listed L w :=
 ⟨fun a ha inv=>⟨by rw [hr];simp,fun j hj=>by
  obtain ⟨n1,n2⟩:=Bb hw;have iP:j=i:=by rw [hr] at hj;simpa using hj
  subst iP;have cy:j<ops.size:=(Array.getElem?_eq_some_iff.1 hi).1
  exact ⟨cy,oR (Q1:=CN P n ops Q fin dX S2 f (listed.setIfInBounds j true)) hi (fun e a w ne h=>by cases e<;>first|exact h|exact absurd rfl ne) (fun h=>h) (fun a' w' hh=>⟨fun e=>absurd e n1,fun _ e=>absurd e n2,fun _ _=>⟨hh.1,hh.2 (inv.set hj cy)⟩⟩) (h.out a ha)⟩⟩⟩
theorem SF.last {o:Oper} (hi:ops[dX]?=some o) (hr:Region.ready .any ops listed=[dX]) (he:Region.ready .any ops (listed.setIfInBounds dX true)=[]) (h:SW P n ops (.eG (NoPanic Q)) [o] L w) : SF P n ops Q fin dX S2 1 listed L w :=
 ⟨fun a ha inv=>⟨by rw [hr];simp,fun j hj=>by
  have iP:j=dX:=by rw [hr] at hj;simpa using hj
  subst iP;exact ⟨(Array.getElem?_eq_some_iff.1 hi).1,oR (Q1:=NoPanic Q) hi (fun _ _ _ _ h=>h) (fun h=>h) (fun a' w' hh=>⟨fun _=>⟨he,hh⟩,fun n=>absurd rfl n,fun n=>absurd rfl n⟩) (h.out a ha)⟩⟩⟩
theorem SG.last {o:Oper} (hi:ops[dX]?=some o) (hr:Region.ready .any ops listed=[dX]) (he:Region.ready .any ops (listed.setIfInBounds dX true)=[]) (h:SW P n ops (.eG (NoPanic Q)) [o] L w) : SG P n ops Q fin dX S2 1 listed L w :=
 ⟨fun a ha inv=>⟨by rw [hr];simp,fun j hj=>by
  have iP:j=dX:=by rw [hr] at hj;simpa using hj
  subst iP;exact ⟨(Array.getElem?_eq_some_iff.1 hi).1,oR (Q1:=NoPanic Q) hi (fun _ _ _ _ h=>h) (fun h=>h) (fun a' w' hh=>⟨fun _=>⟨he,hh⟩,fun n=>absurd rfl n,fun n=>absurd rfl n⟩) (h.out a ha)⟩⟩⟩
theorem CW.qf {id:Nat} {l:List Oper} (fin dX:Nat) (S2:World→Prop) (hm:P.follows .mixedOrders=true) (hB:Region.noSelect l.toArray=true) (h:∀ w',Ext w w'→Region.noSelect l.toArray=true→SF P n l.toArray Q fin dX S2 l.length (Array.replicate l.length false) L w') : CW P n (.region id l.toArray true) Q L w :=
 ⟨fun a ha=>by
  refine wp_region_noPanic (wp_region_any hm ?_);have h0:=(h _ (Ext.drew w) hB).out a ha ⟨by simp,fun j oj _ hl=>(by rw [getD_replicate_false] at hl;cases hl),fun t h1 h2=>absurd h2 (Nat.not_lt.2 h1)⟩;have:=iU _ _ _ _ h0
  simpa using this⟩
end
end Go.Proofs.YtbidkghlpijecaaGreatDoor
/-
  Plain steps in one: as IS as G6 go; what is left is the G7 that Wz (Ws, Wa, Wf) takes. No program in F0.
-/
namespace Go.Proofs.YtbidkghlpijecaaGreatDoor
open Go.RowKit

structure xP (T : Prop) : Prop where
  out : T
section
variable {P : Program} {n : Nat} {ops : Array Oper} {L : Env} {w : World} {d : Option Nat} {T : TypeId} {pos : String} {af : Array Edge} {g : Option (Nat × Bool)}
theorem oS {t : TypeId} [fD P t] {x : Operand} {b i : Nat} {tb : TypeId} {cs : List Value} {v : Value} (hx : bG L x = some (.pointer (some ⟨b, i, none⟩))) (h : aU w b tb cs ∧ cs[i]? = some v := by (apply And.intro; assumption; rfl)) : St P ⟨d, .load t x, T, pos, af, g⟩ L w v :=
  az hx (by have := h.1.cell h.2; rwa [c7] at this)
theorem mS {t : TypeId} {m : Nat} [c : fR P t m] {x : Operand} {b : Nat} {tb : TypeId} {cs : List Value} (hx : bG L x = some (.pointer (some ⟨b, 0, none⟩))) (h : aU w b tb cs ∧ cs.length = m := by (apply And.intro; assumption; rfl)) : St P ⟨d, .load t x, T, pos, af, g⟩ L w (.agg cs.toArray) :=
  aS hx h.2 fun _ _ hv => h.1.cell hv
def F1 (ops : Array Oper) (k i : Nat) : List Nat := bif dN ops k [] i then [] else (((List.range ops.size).find? fun j => dN ops k [j] i).map fun j => [j]).getD ((((List.range ops.size).flatMap fun j => (List.range ops.size).map fun m => [j, m]).find? fun p => dN ops k p i).getD [])
theorem SF.dp {Q : Exit → Act → World → Prop} {fin dX f : Nat} {S2 : World → Prop} {listed : Array Bool} (i : Nat) {o : Oper} (hB : Region.noSelect ops = true) (hi : ops[i]? = some o) (hf : Region.free .any ops listed i = true) (hr : (Region.ready .any ops listed).contains i = true) (hw : ((dN ops fin (F1 ops fin i) i && dN ops dX (F1 ops dX i) i) && (!Nat.beq i dX && !Nat.beq i fin)) = true)
    (h : SW P n ops (.tk fun L' => SF P n ops Q fin dX S2 f (listed.setIfInBounds i true) L' w) [o] L w) : SF P n ops Q fin dX S2 (f + 1) listed L w := SF.take i _ _ hB hi hf hr hw h
end
theorem Wz {g T : Prop} (h : T) (hg : xP T → g := by
    intro h
    (first
      | (show CW _ _ _ _ _ _; first | refine CW.seq ?_ | refine CW.region ?_ | refine CW.block ?_ | refine CW.jf rfl (by with_reducible rfl) ?_ | refine CW.oF rfl (by with_reducible rfl) ?_ | refine CW.gv rfl (by omega) ?_ | refine CW.fP rfl (by omega) ?_ | refine CW.kK rfl (by omega) ?_ | refine CW.lY rfl (by omega) ?_ | refine CW.skip ?_ | refine CW.ret ?_ | refine CW.exit ?_)
      | (show ae _ _ _ _ _; first | refine ae.seq ?_ | refine ae.eL ?_ | refine ae.fO ?_ | refine ae.hit ?_ | refine ae.pass rfl ?_ | refine ae.gd ?_ | refine ae.fQ ?_ | refine ae.ej ?_ | refine ae.dP ?_ | refine ae.np ?_)
      | refine SW.nil ?_
      | (show SW _ _ _ _ (⟨_, _, _, _, _, some _⟩ :: _) _ _; first | refine SW.eX rfl rfl (by with_reducible rfl) ?_ | refine SW.bC rfl rfl (by with_reducible rfl) ?_ | refine SW.fj rfl rfl (by with_reducible rfl) rfl ?_ | refine SW.je rfl rfl (by with_reducible rfl) rfl ?_ | refine SW.lx rfl rfl (by with_reducible rfl) rfl ?_ | refine SW.gF rfl rfl rfl (by omega) ?_ | refine SW.gG rfl rfl rfl (by omega) ?_ | refine SW.fq rfl rfl rfl (by omega) ?_ | refine SW.dg rfl rfl rfl (by omega) ?_)
      | refine SW.pure rfl rfl ?_
      | (show SW _ _ _ _ (⟨_, Op.fieldAddr _ _ _, _, _, _, none⟩ :: _) _ _; refine SW.st (aP rfl) rfl ?_)
      | (show SW _ _ _ _ (⟨_, Op.nilCheck _, _, _, _, none⟩ :: _) _ _; refine SW.st (bK rfl) rfl ?_)
      | (show SW _ _ _ _ (⟨_, Op.build _ _, _, _, _, none⟩ :: _) _ _; refine SW.st (jr rfl rfl) rfl ?_)
      | (show SW _ _ _ _ (⟨_, Op.binOp _ _ _ _ _, _, _, _, none⟩ :: _) _ _; first | refine SW.st (jg rfl rfl (by omega) (by omega)) rfl ?_ | refine SW.st (iA rfl rfl (by omega) (by omega)) rfl ?_ | refine SW.st (oH rfl rfl (by omega) (by omega)) rfl ?_ | refine SW.st (oI rfl rfl (by omega) (by omega) (by omega)) rfl ?_ | refine SW.st (ly rfl rfl (by omega)) rfl ?_)
      | (show SW _ _ _ _ (⟨_, Op.indexAddr _ _ _, _, _, _, none⟩ :: _) _ _; refine SW.st (bH rfl rfl (by assumption) (by omega)) rfl ?_)
      | (show SW _ _ _ _ (⟨_, Op.call ⟨.builtin .len, _, _⟩, _, _, _, none⟩ :: _) _ _; refine SW.st (eI rfl) rfl ?_)
      | (show SW _ _ _ _ (⟨_, Op.call ⟨.builtin .cap, _, _⟩, _, _, _, none⟩ :: _) _ _; refine SW.st (oN rfl) rfl ?_)
      | (show SW _ _ _ _ (⟨_, Op.load _ _, _, _, _, none⟩ :: _) _ _; first | refine SW.st (oS rfl) rfl ?_ | refine SW.st (mS rfl) rfl ?_))
    repeat' (first
      | (show CW _ _ _ _ _ _; first | refine CW.seq ?_ | refine CW.region ?_ | refine CW.block ?_ | refine CW.jf rfl (by with_reducible rfl) ?_ | refine CW.oF rfl (by with_reducible rfl) ?_ | refine CW.gv rfl (by omega) ?_ | refine CW.fP rfl (by omega) ?_ | refine CW.kK rfl (by omega) ?_ | refine CW.lY rfl (by omega) ?_ | refine CW.skip ?_ | refine CW.ret ?_ | refine CW.exit ?_)
      | (show ae _ _ _ _ _; first | refine ae.seq ?_ | refine ae.eL ?_ | refine ae.fO ?_ | refine ae.hit ?_ | refine ae.pass rfl ?_ | refine ae.gd ?_ | refine ae.fQ ?_ | refine ae.ej ?_ | refine ae.dP ?_ | refine ae.np ?_)
      | refine SW.nil ?_
      | (show SW _ _ _ _ (⟨_, _, _, _, _, some _⟩ :: _) _ _; first | refine SW.eX rfl rfl (by with_reducible rfl) ?_ | refine SW.bC rfl rfl (by with_reducible rfl) ?_ | refine SW.fj rfl rfl (by with_reducible rfl) rfl ?_ | refine SW.je rfl rfl (by with_reducible rfl) rfl ?_ | refine SW.lx rfl rfl (by with_reducible rfl) rfl ?_ | refine SW.gF rfl rfl rfl (by omega) ?_ | refine SW.gG rfl rfl rfl (by omega) ?_ | refine SW.fq rfl rfl rfl (by omega) ?_ | refine SW.dg rfl rfl rfl (by omega) ?_)
      | refine SW.pure rfl rfl ?_
      | (show SW _ _ _ _ (⟨_, Op.fieldAddr _ _ _, _, _, _, none⟩ :: _) _ _; refine SW.st (aP rfl) rfl ?_)
      | (show SW _ _ _ _ (⟨_, Op.nilCheck _, _, _, _, none⟩ :: _) _ _; refine SW.st (bK rfl) rfl ?_)
      | (show SW _ _ _ _ (⟨_, Op.build _ _, _, _, _, none⟩ :: _) _ _; refine SW.st (jr rfl rfl) rfl ?_)
      | (show SW _ _ _ _ (⟨_, Op.binOp _ _ _ _ _, _, _, _, none⟩ :: _) _ _; first | refine SW.st (jg rfl rfl (by omega) (by omega)) rfl ?_ | refine SW.st (iA rfl rfl (by omega) (by omega)) rfl ?_ | refine SW.st (oH rfl rfl (by omega) (by omega)) rfl ?_ | refine SW.st (oI rfl rfl (by omega) (by omega) (by omega)) rfl ?_ | refine SW.st (ly rfl rfl (by omega)) rfl ?_)
      | (show SW _ _ _ _ (⟨_, Op.indexAddr _ _ _, _, _, _, none⟩ :: _) _ _; refine SW.st (bH rfl rfl (by assumption) (by omega)) rfl ?_)
      | (show SW _ _ _ _ (⟨_, Op.call ⟨.builtin .len, _, _⟩, _, _, _, none⟩ :: _) _ _; refine SW.st (eI rfl) rfl ?_)
      | (show SW _ _ _ _ (⟨_, Op.call ⟨.builtin .cap, _, _⟩, _, _, _, none⟩ :: _) _ _; refine SW.st (oN rfl) rfl ?_)
      | (show SW _ _ _ _ (⟨_, Op.load _ _, _, _, _, none⟩ :: _) _ _; first | refine SW.st (oS rfl) rfl ?_ | refine SW.st (mS rfl) rfl ?_)
      | exact h.out)) : g := hg ⟨h⟩

theorem Ws {g T : Prop} (h : T) (hg : xP T → g := by
    intro h
    repeat' (first
      | (show SW _ _ _ _ (⟨_, _, _, _, _, some _⟩ :: _) _ _; first | refine SW.eX rfl rfl (by with_reducible rfl) ?_ | refine SW.bC rfl rfl (by with_reducible rfl) ?_ | refine SW.fj rfl rfl (by with_reducible rfl) rfl ?_ | refine SW.je rfl rfl (by with_reducible rfl) rfl ?_ | refine SW.lx rfl rfl (by with_reducible rfl) rfl ?_ | refine SW.gF rfl rfl rfl (by omega) ?_ | refine SW.gG rfl rfl rfl (by omega) ?_ | refine SW.fq rfl rfl rfl (by omega) ?_ | refine SW.dg rfl rfl rfl (by omega) ?_)
      | refine SW.pure rfl rfl ?_
      | (show SW _ _ _ _ (⟨_, Op.fieldAddr _ _ _, _, _, _, none⟩ :: _) _ _; refine SW.st (aP rfl) rfl ?_)
      | (show SW _ _ _ _ (⟨_, Op.nilCheck _, _, _, _, none⟩ :: _) _ _; refine SW.st (bK rfl) rfl ?_)
      | (show SW _ _ _ _ (⟨_, Op.build _ _, _, _, _, none⟩ :: _) _ _; refine SW.st (jr rfl rfl) rfl ?_)
      | (show SW _ _ _ _ (⟨_, Op.binOp _ _ _ _ _, _, _, _, none⟩ :: _) _ _; first | refine SW.st (jg rfl rfl (by omega) (by omega)) rfl ?_ | refine SW.st (iA rfl rfl (by omega) (by omega)) rfl ?_ | refine SW.st (oH rfl rfl (by omega) (by omega)) rfl ?_ | refine SW.st (oI rfl rfl (by omega) (by omega) (by omega)) rfl ?_ | refine SW.st (ly rfl rfl (by omega)) rfl ?_)
      | (show SW _ _ _ _ (⟨_, Op.indexAddr _ _ _, _, _, _, none⟩ :: _) _ _; refine SW.st (bH rfl rfl (by assumption) (by omega)) rfl ?_)
      | (show SW _ _ _ _ (⟨_, Op.call ⟨.builtin .len, _, _⟩, _, _, _, none⟩ :: _) _ _; refine SW.st (eI rfl) rfl ?_)
      | (show SW _ _ _ _ (⟨_, Op.call ⟨.builtin .cap, _, _⟩, _, _, _, none⟩ :: _) _ _; refine SW.st (oN rfl) rfl ?_)
      | (show SW _ _ _ _ (⟨_, Op.load _ _, _, _, _, none⟩ :: _) _ _; first | refine SW.st (oS rfl) rfl ?_ | refine SW.st (mS rfl) rfl ?_)
      | exact h.out)) : g := hg ⟨h⟩

theorem Wa {g T : Prop} (h : T) (hg : xP T → g := by
    intro h
    repeat' (first
      | (refine SA.take 0 (by assumption) rfl (by decide +kernel) (by decide +kernel) rfl ?_; refine Ws ?_; refine SW.aq ?_)
      | (refine SA.take 1 (by assumption) rfl (by decide +kernel) (by decide +kernel) rfl ?_; refine Ws ?_; refine SW.aq ?_)
      | (refine SA.take 2 (by assumption) rfl (by decide +kernel) (by decide +kernel) rfl ?_; refine Ws ?_; refine SW.aq ?_)
      | (refine SA.take 3 (by assumption) rfl (by decide +kernel) (by decide +kernel) rfl ?_; refine Ws ?_; refine SW.aq ?_)
      | (refine SA.take 4 (by assumption) rfl (by decide +kernel) (by decide +kernel) rfl ?_; refine Ws ?_; refine SW.aq ?_)
      | (refine SA.take 5 (by assumption) rfl (by decide +kernel) (by decide +kernel) rfl ?_; refine Ws ?_; refine SW.aq ?_)
      | (refine SA.take 6 (by assumption) rfl (by decide +kernel) (by decide +kernel) rfl ?_; refine Ws ?_; refine SW.aq ?_)
      | (refine SA.take 7 (by assumption) rfl (by decide +kernel) (by decide +kernel) rfl ?_; refine Ws ?_; refine SW.aq ?_)
      | (refine SA.take 8 (by assumption) rfl (by decide +kernel) (by decide +kernel) rfl ?_; refine Ws ?_; refine SW.aq ?_)
      | (refine SA.take 9 (by assumption) rfl (by decide +kernel) (by decide +kernel) rfl ?_; refine Ws ?_; refine SW.aq ?_)
      | (refine SA.take 10 (by assumption) rfl (by decide +kernel) (by decide +kernel) rfl ?_; refine Ws ?_; refine SW.aq ?_)
      | (refine SA.take 11 (by assumption) rfl (by decide +kernel) (by decide +kernel) rfl ?_; refine Ws ?_; refine SW.aq ?_)
      | (refine SA.take 12 (by assumption) rfl (by decide +kernel) (by decide +kernel) rfl ?_; refine Ws ?_; refine SW.aq ?_)
      | (refine SA.take 13 (by assumption) rfl (by decide +kernel) (by decide +kernel) rfl ?_; refine Ws ?_; refine SW.aq ?_)
      | (refine SA.take 14 (by assumption) rfl (by decide +kernel) (by decide +kernel) rfl ?_; refine Ws ?_; refine SW.aq ?_)
      | (refine SA.take 15 (by assumption) rfl (by decide +kernel) (by decide +kernel) rfl ?_; refine Ws ?_; refine SW.aq ?_)
      | (refine SA.take 16 (by assumption) rfl (by decide +kernel) (by decide +kernel) rfl ?_; refine Ws ?_; refine SW.aq ?_)
      | (refine SA.take 17 (by assumption) rfl (by decide +kernel) (by decide +kernel) rfl ?_; refine Ws ?_; refine SW.aq ?_)
      | (refine SA.take 18 (by assumption) rfl (by decide +kernel) (by decide +kernel) rfl ?_; refine Ws ?_; refine SW.aq ?_)
      | (refine SA.take 19 (by assumption) rfl (by decide +kernel) (by decide +kernel) rfl ?_; refine Ws ?_; refine SW.aq ?_)
      | (refine SA.take 20 (by assumption) rfl (by decide +kernel) (by decide +kernel) rfl ?_; refine Ws ?_; refine SW.aq ?_)
      | (refine SA.take 21 (by assumption) rfl (by decide +kernel) (by decide +kernel) rfl ?_; refine Ws ?_; refine SW.aq ?_)
      | (refine SA.take 22 (by assumption) rfl (by decide +kernel) (by decide +kernel) rfl ?_; refine Ws ?_; refine SW.aq ?_)
      | (refine SA.take 23 (by assumption) rfl (by decide +kernel) (by decide +kernel) rfl ?_; refine Ws ?_; refine SW.aq ?_)
      | (refine SA.take 24 (by assumption) rfl (by decide +kernel) (by decide +kernel) rfl ?_; refine Ws ?_; refine SW.aq ?_)
      | (refine SA.take 25 (by assumption) rfl (by decide +kernel) (by decide +kernel) rfl ?_; refine Ws ?_; refine SW.aq ?_)
      | (refine SA.take 26 (by assumption) rfl (by decide +kernel) (by decide +kernel) rfl ?_; refine Ws ?_; refine SW.aq ?_)
      | (refine SA.take 27 (by assumption) rfl (by decide +kernel) (by decide +kernel) rfl ?_; refine Ws ?_; refine SW.aq ?_)
      | (refine SA.take 28 (by assumption) rfl (by decide +kernel) (by decide +kernel) rfl ?_; refine Ws ?_; refine SW.aq ?_)
      | (refine SA.take 29 (by assumption) rfl (by decide +kernel) (by decide +kernel) rfl ?_; refine Ws ?_; refine SW.aq ?_)
      | exact h.out)) : g := hg ⟨h⟩

theorem Wf {g T : Prop} (h : T) (hg : xP T → g := by
    intro h
    repeat' (first
      | (refine SF.dp 0 (by assumption) rfl (by decide +kernel) (by decide +kernel) (by decide +kernel) ?_; refine Ws ?_; refine SW.aq ?_)
      | (refine SF.dp 1 (by assumption) rfl (by decide +kernel) (by decide +kernel) (by decide +kernel) ?_; refine Ws ?_; refine SW.aq ?_)
      | (refine SF.dp 2 (by assumption) rfl (by decide +kernel) (by decide +kernel) (by decide +kernel) ?_; refine Ws ?_; refine SW.aq ?_)
      | (refine SF.dp 3 (by assumption) rfl (by decide +kernel) (by decide +kernel) (by decide +kernel) ?_; refine Ws ?_; refine SW.aq ?_)
      | (refine SF.dp 4 (by assumption) rfl (by decide +kernel) (by decide +kernel) (by decide +kernel) ?_; refine Ws ?_; refine SW.aq ?_)
      | (refine SF.dp 5 (by assumption) rfl (by decide +kernel) (by decide +kernel) (by decide +kernel) ?_; refine Ws ?_; refine SW.aq ?_)
      | (refine SF.dp 6 (by assumption) rfl (by decide +kernel) (by decide +kernel) (by decide +kernel) ?_; refine Ws ?_; refine SW.aq ?_)
      | (refine SF.dp 7 (by assumption) rfl (by decide +kernel) (by decide +kernel) (by decide +kernel) ?_; refine Ws ?_; refine SW.aq ?_)
      | (refine SF.dp 8 (by assumption) rfl (by decide +kernel) (by decide +kernel) (by decide +kernel) ?_; refine Ws ?_; refine SW.aq ?_)
      | (refine SF.dp 9 (by assumption) rfl (by decide +kernel) (by decide +kernel) (by decide +kernel) ?_; refine Ws ?_; refine SW.aq ?_)
      | (refine SF.dp 10 (by assumption) rfl (by decide +kernel) (by decide +kernel) (by decide +kernel) ?_; refine Ws ?_; refine SW.aq ?_)
      | (refine SF.dp 11 (by assumption) rfl (by decide +kernel) (by decide +kernel) (by decide +kernel) ?_; refine Ws ?_; refine SW.aq ?_)
      | (refine SF.dp 12 (by assumption) rfl (by decide +kernel) (by decide +kernel) (by decide +kernel) ?_; refine Ws ?_; refine SW.aq ?_)
      | (refine SF.dp 13 (by assumption) rfl (by decide +kernel) (by decide +kernel) (by decide +kernel) ?_; refine Ws ?_; refine SW.aq ?_)
      | (refine SF.dp 14 (by assumption) rfl (by decide +kernel) (by decide +kernel) (by decide +kernel) ?_; refine Ws ?_; refine SW.aq ?_)
      | (refine SF.dp 15 (by assumption) rfl (by decide +kernel) (by decide +kernel) (by decide +kernel) ?_; refine Ws ?_; refine SW.aq ?_)
      | (refine SF.dp 16 (by assumption) rfl (by decide +kernel) (by decide +kernel) (by decide +kernel) ?_; refine Ws ?_; refine SW.aq ?_)
      | (refine SF.dp 17 (by assumption) rfl (by decide +kernel) (by decide +kernel) (by decide +kernel) ?_; refine Ws ?_; refine SW.aq ?_)
      | (refine SF.dp 18 (by assumption) rfl (by decide +kernel) (by decide +kernel) (by decide +kernel) ?_; refine Ws ?_; refine SW.aq ?_)
      | (refine SF.dp 19 (by assumption) rfl (by decide +kernel) (by decide +kernel) (by decide +kernel) ?_; refine Ws ?_; refine SW.aq ?_)
      | (refine SF.dp 20 (by assumption) rfl (by decide +kernel) (by decide +kernel) (by decide +kernel) ?_; refine Ws ?_; refine SW.aq ?_)
      | (refine SF.dp 21 (by assumption) rfl (by decide +kernel) (by decide +kernel) (by decide +kernel) ?_; refine Ws ?_; refine SW.aq ?_)
      | (refine SF.dp 22 (by assumption) rfl (by decide +kernel) (by decide +kernel) (by decide +kernel) ?_; refine Ws ?_; refine SW.aq ?_)
      | (refine SF.dp 23 (by assumption) rfl (by decide +kernel) (by decide +kernel) (by decide +kernel) ?_; refine Ws ?_; refine SW.aq ?_)
      | (refine SF.dp 24 (by assumption) rfl (by decide +kernel) (by decide +kernel) (by decide +kernel) ?_; refine Ws ?_; refine SW.aq ?_)
      | (refine SF.dp 25 (by assumption) rfl (by decide +kernel) (by decide +kernel) (by decide +kernel) ?_; refine Ws ?_; refine SW.aq ?_)
      | (refine SF.dp 26 (by assumption) rfl (by decide +kernel) (by decide +kernel) (by decide +kernel) ?_; refine Ws ?_; refine SW.aq ?_)
      | (refine SF.dp 27 (by assumption) rfl (by decide +kernel) (by decide +kernel) (by decide +kernel) ?_; refine Ws ?_; refine SW.aq ?_)
      | (refine SF.dp 28 (by assumption) rfl (by decide +kernel) (by decide +kernel) (by decide +kernel) ?_; refine Ws ?_; refine SW.aq ?_)
      | (refine SF.dp 29 (by assumption) rfl (by decide +kernel) (by decide +kernel) (by decide +kernel) ?_; refine Ws ?_; refine SW.aq ?_)
      | exact h.out)) : g := hg ⟨h⟩

theorem Wy {g T : Prop} (h : T) (hg : xP T → g := by
    intro h
    (first
      | (show CW _ _ _ _ _ _; first | refine CW.seq ?_ | refine CW.region ?_ | refine CW.block ?_ | refine CW.jf rfl (by with_reducible rfl) ?_ | refine CW.oF rfl (by with_reducible rfl) ?_ | refine CW.gv rfl (by omega) ?_ | refine CW.fP rfl (by omega) ?_ | refine CW.kK rfl (by omega) ?_ | refine CW.lY rfl (by omega) ?_ | refine CW.skip ?_ | refine CW.ret ?_ | refine CW.exit ?_)
      | (show ae _ _ _ _ _; first | refine ae.seq ?_ | refine ae.eL ?_ | refine ae.fO ?_ | refine ae.hit ?_ | refine ae.pass rfl ?_ | refine ae.gd ?_ | refine ae.fQ ?_ | refine ae.ej ?_ | refine ae.dP ?_ | refine ae.np ?_)
      | refine SW.nil ?_
      | (show SW _ _ _ _ (⟨_, _, _, _, _, some _⟩ :: _) _ _; first | refine SW.eX rfl rfl (by with_reducible rfl) ?_ | refine SW.bC rfl rfl (by with_reducible rfl) ?_ | refine SW.fj rfl rfl (by with_reducible rfl) rfl ?_ | refine SW.je rfl rfl (by with_reducible rfl) rfl ?_ | refine SW.lx rfl rfl (by with_reducible rfl) rfl ?_ | refine SW.gF rfl rfl rfl (by omega) ?_ | refine SW.gG rfl rfl rfl (by omega) ?_ | refine SW.fq rfl rfl rfl (by omega) ?_ | refine SW.dg rfl rfl rfl (by omega) ?_)
      | refine SW.pure rfl rfl ?_
      | (show SW _ _ _ _ (⟨_, Op.fieldAddr _ _ _, _, _, _, none⟩ :: _) _ _; refine SW.st (aP rfl) rfl ?_)
      | (show SW _ _ _ _ (⟨_, Op.nilCheck _, _, _, _, none⟩ :: _) _ _; refine SW.st (bK rfl) rfl ?_)
      | (show SW _ _ _ _ (⟨_, Op.build _ _, _, _, _, none⟩ :: _) _ _; refine SW.st (jr rfl rfl) rfl ?_)
      | (show SW _ _ _ _ (⟨_, Op.binOp _ _ _ _ _, _, _, _, none⟩ :: _) _ _; first | refine SW.st (jg rfl rfl (by omega) (by omega)) rfl ?_ | refine SW.st (iA rfl rfl (by omega) (by omega)) rfl ?_ | refine SW.st (oH rfl rfl (by omega) (by omega)) rfl ?_ | refine SW.st (oI rfl rfl (by omega) (by omega) (by omega)) rfl ?_ | refine SW.st (ly rfl rfl (by omega)) rfl ?_)
      | (show SW _ _ _ _ (⟨_, Op.indexAddr _ _ _, _, _, _, none⟩ :: _) _ _; refine SW.st (bH rfl rfl (by assumption) (by omega)) rfl ?_)
      | (show SW _ _ _ _ (⟨_, Op.call ⟨.builtin .len, _, _⟩, _, _, _, none⟩ :: _) _ _; refine SW.st (eI rfl) rfl ?_)
      | (show SW _ _ _ _ (⟨_, Op.call ⟨.builtin .cap, _, _⟩, _, _, _, none⟩ :: _) _ _; refine SW.st (oN rfl) rfl ?_))
    repeat' (first
      | (show CW _ _ _ _ _ _; first | refine CW.seq ?_ | refine CW.region ?_ | refine CW.block ?_ | refine CW.jf rfl (by with_reducible rfl) ?_ | refine CW.oF rfl (by with_reducible rfl) ?_ | refine CW.gv rfl (by omega) ?_ | refine CW.fP rfl (by omega) ?_ | refine CW.kK rfl (by omega) ?_ | refine CW.lY rfl (by omega) ?_ | refine CW.skip ?_ | refine CW.ret ?_ | refine CW.exit ?_)
      | (show ae _ _ _ _ _; first | refine ae.seq ?_ | refine ae.eL ?_ | refine ae.fO ?_ | refine ae.hit ?_ | refine ae.pass rfl ?_ | refine ae.gd ?_ | refine ae.fQ ?_ | refine ae.ej ?_ | refine ae.dP ?_ | refine ae.np ?_)
      | refine SW.nil ?_
      | (show SW _ _ _ _ (⟨_, _, _, _, _, some _⟩ :: _) _ _; first | refine SW.eX rfl rfl (by with_reducible rfl) ?_ | refine SW.bC rfl rfl (by with_reducible rfl) ?_ | refine SW.fj rfl rfl (by with_reducible rfl) rfl ?_ | refine SW.je rfl rfl (by with_reducible rfl) rfl ?_ | refine SW.lx rfl rfl (by with_reducible rfl) rfl ?_ | refine SW.gF rfl rfl rfl (by omega) ?_ | refine SW.gG rfl rfl rfl (by omega) ?_ | refine SW.fq rfl rfl rfl (by omega) ?_ | refine SW.dg rfl rfl rfl (by omega) ?_)
      | refine SW.pure rfl rfl ?_
      | (show SW _ _ _ _ (⟨_, Op.fieldAddr _ _ _, _, _, _, none⟩ :: _) _ _; refine SW.st (aP rfl) rfl ?_)
      | (show SW _ _ _ _ (⟨_, Op.nilCheck _, _, _, _, none⟩ :: _) _ _; refine SW.st (bK rfl) rfl ?_)
      | (show SW _ _ _ _ (⟨_, Op.build _ _, _, _, _, none⟩ :: _) _ _; refine SW.st (jr rfl rfl) rfl ?_)
      | (show SW _ _ _ _ (⟨_, Op.binOp _ _ _ _ _, _, _, _, none⟩ :: _) _ _; first | refine SW.st (jg rfl rfl (by omega) (by omega)) rfl ?_ | refine SW.st (iA rfl rfl (by omega) (by omega)) rfl ?_ | refine SW.st (oH rfl rfl (by omega) (by omega)) rfl ?_ | refine SW.st (oI rfl rfl (by omega) (by omega) (by omega)) rfl ?_ | refine SW.st (ly rfl rfl (by omega)) rfl ?_)
      | (show SW _ _ _ _ (⟨_, Op.indexAddr _ _ _, _, _, _, none⟩ :: _) _ _; refine SW.st (bH rfl rfl (by assumption) (by omega)) rfl ?_)
      | (show SW _ _ _ _ (⟨_, Op.call ⟨.builtin .len, _, _⟩, _, _, _, none⟩ :: _) _ _; refine SW.st (eI rfl) rfl ?_)
      | (show SW _ _ _ _ (⟨_, Op.call ⟨.builtin .cap, _, _⟩, _, _, _, none⟩ :: _) _ _; refine SW.st (oN rfl) rfl ?_)
      | exact h.out)) : g := hg ⟨h⟩
open Go.RowKit
def eQ (a b:ByteArray) : Bool:=Op.bytesLess a.toList b.toList
theorem qK:∀ x y:List UInt8,Op.bytesLess x y=(!(Op.bytesLess y x || decide (x=y)))
 | [],[]=>by simp [Op.bytesLess]
 | [],_::_=>by simp [Op.bytesLess]
 | _::_,[]=>by simp [Op.bytesLess]
 | a::x,b::y=>by
   have ih:=qK x y;simp only [Op.bytesLess,List.cons.injEq];rcases Nat.lt_trichotomy a.toNat b.toNat with h|h|h
   ·have h1:a<b:=h
    have h2 : ¬ b<a:=fun e=>by have:b.toNat<a.toNat:=e;omega
    have h3 : ¬ a=b:=fun e=>by subst e;omega
    have h4 : ¬ b=a:=fun e=>h3 e.symm
    simp [h1,h2,h3,h4]
   ·have h3:a=b:=UInt8.toNat_inj.1 h
    subst h3;have h1 : ¬ a<a:=fun e=>by have:a.toNat<a.toNat:=e;omega
    simp [h1,ih]
   ·have h1:b<a:=h
    have h2 : ¬ a<b:=fun e=>by have:a.toNat<b.toNat:=e;omega
    have h3 : ¬ a=b:=fun e=>by subst e;omega
    have h4 : ¬ b=a:=fun e=>h3 e.symm
    simp [h1,h2,h3]
theorem rD (a b:ByteArray) : (a.toList == b.toList)=decide (a=b):=by
 by_cases h:a=b
 ·subst h;simp
 ·have : ¬ a.toList=b.toList:=fun e=>h (by
   have e1:=congrArg (fun l:List UInt8=>ByteArray.mk l.toArray) e;simp only [ByteArray.toList_eq] at e1;cases a;cases b;simpa using e1)
  simp [h,this]
theorem vS (a b:ByteArray) : eQ a b = !(eQ b a || decide (a=b)):=by
 unfold eQ;rw [qK];have:decide (a.toList=b.toList)=decide (a=b):=by rw [← rD];exact (Bool.beq_eq_decide_eq _ _).symm
 rw [this]
class sN (P:Program) (t:TypeId) : Prop where
 iK:P.underlying t=some .string
def rE (b:UInt8) : List Value:=[.int .u8 b.toNat]
section
variable {P:Program} {L:Env} {w:World} {d:Option Nat} {T:TypeId} {pos:String} {af:Array Edge} {g:Option (Nat×Bool)}
theorem fU {t ty:TypeId} {x y:Operand} {a b:ByteArray} (hx:bG L x=some (.string a)) (hy:bG L y=some (.string b)) : St P ⟨d,.binOp .eql t x y ty,T,pos,af,g⟩ L w (.bool (decide (a=b))) :=
 ⟨fun _ A hA w' _=>by
  have e1:=hA.eval hx;have e2:=hA.eval hy;generalize A.eval = ρ at *
  have h1:(binOp .eql t (.string a) (.string b)).run P w' = .ok (.bool (decide (a=b))) w':=by
   have:binOp .eql t (.string a) (.string b)=Op.stringOp .eql a b:=by simp [binOp]
   rw [this,← rD];simp [Op.stringOp,pure]
  simp [execOp,e1,e2,eqGuard,h1]⟩
theorem sO {t ty:TypeId} {x y:Operand} {a b:ByteArray} (hx:bG L x=some (.string a)) (hy:bG L y=some (.string b)) : St P ⟨d,.binOp .geq t x y ty,T,pos,af,g⟩ L w (.bool (!eQ a b)) :=
 ⟨fun _ A hA w' _=>by
  have e1:=hA.eval hx;have e2:=hA.eval hy;generalize A.eval = ρ at *
  have h1:(binOp .geq t (.string a) (.string b)).run P w' = .ok (.bool (!eQ a b)) w':=by
   have:binOp .geq t (.string a) (.string b)=Op.stringOp .geq a b:=by simp [binOp]
   rw [this];simp [Op.stringOp,pure,eQ]
  simp [execOp,e1,e2,eqGuard,h1]⟩
theorem sP {t ty:TypeId} {x y:Operand} {a b:ByteArray} (hx:bG L x=some (.string a)) (hy:bG L y=some (.string b)) : St P ⟨d,.binOp .leq t x y ty,T,pos,af,g⟩ L w (.bool (!eQ b a)) :=
 ⟨fun _ A hA w' _=>by
  have e1:=hA.eval hx;have e2:=hA.eval hy;generalize A.eval = ρ at *
  have h1:(binOp .leq t (.string a) (.string b)).run P w' = .ok (.bool (!eQ b a)) w':=by
   have:binOp .leq t (.string a) (.string b)=Op.stringOp .leq a b:=by simp [binOp]
   rw [this,vS b a];have e:decide (b=a)=decide (a=b):=by simp [eq_comm]
   rw [e,← rD];simp [Op.stringOp,pure,eQ]
  simp [execOp,e1,e2,eqGuard,h1]⟩
theorem mb {t:TypeId} [c:sN P t] {x:Operand} {s:ByteArray} (hx:bG L x=some (.string s)) :
 St P ⟨d,.call ⟨.builtin .len,#[x],#[t]⟩,T,pos,af,g⟩ L w (.int .i64 (s.size:Int)) :=
 ⟨fun _ a ha w' _=>by simp [execOp,resolve,invoke,builtin,ha.eval hx,Builtin.len_,run_underlying c.iK,goInt]⟩
theorem vw {t:TypeId} [c:sN P t] {x y:Operand} {s:ByteArray} {i:Int} (k:Nat) (hx:bG L x=some (.string s)) (hy:bG L y=some (.int .i64 i)) (hi:i=(k:Int)) (hk:k<s.size) :
 St P ⟨d,.index t x y,T,pos,af,g⟩ L w (.int .u8 (s[k]'hk).toNat) :=
 ⟨fun _ a ha w' _=>by
  subst hi;have e1:=ha.eval hx;have e2:=ha.eval hy;generalize a.eval = ρ at *
  have:=run_index_string (P:=P) w' t s .i64 (k:Int) c.iK
  rw [dif_pos ⟨by omega,by omega⟩] at this;simp [execOp,e1,e2,this]⟩
end
section
variable {P:Program} {n:Nat} {ops:Array Oper} {Q:Exit→Act→World→Prop} {rest:List Oper} {L:Env} {w:World} {T:TypeId} {pos:String} {af:Array Edge}
theorem SW.vT {d:Nat} {src dst e:TypeId} [S:sN P src] [D:bj P dst e 1] (he:P.underlying e=some (.int .u8)) {x:Operand} {s:ByteArray} (hx:bG L x=some (.string s)) (hn:Nat.blt d n=true)
 (h:∀ b c w',Ext w w'→w.heap.size≤b→Sl w' 1 rE (some ⟨b,0,none⟩) s.size s.data.toList→SW P n ops (.eG Q) rest ((d,.slice (some ⟨b,0,none⟩) s.size c)::L) w') :
 SW P n ops (.eG Q) (⟨some d,.convert src dst x,T,pos,af,none⟩::rest) L w :=
 ⟨fun a ha=>by
  simp only [swp,wpList,Region.wanted,if_true];refine .inl ?_;unfold Oper.wp;have hr:=Lib.run_convert_string_bytes (P:=P) w src dst e s S.iK D.iK he
  have:(execOp a.eval ⟨some d,.convert src dst x,T,pos,af,none⟩).run P w = .ok (.value (.slice (some ⟨w.heap.size,0,none⟩) s.size (grownCap w s.size 0 e))) (Lib.bytesWorld w e s):=by
   simp [execOp,ha.eval hx,hr]
  rw [this,Oper.upon_value];have hE:Ext w (Lib.bytesWorld w e s):=⟨rfl,rfl,rfl,by rw [Lib.bytesWorld_size];omega,fun j hj=>Lib.bytesWorld_at_old w e s j hj⟩
  refine (h _ _ _ hE (Nat.le_refl _) ⟨?_,fun _=>rfl,fun i hi j u hu => ?_⟩).out _ (ha.put hn _)
  ·exact Array.length_toList
  ·have oh:i<s.size:=by rw [Array.length_toList] at hi;exact hi
   have:=Lib.bytesWorld_cell w e s i oh
   match j,hu with
   | 0,hu =>
     simp only [rE,List.getElem?_cons_zero,Option.some.injEq] at hu;rw [add_zero]
     have e2:(((some (⟨w.heap.size,0,none⟩ : Addr)).getD default).add (i*1))=⟨w.heap.size,i,none⟩:=by
      simp only [Option.getD_some,Nat.mul_one];unfold Addr.add;split<;>simp_all
     rw [e2,this,← hu];have e3:s.data.toList.getD i 0=s.data.toList[i]:=by simp [List.getD,oh]
     rw [e3]
   | j+1,hu=>simp [rE] at hu⟩
end
end Go.Proofs.YtbidkghlpijecaaGreatDoor
