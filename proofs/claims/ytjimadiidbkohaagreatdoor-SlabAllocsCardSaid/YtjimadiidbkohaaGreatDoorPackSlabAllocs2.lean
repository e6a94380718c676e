/-
  Texts of the claim SlabAllocs, part 2: what its theorem leans on.
-/
import Derived.Test.YtjimadiidbkohaaGreatDoorPackSlabAllocs1
import Derived.Test.YtjimadiidbkohaaGreatDoorChecked
set_option linter.unusedVariables false
set_option linter.unusedSimpArgs false
namespace Go.Proofs.YtjimadiidbkohaaGreatDoor
open Go.RowKit
def qP (P:Program) (ops:Array Oper) (Q:Exit→Act→World→Prop) (fin ec:Nat) (S2:World→Prop) : (World→Prop)→Nat→Array Bool→Act→World→Prop
 | _,0,listed,a,w=>Region.ready .any ops listed=[]∧Q .normal a w
 | S,f+1,listed,a,w=>Region.ready .any ops listed≠[] ∧ ∀ i∈Region.ready .any ops listed,i<ops.size∧wpOp P ops Q i (fun a' w'=>(i=ec→qP P ops Q fin ec S2 (fun _=>True) f (listed.setIfInBounds i true) a' w') ∧
    (i≠ec→i=fin→S2 w'∧qP P ops Q fin ec S2 S2 f (listed.setIfInBounds i true) a' w')∧(i≠ec→i≠fin→S w'∧qP P ops Q fin ec S2 S f (listed.setIfInBounds i true) a' w')) a w
section
variable {P:Program} {ops:Array Oper} {Q:Exit→Act→World→Prop} {fin ec:Nat} {S2:World→Prop}
theorem k8:∀ (f:Nat) {S S':World→Prop} (hS:∀ w,S' w→S w) (listed:Array Bool) (a:Act) (w:World),qP P ops Q fin ec S2 S' f listed a w→qP P ops Q fin ec S2 S f listed a w
 | 0,_,_,_,_,_,_,h=>h
 | f+1,S,S',hS,_,_,_,h=>⟨h.1,fun i hi=>⟨(h.2 i hi).1,wpOp_mono (fun a' w' h'=>⟨h'.1,h'.2.1,fun n1 n2=>⟨hS _ (h'.2.2 n1 n2).1,k8 f hS _ a' w' (h'.2.2 n1 n2).2⟩⟩) (h.2 i hi).2⟩⟩
theorem kx:∀ (f:Nat) {S:World→Prop} (listed:Array Bool) (a:Act) (w:World),qP P ops Q fin ec S2 S f listed a w→wpAny P .any ops Q f listed a w
 | 0,_,_,_,_,h=>h
 | f+1,S,listed,a,w,h=>⟨fun h0=>absurd h0 h.1,fun i hi=>wpOp_mono (fun a' w' h'=>by
    by_cases e:i=ec
    ·exact kx f _ a' w' (h'.1 e)
    ·by_cases e2:i=fin
     ·exact kx f _ a' w' (h'.2.1 e e2).2
     ·exact kx f _ a' w' (h'.2.2 e e2).2) (h.2 i hi).2⟩
def eI (ops:Array Oper) (k:Nat) : List Nat→Nat→Bool
 | [],i=>match ops[k]? with
   | some o=>o.after.any fun e=>Region.binds .any e && Nat.beq e.on i
   | none=>false
 | x::r,i=>(match ops[k]? with
   | some o=>o.after.any fun e=>Region.binds .any e && Nat.beq e.on x
   | none=>false) && eI ops x r i
theorem u7 {k i:Nat} (h:(match ops[k]? with|some o=>o.after.any fun e=>Region.binds .any e && Nat.beq e.on i|none=>false)=true) : ∃ o,ops[k]?=some o ∧ ∃ e∈o.after,Region.binds .any e=true∧e.on=i:=by
 cases ho:ops[k]? with
 | none=>rw [ho] at h;cases h
 | some o =>
   rw [ho] at h;simp only [Array.any_eq_true',Bool.and_eq_true] at h;obtain ⟨e,he,hb,hn⟩:=h;exact ⟨o,rfl,e,he,hb,Nat.eq_of_beq_eq_true hn⟩
theorem nP {n:Nat} {listed:Array Bool} (inv:HeadInv .any ops n listed) : ∀ (p:List Nat) (k i:Nat),eI ops k p i=true→listed.getD k false=true→listed.getD i false=true
 | [],k,i,h,hk=>by
   obtain ⟨o,ho,e,he,hb,FI⟩:=u7 h;rw [← FI];exact inv.closed k o ho hk e he hb
 | x::r,k,i,h,hk=>by
   simp only [eI,Bool.and_eq_true] at h;obtain ⟨o,ho,e,he,hb,FI⟩:=u7 h.1;exact nP inv r x i h.2 (by rw [← FI];exact inv.closed k o ho hk e he hb)
theorem u9 {n:Nat} {listed:Array Bool} (inv:HeadInv .any ops n listed) {p:List Nat} {k i:Nat} (h:eI ops k p i=true) (hk:k∈Region.ready .any ops listed) : listed.getD i false=true:=by
 obtain ⟨_,o,ho,fO⟩:=mem_ready.1 hk;cases p with
 | nil =>
   obtain ⟨o',tI,e,he,hb,FI⟩:=u7 h;rw [ho] at tI;cases tI
   rw [← FI];exact fO e he hb
 | cons x r =>
   simp only [eI,Bool.and_eq_true] at h;obtain ⟨o',tI,e,he,hb,FI⟩:=u7 h.1;rw [ho] at tI;cases tI
   exact nP inv r x i h.2 (by rw [← FI];exact fO e he hb)
theorem jY {T:World→Prop} {i:Nat} {oi:Oper} {v:Value} (hi:ops[i]?=some oi) (BN:∀ (j:Nat) (o:Oper) cs b,ops[j]?=some o→o.op ≠ .select cs b) (Bw:i≠ec) (Lo:i≠fin)
 (hQ:∀ c a w,Q (.panic c) (a.put oi.dst v) w→Q (.panic c) a w) (JH:(∀ w,T w) ∨ ∃ p,eI ops ec p i=true) (qQ:(∀ w,S2 w→T w) ∨ ∃ p,eI ops fin p i=true) :
 ∀ (f:Nat) {S:World→Prop} (HA:∀ w,S w→T w) (listed:Array Bool) (a:Act) (w:World),HeadInv .any ops ops.size listed →
  (∀ j oj,ops[j]?=some oj→j≠i→listed.getD j true=false→(∀ e∈oj.after,Region.binds .any e=true→e.on≠i)→oi.apart ops oj=true) →
  i∈Region.ready .any ops listed→YieldsIf P ops T oi v a→S w →
  qP P ops Q fin ec S2 S f (listed.setIfInBounds i true) (a.put oi.dst v) w→qP P ops Q fin ec S2 S (f+1) listed a w:=by
 intro f;induction f with
 | zero =>
   intro S HA listed a w inv _ hr hy hS H;have xL:=(mem_ready.1 hr).1;refine ⟨fun h=>(by rw [h] at hr;cases hr),fun j hj => ?_⟩;have iZ:j<ops.size:=by obtain ⟨_,o,ho,_⟩:=mem_ready.1 hj;exact (Array.getElem?_eq_some_iff.1 ho).1
   refine ⟨iZ,?_⟩;by_cases iI:j=i
   ·subst iI;exact hy.wpOp hi (HA _ hS) ⟨fun e=>absurd e Bw,fun _ e=>absurd e Lo,fun _ _=>⟨hS,H⟩⟩
   ·have h0:=ready_mono hj iI;rw [H.1] at h0;cases h0
 | succ f ih =>
   intro S HA listed a w inv fG hr hy hS H;have xL:=(mem_ready.1 hr).1;refine ⟨fun h=>(by rw [h] at hr;cases hr),fun j hj => ?_⟩;have iZ:j<ops.size:=by obtain ⟨_,o,ho,_⟩:=mem_ready.1 hj;exact (Array.getElem?_eq_some_iff.1 ho).1
   refine ⟨iZ,?_⟩;by_cases iI:j=i
   ·subst iI;exact hy.wpOp hi (HA _ hS) ⟨fun e=>absurd e Bw,fun _ e=>absurd e Lo,fun _ _=>⟨hS,H⟩⟩
   ·have h1:=(H.2 j (ready_mono hj iI)).2;obtain ⟨BO,oj,FE,fO⟩:=mem_ready.1 hj
    have tK:∀ e∈oj.after,Region.binds .any e=true→e.on≠i:=fun e he hb DN=>by
     have h1:=fO e he hb;rw [DN,getD_both xL] at h1;cases h1
    have h2:=wpOp_putIf FE (fG j oj FE iI BO tK) (fun cs b=>BN i oi cs b hi) (fun cs b=>BN j oj cs b FE) hQ hy h1
    have rO:∀ k ok,ops[k]?=some ok→k≠i→(listed.setIfInBounds j true).getD k true=false →
     (∀ e∈ok.after,Region.binds .any e=true→e.on≠i)→oi.apart ops ok=true:=fun k ok hk qO xL k6=>by
     refine fG k ok hk qO ?_ k6;by_cases k7:j=k
     ·subst k7;exact BO
     ·rw [getD_set_ne true k7] at xL;exact xL
    have BP:=inv.set hj iZ
    have no:∀ {k:Nat} {p:List Nat},eI ops k p i=true→j=k→False:=fun {k p} HB e=>by
     subst e;have:=u9 inv HB hj
     rw [getD_both xL] at this;cases this
    refine wpOp_mono (fun a' w' h3=>⟨fun e => ?_,fun n1 e => ?_,fun n1 n2=>⟨(h3.2.2.2 n1 n2).1,ih HA (listed.setIfInBounds j true) a' w' BP rO (ready_mono hr (Ne.symm iI)) h3.1 (h3.2.2.2 n1 n2).1 ?_⟩⟩) h2
    ·rcases JH with hT|⟨p,HB⟩
     ·refine ih (fun w _=>hT w) (listed.setIfInBounds j true) a' w' BP rO (ready_mono hr (Ne.symm iI)) h3.1 trivial ?_;rw [Array.setIfInBounds_comm _ _ iI];exact h3.2.1 e
     ·exact (no HB e).elim
    ·rcases qQ with hT|⟨p,HB⟩
     ·refine ⟨(h3.2.2.1 n1 e).1,ih hT (listed.setIfInBounds j true) a' w' BP rO (ready_mono hr (Ne.symm iI)) h3.1 (h3.2.2.1 n1 e).1 ?_⟩;rw [Array.setIfInBounds_comm _ _ iI];exact (h3.2.2.1 n1 e).2
     ·exact (no HB e).elim
    ·rw [Array.setIfInBounds_comm _ _ iI];exact (h3.2.2.2 n1 n2).2
end
structure SF (P:Program) (n:Nat) (ops:Array Oper) (Q:Exit→Act→World→Prop) (fin ec:Nat) (S2:World→Prop) (f:Nat) (listed:Array Bool) (L:Env) (w:World) : Prop where
 out:∀ a,Fit n a L→HeadInv .any ops ops.size listed→qP P ops (NoPanic Q) fin ec S2 (Ext w) f listed a w
structure SG (P:Program) (n:Nat) (ops:Array Oper) (Q:Exit→Act→World→Prop) (fin ec:Nat) (S2:World→Prop) (f:Nat) (listed:Array Bool) (L:Env) (w:World) : Prop where
 out:∀ a,Fit n a L→HeadInv .any ops ops.size listed→qP P ops (NoPanic Q) fin ec S2 S2 f listed a w
def DT (P:Program) (n:Nat) (ops:Array Oper) (Q:Exit→Act→World→Prop) (fin ec:Nat) (S2:World→Prop) (f:Nat) (listed:Array Bool) (w:World) : Exit→Act→World→Prop
 | .normal,a,w'=>Ext w w'∧(HeadInv .any ops ops.size listed→qP P ops (NoPanic Q) fin ec S2 (Ext w') f listed a w')
 | e,a,w'=>NoPanic Q e a w'
def FJ (P:Program) (n:Nat) (ops:Array Oper) (Q:Exit→Act→World→Prop) (fin ec:Nat) (S2:World→Prop) (f:Nat) (listed:Array Bool) : Exit→Act→World→Prop
 | .normal,a,w'=>S2 w'∧(HeadInv .any ops ops.size listed→qP P ops (NoPanic Q) fin ec S2 S2 f listed a w')
 | e,a,w'=>NoPanic Q e a w'
section
variable {P:Program} {n:Nat} {ops:Array Oper} {Q:Exit→Act→World→Prop} {fin ec f:Nat} {S2:World→Prop} {listed:Array Bool} {L:Env} {w:World}
theorem DU {i:Nat} (h:(!Nat.beq i ec && !Nat.beq i fin)=true) : i≠ec∧i≠fin:=by
 simp only [Bool.and_eq_true,Bool.not_eq_true'] at h;exact ⟨fun e=>by subst e;simp at h,fun e=>by subst e;simp at h⟩
theorem SF.take (i:Nat) (p q:List Nat) {o:Oper} (hB:Region.noSelect ops=true) (hi:ops[i]?=some o) (hf:Region.free .any ops listed i=true) (hr:(Region.ready .any ops listed).contains i=true) (hw:((eI ops fin p i && eI ops ec q i) && (!Nat.beq i ec && !Nat.beq i fin))=true)
 (h:SW P n ops (.tk fun L'=>SF P n ops Q fin ec S2 f (listed.setIfInBounds i true) L' w) [o] L w) : SF P n ops Q fin ec S2 (f+1) listed L w :=
 ⟨fun a ha inv=>by
  have hs:=h.out a ha;rw [Bool.and_eq_true,Bool.and_eq_true] at hw;obtain ⟨⟨ab,cw⟩,jQ⟩:=hw;obtain ⟨n1,n2⟩:=DU jQ;have mj:i∈Region.ready .any ops listed:=by simpa using hr
  have cf:i<ops.size:=(Array.getElem?_eq_some_iff.1 hi).1
  simp only [swp,uY] at hs;by_cases hw:Region.wanted o (yielded ops a.tmps)=true
  ·rw [if_pos hw] at hs;obtain ⟨v,hv,L',tL,hK⟩:=hs;exact jY (T:=Ext w) hi (Region.noSelect_spec hB) n1 n2 (fun _ _ _ h=>(h:False).elim) (.inr ⟨q,cw⟩) (.inr ⟨p,ab⟩) f (fun _ h=>h) listed a w inv (Region.free_spec hi hf) mj (.inl ⟨hw,hv⟩) (Ext.refl w) (hK.out _ tL (inv.set mj cf))
  ·rw [if_neg hw] at hs;obtain ⟨L',tL,hK⟩:=hs;exact jY (T:=Ext w) hi (Region.noSelect_spec hB) n1 n2 (fun _ _ _ h=>(h:False).elim) (.inr ⟨q,cw⟩) (.inr ⟨p,ab⟩) f (fun _ h=>h) listed a w inv (Region.free_spec hi hf) mj (.inr ⟨by simpa using hw,rfl⟩) (Ext.refl w) (hK.out _ tL (inv.set mj cf))⟩
theorem SF.dG (i:Nat) (q:List Nat) {d:Nat} {op:Op} {T:TypeId} {pos:String} {af:Array Edge} {v:Value} (hB:Region.noSelect ops=true) (hi:ops[i]?=some ⟨some d,op,T,pos,af,none⟩) (hf:Region.free .any ops listed i=true) (hr:(Region.ready .any ops listed).contains i=true) (hw:(eI ops ec q i && (!Nat.beq i ec && !Nat.beq i fin))=true)
 (h1:St P ⟨some d,op,T,pos,af,none⟩ L w v) (h2:∀ w2,S2 w2→St P ⟨some d,op,T,pos,af,none⟩ L w2 v) (hn:Nat.blt d n=true) (h:SF P n ops Q fin ec S2 f (listed.setIfInBounds i true) ((d,v)::L) w) : SF P n ops Q fin ec S2 (f+1) listed L w :=
 ⟨fun a ha inv=>by
  rw [Bool.and_eq_true] at hw;obtain ⟨ab,jQ⟩:=hw;obtain ⟨n1,n2⟩:=DU jQ;have mj:i∈Region.ready .any ops listed:=by simpa using hr
  have cf:i<ops.size:=(Array.getElem?_eq_some_iff.1 hi).1
  exact jY (T:=fun w'=>Ext w w'∨S2 w') hi (Region.noSelect_spec hB) n1 n2 (fun _ _ _ h=>(h:False).elim) (.inr ⟨q,ab⟩) (.inl fun _ => .inr) f (fun _ => .inl) listed a w inv (Region.free_spec hi hf) mj (v:=v)
   (.inl ⟨by simp [Region.wanted],fun w' hh=>by rcases hh with hh|hh;exact h1.out n a ha w' hh;exact (h2 w' hh).out n a ha w' (Ext.refl w')⟩) (Ext.refl w) (h.out _ (ha.put hn v) (inv.set mj cf))⟩
theorem SF.jD (i:Nat) {d:Nat} {op:Op} {T:TypeId} {pos:String} {af:Array Edge} {v:Value} (hB:Region.noSelect ops=true) (hi:ops[i]?=some ⟨some d,op,T,pos,af,none⟩) (hf:Region.free .any ops listed i=true) (hr:(Region.ready .any ops listed).contains i=true) (hw:(!Nat.beq i ec && !Nat.beq i fin)=true)
 (h1:∀ w2,St P ⟨some d,op,T,pos,af,none⟩ L w2 v) (hn:Nat.blt d n=true) (h:SF P n ops Q fin ec S2 f (listed.setIfInBounds i true) ((d,v)::L) w) : SF P n ops Q fin ec S2 (f+1) listed L w :=
 ⟨fun a ha inv=>by
  obtain ⟨n1,n2⟩:=DU hw;have mj:i∈Region.ready .any ops listed:=by simpa using hr
  have cf:i<ops.size:=(Array.getElem?_eq_some_iff.1 hi).1
  exact jY (T:=fun _=>True) hi (Region.noSelect_spec hB) n1 n2 (fun _ _ _ h=>(h:False).elim) (.inl fun _=>trivial) (.inl fun _ _=>trivial) f (fun _ _=>trivial) listed a w inv (Region.free_spec hi hf) mj (v:=v)
   (.inl ⟨by simp [Region.wanted],fun w' _=>(h1 w').out n a ha w' (Ext.refl w')⟩) (Ext.refl w) (h.out _ (ha.put hn v) (inv.set mj cf))⟩
theorem Oper.DV {o:Oper} {a:Act} {N:Act→World→Prop} {Q1 Q2:Exit→Act→World→Prop} (hq:∀ e a w,e ≠ .normal→Q1 e a w→Q2 e a w) (hl:LetsOut Q1→LetsOut Q2) (h:o.wp P a w N Q1) : o.wp P a w N Q2:=by
 unfold Oper.wp at *;generalize (execOp a.eval o).run P w=r at *
 cases r with
 | ok x w' =>
   cases x<;>simp only [Oper.upon] at h ⊢
   case value=>exact h
   case skip=>exact h
   case defer=>exact h
   case row=>exact h
   case enter =>
    refine Calls.mono h fun e EQ he => ?_
    cases e
    ·exact he
    ·exact hq _ _ _ (by simp) he
    ·exact hl he
 | halt x w' =>
   cases x<;>simp only [Oper.upon] at h ⊢
   exact hq _ _ _ (by simp) h
theorem oK {i:Nat} {o:Oper} {a:Act} {Q1:Exit→Act→World→Prop} {K:Act→World→Prop} (hi:ops[i]?=some o) (hq:∀ e a w,e ≠ .normal→Q1 e a w→NoPanic Q e a w) (hl:LetsOut Q1→LetsOut (NoPanic Q)) (conv:∀ a' w',Q1 .normal a' w'→K a' w') (hs:wpList P ops Q1 [o] a w) : wpOp P ops (NoPanic Q) i K a w:=by
 simp only [wpList] at hs;unfold wpOp;simp only [hi];by_cases hw:Region.wanted o (yielded ops a.tmps)=true
 ·rw [if_pos hw] at hs ⊢;rcases hs with hs|⟨h1,h2⟩
  ·exact .inl (Oper.wp_mono conv (Oper.DV hq hl hs))
  ·exact .inr ⟨h1,hl h2⟩
 ·rw [if_neg hw] at hs ⊢;exact conv _ _ hs
theorem SF.one (i:Nat) {o:Oper} (hi:ops[i]?=some o) (hr:Region.ready .any ops listed=[i]) (hw:(!Nat.beq i ec && !Nat.beq i fin)=true) (h:SW P n ops (.fr (DT P n ops Q fin ec S2 f (listed.setIfInBounds i true) w)) [o] L w) : SF P n ops Q fin ec S2 (f+1) listed L w :=
 ⟨fun a ha inv=>⟨by rw [hr];simp,fun j hj=>by
  obtain ⟨n1,n2⟩:=DU hw;have iI:j=i:=by rw [hr] at hj;simpa using hj
  subst iI;have cf:j<ops.size:=(Array.getElem?_eq_some_iff.1 hi).1
  refine ⟨cf,oK (Q1:=DT P n ops Q fin ec S2 f (listed.setIfInBounds j true) w) hi (fun e a w ne h=>by cases e<;>first|exact h|exact absurd rfl ne) (fun h=>h) (fun a' w' hh=>⟨fun e=>absurd e n1,fun _ e=>absurd e n2,fun _ _=>⟨hh.1,k8 f (fun EQ DO=>Ext.trans hh.1 DO) _ _ _ (hh.2 (inv.set hj cf))⟩⟩) (h.out a ha)⟩⟩⟩
theorem ae.sf {l:Array Bool} {w0:World} (hx:Ext w0 w) (h:SF P n ops Q fin ec S2 f l L w) : ae n (DT P n ops Q fin ec S2 f l w0) .normal L w:=⟨fun a ha=>⟨hx,h.out a ha⟩⟩
theorem SF.turn {o:Oper} (hi:ops[fin]?=some o) (hr:Region.ready .any ops listed=[fin]) (hw:Nat.beq fin ec=false) (h:SW P n ops (.fr (FJ P n ops Q fin ec S2 f (listed.setIfInBounds fin true))) [o] L w) : SF P n ops Q fin ec S2 (f+1) listed L w :=
 ⟨fun a ha inv=>⟨by rw [hr];simp,fun j hj=>by
  have iI:j=fin:=by rw [hr] at hj;simpa using hj
  have n1:j≠ec:=fun e=>by rw [← iI,e] at hw;simp at hw
  subst iI;have cf:j<ops.size:=(Array.getElem?_eq_some_iff.1 hi).1
  exact ⟨cf,oK (Q1:=FJ P n ops Q j ec S2 f (listed.setIfInBounds j true)) hi (fun e a w ne h=>by cases e<;>first|exact h|exact absurd rfl ne) (fun h=>h) (fun a' w' hh=>⟨fun e=>absurd e n1,fun _ _=>⟨hh.1,hh.2 (inv.set hj cf)⟩,fun _ n2=>absurd rfl n2⟩) (h.out a ha)⟩⟩⟩
theorem ae.sg {l:Array Bool} (hx:S2 w) (h:SG P n ops Q fin ec S2 f l L w) : ae n (FJ P n ops Q fin ec S2 f l) .normal L w:=⟨fun a ha=>⟨hx,h.out a ha⟩⟩
theorem SG.one (i:Nat) {o:Oper} (hi:ops[i]?=some o) (hr:Region.ready .any ops listed=[i]) (hw:(!Nat.beq i ec && !Nat.beq i fin)=true) (h:SW P n ops (.fr (FJ P n ops Q fin ec S2 f (listed.setIfInBounds i true))) [o] L w) : SG P n ops Q fin ec S2 (f+1) listed L w :=
 ⟨fun a ha inv=>⟨by rw [hr];simp,fun j hj=>by
  obtain ⟨n1,n2⟩:=DU hw;have iI:j=i:=by rw [hr] at hj;simpa using hj
  subst iI;have cf:j<ops.size:=(Array.getElem?_eq_some_iff.1 hi).1
  exact ⟨cf,oK (Q1:=FJ P n ops Q fin ec S2 f (listed.setIfInBounds j true)) hi (fun e a w ne h=>by cases e<;>first|exact h|exact absurd rfl ne) (fun h=>h) (fun a' w' hh=>⟨fun e=>absurd e n1,fun _ e=>absurd e n2,fun _ _=>⟨hh.1,hh.2 (inv.set hj cf)⟩⟩) (h.out a ha)⟩⟩⟩
theorem SF.last {o:Oper} (hi:ops[ec]?=some o) (hr:Region.ready .any ops listed=[ec]) (he:Region.ready .any ops (listed.setIfInBounds ec true)=[]) (h:SW P n ops (.fr (NoPanic Q)) [o] L w) : SF P n ops Q fin ec S2 1 listed L w :=
 ⟨fun a ha inv=>⟨by rw [hr];simp,fun j hj=>by
  have iI:j=ec:=by rw [hr] at hj;simpa using hj
  subst iI;exact ⟨(Array.getElem?_eq_some_iff.1 hi).1,oK (Q1:=NoPanic Q) hi (fun _ _ _ _ h=>h) (fun h=>h) (fun a' w' hh=>⟨fun _=>⟨he,hh⟩,fun n=>absurd rfl n,fun n=>absurd rfl n⟩) (h.out a ha)⟩⟩⟩
theorem SG.last {o:Oper} (hi:ops[ec]?=some o) (hr:Region.ready .any ops listed=[ec]) (he:Region.ready .any ops (listed.setIfInBounds ec true)=[]) (h:SW P n ops (.fr (NoPanic Q)) [o] L w) : SG P n ops Q fin ec S2 1 listed L w :=
 ⟨fun a ha inv=>⟨by rw [hr];simp,fun j hj=>by
  have iI:j=ec:=by rw [hr] at hj;simpa using hj
  subst iI;exact ⟨(Array.getElem?_eq_some_iff.1 hi).1,oK (Q1:=NoPanic Q) hi (fun _ _ _ _ h=>h) (fun h=>h) (fun a' w' hh=>⟨fun _=>⟨he,hh⟩,fun n=>absurd rfl n,fun n=>absurd rfl n⟩) (h.out a ha)⟩⟩⟩
theorem CW.iO {id:Nat} {l:List Oper} (fin ec:Nat) (S2:World→Prop) (hm:P.follows .mixedOrders=true) (hB:Region.noSelect l.toArray=true) (h:∀ w',Ext w w'→Region.noSelect l.toArray=true→SF P n l.toArray Q fin ec S2 l.length (Array.replicate l.length false) L w') : CW P n (.region id l.toArray true) Q L w :=
 ⟨fun a ha=>by
  refine wp_region_noPanic (wp_region_any hm ?_);have h0:=(h _ (Ext.drew w) hB).out a ha ⟨by simp,fun j oj _ hl=>(by rw [getD_replicate_false] at hl;cases hl),fun t h1 h2=>absurd h2 (Nat.not_lt.2 h1)⟩;have:=kx _ _ _ _ h0
  simpa using this⟩
end
end Go.Proofs.YtjimadiidbkohaaGreatDoor
/-
  Plain steps in one: as Oj as My go; what is left is the Mz that Wz (Ws, Wa, Wf) takes. No program in Lp.
-/
namespace Go.Proofs.YtjimadiidbkohaaGreatDoor
open Go.RowKit

structure BR (T : Prop) : Prop where
  out : T
section
variable {P : Program} {n : Nat} {ops : Array Oper} {L : Env} {w : World} {d : Option Nat} {T : TypeId} {pos : String} {af : Array Edge} {g : Option (Nat × Bool)}
theorem rT {t : TypeId} [gk P t] {x : Operand} {b i : Nat} {tb : TypeId} {cs : List Value} {v : Value} (hx : ca L x = some (.pointer (some ⟨b, i, none⟩))) (h : aJ w b tb cs ∧ cs[i]? = some v := by (apply And.intro; assumption; rfl)) : St P ⟨d, .load t x, T, pos, af, g⟩ L w v :=
  ak hx (by have := h.1.cell h.2; rwa [c7] at this)
theorem pE {t : TypeId} {m : Nat} [c : gV P t m] {x : Operand} {b : Nat} {tb : TypeId} {cs : List Value} (hx : ca L x = some (.pointer (some ⟨b, 0, none⟩))) (h : aJ w b tb cs ∧ cs.length = m := by (apply And.intro; assumption; rfl)) : St P ⟨d, .load t x, T, pos, af, g⟩ L w (.agg cs.toArray) :=
  aX hx h.2 fun _ _ hv => h.1.cell hv
def Lq (ops : Array Oper) (k i : Nat) : List Nat := bif eI ops k [] i then [] else (((List.range ops.size).find? fun j => eI ops k [j] i).map fun j => [j]).getD ((((List.range ops.size).flatMap fun j => (List.range ops.size).map fun m => [j, m]).find? fun p => eI ops k p i).getD [])
theorem SF.dY {Q : Exit → Act → World → Prop} {fin ec f : Nat} {S2 : World → Prop} {listed : Array Bool} (i : Nat) {o : Oper} (hB : Region.noSelect ops = true) (hi : ops[i]? = some o) (hf : Region.free .any ops listed i = true) (hr : (Region.ready .any ops listed).contains i = true) (hw : ((eI ops fin (Lq ops fin i) i && eI ops ec (Lq ops ec i) i) && (!Nat.beq i ec && !Nat.beq i fin)) = true)
    (h : SW P n ops (.tk fun L' => SF P n ops Q fin ec S2 f (listed.setIfInBounds i true) L' w) [o] L w) : SF P n ops Q fin ec S2 (f + 1) listed L w := SF.take i _ _ hB hi hf hr hw h
end
theorem Wz {g T : Prop} (h : T) (hg : BR T → g := by
    intro h
    (first
      | (show CW _ _ _ _ _ _; first | refine CW.seq ?_ | refine CW.region ?_ | refine CW.block ?_ | refine CW.kL rfl (by with_reducible rfl) ?_ | refine CW.rI rfl (by with_reducible rfl) ?_ | refine CW.iY rfl (by omega) ?_ | refine CW.im rfl (by omega) ?_ | refine CW.nf rfl (by omega) ?_ | refine CW.oE rfl (by omega) ?_ | refine CW.skip ?_ | refine CW.ret ?_ | refine CW.exit ?_)
      | (show ae _ _ _ _ _; first | refine ae.seq ?_ | refine ae.fF ?_ | refine ae.il ?_ | refine ae.hit ?_ | refine ae.pass rfl ?_ | refine ae.cU ?_ | refine ae.iq ?_ | refine ae.fh ?_ | refine ae.eK ?_ | refine ae.np ?_)
      | refine SW.nil ?_
      | (show SW _ _ _ _ (⟨_, _, _, _, _, some _⟩ :: _) _ _; first | refine SW.fP rfl rfl (by with_reducible rfl) ?_ | refine SW.bU rfl rfl (by with_reducible rfl) ?_ | refine SW.gn rfl rfl (by with_reducible rfl) rfl ?_ | refine SW.kK rfl rfl (by with_reducible rfl) rfl ?_ | refine SW.nX rfl rfl (by with_reducible rfl) rfl ?_ | refine SW.ji rfl rfl rfl (by omega) ?_ | refine SW.jj rfl rfl rfl (by omega) ?_ | refine SW.gw rfl rfl rfl (by omega) ?_ | refine SW.dQ rfl rfl rfl (by omega) ?_)
      | refine SW.pure rfl rfl ?_
      | (show SW _ _ _ _ (⟨_, Op.fieldAddr _ _ _, _, _, _, none⟩ :: _) _ _; refine SW.st (aC rfl) rfl ?_)
      | (show SW _ _ _ _ (⟨_, Op.nilCheck _, _, _, _, none⟩ :: _) _ _; refine SW.st (aI rfl) rfl ?_)
      | (show SW _ _ _ _ (⟨_, Op.build _ _, _, _, _, none⟩ :: _) _ _; refine SW.st (fQ rfl rfl) rfl ?_)
      | (show SW _ _ _ _ (⟨_, Op.binOp _ _ _ _ _, _, _, _, none⟩ :: _) _ _; first | refine SW.st (kM rfl rfl (by omega) (by omega)) rfl ?_ | refine SW.st (iu rfl rfl (by omega) (by omega)) rfl ?_ | refine SW.st (iN rfl rfl (by omega) (by omega)) rfl ?_ | refine SW.st (rK rfl rfl (by omega) (by omega) (by omega)) rfl ?_ | refine SW.st (nY rfl rfl (by omega)) rfl ?_)
      | (show SW _ _ _ _ (⟨_, Op.indexAddr _ _ _, _, _, _, none⟩ :: _) _ _; refine SW.st (bj rfl rfl (by assumption) (by omega)) rfl ?_)
      | (show SW _ _ _ _ (⟨_, Op.call ⟨.builtin .len, _, _⟩, _, _, _, none⟩ :: _) _ _; refine SW.st (eQ rfl) rfl ?_)
      | (show SW _ _ _ _ (⟨_, Op.call ⟨.builtin .cap, _, _⟩, _, _, _, none⟩ :: _) _ _; refine SW.st (rQ rfl) rfl ?_)
      | (show SW _ _ _ _ (⟨_, Op.load _ _, _, _, _, none⟩ :: _) _ _; first | refine SW.st (rT rfl) rfl ?_ | refine SW.st (pE rfl) rfl ?_))
    repeat' (first
      | (show CW _ _ _ _ _ _; first | refine CW.seq ?_ | refine CW.region ?_ | refine CW.block ?_ | refine CW.kL rfl (by with_reducible rfl) ?_ | refine CW.rI rfl (by with_reducible rfl) ?_ | refine CW.iY rfl (by omega) ?_ | refine CW.im rfl (by omega) ?_ | refine CW.nf rfl (by omega) ?_ | refine CW.oE rfl (by omega) ?_ | refine CW.skip ?_ | refine CW.ret ?_ | refine CW.exit ?_)
      | (show ae _ _ _ _ _; first | refine ae.seq ?_ | refine ae.fF ?_ | refine ae.il ?_ | refine ae.hit ?_ | refine ae.pass rfl ?_ | refine ae.cU ?_ | refine ae.iq ?_ | refine ae.fh ?_ | refine ae.eK ?_ | refine ae.np ?_)
      | refine SW.nil ?_
      | (show SW _ _ _ _ (⟨_, _, _, _, _, some _⟩ :: _) _ _; first | refine SW.fP rfl rfl (by with_reducible rfl) ?_ | refine SW.bU rfl rfl (by with_reducible rfl) ?_ | refine SW.gn rfl rfl (by with_reducible rfl) rfl ?_ | refine SW.kK rfl rfl (by with_reducible rfl) rfl ?_ | refine SW.nX rfl rfl (by with_reducible rfl) rfl ?_ | refine SW.ji rfl rfl rfl (by omega) ?_ | refine SW.jj rfl rfl rfl (by omega) ?_ | refine SW.gw rfl rfl rfl (by omega) ?_ | refine SW.dQ rfl rfl rfl (by omega) ?_)
      | refine SW.pure rfl rfl ?_
      | (show SW _ _ _ _ (⟨_, Op.fieldAddr _ _ _, _, _, _, none⟩ :: _) _ _; refine SW.st (aC rfl) rfl ?_)
      | (show SW _ _ _ _ (⟨_, Op.nilCheck _, _, _, _, none⟩ :: _) _ _; refine SW.st (aI rfl) rfl ?_)
      | (show SW _ _ _ _ (⟨_, Op.build _ _, _, _, _, none⟩ :: _) _ _; refine SW.st (fQ rfl rfl) rfl ?_)
      | (show SW _ _ _ _ (⟨_, Op.binOp _ _ _ _ _, _, _, _, none⟩ :: _) _ _; first | refine SW.st (kM rfl rfl (by omega) (by omega)) rfl ?_ | refine SW.st (iu rfl rfl (by omega) (by omega)) rfl ?_ | refine SW.st (iN rfl rfl (by omega) (by omega)) rfl ?_ | refine SW.st (rK rfl rfl (by omega) (by omega) (by omega)) rfl ?_ | refine SW.st (nY rfl rfl (by omega)) rfl ?_)
      | (show SW _ _ _ _ (⟨_, Op.indexAddr _ _ _, _, _, _, none⟩ :: _) _ _; refine SW.st (bj rfl rfl (by assumption) (by omega)) rfl ?_)
      | (show SW _ _ _ _ (⟨_, Op.call ⟨.builtin .len, _, _⟩, _, _, _, none⟩ :: _) _ _; refine SW.st (eQ rfl) rfl ?_)
      | (show SW _ _ _ _ (⟨_, Op.call ⟨.builtin .cap, _, _⟩, _, _, _, none⟩ :: _) _ _; refine SW.st (rQ rfl) rfl ?_)
      | (show SW _ _ _ _ (⟨_, Op.load _ _, _, _, _, none⟩ :: _) _ _; first | refine SW.st (rT rfl) rfl ?_ | refine SW.st (pE rfl) rfl ?_)
      | exact h.out)) : g := hg ⟨h⟩

theorem Ws {g T : Prop} (h : T) (hg : BR T → g := by
    intro h
    repeat' (first
      | (show SW _ _ _ _ (⟨_, _, _, _, _, some _⟩ :: _) _ _; first | refine SW.fP rfl rfl (by with_reducible rfl) ?_ | refine SW.bU rfl rfl (by with_reducible rfl) ?_ | refine SW.gn rfl rfl (by with_reducible rfl) rfl ?_ | refine SW.kK rfl rfl (by with_reducible rfl) rfl ?_ | refine SW.nX rfl rfl (by with_reducible rfl) rfl ?_ | refine SW.ji rfl rfl rfl (by omega) ?_ | refine SW.jj rfl rfl rfl (by omega) ?_ | refine SW.gw rfl rfl rfl (by omega) ?_ | refine SW.dQ rfl rfl rfl (by omega) ?_)
      | refine SW.pure rfl rfl ?_
      | (show SW _ _ _ _ (⟨_, Op.fieldAddr _ _ _, _, _, _, none⟩ :: _) _ _; refine SW.st (aC rfl) rfl ?_)
      | (show SW _ _ _ _ (⟨_, Op.nilCheck _, _, _, _, none⟩ :: _) _ _; refine SW.st (aI rfl) rfl ?_)
      | (show SW _ _ _ _ (⟨_, Op.build _ _, _, _, _, none⟩ :: _) _ _; refine SW.st (fQ rfl rfl) rfl ?_)
      | (show SW _ _ _ _ (⟨_, Op.binOp _ _ _ _ _, _, _, _, none⟩ :: _) _ _; first | refine SW.st (kM rfl rfl (by omega) (by omega)) rfl ?_ | refine SW.st (iu rfl rfl (by omega) (by omega)) rfl ?_ | refine SW.st (iN rfl rfl (by omega) (by omega)) rfl ?_ | refine SW.st (rK rfl rfl (by omega) (by omega) (by omega)) rfl ?_ | refine SW.st (nY rfl rfl (by omega)) rfl ?_)
      | (show SW _ _ _ _ (⟨_, Op.indexAddr _ _ _, _, _, _, none⟩ :: _) _ _; refine SW.st (bj rfl rfl (by assumption) (by omega)) rfl ?_)
      | (show SW _ _ _ _ (⟨_, Op.call ⟨.builtin .len, _, _⟩, _, _, _, none⟩ :: _) _ _; refine SW.st (eQ rfl) rfl ?_)
      | (show SW _ _ _ _ (⟨_, Op.call ⟨.builtin .cap, _, _⟩, _, _, _, none⟩ :: _) _ _; refine SW.st (rQ rfl) rfl ?_)
      | (show SW _ _ _ _ (⟨_, Op.load _ _, _, _, _, none⟩ :: _) _ _; first | refine SW.st (rT rfl) rfl ?_ | refine SW.st (pE rfl) rfl ?_)
      | exact h.out)) : g := hg ⟨h⟩

theorem Wa {g T : Prop} (h : T) (hg : BR T → g := by
    intro h
    repeat' (first
      | (refine SA.take 0 (by assumption) rfl (by decide +kernel) (by decide +kernel) rfl ?_; refine Ws ?_; refine SW.ah ?_)
      | (refine SA.take 1 (by assumption) rfl (by decide +kernel) (by decide +kernel) rfl ?_; refine Ws ?_; refine SW.ah ?_)
      | (refine SA.take 2 (by assumption) rfl (by decide +kernel) (by decide +kernel) rfl ?_; refine Ws ?_; refine SW.ah ?_)
      | (refine SA.take 3 (by assumption) rfl (by decide +kernel) (by decide +kernel) rfl ?_; refine Ws ?_; refine SW.ah ?_)
      | (refine SA.take 4 (by assumption) rfl (by decide +kernel) (by decide +kernel) rfl ?_; refine Ws ?_; refine SW.ah ?_)
      | (refine SA.take 5 (by assumption) rfl (by decide +kernel) (by decide +kernel) rfl ?_; refine Ws ?_; refine SW.ah ?_)
      | (refine SA.take 6 (by assumption) rfl (by decide +kernel) (by decide +kernel) rfl ?_; refine Ws ?_; refine SW.ah ?_)
      | (refine SA.take 7 (by assumption) rfl (by decide +kernel) (by decide +kernel) rfl ?_; refine Ws ?_; refine SW.ah ?_)
      | (refine SA.take 8 (by assumption) rfl (by decide +kernel) (by decide +kernel) rfl ?_; refine Ws ?_; refine SW.ah ?_)
      | (refine SA.take 9 (by assumption) rfl (by decide +kernel) (by decide +kernel) rfl ?_; refine Ws ?_; refine SW.ah ?_)
      | (refine SA.take 10 (by assumption) rfl (by decide +kernel) (by decide +kernel) rfl ?_; refine Ws ?_; refine SW.ah ?_)
      | (refine SA.take 11 (by assumption) rfl (by decide +kernel) (by decide +kernel) rfl ?_; refine Ws ?_; refine SW.ah ?_)
      | (refine SA.take 12 (by assumption) rfl (by decide +kernel) (by decide +kernel) rfl ?_; refine Ws ?_; refine SW.ah ?_)
      | (refine SA.take 13 (by assumption) rfl (by decide +kernel) (by decide +kernel) rfl ?_; refine Ws ?_; refine SW.ah ?_)
      | (refine SA.take 14 (by assumption) rfl (by decide +kernel) (by decide +kernel) rfl ?_; refine Ws ?_; refine SW.ah ?_)
      | (refine SA.take 15 (by assumption) rfl (by decide +kernel) (by decide +kernel) rfl ?_; refine Ws ?_; refine SW.ah ?_)
      | (refine SA.take 16 (by assumption) rfl (by decide +kernel) (by decide +kernel) rfl ?_; refine Ws ?_; refine SW.ah ?_)
      | (refine SA.take 17 (by assumption) rfl (by decide +kernel) (by decide +kernel) rfl ?_; refine Ws ?_; refine SW.ah ?_)
      | (refine SA.take 18 (by assumption) rfl (by decide +kernel) (by decide +kernel) rfl ?_; refine Ws ?_; refine SW.ah ?_)
      | (refine SA.take 19 (by assumption) rfl (by decide +kernel) (by decide +kernel) rfl ?_; refine Ws ?_; refine SW.ah ?_)
      | (refine SA.take 20 (by assumption) rfl (by decide +kernel) (by decide +kernel) rfl ?_; refine Ws ?_; refine SW.ah ?_)
      | (refine SA.take 21 (by assumption) rfl (by decide +kernel) (by decide +kernel) rfl ?_; refine Ws ?_; refine SW.ah ?_)
      | (refine SA.take 22 (by assumption) rfl (by decide +kernel) (by decide +kernel) rfl ?_; refine Ws ?_; refine SW.ah ?_)
      | (refine SA.take 23 (by assumption) rfl (by decide +kernel) (by decide +kernel) rfl ?_; refine Ws ?_; refine SW.ah ?_)
      | (refine SA.take 24 (by assumption) rfl (by decide +kernel) (by decide +kernel) rfl ?_; refine Ws ?_; refine SW.ah ?_)
      | (refine SA.take 25 (by assumption) rfl (by decide +kernel) (by decide +kernel) rfl ?_; refine Ws ?_; refine SW.ah ?_)
      | (refine SA.take 26 (by assumption) rfl (by decide +kernel) (by decide +kernel) rfl ?_; refine Ws ?_; refine SW.ah ?_)
      | (refine SA.take 27 (by assumption) rfl (by decide +kernel) (by decide +kernel) rfl ?_; refine Ws ?_; refine SW.ah ?_)
      | (refine SA.take 28 (by assumption) rfl (by decide +kernel) (by decide +kernel) rfl ?_; refine Ws ?_; refine SW.ah ?_)
      | (refine SA.take 29 (by assumption) rfl (by decide +kernel) (by decide +kernel) rfl ?_; refine Ws ?_; refine SW.ah ?_)
      | exact h.out)) : g := hg ⟨h⟩

theorem Wf {g T : Prop} (h : T) (hg : BR T → g := by
    intro h
    repeat' (first
      | (refine SF.dY 0 (by assumption) rfl (by decide +kernel) (by decide +kernel) (by decide +kernel) ?_; refine Ws ?_; refine SW.ah ?_)
      | (refine SF.dY 1 (by assumption) rfl (by decide +kernel) (by decide +kernel) (by decide +kernel) ?_; refine Ws ?_; refine SW.ah ?_)
      | (refine SF.dY 2 (by assumption) rfl (by decide +kernel) (by decide +kernel) (by decide +kernel) ?_; refine Ws ?_; refine SW.ah ?_)
      | (refine SF.dY 3 (by assumption) rfl (by decide +kernel) (by decide +kernel) (by decide +kernel) ?_; refine Ws ?_; refine SW.ah ?_)
      | (refine SF.dY 4 (by assumption) rfl (by decide +kernel) (by decide +kernel) (by decide +kernel) ?_; refine Ws ?_; refine SW.ah ?_)
      | (refine SF.dY 5 (by assumption) rfl (by decide +kernel) (by decide +kernel) (by decide +kernel) ?_; refine Ws ?_; refine SW.ah ?_)
      | (refine SF.dY 6 (by assumption) rfl (by decide +kernel) (by decide +kernel) (by decide +kernel) ?_; refine Ws ?_; refine SW.ah ?_)
      | (refine SF.dY 7 (by assumption) rfl (by decide +kernel) (by decide +kernel) (by decide +kernel) ?_; refine Ws ?_; refine SW.ah ?_)
      | (refine SF.dY 8 (by assumption) rfl (by decide +kernel) (by decide +kernel) (by decide +kernel) ?_; refine Ws ?_; refine SW.ah ?_)
      | (refine SF.dY 9 (by assumption) rfl (by decide +kernel) (by decide +kernel) (by decide +kernel) ?_; refine Ws ?_; refine SW.ah ?_)
      | (refine SF.dY 10 (by assumption) rfl (by decide +kernel) (by decide +kernel) (by decide +kernel) ?_; refine Ws ?_; refine SW.ah ?_)
      | (refine SF.dY 11 (by assumption) rfl (by decide +kernel) (by decide +kernel) (by decide +kernel) ?_; refine Ws ?_; refine SW.ah ?_)
      | (refine SF.dY 12 (by assumption) rfl (by decide +kernel) (by decide +kernel) (by decide +kernel) ?_; refine Ws ?_; refine SW.ah ?_)
      | (refine SF.dY 13 (by assumption) rfl (by decide +kernel) (by decide +kernel) (by decide +kernel) ?_; refine Ws ?_; refine SW.ah ?_)
      | (refine SF.dY 14 (by assumption) rfl (by decide +kernel) (by decide +kernel) (by decide +kernel) ?_; refine Ws ?_; refine SW.ah ?_)
      | (refine SF.dY 15 (by assumption) rfl (by decide +kernel) (by decide +kernel) (by decide +kernel) ?_; refine Ws ?_; refine SW.ah ?_)
      | (refine SF.dY 16 (by assumption) rfl (by decide +kernel) (by decide +kernel) (by decide +kernel) ?_; refine Ws ?_; refine SW.ah ?_)
      | (refine SF.dY 17 (by assumption) rfl (by decide +kernel) (by decide +kernel) (by decide +kernel) ?_; refine Ws ?_; refine SW.ah ?_)
      | (refine SF.dY 18 (by assumption) rfl (by decide +kernel) (by decide +kernel) (by decide +kernel) ?_; refine Ws ?_; refine SW.ah ?_)
      | (refine SF.dY 19 (by assumption) rfl (by decide +kernel) (by decide +kernel) (by decide +kernel) ?_; refine Ws ?_; refine SW.ah ?_)
      | (refine SF.dY 20 (by assumption) rfl (by decide +kernel) (by decide +kernel) (by decide +kernel) ?_; refine Ws ?_; refine SW.ah ?_)
      | (refine SF.dY 21 (by assumption) rfl (by decide +kernel) (by decide +kernel) (by decide +kernel) ?_; refine Ws ?_; refine SW.ah ?_)
      | (refine SF.dY 22 (by assumption) rfl (by decide +kernel) (by decide +kernel) (by decide +kernel) ?_; refine Ws ?_; refine SW.ah ?_)
      | (refine SF.dY 23 (by assumption) rfl (by decide +kernel) (by decide +kernel) (by decide +kernel) ?_; refine Ws ?_; refine SW.ah ?_)
      | (refine SF.dY 24 (by assumption) rfl (by decide +kernel) (by decide +kernel) (by decide +kernel) ?_; refine Ws ?_; refine SW.ah ?_)
      | (refine SF.dY 25 (by assumption) rfl (by decide +kernel) (by decide +kernel) (by decide +kernel) ?_; refine Ws ?_; refine SW.ah ?_)
      | (refine SF.dY 26 (by assumption) rfl (by decide +kernel) (by decide +kernel) (by decide +kernel) ?_; refine Ws ?_; refine SW.ah ?_)
      | (refine SF.dY 27 (by assumption) rfl (by decide +kernel) (by decide +kernel) (by decide +kernel) ?_; refine Ws ?_; refine SW.ah ?_)
      | (refine SF.dY 28 (by assumption) rfl (by decide +kernel) (by decide +kernel) (by decide +kernel) ?_; refine Ws ?_; refine SW.ah ?_)
      | (refine SF.dY 29 (by assumption) rfl (by decide +kernel) (by decide +kernel) (by decide +kernel) ?_; refine Ws ?_; refine SW.ah ?_)
      | exact h.out)) : g := hg ⟨h⟩

theorem Wy {g T : Prop} (h : T) (hg : BR T → g := by
    intro h
    (first
      | (show CW _ _ _ _ _ _; first | refine CW.seq ?_ | refine CW.region ?_ | refine CW.block ?_ | refine CW.kL rfl (by with_reducible rfl) ?_ | refine CW.rI rfl (by with_reducible rfl) ?_ | refine CW.iY rfl (by omega) ?_ | refine CW.im rfl (by omega) ?_ | refine CW.nf rfl (by omega) ?_ | refine CW.oE rfl (by omega) ?_ | refine CW.skip ?_ | refine CW.ret ?_ | refine CW.exit ?_)
      | (show ae _ _ _ _ _; first | refine ae.seq ?_ | refine ae.fF ?_ | refine ae.il ?_ | refine ae.hit ?_ | refine ae.pass rfl ?_ | refine ae.cU ?_ | refine ae.iq ?_ | refine ae.fh ?_ | refine ae.eK ?_ | refine ae.np ?_)
      | refine SW.nil ?_
      | (show SW _ _ _ _ (⟨_, _, _, _, _, some _⟩ :: _) _ _; first | refine SW.fP rfl rfl (by with_reducible rfl) ?_ | refine SW.bU rfl rfl (by with_reducible rfl) ?_ | refine SW.gn rfl rfl (by with_reducible rfl) rfl ?_ | refine SW.kK rfl rfl (by with_reducible rfl) rfl ?_ | refine SW.nX rfl rfl (by with_reducible rfl) rfl ?_ | refine SW.ji rfl rfl rfl (by omega) ?_ | refine SW.jj rfl rfl rfl (by omega) ?_ | refine SW.gw rfl rfl rfl (by omega) ?_ | refine SW.dQ rfl rfl rfl (by omega) ?_)
      | refine SW.pure rfl rfl ?_
      | (show SW _ _ _ _ (⟨_, Op.fieldAddr _ _ _, _, _, _, none⟩ :: _) _ _; refine SW.st (aC rfl) rfl ?_)
      | (show SW _ _ _ _ (⟨_, Op.nilCheck _, _, _, _, none⟩ :: _) _ _; refine SW.st (aI rfl) rfl ?_)
      | (show SW _ _ _ _ (⟨_, Op.build _ _, _, _, _, none⟩ :: _) _ _; refine SW.st (fQ rfl rfl) rfl ?_)
      | (show SW _ _ _ _ (⟨_, Op.binOp _ _ _ _ _, _, _, _, none⟩ :: _) _ _; first | refine SW.st (kM rfl rfl (by omega) (by omega)) rfl ?_ | refine SW.st (iu rfl rfl (by omega) (by omega)) rfl ?_ | refine SW.st (iN rfl rfl (by omega) (by omega)) rfl ?_ | refine SW.st (rK rfl rfl (by omega) (by omega) (by omega)) rfl ?_ | refine SW.st (nY rfl rfl (by omega)) rfl ?_)
      | (show SW _ _ _ _ (⟨_, Op.indexAddr _ _ _, _, _, _, none⟩ :: _) _ _; refine SW.st (bj rfl rfl (by assumption) (by omega)) rfl ?_)
      | (show SW _ _ _ _ (⟨_, Op.call ⟨.builtin .len, _, _⟩, _, _, _, none⟩ :: _) _ _; refine SW.st (eQ rfl) rfl ?_)
      | (show SW _ _ _ _ (⟨_, Op.call ⟨.builtin .cap, _, _⟩, _, _, _, none⟩ :: _) _ _; refine SW.st (rQ rfl) rfl ?_))
    repeat' (first
      | (show CW _ _ _ _ _ _; first | refine CW.seq ?_ | refine CW.region ?_ | refine CW.block ?_ | refine CW.kL rfl (by with_reducible rfl) ?_ | refine CW.rI rfl (by with_reducible rfl) ?_ | refine CW.iY rfl (by omega) ?_ | refine CW.im rfl (by omega) ?_ | refine CW.nf rfl (by omega) ?_ | refine CW.oE rfl (by omega) ?_ | refine CW.skip ?_ | refine CW.ret ?_ | refine CW.exit ?_)
      | (show ae _ _ _ _ _; first | refine ae.seq ?_ | refine ae.fF ?_ | refine ae.il ?_ | refine ae.hit ?_ | refine ae.pass rfl ?_ | refine ae.cU ?_ | refine ae.iq ?_ | refine ae.fh ?_ | refine ae.eK ?_ | refine ae.np ?_)
      | refine SW.nil ?_
      | (show SW _ _ _ _ (⟨_, _, _, _, _, some _⟩ :: _) _ _; first | refine SW.fP rfl rfl (by with_reducible rfl) ?_ | refine SW.bU rfl rfl (by with_reducible rfl) ?_ | refine SW.gn rfl rfl (by with_reducible rfl) rfl ?_ | refine SW.kK rfl rfl (by with_reducible rfl) rfl ?_ | refine SW.nX rfl rfl (by with_reducible rfl) rfl ?_ | refine SW.ji rfl rfl rfl (by omega) ?_ | refine SW.jj rfl rfl rfl (by omega) ?_ | refine SW.gw rfl rfl rfl (by omega) ?_ | refine SW.dQ rfl rfl rfl (by omega) ?_)
      | refine SW.pure rfl rfl ?_
      | (show SW _ _ _ _ (⟨_, Op.fieldAddr _ _ _, _, _, _, none⟩ :: _) _ _; refine SW.st (aC rfl) rfl ?_)
      | (show SW _ _ _ _ (⟨_, Op.nilCheck _, _, _, _, none⟩ :: _) _ _; refine SW.st (aI rfl) rfl ?_)
      | (show SW _ _ _ _ (⟨_, Op.build _ _, _, _, _, none⟩ :: _) _ _; refine SW.st (fQ rfl rfl) rfl ?_)
      | (show SW _ _ _ _ (⟨_, Op.binOp _ _ _ _ _, _, _, _, none⟩ :: _) _ _; first | refine SW.st (kM rfl rfl (by omega) (by omega)) rfl ?_ | refine SW.st (iu rfl rfl (by omega) (by omega)) rfl ?_ | refine SW.st (iN rfl rfl (by omega) (by omega)) rfl ?_ | refine SW.st (rK rfl rfl (by omega) (by omega) (by omega)) rfl ?_ | refine SW.st (nY rfl rfl (by omega)) rfl ?_)
      | (show SW _ _ _ _ (⟨_, Op.indexAddr _ _ _, _, _, _, none⟩ :: _) _ _; refine SW.st (bj rfl rfl (by assumption) (by omega)) rfl ?_)
      | (show SW _ _ _ _ (⟨_, Op.call ⟨.builtin .len, _, _⟩, _, _, _, none⟩ :: _) _ _; refine SW.st (eQ rfl) rfl ?_)
      | (show SW _ _ _ _ (⟨_, Op.call ⟨.builtin .cap, _, _⟩, _, _, _, none⟩ :: _) _ _; refine SW.st (rQ rfl) rfl ?_)
      | exact h.out)) : g := hg ⟨h⟩
instance:gk Tryz.prog 3:=⟨by kernel_rfl,by kernel_rfl⟩
instance:dg Tryz.prog 3 (.int .i64 0) 1 8:=⟨by kernel_rfl,by kernel_rfl,by decide⟩
instance:gk Tryz.prog 4:=⟨by kernel_rfl,by kernel_rfl⟩
instance:dg Tryz.prog 4 (.bool false) 1 1:=⟨by kernel_rfl,by kernel_rfl,by decide⟩
instance:gk Tryz.prog 5:=⟨by kernel_rfl,by kernel_rfl⟩
instance:gk Tryz.prog 9:=⟨by kernel_rfl,by kernel_rfl⟩
instance:dg Tryz.prog 9 (.string ByteArray.empty) 1 16:=⟨by kernel_rfl,by kernel_rfl,by decide⟩
instance:gk Tryz.prog 22:=⟨by kernel_rfl,by kernel_rfl⟩
instance:bw Tryz.prog 22 3 1:=⟨by kernel_rfl,by kernel_rfl⟩
instance:gk Tryz.prog 23:=⟨by kernel_rfl,by kernel_rfl⟩
instance:bw Tryz.prog 23 59 4:=⟨by kernel_rfl,by kernel_rfl⟩
instance:gk Tryz.prog 24:=⟨by kernel_rfl,by kernel_rfl⟩
instance:bw Tryz.prog 24 62 4:=⟨by kernel_rfl,by kernel_rfl⟩
instance:gk Tryz.prog 25:=⟨by kernel_rfl,by kernel_rfl⟩
instance:dg Tryz.prog 25 (.slice none 0 0) 1 24:=⟨by kernel_rfl,by kernel_rfl,by decide⟩
instance:bw Tryz.prog 25 77 3:=⟨by kernel_rfl,by kernel_rfl⟩
instance:dg Tryz.prog 27 (.agg #[.slice none 0 0,.slice none 0 0,.int .i64 0,.slice none 0 0,.slice none 0 0]) 5 104:=⟨by kernel_rfl,by kernel_rfl,by decide⟩
instance:gV Tryz.prog 27 5:=⟨by kernel_rfl,by kernel_rfl⟩
instance:ku Tryz.prog 27 [(0,1),(1,1),(2,1),(3,1),(4,1)] [.slice none 0 0,.slice none 0 0,.int .i64 0,.slice none 0 0,.slice none 0 0]:=⟨by kernel_rfl,by kernel_rfl⟩
instance:cg Tryz.prog 27 0 0 23:=⟨by kernel_rfl,by kernel_rfl⟩
instance:cg Tryz.prog 27 1 1 22:=⟨by kernel_rfl,by kernel_rfl⟩
instance:cg Tryz.prog 27 2 2 3:=⟨by kernel_rfl,by kernel_rfl⟩
instance:cg Tryz.prog 27 3 3 24:=⟨by kernel_rfl,by kernel_rfl⟩
instance:cg Tryz.prog 27 4 4 25:=⟨by kernel_rfl,by kernel_rfl⟩
instance:gk Tryz.prog 28:=⟨by kernel_rfl,by kernel_rfl⟩
instance:bw Tryz.prog 28 46 6:=⟨by kernel_rfl,by kernel_rfl⟩
instance:dg Tryz.prog 30 (.agg #[.slice none 0 0,.slice none 0 0,.slice none 0 0,.int .i64 0,.slice none 0 0,.slice none 0 0,.slice none 0 0]) 7 152:=⟨by kernel_rfl,by kernel_rfl,by decide⟩
instance:gV Tryz.prog 30 7:=⟨by kernel_rfl,by kernel_rfl⟩
instance:ku Tryz.prog 30 [(0,1),(1,5),(6,1)] [.slice none 0 0,.slice none 0 0,.slice none 0 0,.int .i64 0,.slice none 0 0,.slice none 0 0,.slice none 0 0]:=⟨by kernel_rfl,by kernel_rfl⟩
instance:cg Tryz.prog 30 0 0 22:=⟨by kernel_rfl,by kernel_rfl⟩
instance:cg Tryz.prog 30 1 1 27:=⟨by kernel_rfl,by kernel_rfl⟩
instance:cg Tryz.prog 30 2 6 28:=⟨by kernel_rfl,by kernel_rfl⟩
instance:gk Tryz.prog 43:=⟨by kernel_rfl,by kernel_rfl⟩
instance:bw Tryz.prog 43 9 1:=⟨by kernel_rfl,by kernel_rfl⟩
instance:gk Tryz.prog 44:=⟨by kernel_rfl,by kernel_rfl⟩
instance:bw Tryz.prog 44 48 3:=⟨by kernel_rfl,by kernel_rfl⟩
instance:dg Tryz.prog 46 (.agg #[.slice none 0 0,.int .i64 0,.int .i64 0,.int .i64 0,.slice none 0 0,.slice none 0 0]) 6 96:=⟨by kernel_rfl,by kernel_rfl,by decide⟩
instance:gV Tryz.prog 46 6:=⟨by kernel_rfl,by kernel_rfl⟩
instance:cg Tryz.prog 46 0 0 43:=⟨by kernel_rfl,by kernel_rfl⟩
instance:cg Tryz.prog 46 1 1 3:=⟨by kernel_rfl,by kernel_rfl⟩
instance:cg Tryz.prog 46 2 2 3:=⟨by kernel_rfl,by kernel_rfl⟩
instance:cg Tryz.prog 46 3 3 3:=⟨by kernel_rfl,by kernel_rfl⟩
instance:cg Tryz.prog 46 4 4 44:=⟨by kernel_rfl,by kernel_rfl⟩
instance:cg Tryz.prog 46 5 5 22:=⟨by kernel_rfl,by kernel_rfl⟩
instance:dg Tryz.prog 48 (.agg #[.int .i64 0,.int .i64 0,.int .i64 0]) 3 24:=⟨by kernel_rfl,by kernel_rfl,by decide⟩
instance:gV Tryz.prog 48 3:=⟨by kernel_rfl,by kernel_rfl⟩
instance:ku Tryz.prog 48 [(0,1),(1,1),(2,1)] [.int .i64 0,.int .i64 0,.int .i64 0]:=⟨by kernel_rfl,by kernel_rfl⟩
instance:rS Tryz.prog 48 3:=⟨by kernel_rfl,by kernel_rfl,by kernel_rfl,by kernel_rfl⟩
instance:cg Tryz.prog 48 0 0 3:=⟨by kernel_rfl,by kernel_rfl⟩
instance:cg Tryz.prog 48 1 1 3:=⟨by kernel_rfl,by kernel_rfl⟩
instance:cg Tryz.prog 48 2 2 3:=⟨by kernel_rfl,by kernel_rfl⟩
instance:dg Tryz.prog 59 (.agg #[.int .i64 0,.int .i64 0,.slice none 0 0,.slice none 0 0]) 4 64:=⟨by kernel_rfl,by kernel_rfl,by decide⟩
instance:gV Tryz.prog 59 4:=⟨by kernel_rfl,by kernel_rfl⟩
instance:ku Tryz.prog 59 [(0,1),(1,1),(2,1),(3,1)] [.int .i64 0,.int .i64 0,.slice none 0 0,.slice none 0 0]:=⟨by kernel_rfl,by kernel_rfl⟩
instance:cg Tryz.prog 59 0 0 3:=⟨by kernel_rfl,by kernel_rfl⟩
instance:cg Tryz.prog 59 1 1 3:=⟨by kernel_rfl,by kernel_rfl⟩
instance:cg Tryz.prog 59 2 2 25:=⟨by kernel_rfl,by kernel_rfl⟩
instance:cg Tryz.prog 59 3 3 22:=⟨by kernel_rfl,by kernel_rfl⟩
instance:dg Tryz.prog 62 (.agg #[.int .i64 0,.int .i64 0,.int .i64 0,.slice none 0 0]) 4 48:=⟨by kernel_rfl,by kernel_rfl,by decide⟩
instance:gV Tryz.prog 62 4:=⟨by kernel_rfl,by kernel_rfl⟩
instance:ku Tryz.prog 62 [(0,1),(1,1),(2,1),(3,1)] [.int .i64 0,.int .i64 0,.int .i64 0,.slice none 0 0]:=⟨by kernel_rfl,by kernel_rfl⟩
instance:cg Tryz.prog 62 0 0 3:=⟨by kernel_rfl,by kernel_rfl⟩
instance:cg Tryz.prog 62 1 1 3:=⟨by kernel_rfl,by kernel_rfl⟩
instance:cg Tryz.prog 62 2 2 3:=⟨by kernel_rfl,by kernel_rfl⟩
instance:cg Tryz.prog 62 3 3 22:=⟨by kernel_rfl,by kernel_rfl⟩
instance:dg Tryz.prog 77 (.agg #[.int .i64 0,.int .i64 0,.int .i64 0]) 3 24:=⟨by kernel_rfl,by kernel_rfl,by decide⟩
instance:gV Tryz.prog 77 3:=⟨by kernel_rfl,by kernel_rfl⟩
instance:ku Tryz.prog 77 [(0,1),(1,1),(2,1)] [.int .i64 0,.int .i64 0,.int .i64 0]:=⟨by kernel_rfl,by kernel_rfl⟩
instance:rS Tryz.prog 77 3:=⟨by kernel_rfl,by kernel_rfl,by kernel_rfl,by kernel_rfl⟩
instance:cg Tryz.prog 77 0 0 3:=⟨by kernel_rfl,by kernel_rfl⟩
instance:cg Tryz.prog 77 1 1 3:=⟨by kernel_rfl,by kernel_rfl⟩
instance:cg Tryz.prog 77 2 2 3:=⟨by kernel_rfl,by kernel_rfl⟩
instance:gk Tryz.prog 89:=⟨by kernel_rfl,by kernel_rfl⟩
instance:dg Tryz.prog 89 (.pointer none) 1 8:=⟨by kernel_rfl,by kernel_rfl,by decide⟩
instance:wg Tryz.prog 103 256 4 1:=⟨by kernel_rfl,by kernel_rfl⟩
instance:ku Tryz.prog 105 [(0,256),(256,1)] [.bool false,.bool false,.bool false,.bool false,.bool false,.bool false,.bool false,.bool false,.bool false,.bool false,.bool false,.bool false,.bool false,.bool false,.bool false,.bool false,.bool false,.bool false,.bool false,.bool false,.bool false,.bool false,.bool false,.bool false,.bool false,.bool false,.bool false,.bool false,.bool false,.bool false,.bool false,.bool false,.bool false,.bool false,.bool false,.bool false,.bool false,.bool false,.bool false,.bool false,.bool false,.bool false,.bool false,.bool false,.bool false,.bool false,.bool false,.bool false,.bool false,.bool false,.bool false,.bool false,.bool false,.bool false,.bool false,.bool false,.bool false,.bool false,.bool false,.bool false,.bool false,.bool false,.bool false,.bool false,.bool false,.bool false,.bool false,.bool false,.bool false,.bool false,.bool false,.bool false,.bool false,.bool false,.bool false,.bool false,.bool false,.bool false,.bool false,.bool false,.bool false,.bool false,.bool false,.bool false,.bool false,.bool false,.bool false,.bool false,.bool false,.bool false,.bool false,.bool false,.bool false,.bool false,.bool false,.bool false,.bool false,.bool false,.bool false,.bool false,.bool false,.bool false,.bool false,.bool false,.bool false,.bool false,.bool false,.bool false,.bool false,.bool false,.bool false,.bool false,.bool false,.bool false,.bool false,.bool false,.bool false,.bool false,.bool false,.bool false,.bool false,.bool false,.bool false,.bool false,.bool false,.bool false,.bool false,.bool false,.bool false,.bool false,.bool false,.bool false,.bool false,.bool false,.bool false,.bool false,.bool false,.bool false,.bool false,.bool false,.bool false,.bool false,.bool false,.bool false,.bool false,.bool false,.bool false,.bool false,.bool false,.bool false,.bool false,.bool false,.bool false,.bool false,.bool false,.bool false,.bool false,.bool false,.bool false,.bool false,.bool false,.bool false,.bool false,.bool false,.bool false,.bool false,.bool false,.bool false,.bool false,.bool false,.bool false,.bool false,.bool false,.bool false,.bool false,.bool false,.bool false,.bool false,.bool false,.bool false,.bool false,.bool false,.bool false,.bool false,.bool false,.bool false,.bool false,.bool false,.bool false,.bool false,.bool false,.bool false,.bool false,.bool false,.bool false,.bool false,.bool false,.bool false,.bool false,.bool false,.bool false,.bool false,.bool false,.bool false,.bool false,.bool false,.bool false,.bool false,.bool false,.bool false,.bool false,.bool false,.bool false,.bool false,.bool false,.bool false,.bool false,.bool false,.bool false,.bool false,.bool false,.bool false,.bool false,.bool false,.bool false,.bool false,.bool false,.bool false,.bool false,.bool false,.bool false,.bool false,.bool false,.bool false,.bool false,.bool false,.bool false,.bool false,.bool false,.bool false,.bool false,.bool false,.bool false,.bool false,.bool false,.bool false,.bool false,.bool false,.bool false,.bool false,.bool false,.bool false,.bool false,.bool false,.bool false,.bool false,.bool false]:=⟨by kernel_rfl,by kernel_rfl⟩
instance:cg Tryz.prog 105 0 0 103:=⟨by kernel_rfl,by kernel_rfl⟩
instance:cg Tryz.prog 105 1 256 4:=⟨by kernel_rfl,by kernel_rfl⟩
instance:bw Tryz.prog 115 5 1:=⟨by kernel_rfl,by kernel_rfl⟩
instance:bw Tryz.prog 159 4 1:=⟨by kernel_rfl,by kernel_rfl⟩
instance:wg Tryz.prog 167 2 3 1:=⟨by kernel_rfl,by kernel_rfl⟩
instance:gV Tryz.prog 167 2:=⟨by kernel_rfl,by kernel_rfl⟩
instance:wg Tryz.prog 168 3 167 2:=⟨by kernel_rfl,by kernel_rfl⟩
instance:Body Tryz.prog 5:=aD Tryz.func5 (by kernel_rfl) (by kernel_rfl)
instance:Body Tryz.prog 6:=aD Tryz.func6 (by kernel_rfl) (by kernel_rfl)
instance:Body Tryz.prog 7:=aD Tryz.func7 (by kernel_rfl) (by kernel_rfl)
instance:Body Tryz.prog 8:=aD Tryz.func8 (by kernel_rfl) (by kernel_rfl)
instance:Body Tryz.prog 11:=aD Tryz.func11 (by kernel_rfl) (by kernel_rfl)
instance:Body Tryz.prog 12:=aD Tryz.func12 (by kernel_rfl) (by kernel_rfl)
instance:Body Tryz.prog 13:=aD Tryz.func13 (by kernel_rfl) (by kernel_rfl)
instance:Body Tryz.prog 14:=aD Tryz.func14 (by kernel_rfl) (by kernel_rfl)
instance:Body Tryz.prog 15:=aD Tryz.func15 (by kernel_rfl) (by kernel_rfl)
instance:Body Tryz.prog 16:=aD Tryz.func16 (by kernel_rfl) (by kernel_rfl)
instance:Body Tryz.prog 17:=aD Tryz.func17 (by kernel_rfl) (by kernel_rfl)
instance:Body Tryz.prog 18:=aD Tryz.func18 (by kernel_rfl) (by kernel_rfl)
instance:Body Tryz.prog 19:=aD Tryz.func19 (by kernel_rfl) (by kernel_rfl)
instance:Body Tryz.prog 20:=aD Tryz.func20 (by kernel_rfl) (by kernel_rfl)
instance:Body Tryz.prog 21:=aD Tryz.func21 (by kernel_rfl) (by kernel_rfl)
instance:Body Tryz.prog 22:=aD Tryz.func22 (by kernel_rfl) (by kernel_rfl)
instance:Body Tryz.prog 23:=aD Tryz.func23 (by kernel_rfl) (by kernel_rfl)
instance:Body Tryz.prog 24:=aD Tryz.func24 (by kernel_rfl) (by kernel_rfl)
instance:Body Tryz.prog 25:=aD Tryz.func25 (by kernel_rfl) (by kernel_rfl)
instance:Body Tryz.prog 26:=aD Tryz.func26 (by kernel_rfl) (by kernel_rfl)
instance:Body Tryz.prog 27:=aD Tryz.func27 (by kernel_rfl) (by kernel_rfl)
instance:Body Tryz.prog 28:=aD Tryz.func28 (by kernel_rfl) (by kernel_rfl)
instance:Body Tryz.prog 29:=aD Tryz.func29 (by kernel_rfl) (by kernel_rfl)
instance:Body Tryz.prog 30:=aD Tryz.func30 (by kernel_rfl) (by kernel_rfl)
instance:Body Tryz.prog 31:=aD Tryz.func31 (by kernel_rfl) (by kernel_rfl)
instance:Body Tryz.prog 32:=aD Tryz.func32 (by kernel_rfl) (by kernel_rfl)
instance:Body Tryz.prog 33:=aD Tryz.func33 (by kernel_rfl) (by kernel_rfl)
instance:Body Tryz.prog 34:=aD Tryz.func34 (by kernel_rfl) (by kernel_rfl)
instance:Body Tryz.prog 35:=aD Tryz.func35 (by kernel_rfl) (by kernel_rfl)
instance:Body Tryz.prog 36:=aD Tryz.func36 (by kernel_rfl) (by kernel_rfl)
instance:Body Tryz.prog 37:=aD Tryz.func37 (by kernel_rfl) (by kernel_rfl)
instance:Body Tryz.prog 38:=aD Tryz.func38 (by kernel_rfl) (by kernel_rfl)
instance:Body Tryz.prog 39:=aD Tryz.func39 (by kernel_rfl) (by kernel_rfl)
instance:Body Tryz.prog 40:=aD Tryz.func40 (by kernel_rfl) (by kernel_rfl)
instance:Body Tryz.prog 41:=aD Tryz.func41 (by kernel_rfl) (by kernel_rfl)
instance:Body Tryz.prog 42:=aD Tryz.func42 (by kernel_rfl) (by kernel_rfl)
instance:Body Tryz.prog 43:=aD Tryz.func43 (by kernel_rfl) (by kernel_rfl)
instance:Body Tryz.prog 44:=aD Tryz.func44 (by kernel_rfl) (by kernel_rfl)
instance:Body Tryz.prog 45:=aD Tryz.func45 (by kernel_rfl) (by kernel_rfl)
instance:Body Tryz.prog 46:=aD Tryz.func46 (by kernel_rfl) (by kernel_rfl)
instance:Body Tryz.prog 47:=aD Tryz.func47 (by kernel_rfl) (by kernel_rfl)
instance:Body Tryz.prog 48:=aD Tryz.func48 (by kernel_rfl) (by kernel_rfl)
instance:Body Tryz.prog 49:=aD Tryz.func49 (by kernel_rfl) (by kernel_rfl)
instance:Body Tryz.prog 50:=aD Tryz.func50 (by kernel_rfl) (by kernel_rfl)
instance:Body Tryz.prog 51:=aD Tryz.func51 (by kernel_rfl) (by kernel_rfl)
instance:Body Tryz.prog 52:=aD Tryz.func52 (by kernel_rfl) (by kernel_rfl)
instance:Body Tryz.prog 53:=aD Tryz.func53 (by kernel_rfl) (by kernel_rfl)
instance:Body Tryz.prog 54:=aD Tryz.func54 (by kernel_rfl) (by kernel_rfl)
instance:Body Tryz.prog 55:=aD Tryz.func55 (by kernel_rfl) (by kernel_rfl)
instance:Body Tryz.prog 56:=aD Tryz.func56 (by kernel_rfl) (by kernel_rfl)
instance:Body Tryz.prog 57:=aD Tryz.func57 (by kernel_rfl) (by kernel_rfl)
instance:Body Tryz.prog 58:=aD Tryz.func58 (by kernel_rfl) (by kernel_rfl)
instance:Body Tryz.prog 59:=aD Tryz.func59 (by kernel_rfl) (by kernel_rfl)
instance:Body Tryz.prog 60:=aD Tryz.func60 (by kernel_rfl) (by kernel_rfl)
instance:Body Tryz.prog 61:=aD Tryz.func61 (by kernel_rfl) (by kernel_rfl)
instance:Body Tryz.prog 62:=aD Tryz.func62 (by kernel_rfl) (by kernel_rfl)
instance:Body Tryz.prog 63:=aD Tryz.func63 (by kernel_rfl) (by kernel_rfl)
instance:Body Tryz.prog 64:=aD Tryz.func64 (by kernel_rfl) (by kernel_rfl)
instance:Body Tryz.prog 65:=aD Tryz.func65 (by kernel_rfl) (by kernel_rfl)
instance:Body Tryz.prog 66:=aD Tryz.func66 (by kernel_rfl) (by kernel_rfl)
instance:Body Tryz.prog 67:=aD Tryz.func67 (by kernel_rfl) (by kernel_rfl)
instance:Body Tryz.prog 68:=aD Tryz.func68 (by kernel_rfl) (by kernel_rfl)
instance:Body Tryz.prog 69:=aD Tryz.func69 (by kernel_rfl) (by kernel_rfl)
instance:Body Tryz.prog 70:=aD Tryz.func70 (by kernel_rfl) (by kernel_rfl)
instance:Body Tryz.prog 71:=aD Tryz.func71 (by kernel_rfl) (by kernel_rfl)
instance:Body Tryz.prog 72:=aD Tryz.func72 (by kernel_rfl) (by kernel_rfl)
instance:Body Tryz.prog 73:=aD Tryz.func73 (by kernel_rfl) (by kernel_rfl)
instance:Body Tryz.prog 74:=aD Tryz.func74 (by kernel_rfl) (by kernel_rfl)
instance:Body Tryz.prog 75:=aD Tryz.func75 (by kernel_rfl) (by kernel_rfl)
instance:Body Tryz.prog 76:=aD Tryz.func76 (by kernel_rfl) (by kernel_rfl)
instance:Body Tryz.prog 77:=aD Tryz.func77 (by kernel_rfl) (by kernel_rfl)
instance:Body Tryz.prog 78:=aD Tryz.func78 (by kernel_rfl) (by kernel_rfl)
instance:Body Tryz.prog 79:=aD Tryz.func79 (by kernel_rfl) (by kernel_rfl)
instance:Body Tryz.prog 80:=aD Tryz.func80 (by kernel_rfl) (by kernel_rfl)
instance:Body Tryz.prog 81:=aD Tryz.func81 (by kernel_rfl) (by kernel_rfl)
instance:Body Tryz.prog 82:=aD Tryz.func82 (by kernel_rfl) (by kernel_rfl)
instance:Body Tryz.prog 83:=aD Tryz.func83 (by kernel_rfl) (by kernel_rfl)
instance:Body Tryz.prog 84:=aD Tryz.func84 (by kernel_rfl) (by kernel_rfl)
instance:Body Tryz.prog 85:=aD Tryz.func85 (by kernel_rfl) (by kernel_rfl)
instance:Body Tryz.prog 86:=aD Tryz.func86 (by kernel_rfl) (by kernel_rfl)
instance:Body Tryz.prog 87:=aD Tryz.func87 (by kernel_rfl) (by kernel_rfl)
instance:Body Tryz.prog 88:=aD Tryz.func88 (by kernel_rfl) (by kernel_rfl)
instance:Body Tryz.prog 89:=aD Tryz.func89 (by kernel_rfl) (by kernel_rfl)
instance:Body Tryz.prog 90:=aD Tryz.func90 (by kernel_rfl) (by kernel_rfl)
instance:Body Tryz.prog 91:=aD Tryz.func91 (by kernel_rfl) (by kernel_rfl)
instance:Body Tryz.prog 92:=aD Tryz.func92 (by kernel_rfl) (by kernel_rfl)
instance:Body Tryz.prog 93:=aD Tryz.func93 (by kernel_rfl) (by kernel_rfl)
instance:Body Tryz.prog 94:=aD Tryz.func94 (by kernel_rfl) (by kernel_rfl)
instance:Body Tryz.prog 95:=aD Tryz.func95 (by kernel_rfl) (by kernel_rfl)
instance:Body Tryz.prog 96:=aD Tryz.func96 (by kernel_rfl) (by kernel_rfl)
instance:Body Tryz.prog 97:=aD Tryz.func97 (by kernel_rfl) (by kernel_rfl)
instance:Body Tryz.prog 98:=aD Tryz.func98 (by kernel_rfl) (by kernel_rfl)
instance:Body Tryz.prog 99:=aD Tryz.func99 (by kernel_rfl) (by kernel_rfl)
instance:Body Tryz.prog 100:=aD Tryz.func100 (by kernel_rfl) (by kernel_rfl)
instance:Body Tryz.prog 101:=aD Tryz.func101 (by kernel_rfl) (by kernel_rfl)
instance:Body Tryz.prog 102:=aD Tryz.func102 (by kernel_rfl) (by kernel_rfl)
instance:Body Tryz.prog 103:=aD Tryz.func103 (by kernel_rfl) (by kernel_rfl)
instance:Body Tryz.prog 104:=aD Tryz.func104 (by kernel_rfl) (by kernel_rfl)
instance:Body Tryz.prog 105:=aD Tryz.func105 (by kernel_rfl) (by kernel_rfl)
instance:Body Tryz.prog 106:=aD Tryz.func106 (by kernel_rfl) (by kernel_rfl)
instance:Body Tryz.prog 107:=aD Tryz.func107 (by kernel_rfl) (by kernel_rfl)
instance:Body Tryz.prog 110:=aD Tryz.func110 (by kernel_rfl) (by kernel_rfl)
instance:Body Tryz.prog 111:=aD Tryz.func111 (by kernel_rfl) (by kernel_rfl)
instance:Body Tryz.prog 112:=aD Tryz.func112 (by kernel_rfl) (by kernel_rfl)
instance:Body Tryz.prog 113:=aD Tryz.func113 (by kernel_rfl) (by kernel_rfl)
instance:Body Tryz.prog 114:=aD Tryz.func114 (by kernel_rfl) (by kernel_rfl)
instance:Body Tryz.prog 115:=aD Tryz.func115 (by kernel_rfl) (by kernel_rfl)
instance:Body Tryz.prog 116:=aD Tryz.func116 (by kernel_rfl) (by kernel_rfl)
instance:Body Tryz.prog 117:=aD Tryz.func117 (by kernel_rfl) (by kernel_rfl)
instance:Body Tryz.prog 118:=aD Tryz.func118 (by kernel_rfl) (by kernel_rfl)
instance:Body Tryz.prog 119:=aD Tryz.func119 (by kernel_rfl) (by kernel_rfl)
instance:Body Tryz.prog 120:=aD Tryz.func120 (by kernel_rfl) (by kernel_rfl)
instance:Body Tryz.prog 121:=aD Tryz.func121 (by kernel_rfl) (by kernel_rfl)
instance:Body Tryz.prog 122:=aD Tryz.func122 (by kernel_rfl) (by kernel_rfl)
instance:Body Tryz.prog 123:=aD Tryz.func123 (by kernel_rfl) (by kernel_rfl)
instance:Body Tryz.prog 124:=aD Tryz.func124 (by kernel_rfl) (by kernel_rfl)
instance:Body Tryz.prog 128:=aD Tryz.func128 (by kernel_rfl) (by kernel_rfl)
instance:Body Tryz.prog 129:=aD Tryz.func129 (by kernel_rfl) (by kernel_rfl)
instance:Body Tryz.prog 130:=aD Tryz.func130 (by kernel_rfl) (by kernel_rfl)
instance:Body Tryz.prog 131:=aD Tryz.func131 (by kernel_rfl) (by kernel_rfl)
instance:Body Tryz.prog 132:=aD Tryz.func132 (by kernel_rfl) (by kernel_rfl)
instance:Body Tryz.prog 133:=aD Tryz.func133 (by kernel_rfl) (by kernel_rfl)
instance:Body Tryz.prog 134:=aD Tryz.func134 (by kernel_rfl) (by kernel_rfl)
instance:Body Tryz.prog 137:=aD Tryz.func137 (by kernel_rfl) (by kernel_rfl)
instance:Body Tryz.prog 138:=aD Tryz.func138 (by kernel_rfl) (by kernel_rfl)
instance:Body Tryz.prog 139:=aD Tryz.func139 (by kernel_rfl) (by kernel_rfl)
instance:Body Tryz.prog 140:=aD Tryz.func140 (by kernel_rfl) (by kernel_rfl)
instance:Body Tryz.prog 141:=aD Tryz.func141 (by kernel_rfl) (by kernel_rfl)
instance:Body Tryz.prog 142:=aD Tryz.func142 (by kernel_rfl) (by kernel_rfl)
instance:Body Tryz.prog 143:=aD Tryz.func143 (by kernel_rfl) (by kernel_rfl)
instance:Body Tryz.prog 147:=aD Tryz.func147 (by kernel_rfl) (by kernel_rfl)
instance:Body Tryz.prog 148:=aD Tryz.func148 (by kernel_rfl) (by kernel_rfl)
instance:Body Tryz.prog 149:=aD Tryz.func149 (by kernel_rfl) (by kernel_rfl)
theorem mixed:Tryz.prog.follows .mixedOrders=true:=by kernel_rfl
structure Block where
 At:Int
 Order:Int
 Ty:Int
 deriving DecidableEq
structure aq where
 aW:Int
 To:Int
 ag:List Block
 Types:List Int
 deriving DecidableEq
structure aB where
 dL:Int
 aq:Int
 Ty:Int
 aw:List Int
structure Heap where
 aQ:List aq
 bH:List Int
 bW:Int
 av:List aB
 Live:List Block
structure Slab where
 At:Int
 ag:Int
 fR:Int
 deriving DecidableEq
end Go.Proofs.YtjimadiidbkohaaGreatDoor
