/-
  Texts of the claim TopProcessors, part 2: what its theorem leans on.
-/
import Derived.Test.YtbidkghlpijecaaGreatDoorPackTopProcessors1
set_option linter.unusedVariables false
set_option linter.unusedSimpArgs false
namespace Go.Proofs.YtbidkghlpijecaaGreatDoor
open Go.RowKit
def tU (P:Program) (ops:Array Oper) (Q:Exit→Act→World→Prop) (fin fR:Nat) (S2:World→Prop) : (World→Prop)→Nat→Array Bool→Act→World→Prop
 | _,0,listed,a,w=>Region.ready .any ops listed=[]∧Q .normal a w
 | S,f+1,listed,a,w=>Region.ready .any ops listed≠[] ∧ ∀ i∈Region.ready .any ops listed,i<ops.size∧wpOp P ops Q i (fun a' w'=>(i=fR→tU P ops Q fin fR S2 (fun _=>True) f (listed.setIfInBounds i true) a' w') ∧
    (i≠fR→i=fin→S2 w'∧tU P ops Q fin fR S2 S2 f (listed.setIfInBounds i true) a' w')∧(i≠fR→i≠fin→S w'∧tU P ops Q fin fR S2 S f (listed.setIfInBounds i true) a' w')) a w
section
variable {P:Program} {ops:Array Oper} {Q:Exit→Act→World→Prop} {fin fR:Nat} {S2:World→Prop}
theorem pr:∀ (f:Nat) {S S':World→Prop} (hS:∀ w,S' w→S w) (listed:Array Bool) (a:Act) (w:World),tU P ops Q fin fR S2 S' f listed a w→tU P ops Q fin fR S2 S f listed a w
 | 0,_,_,_,_,_,_,h=>h
 | f+1,S,S',hS,_,_,_,h=>⟨h.1,fun i hi=>⟨(h.2 i hi).1,wpOp_mono (fun a' w' h'=>⟨h'.1,h'.2.1,fun n1 n2=>⟨hS _ (h'.2.2 n1 n2).1,pr f hS _ a' w' (h'.2.2 n1 n2).2⟩⟩) (h.2 i hi).2⟩⟩
theorem lU:∀ (f:Nat) {S:World→Prop} (listed:Array Bool) (a:Act) (w:World),tU P ops Q fin fR S2 S f listed a w→wpAny P .any ops Q f listed a w
 | 0,_,_,_,_,h=>h
 | f+1,S,listed,a,w,h=>⟨fun h0=>absurd h0 h.1,fun i hi=>wpOp_mono (fun a' w' h'=>by
    by_cases e:i=fR
    ·exact lU f _ a' w' (h'.1 e)
    ·by_cases e2:i=fin
     ·exact lU f _ a' w' (h'.2.1 e e2).2
     ·exact lU f _ a' w' (h'.2.2 e e2).2) (h.2 i hi).2⟩
def fE (ops:Array Oper) (k:Nat) : List Nat→Nat→Bool
 | [],i=>match ops[k]? with
   | some o=>o.after.any fun e=>Region.binds .any e && Nat.beq e.on i
   | none=>false
 | x::r,i=>(match ops[k]? with
   | some o=>o.after.any fun e=>Region.binds .any e && Nat.beq e.on x
   | none=>false) && fE ops x r i
theorem y5 {k i:Nat} (h:(match ops[k]? with|some o=>o.after.any fun e=>Region.binds .any e && Nat.beq e.on i|none=>false)=true) : ∃ o,ops[k]?=some o ∧ ∃ e∈o.after,Region.binds .any e=true∧e.on=i:=by
 cases ho:ops[k]? with
 | none=>rw [ho] at h;cases h
 | some o =>
   rw [ho] at h;simp only [Array.any_eq_true',Bool.and_eq_true] at h;obtain ⟨e,he,hb,hn⟩:=h;exact ⟨o,rfl,e,he,hb,Nat.eq_of_beq_eq_true hn⟩
theorem pY {n:Nat} {listed:Array Bool} (inv:HeadInv .any ops n listed) : ∀ (p:List Nat) (k i:Nat),fE ops k p i=true→listed.getD k false=true→listed.getD i false=true
 | [],k,i,h,hk=>by
   obtain ⟨o,ho,e,he,hb,Lo⟩:=y5 h;rw [← Lo];exact inv.closed k o ho hk e he hb
 | x::r,k,i,h,hk=>by
   simp only [fE,Bool.and_eq_true] at h;obtain ⟨o,ho,e,he,hb,Lo⟩:=y5 h.1;exact pY inv r x i h.2 (by rw [← Lo];exact inv.closed k o ho hk e he hb)
theorem y6 {n:Nat} {listed:Array Bool} (inv:HeadInv .any ops n listed) {p:List Nat} {k i:Nat} (h:fE ops k p i=true) (hk:k∈Region.ready .any ops listed) : listed.getD i false=true:=by
 obtain ⟨_,o,ho,fk⟩:=mem_ready.1 hk;cases p with
 | nil =>
   obtain ⟨o',vj,e,he,hb,Lo⟩:=y5 h;rw [ho] at vj;cases vj
   rw [← Lo];exact fk e he hb
 | cons x r =>
   simp only [fE,Bool.and_eq_true] at h;obtain ⟨o',vj,e,he,hb,Lo⟩:=y5 h.1;rw [ho] at vj;cases vj
   exact pY inv r x i h.2 (by rw [← Lo];exact fk e he hb)
theorem ng {T:World→Prop} {i:Nat} {oi:Oper} {v:Value} (hi:ops[i]?=some oi) (Cj:∀ (j:Nat) (o:Oper) cs b,ops[j]?=some o→o.op ≠ .select cs b) (Gv:i≠fR) (Ck:i≠fin)
 (hQ:∀ c a w,Q (.panic c) (a.put oi.dst v) w→Q (.panic c) a w) (PK:(∀ w,T w) ∨ ∃ p,fE ops fR p i=true) (Cl:(∀ w,S2 w→T w) ∨ ∃ p,fE ops fin p i=true) :
 ∀ (f:Nat) {S:World→Prop} (Ns:∀ w,S w→T w) (listed:Array Bool) (a:Act) (w:World),HeadInv .any ops ops.size listed →
  (∀ j oj,ops[j]?=some oj→j≠i→listed.getD j true=false→(∀ e∈oj.after,Region.binds .any e=true→e.on≠i)→oi.apart ops oj=true) →
  i∈Region.ready .any ops listed→YieldsIf P ops T oi v a→S w →
  tU P ops Q fin fR S2 S f (listed.setIfInBounds i true) (a.put oi.dst v) w→tU P ops Q fin fR S2 S (f+1) listed a w:=by
 intro f;induction f with
 | zero =>
   intro S Ns listed a w inv _ hr hy hS H;have B8:=(mem_ready.1 hr).1;refine ⟨fun h=>(by rw [h] at hr;cases hr),fun j hj => ?_⟩;have nd:j<ops.size:=by obtain ⟨_,o,ho,_⟩:=mem_ready.1 hj;exact (Array.getElem?_eq_some_iff.1 ho).1
   refine ⟨nd,?_⟩;by_cases jm:j=i
   ·subst jm;exact hy.wpOp hi (Ns _ hS) ⟨fun e=>absurd e Gv,fun _ e=>absurd e Ck,fun _ _=>⟨hS,H⟩⟩
   ·have h0:=ready_mono hj jm;rw [H.1] at h0;cases h0
 | succ f ih =>
   intro S Ns listed a w inv jC hr hy hS H;have B8:=(mem_ready.1 hr).1;refine ⟨fun h=>(by rw [h] at hr;cases hr),fun j hj => ?_⟩;have nd:j<ops.size:=by obtain ⟨_,o,ho,_⟩:=mem_ready.1 hj;exact (Array.getElem?_eq_some_iff.1 ho).1
   refine ⟨nd,?_⟩;by_cases jm:j=i
   ·subst jm;exact hy.wpOp hi (Ns _ hS) ⟨fun e=>absurd e Gv,fun _ e=>absurd e Ck,fun _ _=>⟨hS,H⟩⟩
   ·have h1:=(H.2 j (ready_mono hj jm)).2;obtain ⟨Gs,oj,Ll,fk⟩:=mem_ready.1 hj
    have EK:∀ e∈oj.after,Region.binds .any e=true→e.on≠i:=fun e he hb PI=>by
     have h1:=fk e he hb;rw [PI,getD_both B8] at h1;cases h1
    have h2:=wpOp_putIf Ll (jC j oj Ll jm Gs EK) (fun cs b=>Cj i oi cs b hi) (fun cs b=>Cj j oj cs b Ll) hQ hy h1
    have vl:∀ k ok,ops[k]?=some ok→k≠i→(listed.setIfInBounds j true).getD k true=false →
     (∀ e∈ok.after,Region.binds .any e=true→e.on≠i)→oi.apart ops ok=true:=fun k ok hk xG B8 m9=>by
     refine jC k ok hk xG ?_ m9;by_cases na:j=k
     ·subst na;exact Gs
     ·rw [getD_set_ne true na] at B8;exact B8
    have Gt:=inv.set hj nd
    have no:∀ {k:Nat} {p:List Nat},fE ops k p i=true→j=k→False:=fun {k p} Nt e=>by
     subst e;have:=y6 inv Nt hj
     rw [getD_both B8] at this;cases this
    refine wpOp_mono (fun a' w' h3=>⟨fun e => ?_,fun n1 e => ?_,fun n1 n2=>⟨(h3.2.2.2 n1 n2).1,ih Ns (listed.setIfInBounds j true) a' w' Gt vl (ready_mono hr (Ne.symm jm)) h3.1 (h3.2.2.2 n1 n2).1 ?_⟩⟩) h2
    ·rcases PK with hT|⟨p,Nt⟩
     ·refine ih (fun w _=>hT w) (listed.setIfInBounds j true) a' w' Gt vl (ready_mono hr (Ne.symm jm)) h3.1 trivial ?_;rw [Array.setIfInBounds_comm _ _ jm];exact h3.2.1 e
     ·exact (no Nt e).elim
    ·rcases Cl with hT|⟨p,Nt⟩
     ·refine ⟨(h3.2.2.1 n1 e).1,ih hT (listed.setIfInBounds j true) a' w' Gt vl (ready_mono hr (Ne.symm jm)) h3.1 (h3.2.2.1 n1 e).1 ?_⟩;rw [Array.setIfInBounds_comm _ _ jm];exact (h3.2.2.1 n1 e).2
     ·exact (no Nt e).elim
    ·rw [Array.setIfInBounds_comm _ _ jm];exact (h3.2.2.2 n1 n2).2
end
structure SF (P:Program) (n:Nat) (ops:Array Oper) (Q:Exit→Act→World→Prop) (fin fR:Nat) (S2:World→Prop) (f:Nat) (listed:Array Bool) (L:Env) (w:World) : Prop where
 out:∀ a,Fit n a L→HeadInv .any ops ops.size listed→tU P ops (NoPanic Q) fin fR S2 (Ext w) f listed a w
structure SG (P:Program) (n:Nat) (ops:Array Oper) (Q:Exit→Act→World→Prop) (fin fR:Nat) (S2:World→Prop) (f:Nat) (listed:Array Bool) (L:Env) (w:World) : Prop where
 out:∀ a,Fit n a L→HeadInv .any ops ops.size listed→tU P ops (NoPanic Q) fin fR S2 S2 f listed a w
def Lp (P:Program) (n:Nat) (ops:Array Oper) (Q:Exit→Act→World→Prop) (fin fR:Nat) (S2:World→Prop) (f:Nat) (listed:Array Bool) (w:World) : Exit→Act→World→Prop
 | .normal,a,w'=>Ext w w'∧(HeadInv .any ops ops.size listed→tU P ops (NoPanic Q) fin fR S2 (Ext w') f listed a w')
 | e,a,w'=>NoPanic Q e a w'
def Nu (P:Program) (n:Nat) (ops:Array Oper) (Q:Exit→Act→World→Prop) (fin fR:Nat) (S2:World→Prop) (f:Nat) (listed:Array Bool) : Exit→Act→World→Prop
 | .normal,a,w'=>S2 w'∧(HeadInv .any ops ops.size listed→tU P ops (NoPanic Q) fin fR S2 S2 f listed a w')
 | e,a,w'=>NoPanic Q e a w'
section
variable {P:Program} {n:Nat} {ops:Array Oper} {Q:Exit→Act→World→Prop} {fin fR f:Nat} {S2:World→Prop} {listed:Array Bool} {L:Env} {w:World}
theorem Lq {i:Nat} (h:(!Nat.beq i fR && !Nat.beq i fin)=true) : i≠fR∧i≠fin:=by
 simp only [Bool.and_eq_true,Bool.not_eq_true'] at h;exact ⟨fun e=>by subst e;simp at h,fun e=>by subst e;simp at h⟩
theorem SF.take (i:Nat) (p q:List Nat) {o:Oper} (hB:Region.noSelect ops=true) (hi:ops[i]?=some o) (hf:Region.free .any ops listed i=true) (hr:(Region.ready .any ops listed).contains i=true) (hw:((fE ops fin p i && fE ops fR q i) && (!Nat.beq i fR && !Nat.beq i fin))=true)
 (h:SW P n ops (.tk fun L'=>SF P n ops Q fin fR S2 f (listed.setIfInBounds i true) L' w) [o] L w) : SF P n ops Q fin fR S2 (f+1) listed L w :=
 ⟨fun a ha inv=>by
  have hs:=h.out a ha;rw [Bool.and_eq_true,Bool.and_eq_true] at hw;obtain ⟨⟨ae,bF⟩,jA⟩:=hw;obtain ⟨n1,n2⟩:=Lq jA;have n0:i∈Region.ready .any ops listed:=by simpa using hr
  have df:i<ops.size:=(Array.getElem?_eq_some_iff.1 hi).1
  simp only [swp,yR] at hs;by_cases hw:Region.wanted o (yielded ops a.tmps)=true
  ·rw [if_pos hw] at hs;obtain ⟨v,hv,L',B9,hK⟩:=hs;exact ng (T:=Ext w) hi (Region.noSelect_spec hB) n1 n2 (fun _ _ _ h=>(h:False).elim) (.inr ⟨q,bF⟩) (.inr ⟨p,ae⟩) f (fun _ h=>h) listed a w inv (Region.free_spec hi hf) n0 (.inl ⟨hw,hv⟩) (Ext.refl w) (hK.out _ B9 (inv.set n0 df))
  ·rw [if_neg hw] at hs;obtain ⟨L',B9,hK⟩:=hs;exact ng (T:=Ext w) hi (Region.noSelect_spec hB) n1 n2 (fun _ _ _ h=>(h:False).elim) (.inr ⟨q,bF⟩) (.inr ⟨p,ae⟩) f (fun _ h=>h) listed a w inv (Region.free_spec hi hf) n0 (.inr ⟨by simpa using hw,rfl⟩) (Ext.refl w) (hK.out _ B9 (inv.set n0 df))⟩
theorem SF.eG (i:Nat) (q:List Nat) {d:Nat} {op:Op} {T:TypeId} {pos:String} {af:Array Edge} {v:Value} (hB:Region.noSelect ops=true) (hi:ops[i]?=some ⟨some d,op,T,pos,af,none⟩) (hf:Region.free .any ops listed i=true) (hr:(Region.ready .any ops listed).contains i=true) (hw:(fE ops fR q i && (!Nat.beq i fR && !Nat.beq i fin))=true)
 (h1:St P ⟨some d,op,T,pos,af,none⟩ L w v) (h2:∀ w2,S2 w2→St P ⟨some d,op,T,pos,af,none⟩ L w2 v) (hn:Nat.blt d n=true) (h:SF P n ops Q fin fR S2 f (listed.setIfInBounds i true) ((d,v)::L) w) : SF P n ops Q fin fR S2 (f+1) listed L w :=
 ⟨fun a ha inv=>by
  rw [Bool.and_eq_true] at hw;obtain ⟨ae,jA⟩:=hw;obtain ⟨n1,n2⟩:=Lq jA;have n0:i∈Region.ready .any ops listed:=by simpa using hr
  have df:i<ops.size:=(Array.getElem?_eq_some_iff.1 hi).1
  exact ng (T:=fun w'=>Ext w w'∨S2 w') hi (Region.noSelect_spec hB) n1 n2 (fun _ _ _ h=>(h:False).elim) (.inr ⟨q,ae⟩) (.inl fun _ => .inr) f (fun _ => .inl) listed a w inv (Region.free_spec hi hf) n0 (v:=v)
   (.inl ⟨by simp [Region.wanted],fun w' hh=>by rcases hh with hh|hh;exact h1.out n a ha w' hh;exact (h2 w' hh).out n a ha w' (Ext.refl w')⟩) (Ext.refl w) (h.out _ (ha.put hn v) (inv.set n0 df))⟩
theorem SF.xI (i:Nat) {d:Nat} {op:Op} {T:TypeId} {pos:String} {af:Array Edge} {v:Value} (hB:Region.noSelect ops=true) (hi:ops[i]?=some ⟨some d,op,T,pos,af,none⟩) (hf:Region.free .any ops listed i=true) (hr:(Region.ready .any ops listed).contains i=true) (hw:(!Nat.beq i fR && !Nat.beq i fin)=true)
 (h1:∀ w2,St P ⟨some d,op,T,pos,af,none⟩ L w2 v) (hn:Nat.blt d n=true) (h:SF P n ops Q fin fR S2 f (listed.setIfInBounds i true) ((d,v)::L) w) : SF P n ops Q fin fR S2 (f+1) listed L w :=
 ⟨fun a ha inv=>by
  obtain ⟨n1,n2⟩:=Lq hw;have n0:i∈Region.ready .any ops listed:=by simpa using hr
  have df:i<ops.size:=(Array.getElem?_eq_some_iff.1 hi).1
  exact ng (T:=fun _=>True) hi (Region.noSelect_spec hB) n1 n2 (fun _ _ _ h=>(h:False).elim) (.inl fun _=>trivial) (.inl fun _ _=>trivial) f (fun _ _=>trivial) listed a w inv (Region.free_spec hi hf) n0 (v:=v)
   (.inl ⟨by simp [Region.wanted],fun w' _=>(h1 w').out n a ha w' (Ext.refl w')⟩) (Ext.refl w) (h.out _ (ha.put hn v) (inv.set n0 df))⟩
theorem Oper.I8 {o:Oper} {a:Act} {N:Act→World→Prop} {Q1 Q2:Exit→Act→World→Prop} (hq:∀ e a w,e ≠ .normal→Q1 e a w→Q2 e a w) (hl:LetsOut Q1→LetsOut Q2) (h:o.wp P a w N Q1) : o.wp P a w N Q2:=by
 unfold Oper.wp at *;generalize (execOp a.eval o).run P w=r at *
 cases r with
 | ok x w' =>
   cases x<;>simp only [Oper.upon] at h ⊢
   case value=>exact h
   case skip=>exact h
   case defer=>exact h
   case row=>exact h
   case enter =>
    refine Calls.mono h fun e Li he => ?_
    cases e
    ·exact he
    ·exact hq _ _ _ (by simp) he
    ·exact hl he
 | halt x w' =>
   cases x<;>simp only [Oper.upon] at h ⊢
   exact hq _ _ _ (by simp) h
theorem vn {i:Nat} {o:Oper} {a:Act} {Q1:Exit→Act→World→Prop} {K:Act→World→Prop} (hi:ops[i]?=some o) (hq:∀ e a w,e ≠ .normal→Q1 e a w→NoPanic Q e a w) (hl:LetsOut Q1→LetsOut (NoPanic Q)) (conv:∀ a' w',Q1 .normal a' w'→K a' w') (hs:wpList P ops Q1 [o] a w) : wpOp P ops (NoPanic Q) i K a w:=by
 simp only [wpList] at hs;unfold wpOp;simp only [hi];by_cases hw:Region.wanted o (yielded ops a.tmps)=true
 ·rw [if_pos hw] at hs ⊢;rcases hs with hs|⟨h1,h2⟩
  ·exact .inl (Oper.wp_mono conv (Oper.I8 hq hl hs))
  ·exact .inr ⟨h1,hl h2⟩
 ·rw [if_neg hw] at hs ⊢;exact conv _ _ hs
theorem SF.one (i:Nat) {o:Oper} (hi:ops[i]?=some o) (hr:Region.ready .any ops listed=[i]) (hw:(!Nat.beq i fR && !Nat.beq i fin)=true) (h:SW P n ops (.gw (Lp P n ops Q fin fR S2 f (listed.setIfInBounds i true) w)) [o] L w) : SF P n ops Q fin fR S2 (f+1) listed L w :=
 ⟨fun a ha inv=>⟨by rw [hr];simp,fun j hj=>by
  obtain ⟨n1,n2⟩:=Lq hw;have jm:j=i:=by rw [hr] at hj;simpa using hj
  subst jm;have df:j<ops.size:=(Array.getElem?_eq_some_iff.1 hi).1
  refine ⟨df,vn (Q1:=Lp P n ops Q fin fR S2 f (listed.setIfInBounds j true) w) hi (fun e a w ne h=>by cases e<;>first|exact h|exact absurd rfl ne) (fun h=>h) (fun a' w' hh=>⟨fun e=>absurd e n1,fun _ e=>absurd e n2,fun _ _=>⟨hh.1,pr f (fun Li Ln=>Ext.trans hh.1 Ln) _ _ _ (hh.2 (inv.set hj df))⟩⟩) (h.out a ha)⟩⟩⟩
theorem ah.sf {l:Array Bool} {w0:World} (hx:Ext w0 w) (h:SF P n ops Q fin fR S2 f l L w) : ah n (Lp P n ops Q fin fR S2 f l w0) .normal L w:=⟨fun a ha=>⟨hx,h.out a ha⟩⟩
theorem SF.turn {o:Oper} (hi:ops[fin]?=some o) (hr:Region.ready .any ops listed=[fin]) (hw:Nat.beq fin fR=false) (h:SW P n ops (.gw (Nu P n ops Q fin fR S2 f (listed.setIfInBounds fin true))) [o] L w) : SF P n ops Q fin fR S2 (f+1) listed L w :=
 ⟨fun a ha inv=>⟨by rw [hr];simp,fun j hj=>by
  have jm:j=fin:=by rw [hr] at hj;simpa using hj
  have n1:j≠fR:=fun e=>by rw [← jm,e] at hw;simp at hw
  subst jm;have df:j<ops.size:=(Array.getElem?_eq_some_iff.1 hi).1
  exact ⟨df,vn (Q1:=Nu P n ops Q j fR S2 f (listed.setIfInBounds j true)) hi (fun e a w ne h=>by cases e<;>first|exact h|exact absurd rfl ne) (fun h=>h) (fun a' w' hh=>⟨fun e=>absurd e n1,fun _ _=>⟨hh.1,hh.2 (inv.set hj df)⟩,fun _ n2=>absurd rfl n2⟩) (h.out a ha)⟩⟩⟩
theorem ah.sg {l:Array Bool} (hx:S2 w) (h:SG P n ops Q fin fR S2 f l L w) : ah n (Nu P n ops Q fin fR S2 f l) .normal L w:=⟨fun a ha=>⟨hx,h.out a ha⟩⟩
theorem SG.one (i:Nat) {o:Oper} (hi:ops[i]?=some o) (hr:Region.ready .any ops listed=[i]) (hw:(!Nat.beq i fR && !Nat.beq i fin)=true) (h:SW P n ops (.gw (Nu P n ops Q fin fR S2 f (listed.setIfInBounds i true))) [o] L w) : SG P n ops Q fin fR S2 (f+1) listed L w :=
 ⟨fun a ha inv=>⟨by rw [hr];simp,fun j hj=>by
  obtain ⟨n1,n2⟩:=Lq hw;have jm:j=i:=by rw [hr] at hj;simpa using hj
  subst jm;have df:j<ops.size:=(Array.getElem?_eq_some_iff.1 hi).1
  exact ⟨df,vn (Q1:=Nu P n ops Q fin fR S2 f (listed.setIfInBounds j true)) hi (fun e a w ne h=>by cases e<;>first|exact h|exact absurd rfl ne) (fun h=>h) (fun a' w' hh=>⟨fun e=>absurd e n1,fun _ e=>absurd e n2,fun _ _=>⟨hh.1,hh.2 (inv.set hj df)⟩⟩) (h.out a ha)⟩⟩⟩
theorem SF.last {o:Oper} (hi:ops[fR]?=some o) (hr:Region.ready .any ops listed=[fR]) (he:Region.ready .any ops (listed.setIfInBounds fR true)=[]) (h:SW P n ops (.gw (NoPanic Q)) [o] L w) : SF P n ops Q fin fR S2 1 listed L w :=
 ⟨fun a ha inv=>⟨by rw [hr];simp,fun j hj=>by
  have jm:j=fR:=by rw [hr] at hj;simpa using hj
  subst jm;exact ⟨(Array.getElem?_eq_some_iff.1 hi).1,vn (Q1:=NoPanic Q) hi (fun _ _ _ _ h=>h) (fun h=>h) (fun a' w' hh=>⟨fun _=>⟨he,hh⟩,fun n=>absurd rfl n,fun n=>absurd rfl n⟩) (h.out a ha)⟩⟩⟩
theorem SG.last {o:Oper} (hi:ops[fR]?=some o) (hr:Region.ready .any ops listed=[fR]) (he:Region.ready .any ops (listed.setIfInBounds fR true)=[]) (h:SW P n ops (.gw (NoPanic Q)) [o] L w) : SG P n ops Q fin fR S2 1 listed L w :=
 ⟨fun a ha inv=>⟨by rw [hr];simp,fun j hj=>by
  have jm:j=fR:=by rw [hr] at hj;simpa using hj
  subst jm;exact ⟨(Array.getElem?_eq_some_iff.1 hi).1,vn (Q1:=NoPanic Q) hi (fun _ _ _ _ h=>h) (fun h=>h) (fun a' w' hh=>⟨fun _=>⟨he,hh⟩,fun n=>absurd rfl n,fun n=>absurd rfl n⟩) (h.out a ha)⟩⟩⟩
theorem CW.iL {id:Nat} {l:List Oper} (fin fR:Nat) (S2:World→Prop) (hm:P.follows .mixedOrders=true) (hB:Region.noSelect l.toArray=true) (h:∀ w',Ext w w'→Region.noSelect l.toArray=true→SF P n l.toArray Q fin fR S2 l.length (Array.replicate l.length false) L w') : CW P n (.region id l.toArray true) Q L w :=
 ⟨fun a ha=>by
  refine wp_region_noPanic (wp_region_any hm ?_);have h0:=(h _ (Ext.drew w) hB).out a ha ⟨by simp,fun j oj _ hl=>(by rw [getD_replicate_false] at hl;cases hl),fun t h1 h2=>absurd h2 (Nat.not_lt.2 h1)⟩;have:=lU _ _ _ _ h0
  simpa using this⟩
end
end Go.Proofs.YtbidkghlpijecaaGreatDoor
/-
  Plain steps in one: as Vd as S7 go; what is left is the S8 that Wz (Ws, Wa, Wf) takes. No program in RA.
-/
namespace Go.Proofs.YtbidkghlpijecaaGreatDoor
open Go.RowKit

structure Gw (T : Prop) : Prop where
  out : T
section
variable {P : Program} {n : Nat} {ops : Array Oper} {L : Env} {w : World} {d : Option Nat} {T : TypeId} {pos : String} {af : Array Edge} {g : Option (Nat × Bool)}
theorem vo {t : TypeId} [gH P t] {x : Operand} {b i : Nat} {tb : TypeId} {cs : List Value} {v : Value} (hx : cg L x = some (.pointer (some ⟨b, i, none⟩))) (h : aW w b tb cs ∧ cs[i]? = some v := by (apply And.intro; assumption; rfl)) : St P ⟨d, .load t x, T, pos, af, g⟩ L w v :=
  aq hx (by have := h.1.cell h.2; rwa [ck] at this)
theorem se {t : TypeId} {m : Nat} [c : fj P t m] {x : Operand} {b : Nat} {tb : TypeId} {cs : List Value} (hx : cg L x = some (.pointer (some ⟨b, 0, none⟩))) (h : aW w b tb cs ∧ cs.length = m := by (apply And.intro; assumption; rfl)) : St P ⟨d, .load t x, T, pos, af, g⟩ L w (.agg cs.toArray) :=
  aB hx h.2 fun _ _ hv => h.1.cell hv
def RC (ops : Array Oper) (k i : Nat) : List Nat := bif fE ops k [] i then [] else (((List.range ops.size).find? fun j => fE ops k [j] i).map fun j => [j]).getD ((((List.range ops.size).flatMap fun j => (List.range ops.size).map fun m => [j, m]).find? fun p => fE ops k p i).getD [])
theorem SF.e8 {Q : Exit → Act → World → Prop} {fin fR f : Nat} {S2 : World → Prop} {listed : Array Bool} (i : Nat) {o : Oper} (hB : Region.noSelect ops = true) (hi : ops[i]? = some o) (hf : Region.free .any ops listed i = true) (hr : (Region.ready .any ops listed).contains i = true) (hw : ((fE ops fin (RC ops fin i) i && fE ops fR (RC ops fR i) i) && (!Nat.beq i fR && !Nat.beq i fin)) = true)
    (h : SW P n ops (.tk fun L' => SF P n ops Q fin fR S2 f (listed.setIfInBounds i true) L' w) [o] L w) : SF P n ops Q fin fR S2 (f + 1) listed L w := SF.take i _ _ hB hi hf hr hw h
end
theorem Wz {g T : Prop} (h : T) (hg : Gw T → g := by
    intro h
    (first
      | (show CW _ _ _ _ _ _; first | refine CW.seq ?_ | refine CW.region ?_ | refine CW.block ?_ | refine CW.yT rfl (by with_reducible rfl) ?_ | refine CW.yU rfl (by with_reducible rfl) ?_ | refine CW.uo rfl (by omega) ?_ | refine CW.uq rfl (by omega) ?_ | refine CW.ur rfl (by omega) ?_ | refine CW.uu rfl (by omega) ?_ | refine CW.skip ?_ | refine CW.ret ?_ | refine CW.exit ?_)
      | (show ah _ _ _ _ _; first | refine ah.seq ?_ | refine ah.um ?_ | refine ah.qP ?_ | refine ah.hit ?_ | refine ah.pass rfl ?_ | refine ah.dD ?_ | refine ah.uv ?_ | refine ah.nc ?_ | refine ah.pk ?_ | refine ah.np ?_)
      | refine SW.nil ?_
      | (show SW _ _ _ _ (⟨_, _, _, _, _, some _⟩ :: _) _ _; first | refine SW.uY rfl rfl (by with_reducible rfl) ?_ | refine SW.uZ rfl rfl (by with_reducible rfl) ?_ | refine SW.u5 rfl rfl (by with_reducible rfl) rfl ?_ | refine SW.u6 rfl rfl (by with_reducible rfl) rfl ?_ | refine SW.u7 rfl rfl (by with_reducible rfl) rfl ?_ | refine SW.ou rfl rfl rfl (by omega) ?_ | refine SW.ov rfl rfl rfl (by omega) ?_ | refine SW.ow rfl rfl rfl (by omega) ?_ | refine SW.ox rfl rfl rfl (by omega) ?_)
      | refine SW.pure rfl rfl ?_
      | (show SW _ _ _ _ (⟨_, Op.fieldAddr _ _ _, _, _, _, none⟩ :: _) _ _; refine SW.st (aP rfl) rfl ?_)
      | (show SW _ _ _ _ (⟨_, Op.nilCheck _, _, _, _, none⟩ :: _) _ _; refine SW.st (aC rfl) rfl ?_)
      | (show SW _ _ _ _ (⟨_, Op.build _ _, _, _, _, none⟩ :: _) _ _; refine SW.st (fp rfl rfl) rfl ?_)
      | (show SW _ _ _ _ (⟨_, Op.binOp _ _ _ _ _, _, _, _, none⟩ :: _) _ _; first | refine SW.st (vc rfl rfl (by omega) (by omega)) rfl ?_ | refine SW.st (vd rfl rfl (by omega) (by omega)) rfl ?_ | refine SW.st (j8 rfl rfl (by omega) (by omega)) rfl ?_ | refine SW.st (ve rfl rfl (by omega) (by omega) (by omega)) rfl ?_ | refine SW.st (vf rfl rfl (by omega)) rfl ?_)
      | (show SW _ _ _ _ (⟨_, Op.indexAddr _ _ _, _, _, _, none⟩ :: _) _ _; refine SW.st (bJ rfl rfl (by assumption) (by omega)) rfl ?_)
      | (show SW _ _ _ _ (⟨_, Op.call ⟨.builtin .len, _, _⟩, _, _, _, none⟩ :: _) _ _; refine SW.st (vg rfl) rfl ?_)
      | (show SW _ _ _ _ (⟨_, Op.call ⟨.builtin .cap, _, _⟩, _, _, _, none⟩ :: _) _ _; refine SW.st (vm rfl) rfl ?_)
      | (show SW _ _ _ _ (⟨_, Op.load _ _, _, _, _, none⟩ :: _) _ _; first | refine SW.st (vo rfl) rfl ?_ | refine SW.st (se rfl) rfl ?_))
    repeat' (first
      | (show CW _ _ _ _ _ _; first | refine CW.seq ?_ | refine CW.region ?_ | refine CW.block ?_ | refine CW.yT rfl (by with_reducible rfl) ?_ | refine CW.yU rfl (by with_reducible rfl) ?_ | refine CW.uo rfl (by omega) ?_ | refine CW.uq rfl (by omega) ?_ | refine CW.ur rfl (by omega) ?_ | refine CW.uu rfl (by omega) ?_ | refine CW.skip ?_ | refine CW.ret ?_ | refine CW.exit ?_)
      | (show ah _ _ _ _ _; first | refine ah.seq ?_ | refine ah.um ?_ | refine ah.qP ?_ | refine ah.hit ?_ | refine ah.pass rfl ?_ | refine ah.dD ?_ | refine ah.uv ?_ | refine ah.nc ?_ | refine ah.pk ?_ | refine ah.np ?_)
      | refine SW.nil ?_
      | (show SW _ _ _ _ (⟨_, _, _, _, _, some _⟩ :: _) _ _; first | refine SW.uY rfl rfl (by with_reducible rfl) ?_ | refine SW.uZ rfl rfl (by with_reducible rfl) ?_ | refine SW.u5 rfl rfl (by with_reducible rfl) rfl ?_ | refine SW.u6 rfl rfl (by with_reducible rfl) rfl ?_ | refine SW.u7 rfl rfl (by with_reducible rfl) rfl ?_ | refine SW.ou rfl rfl rfl (by omega) ?_ | refine SW.ov rfl rfl rfl (by omega) ?_ | refine SW.ow rfl rfl rfl (by omega) ?_ | refine SW.ox rfl rfl rfl (by omega) ?_)
      | refine SW.pure rfl rfl ?_
      | (show SW _ _ _ _ (⟨_, Op.fieldAddr _ _ _, _, _, _, none⟩ :: _) _ _; refine SW.st (aP rfl) rfl ?_)
      | (show SW _ _ _ _ (⟨_, Op.nilCheck _, _, _, _, none⟩ :: _) _ _; refine SW.st (aC rfl) rfl ?_)
      | (show SW _ _ _ _ (⟨_, Op.build _ _, _, _, _, none⟩ :: _) _ _; refine SW.st (fp rfl rfl) rfl ?_)
      | (show SW _ _ _ _ (⟨_, Op.binOp _ _ _ _ _, _, _, _, none⟩ :: _) _ _; first | refine SW.st (vc rfl rfl (by omega) (by omega)) rfl ?_ | refine SW.st (vd rfl rfl (by omega) (by omega)) rfl ?_ | refine SW.st (j8 rfl rfl (by omega) (by omega)) rfl ?_ | refine SW.st (ve rfl rfl (by omega) (by omega) (by omega)) rfl ?_ | refine SW.st (vf rfl rfl (by omega)) rfl ?_)
      | (show SW _ _ _ _ (⟨_, Op.indexAddr _ _ _, _, _, _, none⟩ :: _) _ _; refine SW.st (bJ rfl rfl (by assumption) (by omega)) rfl ?_)
      | (show SW _ _ _ _ (⟨_, Op.call ⟨.builtin .len, _, _⟩, _, _, _, none⟩ :: _) _ _; refine SW.st (vg rfl) rfl ?_)
      | (show SW _ _ _ _ (⟨_, Op.call ⟨.builtin .cap, _, _⟩, _, _, _, none⟩ :: _) _ _; refine SW.st (vm rfl) rfl ?_)
      | (show SW _ _ _ _ (⟨_, Op.load _ _, _, _, _, none⟩ :: _) _ _; first | refine SW.st (vo rfl) rfl ?_ | refine SW.st (se rfl) rfl ?_)
      | exact h.out)) : g := hg ⟨h⟩

theorem Ws {g T : Prop} (h : T) (hg : Gw T → g := by
    intro h
    repeat' (first
      | (show SW _ _ _ _ (⟨_, _, _, _, _, some _⟩ :: _) _ _; first | refine SW.uY rfl rfl (by with_reducible rfl) ?_ | refine SW.uZ rfl rfl (by with_reducible rfl) ?_ | refine SW.u5 rfl rfl (by with_reducible rfl) rfl ?_ | refine SW.u6 rfl rfl (by with_reducible rfl) rfl ?_ | refine SW.u7 rfl rfl (by with_reducible rfl) rfl ?_ | refine SW.ou rfl rfl rfl (by omega) ?_ | refine SW.ov rfl rfl rfl (by omega) ?_ | refine SW.ow rfl rfl rfl (by omega) ?_ | refine SW.ox rfl rfl rfl (by omega) ?_)
      | refine SW.pure rfl rfl ?_
      | (show SW _ _ _ _ (⟨_, Op.fieldAddr _ _ _, _, _, _, none⟩ :: _) _ _; refine SW.st (aP rfl) rfl ?_)
      | (show SW _ _ _ _ (⟨_, Op.nilCheck _, _, _, _, none⟩ :: _) _ _; refine SW.st (aC rfl) rfl ?_)
      | (show SW _ _ _ _ (⟨_, Op.build _ _, _, _, _, none⟩ :: _) _ _; refine SW.st (fp rfl rfl) rfl ?_)
      | (show SW _ _ _ _ (⟨_, Op.binOp _ _ _ _ _, _, _, _, none⟩ :: _) _ _; first | refine SW.st (vc rfl rfl (by omega) (by omega)) rfl ?_ | refine SW.st (vd rfl rfl (by omega) (by omega)) rfl ?_ | refine SW.st (j8 rfl rfl (by omega) (by omega)) rfl ?_ | refine SW.st (ve rfl rfl (by omega) (by omega) (by omega)) rfl ?_ | refine SW.st (vf rfl rfl (by omega)) rfl ?_)
      | (show SW _ _ _ _ (⟨_, Op.indexAddr _ _ _, _, _, _, none⟩ :: _) _ _; refine SW.st (bJ rfl rfl (by assumption) (by omega)) rfl ?_)
      | (show SW _ _ _ _ (⟨_, Op.call ⟨.builtin .len, _, _⟩, _, _, _, none⟩ :: _) _ _; refine SW.st (vg rfl) rfl ?_)
      | (show SW _ _ _ _ (⟨_, Op.call ⟨.builtin .cap, _, _⟩, _, _, _, none⟩ :: _) _ _; refine SW.st (vm rfl) rfl ?_)
      | (show SW _ _ _ _ (⟨_, Op.load _ _, _, _, _, none⟩ :: _) _ _; first | refine SW.st (vo rfl) rfl ?_ | refine SW.st (se rfl) rfl ?_)
      | exact h.out)) : g := hg ⟨h⟩

theorem Wa {g T : Prop} (h : T) (hg : Gw T → g := by
    intro h
    repeat' (first
      | (refine SA.take 0 (by assumption) rfl (by decide +kernel) (by decide +kernel) rfl ?_; refine Ws ?_; refine SW.ai ?_)
      | (refine SA.take 1 (by assumption) rfl (by decide +kernel) (by decide +kernel) rfl ?_; refine Ws ?_; refine SW.ai ?_)
      | (refine SA.take 2 (by assumption) rfl (by decide +kernel) (by decide +kernel) rfl ?_; refine Ws ?_; refine SW.ai ?_)
      | (refine SA.take 3 (by assumption) rfl (by decide +kernel) (by decide +kernel) rfl ?_; refine Ws ?_; refine SW.ai ?_)
      | (refine SA.take 4 (by assumption) rfl (by decide +kernel) (by decide +kernel) rfl ?_; refine Ws ?_; refine SW.ai ?_)
      | (refine SA.take 5 (by assumption) rfl (by decide +kernel) (by decide +kernel) rfl ?_; refine Ws ?_; refine SW.ai ?_)
      | (refine SA.take 6 (by assumption) rfl (by decide +kernel) (by decide +kernel) rfl ?_; refine Ws ?_; refine SW.ai ?_)
      | (refine SA.take 7 (by assumption) rfl (by decide +kernel) (by decide +kernel) rfl ?_; refine Ws ?_; refine SW.ai ?_)
      | (refine SA.take 8 (by assumption) rfl (by decide +kernel) (by decide +kernel) rfl ?_; refine Ws ?_; refine SW.ai ?_)
      | (refine SA.take 9 (by assumption) rfl (by decide +kernel) (by decide +kernel) rfl ?_; refine Ws ?_; refine SW.ai ?_)
      | (refine SA.take 10 (by assumption) rfl (by decide +kernel) (by decide +kernel) rfl ?_; refine Ws ?_; refine SW.ai ?_)
      | (refine SA.take 11 (by assumption) rfl (by decide +kernel) (by decide +kernel) rfl ?_; refine Ws ?_; refine SW.ai ?_)
      | (refine SA.take 12 (by assumption) rfl (by decide +kernel) (by decide +kernel) rfl ?_; refine Ws ?_; refine SW.ai ?_)
      | (refine SA.take 13 (by assumption) rfl (by decide +kernel) (by decide +kernel) rfl ?_; refine Ws ?_; refine SW.ai ?_)
      | (refine SA.take 14 (by assumption) rfl (by decide +kernel) (by decide +kernel) rfl ?_; refine Ws ?_; refine SW.ai ?_)
      | (refine SA.take 15 (by assumption) rfl (by decide +kernel) (by decide +kernel) rfl ?_; refine Ws ?_; refine SW.ai ?_)
      | (refine SA.take 16 (by assumption) rfl (by decide +kernel) (by decide +kernel) rfl ?_; refine Ws ?_; refine SW.ai ?_)
      | (refine SA.take 17 (by assumption) rfl (by decide +kernel) (by decide +kernel) rfl ?_; refine Ws ?_; refine SW.ai ?_)
      | (refine SA.take 18 (by assumption) rfl (by decide +kernel) (by decide +kernel) rfl ?_; refine Ws ?_; refine SW.ai ?_)
      | (refine SA.take 19 (by assumption) rfl (by decide +kernel) (by decide +kernel) rfl ?_; refine Ws ?_; refine SW.ai ?_)
      | (refine SA.take 20 (by assumption) rfl (by decide +kernel) (by decide +kernel) rfl ?_; refine Ws ?_; refine SW.ai ?_)
      | (refine SA.take 21 (by assumption) rfl (by decide +kernel) (by decide +kernel) rfl ?_; refine Ws ?_; refine SW.ai ?_)
      | (refine SA.take 22 (by assumption) rfl (by decide +kernel) (by decide +kernel) rfl ?_; refine Ws ?_; refine SW.ai ?_)
      | (refine SA.take 23 (by assumption) rfl (by decide +kernel) (by decide +kernel) rfl ?_; refine Ws ?_; refine SW.ai ?_)
      | (refine SA.take 24 (by assumption) rfl (by decide +kernel) (by decide +kernel) rfl ?_; refine Ws ?_; refine SW.ai ?_)
      | (refine SA.take 25 (by assumption) rfl (by decide +kernel) (by decide +kernel) rfl ?_; refine Ws ?_; refine SW.ai ?_)
      | (refine SA.take 26 (by assumption) rfl (by decide +kernel) (by decide +kernel) rfl ?_; refine Ws ?_; refine SW.ai ?_)
      | (refine SA.take 27 (by assumption) rfl (by decide +kernel) (by decide +kernel) rfl ?_; refine Ws ?_; refine SW.ai ?_)
      | (refine SA.take 28 (by assumption) rfl (by decide +kernel) (by decide +kernel) rfl ?_; refine Ws ?_; refine SW.ai ?_)
      | (refine SA.take 29 (by assumption) rfl (by decide +kernel) (by decide +kernel) rfl ?_; refine Ws ?_; refine SW.ai ?_)
      | exact h.out)) : g := hg ⟨h⟩

theorem Wf {g T : Prop} (h : T) (hg : Gw T → g := by
    intro h
    repeat' (first
      | (refine SF.e8 0 (by assumption) rfl (by decide +kernel) (by decide +kernel) (by decide +kernel) ?_; refine Ws ?_; refine SW.ai ?_)
      | (refine SF.e8 1 (by assumption) rfl (by decide +kernel) (by decide +kernel) (by decide +kernel) ?_; refine Ws ?_; refine SW.ai ?_)
      | (refine SF.e8 2 (by assumption) rfl (by decide +kernel) (by decide +kernel) (by decide +kernel) ?_; refine Ws ?_; refine SW.ai ?_)
      | (refine SF.e8 3 (by assumption) rfl (by decide +kernel) (by decide +kernel) (by decide +kernel) ?_; refine Ws ?_; refine SW.ai ?_)
      | (refine SF.e8 4 (by assumption) rfl (by decide +kernel) (by decide +kernel) (by decide +kernel) ?_; refine Ws ?_; refine SW.ai ?_)
      | (refine SF.e8 5 (by assumption) rfl (by decide +kernel) (by decide +kernel) (by decide +kernel) ?_; refine Ws ?_; refine SW.ai ?_)
      | (refine SF.e8 6 (by assumption) rfl (by decide +kernel) (by decide +kernel) (by decide +kernel) ?_; refine Ws ?_; refine SW.ai ?_)
      | (refine SF.e8 7 (by assumption) rfl (by decide +kernel) (by decide +kernel) (by decide +kernel) ?_; refine Ws ?_; refine SW.ai ?_)
      | (refine SF.e8 8 (by assumption) rfl (by decide +kernel) (by decide +kernel) (by decide +kernel) ?_; refine Ws ?_; refine SW.ai ?_)
      | (refine SF.e8 9 (by assumption) rfl (by decide +kernel) (by decide +kernel) (by decide +kernel) ?_; refine Ws ?_; refine SW.ai ?_)
      | (refine SF.e8 10 (by assumption) rfl (by decide +kernel) (by decide +kernel) (by decide +kernel) ?_; refine Ws ?_; refine SW.ai ?_)
      | (refine SF.e8 11 (by assumption) rfl (by decide +kernel) (by decide +kernel) (by decide +kernel) ?_; refine Ws ?_; refine SW.ai ?_)
      | (refine SF.e8 12 (by assumption) rfl (by decide +kernel) (by decide +kernel) (by decide +kernel) ?_; refine Ws ?_; refine SW.ai ?_)
      | (refine SF.e8 13 (by assumption) rfl (by decide +kernel) (by decide +kernel) (by decide +kernel) ?_; refine Ws ?_; refine SW.ai ?_)
      | (refine SF.e8 14 (by assumption) rfl (by decide +kernel) (by decide +kernel) (by decide +kernel) ?_; refine Ws ?_; refine SW.ai ?_)
      | (refine SF.e8 15 (by assumption) rfl (by decide +kernel) (by decide +kernel) (by decide +kernel) ?_; refine Ws ?_; refine SW.ai ?_)
      | (refine SF.e8 16 (by assumption) rfl (by decide +kernel) (by decide +kernel) (by decide +kernel) ?_; refine Ws ?_; refine SW.ai ?_)
      | (refine SF.e8 17 (by assumption) rfl (by decide +kernel) (by decide +kernel) (by decide +kernel) ?_; refine Ws ?_; refine SW.ai ?_)
      | (refine SF.e8 18 (by assumption) rfl (by decide +kernel) (by decide +kernel) (by decide +kernel) ?_; refine Ws ?_; refine SW.ai ?_)
      | (refine SF.e8 19 (by assumption) rfl (by decide +kernel) (by decide +kernel) (by decide +kernel) ?_; refine Ws ?_; refine SW.ai ?_)
      | (refine SF.e8 20 (by assumption) rfl (by decide +kernel) (by decide +kernel) (by decide +kernel) ?_; refine Ws ?_; refine SW.ai ?_)
      | (refine SF.e8 21 (by assumption) rfl (by decide +kernel) (by decide +kernel) (by decide +kernel) ?_; refine Ws ?_; refine SW.ai ?_)
      | (refine SF.e8 22 (by assumption) rfl (by decide +kernel) (by decide +kernel) (by decide +kernel) ?_; refine Ws ?_; refine SW.ai ?_)
      | (refine SF.e8 23 (by assumption) rfl (by decide +kernel) (by decide +kernel) (by decide +kernel) ?_; refine Ws ?_; refine SW.ai ?_)
      | (refine SF.e8 24 (by assumption) rfl (by decide +kernel) (by decide +kernel) (by decide +kernel) ?_; refine Ws ?_; refine SW.ai ?_)
      | (refine SF.e8 25 (by assumption) rfl (by decide +kernel) (by decide +kernel) (by decide +kernel) ?_; refine Ws ?_; refine SW.ai ?_)
      | (refine SF.e8 26 (by assumption) rfl (by decide +kernel) (by decide +kernel) (by decide +kernel) ?_; refine Ws ?_; refine SW.ai ?_)
      | (refine SF.e8 27 (by assumption) rfl (by decide +kernel) (by decide +kernel) (by decide +kernel) ?_; refine Ws ?_; refine SW.ai ?_)
      | (refine SF.e8 28 (by assumption) rfl (by decide +kernel) (by decide +kernel) (by decide +kernel) ?_; refine Ws ?_; refine SW.ai ?_)
      | (refine SF.e8 29 (by assumption) rfl (by decide +kernel) (by decide +kernel) (by decide +kernel) ?_; refine Ws ?_; refine SW.ai ?_)
      | exact h.out)) : g := hg ⟨h⟩

theorem Wy {g T : Prop} (h : T) (hg : Gw T → g := by
    intro h
    (first
      | (show CW _ _ _ _ _ _; first | refine CW.seq ?_ | refine CW.region ?_ | refine CW.block ?_ | refine CW.yT rfl (by with_reducible rfl) ?_ | refine CW.yU rfl (by with_reducible rfl) ?_ | refine CW.uo rfl (by omega) ?_ | refine CW.uq rfl (by omega) ?_ | refine CW.ur rfl (by omega) ?_ | refine CW.uu rfl (by omega) ?_ | refine CW.skip ?_ | refine CW.ret ?_ | refine CW.exit ?_)
      | (show ah _ _ _ _ _; first | refine ah.seq ?_ | refine ah.um ?_ | refine ah.qP ?_ | refine ah.hit ?_ | refine ah.pass rfl ?_ | refine ah.dD ?_ | refine ah.uv ?_ | refine ah.nc ?_ | refine ah.pk ?_ | refine ah.np ?_)
      | refine SW.nil ?_
      | (show SW _ _ _ _ (⟨_, _, _, _, _, some _⟩ :: _) _ _; first | refine SW.uY rfl rfl (by with_reducible rfl) ?_ | refine SW.uZ rfl rfl (by with_reducible rfl) ?_ | refine SW.u5 rfl rfl (by with_reducible rfl) rfl ?_ | refine SW.u6 rfl rfl (by with_reducible rfl) rfl ?_ | refine SW.u7 rfl rfl (by with_reducible rfl) rfl ?_ | refine SW.ou rfl rfl rfl (by omega) ?_ | refine SW.ov rfl rfl rfl (by omega) ?_ | refine SW.ow rfl rfl rfl (by omega) ?_ | refine SW.ox rfl rfl rfl (by omega) ?_)
      | refine SW.pure rfl rfl ?_
      | (show SW _ _ _ _ (⟨_, Op.fieldAddr _ _ _, _, _, _, none⟩ :: _) _ _; refine SW.st (aP rfl) rfl ?_)
      | (show SW _ _ _ _ (⟨_, Op.nilCheck _, _, _, _, none⟩ :: _) _ _; refine SW.st (aC rfl) rfl ?_)
      | (show SW _ _ _ _ (⟨_, Op.build _ _, _, _, _, none⟩ :: _) _ _; refine SW.st (fp rfl rfl) rfl ?_)
      | (show SW _ _ _ _ (⟨_, Op.binOp _ _ _ _ _, _, _, _, none⟩ :: _) _ _; first | refine SW.st (vc rfl rfl (by omega) (by omega)) rfl ?_ | refine SW.st (vd rfl rfl (by omega) (by omega)) rfl ?_ | refine SW.st (j8 rfl rfl (by omega) (by omega)) rfl ?_ | refine SW.st (ve rfl rfl (by omega) (by omega) (by omega)) rfl ?_ | refine SW.st (vf rfl rfl (by omega)) rfl ?_)
      | (show SW _ _ _ _ (⟨_, Op.indexAddr _ _ _, _, _, _, none⟩ :: _) _ _; refine SW.st (bJ rfl rfl (by assumption) (by omega)) rfl ?_)
      | (show SW _ _ _ _ (⟨_, Op.call ⟨.builtin .len, _, _⟩, _, _, _, none⟩ :: _) _ _; refine SW.st (vg rfl) rfl ?_)
      | (show SW _ _ _ _ (⟨_, Op.call ⟨.builtin .cap, _, _⟩, _, _, _, none⟩ :: _) _ _; refine SW.st (vm rfl) rfl ?_))
    repeat' (first
      | (show CW _ _ _ _ _ _; first | refine CW.seq ?_ | refine CW.region ?_ | refine CW.block ?_ | refine CW.yT rfl (by with_reducible rfl) ?_ | refine CW.yU rfl (by with_reducible rfl) ?_ | refine CW.uo rfl (by omega) ?_ | refine CW.uq rfl (by omega) ?_ | refine CW.ur rfl (by omega) ?_ | refine CW.uu rfl (by omega) ?_ | refine CW.skip ?_ | refine CW.ret ?_ | refine CW.exit ?_)
      | (show ah _ _ _ _ _; first | refine ah.seq ?_ | refine ah.um ?_ | refine ah.qP ?_ | refine ah.hit ?_ | refine ah.pass rfl ?_ | refine ah.dD ?_ | refine ah.uv ?_ | refine ah.nc ?_ | refine ah.pk ?_ | refine ah.np ?_)
      | refine SW.nil ?_
      | (show SW _ _ _ _ (⟨_, _, _, _, _, some _⟩ :: _) _ _; first | refine SW.uY rfl rfl (by with_reducible rfl) ?_ | refine SW.uZ rfl rfl (by with_reducible rfl) ?_ | refine SW.u5 rfl rfl (by with_reducible rfl) rfl ?_ | refine SW.u6 rfl rfl (by with_reducible rfl) rfl ?_ | refine SW.u7 rfl rfl (by with_reducible rfl) rfl ?_ | refine SW.ou rfl rfl rfl (by omega) ?_ | refine SW.ov rfl rfl rfl (by omega) ?_ | refine SW.ow rfl rfl rfl (by omega) ?_ | refine SW.ox rfl rfl rfl (by omega) ?_)
      | refine SW.pure rfl rfl ?_
      | (show SW _ _ _ _ (⟨_, Op.fieldAddr _ _ _, _, _, _, none⟩ :: _) _ _; refine SW.st (aP rfl) rfl ?_)
      | (show SW _ _ _ _ (⟨_, Op.nilCheck _, _, _, _, none⟩ :: _) _ _; refine SW.st (aC rfl) rfl ?_)
      | (show SW _ _ _ _ (⟨_, Op.build _ _, _, _, _, none⟩ :: _) _ _; refine SW.st (fp rfl rfl) rfl ?_)
      | (show SW _ _ _ _ (⟨_, Op.binOp _ _ _ _ _, _, _, _, none⟩ :: _) _ _; first | refine SW.st (vc rfl rfl (by omega) (by omega)) rfl ?_ | refine SW.st (vd rfl rfl (by omega) (by omega)) rfl ?_ | refine SW.st (j8 rfl rfl (by omega) (by omega)) rfl ?_ | refine SW.st (ve rfl rfl (by omega) (by omega) (by omega)) rfl ?_ | refine SW.st (vf rfl rfl (by omega)) rfl ?_)
      | (show SW _ _ _ _ (⟨_, Op.indexAddr _ _ _, _, _, _, none⟩ :: _) _ _; refine SW.st (bJ rfl rfl (by assumption) (by omega)) rfl ?_)
      | (show SW _ _ _ _ (⟨_, Op.call ⟨.builtin .len, _, _⟩, _, _, _, none⟩ :: _) _ _; refine SW.st (vg rfl) rfl ?_)
      | (show SW _ _ _ _ (⟨_, Op.call ⟨.builtin .cap, _, _⟩, _, _, _, none⟩ :: _) _ _; refine SW.st (vm rfl) rfl ?_)
      | exact h.out)) : g := hg ⟨h⟩
end Go.Proofs.YtbidkghlpijecaaGreatDoor
