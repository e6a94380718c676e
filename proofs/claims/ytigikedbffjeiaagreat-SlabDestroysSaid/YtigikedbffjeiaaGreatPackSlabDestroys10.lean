/-
  Texts of the claim SlabDestroys, part 10: what its theorem leans on.
-/
import Derived.Test.YtigikedbffjeiaaGreatPackSlabDestroys5
import Derived.Test.YtigikedbffjeiaaGreatPackSlabDestroys1
import Derived.Test.YtigikedbffjeiaaGreatPackSlabDestroys8
set_option linter.unusedVariables false
set_option linter.unusedSimpArgs false
namespace Go.Proofs.YtigikedbffjeiaaGreat
open Go.RowKit
theorem SW.storeElem {α : Type} {P:Program} {n:Nat} {ops:Array Oper} {Q:Exit→Act→World→Prop} {rest:List Oper} {L:Env} {w:World} {T:TypeId} {pos:String} {af:Array Edge} {lo:Nat} {e:TypeId} {sz:Nat} {enc : α → List Value} [E:Enc enc sz] {A:Option Addr} {m c:Nat} {l:List α} {t:TypeId} [G:AggTy P t sz] {x y:Operand} (k:Nat) (x' : α)
  (hO:Own w lo e sz enc A m c l) (hx:opv L x=some (.pointer (some ((A.getD default).add (k*sz))))) (hy:opv L y=some (.agg (enc x').toArray)) (hk:k<m)
  (h:∀ w',Own w' lo e sz enc A m c (l.set k x')→w.grownBy w' (ownB A c)→SW P n ops (.eff Q) rest L w') : SW P n ops (.eff Q) (⟨none,.store t x y,T,pos,af,none⟩::rest) L w :=
 ⟨fun a ha=>by
  have hc : 0<c:=by have:=hO.le;omega
  obtain ⟨g,r,rfl,hlo,hB,hr,hmc,hmx,how⟩:=hO.opened hc
  have hkl:k<l.length:=by rw [hO.len];exact hk
  have hks:(k+1)*sz≤m*sz:=Nat.mul_le_mul_right _ hk
  rw [Nat.add_mul,Nat.one_mul] at hks
  have hfl:(l.flatMap enc).length=m*sz:=by rw [length_flatMap_enc,hO.len]
  have e0:(((some (⟨g,0,none⟩ : Addr)).getD default).add (k*sz))=⟨g,k*sz,none⟩:=addr_of g _
  rw [e0] at hx
  have el:l=l.take k++[l[k]]++l.drop (k+1):=by simp
  have hX:((l.take k).flatMap enc).length=k*sz:=by rw [length_flatMap_enc,List.length_take,Nat.min_eq_left (by omega)]
  have e1:l.flatMap enc++r=(l.take k).flatMap enc++enc l[k]++((l.drop (k+1)).flatMap enc++r):=by
   have e3:l.flatMap enc=(l.take k++[l[k]]++l.drop (k+1)).flatMap enc:=by rw [← el]
   rw [e3,List.flatMap_append,List.flatMap_append]
   simp only [List.flatMap_cons,List.flatMap_nil,List.append_nil,List.append_assoc]
  have hst:=run_storeCells_at P g (k*sz) e (enc x') 0 (l.flatMap enc++r).toArray w hB (by simp only [List.size_toArray,List.length_append,hfl,E.len];omega) (E.one x')
  have e2:((l.flatMap enc++r).toArray.toList.take (k*sz+0)++enc x'++(l.flatMap enc++r).toArray.toList.drop (k*sz+0+(enc x').length))=(l.set k x').flatMap enc++r:=by
   have:=lay_mid ((l.take k).flatMap enc) (enc l[k]) ((l.drop (k+1)).flatMap enc++r) (enc x') (by rw [E.len,E.len]) hX.symm
   rw [← e1] at this
   unfold lay at this
   simp only [Nat.add_zero]
   rw [this,List.set_eq_take_append_cons_drop,if_pos hkl]
   simp
  rw [e2] at hst
  simp only [swp,wpList,Region.wanted,if_true]
  refine .inl ?_
  unfold Oper.wp
  have hrun:(execOp a.eval ⟨none,.store t x y,T,pos,af,none⟩).run P w = .ok .skip (w.setRow g ((l.set k x').flatMap enc++r).toArray):=by
   simp [execOp,ha.eval hx,ha.eval hy,Instr.storeAt,Instr.sureAddr,storeVar,Value.cells,run_sizeOf G.size,E.len,hst]
  rw [hrun,Oper.upon_skip]
  obtain ⟨hB',hg'⟩:=grown_setRow (cs:=(l.set k x').flatMap enc++r) hB
  refine (h _ (Own.closed (by rw [List.length_set];exact hO.len) hB' hr hmc hc hmx hlo) ?_).out _ ha
  rw [how]
  exact hg'⟩
open Go.RowKit
def wpHf (P:Program) (ops:Array Oper) (Q:Exit→Act→World→Prop) (fin lst:Nat) (S2:World→Prop) : (World→Prop)→Nat→Array Bool→Act→World→Prop
 | _,0,listed,a,w=>Region.ready .any ops listed=[]∧Q .normal a w
 | S,f+1,listed,a,w=>Region.ready .any ops listed≠[] ∧ ∀ i∈Region.ready .any ops listed,i<ops.size∧wpOp P ops Q i (fun a' w'=>(i=lst→wpHf P ops Q fin lst S2 (fun _=>True) f (listed.setIfInBounds i true) a' w') ∧
   (i≠lst→i=fin→S2 w'∧wpHf P ops Q fin lst S2 S2 f (listed.setIfInBounds i true) a' w')∧(i≠lst→i≠fin→S w'∧wpHf P ops Q fin lst S2 S f (listed.setIfInBounds i true) a' w')) a w
section
variable {P:Program} {ops:Array Oper} {Q:Exit→Act→World→Prop} {fin lst:Nat} {S2:World→Prop}
theorem wpHf_mono:∀ (f:Nat) {S S':World→Prop} (hS:∀ w,S' w→S w) (listed:Array Bool) (a:Act) (w:World),wpHf P ops Q fin lst S2 S' f listed a w→wpHf P ops Q fin lst S2 S f listed a w
 | 0,_,_,_,_,_,_,h=>h
 | f+1,S,S',hS,_,_,_,h=>⟨h.1,fun i hi=>⟨(h.2 i hi).1,wpOp_mono (fun a' w' h'=>⟨h'.1,h'.2.1,fun n1 n2=>⟨hS _ (h'.2.2 n1 n2).1,wpHf_mono f hS _ a' w' (h'.2.2 n1 n2).2⟩⟩) (h.2 i hi).2⟩⟩
theorem wpAny_of_hf:∀ (f:Nat) {S:World→Prop} (listed:Array Bool) (a:Act) (w:World),wpHf P ops Q fin lst S2 S f listed a w→wpAny P .any ops Q f listed a w
 | 0,_,_,_,_,h=>h
 | f+1,S,listed,a,w,h=>⟨fun h0=>absurd h0 h.1,fun i hi=>wpOp_mono (fun a' w' h'=>by
   by_cases e:i=lst
   ·exact wpAny_of_hf f _ a' w' (h'.1 e)
   ·by_cases e2:i=fin
    ·exact wpAny_of_hf f _ a' w' (h'.2.1 e e2).2
    ·exact wpAny_of_hf f _ a' w' (h'.2.2 e e2).2) (h.2 i hi).2⟩
def awaitsP (ops:Array Oper) (k:Nat) : List Nat→Nat→Bool
 | [],i=>match ops[k]? with
  | some o=>o.after.any fun e=>Region.binds .any e && Nat.beq e.on i
  | none=>false
 | x::r,i=>(match ops[k]? with
  | some o=>o.after.any fun e=>Region.binds .any e && Nat.beq e.on x
  | none=>false) && awaitsP ops x r i
theorem await1 {k i:Nat} (h:(match ops[k]? with|some o=>o.after.any fun e=>Region.binds .any e && Nat.beq e.on i|none=>false)=true) : ∃ o,ops[k]?=some o ∧ ∃ e∈o.after,Region.binds .any e=true∧e.on=i:=by
 cases ho:ops[k]? with
 | none=>rw [ho] at h;cases h
 | some o =>
  rw [ho] at h
  simp only [Array.any_eq_true',Bool.and_eq_true] at h
  obtain ⟨e,he,hb,hn⟩:=h
  exact ⟨o,rfl,e,he,hb,Nat.eq_of_beq_eq_true hn⟩
theorem awaits_closed {n:Nat} {listed:Array Bool} (inv:HeadInv .any ops n listed) : ∀ (p:List Nat) (k i:Nat),awaitsP ops k p i=true→listed.getD k false=true→listed.getD i false=true
 | [],k,i,h,hk=>by
  obtain ⟨o,ho,e,he,hb,hon⟩:=await1 h
  rw [← hon];exact inv.closed k o ho hk e he hb
 | x::r,k,i,h,hk=>by
  simp only [awaitsP,Bool.and_eq_true] at h
  obtain ⟨o,ho,e,he,hb,hon⟩:=await1 h.1
  exact awaits_closed inv r x i h.2 (by rw [← hon];exact inv.closed k o ho hk e he hb)
theorem awaits_ready {n:Nat} {listed:Array Bool} (inv:HeadInv .any ops n listed) {p:List Nat} {k i:Nat} (h:awaitsP ops k p i=true) (hk:k∈Region.ready .any ops listed) : listed.getD i false=true:=by
 obtain ⟨_,o,ho,hall⟩:=mem_ready.1 hk
 cases p with
 | nil =>
  obtain ⟨o',ho',e,he,hb,hon⟩:=await1 h
  rw [ho] at ho'
  cases ho'
  rw [← hon];exact hall e he hb
 | cons x r =>
  simp only [awaitsP,Bool.and_eq_true] at h
  obtain ⟨o',ho',e,he,hb,hon⟩:=await1 h.1
  rw [ho] at ho'
  cases ho'
  exact awaits_closed inv r x i h.2 (by rw [← hon];exact hall e he hb)
theorem wpHf_first {T:World→Prop} {i:Nat} {oi:Oper} {v:Value} (hi:ops[i]?=some oi) (hsel:∀ (j:Nat) (o:Oper) cs b,ops[j]?=some o→o.op ≠ .select cs b) (hn1:i≠lst) (hn2:i≠fin)
  (hQ:∀ c a w,Q (.panic c) (a.put oi.dst v) w→Q (.panic c) a w) (hlst:(∀ w,T w) ∨ ∃ p,awaitsP ops lst p i=true) (hfin:(∀ w,S2 w→T w) ∨ ∃ p,awaitsP ops fin p i=true) :
  ∀ (f:Nat) {S:World→Prop} (hTS:∀ w,S w→T w) (listed:Array Bool) (a:Act) (w:World),HeadInv .any ops ops.size listed →
   (∀ j oj,ops[j]?=some oj→j≠i→listed.getD j true=false→(∀ e∈oj.after,Region.binds .any e=true→e.on≠i)→oi.apart ops oj=true) →
   i∈Region.ready .any ops listed→YieldsIf P ops T oi v a→S w →
   wpHf P ops Q fin lst S2 S f (listed.setIfInBounds i true) (a.put oi.dst v) w→wpHf P ops Q fin lst S2 S (f+1) listed a w:=by
 intro f
 induction f with
 | zero =>
  intro S hTS listed a w inv _ hr hy hS H
  have hun:=(mem_ready.1 hr).1
  refine ⟨fun h=>(by rw [h] at hr;cases hr),fun j hj => ?_⟩
  have hjn:j<ops.size:=by obtain ⟨_,o,ho,_⟩:=mem_ready.1 hj;exact (Array.getElem?_eq_some_iff.1 ho).1
  refine ⟨hjn,?_⟩
  by_cases hji:j=i
  ·subst hji;exact hy.wpOp hi (hTS _ hS) ⟨fun e=>absurd e hn1,fun _ e=>absurd e hn2,fun _ _=>⟨hS,H⟩⟩
  ·have h0:=ready_mono hj hji
   rw [H.1] at h0
   cases h0
 | succ f ih =>
  intro S hTS listed a w inv hfree hr hy hS H
  have hun:=(mem_ready.1 hr).1
  refine ⟨fun h=>(by rw [h] at hr;cases hr),fun j hj => ?_⟩
  have hjn:j<ops.size:=by obtain ⟨_,o,ho,_⟩:=mem_ready.1 hj;exact (Array.getElem?_eq_some_iff.1 ho).1
  refine ⟨hjn,?_⟩
  by_cases hji:j=i
  ·subst hji;exact hy.wpOp hi (hTS _ hS) ⟨fun e=>absurd e hn1,fun _ e=>absurd e hn2,fun _ _=>⟨hS,H⟩⟩
  ·have h1:=(H.2 j (ready_mono hj hji)).2
   obtain ⟨hjun,oj,hoj,hall⟩:=mem_ready.1 hj
   have hnot:∀ e∈oj.after,Region.binds .any e=true→e.on≠i:=fun e he hb heq=>by
    have h1:=hall e he hb
    rw [heq,getD_both hun] at h1
    cases h1
   have h2:=wpOp_putIf hoj (hfree j oj hoj hji hjun hnot) (fun cs b=>hsel i oi cs b hi) (fun cs b=>hsel j oj cs b hoj) hQ hy h1
   have hfree':∀ k ok,ops[k]?=some ok→k≠i→(listed.setIfInBounds j true).getD k true=false →
     (∀ e∈ok.after,Region.binds .any e=true→e.on≠i)→oi.apart ops ok=true:=fun k ok hk hki hun hno=>by
    refine hfree k ok hk hki ?_ hno
    by_cases hjk:j=k
    ·subst hjk;exact hjun
    ·rw [getD_set_ne true hjk] at hun;exact hun
   have inv':=inv.set hj hjn
   have no:∀ {k:Nat} {p:List Nat},awaitsP ops k p i=true→j=k→False:=fun {k p} haw e=>by
    subst e
    have:=awaits_ready inv haw hj
    rw [getD_both hun] at this
    cases this
   refine wpOp_mono (fun a' w' h3=>⟨fun e => ?_,fun n1 e => ?_,fun n1 n2=>⟨(h3.2.2.2 n1 n2).1,ih hTS (listed.setIfInBounds j true) a' w' inv' hfree' (ready_mono hr (Ne.symm hji)) h3.1 (h3.2.2.2 n1 n2).1 ?_⟩⟩) h2
   ·rcases hlst with hT|⟨p,haw⟩
    ·refine ih (fun w _=>hT w) (listed.setIfInBounds j true) a' w' inv' hfree' (ready_mono hr (Ne.symm hji)) h3.1 trivial ?_
     rw [Array.setIfInBounds_comm _ _ hji]
     exact h3.2.1 e
    ·exact (no haw e).elim
   ·rcases hfin with hT|⟨p,haw⟩
    ·refine ⟨(h3.2.2.1 n1 e).1,ih hT (listed.setIfInBounds j true) a' w' inv' hfree' (ready_mono hr (Ne.symm hji)) h3.1 (h3.2.2.1 n1 e).1 ?_⟩
     rw [Array.setIfInBounds_comm _ _ hji]
     exact (h3.2.2.1 n1 e).2
    ·exact (no haw e).elim
   ·rw [Array.setIfInBounds_comm _ _ hji]
    exact (h3.2.2.2 n1 n2).2
end
structure SF (P:Program) (n:Nat) (ops:Array Oper) (Q:Exit→Act→World→Prop) (fin lst:Nat) (S2:World→Prop) (f:Nat) (listed:Array Bool) (L:Env) (w:World) : Prop where
 out:∀ a,Fit n a L→HeadInv .any ops ops.size listed→wpHf P ops (NoPanic Q) fin lst S2 (Ext w) f listed a w
structure SG (P:Program) (n:Nat) (ops:Array Oper) (Q:Exit→Act→World→Prop) (fin lst:Nat) (S2:World→Prop) (f:Nat) (listed:Array Bool) (L:Env) (w:World) : Prop where
 out:∀ a,Fit n a L→HeadInv .any ops ops.size listed→wpHf P ops (NoPanic Q) fin lst S2 S2 f listed a w
def SFQ (P:Program) (n:Nat) (ops:Array Oper) (Q:Exit→Act→World→Prop) (fin lst:Nat) (S2:World→Prop) (f:Nat) (listed:Array Bool) (w:World) : Exit→Act→World→Prop
 | .normal,a,w'=>Ext w w'∧(HeadInv .any ops ops.size listed→wpHf P ops (NoPanic Q) fin lst S2 (Ext w') f listed a w')
 | e,a,w'=>NoPanic Q e a w'
def SGQ (P:Program) (n:Nat) (ops:Array Oper) (Q:Exit→Act→World→Prop) (fin lst:Nat) (S2:World→Prop) (f:Nat) (listed:Array Bool) : Exit→Act→World→Prop
 | .normal,a,w'=>S2 w'∧(HeadInv .any ops ops.size listed→wpHf P ops (NoPanic Q) fin lst S2 S2 f listed a w')
 | e,a,w'=>NoPanic Q e a w'
section
variable {P:Program} {n:Nat} {ops:Array Oper} {Q:Exit→Act→World→Prop} {fin lst f:Nat} {S2:World→Prop} {listed:Array Bool} {L:Env} {w:World}
theorem nes {i:Nat} (h:(!Nat.beq i lst && !Nat.beq i fin)=true) : i≠lst∧i≠fin:=by
 simp only [Bool.and_eq_true,Bool.not_eq_true'] at h
 exact ⟨fun e=>by subst e;simp at h,fun e=>by subst e;simp at h⟩
theorem SF.take (i:Nat) (p q:List Nat) {o:Oper} (hB:Region.noSelect ops=true) (hi:ops[i]?=some o) (hf:Region.free .any ops listed i=true) (hr:(Region.ready .any ops listed).contains i=true) (hw:((awaitsP ops fin p i && awaitsP ops lst q i) && (!Nat.beq i lst && !Nat.beq i fin))=true)
  (h:SW P n ops (.tk fun L'=>SF P n ops Q fin lst S2 f (listed.setIfInBounds i true) L' w) [o] L w) : SF P n ops Q fin lst S2 (f+1) listed L w :=
 ⟨fun a ha inv=>by
  have hs:=h.out a ha
  rw [Bool.and_eq_true,Bool.and_eq_true] at hw
  obtain ⟨⟨hw1,hw2⟩,hw3⟩:=hw
  obtain ⟨n1,n2⟩:=nes hw3
  have hr':i∈Region.ready .any ops listed:=by simpa using hr
  have hin:i<ops.size:=(Array.getElem?_eq_some_iff.1 hi).1
  simp only [swp,wpTk] at hs
  by_cases hw:Region.wanted o (yielded ops a.tmps)=true
  ·rw [if_pos hw] at hs
   obtain ⟨v,hv,L',hf',hK⟩:=hs
   exact wpHf_first (T:=Ext w) hi (Region.noSelect_spec hB) n1 n2 (fun _ _ _ h=>(h:False).elim) (.inr ⟨q,hw2⟩) (.inr ⟨p,hw1⟩) f (fun _ h=>h) listed a w inv (Region.free_spec hi hf) hr' (.inl ⟨hw,hv⟩) (Ext.refl w) (hK.out _ hf' (inv.set hr' hin))
  ·rw [if_neg hw] at hs
   obtain ⟨L',hf',hK⟩:=hs
   exact wpHf_first (T:=Ext w) hi (Region.noSelect_spec hB) n1 n2 (fun _ _ _ h=>(h:False).elim) (.inr ⟨q,hw2⟩) (.inr ⟨p,hw1⟩) f (fun _ h=>h) listed a w inv (Region.free_spec hi hf) hr' (.inr ⟨by simpa using hw,rfl⟩) (Ext.refl w) (hK.out _ hf' (inv.set hr' hin))⟩
theorem SF.take2 (i:Nat) (q:List Nat) {d:Nat} {op:Op} {T:TypeId} {pos:String} {af:Array Edge} {v:Value} (hB:Region.noSelect ops=true) (hi:ops[i]?=some ⟨some d,op,T,pos,af,none⟩) (hf:Region.free .any ops listed i=true) (hr:(Region.ready .any ops listed).contains i=true) (hw:(awaitsP ops lst q i && (!Nat.beq i lst && !Nat.beq i fin))=true)
  (h1:St P ⟨some d,op,T,pos,af,none⟩ L w v) (h2:∀ w2,S2 w2→St P ⟨some d,op,T,pos,af,none⟩ L w2 v) (hn:Nat.blt d n=true) (h:SF P n ops Q fin lst S2 f (listed.setIfInBounds i true) ((d,v)::L) w) : SF P n ops Q fin lst S2 (f+1) listed L w :=
 ⟨fun a ha inv=>by
  rw [Bool.and_eq_true] at hw
  obtain ⟨hw1,hw3⟩:=hw
  obtain ⟨n1,n2⟩:=nes hw3
  have hr':i∈Region.ready .any ops listed:=by simpa using hr
  have hin:i<ops.size:=(Array.getElem?_eq_some_iff.1 hi).1
  exact wpHf_first (T:=fun w'=>Ext w w'∨S2 w') hi (Region.noSelect_spec hB) n1 n2 (fun _ _ _ h=>(h:False).elim) (.inr ⟨q,hw1⟩) (.inl fun _ => .inr) f (fun _ => .inl) listed a w inv (Region.free_spec hi hf) hr' (v:=v)
   (.inl ⟨by simp [Region.wanted],fun w' hh=>by rcases hh with hh|hh;exact h1.out n a ha w' hh;exact (h2 w' hh).out n a ha w' (Ext.refl w')⟩) (Ext.refl w) (h.out _ (ha.put hn v) (inv.set hr' hin))⟩
theorem SF.takeX (i:Nat) {d:Nat} {op:Op} {T:TypeId} {pos:String} {af:Array Edge} {v:Value} (hB:Region.noSelect ops=true) (hi:ops[i]?=some ⟨some d,op,T,pos,af,none⟩) (hf:Region.free .any ops listed i=true) (hr:(Region.ready .any ops listed).contains i=true) (hw:(!Nat.beq i lst && !Nat.beq i fin)=true)
  (h1:∀ w2,St P ⟨some d,op,T,pos,af,none⟩ L w2 v) (hn:Nat.blt d n=true) (h:SF P n ops Q fin lst S2 f (listed.setIfInBounds i true) ((d,v)::L) w) : SF P n ops Q fin lst S2 (f+1) listed L w :=
 ⟨fun a ha inv=>by
  obtain ⟨n1,n2⟩:=nes hw
  have hr':i∈Region.ready .any ops listed:=by simpa using hr
  have hin:i<ops.size:=(Array.getElem?_eq_some_iff.1 hi).1
  exact wpHf_first (T:=fun _=>True) hi (Region.noSelect_spec hB) n1 n2 (fun _ _ _ h=>(h:False).elim) (.inl fun _=>trivial) (.inl fun _ _=>trivial) f (fun _ _=>trivial) listed a w inv (Region.free_spec hi hf) hr' (v:=v)
   (.inl ⟨by simp [Region.wanted],fun w' _=>(h1 w').out n a ha w' (Ext.refl w')⟩) (Ext.refl w) (h.out _ (ha.put hn v) (inv.set hr' hin))⟩
theorem Oper.wp_part {o:Oper} {a:Act} {N:Act→World→Prop} {Q1 Q2:Exit→Act→World→Prop} (hq:∀ e a w,e ≠ .normal→Q1 e a w→Q2 e a w) (hl:LetsOut Q1→LetsOut Q2) (h:o.wp P a w N Q1) : o.wp P a w N Q2:=by
 unfold Oper.wp at *
 generalize (execOp a.eval o).run P w=r at *
 cases r with
 | ok x w' =>
  cases x<;>simp only [Oper.upon] at h ⊢
  case value=>exact h
  case skip=>exact h
  case defer=>exact h
  case row=>exact h
  case enter =>
   refine Calls.mono h fun e w'' he => ?_
   cases e
   ·exact he
   ·exact hq _ _ _ (by simp) he
   ·exact hl he
 | halt x w' =>
  cases x<;>simp only [Oper.upon] at h ⊢
  exact hq _ _ _ (by simp) h
theorem stepF {i:Nat} {o:Oper} {a:Act} {Q1:Exit→Act→World→Prop} {K:Act→World→Prop} (hi:ops[i]?=some o) (hq:∀ e a w,e ≠ .normal→Q1 e a w→NoPanic Q e a w) (hl:LetsOut Q1→LetsOut (NoPanic Q)) (conv:∀ a' w',Q1 .normal a' w'→K a' w') (hs:wpList P ops Q1 [o] a w) : wpOp P ops (NoPanic Q) i K a w:=by
 simp only [wpList] at hs
 unfold wpOp
 simp only [hi]
 by_cases hw:Region.wanted o (yielded ops a.tmps)=true
 ·rw [if_pos hw] at hs ⊢
  rcases hs with hs|⟨h1,h2⟩
  ·exact .inl (Oper.wp_mono conv (Oper.wp_part hq hl hs))
  ·exact .inr ⟨h1,hl h2⟩
 ·rw [if_neg hw] at hs ⊢
  exact conv _ _ hs
theorem SF.one (i:Nat) {o:Oper} (hi:ops[i]?=some o) (hr:Region.ready .any ops listed=[i]) (hw:(!Nat.beq i lst && !Nat.beq i fin)=true) (h:SW P n ops (.eff (SFQ P n ops Q fin lst S2 f (listed.setIfInBounds i true) w)) [o] L w) : SF P n ops Q fin lst S2 (f+1) listed L w :=
 ⟨fun a ha inv=>⟨by rw [hr];simp,fun j hj=>by
  obtain ⟨n1,n2⟩:=nes hw
  have hji:j=i:=by rw [hr] at hj;simpa using hj
  subst hji
  have hin:j<ops.size:=(Array.getElem?_eq_some_iff.1 hi).1
  refine ⟨hin,stepF (Q1:=SFQ P n ops Q fin lst S2 f (listed.setIfInBounds j true) w) hi (fun e a w ne h=>by cases e<;>first|exact h|exact absurd rfl ne) (fun h=>h) (fun a' w' hh=>⟨fun e=>absurd e n1,fun _ e=>absurd e n2,fun _ _=>⟨hh.1,wpHf_mono f (fun w'' h''=>Ext.trans hh.1 h'') _ _ _ (hh.2 (inv.set hj hin))⟩⟩) (h.out a ha)⟩⟩⟩
theorem Post.sf {l:Array Bool} {w0:World} (hx:Ext w0 w) (h:SF P n ops Q fin lst S2 f l L w) : Post n (SFQ P n ops Q fin lst S2 f l w0) .normal L w:=⟨fun a ha=>⟨hx,h.out a ha⟩⟩
theorem SF.turn {o:Oper} (hi:ops[fin]?=some o) (hr:Region.ready .any ops listed=[fin]) (hw:Nat.beq fin lst=false) (h:SW P n ops (.eff (SGQ P n ops Q fin lst S2 f (listed.setIfInBounds fin true))) [o] L w) : SF P n ops Q fin lst S2 (f+1) listed L w :=
 ⟨fun a ha inv=>⟨by rw [hr];simp,fun j hj=>by
  have hji:j=fin:=by rw [hr] at hj;simpa using hj
  have n1:j≠lst:=fun e=>by rw [← hji,e] at hw;simp at hw
  subst hji
  have hin:j<ops.size:=(Array.getElem?_eq_some_iff.1 hi).1
  exact ⟨hin,stepF (Q1:=SGQ P n ops Q j lst S2 f (listed.setIfInBounds j true)) hi (fun e a w ne h=>by cases e<;>first|exact h|exact absurd rfl ne) (fun h=>h) (fun a' w' hh=>⟨fun e=>absurd e n1,fun _ _=>⟨hh.1,hh.2 (inv.set hj hin)⟩,fun _ n2=>absurd rfl n2⟩) (h.out a ha)⟩⟩⟩
theorem Post.sg {l:Array Bool} (hx:S2 w) (h:SG P n ops Q fin lst S2 f l L w) : Post n (SGQ P n ops Q fin lst S2 f l) .normal L w:=⟨fun a ha=>⟨hx,h.out a ha⟩⟩
theorem SG.one (i:Nat) {o:Oper} (hi:ops[i]?=some o) (hr:Region.ready .any ops listed=[i]) (hw:(!Nat.beq i lst && !Nat.beq i fin)=true) (h:SW P n ops (.eff (SGQ P n ops Q fin lst S2 f (listed.setIfInBounds i true))) [o] L w) : SG P n ops Q fin lst S2 (f+1) listed L w :=
 ⟨fun a ha inv=>⟨by rw [hr];simp,fun j hj=>by
  obtain ⟨n1,n2⟩:=nes hw
  have hji:j=i:=by rw [hr] at hj;simpa using hj
  subst hji
  have hin:j<ops.size:=(Array.getElem?_eq_some_iff.1 hi).1
  exact ⟨hin,stepF (Q1:=SGQ P n ops Q fin lst S2 f (listed.setIfInBounds j true)) hi (fun e a w ne h=>by cases e<;>first|exact h|exact absurd rfl ne) (fun h=>h) (fun a' w' hh=>⟨fun e=>absurd e n1,fun _ e=>absurd e n2,fun _ _=>⟨hh.1,hh.2 (inv.set hj hin)⟩⟩) (h.out a ha)⟩⟩⟩
theorem SF.last {o:Oper} (hi:ops[lst]?=some o) (hr:Region.ready .any ops listed=[lst]) (he:Region.ready .any ops (listed.setIfInBounds lst true)=[]) (h:SW P n ops (.eff (NoPanic Q)) [o] L w) : SF P n ops Q fin lst S2 1 listed L w :=
 ⟨fun a ha inv=>⟨by rw [hr];simp,fun j hj=>by
  have hji:j=lst:=by rw [hr] at hj;simpa using hj
  subst hji
  exact ⟨(Array.getElem?_eq_some_iff.1 hi).1,stepF (Q1:=NoPanic Q) hi (fun _ _ _ _ h=>h) (fun h=>h) (fun a' w' hh=>⟨fun _=>⟨he,hh⟩,fun n=>absurd rfl n,fun n=>absurd rfl n⟩) (h.out a ha)⟩⟩⟩
theorem SG.last {o:Oper} (hi:ops[lst]?=some o) (hr:Region.ready .any ops listed=[lst]) (he:Region.ready .any ops (listed.setIfInBounds lst true)=[]) (h:SW P n ops (.eff (NoPanic Q)) [o] L w) : SG P n ops Q fin lst S2 1 listed L w :=
 ⟨fun a ha inv=>⟨by rw [hr];simp,fun j hj=>by
  have hji:j=lst:=by rw [hr] at hj;simpa using hj
  subst hji
  exact ⟨(Array.getElem?_eq_some_iff.1 hi).1,stepF (Q1:=NoPanic Q) hi (fun _ _ _ _ h=>h) (fun h=>h) (fun a' w' hh=>⟨fun _=>⟨he,hh⟩,fun n=>absurd rfl n,fun n=>absurd rfl n⟩) (h.out a ha)⟩⟩⟩
theorem CW.anyF {id:Nat} {l:List Oper} (fin lst:Nat) (S2:World→Prop) (hm:P.follows .mixedOrders=true) (hB:Region.noSelect l.toArray=true) (h:∀ w',Ext w w'→Region.noSelect l.toArray=true→SF P n l.toArray Q fin lst S2 l.length (Array.replicate l.length false) L w') : CW P n (.region id l.toArray true) Q L w :=
 ⟨fun a ha=>by
  refine wp_region_noPanic (wp_region_any hm ?_)
  have h0:=(h _ (Ext.drew w) hB).out a ha ⟨by simp,fun j oj _ hl=>(by rw [getD_replicate_false] at hl;cases hl),fun t h1 h2=>absurd h2 (Nat.not_lt.2 h1)⟩
  have:=wpAny_of_hf _ _ _ _ h0
  simpa using this⟩
end
open Go.RowKit
set_option maxHeartbeats 4000000 in
theorem withBlock_ans (A:Option Addr) (n c:Nat) (l:List Block) (x:Block) (w:World) (hl:Sl w 3 encBk A n l) (hn:(n+1)*24≤140737488355328) :
  Ans Tryz.prog 130 [.slice A n c,.agg (encBk x).toArray] w fun v w' => ∃ B c',v = .slice B (n+1) c'∧Own w' w.heap.size 94 3 encBk B (n+1) c' (insAt l (gtOf l x.At) x):=by
 refine ans_of Tryz.func130 rfl Tryz.ntmps130 rfl ?_
 refine CW.seq (CW.region (SW.box rfl rfl fun b3 w1 hw hb3b hb3 => ?_))
 have hb3w:=hb3b
 have hbd:∀ m,m≤n→(m+1)*24≤140737488355328:=fun m h=>Nat.le_trans (Nat.mul_le_mul_right 24 (Nat.succ_le_succ h)) hn
 clear hn
 have hn:n≤1000000000000000000:=by have:=hbd n (Nat.le_refl _);omega
 have hA:=hl.base
 have hll:=hl.len
 obtain ⟨g,hg0⟩ : ∃ g,gtOf l x.At=g:=⟨_,rfl⟩
 have hgl:g≤l.length:=by rw [← hg0];exact List.findIdx_le_length
 have hg1:∀ h:g<l.length,x.At<l[g].At:=fun h=>by
  subst hg0
  have:=List.findIdx_getElem (w:=h)
  exact of_decide_eq_true this
 have hg2:∀ (j:Nat) (h:j<g),(l[j]'(by omega)).At≤x.At:=fun j h=>by
  subst hg0
  have:=List.not_of_lt_findIdx h
  simpa using this
 rw [hg0]
 clear hg0
 repeat' (first|(first|refine CW.seq ?_|refine CW.region ?_|refine CW.block ?_)|(refine Post.seq ?_)|refine SW.nil ?_|refine SW.pure rfl rfl ?_)
 refine CW.loop (fun s:Nat×Option Addr×Nat=>[(0,.slice A n c),(3,.pointer (some ⟨b3,0,none⟩)),(5,.slice s.2.1 (if g<s.1 then s.1+1 else s.1) s.2.2),(6,.bool (decide (g<s.1))),(7,.int .i64 (s.1:Int))])
  (fun s w'=>s.1≤n∧Ext w w'∧Blk w' b3 94 (encBk x)∧Own w' (b3+1) 94 3 encBk s.2.1 (if g<s.1 then s.1+1 else s.1) s.2.2 (if g<s.1 then insAt (l.take s.1) (g) x else l.take s.1)) (fun s=>n-s.1) (0,none,0)
  ⟨rfl,rfl,rfl,rfl,rfl,trivial⟩ ⟨by omega,hw,hb3,by simpa using Own.nil_ _ _ _ _ _ _⟩ ?_
 clear hw hb3
 rintro ⟨k,B,c'⟩ w' ⟨hk,hw,hb3,hO⟩
 simp only at hk hO ⊢
 have hlo:b3+1≤w'.heap.size:=hb3.lt
 by_cases hkn:k<n
 ·have hkl:=hl.lt hkn
  have et:=List.take_succ_eq_append_getElem hkl
  by_cases hd:g<k
  ·rw [if_pos hd,if_pos hd] at hO
   rw [if_pos hd,decide_eq_true hd]
   repeat' (first|(first|refine CW.seq ?_|refine CW.region ?_|refine CW.block ?_|refine CW.condfr rfl (by with_reducible rfl) ?_|refine CW.condd_t rfl (by omega) ?_|refine CW.skip ?_|(apply CW.quiet1 mixed;(· kernel_rfl);rotate_left;intro w1 hw1;replace hw:=Ext.trans hw hw1;replace hb3:=hb3.ext hw1;replace hO:=hO.ext hw1;clear hw1;rotate_right))|(refine Post.seq ?_)|refine SW.nil ?_|(show SW _ _ _ _ (⟨_,_,_,_,_,some _⟩::_) _ _;refine SW.skip rfl rfl rfl rfl ?_)|refine SW.pure rfl rfl ?_|(show SW _ _ _ _ (⟨_,Op.indexAddr _ _ _,_,_,_,none⟩::_) _ _;refine SW.st (st_indexN rfl rfl (by assumption) (by omega)) rfl ?_)|(show SW _ _ _ _ (⟨_,Op.call ⟨.builtin .len,_,_⟩,_,_,_,none⟩::_) _ _;refine SW.st (st_len rfl) rfl ?_)|(show SW _ _ _ _ (⟨_,Op.load _ _,_,_,_,none⟩::_) _ _;refine SW.st (st_loadsx hw rfl rfl ((hl.all hkn))) rfl ?_)|exact SW.qnil rfl)
   refine SW.build1 rfl rfl rfl rfl rfl fun b w1 hXX hb hB => ?_
   (replace hw:=Ext.trans hw hXX;replace hb3:=hb3.ext hXX;replace hO:=hO.ext hXX)
   refine SW.append hO (Blk.sl1 (enc:=encBk) hB) (by have:=hb3.lt;omega) rfl rfl rfl (hbd _ (by omega)) (by omega) fun A2 c2 w2 hO1 hgr => ?_
   replace hw:=ext_grown hw hgr (Nat.le_trans hb3w (Nat.le_succ _)) hO.row_ge
   replace hb3:=hb3.grown hgr (fun e=>by have:=hO.row_ge b3 e.symm;omega)
   repeat' (first|(refine CW.region ?_)|(first|refine Post.seq ?_|refine Post.blk ?_)|refine SW.nil ?_|refine SW.pure rfl rfl ?_|(show SW _ _ _ _ (⟨_,Op.binOp _ _ _ _ _,_,_,_,none⟩::_) _ _;refine SW.st (st_add rfl rfl (by omega) (by omega)) rfl ?_))
   refine Post.again (k+1,A2,c2) ⟨rfl,rfl,by simp only;rw [if_pos (show g<k+1 by omega)];rfl,by simp only;rw [decide_eq_true (show g<k+1 by omega)];rfl,rfl,trivial⟩ (by simp only;omega) ⟨by simp only;omega,hw,hb3,?_⟩
   simp only
   rw [if_pos (by omega),if_pos (by omega)]
   have e:insAt (l.take (k+1)) (g) x=insAt (l.take k) (g) x++[l[k]]:=by
    unfold insAt
    rw [et,List.take_append_of_le_length (by simp;omega),List.drop_append_of_le_length (by simp;omega)]
    simp only [List.append_assoc]
   rw [e];exact hO1
  ·rw [if_neg hd,if_neg hd] at hO
   rw [if_neg hd,decide_eq_false hd]
   by_cases hge:g=k
   ·have hgt:x.At<l[k].At:=by subst hge;exact hg1 hkl
    repeat' (first|(first|refine CW.seq ?_|refine CW.region ?_|refine CW.block ?_|refine CW.condd_t rfl (by omega) ?_|refine CW.skip ?_|(apply CW.quiet1 mixed;(· kernel_rfl);rotate_left;intro w1 hw1;replace hw:=Ext.trans hw hw1;replace hb3:=hb3.ext hw1;replace hO:=hO.ext hw1;clear hw1;rotate_right))|(refine Post.seq ?_)|refine SW.nil ?_|(show SW _ _ _ _ (⟨_,_,_,_,_,some _⟩::_) _ _;refine SW.want rfl rfl ?_)|refine SW.pure rfl rfl ?_|(show SW _ _ _ _ (⟨_,Op.fieldAddr _ _ _,_,_,_,none⟩::_) _ _;refine SW.st (st_field rfl) rfl ?_)|(show SW _ _ _ _ (⟨_,Op.indexAddr _ _ _,_,_,_,none⟩::_) _ _;refine SW.st (st_indexN rfl rfl (by assumption) (by omega)) rfl ?_)|(show SW _ _ _ _ (⟨_,Op.call ⟨.builtin .len,_,_⟩,_,_,_,none⟩::_) _ _;refine SW.st (st_len rfl) rfl ?_)|(show SW _ _ _ _ (⟨_,Op.load _ _,_,_,_,none⟩::_) _ _;first|refine SW.st (st_loadx hw rfl (hl.fld hkn rfl)) rfl ?_|refine SW.st (st_load rfl (hb3.cell rfl)) rfl ?_|refine SW.st (st_loads rfl rfl ((fun _ _=>hb3.cell))) rfl ?_)|exact SW.qnil rfl)
    refine SW.build1 rfl rfl rfl rfl rfl fun b w1 hXX hb hB => ?_
    (replace hw:=Ext.trans hw hXX;replace hb3:=hb3.ext hXX;replace hO:=hO.ext hXX)
    refine SW.append hO (Blk.sl1 (enc:=encBk) hB) (by have:=hb3.lt;omega) rfl rfl rfl (hbd _ (by omega)) (by omega) fun A2 c2 w2 hO1 hgr => ?_
    replace hw:=ext_grown hw hgr (Nat.le_trans hb3w (Nat.le_succ _)) hO.row_ge
    replace hb3:=hb3.grown hgr (fun e=>by have:=hO.row_ge b3 e.symm;omega)
    repeat' (first|(refine CW.region ?_)|(refine Post.seq ?_)|refine SW.nil ?_|refine SW.pure rfl rfl ?_|(show SW _ _ _ _ (⟨_,Op.indexAddr _ _ _,_,_,_,none⟩::_) _ _;refine SW.st (st_indexN rfl rfl (by assumption) (by omega)) rfl ?_)|(show SW _ _ _ _ (⟨_,Op.load _ _,_,_,_,none⟩::_) _ _;refine SW.st (st_loadsx hw rfl rfl ((hl.all hkn))) rfl ?_))
    refine SW.build1 rfl rfl rfl rfl rfl fun b w1 hXX hb hB => ?_
    (replace hw:=Ext.trans hw hXX;replace hb3:=hb3.ext hXX;replace hO1:=hO1.ext hXX)
    refine SW.append hO1 (Blk.sl1 (enc:=encBk) hB) (by have:=hb3.lt;omega) rfl rfl rfl (hbd _ (by omega)) (by omega) fun A3 c3 w3 hO2 hgr => ?_
    replace hw:=ext_grown hw hgr (Nat.le_trans hb3w (Nat.le_succ _)) hO1.row_ge
    replace hb3:=hb3.grown hgr (fun e=>by have:=hO1.row_ge b3 e.symm;omega)
    repeat' (first|(refine CW.region ?_)|(first|refine Post.seq ?_|refine Post.blk ?_)|refine SW.nil ?_|refine SW.pure rfl rfl ?_|(show SW _ _ _ _ (⟨_,Op.binOp _ _ _ _ _,_,_,_,none⟩::_) _ _;refine SW.st (st_add rfl rfl (by omega) (by omega)) rfl ?_))
    refine Post.again (k+1,A3,c3) ⟨rfl,rfl,by simp only;rw [if_pos (show g<k+1 by omega)];rfl,by simp only;rw [decide_eq_true (show g<k+1 by omega)];rfl,rfl,trivial⟩ (by simp only;omega) ⟨by simp only;omega,hw,hb3,?_⟩
    simp only
    rw [if_pos (by omega),if_pos (by omega)]
    have e:insAt (l.take (k+1)) (g) x=l.take k++[x]++[l[k]]:=by
     unfold insAt
     rw [hge,et,List.take_append_of_le_length (by simp;omega),List.drop_append_of_le_length (by simp;omega),List.take_of_length_le (by simp;omega),List.drop_eq_nil_of_le (by simp;omega)]
     simp
    rw [e];exact hO2
   ·have hle:l[k].At≤x.At:=hg2 k (by omega)
    repeat' (first|(first|refine CW.seq ?_|refine CW.region ?_|refine CW.block ?_|refine CW.condd_t rfl (by omega) ?_|refine CW.condd_f rfl (by omega) ?_|refine CW.skip ?_|(apply CW.quiet1 mixed;(· kernel_rfl);rotate_left;intro w1 hw1;replace hw:=Ext.trans hw hw1;replace hb3:=hb3.ext hw1;replace hO:=hO.ext hw1;clear hw1;rotate_right))|(refine Post.seq ?_)|refine SW.nil ?_|(show SW _ _ _ _ (⟨_,_,_,_,_,some _⟩::_) _ _;refine SW.want rfl rfl ?_)|refine SW.pure rfl rfl ?_|(show SW _ _ _ _ (⟨_,Op.fieldAddr _ _ _,_,_,_,none⟩::_) _ _;refine SW.st (st_field rfl) rfl ?_)|(show SW _ _ _ _ (⟨_,Op.indexAddr _ _ _,_,_,_,none⟩::_) _ _;refine SW.st (st_indexN rfl rfl (by assumption) (by omega)) rfl ?_)|(show SW _ _ _ _ (⟨_,Op.call ⟨.builtin .len,_,_⟩,_,_,_,none⟩::_) _ _;refine SW.st (st_len rfl) rfl ?_)|(show SW _ _ _ _ (⟨_,Op.load _ _,_,_,_,none⟩::_) _ _;first|refine SW.st (st_loadsx hw rfl rfl ((hl.all hkn))) rfl ?_|refine SW.st (st_loadx hw rfl (hl.fld hkn rfl)) rfl ?_|refine SW.st (st_load rfl (hb3.cell rfl)) rfl ?_)|exact SW.qnil rfl)
    refine SW.build1 rfl rfl rfl rfl rfl fun b w1 hXX hb hB => ?_
    (replace hw:=Ext.trans hw hXX;replace hb3:=hb3.ext hXX;replace hO:=hO.ext hXX)
    refine SW.append hO (Blk.sl1 (enc:=encBk) hB) (by have:=hb3.lt;omega) rfl rfl rfl (hbd _ (by omega)) (by omega) fun A2 c2 w2 hO1 hgr => ?_
    replace hw:=ext_grown hw hgr (Nat.le_trans hb3w (Nat.le_succ _)) hO.row_ge
    replace hb3:=hb3.grown hgr (fun e=>by have:=hO.row_ge b3 e.symm;omega)
    repeat' (first|(refine CW.region ?_)|(first|refine Post.seq ?_|refine Post.blk ?_)|refine SW.nil ?_|refine SW.pure rfl rfl ?_|(show SW _ _ _ _ (⟨_,Op.binOp _ _ _ _ _,_,_,_,none⟩::_) _ _;refine SW.st (st_add rfl rfl (by omega) (by omega)) rfl ?_))
    refine Post.again (k+1,A2,c2) ⟨rfl,rfl,by simp only;rw [if_neg (show ¬ g<k+1 by omega)];rfl,by simp only;rw [decide_eq_false (show ¬ g<k+1 by omega)];rfl,rfl,trivial⟩ (by simp only;omega) ⟨by simp only;omega,hw,hb3,?_⟩
    simp only
    rw [if_neg (by omega),if_neg (by omega),et]
    exact hO1
 ·obtain rfl:k=n:=by omega
  rw [List.take_of_length_le (by omega)] at hO
  by_cases hd:g<k
  ·rw [if_pos hd,if_pos hd] at hO
   rw [if_pos hd,decide_eq_true hd]
   repeat' (first|(first|refine CW.seq ?_|refine CW.region ?_|refine CW.condd_f rfl (by omega) ?_|refine CW.condf rfl ?_|refine CW.skip ?_|refine CW.ret ?_|refine CW.exit ?_)|(first|refine Post.seq ?_|refine Post.seq_exit ?_|refine Post.hit ?_|refine Post.again_exit ?_)|refine SW.nil ?_|refine SW.pure rfl rfl ?_|(show SW _ _ _ _ (⟨_,Op.call ⟨.builtin .len,_,_⟩,_,_,_,none⟩::_) _ _;refine SW.st (st_len rfl) rfl ?_))
   exact Post.ret1 rfl rfl ⟨_,rfl,hw,_,_,rfl,hO.low (by omega)⟩
  ·rw [if_neg hd,if_neg hd] at hO
   rw [if_neg hd,decide_eq_false hd]
   repeat' (first|(first|refine CW.seq ?_|refine CW.region ?_|refine CW.condd_f rfl (by omega) ?_|refine CW.condt rfl ?_|refine CW.exit ?_)|(first|refine Post.seq ?_|refine Post.seq_exit ?_|refine Post.hit ?_|refine Post.again_exit ?_)|refine SW.nil ?_|refine SW.pure rfl rfl ?_|(show SW _ _ _ _ (⟨_,Op.call ⟨.builtin .len,_,_⟩,_,_,_,none⟩::_) _ _;refine SW.st (st_len rfl) rfl ?_)|(show SW _ _ _ _ (⟨_,Op.load _ _,_,_,_,none⟩::_) _ _;refine SW.st (st_loads rfl rfl ((fun _ _=>hb3.cell))) rfl ?_))
   refine SW.build1 rfl rfl rfl rfl rfl fun b w1 hXX hb hB => ?_
   (replace hw:=Ext.trans hw hXX;replace hb3:=hb3.ext hXX;replace hO:=hO.ext hXX)
   refine SW.append hO (Blk.sl1 (enc:=encBk) hB) (by have:=hb3.lt;omega) rfl rfl rfl (hbd _ (by omega)) (by omega) fun A2 c2 w2 hO1 hgr => ?_
   replace hw:=ext_grown hw hgr (Nat.le_trans hb3w (Nat.le_succ _)) hO.row_ge
   repeat' (first|(first|refine CW.seq ?_|refine CW.region ?_|refine CW.ret ?_)|(refine Post.seq ?_)|refine SW.nil ?_|refine SW.pure rfl rfl ?_)
   refine Post.ret1 rfl rfl ⟨_,rfl,hw,_,_,rfl,?_⟩
   have e:insAt l (g) x=l++[x]:=by
    unfold insAt
    rw [List.take_of_length_le (by omega),List.drop_eq_nil_of_le (by omega)]
    simp
   rw [e]
   exact hO1.low (by omega)
theorem overC_ans (a o:Int) (b9:Nat) (x:Block) (w:World) (h9:Blk w b9 94 (encBk ⟨a,o,0⟩)) (ho : 0≤o∧o≤4) (ha : 0≤a∧a≤256) (hx : 0≤x.At∧x.At≤256) (hy : 0≤x.Order∧x.Order≤4) :
  Ans Tryz.prog 125 ([.agg (encBk x).toArray]++[.pointer (some ⟨b9,0,none⟩)]) w fun v _=>v = .bool (decide (x.At<a+pw o) && decide (a<x.At+pw x.Order)):=by
 refine ans_of Tryz.func125 rfl Tryz.ntmps125 rfl ?_
 refine CW.seq (CW.region (SW.box rfl rfl fun b2 w1 hw hb2b hb2 => ?_))
 replace h9:=h9.ext hw
 have c1:∀ w',Ans Tryz.prog 119 [.agg (encBk ⟨a,o,0⟩).toArray] w' fun v _=>v = .int .i64 (a+pw o):=fun w'=>Zend_ans ⟨a,o,0⟩ w' ho ha
 have c2:∀ w',Ans Tryz.prog 119 [.agg (encBk x).toArray] w' fun v _=>v = .int .i64 (x.At+pw x.Order):=fun w'=>Zend_ans x w' hy hx
 by_cases h1:x.At<a+pw o
 ·repeat' (first|(first|refine CW.seq ?_|refine CW.ret ?_|(apply CW.quiet1 mixed;(· kernel_rfl);rotate_left;intro w1 hw1;replace hw:=Ext.trans hw hw1;replace hb2:=hb2.ext hw1;replace h9:=h9.ext hw1;clear hw1;rotate_right))|(refine Post.seq ?_)|refine SW.nil ?_|(show SW _ _ _ _ (⟨_,_,_,_,_,some _⟩::_) _ _;first|refine SW.want_t rfl rfl (by with_reducible rfl) ?_|refine SW.splitd_t rfl rfl rfl (by omega) ?_)|refine SW.pure rfl rfl ?_|(show SW _ _ _ _ (⟨_,Op.fieldAddr _ _ _,_,_,_,none⟩::_) _ _;refine SW.st (st_field rfl) rfl ?_)|(show SW _ _ _ _ (⟨_,Op.load _ _,_,_,_,none⟩::_) _ _;first|refine SW.st (st_load rfl (hb2.cell rfl)) rfl ?_|refine SW.st (st_loads rfl rfl ((fun _ _=>hb2.cell))) rfl ?_|refine SW.st (st_load rfl (h9.cell rfl)) rfl ?_|refine SW.st (st_loads rfl rfl ((fun _ _=>h9.cell))) rfl ?_)|(show SW _ _ _ _ (⟨_,Op.call ⟨.value (.func _),_,_⟩,_,_,_,none⟩::_) _ _;first|refine SW.qcall rfl rfl (fun w1 hw1=>(c1 _)) ?_|refine SW.qcall rfl rfl (fun w1 hw1=>(c2 _)) ?_)|exact SW.qnil rfl)
  exact Post.ret1 rfl rfl ⟨_,rfl,hw,by simp [h1]⟩
 ·repeat' (first|(first|refine CW.seq ?_|refine CW.ret ?_|(apply CW.quiet1 mixed;(· kernel_rfl);rotate_left;intro w1 hw1;replace hw:=Ext.trans hw hw1;replace hb2:=hb2.ext hw1;replace h9:=h9.ext hw1;clear hw1;rotate_right))|(refine Post.seq ?_)|refine SW.nil ?_|(show SW _ _ _ _ (⟨_,_,_,_,_,some _⟩::_) _ _;first|refine SW.skip_t rfl rfl (by with_reducible rfl) rfl ?_|refine SW.splitd_f rfl rfl rfl (by omega) ?_)|refine SW.pure rfl rfl ?_|(show SW _ _ _ _ (⟨_,Op.fieldAddr _ _ _,_,_,_,none⟩::_) _ _;refine SW.st (st_field rfl) rfl ?_)|(show SW _ _ _ _ (⟨_,Op.load _ _,_,_,_,none⟩::_) _ _;first|refine SW.st (st_load rfl (hb2.cell rfl)) rfl ?_|refine SW.st (st_loads rfl rfl ((fun _ _=>h9.cell))) rfl ?_)|(show SW _ _ _ _ (⟨_,Op.call ⟨.value (.func _),_,_⟩,_,_,_,none⟩::_) _ _;refine SW.qcall rfl rfl (fun w1 hw1=>(c1 _)) ?_)|exact SW.qnil rfl)
  exact Post.ret1 rfl rfl ⟨_,rfl,hw,by simp [h1]⟩
theorem ZoneCopy_ans (r:ZRow) (z:Zone) (w:World) (hr:RdZ w r z) (hn:r.Free.n*24≤140737488355328) (hm:r.Types.n*8≤140737488355328) :
  Ans Tryz.prog 35 [.agg (encZ r).toArray] w fun v w' => ∃ s,v = .agg (encZ s).toArray∧OwnZ w' w.heap.size s z:=by
 refine ans_of Tryz.func35 rfl Tryz.ntmps35 rfl ?_
 refine CW.seq (CW.region (SW.box rfl rfl fun b w1 hw hb hB => ?_))
 refine SW.alloc rfl fun b2 w2 hw2 hb2b hb2 => ?_
 have hb2w:w.heap.size≤b2:=Nat.le_trans hw.size hb2b
 (replace hw:=Ext.trans hw hw2;replace hB:=hB.ext hw2)
 repeat' (first|(refine CW.seq ?_)|(refine Post.seq ?_)|refine SW.nil ?_)
 refine CW.any 10 mixed (rb_tail (by kernel_rfl)) rfl fun w1 hw1 hRB => ?_
 replace hw:=Ext.trans hw hw1;replace hB:=hB.ext hw1;replace hb2:=hb2.ext hw1;clear hw1
 refine SA.take 0 hRB rfl (by kernel_rfl) (by kernel_rfl) rfl ?_
 repeat ((show SW _ _ _ _ (⟨_,Op.fieldAddr _ _ _,_,_,_,none⟩::_) _ _;refine SW.st (st_field rfl) rfl ?_))
 refine SW.tknil ?_
 refine SA.take 1 hRB rfl (by kernel_rfl) (by kernel_rfl) rfl ?_
 repeat ((show SW _ _ _ _ (⟨_,Op.load _ _,_,_,_,none⟩::_) _ _;refine SW.st (st_load rfl (hB.cell rfl)) rfl ?_))
 refine SW.tknil ?_
 refine SA.take 2 hRB rfl (by kernel_rfl) (by kernel_rfl) rfl ?_
 repeat ((show SW _ _ _ _ (⟨_,Op.fieldAddr _ _ _,_,_,_,none⟩::_) _ _;refine SW.st (st_field rfl) rfl ?_))
 refine SW.tknil ?_
 refine SA.take 3 hRB rfl (by kernel_rfl) (by kernel_rfl) rfl ?_
 repeat ((show SW _ _ _ _ (⟨_,Op.load _ _,_,_,_,none⟩::_) _ _;refine SW.st (st_load rfl (hB.cell rfl)) rfl ?_))
 refine SW.tknil ?_
 refine SA.take 4 hRB rfl (by kernel_rfl) (by kernel_rfl) rfl ?_
 repeat ((show SW _ _ _ _ (⟨_,Op.fieldAddr _ _ _,_,_,_,none⟩::_) _ _;refine SW.st (st_field rfl) rfl ?_))
 refine SW.tknil ?_
 refine SA.take 5 hRB rfl (by kernel_rfl) (by kernel_rfl) rfl ?_
 repeat ((show SW _ _ _ _ (⟨_,Op.load _ _,_,_,_,none⟩::_) _ _;refine SW.st (st_load rfl (hB.cell rfl)) rfl ?_))
 refine SW.tknil ?_
 refine SA.take 7 hRB rfl (by kernel_rfl) (by kernel_rfl) rfl ?_
 repeat ((show SW _ _ _ _ (⟨_,Op.fieldAddr _ _ _,_,_,_,none⟩::_) _ _;refine SW.st (st_field rfl) rfl ?_))
 refine SW.tknil ?_
 refine SA.take 8 hRB rfl (by kernel_rfl) (by kernel_rfl) rfl ?_
 repeat ((show SW _ _ _ _ (⟨_,Op.load _ _,_,_,_,none⟩::_) _ _;refine SW.st (st_load rfl (hB.cell rfl)) rfl ?_))
 refine SW.tknil ?_
 refine SA.one 6 rfl (by kernel_rfl) rfl ?_
 refine SW.call rfl rfl (blocks_ans _ _ _ _ _ (hr.free.ext hw) hn) fun v w4 hXX hv => ?_
 obtain ⟨X,c4,rfl,hX⟩:=hv
 replace hX:=hX.low hw.size
 (replace hw:=Ext.trans hw hXX;replace hB:=hB.ext hXX;replace hb2:=hb2.ext hXX)
 refine SW.nil (Post.sa hXX ?_)
 refine SA.one 9 rfl (by kernel_rfl) rfl ?_
 refine SW.call rfl rfl (words_ans _ _ _ _ _ (hr.types.ext hw) hm) fun v w4 hXX hv => ?_
 obtain ⟨Y,d4,rfl,hY⟩:=hv
 replace hY:=hY.low hw.size
 (replace hw:=Ext.trans hw hXX;replace hB:=hB.ext hXX;replace hb2:=hb2.ext hXX;replace hX:=hX.ext hXX)
 refine SW.nil (Post.sa hXX ?_)
 refine SA.done (by kernel_rfl) ?_
 repeat' ((show SW _ _ _ _ (⟨_,Op.build _ _,_,_,_,none⟩::_) _ _;refine SW.st (st_build rfl rfl) rfl ?_))
 refine SW.storeAgg hb2 rfl rfl rfl rfl (one_z ⟨r.From,r.To,⟨X,r.Free.n,c4⟩,⟨Y,r.Types.n,d4⟩⟩) fun w7 hR2 hg => ?_
 have hG:=hb2.gr hg
 replace hw:=hw.own hb2w hg
 (replace hX:=hX.grT hG rfl;replace hY:=hY.grT hG rfl)
 repeat' (first|(refine CW.ret ?_)|(first|refine Post.seq ?_|refine Post.np ?_)|refine SW.nil ?_)
 exact Post.ret1c rfl rfl hR2 rfl ⟨_,rfl,hw,⟨r.From,r.To,⟨X,r.Free.n,c4⟩,⟨Y,r.Types.n,d4⟩⟩,rfl,⟨hr.from_,hr.to_,hX,hY⟩⟩
end Go.Proofs.YtigikedbffjeiaaGreat
