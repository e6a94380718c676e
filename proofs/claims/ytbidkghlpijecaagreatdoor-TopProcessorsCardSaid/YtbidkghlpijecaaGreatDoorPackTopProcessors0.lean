/-
  Texts of the claim TopProcessors, part 0: what its theorem leans on.
-/
import Derived.WalkKit
import Derived.Deep.Quiet
import Derived.KernelRfl
import Derived.WalkLawsBesides
import Derived.WalkSpells
set_option linter.unusedVariables false
set_option linter.unusedSimpArgs false
namespace Go.Proofs.YtbidkghlpijecaaGreatDoor
open Go.RowKit
abbrev Env:=List (Nat×Value)
def get:Env→Nat→Option Value
 | [],_=>none
 | (i,v)::r,j=>bif Nat.beq i j then some v else get r j
structure Fit (n:Nat) (a:Act) (L:Env) : Prop where
 size:a.tmps.size=n
 defers:a.defers=[]
 has:∀ i v,get L i=some v→a.tmps.getD i undef=v
def cg (L:Env) : Operand→Option Value
 | .tmp t=>get L t
 | .const v=>some v
 | .global g=>some (.pointer (some ⟨g,0,none⟩))
 | .func f=>some (.func (.func f) #[] #[])
theorem Fit.eval {n:Nat} {a:Act} {L:Env} (h:Fit n a L) {x:Operand} {v:Value} (hx:cg L x=some v) : a.eval x=v:=by
 cases x with
 | tmp t=>exact h.has _ _ hx
 | const c=>simpa [cg,Act.eval] using hx
 | global g=>simpa [cg,Act.eval] using hx
 | func f=>simpa [cg,Act.eval] using hx
theorem Fit.put {n:Nat} {a:Act} {L:Env} (h:Fit n a L) {d:Nat} (hd:Nat.blt d n=true) (v:Value) : Fit n (a.put (some d) v) ((d,v)::L):=by
 have S0:d<n:=by simpa using hd
 refine ⟨by simp [Act.put,h.size],by simp [Act.put,h.defers],?_⟩;intro i u hu;simp only [get,cond_eq_ite] at hu;simp only [Act.put];by_cases e:d=i
 ·subst e;simp at hu;subst hu;simp [Array.getD_eq_getD_getElem?,h.size,S0]
 ·have hb:Nat.beq d i=false:=by
   cases hb:Nat.beq d i
   ·rfl
   ·exact absurd (Nat.eq_of_beq_eq_true hb) e
  rw [hb] at hu;have:=h.has i u (by simpa using hu)
  rw [← this];simp [Array.getD_eq_getD_getElem?,e]
theorem Fit.Gm {n:Nat} {a:Act} {L:Env} (h:Fit n a L) (v:Value) : Fit n (a.put none v) L:=h
theorem Fit.less {n:Nat} {a:Act} {L L':Env} (h:Fit n a L) (hs:∀ i v,get L' i=some v→get L i=some v) : Fit n a L' :=
 ⟨h.size,h.defers,fun i v hv=>h.has i v (hs i v hv)⟩
def jd (L:Env) : Env→Prop
 | []=>True
 | (i,v)::r=>get L i=some v∧jd L r
theorem DM {L:Env}:∀ {L':Env},jd L L' → ∀ i v,get L' i=some v→get L i=some v
 | [],_,_,_,h=>by simp [get] at h
 | (j,u)::r,hs,i,v,h=>by
   simp only [get,cond_eq_ite] at h;by_cases e:Nat.beq j i=true
   ·rw [if_pos e] at h;obtain rfl:=Nat.eq_of_beq_eq_true e;simp at h;subst h;exact hs.1
   ·rw [if_neg e] at h;exact DM hs.2 i v h
theorem Fit.sub {n:Nat} {a:Act} {L L':Env} (h:Fit n a L) (hs:jd L L') : Fit n a L':=h.less (DM hs)
abbrev Ext (w w':World) : Prop:=Below w.heap.size w w'
theorem Ext.refl (w:World) : Ext w w:=Below.refl _ _
theorem Ext.trans {a b c:World} (h:Ext a b) (k:Ext b c) : Ext a c:=Below.trans h (Below.mono k h.size)
theorem Ext.cell {w w':World} (h:Ext w w') {a:Addr} {v:Value} (hc:w.cell? a=some v) : w'.cell? a=some v :=
 (Below.cell h (World.block_lt_of_cell? w a hc)).trans hc
theorem Ext.alloc (w:World) (o:Obj) : Ext w (w.alloc o):=(Below.refl _ _).alloc (Nat.le_refl _) _
theorem Ext.drew (w:World) : Ext w w.drew:=(Below.refl _ _).drew
structure CW (P:Program) (n:Nat) (c:Code) (Q:Exit→Act→World→Prop) (L:Env) (w:World) : Prop where
 out:∀ a,Fit n a L→c.wp P Q a w
inductive Md where
 | gw (Q:Exit→Act→World→Prop)
 | I2 (K:Env→Prop)
 | tk (K:Env→Prop)
def yR (P:Program) (ops:Array Oper) (C:World→Prop) (Q:Act→Prop) : List Oper→Act→Prop
 | [],a=>Q a
 | o::rest,a=>if Region.wanted o (yielded ops a.tmps) then ∃ v,(∀ w',C w'→(execOp a.eval o).run P w' = .ok (.value v) w')∧yR P ops C Q rest (a.put o.dst v) else yR P ops C Q rest (a.put o.dst undef)
def swp (P:Program) (n:Nat) (ops:Array Oper) (w:World) : Md→List Oper→Act→Prop
 | .gw Q,rest,a=>wpList P ops Q rest a w
 | .I2 K,rest,a=>wpQuiet P ops (fun w'=>Ext w w') (fun a' => ∃ L',Fit n a' L'∧K L') rest a
 | .tk K,rest,a=>yR P ops (fun w'=>Ext w w') (fun a' => ∃ L',Fit n a' L'∧K L') rest a
structure SW (P:Program) (n:Nat) (ops:Array Oper) (M:Md) (rest:List Oper) (L:Env) (w:World) : Prop where
 out:∀ a,Fit n a L→swp P n ops w M rest a
structure St (P:Program) (o:Oper) (L:Env) (w:World) (v:Value) : Prop where
 out:∀ n a,Fit n a L → ∀ w',Ext w w'→(execOp a.eval o).run P w' = .ok (.value v) w'
structure ah (n:Nat) (Q:Exit→Act→World→Prop) (e:Exit) (L:Env) (w:World) : Prop where
 out:∀ a,Fit n a L→Q e a w
def I3 (P:Program) (y:Code) (Q:Exit→Act→World→Prop) : Exit→Act→World→Prop:=Exit.then (y.wp P Q) Q
section
variable {P:Program} {n:Nat} {ops:Array Oper} {Q:Exit→Act→World→Prop} {M:Md} {rest:List Oper} {L:Env} {w:World}
theorem uX {a:Act} (h:Fit n a L) {j d:Nat} {b:Bool} (hd:(ops[j]?).bind (·.dst)=some d) (hb:get L d=some (.bool b)) : yielded ops a.tmps j=some b:=by
 have:=h.has _ _ hb
 rw [Array.getD_eq_getD_getElem?] at this;unfold yielded;rw [hd];cases ht:a.tmps[d]? with
 | none=>rw [ht] at this;cases this
 | some u=>rw [ht] at this;simp at this;simp [ht,this]
theorem SW.want {d':Option Nat} {op:Op} {T:TypeId} {pos:String} {af:Array Edge} {j d:Nat} {b:Bool} (hd:(ops[j]?).bind (·.dst)=some d) (hb:get L d=some (.bool b))
 (h:SW P n ops M (⟨d',op,T,pos,af,none⟩::rest) L w) : SW P n ops M (⟨d',op,T,pos,af,some (j,b)⟩::rest) L w :=
 ⟨fun a ha=>by
  have:=h.out a ha
  cases M<;>simp only [swp,wpList,wpQuiet,yR,Region.wanted,if_true,uX ha hd hb,BEq.rfl] at this ⊢<;>exact this⟩
theorem SW.skip {op:Op} {T:TypeId} {pos:String} {af:Array Edge} {j d d':Nat} {b c:Bool} (hd:(ops[j]?).bind (·.dst)=some d) (hb:get L d=some (.bool c)) (bW:(c == b)=false)
 (hn:Nat.blt d' n=true) (h:SW P n ops M rest ((d',undef)::L) w) : SW P n ops M (⟨some d',op,T,pos,af,some (j,b)⟩::rest) L w :=
 ⟨fun a ha=>by
  have PE:(some c == some b)=false:=by simpa using bW
  have:=h.out _ (ha.put hn undef)
  cases M<;>simp only [swp,wpList,wpQuiet,yR,Region.wanted,uX ha hd hb,PE,Bool.false_eq_true,if_false] at this ⊢<;>exact this⟩
theorem SW.j5 {op:Op} {T:TypeId} {pos:String} {af:Array Edge} {j d d':Nat} {b:Bool} (hd:(ops[j]?).bind (·.dst)=some d) (hb:get L d=some undef)
 (hn:Nat.blt d' n=true) (h:SW P n ops M rest ((d',undef)::L) w) : SW P n ops M (⟨some d',op,T,pos,af,some (j,b)⟩::rest) L w :=
 ⟨fun a ha=>by
  have hy:yielded ops a.tmps j=none:=by
   have:=ha.has _ _ hb
   rw [Array.getD_eq_getD_getElem?] at this;unfold yielded;rw [hd];cases ht:a.tmps[d]? with
   | none=>simp [ht]
   | some u=>rw [ht] at this;simp at this;subst this;simp [ht,undef]
  have PE:((none:Option Bool) == some b)=false:=rfl
  have:=h.out _ (ha.put hn undef)
  cases M<;>simp only [swp,wpList,wpQuiet,yR,Region.wanted,hy,PE,Bool.false_eq_true,if_false] at this ⊢<;>exact this⟩
section
variable {d':Option Nat} {op:Op} {T:TypeId} {pos:String} {af:Array Edge} {j d e:Nat} {v:Value}
theorem SW.uY (hd:(ops[j]?).bind (·.dst)=some d) (hb:get L d=some v) (hv:v = .bool true) (h:SW P n ops M (⟨d',op,T,pos,af,none⟩::rest) L w) : SW P n ops M (⟨d',op,T,pos,af,some (j,true)⟩::rest) L w:=SW.want hd (hb.trans (by rw [hv])) h
theorem SW.uZ (hd:(ops[j]?).bind (·.dst)=some d) (hb:get L d=some v) (hv:v = .bool false) (h:SW P n ops M (⟨d',op,T,pos,af,none⟩::rest) L w) : SW P n ops M (⟨d',op,T,pos,af,some (j,false)⟩::rest) L w:=SW.want hd (hb.trans (by rw [hv])) h
theorem SW.u5 (hd:(ops[j]?).bind (·.dst)=some d) (hb:get L d=some v) (hv:v = .bool false) (hn:Nat.blt e n=true) (h:SW P n ops M rest ((e,undef)::L) w) : SW P n ops M (⟨some e,op,T,pos,af,some (j,true)⟩::rest) L w:=SW.skip (c:=false) hd (hb.trans (by rw [hv])) rfl hn h
theorem SW.u6 (hd:(ops[j]?).bind (·.dst)=some d) (hb:get L d=some v) (hv:v = .bool true) (hn:Nat.blt e n=true) (h:SW P n ops M rest ((e,undef)::L) w) : SW P n ops M (⟨some e,op,T,pos,af,some (j,false)⟩::rest) L w:=SW.skip (c:=true) hd (hb.trans (by rw [hv])) rfl hn h
theorem SW.u7 {b:Bool} (hd:(ops[j]?).bind (·.dst)=some d) (hb:get L d=some v) (hv:v=undef) (hn:Nat.blt e n=true) (h:SW P n ops M rest ((e,undef)::L) w) : SW P n ops M (⟨some e,op,T,pos,af,some (j,b)⟩::rest) L w:=SW.j5 hd (hb.trans (by rw [hv])) hn h
end
theorem Fit.known {a:Act} {d:Nat} {c b':Bool} (hb:get L d=some (.bool c)) (e:c=b') (ha:Fit n a L) : Fit n a ((d,.bool b')::L):=ha.less fun i v hv=>by
 simp only [get,cond_eq_ite] at hv;by_cases e':Nat.beq d i=true
 ·rw [if_pos e'] at hv;obtain rfl:=Nat.eq_of_beq_eq_true e';rw [← hv,← e,hb]
 ·rw [if_neg e'] at hv;exact hv
section
variable {o:Oper} {j d:Nat} {b c:Bool} {p:Prop} [Decidable p]
theorem SW.split (Vb:o.guard=some (j,b)) (Vc:(ops[j]?).bind (·.dst)=some d) (hb:get L d=some (.bool c))
 (h1:c=true→SW P n ops M (o::rest) ((d,.bool true)::L) w) (h0:c=false→SW P n ops M (o::rest) ((d,.bool false)::L) w) : SW P n ops M (o::rest) L w:=by
 cases c
 ·exact ⟨fun a ha=>(h0 rfl).out a (ha.known hb rfl)⟩
 ·exact ⟨fun a ha=>(h1 rfl).out a (ha.known hb rfl)⟩
theorem SW.cw (hg:o.guard=some (j,b)) (hd:(ops[j]?).bind (·.dst)=some d) (hb:get L d=some (.bool (decide p)))
 (h1:p→SW P n ops M (o::rest) ((d,.bool true)::L) w) (h0 : ¬ p→SW P n ops M (o::rest) ((d,.bool false)::L) w) : SW P n ops M (o::rest) L w :=
 SW.split hg hd hb (fun e=>h1 (of_decide_eq_true e)) (fun e=>h0 (of_decide_eq_false e))
theorem SW.fa (hg:o.guard=some (j,b)) (hd:(ops[j]?).bind (·.dst)=some d) (hb:get L d=some (.bool (!decide p)))
 (h1 : ¬ p→SW P n ops M (o::rest) ((d,.bool true)::L) w) (h0:p→SW P n ops M (o::rest) ((d,.bool false)::L) w) : SW P n ops M (o::rest) L w :=
 SW.split hg hd hb (fun e=>h1 (by simpa using e)) (fun e=>h0 (by simpa using e))
theorem SW.ou (hg:o.guard=some (j,b)) (hd:(ops[j]?).bind (·.dst)=some d) (hb:get L d=some (.bool (decide p))) (hp:p) (h1:SW P n ops M (o::rest) ((d,.bool true)::L) w) : SW P n ops M (o::rest) L w:=SW.cw hg hd hb (fun _=>h1) (fun e=>absurd hp e)
theorem SW.ov (hg:o.guard=some (j,b)) (hd:(ops[j]?).bind (·.dst)=some d) (hb:get L d=some (.bool (decide p))) (hp : ¬ p) (h0:SW P n ops M (o::rest) ((d,.bool false)::L) w) : SW P n ops M (o::rest) L w:=SW.cw hg hd hb (fun e=>absurd e hp) (fun _=>h0)
theorem SW.ow (hg:o.guard=some (j,b)) (hd:(ops[j]?).bind (·.dst)=some d) (hb:get L d=some (.bool (!decide p))) (hp : ¬ p) (h1:SW P n ops M (o::rest) ((d,.bool true)::L) w) : SW P n ops M (o::rest) L w:=SW.fa hg hd hb (fun _=>h1) (fun e=>absurd e hp)
theorem SW.ox (hg:o.guard=some (j,b)) (hd:(ops[j]?).bind (·.dst)=some d) (hb:get L d=some (.bool (!decide p))) (hp:p) (h0:SW P n ops M (o::rest) ((d,.bool false)::L) w) : SW P n ops M (o::rest) L w:=SW.fa hg hd hb (fun e=>absurd hp e) (fun _=>h0)
end
theorem SW.st {op:Op} {T:TypeId} {pos:String} {af:Array Edge} {v:Value} {d:Nat} (hs:St P ⟨some d,op,T,pos,af,none⟩ L w v) (hn:Nat.blt d n=true) (h:SW P n ops M rest ((d,v)::L) w) : SW P n ops M (⟨some d,op,T,pos,af,none⟩::rest) L w :=
 ⟨fun a ha=>by
  have h':=h.out _ (ha.put hn v);cases M with
  | gw Q =>
    simp only [swp,wpList,Region.wanted,if_true];refine .inl ?_;unfold Oper.wp;rw [hs.out n a ha w (Ext.refl w),Oper.upon_value];exact h'
  | I2 K =>
    simp only [swp,wpQuiet,Region.wanted,if_true];refine ⟨v,fun w' yS => ?_,h'⟩;unfold Oper.quietAt;rw [hs.out n a ha w' yS];exact ⟨rfl,rfl⟩
  | tk K =>
    simp only [swp,yR,Region.wanted,if_true];exact ⟨v,fun w' yS=>hs.out n a ha w' yS,h'⟩⟩
def Gn:IntKind→IntKind→Bool
 | .i64,.i64 | .u8,.u8 | .u64,.u64 | .i32,.i32 | .u32,.u32=>true
 | _,_=>false
theorem Gp {a b:IntKind} (h:Gn a b=true) : a=b:=by cases a<;>cases b<;>simp [Gn] at h<;>rfl
def Le (op:BinOp) (i j:Int) : Option Value :=
 match op with
 | .lss=>some (.bool (decide (i<j)))
 | .leq=>some (.bool (decide (i≤j)))
 | .gtr=>some (.bool (decide (j<i)))
 | .geq=>some (.bool (decide (j≤i)))
 | .eql=>some (.bool (decide (i=j)))
 | .neq=>some (.bool (!decide (i=j)))
 | _=>none
def tq (L:Env) : Op→Option Value
 | .move x=>cg L x
 | .assign x=>cg L x
 | .pick c x y=>match cg L c with
   | some (.bool true)=>cg L x
   | some (.bool false)=>cg L y
   | _=>none
 | .unOp .not _ x=>match cg L x with
   | some (.bool b)=>some (.bool !b)
   | _=>none
 | .binOp op _ x y _=>match cg L x,cg L y with
   | some (.int k i),some (.int k' j)=>bif Gn k k' then Le op i j else none
   | _,_=>none
 | .extract x i=>match cg L x with
   | some (.tuple vs)=>vs[i]?
   | _=>none
 | _=>none
section
variable {d:Option Nat} {T:TypeId} {pos:String} {af:Array Edge} {g:Option (Nat×Bool)} {v:Value}
theorem Np {x:Operand} (h:cg L x=some v) : St P ⟨d,.move x,T,pos,af,g⟩ L w v:=⟨fun _ a ha w' _=>by simp [execOp,ha.eval h]⟩
theorem Nq {x:Operand} (h:cg L x=some v) : St P ⟨d,.assign x,T,pos,af,g⟩ L w v:=⟨fun _ a ha w' _=>by simp [execOp,ha.eval h]⟩
theorem DN {c x y:Operand} {b:Bool} (hc:cg L c=some (.bool b)) (h:cg L (if b then x else y)=some v) : St P ⟨d,.pick c x y,T,pos,af,g⟩ L w v :=
 ⟨fun _ a ha w' _=>by
  have e1:=ha.eval hc;have e2:=ha.eval h;generalize a.eval = ρ at *
  cases b
  ·have e3 : ρ y=v:=e2
   simp [go_sem,e1,e3]
  ·have e3 : ρ x=v:=e2
   simp [go_sem,e1,e3]⟩
theorem Lg {t:TypeId} {x:Operand} {b:Bool} (hx:cg L x=some (.bool b)) : St P ⟨d,.unOp .not t x,T,pos,af,g⟩ L w (.bool !b) :=
 ⟨fun _ a ha w' _=>by have e1:=ha.eval hx;generalize a.eval = ρ at *;simp [go_sem,e1,Op.unary]⟩
theorem Lh {op:BinOp} {t ty:TypeId} {x y:Operand} {k:IntKind} {i j:Int} (hx:cg L x=some (.int k i)) (hy:cg L y=some (.int k j)) (h:Le op i j=some v) : St P ⟨d,.binOp op t x y ty,T,pos,af,g⟩ L w v :=
 ⟨fun _ a ha w' _=>by
  have e1:=ha.eval hx;have e2:=ha.eval hy;generalize a.eval = ρ at *
  cases op<;>simp only [Le,Option.some.injEq,reduceCtorEq] at h
  all_goals subst h
  all_goals simp [go_sem,e1,e2]
  all_goals rfl⟩
theorem Cg {x:Operand} {i:Nat} {vs:Array Value} (hx:cg L x=some (.tuple vs)) (h:vs[i]?=some v) : St P ⟨d,.extract x i,T,pos,af,g⟩ L w v :=
 ⟨fun _ a ha w' _=>by simp [execOp,ha.eval hx,Instr.extract,h]⟩
theorem bo {o:Op} (h:tq L o=some v) : St P ⟨d,o,T,pos,af,g⟩ L w v:=by
 cases o
 case move x=>exact Np h
 case assign x=>exact Nq h
 case pick c x y =>
  simp only [tq] at h;split at h
  ·exact DN (b:=true) ‹_› h
  ·exact DN (b:=false) ‹_› h
  ·cases h
 case unOp op t x =>
  cases op
  case not =>
   simp only [tq] at h;split at h
   ·cases h;exact Lg ‹_›
   ·cases h
  all_goals simp [tq] at h
 case binOp op t x y ty =>
  simp only [tq] at h;split at h
  ·simp only [cond_eq_ite] at h;split at h
   ·rename_i hk;obtain rfl:=Gp hk;exact Lh ‹_› ‹_› h
   ·cases h
  ·cases h
 case extract x i =>
  simp only [tq] at h;split at h
  ·exact Cg ‹_› h
  ·cases h
 all_goals simp [tq] at h
end
theorem SW.pure {op:Op} {T:TypeId} {pos:String} {af:Array Edge} {v:Value} {d:Nat} (hs:tq L op=some v) (hn:Nat.blt d n=true) (h:SW P n ops M rest ((d,v)::L) w) : SW P n ops M (⟨some d,op,T,pos,af,none⟩::rest) L w :=
 SW.st (bo hs) hn h
theorem SW.dF {K:Env→Prop} (h:K L) : SW P n ops (.I2 K) [] L w:=⟨fun _ ha=>⟨L,ha,h⟩⟩
theorem SW.ai {K:Env→Prop} (h:K L) : SW P n ops (.tk K) [] L w:=⟨fun _ ha=>⟨L,ha,h⟩⟩
theorem SW.nil (h:ah n Q .normal L w) : SW P n ops (.gw Q) [] L w:=⟨fun a ha=>h.out a ha⟩
theorem ah.seq {y:Code} (h:CW P n y Q L w) : ah n (I3 P y Q) .normal L w:=⟨fun a ha=>h.out a ha⟩
theorem ah.um {y:Code} (h:ah n Q .ret L w) : ah n (I3 P y Q) .ret L w:=⟨fun a ha=>h.out a ha⟩
theorem ah.qP {y:Code} {id:Nat} (h:ah n Q (.exit id) L w) : ah n (I3 P y Q) (.exit id) L w:=⟨fun a ha=>h.out a ha⟩
theorem CW.seq {x y:Code} (h:CW P n x (I3 P y Q) L w) : CW P n (.seq x y) Q L w:=⟨fun a ha=>wp_seq (h.out a ha)⟩
theorem CW.skip (h:ah n Q .normal L w) : CW P n .skip Q L w:=⟨fun a ha=>wp_skip (h.out a ha)⟩
theorem CW.ret (h:ah n Q .ret L w) : CW P n .ret Q L w:=⟨fun a ha=>wp_ret (h.out a ha)⟩
theorem CW.exit {id:Nat} (h:ah n Q (.exit id) L w) : CW P n (.exit id) Q L w:=⟨fun a ha=>wp_exit (h.out a ha)⟩
theorem CW.block {id:Nat} {c:Code} (h:CW P n c (Exit.inBlock id Q) L w) : CW P n (.block id c) Q L w:=⟨fun a ha=>wp_block (h.out a ha)⟩
theorem CW.cond {c:Operand} {x y:Code} {b:Bool} (hc:cg L c=some (.bool b)) (h1:b=true→CW P n x Q L w) (h0:b=false→CW P n y Q L w) : CW P n (.cond c x y) Q L w :=
 ⟨fun a ha=>wp_cond_split (ha.eval hc) (fun e=>(h1 e).out a ha) (fun e=>(h0 e).out a ha)⟩
theorem CW.dh {c:Operand} {x y:Code} (hc:cg L c=some (.bool true)) (h:CW P n x Q L w) : CW P n (.cond c x y) Q L w:=CW.cond hc (fun _=>h) (fun e=>by cases e)
theorem CW.di {c:Operand} {x y:Code} (hc:cg L c=some (.bool false)) (h:CW P n y Q L w) : CW P n (.cond c x y) Q L w:=CW.cond hc (fun e=>by cases e) (fun _=>h)
theorem CW.gG {c:Operand} {x y:Code} {p:Prop} [Decidable p] (hc:cg L c=some (.bool (decide p))) (h1:p→CW P n x Q L w) (h0 : ¬ p→CW P n y Q L w) : CW P n (.cond c x y) Q L w :=
 CW.cond hc (fun e=>h1 (of_decide_eq_true e)) (fun e=>h0 (of_decide_eq_false e))
theorem CW.jB {c:Operand} {x y:Code} {p:Prop} [Decidable p] (hc:cg L c=some (.bool (!decide p))) (h1 : ¬ p→CW P n x Q L w) (h0:p→CW P n y Q L w) : CW P n (.cond c x y) Q L w :=
 CW.cond hc (fun e=>h1 (by simpa using e)) (fun e=>h0 (by simpa using e))
theorem CW.uo {c:Operand} {x y:Code} {p:Prop} [Decidable p] (hc:cg L c=some (.bool (decide p))) (hp:p) (h1:CW P n x Q L w) : CW P n (.cond c x y) Q L w:=CW.gG hc (fun _=>h1) (fun e=>absurd hp e)
theorem CW.uq {c:Operand} {x y:Code} {p:Prop} [Decidable p] (hc:cg L c=some (.bool (decide p))) (hp : ¬ p) (h0:CW P n y Q L w) : CW P n (.cond c x y) Q L w:=CW.gG hc (fun e=>absurd e hp) (fun _=>h0)
theorem CW.ur {c:Operand} {x y:Code} {p:Prop} [Decidable p] (hc:cg L c=some (.bool (!decide p))) (hp : ¬ p) (h1:CW P n x Q L w) : CW P n (.cond c x y) Q L w:=CW.jB hc (fun _=>h1) (fun e=>absurd e hp)
theorem CW.uu {c:Operand} {x y:Code} {p:Prop} [Decidable p] (hc:cg L c=some (.bool (!decide p))) (hp:p) (h0:CW P n y Q L w) : CW P n (.cond c x y) Q L w:=CW.jB hc (fun e=>absurd hp e) (fun _=>h0)
theorem CW.yT {c:Operand} {x y:Code} {v:Value} (hc:cg L c=some v) (hv:v = .bool true) (h:CW P n x Q L w) : CW P n (.cond c x y) Q L w:=CW.dh (hc.trans (by rw [hv])) h
theorem CW.yU {c:Operand} {x y:Code} {v:Value} (hc:cg L c=some v) (hv:v = .bool false) (h:CW P n y Q L w) : CW P n (.cond c x y) Q L w:=CW.di (hc.trans (by rw [hv])) h
theorem CW.region {id:Nat} {l:List Oper} (h:SW P n l.toArray (.gw Q) l L w) : CW P n (.region id l.toArray false) Q L w:=⟨fun a ha=>wp_region_lit (h.out a ha)⟩
theorem CW.quiet {id:Nat} {l:List Oper} {K:Env→Prop} (hm:P.follows .mixedOrders=true) (hB:Region.lexB .any l.toArray=true) (h:SW P n l.toArray (.I2 K) l L w)
 (k:∀ L' w',Ext w w'→K L'→ah n Q .normal L' w') : CW P n (.region id l.toArray true) Q L w :=
 ⟨fun a ha=>wp_region_quiet (C:=fun w'=>Ext w w') hm hB (Ext.drew w) (by
  have h':=h.out a ha
  have xE:∀ (l':List Oper) (a:Act),wpQuiet P l.toArray (fun w'=>Ext w w') (fun a' => ∃ L',Fit n a' L'∧K L') l' a →
   wpQuiet P l.toArray (fun w'=>Ext w w') (fun a' => ∀ w',Ext w w'→Q .normal a' w') l' a:=by
   intro l';induction l' with
   | nil=>exact fun a ⟨L',hf,hk⟩ w' yS=>(k L' w' yS hk).out a hf
   | cons o r ih =>
     intro a hh;simp only [wpQuiet] at hh ⊢;split
     ·rename_i hw;rw [if_pos hw] at hh;exact Oper.quiet_mono ih hh
     ·rename_i hw;rw [if_neg hw] at hh;exact ih _ hh
  exact xE l a h')⟩
theorem CW.cut {c:Code} (K:Env→World→Prop) (h:CW P n c (fun e a w'=>e = .normal ∧ ∃ L',Fit n a L'∧K L' w') L w) (k:∀ L' w',K L' w'→ah n Q .normal L' w') : CW P n c Q L w :=
 ⟨fun a ha=>wp_mono (h.out a ha) fun e a' w' ⟨he,L',hf,hk⟩=>by subst he;exact (k L' w' hk).out a' hf⟩
theorem ah.cut {K:Env→World→Prop} (h:K L w) : ah n (fun e a w'=>e=Exit.normal ∧ ∃ L',Fit n a L'∧K L' w') .normal L w:=⟨fun _ ha=>⟨rfl,L,ha,h⟩⟩
theorem ah.sub {e:Exit} {L':Env} (hs:jd L L') (h:ah n Q e L' w) : ah n Q e L w:=⟨fun a ha=>h.out a (ha.sub hs)⟩
theorem ah.hit {id:Nat} (h:ah n Q .normal L w) : ah n (Exit.inBlock id Q) (.exit id) L w:=⟨fun a ha=>by simp only [Exit.inBlock,if_true];exact h.out a ha⟩
theorem ah.pass {id j:Nat} (bW:Nat.beq j id=false) (h:ah n Q (.exit j) L w) : ah n (Exit.inBlock id Q) (.exit j) L w :=
 ⟨fun a ha=>by
  have:j≠id:=fun e=>by subst e;simp at bW
  simp only [Exit.inBlock,this,if_false];exact h.out a ha⟩
theorem ah.dD {id:Nat} (h:ah n Q .normal L w) : ah n (Exit.inBlock id Q) .normal L w:=⟨fun a ha=>h.out a ha⟩
theorem ah.uv {id:Nat} (h:ah n Q .ret L w) : ah n (Exit.inBlock id Q) .ret L w:=⟨fun a ha=>h.out a ha⟩
end
theorem Ah {P:Program} {Q:Exit→Act→World→Prop} {c:Code} (I:Nat→Act→World→Prop)
 (round:∀ m a w,I m a w→c.wp P (Exit.then (fun a' w' => ∃ m',m'<m∧I m' a' w') Q) a w) :
 ∀ m a w,I m a w→(Code.loop c).wp P Q a w:=by
 intro m a w h0 b k cs
 have key:∀ m a w,I m a w → ∃ e a' w',Q e a' w'∧Arrives P (lone (b.at a (.code c :: .inLoop c::k)) cs w) b k cs e a' w':=by
  intro m;induction m using Nat.strongRecOn with
  | _ m ih =>
    intro a w hI;obtain ⟨e,a₁,w₁,hq,xi⟩:=round m a w hI b (.inLoop c::k) cs;cases e with
    | normal =>
      obtain ⟨m',dL,hI₁⟩:=hq;obtain ⟨e₂,a₂,w₂,hq₂,xi₂⟩:=ih m' dL a₁ w₁ hI₁;exact ⟨e₂,a₂,w₂,hq₂,.of_steps (Steps.trans xi (.one step_inLoop)) xi₂⟩
    | exit id=>exact ⟨_,a₁,w₁,hq,.pass (x := .inLoop c) rfl (fun _ _ => .inl (by simp)) xi⟩
    | goto l=>exact ⟨_,a₁,w₁,hq,.pass (x := .inLoop c) rfl (fun _ _ => .inl (by simp)) xi⟩
    | ret=>exact ⟨_,a₁,w₁,hq,.pass (x := .inLoop c) rfl (fun _ _ => .inl (by simp)) xi⟩
    | panic ch=>exact ⟨_,a₁,w₁,hq,.pass (x := .inLoop c) rfl (fun _ _ => .inl (by simp)) xi⟩
    | outgrown=>exact ⟨_,a₁,w₁,hq,.pass (x := .inLoop c) rfl (fun _ _ => .inl (by simp)) xi⟩
 obtain ⟨e,a',w',hq,xi⟩:=key m a w h0;exact ⟨e,a',w',hq,.of_steps (.one step_loop) xi⟩
section
variable {P:Program} {n:Nat} {Q:Exit→Act→World→Prop} {L:Env} {w:World} {σ:Type}
def DO (n:Nat) (E : σ → Env) (I : σ → World→Prop) (μ : σ → Nat) (m:Nat) (Q:Exit→Act→World→Prop) : Exit→Act→World→Prop:=Exit.then (fun a w => ∃ m',m'<m ∧ ∃ s,μ s=m'∧Fit n a (E s)∧I s w) Q
theorem ah.again {E : σ → Env} {I : σ → World→Prop} {μ : σ → Nat} {m:Nat} (s : σ) (hs:jd L (E s)) (hm : μ s<m) (h:I s w) : ah n (DO n E I μ m Q) .normal L w :=
 ⟨fun _ ha=>⟨_,hm,s,rfl,ha.sub hs,h⟩⟩
theorem ah.pk {E : σ → Env} {I : σ → World→Prop} {μ : σ → Nat} {m:Nat} (h:ah n Q .ret L w) : ah n (DO n E I μ m Q) .ret L w:=⟨fun a ha=>h.out a ha⟩
theorem ah.nc {E : σ → Env} {I : σ → World→Prop} {μ : σ → Nat} {m id:Nat} (h:ah n Q (.exit id) L w) : ah n (DO n E I μ m Q) (.exit id) L w:=⟨fun a ha=>h.out a ha⟩
theorem CW.loop {c:Code} (E : σ → Env) (I : σ → World→Prop) (μ : σ → Nat) (s0 : σ) (hs:jd L (E s0)) (h0:I s0 w) (round:∀ s w,I s w→CW P n c (DO n E I μ (μ s) Q) (E s) w) : CW P n (.loop c) Q L w :=
 ⟨fun a ha=>Ah (fun m a w => ∃ s,μ s=m∧Fit n a (E s)∧I s w)
  (fun m a w ⟨s,hm,hf,hI⟩=>by subst hm;exact (round s w hI).out a hf) (μ s0) a w ⟨s0,rfl,ha.sub hs,h0⟩⟩
end
section
variable {P:Program} {n:Nat} {ops:Array Oper} {Q:Exit→Act→World→Prop} {rest:List Oper} {L:Env} {w:World}
structure bq (P:Program) (f:FuncId) (args:List Value) (w:World) (R:Value→World→Prop) : Prop where
 out:Calls P f args.toArray w fun e w' => ∃ v,e = .returned v∧Ext w w'∧R v w'
theorem bq.mono {f:FuncId} {args:List Value} {R R':Value→World→Prop} (h:bq P f args w R) (hr:∀ v w',Ext w w'→R v w'→R' v w') : bq P f args w R' :=
 ⟨Calls.mono h.out fun _ _ ⟨v,he,hx,hv⟩=>⟨v,he,hx,hr _ _ hx hv⟩⟩
def sc (L:Env) : List Operand→Option (List Value)
 | []=>some []
 | x::r=>match cg L x,sc L r with
   | some v,some vs=>some (v::vs)
   | _,_=>none
theorem Fit.qQ {a:Act} (h:Fit n a L) : ∀ {xs:List Operand} {vs:List Value},sc L xs=some vs→xs.map a.eval=vs
 | [],vs,e=>by simp [sc] at e;subst e;rfl
 | x::r,vs,e=>by
   simp only [sc] at e;cases hx:cg L x with
   | none=>simp [hx] at e
   | some v =>
     cases hr:sc L r with
     | none=>simp [hx,hr] at e
     | some us =>
       simp [hx,hr] at e;subst e;simp [h.eval hx,h.qQ hr]
class Body (P:Program) (f:FuncId) : Prop where
 out:∀ args w,(callFunc f args).run P w = .ok (.enter f args) w
theorem az {f : FuncId} {fn : Func} (hf : P.funcs[f]? = some fn) (hn : (fn.name == "runtime.NumGoroutine") = false) (hb : fn.body.isNone = false) : Body P f :=
 ⟨fun args w=>by
  simp only [callFunc,Sem.run_bind,Go.program,Sem.run,Result.andThen,hf,hn,hb,Bool.false_eq_true,if_false]
  rfl⟩
theorem u9 {a:Act} {d:Option Nat} {f:FuncId} {xs:List Operand} {ts:Array TypeId} {T:TypeId} {pos:String} {af:Array Edge} {g:Option (Nat×Bool)} {w':World}
 [hb:Body P f] : (execOp a.eval ⟨d,.call ⟨.value (.func f),xs.toArray,ts⟩,T,pos,af,g⟩).run P w' = .ok (.enter f (xs.map a.eval).toArray) w':=by
 simp only [execOp,resolve,Deferred.ofValue,Act.eval,Sem.run_bind,pure,Sem.run,Result.andThen,invoke,List.map_toArray];have:=hb.out (xs.map a.eval).toArray w'
 simpa using this
theorem SW.call {d:Nat} {f:FuncId} {xs:List Operand} {vs:List Value} {ts:Array TypeId} {T:TypeId} {pos:String} {af:Array Edge} {R:Value→World→Prop}
 [Body P f] (hx:sc L xs=some vs) (hn:Nat.blt d n=true) (hc:bq P f vs w R) (h:∀ v w',Ext w w'→R v w'→SW P n ops (.gw Q) rest ((d,v)::L) w') :
 SW P n ops (.gw Q) (⟨some d,.call ⟨.value (.func f),xs.toArray,ts⟩,T,pos,af,none⟩::rest) L w :=
 ⟨fun a ha=>by
  simp only [swp,wpList,Region.wanted,if_true];refine .inl ?_;unfold Oper.wp;rw [u9,Oper.upon_enter,ha.qQ hx];refine Calls.mono hc.out ?_;rintro e w' ⟨v,rfl,uw,hv⟩
  exact (h v w' uw hv).out _ (ha.put hn v)⟩
theorem SW.cx {K:Env→Prop} {d:Nat} {f:FuncId} {xs:List Operand} {vs:List Value} {ts:Array TypeId} {T:TypeId} {pos:String} {af:Array Edge} {v:Value}
 [Body P f] (hx:sc L xs=some vs) (hn:Nat.blt d n=true) (hc:∀ w',Ext w w'→bq P f vs w' fun u _=>u=v) (h:SW P n ops (.I2 K) rest ((d,v)::L) w) :
 SW P n ops (.I2 K) (⟨some d,.call ⟨.value (.func f),xs.toArray,ts⟩,T,pos,af,none⟩::rest) L w :=
 ⟨fun a ha=>by
  simp only [swp,wpQuiet,Region.wanted,if_true];refine ⟨v,fun w' yS => ?_,h.out _ (ha.put hn v)⟩;unfold Oper.quietAt;rw [u9,ha.qQ hx];refine ⟨rfl,Calls.mono (hc w' yS).out ?_⟩;rintro e Li ⟨u,rfl,uw,rfl⟩
  exact ⟨rfl,yS.trans uw⟩⟩
end
section
variable {P:Program} {fn:Func} {R:Ending→World→Prop} {n:Nat} {L:Env} {w:World}
def pn:Nat→List Value→Env
 | _,[]=>[]
 | i,v::r=>(i,v)::pn (i+1) r
theorem oy:∀ (vs:List Value) (k i:Nat) (v:Value),get (pn k vs) i=some v→k≤i∧vs[i-k]?=some v
 | [],_,_,_,h=>by simp [pn,get] at h
 | u::r,k,i,v,h=>by
   simp only [pn,get,cond_eq_ite] at h;by_cases e:Nat.beq k i=true
   ·rw [if_pos e] at h;obtain rfl:=Nat.eq_of_beq_eq_true e;simpa using h
   ·rw [if_neg e] at h;obtain ⟨h1,h2⟩:=oy r (k+1) i v h;refine ⟨by omega,?_⟩;have:i-k=(i-(k+1))+1:=by omega
    rw [this];simpa using h2
theorem aG {f:FuncId} {c:Code} {args:List Value} {R:Value→World→Prop} (hf:P.funcs[f]?=some fn) (hb:fn.body=some c) (hn:fn.ntmps=n) (hl:Nat.ble args.length n=true)
 (h:CW P n c (bodyPost P fn fun e w' => ∃ v,e = .returned v∧Ext w w'∧R v w') (pn 0 args) w) : bq P f args w R:=by
 have IN:args.length≤n:=by simpa using hl
 refine ⟨calls_of_wp hf hb (h.out _ ⟨?_,rfl,?_⟩)⟩
 ·simp [hn];omega
 ·intro i v hi;obtain ⟨_,h2⟩:=oy args 0 i v hi;simp only [Nat.sub_zero] at h2
  have dL:i<args.length:=by
   rcases Nat.lt_or_ge i args.length with h|h
   ·exact h
   ·rw [List.getElem?_eq_none h] at h2;cases h2
  rw [Array.getD_eq_getD_getElem?,Array.getElem?_append_left (by simpa using dL)];simp [h2]
theorem ah.aY {t:Nat} {v:Value} (hr:fn.results = #[.tmp t]) (hv:get L t=some v) (h:R (.returned v) w) : ah n (bodyPost P fn R) .ret L w :=
 ⟨fun a ha=>⟨ha.defers,v,by rw [results_tmp hr,ha.has _ _ hv],h⟩⟩
theorem ah.cb {t u:Nat} {v x:Value} (hr:fn.results = #[.tmp t,.tmp u]) (hv:get L t=some v) (hx:get L u=some x) (h:R (.returned (.tuple #[v,x])) w) : ah n (bodyPost P fn R) .ret L w :=
 ⟨fun a ha=>⟨ha.defers,_,by rw [results_tmp2 hr,ha.has _ _ hv,ha.has _ _ hx],h⟩⟩
end
class bj (P:Program) (t:TypeId) (e:outParam TypeId) (sz:outParam Nat) : Prop where
 mB:P.underlying t=some (.slice e)
 size:(P.info? e).map (·.size)=some sz
class gH (P:Program) (t:TypeId) : Prop where
 one:((P.underlying t).map fun | .struct _=>false | .array _ _=>false|_=>true)=some true
 size:(P.info? t).map (·.size)=some 1
class va (P:Program) (t:TypeId) (len:outParam Nat) (e:outParam TypeId) (sz:outParam Nat) : Prop where
 mB:P.underlying t=some (.array len e)
 size:(P.info? e).map (·.size)=some sz
class dj (P:Program) (e:TypeId) (z:outParam Value) (sz bytes:outParam Nat) : Prop where
 PF:(P.info? e).map (fun i=>(i.zero,i.size,i.bytes))=some (some z,sz,bytes)
 zc:z.cells.size=sz
 pos : 0<sz
class fj (P:Program) (t:TypeId) (n:outParam Nat) : Prop where
 agg:((P.underlying t).map fun | .struct _=>true | .array _ _=>true|_=>false)=some true
 size:(P.info? t).map (·.size)=some n
class bu (P:Program) (t:TypeId) (i:Nat) (off:outParam Nat) (ft:outParam TypeId) : Prop where
 fw:((P.underlying t).bind fun | .struct fs=>(fs[i]?).map (fun f=>(f.offset,f.type))|_=>none)=some (off,ft)
 size:((P.info? ft).map (·.size)).map (· == 0)=some false
theorem run_sizeOf {P:Program} {t:TypeId} {n:Nat} (h:(P.info? t).map (·.size)=some n) (w:World) : (sizeOf t).run P w = .ok n w:=by
 cases hi:P.info? t with
 | none=>simp [hi] at h
 | some i=>simp [hi] at h;simp [sizeOf,typeInfo,hi,h]
theorem pV {P:Program} {t:TypeId} [c:gH P t] (w:World) : (isAgg t).run P w = .ok false w:=by
 have h:=c.one;cases hu:P.underlying t with
 | none=>simp [hu] at h
 | some d =>
   simp only [isAgg,Sem.run_bind,run_underlying hu,Result.andThen];simp [hu] at h;cases d<;>simp_all
theorem pW {P:Program} {t:TypeId} {n:Nat} [c:fj P t n] (w:World) : (isAgg t).run P w = .ok true w:=by
 have h:=c.agg;cases hu:P.underlying t with
 | none=>simp [hu] at h
 | some d =>
   simp only [isAgg,Sem.run_bind,run_underlying hu,Result.andThen];simp [hu] at h;cases d<;>simp_all
section
variable {P:Program} {L:Env} {w:World} {d:Option Nat} {T:TypeId} {pos:String} {af:Array Edge} {g:Option (Nat×Bool)}
section
variable {t ty:TypeId} {x y:Operand} {k:IntKind} {i j:Int}
theorem I4 (hx:cg L x=some (.int k i)) (hy:cg L y=some (.int k j)) : St P ⟨d,.binOp .add t x y ty,T,pos,af,g⟩ L w (.int k (k.wrap (i+j))) :=
 ⟨fun n a ha w' _=>by have e1:=ha.eval hx;have e2:=ha.eval hy;generalize a.eval = ρ at *;simp [go_sem,e1,e2]⟩
theorem ux (hx:cg L x=some (.int k i)) (hy:cg L y=some (.int k j)) : St P ⟨d,.binOp .sub t x y ty,T,pos,af,g⟩ L w (.int k (k.wrap (i-j))) :=
 ⟨fun n a ha w' _=>by have e1:=ha.eval hx;have e2:=ha.eval hy;generalize a.eval = ρ at *;simp [go_sem,e1,e2]⟩
theorem I5 (hx:cg L x=some (.int k i)) (hy:cg L y=some (.int k j)) : St P ⟨d,.binOp .mul t x y ty,T,pos,af,g⟩ L w (.int k (k.wrap (i*j))) :=
 ⟨fun n a ha w' _=>by have e1:=ha.eval hx;have e2:=ha.eval hy;generalize a.eval = ρ at *;simp [go_sem,e1,e2]⟩
theorem gf {z:Int} (h1 : -9223372036854775808≤z) (h2:z≤9223372036854775807) : IntKind.i64.wrap z=z:=IntWalk.i64_in _ ⟨h1,h2⟩
theorem St.eq {o:Oper} {v v':Value} (h:St P o L w v) (e:v=v') : St P o L w v':=e ▸ h
theorem vc (hx:cg L x=some (.int .i64 i)) (hy:cg L y=some (.int .i64 j)) (h1 : -9223372036854775808≤i+j) (h2:i+j≤9223372036854775807) : St P ⟨d,.binOp .add t x y ty,T,pos,af,g⟩ L w (.int .i64 (i+j)) :=
 (I4 hx hy).eq (by rw [gf h1 h2])
theorem vd (hx:cg L x=some (.int .i64 i)) (hy:cg L y=some (.int .i64 j)) (h1 : -9223372036854775808≤i-j) (h2:i-j≤9223372036854775807) : St P ⟨d,.binOp .sub t x y ty,T,pos,af,g⟩ L w (.int .i64 (i-j)) :=
 (ux hx hy).eq (by rw [gf h1 h2])
theorem j8 (hx:cg L x=some (.int .i64 i)) (hy:cg L y=some (.int .i64 j)) (h1 : -9223372036854775808≤i*j) (h2:i*j≤9223372036854775807) : St P ⟨d,.binOp .mul t x y ty,T,pos,af,g⟩ L w (.int .i64 (i*j)) :=
 (I5 hx hy).eq (by rw [gf h1 h2])
theorem ve (hx:cg L x=some (.int .i64 i)) (hy:cg L y=some (.int .i64 j)) (h0 : 0≤i) (h1 : 0<j) (h2:i≤9223372036854775807) : St P ⟨d,.binOp .quo t x y ty,T,pos,af,g⟩ L w (.int .i64 (i / j)) :=
 ⟨fun n a ha w' _=>by
  have hj : ¬ j=0:=by omega
  have e:i.tdiv j=i / j:=Int.tdiv_eq_ediv_of_nonneg h0
  have hd:i / j≤i:=Int.ediv_le_self _ h0
  have O8 : 0≤i / j:=Int.ediv_nonneg h0 (by omega)
  have:=gf (z:=i / j) (by omega) (by omega)
  have e1:=ha.eval hx;have e2:=ha.eval hy;generalize a.eval = ρ at *;simp [go_sem,e1,e2,hj,e,this]⟩
theorem vf (hx:cg L x=some (.int .i64 i)) (hy:cg L y=some (.int .i64 j)) (h1:j≠0) : St P ⟨d,.binOp .rem t x y ty,T,pos,af,g⟩ L w (.int .i64 (i.tmod j)) :=
 ⟨fun n a ha w' _=>by
  have e1:=ha.eval hx;have e2:=ha.eval hy;generalize a.eval = ρ at *;simp [go_sem,e1,e2,h1]⟩
end
theorem vg {t:TypeId} {e:TypeId} {sz:Nat} [c:bj P t e sz] {x:Operand} {A:Option Addr} {n cap:Nat} (hx:cg L x=some (.slice A n cap)) :
 St P ⟨d,.call ⟨.builtin .len,#[x],#[t]⟩,T,pos,af,g⟩ L w (.int .i64 n) :=
 ⟨fun _ a ha w' _=>by simp [execOp,resolve,invoke,builtin,ha.eval hx,Builtin.len_,run_underlying c.mB,goInt]⟩
theorem Gq {t e:TypeId} {sz:Nat} [c:bj P t e sz] {x y:Operand} {A:Option Addr} {n cap:Nat} {i:Int} (hx:cg L x=some (.slice A n cap)) (hy:cg L y=some (.int .i64 i))
 (hA:A.isSome=true) (h0 : 0≤i) (h1:i<n) : St P ⟨d,.indexAddr t x y,T,pos,af,g⟩ L w (.pointer (some ((A.getD default).add (i.toNat*sz)))) :=
 ⟨fun _ a ha w' _=>by
  obtain ⟨ad,rfl⟩:=Option.isSome_iff_exists.1 hA;simp [execOp,ha.eval hx,ha.eval hy,Instr.indexAt,asIntOf,run_underlying c.mB,run_sizeOf c.size,h0,h1]⟩
theorem aP {t ft:TypeId} {i off:Nat} [c:bu P t i off ft] {x:Operand} {ad:Addr} (hx:cg L x=some (.pointer (some ad))) :
 St P ⟨d,.fieldAddr t x i,T,pos,af,g⟩ L w (.pointer (some (ad.add off))) :=
 ⟨fun _ a ha w' _=>by
  have h:=c.fw;cases hu:P.underlying t with
  | none=>simp [hu] at h
  | some D =>
    cases D<;>simp [hu] at h
    rename_i fs;obtain ⟨f,hf,h1,h2⟩:=h;subst h1 h2;have hs:=c.size;cases hi:P.info? f.type with
    | none=>simp [hi] at hs
    | some inf =>
      simp [hi] at hs;simp [execOp,ha.eval hx,Instr.fieldAt,run_underlying hu,hf,fieldPlace,Instr.sureAddr,sizeOf,typeInfo,hi,hs]⟩
theorem qR {t e ty:TypeId} {sz:Nat} [c:bj P t e sz] {x y:Operand} {A:Option Addr} {n cap m q:Nat} (hx:cg L x=some (.slice A n cap)) (hy:cg L y=some (.slice none m q)) :
 St P ⟨d,.binOp .eql t x y ty,T,pos,af,g⟩ L w (.bool A.isNone) :=
 ⟨fun _ a ha w' _=>by
  have h:=Lib.run_eql_slice_nil (P:=P) w' t e A n cap m q c.mB;simp [execOp,ha.eval hx,ha.eval hy,eqGuard_at_slice,h]⟩
theorem aq {t:TypeId} [gH P t] {x:Operand} {ad:Addr} {v:Value} (hx:cg L x=some (.pointer (some ad))) (hc:w.cell? ad=some v) : St P ⟨d,.load t x,T,pos,af,g⟩ L w v :=
 ⟨fun _ a ha w' hw=>by simp [execOp,ha.eval hx,Instr.loadAt,Instr.sureAddr,loadVar,pV,load,Sem.run,hw.cell hc]⟩
theorem aT {t:TypeId} [gH P t] {x:Operand} {ad:Addr} {v:Value} {w0:World} (hw:Ext w0 w) (hx:cg L x=some (.pointer (some ad))) (hc:w0.cell? ad=some v) : St P ⟨d,.load t x,T,pos,af,g⟩ L w v:=aq hx (hw.cell hc)
theorem aB {t:TypeId} {m:Nat} [c:fj P t m] {x:Operand} {ad:Addr} {vs:List Value} (hx:cg L x=some (.pointer (some ad))) (hm:vs.length=m) (hc:∀ j v,vs[j]?=some v→w.cell? (ad.add j)=some v) :
 St P ⟨d,.load t x,T,pos,af,g⟩ L w (.agg vs.toArray) :=
 ⟨fun _ a ha w' hw=>by
  subst hm;simp [execOp,ha.eval hx,Instr.loadAt,Instr.sureAddr,loadVar,pW,run_sizeOf c.size,run_loadCells_list (P:=P) w' ad vs (fun j v hv=>hw.cell (hc j v hv))]⟩
theorem aU {t:TypeId} {m:Nat} [fj P t m] {x:Operand} {ad:Addr} {vs:List Value} {w0:World} (hw:Ext w0 w) (hx:cg L x=some (.pointer (some ad))) (hm:vs.length=m) (hc:∀ j v,vs[j]?=some v→w0.cell? (ad.add j)=some v) :
 St P ⟨d,.load t x,T,pos,af,g⟩ L w (.agg vs.toArray):=aB hx hm (fun j v hv=>hw.cell (hc j v hv))
end
def aW (w:World) (b:Nat) (t:TypeId) (cs:List Value) : Prop:=w.heap[b]?=some (.cells cs.toArray t (0,0))
theorem aW.lt {w:World} {b:Nat} {t:TypeId} {cs:List Value} (h:aW w b t cs) : b<w.heap.size:=by
 rcases Nat.lt_or_ge b w.heap.size with dL|Lj
 ·exact dL
 ·unfold aW at h;rw [Array.getElem?_eq_none Lj] at h;cases h
theorem add_zero (a:Addr) : a.add 0=a:=by simp [Addr.add]
theorem add_add (a:Addr) (i j:Nat) : (a.add i).add j=a.add (i+j):=by
 unfold Addr.add;by_cases hi:i=0<;>by_cases hj:j=0<;>simp [hi,hj,Nat.add_assoc]
theorem aW.cell {w:World} {b:Nat} {t:TypeId} {cs:List Value} (h:aW w b t cs) {i:Nat} {v:Value} (hv:cs[i]?=some v) : w.cell? ((⟨b,0,none⟩ : Addr).add i)=some v:=by
 have:((⟨b,0,none⟩ : Addr).add i)=⟨b,i,none⟩:=by unfold Addr.add;split<;>simp_all
 rw [this,cell_of_row w b i cs.toArray t (0,0) h];simpa using hv
theorem aW.ext {w w':World} {b:Nat} {t:TypeId} {cs:List Value} (h:aW w b t cs) (hx:Ext w w') : aW w' b t cs:=(hx.block b h.lt).trans h
theorem aW.new (w:World) (t:TypeId) (cs:List Value) : aW (w.alloc (.cells cs.toArray t)) w.heap.size t cs:=heap_alloc_new w _
section
variable {P:Program} {n:Nat} {ops:Array Oper} {Q:Exit→Act→World→Prop} {rest:List Oper} {L:Env} {w:World}
theorem SW.box {d:Nat} {t T:TypeId} {x:Operand} {vs:List Value} {pos:String} {af:Array Edge} (hx:cg L x=some (.agg vs.toArray)) (hn:Nat.blt d n=true)
 (h:∀ b w',Ext w w'→w.heap.size≤b→aW w' b t vs→SW P n ops (.gw Q) rest ((d,.pointer (some ⟨b,0,none⟩))::L) w') : SW P n ops (.gw Q) (⟨some d,.box t x,T,pos,af,none⟩::rest) L w :=
 ⟨fun a ha=>by
  simp only [swp,wpList,Region.wanted,if_true];refine .inl ?_;unfold Oper.wp
  have hr:(execOp a.eval ⟨some d,.box t x,T,pos,af,none⟩).run P w = .ok (.value (.pointer (some ⟨w.heap.size,0,none⟩))) (w.alloc (.cells vs.toArray t)):=by
   simp [execOp,ha.eval hx,Instr.box,newVar,newRow,newObj,Sem.run,Value.cells]
  rw [hr,Oper.upon_value];exact (h _ _ (Ext.alloc w _) (Nat.le_refl _) (aW.new w t vs)).out _ (ha.put hn _)⟩
end
section
variable {P:Program} {n:Nat} {Q:Exit→Act→World→Prop} {L:Env} {w:World}
theorem CW.bl {id:Nat} {l:List Oper} {Lf:Env} (hm:P.follows .mixedOrders=true) (hB:Region.lexB .any l.toArray=true) (h:SW P n l.toArray (.I2 fun L'=>L'=Lf) l L w)
 (k:∀ w',Ext w w'→ah n Q .normal Lf w') : CW P n (.region id l.toArray true) Q L w :=
 CW.quiet hm hB h fun _ w' hx hk=>by subst hk;exact k w' hx
end
structure Sl {α:Type} (w:World) (sz:Nat) (enc : α → List Value) (A:Option Addr) (n:Nat) (l:List α) : Prop where
 len:l.length=n
 base : 0<n→A.isSome=true
 cell:∀ (i:Nat) (h:i<l.length) (j:Nat) (u:Value),(enc l[i])[j]?=some u→w.cell? (((A.getD default).add (i*sz)).add j)=some u
def bK (z:Int) : List Value:=[.int .i64 z]
namespace Sl
variable {α:Type} {w w':World} {sz:Nat} {enc : α → List Value} {A:Option Addr} {n:Nat} {l:List α}
theorem ext (h:Sl w sz enc A n l) (hx:Ext w w') : Sl w' sz enc A n l:=⟨h.len,h.base,fun i hi j u hu=>hx.cell (h.cell i hi j u hu)⟩
theorem gz (w:World) (sz:Nat) (enc : α → List Value) (A:Option Addr) : Sl w sz enc A 0 ([] : List α):=⟨rfl,fun h=>absurd h (by omega),fun i hi=>absurd hi (by simp)⟩
theorem lt (h:Sl w sz enc A n l) {i:Nat} (hi:i<n) : i<l.length:=by rw [h.len];exact hi
theorem one (h:Sl w sz enc A n l) {i:Nat} (hi:i<n) {u:Value} (hu:enc (l[i]'(h.lt hi))=[u]) : w.cell? ((A.getD default).add (i*sz))=some u:=by
 have:=h.cell i (h.lt hi) 0 u (by rw [hu];rfl)
 rwa [add_zero] at this
theorem fw (h:Sl w sz enc A n l) {i:Nat} (hi:i<n) {j:Nat} {u:Value} (hu:(enc (l[i]'(h.lt hi)))[j]?=some u) : w.cell? (((A.getD default).add (i*sz)).add j)=some u:=h.cell i (h.lt hi) j u hu
theorem all (h:Sl w sz enc A n l) {i:Nat} (hi:i<n) : ∀ j u,(enc (l[i]'(h.lt hi)))[j]?=some u→w.cell? (((A.getD default).add (i*sz)).add j)=some u:=h.cell i (h.lt hi)
end Sl
section
variable {P:Program} {L:Env} {w:World} {d:Option Nat} {T:TypeId} {pos:String} {af:Array Edge} {g:Option (Nat×Bool)}
theorem bJ {t e:TypeId} {sz:Nat} [bj P t e sz] {x y:Operand} {A:Option Addr} {n cap k:Nat} (hx:cg L x=some (.slice A n cap)) (hy:cg L y=some (.int .i64 (k:Int)))
 (hA : 0<n→A.isSome=true) (h1:k<n) : St P ⟨d,.indexAddr t x y,T,pos,af,g⟩ L w (.pointer (some ((A.getD default).add (k*sz)))) :=
 (Gq hx hy (hA (by omega)) (by omega) (by omega)).eq (by simp)
theorem aZ {t e:TypeId} {sz:Nat} [bj P t e sz] {x y:Operand} {A:Option Addr} {n cap:Nat} {i:Int} (k:Nat) (hx:cg L x=some (.slice A n cap)) (hy:cg L y=some (.int .i64 i))
 (hA : 0<n→A.isSome=true) (hk:i=(k:Int)) (h1:k<n) : St P ⟨d,.indexAddr t x y,T,pos,af,g⟩ L w (.pointer (some ((A.getD default).add (k*sz)))) :=
 bJ hx (by rw [hy,hk]) hA h1
end
end Go.Proofs.YtbidkghlpijecaaGreatDoor
