/- Part 0 of what topWords_holds leans on. -/
import Derived.WalkKit
import Derived.Deep.Quiet
import Derived.KernelRfl
import Derived.WalkLawsBesides
import Derived.WalkSpells
import Derived.Laws.AppendOwnNone
import Derived.Laws.CopyOwn
import Derived.StillTail
import Derived.Deep.RegionHeld3
import Derived.Laws.CopyRow
import Derived.Laws.StructEq
set_option linter.unusedVariables false
set_option linter.unusedSimpArgs false
set_option linter.defProp false
namespace Go.Proofs.YtohigmjjbgpfmaaGreatDoor
def ac0:=@List.getElem_mem
def ac1:=@List.getElem_of_mem
def ac2:=@Nat.le_trans
def ac3:=@Nat.le_refl
def ac4:=@List.take_append_drop
def ac5:=@List.take_succ_eq_append_getElem
def ac6:=@List.append_assoc
def ac7:=@List.getElem?_eq_getElem
def ac8:=@List.pairwise_iff_getElem
def ac9:=@List.mem_append
def ada:=@Int.eq_ofNat_of_zero_le
def adb:=@List.length_append
def ade:=@List.any_eq_true
def adf:=@List.take_of_length_le
def adg:=@List.mem_or_eq_of_mem_set
def adh:=@Array.getElem?_eq_some_iff
def adi:=@List.flatMap_append
def adj:=@Nat.eq_zero_or_pos
def adk:=@List.mem_map
def adl:=@List.eq_nil_of_length_eq_zero
def adm:=@List.mem_flatMap
def adn:=@List.singleton_append
def ado:=@List.any_eq_false
def adp:=@List.pairwise_append
def adq:=@List.getElem_set
def adr:=@List.map_append
def ads:=@List.getElem?_eq_some_iff
def adt:=@Nat.mul_le_mul_right
def adu:=@List.mem_of_mem_take
def adv:=@Nat.eq_of_beq_eq_true
def adw:=@Option.isSome_iff_exists
def adx:=@Int.toNat_of_nonneg
def ady:=@Nat.le_of_ble_eq_true
def adz:=@List.length_set
def adA:=@Nat.lt_or_ge
def adB:=@List.eraseIdx_eq_take_drop_succ
def adC:=@List.mem_append_left
def adD:=@Nat.lt_trichotomy
def adE:=@Int.tmod_eq_emod_of_nonneg
def adF:=@List.getElem?_append_left
def adG:=@Bool.and_eq_true
def adH:=@List.getElem_take
def adI:=@List.mem_of_mem_drop
def adJ:=@List.mem_of_mem_eraseIdx
def adK:=@List.set_getElem_self
def adL:=@List.getElem?_append_right
def adM:=@List.getD_eq_getElem?_getD
def adN:=@List.nodup_append
def adO:=@Nat.zero_le
def adP:=@List.getElem?_eq_none
def adQ:=@Nat.add_mul
def adR:=@List.ext_getElem
def adS:=@List.take_length
def adT:=@List.getElem_append_left
def adU:=@List.eraseIdx_sublist
def adV:=@List.nil_append
def adW:=@List.set_eq_take_append_cons_drop
def adX:=@Nat.lt_of_lt_of_le
def adY:=@List.pairwise_cons
def adZ:=@List.getElem_drop
def ad0:=@List.mem_take_iff_getElem
def ad1:=@List.nodup_cons
def ad2:=@List.set_append_right
def ad3:=@List.length_replicate
def ad4:=@List.mem_cons
def ad5:=@List.getElem?_set_self
def ad6:=@List.drop_drop
def ad7:=@List.getElem?_set_ne
def ad8:=@Int.mul_comm
def ad9:=@List.mem_eraseIdx_iff_getElem
def aea:=@Array.length_toList
def aeb:=@List.flatten_append
def aec:=@List.drop_eq_nil_of_le
def aed:=@Array.getD_eq_getD_getElem?
def aee:=@Nat.lt_or_gt_of_ne
def aef:=@Nat.le_of_lt
def aeg:=@Int.mul_ediv_add_emod
def aeh:=@List.length_eraseIdx_of_lt
def aei:=@List.map_cons
def aej:=@List.flatten_cons
def aek:=@List.getElem_append_right
def ael:=@Array.setIfInBounds_comm
def aem:=@List.map_set
def aen:=@List.getElem_map
def aeo:=@List.flatMap_def
def aep:=@List.length_eraseIdx_le
def aeq:=@List.append_nil
def aer:=@Int.mul_le_mul_of_nonneg_right
def aes:=@List.take_append_of_le_length
def aet:=@Nat.zero_add
def aeu:=@List.set_set
def aev:=@List.mem_append_right
def aew:=@Bool.or_eq_false_iff
def aex:=@List.filter_eq_self
def aey:=@Int.sub_add_cancel
def aez:=@List.getElem?_drop
def aeA:=@List.getElem?_take_of_lt
def aeB:=@Int.mul_nonneg
def aeC:=@List.getElem?_map
def aeD:=@Int.ediv_le_self
def aeE:=@Nat.mod_eq_of_lt
def aeF:=@Nat.lt_succ_self
def aeG:=@List.length_take
def aeH:=@List.length_filter_le
def aeI:=@List.getElem_eraseIdx
def aeJ:=@List.getElem_set_self
def aeK:=@List.eq_nil_or_concat
def aeL:=@Option.map_some
def aeM:=@Nat.add_zero
def aeN:=@Bool.eq_iff_iff
def aeO:=@Int.natCast_mul
def aeP:=@List.length_eraseIdx
def aeQ:=@Int.mul_le_mul_of_nonneg_left
def aeR:=@Int.le_refl
def aeS:=@Array.foldl_toList
def aeT:=@List.mem_singleton
def aeU:=@Int.emod_lt_of_pos
def aeV:=@Array.getElem?_append_left
def aeW:=@Int.tdiv_eq_ediv_of_nonneg
def aeX:=@Nat.add_assoc
def aeY:=@Bool.true_and
def aeZ:=@List.foldl_append
def ae0:=@List.pairwise_map
def ae1:=@Bool.not_eq_true'
def ae2:=@Array.mapM_eq_mapM_toList
def ae3:=@List.drop_eq_getElem_cons
def ae4:=@Nat.mul_comm
def ae5:=@List.any_map
def ae6:=@Nat.sub_self
def ae7:=@Int.lt_or_le
def ae8:=@List.map_map
def ae9:=@List.not_mem_nil
def afa:=@Int.ediv_nonneg
def afb:=@List.mem_filter
def afc:=@Int.ediv_mul_le
def afd:=@Int.natCast_add
def afe:=@Int.emod_nonneg
def aff:=@Int.add_mul
def afg:=@Int.one_mul
def afh:=@List.mapM_cons
open Go.RowKit
variable {ad:Addr} {af:Array Edge} {ts:Array TypeId} {b':Bool} {Q:Exit->Act->World->Prop} {fn:Func} {args cs:List Value} {b d i j k m off sz:Nat} {op:Op} {y:Operand} {g:Option (Nat×Bool)} {A:Option Addr} {d':Option Nat} {P:Program} {T e ft t ty:TypeId} {v':Value} {R':Value->World->Prop} {w w' w0:World}
abbrev Env:=List (Nat×Value)
def get:Env->Nat->Option Value
 | [],_=>none
 | (i,v)::r,j=>bif Nat.beq i j then some v else get r j
structure Fit (n:Nat) (a:Act) (L:Env) : Prop where
 size:a.tmps.size=n
 defers:a.defers=[]
 has:∀ i v,get L i=some v->a.tmps.getD i undef=v
def cK (L:Env) : Operand->Option Value
 | .tmp t=>get L t
 | .const v=>some v
 | .global g=>some (.pointer (some ⟨g,0,none⟩))
 | .func f=>some (.func (.func f) #[] #[])
theorem Fit.eval {n:Nat} {a:Act} {L:Env} (h:Fit n a L) {x:Operand} {v:Value} (hx:cK L x=some v) : a.eval x=v:=by
 cases x with
 | tmp t=>exact h.has _ _ hx
 | const c=>simpa [cK,Act.eval] using hx
 | global g=>simpa [cK,Act.eval] using hx
 | func f=>simpa [cK,Act.eval] using hx
theorem Fit.put {n:Nat} {a:Act} {L:Env} (h:Fit n a L) (hd:Nat.blt d n=true) (v:Value) : Fit n (a.put (some d) v) ((d,v)::L):=by
 have Zi:d<n:=by simpa using hd
 refine ⟨by simp [Act.put,h.size],by simp [Act.put,h.defers],?_⟩;intro i u hu;simp only [get,cond_eq_ite] at hu;simp only [Act.put];by_cases e:d=i
 ·subst e;simp at hu;subst hu;simp [Array.getD_eq_getD_getElem?,h.size,Zi]
 ·have hb:Nat.beq d i=false:=by
   cases hb:Nat.beq d i
   ·rfl
   ·exact absurd (adv hb) e
  rw [hb] at hu;have:=h.has i u (by simpa using hu)
  rw [<- this];simp [Array.getD_eq_getD_getElem?,e]
theorem Fit.KZ {n:Nat} {a:Act} {L:Env} (h:Fit n a L) (v:Value) : Fit n (a.put none v) L:=h
theorem Fit.less {n:Nat} {a:Act} {L L':Env} (h:Fit n a L) (hs:∀ i v,get L' i=some v->get L i=some v) : Fit n a L' :=
 ⟨h.size,h.defers,fun i v hv=>h.has i v (hs i v hv)⟩
def il (L:Env) : Env->Prop
 | []=>True
 | (i,v)::r=>get L i=some v∧il L r
theorem HN {L:Env}:∀ {L':Env},il L L' -> ∀ i v,get L' i=some v->get L i=some v
 | [],_,_,_,h=>by simp [get] at h
 | (j,u)::r,hs,i,v,h=>by
   simp only [get,cond_eq_ite] at h;by_cases e:Nat.beq j i=true
   ·rw [if_pos e] at h;obtain rfl:=adv e;simp at h;subst h;exact hs.1
   ·rw [if_neg e] at h;exact HN hs.2 i v h
theorem Fit.sub {n:Nat} {a:Act} {L L':Env} (h:Fit n a L) (hs:il L L') : Fit n a L':=h.less (HN hs)
abbrev Ext (w w':World) : Prop:=Below w.heap.size w w'
theorem Ext.refl (w:World) : Ext w w:=Below.refl _ _
theorem Ext.trans {a b c:World} (h:Ext a b) (k:Ext b c) : Ext a c:=Below.trans h (Below.mono k h.size)
theorem Ext.cell (h:Ext w w') {a:Addr} {v:Value} (hc:w.cell? a=some v) : w'.cell? a=some v :=
 (Below.cell h (World.block_lt_of_cell? w a hc)).trans hc
theorem Ext.alloc (w:World) (o:Obj) : Ext w (w.alloc o):=(Below.refl _ _).alloc (ac3 _) _
theorem Ext.drew (w:World) : Ext w w.drew:=(Below.refl _ _).drew
structure CW (P:Program) (n:Nat) (c:Code) (Q:Exit->Act->World->Prop) (L:Env) (w:World) : Prop where
 out:∀ a,Fit n a L->c.wp P Q a w
inductive Md where
 | gL (Q:Exit->Act->World->Prop)
 | NP (K:Env->Prop)
 | tk (K:Env->Prop)
def CE (P:Program) (ops:Array Oper) (C:World->Prop) (Q:Act->Prop) : List Oper->Act->Prop
 | [],a=>Q a
 | o::rest,a=>if Region.wanted o (yielded ops a.tmps) then ∃ v,(∀ w',C w'->(execOp a.eval o).run P w' = .ok (.value v) w')∧CE P ops C Q rest (a.put o.dst v) else CE P ops C Q rest (a.put o.dst undef)
def swp (P:Program) (n:Nat) (ops:Array Oper) (w:World) : Md->List Oper->Act->Prop
 | .gL Q,rest,a=>wpList P ops Q rest a w
 | .NP K,rest,a=>wpQuiet P ops (fun w'=>Ext w w') (fun a' => ∃ L',Fit n a' L'∧K L') rest a
 | .tk K,rest,a=>CE P ops (fun w'=>Ext w w') (fun a' => ∃ L',Fit n a' L'∧K L') rest a
structure SW (P:Program) (n:Nat) (ops:Array Oper) (M:Md) (rest:List Oper) (L:Env) (w:World) : Prop where
 out:∀ a,Fit n a L->swp P n ops w M rest a
structure St (P:Program) (o:Oper) (L:Env) (w:World) (v:Value) : Prop where
 out:∀ n a,Fit n a L -> ∀ w',Ext w w'->(execOp a.eval o).run P w' = .ok (.value v) w'
structure ae (n:Nat) (Q:Exit->Act->World->Prop) (e:Exit) (L:Env) (w:World) : Prop where
 out:∀ a,Fit n a L->Q e a w
def NQ (P:Program) (y:Code) (Q:Exit->Act->World->Prop) : Exit->Act->World->Prop:=Exit.then (y.wp P Q) Q
section
variable {P:Program} {n:Nat} {ops:Array Oper} {Q:Exit->Act->World->Prop} {M:Md} {rest:List Oper} {L:Env} {w:World}
theorem yx {a:Act} (h:Fit n a L) {b:Bool} (hd:(ops[j]?).bind (·.dst)=some d) (hb:get L d=some (.bool b)) : yielded ops a.tmps j=some b:=by
 have:=h.has _ _ hb
 rw [aed] at this;unfold yielded;rw [hd];cases ht:a.tmps[d]? with
 | none=>rw [ht] at this;cases this
 | some u=>rw [ht] at this;simp at this;simp [ht,this]
theorem SW.want {pos:String} {b:Bool} (hd:(ops[j]?).bind (·.dst)=some d) (hb:get L d=some (.bool b))
 (h:SW P n ops M (⟨d',op,T,pos,af,none⟩::rest) L w) : SW P n ops M (⟨d',op,T,pos,af,some (j,b)⟩::rest) L w :=
 ⟨fun a ha=>by
  have:=h.out a ha
  cases M<;>simp only [swp,wpList,wpQuiet,CE,Region.wanted,if_true,yx ha hd hb,BEq.rfl] at this ⊢<;>exact this⟩
theorem SW.skip {pos:String} {d':Nat} {b c:Bool} (hd:(ops[j]?).bind (·.dst)=some d) (hb:get L d=some (.bool c)) (bL:(c == b)=false)
 (hn:Nat.blt d' n=true) (h:SW P n ops M rest ((d',undef)::L) w) : SW P n ops M (⟨some d',op,T,pos,af,some (j,b)⟩::rest) L w :=
 ⟨fun a ha=>by
  have U6:(some c == some b)=false:=by simpa using bL
  have:=h.out _ (ha.put hn undef)
  cases M<;>simp only [swp,wpList,wpQuiet,CE,Region.wanted,yx ha hd hb,U6,Bool.false_eq_true,if_false] at this ⊢<;>exact this⟩
theorem SW.Sz {pos:String} {d':Nat} {b:Bool} (hd:(ops[j]?).bind (·.dst)=some d) (hb:get L d=some undef)
 (hn:Nat.blt d' n=true) (h:SW P n ops M rest ((d',undef)::L) w) : SW P n ops M (⟨some d',op,T,pos,af,some (j,b)⟩::rest) L w :=
 ⟨fun a ha=>by
  have hy:yielded ops a.tmps j=none:=by
   have:=ha.has _ _ hb
   rw [aed] at this;unfold yielded;rw [hd];cases ht:a.tmps[d]? with
   | none=>simp [ht]
   | some u=>rw [ht] at this;simp at this;subst this;simp [ht,undef]
  have U6:((none:Option Bool) == some b)=false:=rfl
  have:=h.out _ (ha.put hn undef)
  cases M<;>simp only [swp,wpList,wpQuiet,CE,Region.wanted,hy,U6,Bool.false_eq_true,if_false] at this ⊢<;>exact this⟩
section
variable {d':Option Nat} {op:Op} {T:TypeId} {pos:String} {af:Array Edge} {j d e:Nat} {v:Value}
theorem SW.yy (hd:(ops[j]?).bind (·.dst)=some d) (hb:get L d=some v) (hv:v = .bool true) (h:SW P n ops M (⟨d',op,T,pos,af,none⟩::rest) L w) : SW P n ops M (⟨d',op,T,pos,af,some (j,true)⟩::rest) L w:=SW.want hd (hb.trans (by rw [hv])) h
theorem SW.yA (hd:(ops[j]?).bind (·.dst)=some d) (hb:get L d=some v) (hv:v = .bool false) (h:SW P n ops M (⟨d',op,T,pos,af,none⟩::rest) L w) : SW P n ops M (⟨d',op,T,pos,af,some (j,false)⟩::rest) L w:=SW.want hd (hb.trans (by rw [hv])) h
theorem SW.yB (hd:(ops[j]?).bind (·.dst)=some d) (hb:get L d=some v) (hv:v = .bool false) (hn:Nat.blt e n=true) (h:SW P n ops M rest ((e,undef)::L) w) : SW P n ops M (⟨some e,op,T,pos,af,some (j,true)⟩::rest) L w:=SW.skip (c:=false) hd (hb.trans (by rw [hv])) rfl hn h
theorem SW.yC (hd:(ops[j]?).bind (·.dst)=some d) (hb:get L d=some v) (hv:v = .bool true) (hn:Nat.blt e n=true) (h:SW P n ops M rest ((e,undef)::L) w) : SW P n ops M (⟨some e,op,T,pos,af,some (j,false)⟩::rest) L w:=SW.skip (c:=true) hd (hb.trans (by rw [hv])) rfl hn h
theorem SW.yD {b:Bool} (hd:(ops[j]?).bind (·.dst)=some d) (hb:get L d=some v) (hv:v=undef) (hn:Nat.blt e n=true) (h:SW P n ops M rest ((e,undef)::L) w) : SW P n ops M (⟨some e,op,T,pos,af,some (j,b)⟩::rest) L w:=SW.Sz hd (hb.trans (by rw [hv])) hn h
end
theorem Fit.known {a:Act} {c:Bool} (hb:get L d=some (.bool c)) (e:c=b') (ha:Fit n a L) : Fit n a ((d,.bool b')::L):=ha.less fun i v hv=>by
 simp only [get,cond_eq_ite] at hv;by_cases e':Nat.beq d i=true
 ·rw [if_pos e'] at hv;obtain rfl:=adv e';rw [<- hv,<- e,hb]
 ·rw [if_neg e'] at hv;exact hv
section
variable {o:Oper} {j d:Nat} {b c:Bool} {p:Prop} [Decidable p]
theorem SW.split (_hg:o.guard=some (j,b)) (_hd:(ops[j]?).bind (·.dst)=some d) (hb:get L d=some (.bool c))
 (h1:c=true->SW P n ops M (o::rest) ((d,.bool true)::L) w) (h0:c=false->SW P n ops M (o::rest) ((d,.bool false)::L) w) : SW P n ops M (o::rest) L w:=by
 cases c
 ·exact ⟨fun a ha=>(h0 rfl).out a (ha.known hb rfl)⟩
 ·exact ⟨fun a ha=>(h1 rfl).out a (ha.known hb rfl)⟩
theorem SW.fZ (hg:o.guard=some (j,b)) (hd:(ops[j]?).bind (·.dst)=some d) (hb:get L d=some (.bool (decide p)))
 (h1:p->SW P n ops M (o::rest) ((d,.bool true)::L) w) (h0 : ¬ p->SW P n ops M (o::rest) ((d,.bool false)::L) w) : SW P n ops M (o::rest) L w :=
 SW.split hg hd hb (fun e=>h1 (of_decide_eq_true e)) (fun e=>h0 (of_decide_eq_false e))
theorem SW.CF (hg:o.guard=some (j,b)) (hd:(ops[j]?).bind (·.dst)=some d) (hb:get L d=some (.bool (!decide p)))
 (h1 : ¬ p->SW P n ops M (o::rest) ((d,.bool true)::L) w) (h0:p->SW P n ops M (o::rest) ((d,.bool false)::L) w) : SW P n ops M (o::rest) L w :=
 SW.split hg hd hb (fun e=>h1 (by simpa using e)) (fun e=>h0 (by simpa using e))
theorem SW.rJ (hg:o.guard=some (j,b)) (hd:(ops[j]?).bind (·.dst)=some d) (hb:get L d=some (.bool (decide p))) (hp:p) (h1:SW P n ops M (o::rest) ((d,.bool true)::L) w) : SW P n ops M (o::rest) L w:=SW.fZ hg hd hb (fun _=>h1) (fun e=>absurd hp e)
theorem SW.rK (hg:o.guard=some (j,b)) (hd:(ops[j]?).bind (·.dst)=some d) (hb:get L d=some (.bool (decide p))) (hp : ¬ p) (h0:SW P n ops M (o::rest) ((d,.bool false)::L) w) : SW P n ops M (o::rest) L w:=SW.fZ hg hd hb (fun e=>absurd e hp) (fun _=>h0)
theorem SW.rL (hg:o.guard=some (j,b)) (hd:(ops[j]?).bind (·.dst)=some d) (hb:get L d=some (.bool (!decide p))) (hp : ¬ p) (h1:SW P n ops M (o::rest) ((d,.bool true)::L) w) : SW P n ops M (o::rest) L w:=SW.CF hg hd hb (fun _=>h1) (fun e=>absurd e hp)
theorem SW.rM (hg:o.guard=some (j,b)) (hd:(ops[j]?).bind (·.dst)=some d) (hb:get L d=some (.bool (!decide p))) (hp:p) (h0:SW P n ops M (o::rest) ((d,.bool false)::L) w) : SW P n ops M (o::rest) L w:=SW.CF hg hd hb (fun e=>absurd hp e) (fun _=>h0)
end
theorem SW.st {pos:String} {v:Value} (hs:St P ⟨some d,op,T,pos,af,none⟩ L w v) (hn:Nat.blt d n=true) (h:SW P n ops M rest ((d,v)::L) w) : SW P n ops M (⟨some d,op,T,pos,af,none⟩::rest) L w :=
 ⟨fun a ha=>by
  have h':=h.out _ (ha.put hn v);cases M with
  | gL Q =>
    simp only [swp,wpList,Region.wanted,if_true];refine .inl ?_;unfold Oper.wp;rw [hs.out n a ha w (Ext.refl w),Oper.upon_value];exact h'
  | NP K =>
    simp only [swp,wpQuiet,Region.wanted,if_true];refine ⟨v,fun w' nC => ?_,h'⟩;unfold Oper.quietAt;rw [hs.out n a ha w' nC];exact ⟨rfl,rfl⟩
  | tk K =>
    simp only [swp,CE,Region.wanted,if_true];exact ⟨v,fun w' nC=>hs.out n a ha w' nC,h'⟩⟩
def K4:IntKind->IntKind->Bool
 | .i64,.i64 | .u8,.u8 | .u64,.u64 | .i32,.i32 | .u32,.u32=>true
 | _,_=>false
theorem K9 {a b:IntKind} (h:K4 a b=true) : a=b:=by cases a<;>cases b<;>simp [K4] at h<;>rfl
def Qj (op:BinOp) (i j:Int) : Option Value :=
 match op with
 | .lss=>some (.bool (decide (i<j)))
 | .leq=>some (.bool (decide (i<=j)))
 | .gtr=>some (.bool (decide (j<i)))
 | .geq=>some (.bool (decide (j<=i)))
 | .eql=>some (.bool (decide (i=j)))
 | .neq=>some (.bool (!decide (i=j)))
 | _=>none
def tA (L:Env) : Op->Option Value
 | .move x=>cK L x
 | .assign x=>cK L x
 | .pick c x y=>match cK L c with
   | some (.bool true)=>cK L x
   | some (.bool false)=>cK L y
   | _=>none
 | .unOp .not _ x=>match cK L x with
   | some (.bool b)=>some (.bool !b)
   | _=>none
 | .binOp op _ x y _=>match cK L x,cK L y with
   | some (.int k i),some (.int k' j)=>bif K4 k k' then Qj op i j else none
   | _,_=>none
 | .extract x i=>match cK L x with
   | some (.tuple vs)=>vs[i]?
   | _=>none
 | _=>none
section
variable {d:Option Nat} {T:TypeId} {pos:String} {af:Array Edge} {g:Option (Nat×Bool)} {v:Value}
theorem SB {x:Operand} (h:cK L x=some v) : St P ⟨d,.move x,T,pos,af,g⟩ L w v:=⟨fun _ a ha w' _=>by simp [execOp,ha.eval h]⟩
theorem SC {x:Operand} (h:cK L x=some v) : St P ⟨d,.assign x,T,pos,af,g⟩ L w v:=⟨fun _ a ha w' _=>by simp [execOp,ha.eval h]⟩
theorem HO {c x:Operand} {b:Bool} (hc:cK L c=some (.bool b)) (h:cK L (if b then x else y)=some v) : St P ⟨d,.pick c x y,T,pos,af,g⟩ L w v :=
 ⟨fun _ a ha w' _=>by
  have e1:=ha.eval hc;have e2:=ha.eval h;generalize a.eval = ρ at *
  cases b
  ·have e3 : ρ y=v:=e2
   simp [go_sem,e1,e3]
  ·have e3 : ρ x=v:=e2
   simp [go_sem,e1,e3]⟩
theorem Qk {x:Operand} {b:Bool} (hx:cK L x=some (.bool b)) : St P ⟨d,.unOp .not t x,T,pos,af,g⟩ L w (.bool !b) :=
 ⟨fun _ a ha w' _=>by have e1:=ha.eval hx;generalize a.eval = ρ at *;simp [go_sem,e1,Op.unary]⟩
theorem Ql {op:BinOp} {x:Operand} {k:IntKind} {i j:Int} (hx:cK L x=some (.int k i)) (hy:cK L y=some (.int k j)) (h:Qj op i j=some v) : St P ⟨d,.binOp op t x y ty,T,pos,af,g⟩ L w v :=
 ⟨fun _ a ha w' _=>by
  have e1:=ha.eval hx;have e2:=ha.eval hy;generalize a.eval = ρ at *
  cases op<;>simp only [Qj,Option.some.injEq,reduceCtorEq] at h
  all_goals subst h
  all_goals simp [go_sem,e1,e2]
  all_goals rfl⟩
theorem FZ {x:Operand} {vs:Array Value} (hx:cK L x=some (.tuple vs)) (h:vs[i]?=some v) : St P ⟨d,.extract x i,T,pos,af,g⟩ L w v :=
 ⟨fun _ a ha w' _=>by simp [execOp,ha.eval hx,Instr.extract,h]⟩
theorem bi {o:Op} (h:tA L o=some v) : St P ⟨d,o,T,pos,af,g⟩ L w v:=by
 cases o
 case move x=>exact SB h
 case assign x=>exact SC h
 case pick c x y =>
  simp only [tA] at h;split at h
  ·exact HO (b:=true) ‹_› h
  ·exact HO (b:=false) ‹_› h
  ·cases h
 case unOp op t x =>
  cases op
  case not =>
   simp only [tA] at h;split at h
   ·cases h;exact Qk ‹_›
   ·cases h
  all_goals simp [tA] at h
 case binOp op t x y ty =>
  simp only [tA] at h;split at h
  ·simp only [cond_eq_ite] at h;split at h
   ·rename_i hk;obtain rfl:=K9 hk;exact Ql ‹_› ‹_› h
   ·cases h
  ·cases h
 case extract x i =>
  simp only [tA] at h;split at h
  ·exact FZ ‹_› h
  ·cases h
 all_goals simp [tA] at h
end
theorem SW.pure {pos:String} {v:Value} (hs:tA L op=some v) (hn:Nat.blt d n=true) (h:SW P n ops M rest ((d,v)::L) w) : SW P n ops M (⟨some d,op,T,pos,af,none⟩::rest) L w :=
 SW.st (bi hs) hn h
theorem SW.eI {K:Env->Prop} (h:K L) : SW P n ops (.NP K) [] L w:=⟨fun _ ha=>⟨L,ha,h⟩⟩
theorem SW.cu {K:Env->Prop} (h:K L) : SW P n ops (.tk K) [] L w:=⟨fun _ ha=>⟨L,ha,h⟩⟩
theorem SW.nil (h:ae n Q .normal L w) : SW P n ops (.gL Q) [] L w:=⟨fun a ha=>h.out a ha⟩
theorem ae.seq {y:Code} (h:CW P n y Q L w) : ae n (NQ P y Q) .normal L w:=⟨fun a ha=>h.out a ha⟩
theorem ae.ux {y:Code} (h:ae n Q .ret L w) : ae n (NQ P y Q) .ret L w:=⟨fun a ha=>h.out a ha⟩
theorem ae.uy {y:Code} {id:Nat} (h:ae n Q (.exit id) L w) : ae n (NQ P y Q) (.exit id) L w:=⟨fun a ha=>h.out a ha⟩
theorem CW.seq {x y:Code} (h:CW P n x (NQ P y Q) L w) : CW P n (.seq x y) Q L w:=⟨fun a ha=>wp_seq (h.out a ha)⟩
theorem CW.skip (h:ae n Q .normal L w) : CW P n .skip Q L w:=⟨fun a ha=>wp_skip (h.out a ha)⟩
theorem CW.ret (h:ae n Q .ret L w) : CW P n .ret Q L w:=⟨fun a ha=>wp_ret (h.out a ha)⟩
theorem CW.exit {id:Nat} (h:ae n Q (.exit id) L w) : CW P n (.exit id) Q L w:=⟨fun a ha=>wp_exit (h.out a ha)⟩
theorem CW.block {id:Nat} {c:Code} (h:CW P n c (Exit.inBlock id Q) L w) : CW P n (.block id c) Q L w:=⟨fun a ha=>wp_block (h.out a ha)⟩
theorem CW.cond {c:Operand} {x y:Code} {b:Bool} (hc:cK L c=some (.bool b)) (h1:b=true->CW P n x Q L w) (h0:b=false->CW P n y Q L w) : CW P n (.cond c x y) Q L w :=
 ⟨fun a ha=>wp_cond_split (ha.eval hc) (fun e=>(h1 e).out a ha) (fun e=>(h0 e).out a ha)⟩
theorem CW.gj {c:Operand} {x y:Code} (hc:cK L c=some (.bool true)) (h:CW P n x Q L w) : CW P n (.cond c x y) Q L w:=CW.cond hc (fun _=>h) (fun e=>by cases e)
theorem CW.fU {c:Operand} {x y:Code} (hc:cK L c=some (.bool false)) (h:CW P n y Q L w) : CW P n (.cond c x y) Q L w:=CW.cond hc (fun e=>by cases e) (fun _=>h)
theorem CW.uA {c:Operand} {x y:Code} {p:Prop} [Decidable p] (hc:cK L c=some (.bool (decide p))) (h1:p->CW P n x Q L w) (h0 : ¬ p->CW P n y Q L w) : CW P n (.cond c x y) Q L w :=
 CW.cond hc (fun e=>h1 (of_decide_eq_true e)) (fun e=>h0 (of_decide_eq_false e))
theorem CW.Pk {c:Operand} {x y:Code} {p:Prop} [Decidable p] (hc:cK L c=some (.bool (!decide p))) (h1 : ¬ p->CW P n x Q L w) (h0:p->CW P n y Q L w) : CW P n (.cond c x y) Q L w :=
 CW.cond hc (fun e=>h1 (by simpa using e)) (fun e=>h0 (by simpa using e))
theorem CW.uB {c:Operand} {x y:Code} {p:Prop} [Decidable p] (hc:cK L c=some (.bool (decide p))) (hp:p) (h1:CW P n x Q L w) : CW P n (.cond c x y) Q L w:=CW.uA hc (fun _=>h1) (fun e=>absurd hp e)
theorem CW.xR {c:Operand} {x y:Code} {p:Prop} [Decidable p] (hc:cK L c=some (.bool (decide p))) (hp : ¬ p) (h0:CW P n y Q L w) : CW P n (.cond c x y) Q L w:=CW.uA hc (fun e=>absurd e hp) (fun _=>h0)
theorem CW.uC {c:Operand} {x y:Code} {p:Prop} [Decidable p] (hc:cK L c=some (.bool (!decide p))) (hp : ¬ p) (h1:CW P n x Q L w) : CW P n (.cond c x y) Q L w:=CW.Pk hc (fun _=>h1) (fun e=>absurd e hp)
theorem CW.uD {c:Operand} {x y:Code} {p:Prop} [Decidable p] (hc:cK L c=some (.bool (!decide p))) (hp:p) (h0:CW P n y Q L w) : CW P n (.cond c x y) Q L w:=CW.Pk hc (fun e=>absurd hp e) (fun _=>h0)
theorem CW.CG {c:Operand} {x y:Code} {v:Value} (hc:cK L c=some v) (hv:v = .bool true) (h:CW P n x Q L w) : CW P n (.cond c x y) Q L w:=CW.gj (hc.trans (by rw [hv])) h
theorem CW.CH {c:Operand} {x y:Code} {v:Value} (hc:cK L c=some v) (hv:v = .bool false) (h:CW P n y Q L w) : CW P n (.cond c x y) Q L w:=CW.fU (hc.trans (by rw [hv])) h
theorem CW.region {id:Nat} {l:List Oper} (h:SW P n l.toArray (.gL Q) l L w) : CW P n (.region id l.toArray false) Q L w:=⟨fun a ha=>wp_region_lit (h.out a ha)⟩
theorem CW.quiet {id:Nat} {l:List Oper} {K:Env->Prop} (hm:P.follows .mixedOrders=true) (hB:Region.lexB .any l.toArray=true) (h:SW P n l.toArray (.NP K) l L w)
 (k:∀ L' w',Ext w w'->K L'->ae n Q .normal L' w') : CW P n (.region id l.toArray true) Q L w :=
 ⟨fun a ha=>wp_region_quiet (C:=fun w'=>Ext w w') hm hB (Ext.drew w) (by
  have h':=h.out a ha
  have Bo:∀ (l':List Oper) (a:Act),wpQuiet P l.toArray (fun w'=>Ext w w') (fun a' => ∃ L',Fit n a' L'∧K L') l' a ->
   wpQuiet P l.toArray (fun w'=>Ext w w') (fun a' => ∀ w',Ext w w'->Q .normal a' w') l' a:=by
   intro l';induction l' with
   | nil=>exact fun a ⟨L',hf,hk⟩ w' nC=>(k L' w' nC hk).out a hf
   | cons o r ih =>
     intro a hh;simp only [wpQuiet] at hh ⊢;split
     ·rename_i hw;rw [if_pos hw] at hh;exact Oper.quiet_mono ih hh
     ·rename_i hw;rw [if_neg hw] at hh;exact ih _ hh
  exact Bo l a h')⟩
theorem CW.cut {c:Code} (K:Env->World->Prop) (h:CW P n c (fun e a w'=>e = .normal ∧ ∃ L',Fit n a L'∧K L' w') L w) (k:∀ L' w',K L' w'->ae n Q .normal L' w') : CW P n c Q L w :=
 ⟨fun a ha=>wp_mono (h.out a ha) fun e a' w' ⟨he,L',hf,hk⟩=>by subst he;exact (k L' w' hk).out a' hf⟩
theorem ae.cut {K:Env->World->Prop} (h:K L w) : ae n (fun e a w'=>e=Exit.normal ∧ ∃ L',Fit n a L'∧K L' w') .normal L w:=⟨fun _ ha=>⟨rfl,L,ha,h⟩⟩
theorem ae.sub {e:Exit} {L':Env} (hs:il L L') (h:ae n Q e L' w) : ae n Q e L w:=⟨fun a ha=>h.out a (ha.sub hs)⟩
theorem ae.hit {id:Nat} (h:ae n Q .normal L w) : ae n (Exit.inBlock id Q) (.exit id) L w:=⟨fun a ha=>by simp only [Exit.inBlock,if_true];exact h.out a ha⟩
theorem ae.pass {id:Nat} (bL:Nat.beq j id=false) (h:ae n Q (.exit j) L w) : ae n (Exit.inBlock id Q) (.exit j) L w :=
 ⟨fun a ha=>by
  have:j≠id:=fun e=>by subst e;simp at bL
  simp only [Exit.inBlock,this,if_false];exact h.out a ha⟩
theorem ae.eG {id:Nat} (h:ae n Q .normal L w) : ae n (Exit.inBlock id Q) .normal L w:=⟨fun a ha=>h.out a ha⟩
theorem ae.xS {id:Nat} (h:ae n Q .ret L w) : ae n (Exit.inBlock id Q) .ret L w:=⟨fun a ha=>h.out a ha⟩
end
theorem DT {c:Code} (I:Nat->Act->World->Prop)
 (round:∀ m a w,I m a w->c.wp P (Exit.then (fun a' w' => ∃ m',m'<m∧I m' a' w') Q) a w) :
 ∀ m a w,I m a w->(Code.loop c).wp P Q a w:=by
 intro m a w h0 b k cs
 have key:∀ m a w,I m a w -> ∃ e a' w',Q e a' w'∧Arrives P (lone (b.at a (.code c :: .inLoop c::k)) cs w) b k cs e a' w':=by
  intro m;induction m using Nat.strongRecOn with
  | _ m ih =>
    intro a w hI;obtain ⟨e,a₁,w₁,hq,AO⟩:=round m a w hI b (.inLoop c::k) cs;cases e with
    | normal =>
      obtain ⟨m',eQ,hI₁⟩:=hq;obtain ⟨e₂,a₂,w₂,hq₂,AO₂⟩:=ih m' eQ a₁ w₁ hI₁;exact ⟨e₂,a₂,w₂,hq₂,.of_steps (Steps.trans AO (.one step_inLoop)) AO₂⟩
    | exit id=>exact ⟨_,a₁,w₁,hq,.pass (x := .inLoop c) rfl (fun _ _ => .inl (by simp)) AO⟩
    | goto l=>exact ⟨_,a₁,w₁,hq,.pass (x := .inLoop c) rfl (fun _ _ => .inl (by simp)) AO⟩
    | ret=>exact ⟨_,a₁,w₁,hq,.pass (x := .inLoop c) rfl (fun _ _ => .inl (by simp)) AO⟩
    | panic ch=>exact ⟨_,a₁,w₁,hq,.pass (x := .inLoop c) rfl (fun _ _ => .inl (by simp)) AO⟩
    | outgrown=>exact ⟨_,a₁,w₁,hq,.pass (x := .inLoop c) rfl (fun _ _ => .inl (by simp)) AO⟩
 obtain ⟨e,a',w',hq,AO⟩:=key m a w h0;exact ⟨e,a',w',hq,.of_steps (.one step_loop) AO⟩
section
variable {P:Program} {n:Nat} {Q:Exit->Act->World->Prop} {L:Env} {w:World} {σ:Type}
def HQ (n:Nat) (E : σ -> Env) (I : σ -> World->Prop) (μ : σ -> Nat) (m:Nat) (Q:Exit->Act->World->Prop) : Exit->Act->World->Prop:=Exit.then (fun a w => ∃ m',m'<m ∧ ∃ s,μ s=m'∧Fit n a (E s)∧I s w) Q
theorem ae.again {E : σ -> Env} {I : σ -> World->Prop} {μ : σ -> Nat} (s : σ) (hs:il L (E s)) (hm : μ s<m) (h:I s w) : ae n (HQ n E I μ m Q) .normal L w :=
 ⟨fun _ ha=>⟨_,hm,s,rfl,ha.sub hs,h⟩⟩
theorem ae.sI {E : σ -> Env} {I : σ -> World->Prop} {μ : σ -> Nat} (h:ae n Q .ret L w) : ae n (HQ n E I μ m Q) .ret L w:=⟨fun a ha=>h.out a ha⟩
theorem ae.qk {E : σ -> Env} {I : σ -> World->Prop} {μ : σ -> Nat} {id:Nat} (h:ae n Q (.exit id) L w) : ae n (HQ n E I μ m Q) (.exit id) L w:=⟨fun a ha=>h.out a ha⟩
theorem CW.loop {c:Code} (E : σ -> Env) (I : σ -> World->Prop) (μ : σ -> Nat) (s0 : σ) (hs:il L (E s0)) (h0:I s0 w) (round:∀ s w,I s w->CW P n c (HQ n E I μ (μ s) Q) (E s) w) : CW P n (.loop c) Q L w :=
 ⟨fun a ha=>DT (fun m a w => ∃ s,μ s=m∧Fit n a (E s)∧I s w)
  (fun m a w ⟨s,hm,hf,hI⟩=>by subst hm;exact (round s w hI).out a hf) (μ s0) a w ⟨s0,rfl,ha.sub hs,h0⟩⟩
end
section
variable {P:Program} {n:Nat} {ops:Array Oper} {Q:Exit->Act->World->Prop} {rest:List Oper} {L:Env} {w:World}
structure bI (P:Program) (f:FuncId) (args:List Value) (w:World) (R:Value->World->Prop) : Prop where
 out:Calls P f args.toArray w fun e w' => ∃ v,e = .returned v∧Ext w w'∧R v w'
theorem bI.mono {f:FuncId} {R:Value->World->Prop} (h:bI P f args w R) (hr:∀ v w',Ext w w'->R v w'->R' v w') : bI P f args w R' :=
 ⟨Calls.mono h.out fun _ _ ⟨v,he,hx,hv⟩=>⟨v,he,hx,hr _ _ hx hv⟩⟩
def uE (L:Env) : List Operand->Option (List Value)
 | []=>some []
 | x::r=>match cK L x,uE L r with
   | some v,some vs=>some (v::vs)
   | _,_=>none
theorem Fit.uF {a:Act} (h:Fit n a L) : ∀ {xs:List Operand} {vs:List Value},uE L xs=some vs->xs.map a.eval=vs
 | [],vs,e=>by simp [uE] at e;subst e;rfl
 | x::r,vs,e=>by
   simp only [uE] at e;cases hx:cK L x with
   | none=>simp [hx] at e
   | some v =>
     cases hr:uE L r with
     | none=>simp [hx,hr] at e
     | some us =>
       simp [hx,hr] at e;subst e;simp [h.eval hx,h.uF hr]
class Body (P:Program) (f:FuncId) : Prop where
 out:∀ args w,(callFunc f args).run P w = .ok (.enter f args) w
theorem ay {f : FuncId} (hf : P.funcs[f]? = some fn) (hn : (fn.name == "runtime.NumGoroutine") = false := by kernel_rfl) (hb : fn.body.isNone = false := by kernel_rfl) : Body P f :=
 ⟨fun args w=>by
  simp only [callFunc,Sem.run_bind,Go.program,Sem.run,Result.andThen,hf,hn,hb,Bool.false_eq_true,if_false]
  rfl⟩
theorem yE {a:Act} {d:Option Nat} {f:FuncId} {xs:List Operand} {pos:String}
 [hb:Body P f] : (execOp a.eval ⟨d,.call ⟨.value (.func f),xs.toArray,ts⟩,T,pos,af,g⟩).run P w' = .ok (.enter f (xs.map a.eval).toArray) w':=by
 simp only [execOp,resolve,Deferred.ofValue,Act.eval,Sem.run_bind,pure,Sem.run,Result.andThen,invoke,List.map_toArray];have:=hb.out (xs.map a.eval).toArray w'
 simpa using this
theorem SW.call {f:FuncId} {xs:List Operand} {vs:List Value} {pos:String} {R:Value->World->Prop}
 [Body P f] (hx:uE L xs=some vs) (hn:Nat.blt d n=true) (hc:bI P f vs w R) (h:∀ v w',Ext w w'->R v w'->SW P n ops (.gL Q) rest ((d,v)::L) w') :
 SW P n ops (.gL Q) (⟨some d,.call ⟨.value (.func f),xs.toArray,ts⟩,T,pos,af,none⟩::rest) L w :=
 ⟨fun a ha=>by
  simp only [swp,wpList,Region.wanted,if_true];refine .inl ?_;unfold Oper.wp;rw [yE,Oper.upon_enter,ha.uF hx];refine Calls.mono hc.out ?_;rintro e w' ⟨v,rfl,py,hv⟩
  exact (h v w' py hv).out _ (ha.put hn v)⟩
theorem SW.dF {K:Env->Prop} {f:FuncId} {xs:List Operand} {vs:List Value} {pos:String} {v:Value}
 [Body P f] (hx:uE L xs=some vs) (hn:Nat.blt d n=true) (hc:∀ w',Ext w w'->bI P f vs w' fun u _=>u=v) (h:SW P n ops (.NP K) rest ((d,v)::L) w) :
 SW P n ops (.NP K) (⟨some d,.call ⟨.value (.func f),xs.toArray,ts⟩,T,pos,af,none⟩::rest) L w :=
 ⟨fun a ha=>by
  simp only [swp,wpQuiet,Region.wanted,if_true];refine ⟨v,fun w' nC => ?_,h.out _ (ha.put hn v)⟩;unfold Oper.quietAt;rw [yE,ha.uF hx];refine ⟨rfl,Calls.mono (hc w' nC).out ?_⟩;rintro e NA ⟨u,rfl,py,rfl⟩
  exact ⟨rfl,nC.trans py⟩⟩
end
section
variable {P:Program} {fn:Func} {R:Ending->World->Prop} {n:Nat} {L:Env} {w:World}
def sJ:Nat->List Value->Env
 | _,[]=>[]
 | i,v::r=>(i,v)::sJ (i+1) r
theorem rN:∀ (vs:List Value) (k i:Nat) (v:Value),get (sJ k vs) i=some v->k<=i∧vs[i-k]?=some v
 | [],_,_,_,h=>by simp [sJ,get] at h
 | u::r,k,i,v,h=>by
   simp only [sJ,get,cond_eq_ite] at h;by_cases e:Nat.beq k i=true
   ·rw [if_pos e] at h;obtain rfl:=adv e;simpa using h
   ·rw [if_neg e] at h;obtain ⟨h1,h2⟩:=rN r (k+1) i v h;refine ⟨by omega,?_⟩;have:i-k=(i-(k+1))+1:=by omega
    rw [this];simpa using h2
theorem aE {f:FuncId} {c:Code} {R:Value->World->Prop} (hf:P.funcs[f]?=some fn) (hb:fn.body=some c) (hn:fn.ntmps=n) (hl:Nat.ble args.length n=true)
 (h:CW P n c (bodyPost P fn fun e w' => ∃ v,e = .returned v∧Ext w w'∧R v w') (sJ 0 args) w) : bI P f args w R:=by
 have AG:args.length<=n:=by simpa using hl
 refine ⟨calls_of_wp hf hb (h.out _ ⟨?_,rfl,?_⟩)⟩
 ·simp [hn];omega
 ·intro i v hi;obtain ⟨_,h2⟩:=rN args 0 i v hi;simp only [Nat.sub_zero] at h2
  have eQ:i<args.length:=by
   rcases adA i args.length with h|h
   ·exact h
   ·rw [adP h] at h2;cases h2
  rw [aed,aeV (by simpa using eQ)];simp [h2]
theorem ae.bj {t:Nat} {v:Value} (hr:fn.results = #[.tmp t]) (hv:get L t=some v) (h:R (.returned v) w) : ae n (bodyPost P fn R) .ret L w :=
 ⟨fun a ha=>⟨ha.defers,v,by rw [results_tmp hr,ha.has _ _ hv],h⟩⟩
theorem ae.dj {t u:Nat} {v x:Value} (hr:fn.results = #[.tmp t,.tmp u]) (hv:get L t=some v) (hx:get L u=some x) (h:R (.returned (.tuple #[v,x])) w) : ae n (bodyPost P fn R) .ret L w :=
 ⟨fun a ha=>⟨ha.defers,_,by rw [results_tmp2 hr,ha.has _ _ hv,ha.has _ _ hx],h⟩⟩
end
class bz (P:Program) (t:TypeId) (e:outParam TypeId) (sz:outParam Nat) : Prop where
 ou:P.underlying t=some (.slice e):=by kernel_rfl
 size:(P.info? e).map (·.size)=some sz:=by kernel_rfl
class gI (P:Program) (t:TypeId) : Prop where
 one:((P.underlying t).map fun | .struct _=>false | .array _ _=>false|_=>true)=some true:=by kernel_rfl
 size:(P.info? t).map (·.size)=some 1:=by kernel_rfl
class yF (P:Program) (t:TypeId) (len:outParam Nat) (e:outParam TypeId) (sz:outParam Nat) : Prop where
 ou:P.underlying t=some (.array len e):=by kernel_rfl
 size:(P.info? e).map (·.size)=some sz:=by kernel_rfl
class dn (P:Program) (e:TypeId) (z:outParam Value) (sz bytes:outParam Nat) : Prop where
 U7:(P.info? e).map (fun i=>(i.zero,i.size,i.bytes))=some (some z,sz,bytes):=by kernel_rfl
 zc:z.cells.size=sz:=by kernel_rfl
 pos : 0<sz:=by decide
class fu (P:Program) (t:TypeId) (n:outParam Nat) : Prop where
 agg:((P.underlying t).map fun | .struct _=>true | .array _ _=>true|_=>false)=some true:=by kernel_rfl
 size:(P.info? t).map (·.size)=some n:=by kernel_rfl
class bo (P:Program) (t:TypeId) (i:Nat) (off:outParam Nat) (ft:outParam TypeId) : Prop where
 jL:((P.underlying t).bind fun | .struct fs=>(fs[i]?).map (fun f=>(f.offset,f.type))|_=>none)=some (off,ft):=by kernel_rfl
 size:((P.info? ft).map (·.size)).map (· == 0)=some false:=by kernel_rfl
theorem run_sizeOf {n:Nat} (h:(P.info? t).map (·.size)=some n) (w:World) : (sizeOf t).run P w = .ok n w:=by
 cases hi:P.info? t with
 | none=>simp [hi] at h
 | some i=>simp [hi] at h;simp [sizeOf,typeInfo,hi,h]
theorem tB [c:gI P t] (w:World) : (isAgg t).run P w = .ok false w:=by
 have h:=c.one;cases hu:P.underlying t with
 | none=>simp [hu] at h
 | some d =>
   simp only [isAgg,Sem.run_bind,run_underlying hu,Result.andThen];simp [hu] at h;cases d<;>simp_all
theorem tC {n:Nat} [c:fu P t n] (w:World) : (isAgg t).run P w = .ok true w:=by
 have h:=c.agg;cases hu:P.underlying t with
 | none=>simp [hu] at h
 | some d =>
   simp only [isAgg,Sem.run_bind,run_underlying hu,Result.andThen];simp [hu] at h;cases d<;>simp_all
section
variable {P:Program} {L:Env} {w:World} {d:Option Nat} {T:TypeId} {pos:String} {af:Array Edge} {g:Option (Nat×Bool)}
section
variable {t ty:TypeId} {x y:Operand} {k:IntKind} {i j:Int}
theorem NR (hx:cK L x=some (.int k i)) (hy:cK L y=some (.int k j)) : St P ⟨d,.binOp .add t x y ty,T,pos,af,g⟩ L w (.int k (k.wrap (i+j))) :=
 ⟨fun n a ha w' _=>by have e1:=ha.eval hx;have e2:=ha.eval hy;generalize a.eval = ρ at *;simp [go_sem,e1,e2]⟩
theorem xT (hx:cK L x=some (.int k i)) (hy:cK L y=some (.int k j)) : St P ⟨d,.binOp .sub t x y ty,T,pos,af,g⟩ L w (.int k (k.wrap (i-j))) :=
 ⟨fun n a ha w' _=>by have e1:=ha.eval hx;have e2:=ha.eval hy;generalize a.eval = ρ at *;simp [go_sem,e1,e2]⟩
theorem NS (hx:cK L x=some (.int k i)) (hy:cK L y=some (.int k j)) : St P ⟨d,.binOp .mul t x y ty,T,pos,af,g⟩ L w (.int k (k.wrap (i*j))) :=
 ⟨fun n a ha w' _=>by have e1:=ha.eval hx;have e2:=ha.eval hy;generalize a.eval = ρ at *;simp [go_sem,e1,e2]⟩
theorem jf {z:Int} (h1 : -9223372036854775808<=z) (h2:z<=9223372036854775807) : IntKind.i64.wrap z=z:=IntWalk.i64_in _ ⟨h1,h2⟩
theorem St.eq {o:Oper} {v:Value} (h:St P o L w v) (e:v=v') : St P o L w v':=e ▸ h
theorem yG (hx:cK L x=some (.int .i64 i)) (hy:cK L y=some (.int .i64 j)) (h1 : -9223372036854775808<=i+j) (h2:i+j<=9223372036854775807) : St P ⟨d,.binOp .add t x y ty,T,pos,af,g⟩ L w (.int .i64 (i+j)) :=
 (NR hx hy).eq (by rw [jf h1 h2])
theorem yH (hx:cK L x=some (.int .i64 i)) (hy:cK L y=some (.int .i64 j)) (h1 : -9223372036854775808<=i-j) (h2:i-j<=9223372036854775807) : St P ⟨d,.binOp .sub t x y ty,T,pos,af,g⟩ L w (.int .i64 (i-j)) :=
 (xT hx hy).eq (by rw [jf h1 h2])
theorem oX (hx:cK L x=some (.int .i64 i)) (hy:cK L y=some (.int .i64 j)) (h1 : -9223372036854775808<=i*j) (h2:i*j<=9223372036854775807) : St P ⟨d,.binOp .mul t x y ty,T,pos,af,g⟩ L w (.int .i64 (i*j)) :=
 (NS hx hy).eq (by rw [jf h1 h2])
theorem yI (hx:cK L x=some (.int .i64 i)) (hy:cK L y=some (.int .i64 j)) (h0 : 0<=i) (h1 : 0<j) (h2:i<=9223372036854775807) : St P ⟨d,.binOp .quo t x y ty,T,pos,af,g⟩ L w (.int .i64 (i / j)) :=
 ⟨fun n a ha w' _=>by
  have hj : ¬ j=0:=by omega
  have e:i.tdiv j=i / j:=aeW h0
  have hd:i / j<=i:=aeD _ h0
  have RZ : 0<=i / j:=afa h0 (by omega)
  have:=jf (z:=i / j) (by omega) (by omega)
  have e1:=ha.eval hx;have e2:=ha.eval hy;generalize a.eval = ρ at *;simp [go_sem,e1,e2,hj,e,this]⟩
theorem yJ (hx:cK L x=some (.int .i64 i)) (hy:cK L y=some (.int .i64 j)) (h1:j≠0) : St P ⟨d,.binOp .rem t x y ty,T,pos,af,g⟩ L w (.int .i64 (i.tmod j)) :=
 ⟨fun n a ha w' _=>by
  have e1:=ha.eval hx;have e2:=ha.eval hy;generalize a.eval = ρ at *;simp [go_sem,e1,e2,h1]⟩
end
theorem yK [c:bz P t e sz] {x:Operand} {n cap:Nat} (hx:cK L x=some (.slice A n cap)) :
 St P ⟨d,.call ⟨.builtin .len,#[x],#[t]⟩,T,pos,af,g⟩ L w (.int .i64 n) :=
 ⟨fun _ a ha w' _=>by simp [execOp,resolve,invoke,builtin,ha.eval hx,Builtin.len_,run_underlying c.ou,goInt]⟩
theorem La [c:bz P t e sz] {x:Operand} {n cap:Nat} {i:Int} (hx:cK L x=some (.slice A n cap)) (hy:cK L y=some (.int .i64 i))
 (hA:A.isSome=true) (h0 : 0<=i) (h1:i<n) : St P ⟨d,.indexAddr t x y,T,pos,af,g⟩ L w (.pointer (some ((A.getD default).add (i.toNat*sz)))) :=
 ⟨fun _ a ha w' _=>by
  obtain ⟨ad,rfl⟩:=adw.1 hA;simp [execOp,ha.eval hx,ha.eval hy,Instr.indexAt,asIntOf,run_underlying c.ou,run_sizeOf c.size,h0,h1]⟩
theorem az [c:bo P t i off ft] {x:Operand} (hx:cK L x=some (.pointer (some ad))) :
 St P ⟨d,.fieldAddr t x i,T,pos,af,g⟩ L w (.pointer (some (ad.add off))) :=
 ⟨fun _ a ha w' _=>by
  have h:=c.jL;cases hu:P.underlying t with
  | none=>simp [hu] at h
  | some D =>
    cases D<;>simp [hu] at h
    rename_i fs;obtain ⟨f,hf,h1,h2⟩:=h;subst h1 h2;have hs:=c.size;cases hi:P.info? f.type with
    | none=>simp [hi] at hs
    | some inf =>
      simp [hi] at hs;simp [execOp,ha.eval hx,Instr.fieldAt,run_underlying hu,hf,fieldPlace,Instr.sureAddr,sizeOf,typeInfo,hi,hs]⟩
theorem rO [c:bz P t e sz] {x:Operand} {n cap q:Nat} (hx:cK L x=some (.slice A n cap)) (hy:cK L y=some (.slice none m q)) :
 St P ⟨d,.binOp .eql t x y ty,T,pos,af,g⟩ L w (.bool A.isNone) :=
 ⟨fun _ a ha w' _=>by
  have h:=Lib.run_eql_slice_nil (P:=P) w' t e A n cap m q c.ou;simp [execOp,ha.eval hx,ha.eval hy,eqGuard_at_slice,h]⟩
theorem aT [gI P t] {x:Operand} {v:Value} (hx:cK L x=some (.pointer (some ad))) (hc:w.cell? ad=some v) : St P ⟨d,.load t x,T,pos,af,g⟩ L w v :=
 ⟨fun _ a ha w' hw=>by simp [execOp,ha.eval hx,Instr.loadAt,Instr.sureAddr,loadVar,tB,load,Sem.run,hw.cell hc]⟩
theorem mu [gI P t] {x:Operand} {v:Value} (hw:Ext w0 w) (hx:cK L x=some (.pointer (some ad))) (hc:w0.cell? ad=some v) : St P ⟨d,.load t x,T,pos,af,g⟩ L w v:=aT hx (hw.cell hc)
theorem aX [c:fu P t m] {x:Operand} {vs:List Value} (hx:cK L x=some (.pointer (some ad))) (hm:vs.length=m) (hc:∀ j v,vs[j]?=some v->w.cell? (ad.add j)=some v) :
 St P ⟨d,.load t x,T,pos,af,g⟩ L w (.agg vs.toArray) :=
 ⟨fun _ a ha w' hw=>by
  subst hm;simp [execOp,ha.eval hx,Instr.loadAt,Instr.sureAddr,loadVar,tC,run_sizeOf c.size,run_loadCells_list (P:=P) w' ad vs (fun j v hv=>hw.cell (hc j v hv))]⟩
theorem vE [fu P t m] {x:Operand} {vs:List Value} (hw:Ext w0 w) (hx:cK L x=some (.pointer (some ad))) (hm:vs.length=m) (hc:∀ j v,vs[j]?=some v->w0.cell? (ad.add j)=some v) :
 St P ⟨d,.load t x,T,pos,af,g⟩ L w (.agg vs.toArray):=aX hx hm (fun j v hv=>hw.cell (hc j v hv))
end
def aS (w:World) (b:Nat) (t:TypeId) (cs:List Value) : Prop:=w.heap[b]?=some (.cells cs.toArray t (0,0))
theorem aS.lt (h:aS w b t cs) : b<w.heap.size:=by
 rcases adA b w.heap.size with eQ|Lb
 ·exact eQ
 ·unfold aS at h;rw [Array.getElem?_eq_none Lb] at h;cases h
theorem add_zero (a:Addr) : a.add 0=a:=by simp [Addr.add]
theorem add_add (a:Addr) (i j:Nat) : (a.add i).add j=a.add (i+j):=by
 unfold Addr.add;by_cases hi:i=0<;>by_cases hj:j=0<;>simp [hi,hj,Nat.add_assoc]
theorem aS.cell (h:aS w b t cs) {v:Value} (hv:cs[i]?=some v) : w.cell? ((⟨b,0,none⟩ : Addr).add i)=some v:=by
 have:((⟨b,0,none⟩ : Addr).add i)=⟨b,i,none⟩:=by unfold Addr.add;split<;>simp_all
 rw [this,cell_of_row w b i cs.toArray t (0,0) h];simpa using hv
theorem aS.ext (h:aS w b t cs) (hx:Ext w w') : aS w' b t cs:=(hx.block b h.lt).trans h
theorem aS.new (w:World) (t:TypeId) (cs:List Value) : aS (w.alloc (.cells cs.toArray t)) w.heap.size t cs:=heap_alloc_new w _
section
variable {P:Program} {n:Nat} {ops:Array Oper} {Q:Exit->Act->World->Prop} {rest:List Oper} {L:Env} {w:World}
theorem SW.box {x:Operand} {vs:List Value} {pos:String} (hx:cK L x=some (.agg vs.toArray)) (hn:Nat.blt d n=true)
 (h:∀ b w',Ext w w'->w.heap.size<=b->aS w' b t vs->SW P n ops (.gL Q) rest ((d,.pointer (some ⟨b,0,none⟩))::L) w') : SW P n ops (.gL Q) (⟨some d,.box t x,T,pos,af,none⟩::rest) L w :=
 ⟨fun a ha=>by
  simp only [swp,wpList,Region.wanted,if_true];refine .inl ?_;unfold Oper.wp
  have hr:(execOp a.eval ⟨some d,.box t x,T,pos,af,none⟩).run P w = .ok (.value (.pointer (some ⟨w.heap.size,0,none⟩))) (w.alloc (.cells vs.toArray t)):=by
   simp [execOp,ha.eval hx,Instr.box,newVar,newRow,newObj,Sem.run,Value.cells]
  rw [hr,Oper.upon_value];exact (h _ _ (Ext.alloc w _) (ac3 _) (aS.new w t vs)).out _ (ha.put hn _)⟩
end
section
variable {P:Program} {n:Nat} {Q:Exit->Act->World->Prop} {L:Env} {w:World}
theorem CW.bF {id:Nat} {l:List Oper} {Lf:Env} (hm:P.follows .mixedOrders=true) (hB:Region.lexB .any l.toArray=true) (h:SW P n l.toArray (.NP fun L'=>L'=Lf) l L w)
 (k:∀ w',Ext w w'->ae n Q .normal Lf w') : CW P n (.region id l.toArray true) Q L w :=
 CW.quiet hm hB h fun _ w' hx hk=>by subst hk;exact k w' hx
end
structure Sl {α:Type} (w:World) (sz:Nat) (enc : α -> List Value) (A:Option Addr) (n:Nat) (l:List α) : Prop where
 len:l.length=n
 base : 0<n->A.isSome=true
 cell:∀ (i:Nat) (h:i<l.length) (j:Nat) (u:Value),(enc l[i])[j]?=some u->w.cell? (((A.getD default).add (i*sz)).add j)=some u
def bw (z:Int) : List Value:=[.int .i64 z]
namespace Sl
variable {α:Type} {w w':World} {sz:Nat} {enc : α -> List Value} {A:Option Addr} {n:Nat} {l:List α}
theorem ext (h:Sl w sz enc A n l) (hx:Ext w w') : Sl w' sz enc A n l:=⟨h.len,h.base,fun i hi j u hu=>hx.cell (h.cell i hi j u hu)⟩
theorem fv (w:World) (sz:Nat) (enc : α -> List Value) (A:Option Addr) : Sl w sz enc A 0 ([] : List α):=⟨rfl,fun h=>absurd h (by omega),fun i hi=>absurd hi (by simp)⟩
theorem lt (h:Sl w sz enc A n l) (hi:i<n) : i<l.length:=by rw [h.len];exact hi
theorem one (h:Sl w sz enc A n l) (hi:i<n) {u:Value} (hu:enc (l[i]'(h.lt hi))=[u]) : w.cell? ((A.getD default).add (i*sz))=some u:=by
 have:=h.cell i (h.lt hi) 0 u (by rw [hu];rfl)
 rwa [add_zero] at this
theorem jL (h:Sl w sz enc A n l) (hi:i<n) {u:Value} (hu:(enc (l[i]'(h.lt hi)))[j]?=some u) : w.cell? (((A.getD default).add (i*sz)).add j)=some u:=h.cell i (h.lt hi) j u hu
theorem all (h:Sl w sz enc A n l) (hi:i<n) : ∀ j u,(enc (l[i]'(h.lt hi)))[j]?=some u->w.cell? (((A.getD default).add (i*sz)).add j)=some u:=h.cell i (h.lt hi)
end Sl
section
variable {P:Program} {L:Env} {w:World} {d:Option Nat} {T:TypeId} {pos:String} {af:Array Edge} {g:Option (Nat×Bool)}
theorem bZ [bz P t e sz] {x:Operand} {n cap:Nat} (hx:cK L x=some (.slice A n cap)) (hy:cK L y=some (.int .i64 (k:Int)))
 (hA : 0<n->A.isSome=true) (h1:k<n) : St P ⟨d,.indexAddr t x y,T,pos,af,g⟩ L w (.pointer (some ((A.getD default).add (k*sz)))) :=
 (La hx hy (hA (by omega)) (by omega) (by omega)).eq (by simp)
theorem cm [bz P t e sz] {x:Operand} {n cap:Nat} {i:Int} (k:Nat) (hx:cK L x=some (.slice A n cap)) (hy:cK L y=some (.int .i64 i))
 (hA : 0<n->A.isSome=true) (hk:i=(k:Int)) (h1:k<n) : St P ⟨d,.indexAddr t x y,T,pos,af,g⟩ L w (.pointer (some ((A.getD default).add (k*sz)))) :=
 bZ hx (by rw [hy,hk]) hA h1
end
variable {α:Type} {R:Ending->World->Prop} {bytes lo ov:Nat} {row:Option Nat} {t' tb:TypeId} {enc:α -> List Value}
class im {α:Type} (enc : α -> List Value) (sz:outParam Nat) : Prop where
 len:∀ x,(enc x).length=sz
 one:∀ x,∀ u∈enc x,u.oneCell'=true
instance:im bw 1:=⟨fun _=>rfl,fun _ u hu=>by simp [bw] at hu;subst hu;rfl⟩
def aI (A:Option Addr) (c:Nat) : Option Nat:=if c=0 then none else A.map (·.block)
structure Own {α:Type} (w:World) (lo:Nat) (e:TypeId) (sz:Nat) (enc : α -> List Value) (A:Option Addr) (n c:Nat) (l:List α) : Prop where
 len:l.length=n
 row:(n=0∧c=0)∨(0<c ∧ ∃ g jO,A=some ⟨g,0,none⟩∧lo<=g∧w.heap[g]?=some (.cells jO e (0,0))∧n<=c∧c<=maxLen∧jO.size=c*sz∧jO.toList.take (n*sz)=l.flatMap enc)
theorem aV [E:im enc sz] : ∀ (l:List α),(l.flatMap enc).length=l.length*sz
 | []=>by simp
 | x::r=>by simp [List.flatMap_cons,E.len,aV r,Nat.add_mul];omega
theorem iD [E:im enc sz] : ∀ (l:List α) (i:Nat) (h:i<l.length) (j:Nat) (u:Value),(enc l[i])[j]?=some u->(l.flatMap enc)[i*sz+j]?=some u
 | x::r,0,_,j,u,hu=>by
   have hj:j<(enc x).length:=by
    rcases adA j (enc x).length with h|h
    ·exact h
    ·simp [List.getElem?_eq_none h] at hu
   simp only [List.flatMap_cons,Nat.zero_mul,Nat.zero_add];rw [adF hj];simpa using hu
 | x::r,i+1,h,j,u,hu=>by
   have ih:=iD r i (by simpa using h) j u (by simpa using hu);simp only [List.flatMap_cons];rw [adL (by rw [E.len,adQ];omega),E.len];rw [<- ih];congr 1
   rw [adQ];omega
theorem dr [E:im enc sz] (oy : 0<sz) {n:Nat} {l:List α} (h:Sl w sz enc A n l) :
 ∀ j u,(l.flatMap enc)[j]?=some u->w.cell? ((A.getD default).add j)=some u:=by
 intro j u hu
 have hj:j<l.length*sz:=by
  rw [<- aV (enc:=enc)];rcases adA j (l.flatMap enc).length with h|h
  ·exact h
  ·simp [List.getElem?_eq_none h] at hu
 have hi:j / sz<l.length:=Nat.div_lt_of_lt_mul (by rw [ae4];exact hj)
 have hm:j % sz<(enc l[j / sz]).length:=by rw [E.len];exact Nat.mod_lt _ oy
 have h1:=iD (enc:=enc) l (j / sz) hi (j % sz) _ (ac7 hm);have e:j / sz*sz+j % sz=j:=by rw [ae4];exact Nat.div_add_mod j sz
 rw [e,hu] at h1;have h2:=h.cell (j / sz) hi (j % sz) _ (ac7 hm);rw [add_add,e] at h2;rw [h2,h1]
namespace Own
variable {α:Type} {w w':World} {lo:Nat} {e:TypeId} {sz:Nat} {enc : α -> List Value} {A:Option Addr} {n c:Nat} {l:List α}
theorem fv (w:World) (lo:Nat) (e:TypeId) (sz:Nat) (enc : α -> List Value) (A:Option Addr) : Own w lo e sz enc A 0 0 ([] : List α):=⟨rfl,.inl ⟨rfl,rfl⟩⟩
theorem le (h:Own w lo e sz enc A n c l) : n<=c∧c<=maxLen:=by
 rcases h.row with ⟨rfl,rfl⟩|⟨_,g,jO,_,_,_,h1,h2,_⟩
 ·simp
 ·exact ⟨h1,h2⟩
theorem grown (h:Own w lo e sz enc A n c l) (hg:w.grownBy w' row) (bL:aI A c=none∨aI A c≠row) : Own w' lo e sz enc A n c l:=by
 refine ⟨h.len,?_⟩;rcases h.row with h0|⟨hc,g,jO,rfl,h1,h2,h3,h4,h5,h6⟩
 ·exact .inl h0
 ·refine .inr ⟨hc,g,jO,rfl,h1,?_,h3,h4,h5,h6⟩;rw [hg.block g (adh.1 h2).1 (by simpa [aI,Nat.pos_iff_ne_zero.1 hc] using bL),h2]
theorem ext (h:Own w lo e sz enc A n c l) (hx:Ext w w') : Own w' lo e sz enc A n c l:=by
 refine ⟨h.len,?_⟩;rcases h.row with h0|⟨hc,g,jO,rfl,h1,h2,h3,h4,h5,h6⟩
 ·exact .inl h0
 ·refine .inr ⟨hc,g,jO,rfl,h1,?_,h3,h4,h5,h6⟩;rw [hx.block g (adh.1 h2).1,h2]
theorem owns (h:Own w lo e sz enc A n c l) (hc : 0<c) [im enc sz] : w.ownsRow lo e sz (.slice A n c) n (l.flatMap enc):=by
 rcases h.row with ⟨_,rfl⟩|⟨_,g,jO,rfl,h1,h2,h3,h4,h5,h6⟩
 ·omega
 ·exact ⟨by rw [aV,h.len],.inr ⟨g,c,jO,rfl,h1,h2,h3,h4,h5,h6⟩⟩
theorem sK {v:Value} (h:w.ownsRow lo e sz v m (l.flatMap enc)) (hl:l.length=m) : ∃ A c,v = .slice A m c∧Own w lo e sz enc A m c l:=by
 rcases h.2 with ⟨rfl,rfl⟩|⟨g,cap,jO,rfl,h1,h2,h3,h4,h5,h6⟩
 ·exact ⟨none,0,rfl,hl,.inl ⟨rfl,rfl⟩⟩
 ·refine ⟨_,_,rfl,hl,?_⟩;by_cases hc:cap=0
  ·exact .inl ⟨by omega,hc⟩
  ·exact .inr ⟨by omega,g,jO,rfl,h1,h2,h3,h4,h5,h6⟩
theorem low (h:Own w lo e sz enc A n c l) (hl:ov<=lo) : Own w ov e sz enc A n c l:=by
 refine ⟨h.len,?_⟩;rcases h.row with h0|⟨hc,g,jO,rfl,h1,r⟩
 ·exact .inl h0
 ·exact .inr ⟨hc,g,jO,rfl,ac2 hl h1,r⟩
theorem sl (h:Own w lo e sz enc A n c l) [E:im enc sz] : Sl w sz enc A n l:=by
 refine ⟨h.len,fun hn => ?_,fun i hi j u hu => ?_⟩
 ·rcases h.row with ⟨h0,_⟩|⟨_,g,jO,rfl,_⟩
  ·omega
  ·rfl
 ·rcases h.row with ⟨h0,_⟩|⟨_,g,jO,rfl,h1,h2,h3,h4,h5,h6⟩
  ·have:=h.len;omega
  ·have hf:=iD (enc:=enc) l i hi j u hu;rw [<- h6,List.getElem?_take] at hf;split at hf
   ·rw [add_add]
    have e:((some (⟨g,0,none⟩ : Addr)).getD default).add (i*sz+j)=⟨g,i*sz+j,none⟩:=by
     show (⟨g,0,none⟩ : Addr).add _=_
     unfold Addr.add;split<;>simp_all
    rw [e,cell_of_row w g _ jO _ (0,0) h2];simpa using hf
   ·cases hf
end Own
theorem aF {base:World} (h:Ext base w) (hg:w.grownBy w' row) (dz:base.heap.size<=lo) (hr:∀ k,row=some k->lo<=k) : Ext base w' :=
 Below.grown h hg h.size (fun k e=>ac2 dz (hr k e))
theorem Own.ba {n c:Nat} {l:List α} (h:Own w lo e sz enc A n c l) : ∀ k,aI A c=some k->lo<=k:=by
 intro k hk;rcases h.row with ⟨_,rfl⟩|⟨hc,g,jO,rfl,h1,_⟩
 ·simp [aI] at hk
 ·simp [aI,Nat.pos_iff_ne_zero.1 hc] at hk;omega
section
variable {α:Type} {P:Program} {w:World} {lo:Nat} {t e:TypeId} {z:Value} {sz bytes:Nat} {enc : α -> List Value} {A X:Option Addr} {n c m d:Nat} {l ys:List α}
theorem ee (P:Program) (e:TypeId) {z:Value} [E:dn P e z sz bytes] : ∃ i,P.info? e=some i∧i.zero=some z∧i.size=sz∧i.bytes=bytes:=by
 have h:=E.U7;cases hi:P.info? e with
 | none=>simp [hi] at h
 | some i=>simp [hi] at h;exact ⟨i,rfl,h.1,h.2.1,h.2.2⟩
theorem rP [S:bz P t e sz] [T:dn P e z sz bytes] [E:im enc sz] (ty:TypeId) (hO:Own w lo e sz enc A n c l) (hS:Sl w sz enc X m ys) (dz:lo<=w.heap.size)
 (hb:(n+m)*bytes<=140737488355328) (hm:n+m<=maxLen) :
 ∃ A' c' w',(Builtin.append_ #[t,t] ty #[.slice A n c,.slice X m d]).run P w = .ok (.slice A' (n+m) c') w'∧Own w' lo e sz enc A' (n+m) c' (l++ys)∧w.grownBy w' (aI A c):=by
 obtain ⟨i,hi,hz,hs,xU⟩:=ee P e (z:=z) (sz:=sz) (bytes:=bytes);have KO:(ys.flatMap enc).length=m*sz:=by rw [aV,hS.len]
 have oY:∀ u∈ys.flatMap enc,u.oneCell'=true:=fun u hu=>by
  obtain ⟨x,_,hx⟩:=adm.1 hu;exact E.one x u hx
 have Qm:(l++ys).flatMap enc=l.flatMap enc++ys.flatMap enc:=adi
 have mv:(l++ys).length=n+m:=by rw [adb,hO.len,hS.len]
 by_cases DU:m=0
 ·subst DU;have hy:ys=[]:=adl hS.len
  subst hy;have Zj:=hO.le.1;refine ⟨A,c,w,?_,by simpa using hO,World.grownBy.refl _ _⟩;cases A<;>cases X<;>simp [Builtin.append_,run_underlying S.ou,sizeOf,typeInfo,hi,Builtin.lenOf,Zj,Builtin.firstCells,loadCells,loadCellsFrom,storeCells]
 ·obtain ⟨ad,rfl⟩:=adw.1 (hS.base (by omega));have uG:=dr T.pos hS;by_cases hc:c=0
  ·have hn:n=0:=by have:=hO.le.1;omega
   subst hc hn;have hl:l=[]:=adl hO.len
   subst hl
   have Pm:∀ v' w',w'.ownsRow lo e sz v' (0+m) (([] : List Value)++ys.flatMap enc) -> ∃ A' c',v' = .slice A' (0+m) c'∧Own w' lo e sz enc A' (0+m) c' ([]++ys):=fun v' w' h' =>
    Own.sK (l:=[]++ys) (enc:=enc) (by simpa using h') (by simpa using hS.len)
   cases A with
   | none =>
     obtain ⟨v',w',hr,h2,h3,_⟩:=run_append_own (P:=P) w lo t ty e i z sz bytes S.ou hi hz hs xU T.zc T.pos (.slice none 0 0) 0 [] (World.ownsRow_nil _ _ _ _) ad m d (ys.flatMap enc) KO uG oY hm hb dz;obtain ⟨A',c',rfl,ho⟩:=Pm _ _ h2;exact ⟨A',c',w',hr,ho,by simpa [aI,Value.ownBlock] using h3⟩
   | some b =>
     obtain ⟨v',w',hr,h2,h3⟩:=run_append_arg_grows (P:=P) w t ty e i z sz bytes S.ou hi hz hs xU T.zc T.pos b 0 0 [] (by simp) (by simp) ad m d (ys.flatMap enc) KO uG (by omega) hm hb
     have nc:w'.ownsRow lo e sz v' (0+m) (([] : List Value)++ys.flatMap enc):=⟨h2.1,by
      rcases h2.2 with h|⟨g,cap,jO,e1,e2,r⟩
      ·exact .inl h
      ·exact .inr ⟨g,cap,jO,e1,ac2 dz e2,r⟩⟩
     obtain ⟨A',c',rfl,ho⟩:=Pm _ _ nc;exact ⟨A',c',w',hr,ho,by simpa [aI] using h3⟩
  ·obtain ⟨v',w',hr,h2,h3,_⟩:=run_append_own (P:=P) w lo t ty e i z sz bytes S.ou hi hz hs xU T.zc T.pos (.slice A n c) n (l.flatMap enc) (hO.owns (by omega)) ad m d (ys.flatMap enc) KO uG oY hm hb dz;rw [<- Qm] at h2;obtain ⟨A',c',rfl,ho⟩:=Own.sK h2 mv;refine ⟨A',c',w',hr,ho,?_⟩;have:(Value.slice A n c).ownBlock=aI A c:=by cases A<;>simp [Value.ownBlock,aI,hc]
   rwa [this] at h3
end
section
variable {α:Type} {P:Program} {n:Nat} {ops:Array Oper} {Q:Exit->Act->World->Prop} {rest:List Oper} {L:Env} {w:World} {d:Nat} {T:TypeId} {pos:String} {af:Array Edge}
theorem SW.append {lo:Nat} {t e:TypeId} {z:Value} {sz bytes:Nat} {enc : α -> List Value} {A X:Option Addr} {k c m c2:Nat} {l ys:List α} [bz P t e sz] [dn P e z sz bytes] [im enc sz] {x y:Operand}
 (hO:Own w lo e sz enc A k c l) (hS:Sl w sz enc X m ys) (dz:lo<=w.heap.size) (hx:cK L x=some (.slice A k c)) (hy:cK L y=some (.slice X m c2)) (hn:Nat.blt d n=true)
 (hb:(k+m)*bytes<=140737488355328) (hm:k+m<=9223372036854775807)
 (h:∀ A' c' w',Own w' lo e sz enc A' (k+m) c' (l++ys)->w.grownBy w' (aI A c)->SW P n ops (.gL Q) rest ((d,.slice A' (k+m) c')::L) w') :
 SW P n ops (.gL Q) (⟨some d,.call ⟨.builtin .append,#[x,y],#[t,t]⟩,T,pos,af,none⟩::rest) L w :=
 ⟨fun a ha=>by
  obtain ⟨A',c',w',hr,h1,h2⟩:=rP (P:=P) (t:=t) T hO hS (d:=c2) dz hb (by simp only [maxLen];omega);simp only [swp,wpList,Region.wanted,if_true];refine .inl ?_;unfold Oper.wp
  have:(execOp a.eval ⟨some d,.call ⟨.builtin .append,#[x,y],#[t,t]⟩,T,pos,af,none⟩).run P w = .ok (.value (.slice A' (k+m) c')) w':=by
   simp [execOp,resolve,invoke,builtin,ha.eval hx,ha.eval hy,hr]
  rw [this,Oper.upon_value];exact (h A' c' w' h1 h2).out _ (ha.put hn _)⟩
theorem SW.uH {lo:Nat} {t e:TypeId} {z:Value} {sz bytes:Nat} {enc : α -> List Value} {A X:Option Addr} {k c m c2:Nat} {l ys l':List α} {r:Nat} [bz P t e sz] [dn P e z sz bytes] [im enc sz] {x y:Operand}
 (hr:k+m=r) (AG:l++ys=l') (hO:Own w lo e sz enc A k c l) (hS:Sl w sz enc X m ys) (dz:lo<=w.heap.size) (hx:cK L x=some (.slice A k c)) (hy:cK L y=some (.slice X m c2)) (hn:Nat.blt d n=true)
 (hb:(k+m)*bytes<=140737488355328) (hm:k+m<=9223372036854775807)
 (h:∀ A' c' w',Own w' lo e sz enc A' r c' l'->w.grownBy w' (aI A c)->SW P n ops (.gL Q) rest ((d,.slice A' r c')::L) w') :
 SW P n ops (.gL Q) (⟨some d,.call ⟨.builtin .append,#[x,y],#[t,t]⟩,T,pos,af,none⟩::rest) L w:=by
 subst hr AG;exact SW.append hO hS dz hx hy hn hb hm h
theorem SW.yL {z:Value} [S:bz P t e sz] [E:dn P e z sz bytes] (hn:Nat.blt d n=true)
 (h:∀ b w',Ext w w'->w.heap.size<=b->SW P n ops (.gL Q) rest ((d,.slice (some ⟨b,0,none⟩) 0 0)::L) w') : SW P n ops (.gL Q) (⟨some d,.buildSlice t 0 #[],T,pos,af,none⟩::rest) L w :=
 ⟨fun a ha=>by
  obtain ⟨i,hi,hz,nd,xU⟩:=ee P e (z:=z) (sz:=sz) (bytes:=bytes);simp only [swp,wpList,Region.wanted,if_true];refine .inl ?_;unfold Oper.wp
  have:(execOp a.eval ⟨some d,.buildSlice t 0 #[],T,pos,af,none⟩).run P w = .ok (.value (.slice (some ⟨w.heap.size,0,none⟩) 0 0)) (w.alloc (.cells #[] e)):=by
   simp [execOp,Instr.buildSlice,run_underlying S.ou,sizeOf,typeInfo,hi,Instr.fill,newRow,Array.range_zero']
  rw [this,Oper.upon_value];exact (h _ _ (Ext.alloc w _) (ac3 _)).out _ (ha.put hn _)⟩
theorem rQ:∀ (vs:List Value) (k:Nat) (cs:Array Value),k+vs.length<=cs.size ->
 ((vs.zipIdx k).foldl (fun (cs:Array Value) (p:Value×Nat)=>cs.setIfInBounds p.2 p.1) cs).toList=cs.toList.take k++vs++cs.toList.drop (k+vs.length)
 | [],k,cs,_=>by simp
 | v::r,k,cs,h=>by
   simp only [List.zipIdx_cons,List.foldl_cons,List.length_cons] at h ⊢;rw [rQ r (k+1) _ (by simp;omega)];have hk:k<cs.toList.length:=by simp;omega
   simp only [Array.toList_setIfInBounds];rw [List.take_set,List.drop_set_of_lt (by omega)]
   have:(cs.toList.take (k+1)).set k v=cs.toList.take k++[v]:=by
    have ht:(cs.toList.take k).length=k:=by simp only [List.length_take];omega
    rw [ac5 hk,ad2 _ _ (by omega),ht];simp
   rw [this];simp [Nat.add_assoc,Nat.add_comm 1]
theorem SW.dR {z v:Value} {vs:List Value} [S:bz P t e sz] [E:dn P e z sz bytes] {x:Operand} (hx:cK L x=some v) (hv:v.cells=vs.toArray) (hl:Nat.beq vs.length sz=true) (hs:Nat.ble sz 1000=true)
 (hn:Nat.blt d n=true) (h:∀ b w',Ext w w'->w.heap.size<=b->aS w' b e vs->SW P n ops (.gL Q) rest ((d,.slice (some ⟨b,0,none⟩) 1 1)::L) w') :
 SW P n ops (.gL Q) (⟨some d,.buildSlice t 1 #[(0,x)],T,pos,af,none⟩::rest) L w :=
 ⟨fun a ha=>by
  obtain ⟨i,hi,hz,nd,xU⟩:=ee P e (z:=z) (sz:=sz) (bytes:=bytes);have hp:=E.pos;have hle:sz<=1000:=by simpa using hs
  have hlen:vs.length=sz:=adv hl
  have kg : ¬ (16777216<1*sz):=by omega
  have bL:sz≠0:=by omega
  simp only [swp,wpList,Region.wanted,if_true];refine .inl ?_;unfold Oper.wp
  have:(execOp a.eval ⟨some d,.buildSlice t 1 #[(0,x)],T,pos,af,none⟩).run P w = .ok (.value (.slice (some ⟨w.heap.size,0,none⟩) 1 1)) (w.alloc (.cells vs.toArray e)):=by
   have Lc:∀ cs:Array Value,cs.size=sz->vs.zipIdx.foldl (fun (cs:Array Value) (p:Value×Nat)=>cs.setIfInBounds p.2 p.1) cs=vs.toArray:=fun cs lJ=>by
    have h1:=rQ vs 0 cs (by omega);have h2:vs.length=cs.toList.length:=by simp;omega
    apply Array.ext';rw [h1,aet,h2];simp
   have U8 : ¬ (16777216<i.size):=by omega
   have Ld : ¬ i.size=0:=by omega
   simp [execOp,ha.eval hx,Instr.buildSlice,run_underlying S.ou,sizeOf,typeInfo,hi,zeroValue,hz,Instr.fill,hv,newRow,U8,Ld];rw [if_neg (by omega),Lc _ (by simp [nd])]
   rfl
  rw [this,Oper.upon_value];exact (h _ _ (Ext.alloc w _) (ac3 _) (aS.new w e vs)).out _ (ha.put hn _)⟩
end
section
variable {P:Program} {L:Env} {w:World} {d:Option Nat} {T:TypeId} {pos:String} {af:Array Edge} {g:Option (Nat×Bool)}
theorem fA {x:Operand} {i j r:Int} (hx:cK L x=some (.int .i64 i)) (hy:cK L y=some (.int .i64 j)) (h0 : 0<=j) (h1:j<=64) (hr:i*2 ^ j.toNat=r) (h2 : -9223372036854775808<=r) (h3:r<=9223372036854775807) :
 St P ⟨d,.binOp .shl t x y ty,T,pos,af,g⟩ L w (.int .i64 r) :=
 ⟨fun n a ha w' _=>by
  have e1:=ha.eval hx;have e2:=ha.eval hy;generalize a.eval = ρ at *
  simp [go_sem,e1,e2];rw [hr,jf h2 h3]⟩
end
theorem ae.CI {n:Nat} {L:Env} {t u q:Nat} {v x y:Value} (hr:fn.results = #[.tmp t,.tmp u,.tmp q]) (hv:get L t=some v) (hx:get L u=some x) (hy:get L q=some y) (h:R (.returned (.tuple #[v,x,y])) w) : ae n (bodyPost P fn R) .ret L w :=
 ⟨fun a ha=>⟨ha.defers,_,by rw [results_tmp3 hr,ha.has _ _ hv,ha.has _ _ hx,ha.has _ _ hy],h⟩⟩
theorem aS.vF [E:im enc sz] {x : α} (h:aS w b e (enc x)) : Sl w sz enc (some ⟨b,0,none⟩) 1 [x]:=by
 refine ⟨rfl,fun _=>rfl,fun i hi j u hu => ?_⟩;have:i=0:=by simp at hi;omega
 subst this;simp only [Nat.zero_mul,add_zero];exact h.cell (by simpa using hu)
theorem cU (g k:Nat) : (⟨g,0,none⟩ : Addr).add k=⟨g,k,none⟩:=by unfold Addr.add;split<;>simp_all
theorem wP [E:im enc sz] : ∀ (l:List α) (k:Nat) (hk:k<l.length) (j:Nat) (v:Value) (x' : α),j<sz->enc x'=(enc l[k]).set j v ->
 (l.set k x').flatMap enc=(l.flatMap enc).set (k*sz+j) v
 | x::r,0,_,j,v,x',hj,h=>by
   simp only [List.set_cons_zero,List.flatMap_cons,Nat.zero_mul,Nat.zero_add];rw [h,List.set_append_left _ _ (by rw [E.len];exact hj)]
   rfl
 | x::r,k+1,hk,j,v,x',hj,h=>by
   simp only [List.set_cons_succ,List.flatMap_cons];rw [wP r k (by simpa using hk) j v x' hj (by simpa using h),ad2 _ _ (by rw [E.len,adQ];omega)];congr 2
   rw [E.len,adQ];omega
section
variable {α:Type} {P:Program} {n:Nat} {ops:Array Oper} {Q:Exit->Act->World->Prop} {rest:List Oper} {L:Env} {w:World} {T:TypeId} {pos:String} {af:Array Edge}
theorem F0 [c:gI P t] {v u:Value} (h1:v.oneCell'=true) (hc:w.cell? ad=some u) (hf:w.frozen? ad=false) : (Instr.storeAt t (.pointer (some ad)) v).run P w = .ok () (w.setCell ad v):=by
 have lJ:v.cells = #[v]:=by cases v<;>first|rfl|simp [Value.oneCell'] at h1
 simp [Instr.storeAt,Instr.sureAddr,storeVar,lJ,run_sizeOf c.size,storeCells,run_store P w ad v .plain h1,hc,hf,add_zero]
theorem SW.store [gI P t] {x:Operand} {v u:Value} (hx:cK L x=some (.pointer (some ad))) (hy:cK L y=some v) (h1:v.oneCell'=true) (hc:w.cell? ad=some u) (hf:w.frozen? ad=false)
 (h:SW P n ops (.gL Q) rest L (w.setCell ad v)) : SW P n ops (.gL Q) (⟨none,.store t x y,T,pos,af,none⟩::rest) L w :=
 ⟨fun a ha=>by
  simp only [swp,wpList,Region.wanted,if_true];refine .inl ?_;unfold Oper.wp
  have:(execOp a.eval ⟨none,.store t x y,T,pos,af,none⟩).run P w = .ok .skip (w.setCell ad v):=by
   simp [execOp,ha.eval hx,ha.eval hy,F0 h1 hc hf]
  rw [this,Oper.upon_skip];exact h.out _ ha⟩
theorem Own.setAt {lo:Nat} {e:TypeId} {sz:Nat} {enc : α -> List Value} [E:im enc sz] {A:Option Addr} {m c:Nat} {l:List α} (hO:Own w lo e sz enc A m c l) {k:Nat} (hk:k<m) {j:Nat} (hj:j<sz) {v:Value} {x' : α}
 (py:enc x'=(enc (l[k]'(by rw [hO.len];exact hk))).set j v) {ad:Addr} (ha:ad=((A.getD default).add (k*sz)).add j) :
 (∃ u,w.cell? ad=some u)∧w.frozen? ad=false∧Own (w.setCell ad v) lo e sz enc A m c (l.set k x')∧w.grownBy (w.setCell ad v) (aI A c):=by
 subst ha;have hc : 0<c:=by have:=hO.le;omega
 have gg:=hO.owns hc;rcases hO.row with ⟨h0,_⟩|⟨_,g,jO,rfl,Pn,dA,qo,xv,DV,tR⟩
 ·omega
 ·have eQ:k*sz+j<m*sz:=by
   have:(k+1)*sz<=m*sz:=adt _ hk
   rw [adQ] at this;omega
  have e0:((((some (⟨g,0,none⟩ : Addr)).getD default).add (k*sz)).add j)=⟨g,k*sz+j,none⟩:=by rw [add_add];exact cU g _
  rw [e0];have h1:=gg.cellAt (k*sz+j) eQ;have AH:=gg.stored (k*sz+j) v;have hl:k<l.length:=by rw [hO.len];exact hk
  refine ⟨?_,gg.frozenAt _,?_,?_⟩
  ·have pA:k*sz+j<(l.flatMap enc).length:=by rw [aV,hO.len];exact eQ
   exact ⟨_,by rw [h1,ac7 pA]⟩
  ·have h2:=AH.1;rw [<- wP l k hl j v x' hj py] at h2;obtain ⟨A',c',he,ho⟩:=Own.sK h2 (by simpa using hO.len);injection he with e1 _ e2
   subst e1 e2;exact ho
  ·have:aI (some ⟨g,0,none⟩) c=some g:=by simp [aI,Nat.pos_iff_ne_zero.1 hc]
   rw [this];exact AH.2
theorem SW.gM {lo:Nat} {e:TypeId} {sz:Nat} {enc : α -> List Value} [E:im enc sz] {A:Option Addr} {m c:Nat} {l:List α} {t:TypeId} [gI P t] {x y:Operand} {ad:Addr} {v:Value} (k j:Nat) (x' : α) (hO:Own w lo e sz enc A m c l)
 (hx:cK L x=some (.pointer (some ad))) (hy:cK L y=some v) (h1:v.oneCell'=true) (hk:k<m) (hj:j<sz) (ha:ad=((A.getD default).add (k*sz)).add j) (py:enc x'=(enc (l[k]'(by rw [hO.len];exact hk))).set j v)
 (h:∀ w',Own w' lo e sz enc A m c (l.set k x')->w.grownBy w' (aI A c)->SW P n ops (.gL Q) rest L w') : SW P n ops (.gL Q) (⟨none,.store t x y,T,pos,af,none⟩::rest) L w:=by
 obtain ⟨⟨u,hc⟩,hf,ho,hg⟩:=hO.setAt hk hj py ha;exact SW.store hx hy h1 hc hf (h _ ho hg)
theorem SW.qp {lo:Nat} {e:TypeId} {A:Option Addr} {m c:Nat} {l:List Int} {t:TypeId} [gI P t] {x y:Operand} {i:Int} (k:Nat) (hO:Own w lo e 1 bw A m c l)
 (hx:cK L x=some (.pointer (some ((A.getD default).add (k*1))))) (hy:cK L y=some (.int .i64 i)) (hk:k<m)
 (h:∀ w',Own w' lo e 1 bw A m c (l.set k i)->w.grownBy w' (aI A c)->SW P n ops (.gL Q) rest L w') : SW P n ops (.gL Q) (⟨none,.store t x y,T,pos,af,none⟩::rest) L w :=
 SW.gM k 0 i hO hx hy rfl hk (by omega) (by rw [add_zero]) rfl h
theorem aS.store (h:aS w b t cs) (hi:i<cs.length) (v:Value) :
 (∃ u,w.cell? ((⟨b,0,none⟩ : Addr).add i)=some u)∧w.frozen? ((⟨b,0,none⟩ : Addr).add i)=false∧aS (w.setCell ((⟨b,0,none⟩ : Addr).add i) v) b t (cs.set i v)∧w.grownBy (w.setCell ((⟨b,0,none⟩ : Addr).add i) v) (some b):=by
 refine ⟨⟨cs[i],h.cell (ac7 hi)⟩,?_,?_,?_⟩
 ·rw [cU];exact frozen_of_row w b i _ t h
 ·rw [cU];unfold aS at h ⊢;rw [heap_setCell_same w b i _ t v h];simp
 ·rw [cU];exact ⟨rfl,rfl,rfl,by simp,fun k _ hk=>heap_setCell_other w ⟨b,i,none⟩ k v (fun e=>hk (by simp [e]))⟩
theorem SW.rR [gI P t'] {x:Operand} {v:Value} (hB:aS w b t cs) (hx:cK L x=some (.pointer (some ((⟨b,0,none⟩ : Addr).add i)))) (hy:cK L y=some v) (h1:v.oneCell'=true) (hi:Nat.blt i cs.length=true)
 (h:∀ w',aS w' b t (cs.set i v)->w.grownBy w' (some b)->SW P n ops (.gL Q) rest L w') : SW P n ops (.gL Q) (⟨none,.store t' x y,T,pos,af,none⟩::rest) L w:=by
 obtain ⟨⟨u,hc⟩,hf,hb,hg⟩:=hB.store (i:=i) (by simpa using hi) v;exact SW.store hx hy h1 hc hf (h _ hb hg)
theorem aS.grown (h:aS w b t cs) (hg:w.grownBy w' row) (bL:some b≠row) : aS w' b t cs:=(hg.block b h.lt bL).trans h
theorem Own.fb {lo:Nat} {e:TypeId} {sz:Nat} {enc : α -> List Value} {A:Option Addr} {m c:Nat} {l:List α} (hO:Own w lo e sz enc A m c l) {b:Nat} {t:TypeId} {cs:List Value} (hB:aS w b t cs) (bL:Nat.beq t e=false) : aI A c≠some b:=by
 rcases hO.row with ⟨_,rfl⟩|⟨hc,g,jO,rfl,_,h2,_⟩
 ·simp [aI]
 ·simp only [aI,Nat.pos_iff_ne_zero.1 hc,if_false,Option.map_some,ne_eq,Option.some.injEq];rintro rfl;unfold aS at hB;rw [h2] at hB;injection hB with hB
  injection hB with _ h _
  subst h;simp at bL
theorem CJ [c:fu P t k] {vs:List Value} (hB:aS w b tb cs) (hl:vs.length=k) (hc:cs.length=k) (h1:∀ v∈vs,v.oneCell'=true) :
 (Instr.storeAt t (.pointer (some ⟨b,0,none⟩)) (.agg vs.toArray)).run P w = .ok () (w.setRow b vs.toArray):=by
 have AH:=run_storeCells_at P b 0 tb vs 0 cs.toArray w hB (by simp;omega) h1;simp only [Nat.zero_add,List.take_zero,List.nil_append] at AH;have hd:(cs.toArray.toList.drop vs.length)=[]:=by simp;omega
 rw [hd,aeq] at AH;simp [Instr.storeAt,Instr.sureAddr,storeVar,Value.cells,run_sizeOf c.size,hl,AH]
theorem SW.ag [fu P t k] {vs:List Value} {x:Operand} (hB:aS w b tb cs) (hx:cK L x=some (.pointer (some ⟨b,0,none⟩))) (hy:cK L y=some (.agg vs.toArray)) (hl:vs.length=k) (hc:cs.length=k) (h1:∀ v∈vs,v.oneCell'=true)
 (h:∀ w',aS w' b tb vs->w.grownBy w' (some b)->SW P n ops (.gL Q) rest L w') : SW P n ops (.gL Q) (⟨none,.store t x y,T,pos,af,none⟩::rest) L w :=
 ⟨fun a ha=>by
  simp only [swp,wpList,Region.wanted,if_true];refine .inl ?_;unfold Oper.wp
  have:(execOp a.eval ⟨none,.store t x y,T,pos,af,none⟩).run P w = .ok .skip (w.setRow b vs.toArray):=by
   simp [execOp,ha.eval hx,ha.eval hy,CJ hB hl hc h1]
  rw [this,Oper.upon_skip];refine (h _ (setRow_heap w b _ _ tb (0,0) hB) ⟨rfl,rfl,rfl,by simp,fun j _ hj => ?_⟩).out _ ha;show (w.setRow b _).heap[j]?=_
  simp only [World.setRow,Array.getElem?_modify];rw [if_neg (fun e=>hj (by simp [e]))]⟩
theorem SW.alloc {z:Value} [E:dn P t z sz bytes] (hn:Nat.blt d n=true)
 (h:∀ b w',Ext w w'->w.heap.size<=b->aS w' b t z.cells.toList->SW P n ops (.gL Q) rest ((d,.pointer (some ⟨b,0,none⟩))::L) w') : SW P n ops (.gL Q) (⟨some d,.alloc t,T,pos,af,none⟩::rest) L w :=
 ⟨fun a ha=>by
  obtain ⟨i,hi,hz,_,_⟩:=ee P t (z:=z) (sz:=sz) (bytes:=bytes);simp only [swp,wpList,Region.wanted,if_true];refine .inl ?_;unfold Oper.wp
  have:(execOp a.eval ⟨some d,.alloc t,T,pos,af,none⟩).run P w = .ok (.value (.pointer (some ⟨w.heap.size,0,none⟩))) (w.alloc (.cells z.cells t)):=by
   simp [execOp,Instr.alloc,zeroValue,typeInfo,hi,hz,newVar,newRow]
  rw [this,Oper.upon_value];exact (h _ _ (Ext.alloc w _) (ac3 _) (by have:=aS.new w t z.cells.toList;simpa using this)).out _ (ha.put hn _)⟩
theorem yM {enc : α -> List Value} {sz:Nat} [im enc sz] {z:Value} (x0 : α) (he:enc x0=z.cells.toList) (hz:z.cells.size=sz) (hp : 0<sz) (k:Nat) : (madeCells z.cells (k*sz)).toList=(List.replicate k x0).flatMap enc:=by
 apply List.ext_getElem?;intro j;by_cases hj:j<k*sz
 ·have hi:j / sz<(List.replicate k x0).length:=by rw [ad3];exact Nat.div_lt_of_lt_mul (by rw [ae4];exact hj)
  have hm:j % sz<z.cells.size:=by rw [hz];exact Nat.mod_lt _ hp
  have h1:=iD (enc:=enc) (List.replicate k x0) (j / sz) hi (j % sz) z.cells[j % sz] (by rw [List.getElem_replicate,he];simp [hm]);have e:j / sz*sz+j % sz=j:=by rw [ae4];exact Nat.div_add_mod j sz
  rw [e] at h1;rw [h1];have hr:j<(Array.range (k*sz)).size:=by simpa using hj
  simp only [madeCells,Array.getElem?_toList,Array.getElem?_map];rw [Array.getElem?_eq_getElem hr];simp [hz,getElem!_pos z.cells (j % sz) hm]
 ·rw [adP (by simp [size_madeCells];omega),adP (by rw [aV,ad3];omega)]
theorem SW.make {d:Nat} {t e:TypeId} {z:Value} {sz bytes:Nat} [S:bz P t e sz] [E:dn P e z sz bytes] {x:Operand} {k:Nat} {i:Int} {enc : α -> List Value} [im enc sz] (x0 : α) (he:enc x0=z.cells.toList)
 (hx:cK L x=some (.int .i64 i)) (hk:i=(k:Int)) (hb:bytes*k<=281474976710656) (hm:k<=9223372036854775807) (hn:Nat.blt d n=true)
 (h:∀ A c w',Ext w w'->Own w' w.heap.size e sz enc A k c (List.replicate k x0)->SW P n ops (.gL Q) rest ((d,.slice A k c)::L) w') : SW P n ops (.gL Q) (⟨some d,.makeSlice t x x,T,pos,af,none⟩::rest) L w :=
 ⟨fun a ha=>by
  obtain ⟨inf,hi,hz,hs,xU⟩:=ee P e (z:=z) (sz:=sz) (bytes:=bytes);obtain ⟨w',hr,ho,hg⟩:=run_make_full (P:=P) w w.heap.size t e inf z sz S.ou hi hz hs .i64 .i64 k (by rw [xU];exact hb) (by simp only [maxLen];omega) (ac3 _);simp only [swp,wpList,Region.wanted,if_true];refine .inl ?_;unfold Oper.wp;have e1:=ha.eval hx;rw [hk] at e1
  have:(execOp a.eval ⟨some d,.makeSlice t x x,T,pos,af,none⟩).run P w = .ok (.value (.slice (some ⟨w.heap.size,0,none⟩) k k)) w':=by
   simp [execOp,e1,hr]
  rw [this,Oper.upon_value];have oZ:(madeCells z.cells (k*sz)).toList=(List.replicate k x0).flatMap enc:=yM x0 he E.zc E.pos k
  rw [oZ] at ho;obtain ⟨A,c,gV,nK⟩:=Own.sK ho (by simp);injection gV with e2 _ e3
  subst e2 e3;exact (h _ _ _ ⟨hg.os,hg.tape,hg.output,hg.size,fun j hj=>hg.block j hj (by simp)⟩ nK).out _ (ha.put hn _)⟩
end
variable {ops:Array Oper} {nh:Nat} {o' oi:Oper} {S S':World->Prop}
def AP (P:Program) (md:Region.Mode) (ops:Array Oper) (Q:Exit->Act->World->Prop) (nh:Nat) (K:Array Bool->Act->World->Prop) : (World->Prop)->Nat->Array Bool->Act->World->Prop
 | _,0,listed,a,w=>K listed a w
 | S,f+1,listed,a,w=>Region.ready md ops listed≠[] ∧ ∀ i∈Region.ready md ops listed,i<nh∧wpOp P ops Q i (fun a' w'=>S w'∧AP P md ops Q nh K S f (listed.setIfInBounds i true) a' w') a w
section
variable {P:Program} {md:Region.Mode} {ops:Array Oper} {Q:Exit->Act->World->Prop} {nh:Nat} {K:Array Bool->Act->World->Prop}
theorem Bp (hS:∀ w,S' w->S w) : ∀ (f:Nat) (listed:Array Bool) (a:Act) (w:World),AP P md ops Q nh K S' f listed a w->AP P md ops Q nh K S f listed a w
 | 0,_,_,_,h=>h
 | f+1,_,_,_,h=>⟨h.1,fun i hi=>⟨(h.2 i hi).1,wpOp_mono (fun a' w' h'=>⟨hS _ h'.1,Bp hS f _ a' w' h'.2⟩) (h.2 i hi).2⟩⟩
theorem wQ {g:Nat} (hK:∀ listed a w,K listed a w->wpAny P md ops Q g listed a w) : ∀ (f:Nat) (listed:Array Bool) (a:Act) (w:World),AP P md ops Q nh K S f listed a w->wpAny P md ops Q (f+g) listed a w
 | 0,listed,a,w,h=>by rw [aet];exact hK _ _ _ h
 | f+1,listed,a,w,h=>by
   rw [show f+1+g=(f+g)+1 by omega];exact ⟨fun h0=>absurd h0 h.1,fun i hi=>wpOp_mono (fun a' w' h'=>wQ hK f _ a' w' h'.2) (h.2 i hi).2⟩
def Po (md:Region.Mode) (ops:Array Oper) (nh:Nat) : Prop := ∀ listed,HeadInv md ops nh listed -> ∀ i,i<nh->listed.getD i true=false -> ∀ t,nh<=t->t∉Region.ready md ops listed
theorem yN {v:Value} (hi:ops[i]?=some oi) (F1:∀ (j:Nat) (o:Oper) cs b,ops[j]?=some o->o.op ≠ .select cs b)
 (XI:Po md ops nh) (cQ:i<nh) (hQ:∀ c a w,Q (.panic c) (a.put oi.dst v) w->Q (.panic c) a w) (HR:∀ listed a w,K listed a w -> ∀ j∈Region.ready md ops listed,nh<=j) :
 ∀ (f:Nat) (listed:Array Bool) (a:Act) (w:World),HeadInv md ops nh listed ->
  (∀ j oj,ops[j]?=some oj->j≠i->listed.getD j true=false->(∀ e∈oj.after,Region.binds md e=true->e.on≠i)->oi.apart ops oj=true) ->
  i∈Region.ready md ops listed->YieldsIf P ops S oi v a->S w ->
  AP P md ops Q nh K S f (listed.setIfInBounds i true) (a.put oi.dst v) w->AP P md ops Q nh K S (f+1) listed a w:=by
 intro f;induction f with
 | zero =>
   intro listed a w inv _ hr hy hS H;have FQ:=(mem_ready.1 hr).1;refine ⟨fun h=>(by rw [h] at hr;cases hr),fun j hj => ?_⟩
   have pB:j<nh:=by
    rcases adA j nh with h|h
    ·exact h
    ·exact absurd hj (XI _ inv i cQ FQ j h)
   refine ⟨pB,?_⟩;by_cases js:j=i
   ·subst js;exact hy.wpOp hi hS ⟨hS,H⟩
   ·have:=HR _ _ _ H j (ready_mono hj js)
    omega
 | succ f ih =>
   intro listed a w inv m7 hr hy hS H;have FQ:=(mem_ready.1 hr).1;refine ⟨fun h=>(by rw [h] at hr;cases hr),fun j hj => ?_⟩
   have pB:j<nh:=by
    rcases adA j nh with h|h
    ·exact h
    ·exact absurd hj (XI _ inv i cQ FQ j h)
   refine ⟨pB,?_⟩;by_cases js:j=i
   ·subst js;exact hy.wpOp hi hS ⟨hS,H⟩
   ·have h1:=(H.2 j (ready_mono hj js)).2;obtain ⟨Le,oj,Qn,fe⟩:=mem_ready.1 hj
    have AQ:∀ e∈oj.after,Region.binds md e=true->e.on≠i:=fun e he hb U9=>by
     have h1:=fe e he hb;rw [U9,getD_both FQ] at h1;cases h1
    have h2:=wpOp_putIf Qn (m7 j oj Qn js Le AQ) (fun cs b=>F1 i oi cs b hi) (fun cs b=>F1 j oj cs b Qn) hQ hy h1
    have yO:∀ k ok,ops[k]?=some ok->k≠i->(listed.setIfInBounds j true).getD k true=false ->
     (∀ e∈ok.after,Region.binds md e=true->e.on≠i)->oi.apart ops ok=true:=fun k ok hk F2 FQ oD=>by
     refine m7 k ok hk F2 ?_ oD;by_cases mO:j=k
     ·subst mO;exact Le
     ·rw [getD_set_ne true mO] at FQ;exact FQ
    refine wpOp_mono (fun a' w' h3=>⟨h3.2.1,ih (listed.setIfInBounds j true) a' w' (inv.set hj pB) yO (ready_mono hr (Ne.symm js)) h3.1 h3.2.1 ?_⟩) h2;rw [ael _ _ js];exact h3.2.2
end
structure RB (ops:Array Oper) (nh:Nat) : Prop where
 XJ:Region.noSelect ops=true
 waits:Po .any ops nh
theorem dg (h:(Region.noSelect ops && (Nat.blt nh ops.size && (Region.sinkB .any ops nh && Region.chainB .any ops nh)))=true) : RB ops nh:=by
 simp only [Bool.and_eq_true] at h;exact ⟨h.1,fun listed inv i hi FQ t ht hr=>tail_waits h.2.2.1 h.2.2.2 (by simpa using h.2.1) inv _ i rfl hi FQ t ht hr⟩
def DW (P:Program) (ops:Array Oper) (Q:Exit->Act->World->Prop) (nh:Nat) (l:List Oper) : Array Bool->Act->World->Prop:=fun listed a w=>Region.seqB .any ops l.length nh listed=true∧wpList P ops Q l a w
structure SA (P:Program) (n:Nat) (ops:Array Oper) (Q:Exit->Act->World->Prop) (nh:Nat) (tl:List Oper) (f:Nat) (listed:Array Bool) (L:Env) (w:World) : Prop where
 out:∀ a,Fit n a L->HeadInv .any ops nh listed->AP P .any ops (NoPanic Q) nh (DW P ops (NoPanic Q) nh tl) (Ext w) f listed a w
def Pp (P:Program) (n:Nat) (ops:Array Oper) (Q:Exit->Act->World->Prop) (nh:Nat) (tl:List Oper) (f:Nat) (listed:Array Bool) (w:World) : Exit->Act->World->Prop
 | .normal,a,w'=>Ext w w'∧(HeadInv .any ops nh listed->AP P .any ops (NoPanic Q) nh (DW P ops (NoPanic Q) nh tl) (Ext w') f listed a w')
 | e,a,w'=>NoPanic Q e a w'
section
variable {P:Program} {n:Nat} {ops:Array Oper} {Q:Exit->Act->World->Prop} {nh f:Nat} {tl:List Oper} {listed:Array Bool} {L:Env} {w:World}
theorem SA.take (i:Nat) {o:Oper} (hB:RB ops nh) (hi:ops[i]?=some o) (hf:Region.free .any ops listed i=true) (hr:(Region.ready .any ops listed).contains i=true) (eQ:Nat.blt i nh=true)
 (h:SW P n ops (.tk fun L'=>SA P n ops Q nh tl f (listed.setIfInBounds i true) L' w) [o] L w) : SA P n ops Q nh tl (f+1) listed L w :=
 ⟨fun a ha inv=>by
  have hs:=h.out a ha;have AR:i<nh:=by simpa using eQ
  have qf:i∈Region.ready .any ops listed:=by simpa using hr
  have HR:∀ listed a w,DW P ops (NoPanic Q) nh tl listed a w -> ∀ j∈Region.ready .any ops listed,nh<=j:=fun _ _ _ hk=>seqB_ready hk.1
  simp only [swp,CE] at hs;by_cases hw:Region.wanted o (yielded ops a.tmps)=true
  ·rw [if_pos hw] at hs;obtain ⟨v,hv,L',FR,hK⟩:=hs;exact yN hi (Region.noSelect_spec hB.XJ) hB.waits AR (fun _ _ _ h=>(h:False).elim) HR f listed a w inv (Region.free_spec hi hf) qf (.inl ⟨hw,hv⟩) (Ext.refl w) (hK.out _ FR (inv.set qf AR))
  ·rw [if_neg hw] at hs;obtain ⟨L',FR,hK⟩:=hs;exact yN hi (Region.noSelect_spec hB.XJ) hB.waits AR (fun _ _ _ h=>(h:False).elim) HR f listed a w inv (Region.free_spec hi hf) qf (.inr ⟨by simpa using hw,rfl⟩) (Ext.refl w) (hK.out _ FR (inv.set qf AR))⟩
theorem DX {l:Array Bool} (h:LetsOut (Pp P n ops Q nh tl f l w)) : LetsOut (NoPanic Q):=h
theorem Oper.Qo {o:Oper} {a:Act} {l:Array Bool} {N:Act->World->Prop} (h:o.wp P a w N (Pp P n ops Q nh tl f l w)) : o.wp P a w N (NoPanic Q):=by
 unfold Oper.wp at *;generalize (execOp a.eval o).run P w=r at *
 cases r with
 | ok x w' =>
   cases x<;>simp only [Oper.upon] at h ⊢
   case value=>exact h
   case skip=>exact h
   case defer=>exact h
   case row=>exact h
   case enter =>
    refine Calls.mono h fun e NA he => ?_
    cases e<;>exact he
 | halt x w' =>
   cases x<;>simp only [Oper.upon] at h ⊢
   exact h
theorem SA.stepOf {o:Oper} (hi:ops[i]?=some o) (hr:i∈Region.ready .any ops listed) (eQ:i<nh) {a:Act} (ha:Fit n a L) (inv:HeadInv .any ops nh listed) (h:SW P n ops (.gL (Pp P n ops Q nh tl f (listed.setIfInBounds i true) w)) [o] L w) :
 wpOp P ops (NoPanic Q) i (fun a' w'=>Ext w w'∧AP P .any ops (NoPanic Q) nh (DW P ops (NoPanic Q) nh tl) (Ext w) f (listed.setIfInBounds i true) a' w') a w:=by
 have hs:=h.out a ha;have Lg:=inv.set hr eQ
 have conv:∀ a' w',Pp P n ops Q nh tl f (listed.setIfInBounds i true) w .normal a' w'->Ext w w'∧AP P .any ops (NoPanic Q) nh (DW P ops (NoPanic Q) nh tl) (Ext w) f (listed.setIfInBounds i true) a' w':=fun a' w' hh =>
  ⟨hh.1,Bp (fun NA F3=>Ext.trans hh.1 F3) _ _ _ _ (hh.2 Lg)⟩
 simp only [swp,wpList] at hs;unfold wpOp;simp only [hi];by_cases hw:Region.wanted o (yielded ops a.tmps)=true
 ·rw [if_pos hw] at hs ⊢;rcases hs with hs|⟨h1,h2⟩
  ·exact .inl (Oper.wp_mono conv (Oper.Qo hs))
  ·exact .inr ⟨h1,DX h2⟩
 ·rw [if_neg hw] at hs ⊢;exact conv _ _ hs
theorem SA.one (i:Nat) {o:Oper} (hi:ops[i]?=some o) (hr:Region.ready .any ops listed=[i]) (eQ:Nat.blt i nh=true) (h:SW P n ops (.gL (Pp P n ops Q nh tl f (listed.setIfInBounds i true) w)) [o] L w) : SA P n ops Q nh tl (f+1) listed L w :=
 ⟨fun a ha inv=>⟨by rw [hr];simp,fun j hj=>by
  have AR:i<nh:=by simpa using eQ
  have js:j=i:=by rw [hr] at hj;simpa using hj
  subst js;exact ⟨AR,SA.stepOf hi hj AR ha inv h⟩⟩⟩
theorem SA.two (i k:Nat) {o:Oper} (hi:ops[i]?=some o) (hk:ops[k]?=some o') (hr:Region.ready .any ops listed=[i,k]) (eQ:Nat.blt i nh=true) (AR:Nat.blt k nh=true)
 (h:SW P n ops (.gL (Pp P n ops Q nh tl f (listed.setIfInBounds i true) w)) [o] L w) (h':SW P n ops (.gL (Pp P n ops Q nh tl f (listed.setIfInBounds k true) w)) [o'] L w) : SA P n ops Q nh tl (f+1) listed L w :=
 ⟨fun a ha inv=>⟨by rw [hr];simp,fun j hj=>by
  have NT:i<nh:=by simpa using eQ
  have NU:k<nh:=by simpa using AR
  have o6:=hj;rw [hr] at o6;simp only [List.mem_cons,List.not_mem_nil,or_false] at o6;rcases o6 with rfl|rfl
  ·exact ⟨NT,SA.stepOf hi hj NT ha inv h⟩
  ·exact ⟨NU,SA.stepOf hk hj NU ha inv h'⟩⟩⟩
theorem ae.sa {l:Array Bool} (hx:Ext w0 w) (h:SA P n ops Q nh tl f l L w) : ae n (Pp P n ops Q nh tl f l w0) .normal L w:=⟨fun a ha=>⟨hx,h.out a ha⟩⟩
theorem SA.done (hq:Region.seqB .any ops tl.length nh listed=true) (h:SW P n ops (.gL (NoPanic Q)) tl L w) : SA P n ops Q nh tl 0 listed L w:=⟨fun a ha _=>⟨hq,h.out a ha⟩⟩
theorem ae.np (h:ae n Q .normal L w) : ae n (NoPanic Q) .normal L w:=⟨fun a ha=>h.out a ha⟩
theorem CW.any {id:Nat} {l:List Oper} (nh:Nat) (hm:P.follows .mixedOrders=true) (hB:RB l.toArray nh) (hle:Nat.ble nh l.length=true) (h:∀ w',Ext w w'->RB l.toArray nh->SA P n l.toArray Q nh (l.drop nh) nh (Array.replicate l.length false) L w') : CW P n (.region id l.toArray true) Q L w :=
 ⟨fun a ha=>by
  have Zk:nh<=l.length:=by simpa using hle
  refine wp_region_noPanic (wp_region_any hm ?_);have h0:=(h _ (Ext.drew w) hB).out a ha ⟨by simp,fun j oj _ hl=>(by rw [getD_replicate_false] at hl;cases hl),fun t _ ht=>getD_in (by simpa using ht) (getD_replicate_false _ _)⟩;have:=wQ (g:=(l.drop nh).length) (fun listed a w hk=>wpAny_of_seq (md := .any) (l.drop nh) nh listed a w (fun j=>by simp [List.getElem?_drop]) hk.1 hk.2) _ _ _ _ h0
  rw [show nh+(l.drop nh).length=l.toArray.size by simp;omega] at this;simpa using this⟩
end
variable {K:Env->Prop} {places:List (Nat×Nat)} {pv:List (Nat×Value)} {cap zc:List Value} {fo:Operand}
section
variable {P:Program} {L:Env} {w:World} {d:Option Nat} {T:TypeId} {pos:String} {af:Array Edge} {g:Option (Nat×Bool)}
theorem aG {x:Operand} (hx:cK L x=some (.pointer (some ad))) : St P ⟨d,.nilCheck x,T,pos,af,g⟩ L w (.pointer (some ad)) :=
 ⟨fun _ a ha w' _=>by have e1:=ha.eval hx;generalize a.eval = ρ at *;simp [execOp,e1]⟩
theorem yP [c:bz P t e sz] {x:Operand} {n cap:Nat} (hx:cK L x=some (.slice A n cap)) :
 St P ⟨d,.call ⟨.builtin .cap,#[x],#[t]⟩,T,pos,af,g⟩ L w (.int .i64 cap) :=
 ⟨fun _ a ha w' _=>by simp [execOp,resolve,invoke,builtin,ha.eval hx,Builtin.cap_,run_underlying c.ou,goInt]⟩
theorem CK {u:TypeId} {x:Operand} {i j:Int} (hx:cK L x=some (.int .i64 i)) (hy:cK L y=some (.int .i64 j)) :
 St P ⟨d,.call ⟨.builtin .min,#[x,y],#[t,u]⟩,T,pos,af,g⟩ L w (.int .i64 (min i j)) :=
 ⟨fun _ a ha w' _=>by
  have e:(if j<i then j else i)=min i j:=by split<;>omega
  simp [execOp,resolve,invoke,builtin,ha.eval hx,ha.eval hy,Builtin.min_,Builtin.min2,e]⟩
theorem CL {u:TypeId} {x:Operand} {i j:Int} (hx:cK L x=some (.int .i64 i)) (hy:cK L y=some (.int .i64 j)) :
 St P ⟨d,.call ⟨.builtin .max,#[x,y],#[t,u]⟩,T,pos,af,g⟩ L w (.int .i64 (max i j)) :=
 ⟨fun _ a ha w' _=>by
  have e:(if i<j then j else i)=max i j:=by split<;>omega
  simp [execOp,resolve,invoke,builtin,ha.eval hx,ha.eval hy,Builtin.max_,Builtin.max2,e]⟩
theorem jg {f:FuncId} {cap:List Operand} {vs:List Value} (hx:uE L cap=some vs) : St P ⟨d,.makeFunc (.func f) #[] cap.toArray,T,pos,af,g⟩ L w (.func (.func f) #[] vs.toArray) :=
 ⟨fun _ a ha w' _=>by simp [execOp,Instr.makeFunc,<- ha.uF hx]⟩
end
def setAt (cs:List Value) (off:Nat) : List Value->List Value
 | []=>cs
 | v::r=>setAt (cs.set off v) (off+1) r
def DY (places:List (Nat×Nat)) (cells:List Value) : List (Nat×Value)->Option (List Value)
 | []=>some cells
 | (i,v)::rest=>match places[i]? with
   | none=>none
   | some (off,size)=>bif Nat.beq v.cells.size size && Nat.ble (off+v.cells.size) cells.length then DY places (setAt cells off v.cells.toList) rest else none
theorem qq:∀ (vs:List Value) (k off:Nat) (cs:List Value),(vs.zipIdx k).foldl (fun (cs:Array Value) (p:Value×Nat)=>cs.setIfInBounds (off+p.2) p.1) cs.toArray=(setAt cs (off+k) vs).toArray
 | [],_,_,_=>rfl
 | v::r,k,off,cs=>by
   simp only [List.zipIdx_cons,List.foldl_cons,setAt];rw [List.setIfInBounds_toArray,qq r (k+1) off]
   rfl
theorem HT {places:List (Nat×Nat)}:∀ (ps:List (Nat×Value)) (cells cs:List Value),DY places cells ps=some cs->Instr.fill (places.toArray[·]?) cells.toArray ps=some cs.toArray
 | [],_,_,h=>by simp [DY] at h;subst h;rfl
 | (i,v)::rest,cells,cs,h=>by
   simp only [DY] at h;simp only [Instr.fill,List.getElem?_toArray];split at h
   ·cases h
   ·rename_i off size hp;simp only [cond_eq_ite] at h;split at h
    ·rename_i hb;simp only [Bool.and_eq_true] at hb;have h1:=adv hb.1;have h2:off+v.cells.size<=cells.length:=by simpa using hb.2
     simp only [hp];have:=qq v.cells.toList 0 off cells
     simp only [Nat.add_zero] at this
     have e2:Array.foldl (fun (cs:Array Value) (x:Value×Nat)=>cs.setIfInBounds (off+x.2) x.1) cells.toArray v.cells.zipIdx=(setAt cells off v.cells.toList).toArray:=by
      rw [<- this,<- aeS];simp [Array.toList_zipIdx]
     rw [if_neg (by simp;omega)];have e3:=HT (places:=places) rest _ _ h;rw [<- e2] at e3;simpa using e3
    ·cases h
class hU (P:Program) (t:TypeId) (places:outParam (List (Nat×Nat))) (zc:outParam (List Value)) : Prop where
 ou:((P.underlying t).bind fun | .struct fs=>some ((fs.toList.map fun f=>(f.offset,(P.info? f.type).map (·.size))))|_=>none)=some (places.map fun p=>(p.1,some p.2)):=by kernel_rfl
 zero:((P.info? t).bind (·.zero)).map (·.cells)=some zc.toArray:=by kernel_rfl
def vG (L:Env) : List (Nat×Operand)->Option (List (Nat×Value))
 | []=>some []
 | (i,x)::r=>match cK L x,vG L r with
   | some v,some vs=>some ((i,v)::vs)
   | _,_=>none
theorem Fit.parts {n:Nat} {a:Act} {L:Env} (h:Fit n a L) : ∀ {xs:List (Nat×Operand)} {vs:List (Nat×Value)},vG L xs=some vs->xs.map (fun p=>(p.1,a.eval p.2))=vs
 | [],vs,e=>by simp [vG] at e;subst e;rfl
 | (i,x)::r,vs,e=>by
   simp only [vG] at e;cases hx:cK L x with
   | none=>simp [hx] at e
   | some v =>
     cases hr:vG L r with
     | none=>simp [hx,hr] at e
     | some us =>
       simp [hx,hr] at e;subst e;simp [h.eval hx,h.parts hr]
theorem ri (w:World) : ∀ (fs:List Field) (places:List (Nat×Nat)),(fs.map fun f=>(f.offset,(P.info? f.type).map (·.size)))=(places.map fun p=>(p.1,some p.2)) ->
 (fs.mapM (m:=Sem) fun f=>do return (f.offset,<- sizeOf f.type)).run P w = .ok places w
 | [],[],_=>by simp
 | f::fs,p::ps,h=>by
   simp only [List.map_cons,List.cons.injEq,Prod.mk.injEq] at h;have ih:=ri w fs ps h.2;have hs:=run_sizeOf h.1.2 w;rw [afh];simp only [Sem.run_bind,hs,Result.andThen,pure,Sem.run];rw [h.1.1];have UB:(fs.mapM (m:=Sem) fun f=>do return (f.offset,<- sizeOf f.type)).run P w = .ok ps w:=ih
   simp only [pure] at UB;rw [UB]
 | [],_::_,h=>by simp at h
 | _::_,[],h=>by simp at h
section
variable {P:Program} {L:Env} {w:World} {d:Option Nat} {T:TypeId} {pos:String} {af:Array Edge} {g:Option (Nat×Bool)}
theorem iH [c:hU P t places zc] {ps:List (Nat×Operand)} (hp:vG L ps=some pv) (hf:DY places zc pv=some cs) :
 St P ⟨d,.build t ps.toArray,T,pos,af,g⟩ L w (.agg cs.toArray) :=
 ⟨fun n a ha w' _=>by
  have hz:=c.zero;cases hi:P.info? t with
  | none=>simp [hi] at hz
  | some inf =>
    cases ow:inf.zero with
    | none=>simp [hi,ow] at hz
    | some z =>
      simp [hi,ow] at hz;have hu:=c.ou;cases hd:P.underlying t with
      | none=>simp [hd] at hu
      | some D =>
        cases D<;>simp only [hd,Option.bind_some,reduceCtorEq,Option.some.injEq] at hu
        rename_i fs;have hm:=ri (P:=P) w' fs.toList places hu;have Lc:=HT pv zc cs hf;have XK:=ha.parts hp
        have Va:(fs.mapM (m:=Sem) fun f=>do return (f.offset,<- sizeOf f.type)).run P w' = .ok places.toArray w':=by
         rw [ae2];have e:∀ (x:Sem (List (Nat×Nat))),x.run P w' = .ok places w'->(Functor.map List.toArray x).run P w' = .ok places.toArray w':=fun x hx=>by simp [hx,Result.andThen]
         exact e _ hm
        have Zl:(zeroValue t).run P w' = .ok z w':=by simp [zeroValue,typeInfo,hi,ow]
        have hb:(Instr.build t (ps.map fun p=>(p.1,a.eval p.2)).toArray).run P w' = .ok (.agg cs.toArray) w':=by
         unfold Instr.build;simp only [Sem.run_bind,Zl,Result.andThen,run_underlying hd];have e:=Va;simp only [pure] at e ⊢;rw [e];simp only [hz,XK,Lc,Sem.run]
        have hx:(execOp a.eval ⟨d,.build t ps.toArray,T,pos,af,g⟩).run P w'=(do pure (Next.value (<- Instr.build t (ps.map fun p=>(p.1,a.eval p.2)).toArray)) : Sem Next).run P w':=by simp [execOp]
        rw [hx,Sem.run_bind,hb]
        rfl⟩
end
inductive mw (P:Program) (L:Env) (w:World) : List ResultVar->List Value->Prop
 | nil:mw P L w [] []
 | tmp {t:Nat} {v:Value} {rs:List ResultVar} {vs:List Value}:get L t=some v->mw P L w rs vs->mw P L w (.tmp t::rs) (v::vs)
 | cell {t ty b tb m:Nat} {cs:List Value} {rs:List ResultVar} {vs:List Value}:fu P ty m->get L t=some (.pointer (some ⟨b,0,none⟩))->aS w b tb cs->cs.length=m->mw P L w rs vs->mw P L w (.cell t ty::rs) (.agg cs.toArray::vs)
theorem mw.run {L:Env} {n:Nat} {a:Act} (ha:Fit n a L) {rs:List ResultVar} {vs:List Value} (h:mw P L w rs vs) :
 (rs.mapM (m:=Sem) fun | .tmp t=>pure (a.tmps.getD t undef) | .cell b t=>do loadVar t (<- asAddr (a.tmps.getD b undef))).run P w = .ok vs w:=by
 induction h with
 | nil=>rfl
 | @tmp t v rs vs hg hr ih =>
   rw [afh];simp only [Sem.run_bind,ha.has _ _ hg,pure,Sem.run,Result.andThen];simp only [pure] at ih;rw [ih]
 | @cell t ty b tb m cs rs vs c hg hB hl hr ih =>
   rw [afh]
   have SD:(loadVar ty ⟨b,0,none⟩).run P w = .ok (.agg cs.toArray) w:=by
    subst hl;simp [loadVar,tC,run_sizeOf c.size,run_loadCells_list (P:=P) w ⟨b,0,none⟩ cs (fun j v hv=>hB.cell hv)]
   have Vb:(asAddr (a.tmps.getD t undef)).run P w = .ok ⟨b,0,none⟩ w:=by rw [ha.has _ _ hg];rfl
   simp only [Sem.run_bind,Vb,Result.andThen,SD];rw [ih]
   rfl
section
variable {P:Program} {fn:Func} {R:Ending->World->Prop} {n:Nat} {L:Env} {w:World}
theorem mw.results {rs:List ResultVar} {vs:List Value} (hr:fn.results=rs.toArray) (h:mw P L w rs vs) {a:Act} (ha:Fit n a L) :
 (results fn a.tmps).run P w = .ok (if h:vs.toArray.size=1 then vs.toArray[0] else .tuple vs.toArray) w:=by
 have h1:=h.run ha;unfold Go.results;rw [hr,ae2]
 have e:∀ (x:Sem (List Value)),x.run P w = .ok vs w->(do let vs <- (Functor.map List.toArray x:Sem (Array Value));pure (if h:vs.size=1 then vs[0] else .tuple vs) : Sem Value).run P w = .ok (if h:vs.toArray.size=1 then vs.toArray[0] else .tuple vs.toArray) w:=fun x hx=>by
  simp [hx,Result.andThen]
 exact e _ h1
theorem ae.DZ {t ty tb:Nat} [c:fu P ty m] (hr:fn.results = #[.cell t ty]) (hv:get L t=some (.pointer (some ⟨b,0,none⟩))) (hB:aS w b tb cs) (hl:Nat.beq cs.length m=true) (h:R (.returned (.agg cs.toArray)) w) : ae n (bodyPost P fn R) .ret L w :=
 ⟨fun a ha=>⟨ha.defers,_,by simpa using mw.results (rs:=[.cell t ty]) hr (.cell c hv hB (adv hl) .nil) ha,h⟩⟩
theorem ae.dw {t u ty tb:Nat} {x:Value} [c:fu P ty m] (hr:fn.results = #[.cell t ty,.tmp u]) (hv:get L t=some (.pointer (some ⟨b,0,none⟩))) (hx:get L u=some x) (hB:aS w b tb cs) (hl:Nat.beq cs.length m=true) (h:R (.returned (.tuple #[.agg cs.toArray,x])) w) : ae n (bodyPost P fn R) .ret L w :=
 ⟨fun a ha=>⟨ha.defers,_,by simpa using mw.results (rs:=[.cell t ty,.tmp u]) hr (.cell c hv hB (adv hl) (.tmp hx .nil)) ha,h⟩⟩
theorem ae.e8 {t u q ty tb:Nat} {x y:Value} [c:fu P ty m] (hr:fn.results = #[.cell t ty,.tmp u,.tmp q]) (hv:get L t=some (.pointer (some ⟨b,0,none⟩))) (hx:get L u=some x) (hy:get L q=some y) (hB:aS w b tb cs) (hl:Nat.beq cs.length m=true) (h:R (.returned (.tuple #[.agg cs.toArray,x,y])) w) : ae n (bodyPost P fn R) .ret L w :=
 ⟨fun a ha=>⟨ha.defers,_,by simpa using mw.results (rs:=[.cell t ty,.tmp u,.tmp q]) hr (.cell c hv hB (adv hl) (.tmp hx (.tmp hy .nil))) ha,h⟩⟩
end
section
variable {P:Program} {n:Nat} {ops:Array Oper} {Q:Exit->Act->World->Prop} {rest:List Oper} {L:Env} {w:World}
theorem Bq {a:Act} {d:Option Nat} {f:FuncId} {xs:List Operand} {pos:String}
 [hb:Body P f] (hf:a.eval fo = .func (.func f) #[] cap.toArray) : (execOp a.eval ⟨d,.call ⟨.value fo,xs.toArray,ts⟩,T,pos,af,g⟩).run P w' = .ok (.enter f (xs.map a.eval++cap).toArray) w':=by
 simp only [execOp,resolve,hf,Deferred.ofValue,Sem.run_bind,pure,Sem.run,Result.andThen,invoke,List.map_toArray];have:=hb.out (xs.map a.eval++cap).toArray w'
 simpa using this
theorem SW.uI {f:FuncId} {xs:List Operand} {vs:List Value} {pos:String} {R:Value->World->Prop}
 [Body P f] (hf:cK L fo=some (.func (.func f) #[] cap.toArray)) (hx:uE L xs=some vs) (hn:Nat.blt d n=true) (hc:bI P f (vs++cap) w R) (h:∀ v w',Ext w w'->R v w'->SW P n ops (.gL Q) rest ((d,v)::L) w') :
 SW P n ops (.gL Q) (⟨some d,.call ⟨.value fo,xs.toArray,ts⟩,T,pos,af,none⟩::rest) L w :=
 ⟨fun a ha=>by
  simp only [swp,wpList,Region.wanted,if_true];refine .inl ?_;unfold Oper.wp;rw [Bq (ha.eval hf),Oper.upon_enter,ha.uF hx];refine Calls.mono hc.out ?_;rintro e w' ⟨v,rfl,py,hv⟩
  exact (h v w' py hv).out _ (ha.put hn v)⟩
theorem SW.tS {f:FuncId} {xs:List Operand} {vs:List Value} {pos:String} {v:Value}
 [Body P f] (hf:cK L fo=some (.func (.func f) #[] cap.toArray)) (hx:uE L xs=some vs) (hn:Nat.blt d n=true) (hc:∀ w',Ext w w'->bI P f (vs++cap) w' fun u _=>u=v) (h:SW P n ops (.NP K) rest ((d,v)::L) w) :
 SW P n ops (.NP K) (⟨some d,.call ⟨.value fo,xs.toArray,ts⟩,T,pos,af,none⟩::rest) L w :=
 ⟨fun a ha=>by
  simp only [swp,wpQuiet,Region.wanted,if_true];refine ⟨v,fun w' nC => ?_,h.out _ (ha.put hn v)⟩;unfold Oper.quietAt;rw [Bq (ha.eval hf),ha.uF hx];refine ⟨rfl,Calls.mono (hc w' nC).out ?_⟩;rintro e NA ⟨u,rfl,py,rfl⟩
  exact ⟨rfl,nC.trans py⟩⟩
end
section
variable {P:Program} {L:Env} {w:World} {d:Option Nat} {T:TypeId} {pos:String} {af:Array Edge} {g:Option (Nat×Bool)}
theorem bc [c:bz P t e sz] {x:Operand} {n cap:Nat} (hx:cK L x=some (.slice A n cap)) (hy:cK L y=some (.int .i64 (k:Int))) (hk:k<=n) (hc:n<=cap) :
 St P ⟨d,.slice t x (some y) none none,T,pos,af,g⟩ L w (.slice (if cap=k then A else A.map (·.add (k*sz))) (n-k) (cap-k)) :=
 ⟨fun _ a ha w' _=>by
  have e1:=ha.eval hx;have e2:=ha.eval hy;generalize a.eval = ρ at *
  simp [execOp,e1,e2,Instr.sliceAt,Instr.slice,Instr.sliceBounds,Instr.sliceBound,asIntOf,run_underlying c.ou,run_sizeOf c.size,hk]⟩
theorem dk [c:bz P t e sz] {x:Operand} {n cap:Nat} (hx:cK L x=some (.slice A n cap)) (hy:cK L y=some (.int .i64 (k:Int))) (hk:k<=cap) :
 St P ⟨d,.slice t x none (some y) none,T,pos,af,g⟩ L w (.slice A k cap) :=
 ⟨fun _ a ha w' _=>by
  have e1:=ha.eval hx;have e2:=ha.eval hy;generalize a.eval = ρ at *
  have h0:A.map (·.add 0)=A:=by cases A<;>simp [add_zero]
  simp [execOp,e1,e2,Instr.sliceAt,Instr.slice,Instr.sliceBounds,Instr.sliceBound,asIntOf,run_underlying c.ou,run_sizeOf c.size,hk,h0]⟩
end
section
variable {P:Program} {L:Env} {w:World} {d:Option Nat} {T:TypeId} {pos:String} {af:Array Edge} {g:Option (Nat×Bool)}
end
section
variable {P:Program} {n:Nat} {ops:Array Oper} {Q:Exit->Act->World->Prop} {rest:List Oper} {L:Env} {w:World} {pos:String} {af:Array Edge} {T:TypeId}
theorem SW.Lh {x:Operand} {v:Value} (hx:cK L x=some v) (h1:v.oneCell'=true) (hn:Nat.blt d n=true)
 (h:∀ b w',Ext w w'->w.heap.size<=b->aS w' b t [v]->SW P n ops (.gL Q) rest ((d,.pointer (some ⟨b,0,none⟩))::L) w') : SW P n ops (.gL Q) (⟨some d,.box t x,T,pos,af,none⟩::rest) L w :=
 ⟨fun a ha=>by
  have lJ:v.cells = #[v]:=by cases v<;>first|rfl|simp [Value.oneCell'] at h1
  simp only [swp,wpList,Region.wanted,if_true];refine .inl ?_;unfold Oper.wp
  have hr:(execOp a.eval ⟨some d,.box t x,T,pos,af,none⟩).run P w = .ok (.value (.pointer (some ⟨w.heap.size,0,none⟩))) (w.alloc (.cells #[v] t)):=by
   simp [execOp,ha.eval hx,Instr.box,newVar,newRow,newObj,Sem.run,lJ]
  rw [hr,Oper.upon_value];exact (h _ _ (Ext.alloc w _) (ac3 _) (aS.new w t [v])).out _ (ha.put hn _)⟩
end
theorem Ext.own {base:World} (h:Ext base w) (hb:base.heap.size<=b) (hg:w.grownBy w' (some b)) : Ext base w':=aF h hg (ac3 _) (fun k e=>by cases e;exact hb)
end Go.Proofs.YtohigmjjbgpfmaaGreatDoor
