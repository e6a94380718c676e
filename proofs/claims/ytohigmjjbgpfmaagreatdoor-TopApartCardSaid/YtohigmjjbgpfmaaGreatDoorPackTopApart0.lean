/- Part 0 of what topApart_holds leans on. -/
import Derived.WalkKit
import Derived.Deep.Quiet
import Derived.KernelRfl
import Derived.WalkLawsBesides
import Derived.WalkSpells
import Derived.Laws.AppendOwnNone
import Derived.Laws.CopyOwn
import Derived.StillTail
import Derived.Deep.RegionHeld3
import Derived.Laws.CopyRow
import Derived.Laws.StructEq
set_option linter.unusedVariables false
set_option linter.unusedSimpArgs false
set_option linter.defProp false
namespace Go.Proofs.YtohigmjjbgpfmaaGreatDoor
def adb:=@List.getElem_mem
def ade:=@List.getElem_of_mem
def adf:=@Nat.le_trans
def adg:=@Nat.le_refl
def adh:=@List.take_append_drop
def adi:=@List.getElem?_eq_getElem
def adj:=@List.append_assoc
def adk:=@List.take_succ_eq_append_getElem
def adl:=@List.pairwise_iff_getElem
def adm:=@List.mem_append
def adn:=@Int.eq_ofNat_of_zero_le
def ado:=@Array.getElem?_eq_some_iff
def adp:=@List.length_append
def adq:=@List.any_eq_true
def adr:=@List.take_of_length_le
def ads:=@List.mem_or_eq_of_mem_set
def adt:=@List.flatMap_append
def adu:=@Nat.eq_zero_or_pos
def adv:=@List.mem_map
def adw:=@List.eq_nil_of_length_eq_zero
def adx:=@List.mem_flatMap
def ady:=@List.any_eq_false
def adz:=@List.singleton_append
def adA:=@List.pairwise_append
def adB:=@List.getElem_set
def adC:=@List.getElem?_eq_some_iff
def adD:=@Nat.mul_le_mul_right
def adE:=@List.mem_of_mem_take
def adF:=@Nat.eq_of_beq_eq_true
def adG:=@List.map_append
def adH:=@Option.isSome_iff_exists
def adI:=@Int.toNat_of_nonneg
def adJ:=@Nat.le_of_ble_eq_true
def adK:=@List.length_set
def adL:=@Nat.lt_or_ge
def adM:=@List.eraseIdx_eq_take_drop_succ
def adN:=@List.mem_append_left
def adO:=@Nat.lt_trichotomy
def adP:=@Int.tmod_eq_emod_of_nonneg
def adQ:=@List.getElem?_append_left
def adR:=@Bool.and_eq_true
def adS:=@List.getElem_take
def adT:=@List.nodup_append
def adU:=@List.mem_of_mem_drop
def adV:=@List.mem_of_mem_eraseIdx
def adW:=@List.set_getElem_self
def adX:=@List.getElem?_append_right
def adY:=@List.getElem?_eq_none
def adZ:=@List.getD_eq_getElem?_getD
def ad0:=@Nat.add_mul
def ad1:=@List.ext_getElem
def ad2:=@List.take_length
def ad3:=@Nat.zero_le
def ad4:=@List.eraseIdx_sublist
def ad5:=@List.nil_append
def ad6:=@List.set_eq_take_append_cons_drop
def ad7:=@Nat.lt_of_lt_of_le
def ad8:=@List.pairwise_cons
def ad9:=@List.getElem_drop
def aea:=@List.mem_take_iff_getElem
def aeb:=@List.nodup_cons
def aec:=@List.set_append_right
def aed:=@List.length_replicate
def aee:=@List.mem_cons
def aef:=@List.getElem?_set_self
def aeg:=@List.drop_drop
def aeh:=@List.getElem_append_left
def aei:=@List.getElem?_set_ne
def aej:=@Int.mul_comm
def aek:=@List.mem_eraseIdx_iff_getElem
def ael:=@Array.length_toList
def aem:=@List.flatten_append
def aen:=@List.drop_eq_nil_of_le
def aeo:=@Array.getD_eq_getD_getElem?
def aep:=@Nat.lt_or_gt_of_ne
def aeq:=@Nat.le_of_lt
def aer:=@Int.mul_ediv_add_emod
def aes:=@List.length_eraseIdx_of_lt
def aet:=@List.map_cons
def aeu:=@List.flatten_cons
def aev:=@Array.setIfInBounds_comm
def aew:=@List.map_set
def aex:=@List.getElem_map
def aey:=@List.flatMap_def
def aez:=@List.length_eraseIdx_le
def aeA:=@List.append_nil
def aeB:=@Int.mul_le_mul_of_nonneg_right
def aeC:=@List.take_append_of_le_length
def aeD:=@Nat.zero_add
def aeE:=@List.set_set
def aeF:=@List.mem_append_right
def aeG:=@Bool.or_eq_false_iff
def aeH:=@List.filter_eq_self
def aeI:=@Int.sub_add_cancel
def aeJ:=@List.getElem?_drop
def aeK:=@List.getElem?_take_of_lt
def aeL:=@Int.mul_nonneg
def aeM:=@List.getElem?_map
def aeN:=@Int.ediv_le_self
def aeO:=@Nat.mod_eq_of_lt
def aeP:=@Nat.lt_succ_self
def aeQ:=@List.length_take
def aeR:=@List.length_filter_le
def aeS:=@List.getElem_eraseIdx
def aeT:=@List.getElem_set_self
def aeU:=@List.eq_nil_or_concat
def aeV:=@Option.map_some
def aeW:=@Nat.add_zero
def aeX:=@Bool.eq_iff_iff
def aeY:=@Int.natCast_mul
def aeZ:=@List.length_eraseIdx
def ae0:=@Int.mul_le_mul_of_nonneg_left
def ae1:=@Int.le_refl
def ae2:=@Array.foldl_toList
def ae3:=@List.mem_singleton
def ae4:=@Int.emod_lt_of_pos
def ae5:=@Array.getElem?_append_left
def ae6:=@Int.tdiv_eq_ediv_of_nonneg
def ae7:=@Nat.add_assoc
def ae8:=@Bool.true_and
def ae9:=@List.foldl_append
def afa:=@List.pairwise_map
def afb:=@Bool.not_eq_true'
def afc:=@Array.mapM_eq_mapM_toList
def afd:=@List.drop_eq_getElem_cons
def afe:=@List.getElem_append_right
def aff:=@Nat.mul_comm
def afg:=@List.any_map
def afh:=@Nat.sub_self
def afi:=@Int.lt_or_le
def afj:=@List.map_map
def afk:=@List.not_mem_nil
def afl:=@Int.ediv_nonneg
def afm:=@List.mem_filter
def afn:=@Int.ediv_mul_le
def afo:=@Int.natCast_add
def afp:=@Int.emod_nonneg
def afq:=@Int.add_mul
def afr:=@Int.one_mul
def afs:=@List.mapM_cons
open Go.RowKit
variable {ad:Addr} {af:Array Edge} {ts:Array TypeId} {b':Bool} {Q:Exit->Act->World->Prop} {fn:Func} {args cs:List Value} {b d i j k m off sz:Nat} {op:Op} {y:Operand} {g:Option (Nat×Bool)} {A:Option Addr} {d':Option Nat} {P:Program} {T e ft t ty:TypeId} {v':Value} {R':Value->World->Prop} {w w' w0:World}
abbrev Env:=List (Nat×Value)
def get:Env->Nat->Option Value
 | [],_=>none
 | (i,v)::r,j=>bif Nat.beq i j then some v else get r j
structure Fit (n:Nat) (a:Act) (L:Env) : Prop where
 size:a.tmps.size=n
 defers:a.defers=[]
 has:∀ i v,get L i=some v->a.tmps.getD i undef=v
def cT (L:Env) : Operand->Option Value
 | .tmp t=>get L t
 | .const v=>some v
 | .global g=>some (.pointer (some ⟨g,0,none⟩))
 | .func f=>some (.func (.func f) #[] #[])
theorem Fit.eval {n:Nat} {a:Act} {L:Env} (h:Fit n a L) {x:Operand} {v:Value} (hx:cT L x=some v) : a.eval x=v:=by
 cases x with
 | tmp t=>exact h.has _ _ hx
 | const c=>simpa [cT,Act.eval] using hx
 | global g=>simpa [cT,Act.eval] using hx
 | func f=>simpa [cT,Act.eval] using hx
theorem Fit.put {n:Nat} {a:Act} {L:Env} (h:Fit n a L) (hd:Nat.blt d n=true) (v:Value) : Fit n (a.put (some d) v) ((d,v)::L):=by
 have Zt:d<n:=by simpa using hd
 refine ⟨by simp [Act.put,h.size],by simp [Act.put,h.defers],?_⟩;intro i u hu;simp only [get,cond_eq_ite] at hu;simp only [Act.put];by_cases e:d=i
 ·subst e;simp at hu;subst hu;simp [Array.getD_eq_getD_getElem?,h.size,Zt]
 ·have hb:Nat.beq d i=false:=by
   cases hb:Nat.beq d i
   ·rfl
   ·exact absurd (adF hb) e
  rw [hb] at hu;have:=h.has i u (by simpa using hu)
  rw [<- this];simp [Array.getD_eq_getD_getElem?,e]
theorem Fit.Lt {n:Nat} {a:Act} {L:Env} (h:Fit n a L) (v:Value) : Fit n (a.put none v) L:=h
theorem Fit.less {n:Nat} {a:Act} {L L':Env} (h:Fit n a L) (hs:∀ i v,get L' i=some v->get L i=some v) : Fit n a L' :=
 ⟨h.size,h.defers,fun i v hv=>h.has i v (hs i v hv)⟩
def iw (L:Env) : Env->Prop
 | []=>True
 | (i,v)::r=>get L i=some v∧iw L r
theorem Ip {L:Env}:∀ {L':Env},iw L L' -> ∀ i v,get L' i=some v->get L i=some v
 | [],_,_,_,h=>by simp [get] at h
 | (j,u)::r,hs,i,v,h=>by
   simp only [get,cond_eq_ite] at h;by_cases e:Nat.beq j i=true
   ·rw [if_pos e] at h;obtain rfl:=adF e;simp at h;subst h;exact hs.1
   ·rw [if_neg e] at h;exact Ip hs.2 i v h
theorem Fit.sub {n:Nat} {a:Act} {L L':Env} (h:Fit n a L) (hs:iw L L') : Fit n a L':=h.less (Ip hs)
abbrev Ext (w w':World) : Prop:=Below w.heap.size w w'
theorem Ext.refl (w:World) : Ext w w:=Below.refl _ _
theorem Ext.trans {a b c:World} (h:Ext a b) (k:Ext b c) : Ext a c:=Below.trans h (Below.mono k h.size)
theorem Ext.cell (h:Ext w w') {a:Addr} {v:Value} (hc:w.cell? a=some v) : w'.cell? a=some v :=
 (Below.cell h (World.block_lt_of_cell? w a hc)).trans hc
theorem Ext.alloc (w:World) (o:Obj) : Ext w (w.alloc o):=(Below.refl _ _).alloc (adg _) _
theorem Ext.drew (w:World) : Ext w w.drew:=(Below.refl _ _).drew
structure CW (P:Program) (n:Nat) (c:Code) (Q:Exit->Act->World->Prop) (L:Env) (w:World) : Prop where
 out:∀ a,Fit n a L->c.wp P Q a w
inductive Md where
 | gM (Q:Exit->Act->World->Prop)
 | Od (K:Env->Prop)
 | tk (K:Env->Prop)
def C0 (P:Program) (ops:Array Oper) (C:World->Prop) (Q:Act->Prop) : List Oper->Act->Prop
 | [],a=>Q a
 | o::rest,a=>if Region.wanted o (yielded ops a.tmps) then ∃ v,(∀ w',C w'->(execOp a.eval o).run P w' = .ok (.value v) w')∧C0 P ops C Q rest (a.put o.dst v) else C0 P ops C Q rest (a.put o.dst undef)
def swp (P:Program) (n:Nat) (ops:Array Oper) (w:World) : Md->List Oper->Act->Prop
 | .gM Q,rest,a=>wpList P ops Q rest a w
 | .Od K,rest,a=>wpQuiet P ops (fun w'=>Ext w w') (fun a' => ∃ L',Fit n a' L'∧K L') rest a
 | .tk K,rest,a=>C0 P ops (fun w'=>Ext w w') (fun a' => ∃ L',Fit n a' L'∧K L') rest a
structure SW (P:Program) (n:Nat) (ops:Array Oper) (M:Md) (rest:List Oper) (L:Env) (w:World) : Prop where
 out:∀ a,Fit n a L->swp P n ops w M rest a
structure St (P:Program) (o:Oper) (L:Env) (w:World) (v:Value) : Prop where
 out:∀ n a,Fit n a L -> ∀ w',Ext w w'->(execOp a.eval o).run P w' = .ok (.value v) w'
structure ae (n:Nat) (Q:Exit->Act->World->Prop) (e:Exit) (L:Env) (w:World) : Prop where
 out:∀ a,Fit n a L->Q e a w
def Oe (P:Program) (y:Code) (Q:Exit->Act->World->Prop) : Exit->Act->World->Prop:=Exit.then (y.wp P Q) Q
section
variable {P:Program} {n:Nat} {ops:Array Oper} {Q:Exit->Act->World->Prop} {M:Md} {rest:List Oper} {L:Env} {w:World}
theorem yT {a:Act} (h:Fit n a L) {b:Bool} (hd:(ops[j]?).bind (·.dst)=some d) (hb:get L d=some (.bool b)) : yielded ops a.tmps j=some b:=by
 have:=h.has _ _ hb
 rw [aeo] at this;unfold yielded;rw [hd];cases ht:a.tmps[d]? with
 | none=>rw [ht] at this;cases this
 | some u=>rw [ht] at this;simp at this;simp [ht,this]
theorem SW.want {pos:String} {b:Bool} (hd:(ops[j]?).bind (·.dst)=some d) (hb:get L d=some (.bool b))
 (h:SW P n ops M (⟨d',op,T,pos,af,none⟩::rest) L w) : SW P n ops M (⟨d',op,T,pos,af,some (j,b)⟩::rest) L w :=
 ⟨fun a ha=>by
  have:=h.out a ha
  cases M<;>simp only [swp,wpList,wpQuiet,C0,Region.wanted,if_true,yT ha hd hb,BEq.rfl] at this ⊢<;>exact this⟩
theorem SW.skip {pos:String} {d':Nat} {b c:Bool} (hd:(ops[j]?).bind (·.dst)=some d) (hb:get L d=some (.bool c)) (bJ:(c == b)=false)
 (hn:Nat.blt d' n=true) (h:SW P n ops M rest ((d',undef)::L) w) : SW P n ops M (⟨some d',op,T,pos,af,some (j,b)⟩::rest) L w :=
 ⟨fun a ha=>by
  have Vk:(some c == some b)=false:=by simpa using bJ
  have:=h.out _ (ha.put hn undef)
  cases M<;>simp only [swp,wpList,wpQuiet,C0,Region.wanted,yT ha hd hb,Vk,Bool.false_eq_true,if_false] at this ⊢<;>exact this⟩
theorem SW.SR {pos:String} {d':Nat} {b:Bool} (hd:(ops[j]?).bind (·.dst)=some d) (hb:get L d=some undef)
 (hn:Nat.blt d' n=true) (h:SW P n ops M rest ((d',undef)::L) w) : SW P n ops M (⟨some d',op,T,pos,af,some (j,b)⟩::rest) L w :=
 ⟨fun a ha=>by
  have hy:yielded ops a.tmps j=none:=by
   have:=ha.has _ _ hb
   rw [aeo] at this;unfold yielded;rw [hd];cases ht:a.tmps[d]? with
   | none=>simp [ht]
   | some u=>rw [ht] at this;simp at this;subst this;simp [ht,undef]
  have Vk:((none:Option Bool) == some b)=false:=rfl
  have:=h.out _ (ha.put hn undef)
  cases M<;>simp only [swp,wpList,wpQuiet,C0,Region.wanted,hy,Vk,Bool.false_eq_true,if_false] at this ⊢<;>exact this⟩
section
variable {d':Option Nat} {op:Op} {T:TypeId} {pos:String} {af:Array Edge} {j d e:Nat} {v:Value}
theorem SW.yU (hd:(ops[j]?).bind (·.dst)=some d) (hb:get L d=some v) (hv:v = .bool true) (h:SW P n ops M (⟨d',op,T,pos,af,none⟩::rest) L w) : SW P n ops M (⟨d',op,T,pos,af,some (j,true)⟩::rest) L w:=SW.want hd (hb.trans (by rw [hv])) h
theorem SW.yV (hd:(ops[j]?).bind (·.dst)=some d) (hb:get L d=some v) (hv:v = .bool false) (h:SW P n ops M (⟨d',op,T,pos,af,none⟩::rest) L w) : SW P n ops M (⟨d',op,T,pos,af,some (j,false)⟩::rest) L w:=SW.want hd (hb.trans (by rw [hv])) h
theorem SW.yW (hd:(ops[j]?).bind (·.dst)=some d) (hb:get L d=some v) (hv:v = .bool false) (hn:Nat.blt e n=true) (h:SW P n ops M rest ((e,undef)::L) w) : SW P n ops M (⟨some e,op,T,pos,af,some (j,true)⟩::rest) L w:=SW.skip (c:=false) hd (hb.trans (by rw [hv])) rfl hn h
theorem SW.yX (hd:(ops[j]?).bind (·.dst)=some d) (hb:get L d=some v) (hv:v = .bool true) (hn:Nat.blt e n=true) (h:SW P n ops M rest ((e,undef)::L) w) : SW P n ops M (⟨some e,op,T,pos,af,some (j,false)⟩::rest) L w:=SW.skip (c:=true) hd (hb.trans (by rw [hv])) rfl hn h
theorem SW.yY {b:Bool} (hd:(ops[j]?).bind (·.dst)=some d) (hb:get L d=some v) (hv:v=undef) (hn:Nat.blt e n=true) (h:SW P n ops M rest ((e,undef)::L) w) : SW P n ops M (⟨some e,op,T,pos,af,some (j,b)⟩::rest) L w:=SW.SR hd (hb.trans (by rw [hv])) hn h
end
theorem Fit.known {a:Act} {c:Bool} (hb:get L d=some (.bool c)) (e:c=b') (ha:Fit n a L) : Fit n a ((d,.bool b')::L):=ha.less fun i v hv=>by
 simp only [get,cond_eq_ite] at hv;by_cases e':Nat.beq d i=true
 ·rw [if_pos e'] at hv;obtain rfl:=adF e';rw [<- hv,<- e,hb]
 ·rw [if_neg e'] at hv;exact hv
section
variable {o:Oper} {j d:Nat} {b c:Bool} {p:Prop} [Decidable p]
theorem SW.split (_hg:o.guard=some (j,b)) (_hd:(ops[j]?).bind (·.dst)=some d) (hb:get L d=some (.bool c))
 (h1:c=true->SW P n ops M (o::rest) ((d,.bool true)::L) w) (h0:c=false->SW P n ops M (o::rest) ((d,.bool false)::L) w) : SW P n ops M (o::rest) L w:=by
 cases c
 ·exact ⟨fun a ha=>(h0 rfl).out a (ha.known hb rfl)⟩
 ·exact ⟨fun a ha=>(h1 rfl).out a (ha.known hb rfl)⟩
theorem SW.gi (hg:o.guard=some (j,b)) (hd:(ops[j]?).bind (·.dst)=some d) (hb:get L d=some (.bool (decide p)))
 (h1:p->SW P n ops M (o::rest) ((d,.bool true)::L) w) (h0 : ¬ p->SW P n ops M (o::rest) ((d,.bool false)::L) w) : SW P n ops M (o::rest) L w :=
 SW.split hg hd hb (fun e=>h1 (of_decide_eq_true e)) (fun e=>h0 (of_decide_eq_false e))
theorem SW.C2 (hg:o.guard=some (j,b)) (hd:(ops[j]?).bind (·.dst)=some d) (hb:get L d=some (.bool (!decide p)))
 (h1 : ¬ p->SW P n ops M (o::rest) ((d,.bool true)::L) w) (h0:p->SW P n ops M (o::rest) ((d,.bool false)::L) w) : SW P n ops M (o::rest) L w :=
 SW.split hg hd hb (fun e=>h1 (by simpa using e)) (fun e=>h0 (by simpa using e))
theorem SW.rW (hg:o.guard=some (j,b)) (hd:(ops[j]?).bind (·.dst)=some d) (hb:get L d=some (.bool (decide p))) (hp:p) (h1:SW P n ops M (o::rest) ((d,.bool true)::L) w) : SW P n ops M (o::rest) L w:=SW.gi hg hd hb (fun _=>h1) (fun e=>absurd hp e)
theorem SW.rX (hg:o.guard=some (j,b)) (hd:(ops[j]?).bind (·.dst)=some d) (hb:get L d=some (.bool (decide p))) (hp : ¬ p) (h0:SW P n ops M (o::rest) ((d,.bool false)::L) w) : SW P n ops M (o::rest) L w:=SW.gi hg hd hb (fun e=>absurd e hp) (fun _=>h0)
theorem SW.rY (hg:o.guard=some (j,b)) (hd:(ops[j]?).bind (·.dst)=some d) (hb:get L d=some (.bool (!decide p))) (hp : ¬ p) (h1:SW P n ops M (o::rest) ((d,.bool true)::L) w) : SW P n ops M (o::rest) L w:=SW.C2 hg hd hb (fun _=>h1) (fun e=>absurd e hp)
theorem SW.rZ (hg:o.guard=some (j,b)) (hd:(ops[j]?).bind (·.dst)=some d) (hb:get L d=some (.bool (!decide p))) (hp:p) (h0:SW P n ops M (o::rest) ((d,.bool false)::L) w) : SW P n ops M (o::rest) L w:=SW.C2 hg hd hb (fun e=>absurd hp e) (fun _=>h0)
end
theorem SW.st {pos:String} {v:Value} (hs:St P ⟨some d,op,T,pos,af,none⟩ L w v) (hn:Nat.blt d n=true) (h:SW P n ops M rest ((d,v)::L) w) : SW P n ops M (⟨some d,op,T,pos,af,none⟩::rest) L w :=
 ⟨fun a ha=>by
  have h':=h.out _ (ha.put hn v);cases M with
  | gM Q =>
    simp only [swp,wpList,Region.wanted,if_true];refine .inl ?_;unfold Oper.wp;rw [hs.out n a ha w (Ext.refl w),Oper.upon_value];exact h'
  | Od K =>
    simp only [swp,wpQuiet,Region.wanted,if_true];refine ⟨v,fun w' ni => ?_,h'⟩;unfold Oper.quietAt;rw [hs.out n a ha w' ni];exact ⟨rfl,rfl⟩
  | tk K =>
    simp only [swp,C0,Region.wanted,if_true];exact ⟨v,fun w' ni=>hs.out n a ha w' ni,h'⟩⟩
def Lu:IntKind->IntKind->Bool
 | .i64,.i64 | .u8,.u8 | .u64,.u64 | .i32,.i32 | .u32,.u32=>true
 | _,_=>false
theorem Lv {a b:IntKind} (h:Lu a b=true) : a=b:=by cases a<;>cases b<;>simp [Lu] at h<;>rfl
def Qz (op:BinOp) (i j:Int) : Option Value :=
 match op with
 | .lss=>some (.bool (decide (i<j)))
 | .leq=>some (.bool (decide (i<=j)))
 | .gtr=>some (.bool (decide (j<i)))
 | .geq=>some (.bool (decide (j<=i)))
 | .eql=>some (.bool (decide (i=j)))
 | .neq=>some (.bool (!decide (i=j)))
 | _=>none
def tM (L:Env) : Op->Option Value
 | .move x=>cT L x
 | .assign x=>cT L x
 | .pick c x y=>match cT L c with
   | some (.bool true)=>cT L x
   | some (.bool false)=>cT L y
   | _=>none
 | .unOp .not _ x=>match cT L x with
   | some (.bool b)=>some (.bool !b)
   | _=>none
 | .binOp op _ x y _=>match cT L x,cT L y with
   | some (.int k i),some (.int k' j)=>bif Lu k k' then Qz op i j else none
   | _,_=>none
 | .extract x i=>match cT L x with
   | some (.tuple vs)=>vs[i]?
   | _=>none
 | _=>none
section
variable {d:Option Nat} {T:TypeId} {pos:String} {af:Array Edge} {g:Option (Nat×Bool)} {v:Value}
theorem SS {x:Operand} (h:cT L x=some v) : St P ⟨d,.move x,T,pos,af,g⟩ L w v:=⟨fun _ a ha w' _=>by simp [execOp,ha.eval h]⟩
theorem SU {x:Operand} (h:cT L x=some v) : St P ⟨d,.assign x,T,pos,af,g⟩ L w v:=⟨fun _ a ha w' _=>by simp [execOp,ha.eval h]⟩
theorem Iq {c x:Operand} {b:Bool} (hc:cT L c=some (.bool b)) (h:cT L (if b then x else y)=some v) : St P ⟨d,.pick c x y,T,pos,af,g⟩ L w v :=
 ⟨fun _ a ha w' _=>by
  have e1:=ha.eval hc;have e2:=ha.eval h;generalize a.eval = ρ at *
  cases b
  ·have e3 : ρ y=v:=e2
   simp [go_sem,e1,e3]
  ·have e3 : ρ x=v:=e2
   simp [go_sem,e1,e3]⟩
theorem QA {x:Operand} {b:Bool} (hx:cT L x=some (.bool b)) : St P ⟨d,.unOp .not t x,T,pos,af,g⟩ L w (.bool !b) :=
 ⟨fun _ a ha w' _=>by have e1:=ha.eval hx;generalize a.eval = ρ at *;simp [go_sem,e1,Op.unary]⟩
theorem QB {op:BinOp} {x:Operand} {k:IntKind} {i j:Int} (hx:cT L x=some (.int k i)) (hy:cT L y=some (.int k j)) (h:Qz op i j=some v) : St P ⟨d,.binOp op t x y ty,T,pos,af,g⟩ L w v :=
 ⟨fun _ a ha w' _=>by
  have e1:=ha.eval hx;have e2:=ha.eval hy;generalize a.eval = ρ at *
  cases op<;>simp only [Qz,Option.some.injEq,reduceCtorEq] at h
  all_goals subst h
  all_goals simp [go_sem,e1,e2]
  all_goals rfl⟩
theorem Gq {x:Operand} {vs:Array Value} (hx:cT L x=some (.tuple vs)) (h:vs[i]?=some v) : St P ⟨d,.extract x i,T,pos,af,g⟩ L w v :=
 ⟨fun _ a ha w' _=>by simp [execOp,ha.eval hx,Instr.extract,h]⟩
theorem aR {o:Op} (h:tM L o=some v) : St P ⟨d,o,T,pos,af,g⟩ L w v:=by
 cases o
 case move x=>exact SS h
 case assign x=>exact SU h
 case pick c x y =>
  simp only [tM] at h;split at h
  ·exact Iq (b:=true) ‹_› h
  ·exact Iq (b:=false) ‹_› h
  ·cases h
 case unOp op t x =>
  cases op
  case not =>
   simp only [tM] at h;split at h
   ·cases h;exact QA ‹_›
   ·cases h
  all_goals simp [tM] at h
 case binOp op t x y ty =>
  simp only [tM] at h;split at h
  ·simp only [cond_eq_ite] at h;split at h
   ·rename_i hk;obtain rfl:=Lv hk;exact QB ‹_› ‹_› h
   ·cases h
  ·cases h
 case extract x i =>
  simp only [tM] at h;split at h
  ·exact Gq ‹_› h
  ·cases h
 all_goals simp [tM] at h
end
theorem SW.pure {pos:String} {v:Value} (hs:tM L op=some v) (hn:Nat.blt d n=true) (h:SW P n ops M rest ((d,v)::L) w) : SW P n ops M (⟨some d,op,T,pos,af,none⟩::rest) L w :=
 SW.st (aR hs) hn h
theorem SW.eU {K:Env->Prop} (h:K L) : SW P n ops (.Od K) [] L w:=⟨fun _ ha=>⟨L,ha,h⟩⟩
theorem SW.Ef {K:Env->Prop} (h:K L) : SW P n ops (.tk K) [] L w:=⟨fun _ ha=>⟨L,ha,h⟩⟩
theorem SW.nil (h:ae n Q .normal L w) : SW P n ops (.gM Q) [] L w:=⟨fun a ha=>h.out a ha⟩
theorem ae.seq {y:Code} (h:CW P n y Q L w) : ae n (Oe P y Q) .normal L w:=⟨fun a ha=>h.out a ha⟩
theorem ae.uN {y:Code} (h:ae n Q .ret L w) : ae n (Oe P y Q) .ret L w:=⟨fun a ha=>h.out a ha⟩
theorem ae.uO {y:Code} {id:Nat} (h:ae n Q (.exit id) L w) : ae n (Oe P y Q) (.exit id) L w:=⟨fun a ha=>h.out a ha⟩
theorem CW.seq {x y:Code} (h:CW P n x (Oe P y Q) L w) : CW P n (.seq x y) Q L w:=⟨fun a ha=>wp_seq (h.out a ha)⟩
theorem CW.skip (h:ae n Q .normal L w) : CW P n .skip Q L w:=⟨fun a ha=>wp_skip (h.out a ha)⟩
theorem CW.ret (h:ae n Q .ret L w) : CW P n .ret Q L w:=⟨fun a ha=>wp_ret (h.out a ha)⟩
theorem CW.exit {id:Nat} (h:ae n Q (.exit id) L w) : CW P n (.exit id) Q L w:=⟨fun a ha=>wp_exit (h.out a ha)⟩
theorem CW.block {id:Nat} {c:Code} (h:CW P n c (Exit.inBlock id Q) L w) : CW P n (.block id c) Q L w:=⟨fun a ha=>wp_block (h.out a ha)⟩
theorem CW.cond {c:Operand} {x y:Code} {b:Bool} (hc:cT L c=some (.bool b)) (h1:b=true->CW P n x Q L w) (h0:b=false->CW P n y Q L w) : CW P n (.cond c x y) Q L w :=
 ⟨fun a ha=>wp_cond_split (ha.eval hc) (fun e=>(h1 e).out a ha) (fun e=>(h0 e).out a ha)⟩
theorem CW.gu {c:Operand} {x y:Code} (hc:cT L c=some (.bool true)) (h:CW P n x Q L w) : CW P n (.cond c x y) Q L w:=CW.cond hc (fun _=>h) (fun e=>by cases e)
theorem CW.fY {c:Operand} {x y:Code} (hc:cT L c=some (.bool false)) (h:CW P n y Q L w) : CW P n (.cond c x y) Q L w:=CW.cond hc (fun e=>by cases e) (fun _=>h)
theorem CW.uP {c:Operand} {x y:Code} {p:Prop} [Decidable p] (hc:cT L c=some (.bool (decide p))) (h1:p->CW P n x Q L w) (h0 : ¬ p->CW P n y Q L w) : CW P n (.cond c x y) Q L w :=
 CW.cond hc (fun e=>h1 (of_decide_eq_true e)) (fun e=>h0 (of_decide_eq_false e))
theorem CW.PF {c:Operand} {x y:Code} {p:Prop} [Decidable p] (hc:cT L c=some (.bool (!decide p))) (h1 : ¬ p->CW P n x Q L w) (h0:p->CW P n y Q L w) : CW P n (.cond c x y) Q L w :=
 CW.cond hc (fun e=>h1 (by simpa using e)) (fun e=>h0 (by simpa using e))
theorem CW.uQ {c:Operand} {x y:Code} {p:Prop} [Decidable p] (hc:cT L c=some (.bool (decide p))) (hp:p) (h1:CW P n x Q L w) : CW P n (.cond c x y) Q L w:=CW.uP hc (fun _=>h1) (fun e=>absurd hp e)
theorem CW.yl {c:Operand} {x y:Code} {p:Prop} [Decidable p] (hc:cT L c=some (.bool (decide p))) (hp : ¬ p) (h0:CW P n y Q L w) : CW P n (.cond c x y) Q L w:=CW.uP hc (fun e=>absurd e hp) (fun _=>h0)
theorem CW.uR {c:Operand} {x y:Code} {p:Prop} [Decidable p] (hc:cT L c=some (.bool (!decide p))) (hp : ¬ p) (h1:CW P n x Q L w) : CW P n (.cond c x y) Q L w:=CW.PF hc (fun _=>h1) (fun e=>absurd e hp)
theorem CW.uS {c:Operand} {x y:Code} {p:Prop} [Decidable p] (hc:cT L c=some (.bool (!decide p))) (hp:p) (h0:CW P n y Q L w) : CW P n (.cond c x y) Q L w:=CW.PF hc (fun e=>absurd hp e) (fun _=>h0)
theorem CW.C3 {c:Operand} {x y:Code} {v:Value} (hc:cT L c=some v) (hv:v = .bool true) (h:CW P n x Q L w) : CW P n (.cond c x y) Q L w:=CW.gu (hc.trans (by rw [hv])) h
theorem CW.C4 {c:Operand} {x y:Code} {v:Value} (hc:cT L c=some v) (hv:v = .bool false) (h:CW P n y Q L w) : CW P n (.cond c x y) Q L w:=CW.fY (hc.trans (by rw [hv])) h
theorem CW.region {id:Nat} {l:List Oper} (h:SW P n l.toArray (.gM Q) l L w) : CW P n (.region id l.toArray false) Q L w:=⟨fun a ha=>wp_region_lit (h.out a ha)⟩
theorem CW.quiet {id:Nat} {l:List Oper} {K:Env->Prop} (hm:P.follows .mixedOrders=true) (hB:Region.lexB .any l.toArray=true) (h:SW P n l.toArray (.Od K) l L w)
 (k:∀ L' w',Ext w w'->K L'->ae n Q .normal L' w') : CW P n (.region id l.toArray true) Q L w :=
 ⟨fun a ha=>wp_region_quiet (C:=fun w'=>Ext w w') hm hB (Ext.drew w) (by
  have h':=h.out a ha
  have BJ:∀ (l':List Oper) (a:Act),wpQuiet P l.toArray (fun w'=>Ext w w') (fun a' => ∃ L',Fit n a' L'∧K L') l' a ->
   wpQuiet P l.toArray (fun w'=>Ext w w') (fun a' => ∀ w',Ext w w'->Q .normal a' w') l' a:=by
   intro l';induction l' with
   | nil=>exact fun a ⟨L',hf,hk⟩ w' ni=>(k L' w' ni hk).out a hf
   | cons o r ih =>
     intro a hh;simp only [wpQuiet] at hh ⊢;split
     ·rename_i hw;rw [if_pos hw] at hh;exact Oper.quiet_mono ih hh
     ·rename_i hw;rw [if_neg hw] at hh;exact ih _ hh
  exact BJ l a h')⟩
theorem CW.cut {c:Code} (K:Env->World->Prop) (h:CW P n c (fun e a w'=>e = .normal ∧ ∃ L',Fit n a L'∧K L' w') L w) (k:∀ L' w',K L' w'->ae n Q .normal L' w') : CW P n c Q L w :=
 ⟨fun a ha=>wp_mono (h.out a ha) fun e a' w' ⟨he,L',hf,hk⟩=>by subst he;exact (k L' w' hk).out a' hf⟩
theorem ae.cut {K:Env->World->Prop} (h:K L w) : ae n (fun e a w'=>e=Exit.normal ∧ ∃ L',Fit n a L'∧K L' w') .normal L w:=⟨fun _ ha=>⟨rfl,L,ha,h⟩⟩
theorem ae.sub {e:Exit} {L':Env} (hs:iw L L') (h:ae n Q e L' w) : ae n Q e L w:=⟨fun a ha=>h.out a (ha.sub hs)⟩
theorem ae.hit {id:Nat} (h:ae n Q .normal L w) : ae n (Exit.inBlock id Q) (.exit id) L w:=⟨fun a ha=>by simp only [Exit.inBlock,if_true];exact h.out a ha⟩
theorem ae.pass {id:Nat} (bJ:Nat.beq j id=false) (h:ae n Q (.exit j) L w) : ae n (Exit.inBlock id Q) (.exit j) L w :=
 ⟨fun a ha=>by
  have:j≠id:=fun e=>by subst e;simp at bJ
  simp only [Exit.inBlock,this,if_false];exact h.out a ha⟩
theorem ae.eM {id:Nat} (h:ae n Q .normal L w) : ae n (Exit.inBlock id Q) .normal L w:=⟨fun a ha=>h.out a ha⟩
theorem ae.ym {id:Nat} (h:ae n Q .ret L w) : ae n (Exit.inBlock id Q) .ret L w:=⟨fun a ha=>h.out a ha⟩
end
theorem Eg {c:Code} (I:Nat->Act->World->Prop)
 (round:∀ m a w,I m a w->c.wp P (Exit.then (fun a' w' => ∃ m',m'<m∧I m' a' w') Q) a w) :
 ∀ m a w,I m a w->(Code.loop c).wp P Q a w:=by
 intro m a w h0 b k cs
 have key:∀ m a w,I m a w -> ∃ e a' w',Q e a' w'∧Arrives P (lone (b.at a (.code c :: .inLoop c::k)) cs w) b k cs e a' w':=by
  intro m;induction m using Nat.strongRecOn with
  | _ m ih =>
    intro a w hI;obtain ⟨e,a₁,w₁,hq,Bj⟩:=round m a w hI b (.inLoop c::k) cs;cases e with
    | normal =>
      obtain ⟨m',eX,hI₁⟩:=hq;obtain ⟨e₂,a₂,w₂,hq₂,Bj₂⟩:=ih m' eX a₁ w₁ hI₁;exact ⟨e₂,a₂,w₂,hq₂,.of_steps (Steps.trans Bj (.one step_inLoop)) Bj₂⟩
    | exit id=>exact ⟨_,a₁,w₁,hq,.pass (x := .inLoop c) rfl (fun _ _ => .inl (by simp)) Bj⟩
    | goto l=>exact ⟨_,a₁,w₁,hq,.pass (x := .inLoop c) rfl (fun _ _ => .inl (by simp)) Bj⟩
    | ret=>exact ⟨_,a₁,w₁,hq,.pass (x := .inLoop c) rfl (fun _ _ => .inl (by simp)) Bj⟩
    | panic ch=>exact ⟨_,a₁,w₁,hq,.pass (x := .inLoop c) rfl (fun _ _ => .inl (by simp)) Bj⟩
    | outgrown=>exact ⟨_,a₁,w₁,hq,.pass (x := .inLoop c) rfl (fun _ _ => .inl (by simp)) Bj⟩
 obtain ⟨e,a',w',hq,Bj⟩:=key m a w h0;exact ⟨e,a',w',hq,.of_steps (.one step_loop) Bj⟩
section
variable {P:Program} {n:Nat} {Q:Exit->Act->World->Prop} {L:Env} {w:World} {σ:Type}
def Ir (n:Nat) (E : σ -> Env) (I : σ -> World->Prop) (μ : σ -> Nat) (m:Nat) (Q:Exit->Act->World->Prop) : Exit->Act->World->Prop:=Exit.then (fun a w => ∃ m',m'<m ∧ ∃ s,μ s=m'∧Fit n a (E s)∧I s w) Q
theorem ae.again {E : σ -> Env} {I : σ -> World->Prop} {μ : σ -> Nat} (s : σ) (hs:iw L (E s)) (hm : μ s<m) (h:I s w) : ae n (Ir n E I μ m Q) .normal L w :=
 ⟨fun _ ha=>⟨_,hm,s,rfl,ha.sub hs,h⟩⟩
theorem ae.sW {E : σ -> Env} {I : σ -> World->Prop} {μ : σ -> Nat} (h:ae n Q .ret L w) : ae n (Ir n E I μ m Q) .ret L w:=⟨fun a ha=>h.out a ha⟩
theorem ae.qD {E : σ -> Env} {I : σ -> World->Prop} {μ : σ -> Nat} {id:Nat} (h:ae n Q (.exit id) L w) : ae n (Ir n E I μ m Q) (.exit id) L w:=⟨fun a ha=>h.out a ha⟩
theorem CW.loop {c:Code} (E : σ -> Env) (I : σ -> World->Prop) (μ : σ -> Nat) (s0 : σ) (hs:iw L (E s0)) (h0:I s0 w) (round:∀ s w,I s w->CW P n c (Ir n E I μ (μ s) Q) (E s) w) : CW P n (.loop c) Q L w :=
 ⟨fun a ha=>Eg (fun m a w => ∃ s,μ s=m∧Fit n a (E s)∧I s w)
  (fun m a w ⟨s,hm,hf,hI⟩=>by subst hm;exact (round s w hI).out a hf) (μ s0) a w ⟨s0,rfl,ha.sub hs,h0⟩⟩
end
section
variable {P:Program} {n:Nat} {ops:Array Oper} {Q:Exit->Act->World->Prop} {rest:List Oper} {L:Env} {w:World}
structure bF (P:Program) (f:FuncId) (args:List Value) (w:World) (R:Value->World->Prop) : Prop where
 out:Calls P f args.toArray w fun e w' => ∃ v,e = .returned v∧Ext w w'∧R v w'
theorem bF.mono {f:FuncId} {R:Value->World->Prop} (h:bF P f args w R) (hr:∀ v w',Ext w w'->R v w'->R' v w') : bF P f args w R' :=
 ⟨Calls.mono h.out fun _ _ ⟨v,he,hx,hv⟩=>⟨v,he,hx,hr _ _ hx hv⟩⟩
def uT (L:Env) : List Operand->Option (List Value)
 | []=>some []
 | x::r=>match cT L x,uT L r with
   | some v,some vs=>some (v::vs)
   | _,_=>none
theorem Fit.uU {a:Act} (h:Fit n a L) : ∀ {xs:List Operand} {vs:List Value},uT L xs=some vs->xs.map a.eval=vs
 | [],vs,e=>by simp [uT] at e;subst e;rfl
 | x::r,vs,e=>by
   simp only [uT] at e;cases hx:cT L x with
   | none=>simp [hx] at e
   | some v =>
     cases hr:uT L r with
     | none=>simp [hx,hr] at e
     | some us =>
       simp [hx,hr] at e;subst e;simp [h.eval hx,h.uU hr]
class Body (P:Program) (f:FuncId) : Prop where
 out:∀ args w,(callFunc f args).run P w = .ok (.enter f args) w
theorem ay {f : FuncId} (hf : P.funcs[f]? = some fn) (hn : (fn.name == "runtime.NumGoroutine") = false := by kernel_rfl) (hb : fn.body.isNone = false := by kernel_rfl) : Body P f :=
 ⟨fun args w=>by
  simp only [callFunc,Sem.run_bind,Go.program,Sem.run,Result.andThen,hf,hn,hb,Bool.false_eq_true,if_false]
  rfl⟩
theorem yZ {a:Act} {d:Option Nat} {f:FuncId} {xs:List Operand} {pos:String}
 [hb:Body P f] : (execOp a.eval ⟨d,.call ⟨.value (.func f),xs.toArray,ts⟩,T,pos,af,g⟩).run P w' = .ok (.enter f (xs.map a.eval).toArray) w':=by
 simp only [execOp,resolve,Deferred.ofValue,Act.eval,Sem.run_bind,pure,Sem.run,Result.andThen,invoke,List.map_toArray];have:=hb.out (xs.map a.eval).toArray w'
 simpa using this
theorem SW.call {f:FuncId} {xs:List Operand} {vs:List Value} {pos:String} {R:Value->World->Prop}
 [Body P f] (hx:uT L xs=some vs) (hn:Nat.blt d n=true) (hc:bF P f vs w R) (h:∀ v w',Ext w w'->R v w'->SW P n ops (.gM Q) rest ((d,v)::L) w') :
 SW P n ops (.gM Q) (⟨some d,.call ⟨.value (.func f),xs.toArray,ts⟩,T,pos,af,none⟩::rest) L w :=
 ⟨fun a ha=>by
  simp only [swp,wpList,Region.wanted,if_true];refine .inl ?_;unfold Oper.wp;rw [yZ,Oper.upon_enter,ha.uU hx];refine Calls.mono hc.out ?_;rintro e w' ⟨v,rfl,pN,hv⟩
  exact (h v w' pN hv).out _ (ha.put hn v)⟩
theorem SW.dK {K:Env->Prop} {f:FuncId} {xs:List Operand} {vs:List Value} {pos:String} {v:Value}
 [Body P f] (hx:uT L xs=some vs) (hn:Nat.blt d n=true) (hc:∀ w',Ext w w'->bF P f vs w' fun u _=>u=v) (h:SW P n ops (.Od K) rest ((d,v)::L) w) :
 SW P n ops (.Od K) (⟨some d,.call ⟨.value (.func f),xs.toArray,ts⟩,T,pos,af,none⟩::rest) L w :=
 ⟨fun a ha=>by
  simp only [swp,wpQuiet,Region.wanted,if_true];refine ⟨v,fun w' ni => ?_,h.out _ (ha.put hn v)⟩;unfold Oper.quietAt;rw [yZ,ha.uU hx];refine ⟨rfl,Calls.mono (hc w' ni).out ?_⟩;rintro e Lw ⟨u,rfl,pN,rfl⟩
  exact ⟨rfl,ni.trans pN⟩⟩
end
section
variable {P:Program} {fn:Func} {R:Ending->World->Prop} {n:Nat} {L:Env} {w:World}
def sX:Nat->List Value->Env
 | _,[]=>[]
 | i,v::r=>(i,v)::sX (i+1) r
theorem r6:∀ (vs:List Value) (k i:Nat) (v:Value),get (sX k vs) i=some v->k<=i∧vs[i-k]?=some v
 | [],_,_,_,h=>by simp [sX,get] at h
 | u::r,k,i,v,h=>by
   simp only [sX,get,cond_eq_ite] at h;by_cases e:Nat.beq k i=true
   ·rw [if_pos e] at h;obtain rfl:=adF e;simpa using h
   ·rw [if_neg e] at h;obtain ⟨h1,h2⟩:=r6 r (k+1) i v h;refine ⟨by omega,?_⟩;have:i-k=(i-(k+1))+1:=by omega
    rw [this];simpa using h2
theorem aC {f:FuncId} {c:Code} {R:Value->World->Prop} (hf:P.funcs[f]?=some fn) (hb:fn.body=some c) (hn:fn.ntmps=n) (hl:Nat.ble args.length n=true)
 (h:CW P n c (bodyPost P fn fun e w' => ∃ v,e = .returned v∧Ext w w'∧R v w') (sX 0 args) w) : bF P f args w R:=by
 have Bb:args.length<=n:=by simpa using hl
 refine ⟨calls_of_wp hf hb (h.out _ ⟨?_,rfl,?_⟩)⟩
 ·simp [hn];omega
 ·intro i v hi;obtain ⟨_,h2⟩:=r6 args 0 i v hi;simp only [Nat.sub_zero] at h2
  have eX:i<args.length:=by
   rcases adL i args.length with h|h
   ·exact h
   ·rw [adY h] at h2;cases h2
  rw [aeo,ae5 (by simpa using eX)];simp [h2]
theorem ae.bg {t:Nat} {v:Value} (hr:fn.results = #[.tmp t]) (hv:get L t=some v) (h:R (.returned v) w) : ae n (bodyPost P fn R) .ret L w :=
 ⟨fun a ha=>⟨ha.defers,v,by rw [results_tmp hr,ha.has _ _ hv],h⟩⟩
theorem ae.dm {t u:Nat} {v x:Value} (hr:fn.results = #[.tmp t,.tmp u]) (hv:get L t=some v) (hx:get L u=some x) (h:R (.returned (.tuple #[v,x])) w) : ae n (bodyPost P fn R) .ret L w :=
 ⟨fun a ha=>⟨ha.defers,_,by rw [results_tmp2 hr,ha.has _ _ hv,ha.has _ _ hx],h⟩⟩
end
class bz (P:Program) (t:TypeId) (e:outParam TypeId) (sz:outParam Nat) : Prop where
 oz:P.underlying t=some (.slice e):=by kernel_rfl
 size:(P.info? e).map (·.size)=some sz:=by kernel_rfl
class gV (P:Program) (t:TypeId) : Prop where
 one:((P.underlying t).map fun | .struct _=>false | .array _ _=>false|_=>true)=some true:=by kernel_rfl
 size:(P.info? t).map (·.size)=some 1:=by kernel_rfl
class y4 (P:Program) (t:TypeId) (len:outParam Nat) (e:outParam TypeId) (sz:outParam Nat) : Prop where
 oz:P.underlying t=some (.array len e):=by kernel_rfl
 size:(P.info? e).map (·.size)=some sz:=by kernel_rfl
class dr (P:Program) (e:TypeId) (z:outParam Value) (sz bytes:outParam Nat) : Prop where
 Vl:(P.info? e).map (fun i=>(i.zero,i.size,i.bytes))=some (some z,sz,bytes):=by kernel_rfl
 zc:z.cells.size=sz:=by kernel_rfl
 pos : 0<sz:=by decide
class fE (P:Program) (t:TypeId) (n:outParam Nat) : Prop where
 agg:((P.underlying t).map fun | .struct _=>true | .array _ _=>true|_=>false)=some true:=by kernel_rfl
 size:(P.info? t).map (·.size)=some n:=by kernel_rfl
class bo (P:Program) (t:TypeId) (i:Nat) (off:outParam Nat) (ft:outParam TypeId) : Prop where
 jR:((P.underlying t).bind fun | .struct fs=>(fs[i]?).map (fun f=>(f.offset,f.type))|_=>none)=some (off,ft):=by kernel_rfl
 size:((P.info? ft).map (·.size)).map (· == 0)=some false:=by kernel_rfl
theorem run_sizeOf {n:Nat} (h:(P.info? t).map (·.size)=some n) (w:World) : (sizeOf t).run P w = .ok n w:=by
 cases hi:P.info? t with
 | none=>simp [hi] at h
 | some i=>simp [hi] at h;simp [sizeOf,typeInfo,hi,h]
theorem tN [c:gV P t] (w:World) : (isAgg t).run P w = .ok false w:=by
 have h:=c.one;cases hu:P.underlying t with
 | none=>simp [hu] at h
 | some d =>
   simp only [isAgg,Sem.run_bind,run_underlying hu,Result.andThen];simp [hu] at h;cases d<;>simp_all
theorem tO {n:Nat} [c:fE P t n] (w:World) : (isAgg t).run P w = .ok true w:=by
 have h:=c.agg;cases hu:P.underlying t with
 | none=>simp [hu] at h
 | some d =>
   simp only [isAgg,Sem.run_bind,run_underlying hu,Result.andThen];simp [hu] at h;cases d<;>simp_all
section
variable {P:Program} {L:Env} {w:World} {d:Option Nat} {T:TypeId} {pos:String} {af:Array Edge} {g:Option (Nat×Bool)}
section
variable {t ty:TypeId} {x y:Operand} {k:IntKind} {i j:Int}
theorem Og (hx:cT L x=some (.int k i)) (hy:cT L y=some (.int k j)) : St P ⟨d,.binOp .add t x y ty,T,pos,af,g⟩ L w (.int k (k.wrap (i+j))) :=
 ⟨fun n a ha w' _=>by have e1:=ha.eval hx;have e2:=ha.eval hy;generalize a.eval = ρ at *;simp [go_sem,e1,e2]⟩
theorem yn (hx:cT L x=some (.int k i)) (hy:cT L y=some (.int k j)) : St P ⟨d,.binOp .sub t x y ty,T,pos,af,g⟩ L w (.int k (k.wrap (i-j))) :=
 ⟨fun n a ha w' _=>by have e1:=ha.eval hx;have e2:=ha.eval hy;generalize a.eval = ρ at *;simp [go_sem,e1,e2]⟩
theorem Oh (hx:cT L x=some (.int k i)) (hy:cT L y=some (.int k j)) : St P ⟨d,.binOp .mul t x y ty,T,pos,af,g⟩ L w (.int k (k.wrap (i*j))) :=
 ⟨fun n a ha w' _=>by have e1:=ha.eval hx;have e2:=ha.eval hy;generalize a.eval = ρ at *;simp [go_sem,e1,e2]⟩
theorem jl {z:Int} (h1 : -9223372036854775808<=z) (h2:z<=9223372036854775807) : IntKind.i64.wrap z=z:=IntWalk.i64_in _ ⟨h1,h2⟩
theorem St.eq {o:Oper} {v:Value} (h:St P o L w v) (e:v=v') : St P o L w v':=e ▸ h
theorem y5 (hx:cT L x=some (.int .i64 i)) (hy:cT L y=some (.int .i64 j)) (h1 : -9223372036854775808<=i+j) (h2:i+j<=9223372036854775807) : St P ⟨d,.binOp .add t x y ty,T,pos,af,g⟩ L w (.int .i64 (i+j)) :=
 (Og hx hy).eq (by rw [jl h1 h2])
theorem y6 (hx:cT L x=some (.int .i64 i)) (hy:cT L y=some (.int .i64 j)) (h1 : -9223372036854775808<=i-j) (h2:i-j<=9223372036854775807) : St P ⟨d,.binOp .sub t x y ty,T,pos,af,g⟩ L w (.int .i64 (i-j)) :=
 (yn hx hy).eq (by rw [jl h1 h2])
theorem pd (hx:cT L x=some (.int .i64 i)) (hy:cT L y=some (.int .i64 j)) (h1 : -9223372036854775808<=i*j) (h2:i*j<=9223372036854775807) : St P ⟨d,.binOp .mul t x y ty,T,pos,af,g⟩ L w (.int .i64 (i*j)) :=
 (Oh hx hy).eq (by rw [jl h1 h2])
theorem y7 (hx:cT L x=some (.int .i64 i)) (hy:cT L y=some (.int .i64 j)) (h0 : 0<=i) (h1 : 0<j) (h2:i<=9223372036854775807) : St P ⟨d,.binOp .quo t x y ty,T,pos,af,g⟩ L w (.int .i64 (i / j)) :=
 ⟨fun n a ha w' _=>by
  have hj : ¬ j=0:=by omega
  have e:i.tdiv j=i / j:=ae6 h0
  have hd:i / j<=i:=aeN _ h0
  have Sd : 0<=i / j:=afl h0 (by omega)
  have:=jl (z:=i / j) (by omega) (by omega)
  have e1:=ha.eval hx;have e2:=ha.eval hy;generalize a.eval = ρ at *;simp [go_sem,e1,e2,hj,e,this]⟩
theorem y8 (hx:cT L x=some (.int .i64 i)) (hy:cT L y=some (.int .i64 j)) (h1:j≠0) : St P ⟨d,.binOp .rem t x y ty,T,pos,af,g⟩ L w (.int .i64 (i.tmod j)) :=
 ⟨fun n a ha w' _=>by
  have e1:=ha.eval hx;have e2:=ha.eval hy;generalize a.eval = ρ at *;simp [go_sem,e1,e2,h1]⟩
end
theorem y9 [c:bz P t e sz] {x:Operand} {n cap:Nat} (hx:cT L x=some (.slice A n cap)) :
 St P ⟨d,.call ⟨.builtin .len,#[x],#[t]⟩,T,pos,af,g⟩ L w (.int .i64 n) :=
 ⟨fun _ a ha w' _=>by simp [execOp,resolve,invoke,builtin,ha.eval hx,Builtin.len_,run_underlying c.oz,goInt]⟩
theorem Lx [c:bz P t e sz] {x:Operand} {n cap:Nat} {i:Int} (hx:cT L x=some (.slice A n cap)) (hy:cT L y=some (.int .i64 i))
 (hA:A.isSome=true) (h0 : 0<=i) (h1:i<n) : St P ⟨d,.indexAddr t x y,T,pos,af,g⟩ L w (.pointer (some ((A.getD default).add (i.toNat*sz)))) :=
 ⟨fun _ a ha w' _=>by
  obtain ⟨ad,rfl⟩:=adH.1 hA;simp [execOp,ha.eval hx,ha.eval hy,Instr.indexAt,asIntOf,run_underlying c.oz,run_sizeOf c.size,h0,h1]⟩
theorem aA [c:bo P t i off ft] {x:Operand} (hx:cT L x=some (.pointer (some ad))) :
 St P ⟨d,.fieldAddr t x i,T,pos,af,g⟩ L w (.pointer (some (ad.add off))) :=
 ⟨fun _ a ha w' _=>by
  have h:=c.jR;cases hu:P.underlying t with
  | none=>simp [hu] at h
  | some D =>
    cases D<;>simp [hu] at h
    rename_i fs;obtain ⟨f,hf,h1,h2⟩:=h;subst h1 h2;have hs:=c.size;cases hi:P.info? f.type with
    | none=>simp [hi] at hs
    | some inf =>
      simp [hi] at hs;simp [execOp,ha.eval hx,Instr.fieldAt,run_underlying hu,hf,fieldPlace,Instr.sureAddr,sizeOf,typeInfo,hi,hs]⟩
theorem r7 [c:bz P t e sz] {x:Operand} {n cap q:Nat} (hx:cT L x=some (.slice A n cap)) (hy:cT L y=some (.slice none m q)) :
 St P ⟨d,.binOp .eql t x y ty,T,pos,af,g⟩ L w (.bool A.isNone) :=
 ⟨fun _ a ha w' _=>by
  have h:=Lib.run_eql_slice_nil (P:=P) w' t e A n cap m q c.oz;simp [execOp,ha.eval hx,ha.eval hy,eqGuard_at_slice,h]⟩
theorem aU [gV P t] {x:Operand} {v:Value} (hx:cT L x=some (.pointer (some ad))) (hc:w.cell? ad=some v) : St P ⟨d,.load t x,T,pos,af,g⟩ L w v :=
 ⟨fun _ a ha w' hw=>by simp [execOp,ha.eval hx,Instr.loadAt,Instr.sureAddr,loadVar,tN,load,Sem.run,hw.cell hc]⟩
theorem mG [gV P t] {x:Operand} {v:Value} (hw:Ext w0 w) (hx:cT L x=some (.pointer (some ad))) (hc:w0.cell? ad=some v) : St P ⟨d,.load t x,T,pos,af,g⟩ L w v:=aU hx (hw.cell hc)
theorem aX [c:fE P t m] {x:Operand} {vs:List Value} (hx:cT L x=some (.pointer (some ad))) (hm:vs.length=m) (hc:∀ j v,vs[j]?=some v->w.cell? (ad.add j)=some v) :
 St P ⟨d,.load t x,T,pos,af,g⟩ L w (.agg vs.toArray) :=
 ⟨fun _ a ha w' hw=>by
  subst hm;simp [execOp,ha.eval hx,Instr.loadAt,Instr.sureAddr,loadVar,tO,run_sizeOf c.size,run_loadCells_list (P:=P) w' ad vs (fun j v hv=>hw.cell (hc j v hv))]⟩
theorem vX [fE P t m] {x:Operand} {vs:List Value} (hw:Ext w0 w) (hx:cT L x=some (.pointer (some ad))) (hm:vs.length=m) (hc:∀ j v,vs[j]?=some v->w0.cell? (ad.add j)=some v) :
 St P ⟨d,.load t x,T,pos,af,g⟩ L w (.agg vs.toArray):=aX hx hm (fun j v hv=>hw.cell (hc j v hv))
end
def aS (w:World) (b:Nat) (t:TypeId) (cs:List Value) : Prop:=w.heap[b]?=some (.cells cs.toArray t (0,0))
theorem aS.lt (h:aS w b t cs) : b<w.heap.size:=by
 rcases adL b w.heap.size with eX|Ly
 ·exact eX
 ·unfold aS at h;rw [Array.getElem?_eq_none Ly] at h;cases h
theorem add_zero (a:Addr) : a.add 0=a:=by simp [Addr.add]
theorem add_add (a:Addr) (i j:Nat) : (a.add i).add j=a.add (i+j):=by
 unfold Addr.add;by_cases hi:i=0<;>by_cases hj:j=0<;>simp [hi,hj,Nat.add_assoc]
theorem aS.cell (h:aS w b t cs) {v:Value} (hv:cs[i]?=some v) : w.cell? ((⟨b,0,none⟩ : Addr).add i)=some v:=by
 have:((⟨b,0,none⟩ : Addr).add i)=⟨b,i,none⟩:=by unfold Addr.add;split<;>simp_all
 rw [this,cell_of_row w b i cs.toArray t (0,0) h];simpa using hv
theorem aS.ext (h:aS w b t cs) (hx:Ext w w') : aS w' b t cs:=(hx.block b h.lt).trans h
theorem aS.new (w:World) (t:TypeId) (cs:List Value) : aS (w.alloc (.cells cs.toArray t)) w.heap.size t cs:=heap_alloc_new w _
section
variable {P:Program} {n:Nat} {ops:Array Oper} {Q:Exit->Act->World->Prop} {rest:List Oper} {L:Env} {w:World}
theorem SW.box {x:Operand} {vs:List Value} {pos:String} (hx:cT L x=some (.agg vs.toArray)) (hn:Nat.blt d n=true)
 (h:∀ b w',Ext w w'->w.heap.size<=b->aS w' b t vs->SW P n ops (.gM Q) rest ((d,.pointer (some ⟨b,0,none⟩))::L) w') : SW P n ops (.gM Q) (⟨some d,.box t x,T,pos,af,none⟩::rest) L w :=
 ⟨fun a ha=>by
  simp only [swp,wpList,Region.wanted,if_true];refine .inl ?_;unfold Oper.wp
  have hr:(execOp a.eval ⟨some d,.box t x,T,pos,af,none⟩).run P w = .ok (.value (.pointer (some ⟨w.heap.size,0,none⟩))) (w.alloc (.cells vs.toArray t)):=by
   simp [execOp,ha.eval hx,Instr.box,newVar,newRow,newObj,Sem.run,Value.cells]
  rw [hr,Oper.upon_value];exact (h _ _ (Ext.alloc w _) (adg _) (aS.new w t vs)).out _ (ha.put hn _)⟩
end
section
variable {P:Program} {n:Nat} {Q:Exit->Act->World->Prop} {L:Env} {w:World}
theorem CW.bH {id:Nat} {l:List Oper} {Lf:Env} (hm:P.follows .mixedOrders=true) (hB:Region.lexB .any l.toArray=true) (h:SW P n l.toArray (.Od fun L'=>L'=Lf) l L w)
 (k:∀ w',Ext w w'->ae n Q .normal Lf w') : CW P n (.region id l.toArray true) Q L w :=
 CW.quiet hm hB h fun _ w' hx hk=>by subst hk;exact k w' hx
end
structure Sl {α:Type} (w:World) (sz:Nat) (enc : α -> List Value) (A:Option Addr) (n:Nat) (l:List α) : Prop where
 len:l.length=n
 base : 0<n->A.isSome=true
 cell:∀ (i:Nat) (h:i<l.length) (j:Nat) (u:Value),(enc l[i])[j]?=some u->w.cell? (((A.getD default).add (i*sz)).add j)=some u
def bw (z:Int) : List Value:=[.int .i64 z]
namespace Sl
variable {α:Type} {w w':World} {sz:Nat} {enc : α -> List Value} {A:Option Addr} {n:Nat} {l:List α}
theorem ext (h:Sl w sz enc A n l) (hx:Ext w w') : Sl w' sz enc A n l:=⟨h.len,h.base,fun i hi j u hu=>hx.cell (h.cell i hi j u hu)⟩
theorem fF (w:World) (sz:Nat) (enc : α -> List Value) (A:Option Addr) : Sl w sz enc A 0 ([] : List α):=⟨rfl,fun h=>absurd h (by omega),fun i hi=>absurd hi (by simp)⟩
theorem lt (h:Sl w sz enc A n l) (hi:i<n) : i<l.length:=by rw [h.len];exact hi
theorem one (h:Sl w sz enc A n l) (hi:i<n) {u:Value} (hu:enc (l[i]'(h.lt hi))=[u]) : w.cell? ((A.getD default).add (i*sz))=some u:=by
 have:=h.cell i (h.lt hi) 0 u (by rw [hu];rfl)
 rwa [add_zero] at this
theorem jR (h:Sl w sz enc A n l) (hi:i<n) {u:Value} (hu:(enc (l[i]'(h.lt hi)))[j]?=some u) : w.cell? (((A.getD default).add (i*sz)).add j)=some u:=h.cell i (h.lt hi) j u hu
theorem all (h:Sl w sz enc A n l) (hi:i<n) : ∀ j u,(enc (l[i]'(h.lt hi)))[j]?=some u->w.cell? (((A.getD default).add (i*sz)).add j)=some u:=h.cell i (h.lt hi)
end Sl
section
variable {P:Program} {L:Env} {w:World} {d:Option Nat} {T:TypeId} {pos:String} {af:Array Edge} {g:Option (Nat×Bool)}
theorem cd [bz P t e sz] {x:Operand} {n cap:Nat} (hx:cT L x=some (.slice A n cap)) (hy:cT L y=some (.int .i64 (k:Int)))
 (hA : 0<n->A.isSome=true) (h1:k<n) : St P ⟨d,.indexAddr t x y,T,pos,af,g⟩ L w (.pointer (some ((A.getD default).add (k*sz)))) :=
 (Lx hx hy (hA (by omega)) (by omega) (by omega)).eq (by simp)
theorem cf [bz P t e sz] {x:Operand} {n cap:Nat} {i:Int} (k:Nat) (hx:cT L x=some (.slice A n cap)) (hy:cT L y=some (.int .i64 i))
 (hA : 0<n->A.isSome=true) (hk:i=(k:Int)) (h1:k<n) : St P ⟨d,.indexAddr t x y,T,pos,af,g⟩ L w (.pointer (some ((A.getD default).add (k*sz)))) :=
 cd hx (by rw [hy,hk]) hA h1
end
variable {α:Type} {R:Ending->World->Prop} {bytes lo oA:Nat} {row:Option Nat} {t' tb:TypeId} {enc:α -> List Value}
class iy {α:Type} (enc : α -> List Value) (sz:outParam Nat) : Prop where
 len:∀ x,(enc x).length=sz
 one:∀ x,∀ u∈enc x,u.oneCell'=true
instance:iy bw 1:=⟨fun _=>rfl,fun _ u hu=>by simp [bw] at hu;subst hu;rfl⟩
def aJ (A:Option Addr) (c:Nat) : Option Nat:=if c=0 then none else A.map (·.block)
structure Own {α:Type} (w:World) (lo:Nat) (e:TypeId) (sz:Nat) (enc : α -> List Value) (A:Option Addr) (n c:Nat) (l:List α) : Prop where
 len:l.length=n
 row:(n=0∧c=0)∨(0<c ∧ ∃ g jV,A=some ⟨g,0,none⟩∧lo<=g∧w.heap[g]?=some (.cells jV e (0,0))∧n<=c∧c<=maxLen∧jV.size=c*sz∧jV.toList.take (n*sz)=l.flatMap enc)
theorem aW [E:iy enc sz] : ∀ (l:List α),(l.flatMap enc).length=l.length*sz
 | []=>by simp
 | x::r=>by simp [List.flatMap_cons,E.len,aW r,Nat.add_mul];omega
theorem iJ [E:iy enc sz] : ∀ (l:List α) (i:Nat) (h:i<l.length) (j:Nat) (u:Value),(enc l[i])[j]?=some u->(l.flatMap enc)[i*sz+j]?=some u
 | x::r,0,_,j,u,hu=>by
   have hj:j<(enc x).length:=by
    rcases adL j (enc x).length with h|h
    ·exact h
    ·simp [List.getElem?_eq_none h] at hu
   simp only [List.flatMap_cons,Nat.zero_mul,Nat.zero_add];rw [adQ hj];simpa using hu
 | x::r,i+1,h,j,u,hu=>by
   have ih:=iJ r i (by simpa using h) j u (by simpa using hu);simp only [List.flatMap_cons];rw [adX (by rw [E.len,ad0];omega),E.len];rw [<- ih];congr 1
   rw [ad0];omega
theorem du [E:iy enc sz] (oD : 0<sz) {n:Nat} {l:List α} (h:Sl w sz enc A n l) :
 ∀ j u,(l.flatMap enc)[j]?=some u->w.cell? ((A.getD default).add j)=some u:=by
 intro j u hu
 have hj:j<l.length*sz:=by
  rw [<- aW (enc:=enc)];rcases adL j (l.flatMap enc).length with h|h
  ·exact h
  ·simp [List.getElem?_eq_none h] at hu
 have hi:j / sz<l.length:=Nat.div_lt_of_lt_mul (by rw [aff];exact hj)
 have hm:j % sz<(enc l[j / sz]).length:=by rw [E.len];exact Nat.mod_lt _ oD
 have h1:=iJ (enc:=enc) l (j / sz) hi (j % sz) _ (adi hm);have e:j / sz*sz+j % sz=j:=by rw [aff];exact Nat.div_add_mod j sz
 rw [e,hu] at h1;have h2:=h.cell (j / sz) hi (j % sz) _ (adi hm);rw [add_add,e] at h2;rw [h2,h1]
namespace Own
variable {α:Type} {w w':World} {lo:Nat} {e:TypeId} {sz:Nat} {enc : α -> List Value} {A:Option Addr} {n c:Nat} {l:List α}
theorem fF (w:World) (lo:Nat) (e:TypeId) (sz:Nat) (enc : α -> List Value) (A:Option Addr) : Own w lo e sz enc A 0 0 ([] : List α):=⟨rfl,.inl ⟨rfl,rfl⟩⟩
theorem le (h:Own w lo e sz enc A n c l) : n<=c∧c<=maxLen:=by
 rcases h.row with ⟨rfl,rfl⟩|⟨_,g,jV,_,_,_,h1,h2,_⟩
 ·simp
 ·exact ⟨h1,h2⟩
theorem grown (h:Own w lo e sz enc A n c l) (hg:w.grownBy w' row) (bJ:aJ A c=none∨aJ A c≠row) : Own w' lo e sz enc A n c l:=by
 refine ⟨h.len,?_⟩;rcases h.row with h0|⟨hc,g,jV,rfl,h1,h2,h3,h4,h5,h6⟩
 ·exact .inl h0
 ·refine .inr ⟨hc,g,jV,rfl,h1,?_,h3,h4,h5,h6⟩;rw [hg.block g (ado.1 h2).1 (by simpa [aJ,Nat.pos_iff_ne_zero.1 hc] using bJ),h2]
theorem ext (h:Own w lo e sz enc A n c l) (hx:Ext w w') : Own w' lo e sz enc A n c l:=by
 refine ⟨h.len,?_⟩;rcases h.row with h0|⟨hc,g,jV,rfl,h1,h2,h3,h4,h5,h6⟩
 ·exact .inl h0
 ·refine .inr ⟨hc,g,jV,rfl,h1,?_,h3,h4,h5,h6⟩;rw [hx.block g (ado.1 h2).1,h2]
theorem owns (h:Own w lo e sz enc A n c l) (hc : 0<c) [iy enc sz] : w.ownsRow lo e sz (.slice A n c) n (l.flatMap enc):=by
 rcases h.row with ⟨_,rfl⟩|⟨_,g,jV,rfl,h1,h2,h3,h4,h5,h6⟩
 ·omega
 ·exact ⟨by rw [aW,h.len],.inr ⟨g,c,jV,rfl,h1,h2,h3,h4,h5,h6⟩⟩
theorem sY {v:Value} (h:w.ownsRow lo e sz v m (l.flatMap enc)) (hl:l.length=m) : ∃ A c,v = .slice A m c∧Own w lo e sz enc A m c l:=by
 rcases h.2 with ⟨rfl,rfl⟩|⟨g,cap,jV,rfl,h1,h2,h3,h4,h5,h6⟩
 ·exact ⟨none,0,rfl,hl,.inl ⟨rfl,rfl⟩⟩
 ·refine ⟨_,_,rfl,hl,?_⟩;by_cases hc:cap=0
  ·exact .inl ⟨by omega,hc⟩
  ·exact .inr ⟨by omega,g,jV,rfl,h1,h2,h3,h4,h5,h6⟩
theorem low (h:Own w lo e sz enc A n c l) (hl:oA<=lo) : Own w oA e sz enc A n c l:=by
 refine ⟨h.len,?_⟩;rcases h.row with h0|⟨hc,g,jV,rfl,h1,r⟩
 ·exact .inl h0
 ·exact .inr ⟨hc,g,jV,rfl,adf hl h1,r⟩
theorem sl (h:Own w lo e sz enc A n c l) [E:iy enc sz] : Sl w sz enc A n l:=by
 refine ⟨h.len,fun hn => ?_,fun i hi j u hu => ?_⟩
 ·rcases h.row with ⟨h0,_⟩|⟨_,g,jV,rfl,_⟩
  ·omega
  ·rfl
 ·rcases h.row with ⟨h0,_⟩|⟨_,g,jV,rfl,h1,h2,h3,h4,h5,h6⟩
  ·have:=h.len;omega
  ·have hf:=iJ (enc:=enc) l i hi j u hu;rw [<- h6,List.getElem?_take] at hf;split at hf
   ·rw [add_add]
    have e:((some (⟨g,0,none⟩ : Addr)).getD default).add (i*sz+j)=⟨g,i*sz+j,none⟩:=by
     show (⟨g,0,none⟩ : Addr).add _=_
     unfold Addr.add;split<;>simp_all
    rw [e,cell_of_row w g _ jV _ (0,0) h2];simpa using hf
   ·cases hf
end Own
theorem aD {base:World} (h:Ext base w) (hg:w.grownBy w' row) (dD:base.heap.size<=lo) (hr:∀ k,row=some k->lo<=k) : Ext base w' :=
 Below.grown h hg h.size (fun k e=>adf dD (hr k e))
theorem Own.a9 {n c:Nat} {l:List α} (h:Own w lo e sz enc A n c l) : ∀ k,aJ A c=some k->lo<=k:=by
 intro k hk;rcases h.row with ⟨_,rfl⟩|⟨hc,g,jV,rfl,h1,_⟩
 ·simp [aJ] at hk
 ·simp [aJ,Nat.pos_iff_ne_zero.1 hc] at hk;omega
section
variable {α:Type} {P:Program} {w:World} {lo:Nat} {t e:TypeId} {z:Value} {sz bytes:Nat} {enc : α -> List Value} {A X:Option Addr} {n c m d:Nat} {l ys:List α}
theorem eB (P:Program) (e:TypeId) {z:Value} [E:dr P e z sz bytes] : ∃ i,P.info? e=some i∧i.zero=some z∧i.size=sz∧i.bytes=bytes:=by
 have h:=E.Vl;cases hi:P.info? e with
 | none=>simp [hi] at h
 | some i=>simp [hi] at h;exact ⟨i,rfl,h.1,h.2.1,h.2.2⟩
theorem r8 [S:bz P t e sz] [T:dr P e z sz bytes] [E:iy enc sz] (ty:TypeId) (hO:Own w lo e sz enc A n c l) (hS:Sl w sz enc X m ys) (dD:lo<=w.heap.size)
 (hb:(n+m)*bytes<=140737488355328) (hm:n+m<=maxLen) :
 ∃ A' c' w',(Builtin.append_ #[t,t] ty #[.slice A n c,.slice X m d]).run P w = .ok (.slice A' (n+m) c') w'∧Own w' lo e sz enc A' (n+m) c' (l++ys)∧w.grownBy w' (aJ A c):=by
 obtain ⟨i,hi,hz,hs,yo⟩:=eB P e (z:=z) (sz:=sz) (bytes:=bytes);have Lj:(ys.flatMap enc).length=m*sz:=by rw [aW,hS.len]
 have pe:∀ u∈ys.flatMap enc,u.oneCell'=true:=fun u hu=>by
  obtain ⟨x,_,hx⟩:=adx.1 hu;exact E.one x u hx
 have QC:(l++ys).flatMap enc=l.flatMap enc++ys.flatMap enc:=adt
 have mH:(l++ys).length=n+m:=by rw [adp,hO.len,hS.len]
 by_cases Eh:m=0
 ·subst Eh;have hy:ys=[]:=adw hS.len
  subst hy;have Zu:=hO.le.1;refine ⟨A,c,w,?_,by simpa using hO,World.grownBy.refl _ _⟩;cases A<;>cases X<;>simp [Builtin.append_,run_underlying S.oz,sizeOf,typeInfo,hi,Builtin.lenOf,Zu,Builtin.firstCells,loadCells,loadCellsFrom,storeCells]
 ·obtain ⟨ad,rfl⟩:=adH.1 (hS.base (by omega));have uV:=du T.pos hS;by_cases hc:c=0
  ·have hn:n=0:=by have:=hO.le.1;omega
   subst hc hn;have hl:l=[]:=adw hO.len
   subst hl
   have PG:∀ v' w',w'.ownsRow lo e sz v' (0+m) (([] : List Value)++ys.flatMap enc) -> ∃ A' c',v' = .slice A' (0+m) c'∧Own w' lo e sz enc A' (0+m) c' ([]++ys):=fun v' w' h' =>
    Own.sY (l:=[]++ys) (enc:=enc) (by simpa using h') (by simpa using hS.len)
   cases A with
   | none =>
     obtain ⟨v',w',hr,h2,h3,_⟩:=run_append_own (P:=P) w lo t ty e i z sz bytes S.oz hi hz hs yo T.zc T.pos (.slice none 0 0) 0 [] (World.ownsRow_nil _ _ _ _) ad m d (ys.flatMap enc) Lj uV pe hm hb dD;obtain ⟨A',c',rfl,ho⟩:=PG _ _ h2;exact ⟨A',c',w',hr,ho,by simpa [aJ,Value.ownBlock] using h3⟩
   | some b =>
     obtain ⟨v',w',hr,h2,h3⟩:=run_append_arg_grows (P:=P) w t ty e i z sz bytes S.oz hi hz hs yo T.zc T.pos b 0 0 [] (by simp) (by simp) ad m d (ys.flatMap enc) Lj uV (by omega) hm hb
     have ns:w'.ownsRow lo e sz v' (0+m) (([] : List Value)++ys.flatMap enc):=⟨h2.1,by
      rcases h2.2 with h|⟨g,cap,jV,e1,e2,r⟩
      ·exact .inl h
      ·exact .inr ⟨g,cap,jV,e1,adf dD e2,r⟩⟩
     obtain ⟨A',c',rfl,ho⟩:=PG _ _ ns;exact ⟨A',c',w',hr,ho,by simpa [aJ] using h3⟩
  ·obtain ⟨v',w',hr,h2,h3,_⟩:=run_append_own (P:=P) w lo t ty e i z sz bytes S.oz hi hz hs yo T.zc T.pos (.slice A n c) n (l.flatMap enc) (hO.owns (by omega)) ad m d (ys.flatMap enc) Lj uV pe hm hb dD;rw [<- QC] at h2;obtain ⟨A',c',rfl,ho⟩:=Own.sY h2 mH;refine ⟨A',c',w',hr,ho,?_⟩;have:(Value.slice A n c).ownBlock=aJ A c:=by cases A<;>simp [Value.ownBlock,aJ,hc]
   rwa [this] at h3
end
section
variable {α:Type} {P:Program} {n:Nat} {ops:Array Oper} {Q:Exit->Act->World->Prop} {rest:List Oper} {L:Env} {w:World} {d:Nat} {T:TypeId} {pos:String} {af:Array Edge}
theorem SW.append {lo:Nat} {t e:TypeId} {z:Value} {sz bytes:Nat} {enc : α -> List Value} {A X:Option Addr} {k c m c2:Nat} {l ys:List α} [bz P t e sz] [dr P e z sz bytes] [iy enc sz] {x y:Operand}
 (hO:Own w lo e sz enc A k c l) (hS:Sl w sz enc X m ys) (dD:lo<=w.heap.size) (hx:cT L x=some (.slice A k c)) (hy:cT L y=some (.slice X m c2)) (hn:Nat.blt d n=true)
 (hb:(k+m)*bytes<=140737488355328) (hm:k+m<=9223372036854775807)
 (h:∀ A' c' w',Own w' lo e sz enc A' (k+m) c' (l++ys)->w.grownBy w' (aJ A c)->SW P n ops (.gM Q) rest ((d,.slice A' (k+m) c')::L) w') :
 SW P n ops (.gM Q) (⟨some d,.call ⟨.builtin .append,#[x,y],#[t,t]⟩,T,pos,af,none⟩::rest) L w :=
 ⟨fun a ha=>by
  obtain ⟨A',c',w',hr,h1,h2⟩:=r8 (P:=P) (t:=t) T hO hS (d:=c2) dD hb (by simp only [maxLen];omega);simp only [swp,wpList,Region.wanted,if_true];refine .inl ?_;unfold Oper.wp
  have:(execOp a.eval ⟨some d,.call ⟨.builtin .append,#[x,y],#[t,t]⟩,T,pos,af,none⟩).run P w = .ok (.value (.slice A' (k+m) c')) w':=by
   simp [execOp,resolve,invoke,builtin,ha.eval hx,ha.eval hy,hr]
  rw [this,Oper.upon_value];exact (h A' c' w' h1 h2).out _ (ha.put hn _)⟩
theorem SW.uW {lo:Nat} {t e:TypeId} {z:Value} {sz bytes:Nat} {enc : α -> List Value} {A X:Option Addr} {k c m c2:Nat} {l ys l':List α} {r:Nat} [bz P t e sz] [dr P e z sz bytes] [iy enc sz] {x y:Operand}
 (hr:k+m=r) (Bb:l++ys=l') (hO:Own w lo e sz enc A k c l) (hS:Sl w sz enc X m ys) (dD:lo<=w.heap.size) (hx:cT L x=some (.slice A k c)) (hy:cT L y=some (.slice X m c2)) (hn:Nat.blt d n=true)
 (hb:(k+m)*bytes<=140737488355328) (hm:k+m<=9223372036854775807)
 (h:∀ A' c' w',Own w' lo e sz enc A' r c' l'->w.grownBy w' (aJ A c)->SW P n ops (.gM Q) rest ((d,.slice A' r c')::L) w') :
 SW P n ops (.gM Q) (⟨some d,.call ⟨.builtin .append,#[x,y],#[t,t]⟩,T,pos,af,none⟩::rest) L w:=by
 subst hr Bb;exact SW.append hO hS dD hx hy hn hb hm h
theorem SW.za {z:Value} [S:bz P t e sz] [E:dr P e z sz bytes] (hn:Nat.blt d n=true)
 (h:∀ b w',Ext w w'->w.heap.size<=b->SW P n ops (.gM Q) rest ((d,.slice (some ⟨b,0,none⟩) 0 0)::L) w') : SW P n ops (.gM Q) (⟨some d,.buildSlice t 0 #[],T,pos,af,none⟩::rest) L w :=
 ⟨fun a ha=>by
  obtain ⟨i,hi,hz,nt,yo⟩:=eB P e (z:=z) (sz:=sz) (bytes:=bytes);simp only [swp,wpList,Region.wanted,if_true];refine .inl ?_;unfold Oper.wp
  have:(execOp a.eval ⟨some d,.buildSlice t 0 #[],T,pos,af,none⟩).run P w = .ok (.value (.slice (some ⟨w.heap.size,0,none⟩) 0 0)) (w.alloc (.cells #[] e)):=by
   simp [execOp,Instr.buildSlice,run_underlying S.oz,sizeOf,typeInfo,hi,Instr.fill,newRow,Array.range_zero']
  rw [this,Oper.upon_value];exact (h _ _ (Ext.alloc w _) (adg _)).out _ (ha.put hn _)⟩
theorem r9:∀ (vs:List Value) (k:Nat) (cs:Array Value),k+vs.length<=cs.size ->
 ((vs.zipIdx k).foldl (fun (cs:Array Value) (p:Value×Nat)=>cs.setIfInBounds p.2 p.1) cs).toList=cs.toList.take k++vs++cs.toList.drop (k+vs.length)
 | [],k,cs,_=>by simp
 | v::r,k,cs,h=>by
   simp only [List.zipIdx_cons,List.foldl_cons,List.length_cons] at h ⊢;rw [r9 r (k+1) _ (by simp;omega)];have hk:k<cs.toList.length:=by simp;omega
   simp only [Array.toList_setIfInBounds];rw [List.take_set,List.drop_set_of_lt (by omega)]
   have:(cs.toList.take (k+1)).set k v=cs.toList.take k++[v]:=by
    have ht:(cs.toList.take k).length=k:=by simp only [List.length_take];omega
    rw [adk hk,aec _ _ (by omega),ht];simp
   rw [this];simp [Nat.add_assoc,Nat.add_comm 1]
theorem SW.dI {z v:Value} {vs:List Value} [S:bz P t e sz] [E:dr P e z sz bytes] {x:Operand} (hx:cT L x=some v) (hv:v.cells=vs.toArray) (hl:Nat.beq vs.length sz=true) (hs:Nat.ble sz 1000=true)
 (hn:Nat.blt d n=true) (h:∀ b w',Ext w w'->w.heap.size<=b->aS w' b e vs->SW P n ops (.gM Q) rest ((d,.slice (some ⟨b,0,none⟩) 1 1)::L) w') :
 SW P n ops (.gM Q) (⟨some d,.buildSlice t 1 #[(0,x)],T,pos,af,none⟩::rest) L w :=
 ⟨fun a ha=>by
  obtain ⟨i,hi,hz,nt,yo⟩:=eB P e (z:=z) (sz:=sz) (bytes:=bytes);have hp:=E.pos;have hle:sz<=1000:=by simpa using hs
  have hlen:vs.length=sz:=adF hl
  have kq : ¬ (16777216<1*sz):=by omega
  have bJ:sz≠0:=by omega
  simp only [swp,wpList,Region.wanted,if_true];refine .inl ?_;unfold Oper.wp
  have:(execOp a.eval ⟨some d,.buildSlice t 1 #[(0,x)],T,pos,af,none⟩).run P w = .ok (.value (.slice (some ⟨w.heap.size,0,none⟩) 1 1)) (w.alloc (.cells vs.toArray e)):=by
   have Lz:∀ cs:Array Value,cs.size=sz->vs.zipIdx.foldl (fun (cs:Array Value) (p:Value×Nat)=>cs.setIfInBounds p.2 p.1) cs=vs.toArray:=fun cs lT=>by
    have h1:=r9 vs 0 cs (by omega);have h2:vs.length=cs.toList.length:=by simp;omega
    apply Array.ext';rw [h1,aeD,h2];simp
   have Vm : ¬ (16777216<i.size):=by omega
   have LA : ¬ i.size=0:=by omega
   simp [execOp,ha.eval hx,Instr.buildSlice,run_underlying S.oz,sizeOf,typeInfo,hi,zeroValue,hz,Instr.fill,hv,newRow,Vm,LA];rw [if_neg (by omega),Lz _ (by simp [nt])]
   rfl
  rw [this,Oper.upon_value];exact (h _ _ (Ext.alloc w _) (adg _) (aS.new w e vs)).out _ (ha.put hn _)⟩
end
section
variable {P:Program} {L:Env} {w:World} {d:Option Nat} {T:TypeId} {pos:String} {af:Array Edge} {g:Option (Nat×Bool)}
theorem fG {x:Operand} {i j r:Int} (hx:cT L x=some (.int .i64 i)) (hy:cT L y=some (.int .i64 j)) (h0 : 0<=j) (h1:j<=64) (hr:i*2 ^ j.toNat=r) (h2 : -9223372036854775808<=r) (h3:r<=9223372036854775807) :
 St P ⟨d,.binOp .shl t x y ty,T,pos,af,g⟩ L w (.int .i64 r) :=
 ⟨fun n a ha w' _=>by
  have e1:=ha.eval hx;have e2:=ha.eval hy;generalize a.eval = ρ at *
  simp [go_sem,e1,e2];rw [hr,jl h2 h3]⟩
end
theorem ae.C5 {n:Nat} {L:Env} {t u q:Nat} {v x y:Value} (hr:fn.results = #[.tmp t,.tmp u,.tmp q]) (hv:get L t=some v) (hx:get L u=some x) (hy:get L q=some y) (h:R (.returned (.tuple #[v,x,y])) w) : ae n (bodyPost P fn R) .ret L w :=
 ⟨fun a ha=>⟨ha.defers,_,by rw [results_tmp3 hr,ha.has _ _ hv,ha.has _ _ hx,ha.has _ _ hy],h⟩⟩
theorem aS.ue [E:iy enc sz] {x : α} (h:aS w b e (enc x)) : Sl w sz enc (some ⟨b,0,none⟩) 1 [x]:=by
 refine ⟨rfl,fun _=>rfl,fun i hi j u hu => ?_⟩;have:i=0:=by simp at hi;omega
 subst this;simp only [Nat.zero_mul,add_zero];exact h.cell (by simpa using hu)
theorem dc (g k:Nat) : (⟨g,0,none⟩ : Addr).add k=⟨g,k,none⟩:=by unfold Addr.add;split<;>simp_all
theorem xj [E:iy enc sz] : ∀ (l:List α) (k:Nat) (hk:k<l.length) (j:Nat) (v:Value) (x' : α),j<sz->enc x'=(enc l[k]).set j v ->
 (l.set k x').flatMap enc=(l.flatMap enc).set (k*sz+j) v
 | x::r,0,_,j,v,x',hj,h=>by
   simp only [List.set_cons_zero,List.flatMap_cons,Nat.zero_mul,Nat.zero_add];rw [h,List.set_append_left _ _ (by rw [E.len];exact hj)]
   rfl
 | x::r,k+1,hk,j,v,x',hj,h=>by
   simp only [List.set_cons_succ,List.flatMap_cons];rw [xj r k (by simpa using hk) j v x' hj (by simpa using h),aec _ _ (by rw [E.len,ad0];omega)];congr 2
   rw [E.len,ad0];omega
section
variable {α:Type} {P:Program} {n:Nat} {ops:Array Oper} {Q:Exit->Act->World->Prop} {rest:List Oper} {L:Env} {w:World} {T:TypeId} {pos:String} {af:Array Edge}
theorem Gr [c:gV P t] {v u:Value} (h1:v.oneCell'=true) (hc:w.cell? ad=some u) (hf:w.frozen? ad=false) : (Instr.storeAt t (.pointer (some ad)) v).run P w = .ok () (w.setCell ad v):=by
 have lT:v.cells = #[v]:=by cases v<;>first|rfl|simp [Value.oneCell'] at h1
 simp [Instr.storeAt,Instr.sureAddr,storeVar,lT,run_sizeOf c.size,storeCells,run_store P w ad v .plain h1,hc,hf,add_zero]
theorem SW.store [gV P t] {x:Operand} {v u:Value} (hx:cT L x=some (.pointer (some ad))) (hy:cT L y=some v) (h1:v.oneCell'=true) (hc:w.cell? ad=some u) (hf:w.frozen? ad=false)
 (h:SW P n ops (.gM Q) rest L (w.setCell ad v)) : SW P n ops (.gM Q) (⟨none,.store t x y,T,pos,af,none⟩::rest) L w :=
 ⟨fun a ha=>by
  simp only [swp,wpList,Region.wanted,if_true];refine .inl ?_;unfold Oper.wp
  have:(execOp a.eval ⟨none,.store t x y,T,pos,af,none⟩).run P w = .ok .skip (w.setCell ad v):=by
   simp [execOp,ha.eval hx,ha.eval hy,Gr h1 hc hf]
  rw [this,Oper.upon_skip];exact h.out _ ha⟩
theorem Own.setAt {lo:Nat} {e:TypeId} {sz:Nat} {enc : α -> List Value} [E:iy enc sz] {A:Option Addr} {m c:Nat} {l:List α} (hO:Own w lo e sz enc A m c l) {k:Nat} (hk:k<m) {j:Nat} (hj:j<sz) {v:Value} {x' : α}
 (pN:enc x'=(enc (l[k]'(by rw [hO.len];exact hk))).set j v) {ad:Addr} (ha:ad=((A.getD default).add (k*sz)).add j) :
 (∃ u,w.cell? ad=some u)∧w.frozen? ad=false∧Own (w.setCell ad v) lo e sz enc A m c (l.set k x')∧w.grownBy (w.setCell ad v) (aJ A c):=by
 subst ha;have hc : 0<c:=by have:=hO.le;omega
 have gm:=hO.owns hc;rcases hO.row with ⟨h0,_⟩|⟨_,g,jV,rfl,PH,dE,qE,xO,Ei,uf⟩
 ·omega
 ·have eX:k*sz+j<m*sz:=by
   have:(k+1)*sz<=m*sz:=adD _ hk
   rw [ad0] at this;omega
  have e0:((((some (⟨g,0,none⟩ : Addr)).getD default).add (k*sz)).add j)=⟨g,k*sz+j,none⟩:=by rw [add_add];exact dc g _
  rw [e0];have h1:=gm.cellAt (k*sz+j) eX;have Bc:=gm.stored (k*sz+j) v;have hl:k<l.length:=by rw [hO.len];exact hk
  refine ⟨?_,gm.frozenAt _,?_,?_⟩
  ·have rK:k*sz+j<(l.flatMap enc).length:=by rw [aW,hO.len];exact eX
   exact ⟨_,by rw [h1,adi rK]⟩
  ·have h2:=Bc.1;rw [<- xj l k hl j v x' hj pN] at h2;obtain ⟨A',c',he,ho⟩:=Own.sY h2 (by simpa using hO.len);injection he with e1 _ e2
   subst e1 e2;exact ho
  ·have:aJ (some ⟨g,0,none⟩) c=some g:=by simp [aJ,Nat.pos_iff_ne_zero.1 hc]
   rw [this];exact Bc.2
theorem SW.gZ {lo:Nat} {e:TypeId} {sz:Nat} {enc : α -> List Value} [E:iy enc sz] {A:Option Addr} {m c:Nat} {l:List α} {t:TypeId} [gV P t] {x y:Operand} {ad:Addr} {v:Value} (k j:Nat) (x' : α) (hO:Own w lo e sz enc A m c l)
 (hx:cT L x=some (.pointer (some ad))) (hy:cT L y=some v) (h1:v.oneCell'=true) (hk:k<m) (hj:j<sz) (ha:ad=((A.getD default).add (k*sz)).add j) (pN:enc x'=(enc (l[k]'(by rw [hO.len];exact hk))).set j v)
 (h:∀ w',Own w' lo e sz enc A m c (l.set k x')->w.grownBy w' (aJ A c)->SW P n ops (.gM Q) rest L w') : SW P n ops (.gM Q) (⟨none,.store t x y,T,pos,af,none⟩::rest) L w:=by
 obtain ⟨⟨u,hc⟩,hf,ho,hg⟩:=hO.setAt hk hj pN ha;exact SW.store hx hy h1 hc hf (h _ ho hg)
theorem SW.qF {lo:Nat} {e:TypeId} {A:Option Addr} {m c:Nat} {l:List Int} {t:TypeId} [gV P t] {x y:Operand} {i:Int} (k:Nat) (hO:Own w lo e 1 bw A m c l)
 (hx:cT L x=some (.pointer (some ((A.getD default).add (k*1))))) (hy:cT L y=some (.int .i64 i)) (hk:k<m)
 (h:∀ w',Own w' lo e 1 bw A m c (l.set k i)->w.grownBy w' (aJ A c)->SW P n ops (.gM Q) rest L w') : SW P n ops (.gM Q) (⟨none,.store t x y,T,pos,af,none⟩::rest) L w :=
 SW.gZ k 0 i hO hx hy rfl hk (by omega) (by rw [add_zero]) rfl h
theorem aS.store (h:aS w b t cs) (hi:i<cs.length) (v:Value) :
 (∃ u,w.cell? ((⟨b,0,none⟩ : Addr).add i)=some u)∧w.frozen? ((⟨b,0,none⟩ : Addr).add i)=false∧aS (w.setCell ((⟨b,0,none⟩ : Addr).add i) v) b t (cs.set i v)∧w.grownBy (w.setCell ((⟨b,0,none⟩ : Addr).add i) v) (some b):=by
 refine ⟨⟨cs[i],h.cell (adi hi)⟩,?_,?_,?_⟩
 ·rw [dc];exact frozen_of_row w b i _ t h
 ·rw [dc];unfold aS at h ⊢;rw [heap_setCell_same w b i _ t v h];simp
 ·rw [dc];exact ⟨rfl,rfl,rfl,by simp,fun k _ hk=>heap_setCell_other w ⟨b,i,none⟩ k v (fun e=>hk (by simp [e]))⟩
theorem SW.sb [gV P t'] {x:Operand} {v:Value} (hB:aS w b t cs) (hx:cT L x=some (.pointer (some ((⟨b,0,none⟩ : Addr).add i)))) (hy:cT L y=some v) (h1:v.oneCell'=true) (hi:Nat.blt i cs.length=true)
 (h:∀ w',aS w' b t (cs.set i v)->w.grownBy w' (some b)->SW P n ops (.gM Q) rest L w') : SW P n ops (.gM Q) (⟨none,.store t' x y,T,pos,af,none⟩::rest) L w:=by
 obtain ⟨⟨u,hc⟩,hf,hb,hg⟩:=hB.store (i:=i) (by simpa using hi) v;exact SW.store hx hy h1 hc hf (h _ hb hg)
theorem aS.grown (h:aS w b t cs) (hg:w.grownBy w' row) (bJ:some b≠row) : aS w' b t cs:=(hg.block b h.lt bJ).trans h
theorem Own.fi {lo:Nat} {e:TypeId} {sz:Nat} {enc : α -> List Value} {A:Option Addr} {m c:Nat} {l:List α} (hO:Own w lo e sz enc A m c l) {b:Nat} {t:TypeId} {cs:List Value} (hB:aS w b t cs) (bJ:Nat.beq t e=false) : aJ A c≠some b:=by
 rcases hO.row with ⟨_,rfl⟩|⟨hc,g,jV,rfl,_,h2,_⟩
 ·simp [aJ]
 ·simp only [aJ,Nat.pos_iff_ne_zero.1 hc,if_false,Option.map_some,ne_eq,Option.some.injEq];rintro rfl;unfold aS at hB;rw [h2] at hB;injection hB with hB
  injection hB with _ h _
  subst h;simp at bJ
theorem C6 [c:fE P t k] {vs:List Value} (hB:aS w b tb cs) (hl:vs.length=k) (hc:cs.length=k) (h1:∀ v∈vs,v.oneCell'=true) :
 (Instr.storeAt t (.pointer (some ⟨b,0,none⟩)) (.agg vs.toArray)).run P w = .ok () (w.setRow b vs.toArray):=by
 have Bc:=run_storeCells_at P b 0 tb vs 0 cs.toArray w hB (by simp;omega) h1;simp only [Nat.zero_add,List.take_zero,List.nil_append] at Bc;have hd:(cs.toArray.toList.drop vs.length)=[]:=by simp;omega
 rw [hd,aeA] at Bc;simp [Instr.storeAt,Instr.sureAddr,storeVar,Value.cells,run_sizeOf c.size,hl,Bc]
theorem SW.ag [fE P t k] {vs:List Value} {x:Operand} (hB:aS w b tb cs) (hx:cT L x=some (.pointer (some ⟨b,0,none⟩))) (hy:cT L y=some (.agg vs.toArray)) (hl:vs.length=k) (hc:cs.length=k) (h1:∀ v∈vs,v.oneCell'=true)
 (h:∀ w',aS w' b tb vs->w.grownBy w' (some b)->SW P n ops (.gM Q) rest L w') : SW P n ops (.gM Q) (⟨none,.store t x y,T,pos,af,none⟩::rest) L w :=
 ⟨fun a ha=>by
  simp only [swp,wpList,Region.wanted,if_true];refine .inl ?_;unfold Oper.wp
  have:(execOp a.eval ⟨none,.store t x y,T,pos,af,none⟩).run P w = .ok .skip (w.setRow b vs.toArray):=by
   simp [execOp,ha.eval hx,ha.eval hy,C6 hB hl hc h1]
  rw [this,Oper.upon_skip];refine (h _ (setRow_heap w b _ _ tb (0,0) hB) ⟨rfl,rfl,rfl,by simp,fun j _ hj => ?_⟩).out _ ha;show (w.setRow b _).heap[j]?=_
  simp only [World.setRow,Array.getElem?_modify];rw [if_neg (fun e=>hj (by simp [e]))]⟩
theorem SW.alloc {z:Value} [E:dr P t z sz bytes] (hn:Nat.blt d n=true)
 (h:∀ b w',Ext w w'->w.heap.size<=b->aS w' b t z.cells.toList->SW P n ops (.gM Q) rest ((d,.pointer (some ⟨b,0,none⟩))::L) w') : SW P n ops (.gM Q) (⟨some d,.alloc t,T,pos,af,none⟩::rest) L w :=
 ⟨fun a ha=>by
  obtain ⟨i,hi,hz,_,_⟩:=eB P t (z:=z) (sz:=sz) (bytes:=bytes);simp only [swp,wpList,Region.wanted,if_true];refine .inl ?_;unfold Oper.wp
  have:(execOp a.eval ⟨some d,.alloc t,T,pos,af,none⟩).run P w = .ok (.value (.pointer (some ⟨w.heap.size,0,none⟩))) (w.alloc (.cells z.cells t)):=by
   simp [execOp,Instr.alloc,zeroValue,typeInfo,hi,hz,newVar,newRow]
  rw [this,Oper.upon_value];exact (h _ _ (Ext.alloc w _) (adg _) (by have:=aS.new w t z.cells.toList;simpa using this)).out _ (ha.put hn _)⟩
theorem zb {enc : α -> List Value} {sz:Nat} [iy enc sz] {z:Value} (x0 : α) (he:enc x0=z.cells.toList) (hz:z.cells.size=sz) (hp : 0<sz) (k:Nat) : (madeCells z.cells (k*sz)).toList=(List.replicate k x0).flatMap enc:=by
 apply List.ext_getElem?;intro j;by_cases hj:j<k*sz
 ·have hi:j / sz<(List.replicate k x0).length:=by rw [aed];exact Nat.div_lt_of_lt_mul (by rw [aff];exact hj)
  have hm:j % sz<z.cells.size:=by rw [hz];exact Nat.mod_lt _ hp
  have h1:=iJ (enc:=enc) (List.replicate k x0) (j / sz) hi (j % sz) z.cells[j % sz] (by rw [List.getElem_replicate,he];simp [hm]);have e:j / sz*sz+j % sz=j:=by rw [aff];exact Nat.div_add_mod j sz
  rw [e] at h1;rw [h1];have hr:j<(Array.range (k*sz)).size:=by simpa using hj
  simp only [madeCells,Array.getElem?_toList,Array.getElem?_map];rw [Array.getElem?_eq_getElem hr];simp [hz,getElem!_pos z.cells (j % sz) hm]
 ·rw [adY (by simp [size_madeCells];omega),adY (by rw [aW,aed];omega)]
theorem SW.make {d:Nat} {t e:TypeId} {z:Value} {sz bytes:Nat} [S:bz P t e sz] [E:dr P e z sz bytes] {x:Operand} {k:Nat} {i:Int} {enc : α -> List Value} [iy enc sz] (x0 : α) (he:enc x0=z.cells.toList)
 (hx:cT L x=some (.int .i64 i)) (hk:i=(k:Int)) (hb:bytes*k<=281474976710656) (hm:k<=9223372036854775807) (hn:Nat.blt d n=true)
 (h:∀ A c w',Ext w w'->Own w' w.heap.size e sz enc A k c (List.replicate k x0)->SW P n ops (.gM Q) rest ((d,.slice A k c)::L) w') : SW P n ops (.gM Q) (⟨some d,.makeSlice t x x,T,pos,af,none⟩::rest) L w :=
 ⟨fun a ha=>by
  obtain ⟨inf,hi,hz,hs,yo⟩:=eB P e (z:=z) (sz:=sz) (bytes:=bytes);obtain ⟨w',hr,ho,hg⟩:=run_make_full (P:=P) w w.heap.size t e inf z sz S.oz hi hz hs .i64 .i64 k (by rw [yo];exact hb) (by simp only [maxLen];omega) (adg _);simp only [swp,wpList,Region.wanted,if_true];refine .inl ?_;unfold Oper.wp;have e1:=ha.eval hx;rw [hk] at e1
  have:(execOp a.eval ⟨some d,.makeSlice t x x,T,pos,af,none⟩).run P w = .ok (.value (.slice (some ⟨w.heap.size,0,none⟩) k k)) w':=by
   simp [execOp,e1,hr]
  rw [this,Oper.upon_value];have pf:(madeCells z.cells (k*sz)).toList=(List.replicate k x0).flatMap enc:=zb x0 he E.zc E.pos k
  rw [pf] at ho;obtain ⟨A,c,ia,nQ⟩:=Own.sY ho (by simp);injection ia with e2 _ e3
  subst e2 e3;exact (h _ _ _ ⟨hg.os,hg.tape,hg.output,hg.size,fun j hj=>hg.block j hj (by simp)⟩ nQ).out _ (ha.put hn _)⟩
end
variable {ops:Array Oper} {nh:Nat} {o' oi:Oper} {S S':World->Prop}
def Bl (P:Program) (md:Region.Mode) (ops:Array Oper) (Q:Exit->Act->World->Prop) (nh:Nat) (K:Array Bool->Act->World->Prop) : (World->Prop)->Nat->Array Bool->Act->World->Prop
 | _,0,listed,a,w=>K listed a w
 | S,f+1,listed,a,w=>Region.ready md ops listed≠[] ∧ ∀ i∈Region.ready md ops listed,i<nh∧wpOp P ops Q i (fun a' w'=>S w'∧Bl P md ops Q nh K S f (listed.setIfInBounds i true) a' w') a w
section
variable {P:Program} {md:Region.Mode} {ops:Array Oper} {Q:Exit->Act->World->Prop} {nh:Nat} {K:Array Bool->Act->World->Prop}
theorem BK (hS:∀ w,S' w->S w) : ∀ (f:Nat) (listed:Array Bool) (a:Act) (w:World),Bl P md ops Q nh K S' f listed a w->Bl P md ops Q nh K S f listed a w
 | 0,_,_,_,h=>h
 | f+1,_,_,_,h=>⟨h.1,fun i hi=>⟨(h.2 i hi).1,wpOp_mono (fun a' w' h'=>⟨hS _ h'.1,BK hS f _ a' w' h'.2⟩) (h.2 i hi).2⟩⟩
theorem xk {g:Nat} (hK:∀ listed a w,K listed a w->wpAny P md ops Q g listed a w) : ∀ (f:Nat) (listed:Array Bool) (a:Act) (w:World),Bl P md ops Q nh K S f listed a w->wpAny P md ops Q (f+g) listed a w
 | 0,listed,a,w,h=>by rw [aeD];exact hK _ _ _ h
 | f+1,listed,a,w,h=>by
   rw [show f+1+g=(f+g)+1 by omega];exact ⟨fun h0=>absurd h0 h.1,fun i hi=>wpOp_mono (fun a' w' h'=>xk hK f _ a' w' h'.2) (h.2 i hi).2⟩
def PI (md:Region.Mode) (ops:Array Oper) (nh:Nat) : Prop := ∀ listed,HeadInv md ops nh listed -> ∀ i,i<nh->listed.getD i true=false -> ∀ t,nh<=t->t∉Region.ready md ops listed
theorem zd {v:Value} (hi:ops[i]?=some oi) (Gs:∀ (j:Nat) (o:Oper) cs b,ops[j]?=some o->o.op ≠ .select cs b)
 (XV:PI md ops nh) (cy:i<nh) (hQ:∀ c a w,Q (.panic c) (a.put oi.dst v) w->Q (.panic c) a w) (Is:∀ listed a w,K listed a w -> ∀ j∈Region.ready md ops listed,nh<=j) :
 ∀ (f:Nat) (listed:Array Bool) (a:Act) (w:World),HeadInv md ops nh listed ->
  (∀ j oj,ops[j]?=some oj->j≠i->listed.getD j true=false->(∀ e∈oj.after,Region.binds md e=true->e.on≠i)->oi.apart ops oj=true) ->
  i∈Region.ready md ops listed->YieldsIf P ops S oi v a->S w ->
  Bl P md ops Q nh K S f (listed.setIfInBounds i true) (a.put oi.dst v) w->Bl P md ops Q nh K S (f+1) listed a w:=by
 intro f;induction f with
 | zero =>
   intro listed a w inv _ hr hy hS H;have Gh:=(mem_ready.1 hr).1;refine ⟨fun h=>(by rw [h] at hr;cases hr),fun j hj => ?_⟩
   have pO:j<nh:=by
    rcases adL j nh with h|h
    ·exact h
    ·exact absurd hj (XV _ inv i cy Gh j h)
   refine ⟨pO,?_⟩;by_cases ja:j=i
   ·subst ja;exact hy.wpOp hi hS ⟨hS,H⟩
   ·have:=Is _ _ _ H j (ready_mono hj ja)
    omega
 | succ f ih =>
   intro listed a w inv nj hr hy hS H;have Gh:=(mem_ready.1 hr).1;refine ⟨fun h=>(by rw [h] at hr;cases hr),fun j hj => ?_⟩
   have pO:j<nh:=by
    rcases adL j nh with h|h
    ·exact h
    ·exact absurd hj (XV _ inv i cy Gh j h)
   refine ⟨pO,?_⟩;by_cases ja:j=i
   ·subst ja;exact hy.wpOp hi hS ⟨hS,H⟩
   ·have h1:=(H.2 j (ready_mono hj ja)).2;obtain ⟨LB,oj,QD,fk⟩:=mem_ready.1 hj
    have Bm:∀ e∈oj.after,Region.binds md e=true->e.on≠i:=fun e he hb Vn=>by
     have h1:=fk e he hb;rw [Vn,getD_both Gh] at h1;cases h1
    have h2:=wpOp_putIf QD (nj j oj QD ja LB Bm) (fun cs b=>Gs i oi cs b hi) (fun cs b=>Gs j oj cs b QD) hQ hy h1
    have ze:∀ k ok,ops[k]?=some ok->k≠i->(listed.setIfInBounds j true).getD k true=false ->
     (∀ e∈ok.after,Region.binds md e=true->e.on≠i)->oi.apart ops ok=true:=fun k ok hk Gt Gh oH=>by
     refine nj k ok hk Gt ?_ oH;by_cases nk:j=k
     ·subst nk;exact LB
     ·rw [getD_set_ne true nk] at Gh;exact Gh
    refine wpOp_mono (fun a' w' h3=>⟨h3.2.1,ih (listed.setIfInBounds j true) a' w' (inv.set hj pO) ze (ready_mono hr (Ne.symm ja)) h3.1 h3.2.1 ?_⟩) h2;rw [aev _ _ ja];exact h3.2.2
end
structure RB (ops:Array Oper) (nh:Nat) : Prop where
 XW:Region.noSelect ops=true
 waits:PI .any ops nh
theorem dk (h:(Region.noSelect ops && (Nat.blt nh ops.size && (Region.sinkB .any ops nh && Region.chainB .any ops nh)))=true) : RB ops nh:=by
 simp only [Bool.and_eq_true] at h;exact ⟨h.1,fun listed inv i hi Gh t ht hr=>tail_waits h.2.2.1 h.2.2.2 (by simpa using h.2.1) inv _ i rfl hi Gh t ht hr⟩
def Ej (P:Program) (ops:Array Oper) (Q:Exit->Act->World->Prop) (nh:Nat) (l:List Oper) : Array Bool->Act->World->Prop:=fun listed a w=>Region.seqB .any ops l.length nh listed=true∧wpList P ops Q l a w
structure SA (P:Program) (n:Nat) (ops:Array Oper) (Q:Exit->Act->World->Prop) (nh:Nat) (tl:List Oper) (f:Nat) (listed:Array Bool) (L:Env) (w:World) : Prop where
 out:∀ a,Fit n a L->HeadInv .any ops nh listed->Bl P .any ops (NoPanic Q) nh (Ej P ops (NoPanic Q) nh tl) (Ext w) f listed a w
def PJ (P:Program) (n:Nat) (ops:Array Oper) (Q:Exit->Act->World->Prop) (nh:Nat) (tl:List Oper) (f:Nat) (listed:Array Bool) (w:World) : Exit->Act->World->Prop
 | .normal,a,w'=>Ext w w'∧(HeadInv .any ops nh listed->Bl P .any ops (NoPanic Q) nh (Ej P ops (NoPanic Q) nh tl) (Ext w') f listed a w')
 | e,a,w'=>NoPanic Q e a w'
section
variable {P:Program} {n:Nat} {ops:Array Oper} {Q:Exit->Act->World->Prop} {nh f:Nat} {tl:List Oper} {listed:Array Bool} {L:Env} {w:World}
theorem SA.take (i:Nat) {o:Oper} (hB:RB ops nh) (hi:ops[i]?=some o) (hf:Region.free .any ops listed i=true) (hr:(Region.ready .any ops listed).contains i=true) (eX:Nat.blt i nh=true)
 (h:SW P n ops (.tk fun L'=>SA P n ops Q nh tl f (listed.setIfInBounds i true) L' w) [o] L w) : SA P n ops Q nh tl (f+1) listed L w :=
 ⟨fun a ha inv=>by
  have hs:=h.out a ha;have Bn:i<nh:=by simpa using eX
  have ph:i∈Region.ready .any ops listed:=by simpa using hr
  have Is:∀ listed a w,Ej P ops (NoPanic Q) nh tl listed a w -> ∀ j∈Region.ready .any ops listed,nh<=j:=fun _ _ _ hk=>seqB_ready hk.1
  simp only [swp,C0] at hs;by_cases hw:Region.wanted o (yielded ops a.tmps)=true
  ·rw [if_pos hw] at hs;obtain ⟨v,hv,L',Gi,hK⟩:=hs;exact zd hi (Region.noSelect_spec hB.XW) hB.waits Bn (fun _ _ _ h=>(h:False).elim) Is f listed a w inv (Region.free_spec hi hf) ph (.inl ⟨hw,hv⟩) (Ext.refl w) (hK.out _ Gi (inv.set ph Bn))
  ·rw [if_neg hw] at hs;obtain ⟨L',Gi,hK⟩:=hs;exact zd hi (Region.noSelect_spec hB.XW) hB.waits Bn (fun _ _ _ h=>(h:False).elim) Is f listed a w inv (Region.free_spec hi hf) ph (.inr ⟨by simpa using hw,rfl⟩) (Ext.refl w) (hK.out _ Gi (inv.set ph Bn))⟩
theorem Ek {l:Array Bool} (h:LetsOut (PJ P n ops Q nh tl f l w)) : LetsOut (NoPanic Q):=h
theorem Oper.QE {o:Oper} {a:Act} {l:Array Bool} {N:Act->World->Prop} (h:o.wp P a w N (PJ P n ops Q nh tl f l w)) : o.wp P a w N (NoPanic Q):=by
 unfold Oper.wp at *;generalize (execOp a.eval o).run P w=r at *
 cases r with
 | ok x w' =>
   cases x<;>simp only [Oper.upon] at h ⊢
   case value=>exact h
   case skip=>exact h
   case defer=>exact h
   case row=>exact h
   case enter =>
    refine Calls.mono h fun e Lw he => ?_
    cases e<;>exact he
 | halt x w' =>
   cases x<;>simp only [Oper.upon] at h ⊢
   exact h
theorem SA.stepOf {o:Oper} (hi:ops[i]?=some o) (hr:i∈Region.ready .any ops listed) (eX:i<nh) {a:Act} (ha:Fit n a L) (inv:HeadInv .any ops nh listed) (h:SW P n ops (.gM (PJ P n ops Q nh tl f (listed.setIfInBounds i true) w)) [o] L w) :
 wpOp P ops (NoPanic Q) i (fun a' w'=>Ext w w'∧Bl P .any ops (NoPanic Q) nh (Ej P ops (NoPanic Q) nh tl) (Ext w) f (listed.setIfInBounds i true) a' w') a w:=by
 have hs:=h.out a ha;have LC:=inv.set hr eX
 have conv:∀ a' w',PJ P n ops Q nh tl f (listed.setIfInBounds i true) w .normal a' w'->Ext w w'∧Bl P .any ops (NoPanic Q) nh (Ej P ops (NoPanic Q) nh tl) (Ext w) f (listed.setIfInBounds i true) a' w':=fun a' w' hh =>
  ⟨hh.1,BK (fun Lw El=>Ext.trans hh.1 El) _ _ _ _ (hh.2 LC)⟩
 simp only [swp,wpList] at hs;unfold wpOp;simp only [hi];by_cases hw:Region.wanted o (yielded ops a.tmps)=true
 ·rw [if_pos hw] at hs ⊢;rcases hs with hs|⟨h1,h2⟩
  ·exact .inl (Oper.wp_mono conv (Oper.QE hs))
  ·exact .inr ⟨h1,Ek h2⟩
 ·rw [if_neg hw] at hs ⊢;exact conv _ _ hs
theorem SA.one (i:Nat) {o:Oper} (hi:ops[i]?=some o) (hr:Region.ready .any ops listed=[i]) (eX:Nat.blt i nh=true) (h:SW P n ops (.gM (PJ P n ops Q nh tl f (listed.setIfInBounds i true) w)) [o] L w) : SA P n ops Q nh tl (f+1) listed L w :=
 ⟨fun a ha inv=>⟨by rw [hr];simp,fun j hj=>by
  have Bn:i<nh:=by simpa using eX
  have ja:j=i:=by rw [hr] at hj;simpa using hj
  subst ja;exact ⟨Bn,SA.stepOf hi hj Bn ha inv h⟩⟩⟩
theorem SA.two (i k:Nat) {o:Oper} (hi:ops[i]?=some o) (hk:ops[k]?=some o') (hr:Region.ready .any ops listed=[i,k]) (eX:Nat.blt i nh=true) (Bn:Nat.blt k nh=true)
 (h:SW P n ops (.gM (PJ P n ops Q nh tl f (listed.setIfInBounds i true) w)) [o] L w) (h':SW P n ops (.gM (PJ P n ops Q nh tl f (listed.setIfInBounds k true) w)) [o'] L w) : SA P n ops Q nh tl (f+1) listed L w :=
 ⟨fun a ha inv=>⟨by rw [hr];simp,fun j hj=>by
  have Oi:i<nh:=by simpa using eX
  have Oj:k<nh:=by simpa using Bn
  have nR:=hj;rw [hr] at nR;simp only [List.mem_cons,List.not_mem_nil,or_false] at nR;rcases nR with rfl|rfl
  ·exact ⟨Oi,SA.stepOf hi hj Oi ha inv h⟩
  ·exact ⟨Oj,SA.stepOf hk hj Oj ha inv h'⟩⟩⟩
theorem ae.sa {l:Array Bool} (hx:Ext w0 w) (h:SA P n ops Q nh tl f l L w) : ae n (PJ P n ops Q nh tl f l w0) .normal L w:=⟨fun a ha=>⟨hx,h.out a ha⟩⟩
theorem SA.done (hq:Region.seqB .any ops tl.length nh listed=true) (h:SW P n ops (.gM (NoPanic Q)) tl L w) : SA P n ops Q nh tl 0 listed L w:=⟨fun a ha _=>⟨hq,h.out a ha⟩⟩
theorem ae.np (h:ae n Q .normal L w) : ae n (NoPanic Q) .normal L w:=⟨fun a ha=>h.out a ha⟩
theorem CW.any {id:Nat} {l:List Oper} (nh:Nat) (hm:P.follows .mixedOrders=true) (hB:RB l.toArray nh) (hle:Nat.ble nh l.length=true) (h:∀ w',Ext w w'->RB l.toArray nh->SA P n l.toArray Q nh (l.drop nh) nh (Array.replicate l.length false) L w') : CW P n (.region id l.toArray true) Q L w :=
 ⟨fun a ha=>by
  have Zv:nh<=l.length:=by simpa using hle
  refine wp_region_noPanic (wp_region_any hm ?_);have h0:=(h _ (Ext.drew w) hB).out a ha ⟨by simp,fun j oj _ hl=>(by rw [getD_replicate_false] at hl;cases hl),fun t _ ht=>getD_in (by simpa using ht) (getD_replicate_false _ _)⟩;have:=xk (g:=(l.drop nh).length) (fun listed a w hk=>wpAny_of_seq (md := .any) (l.drop nh) nh listed a w (fun j=>by simp [List.getElem?_drop]) hk.1 hk.2) _ _ _ _ h0
  rw [show nh+(l.drop nh).length=l.toArray.size by simp;omega] at this;simpa using this⟩
end
variable {K:Env->Prop} {places:List (Nat×Nat)} {pv:List (Nat×Value)} {cap zc:List Value} {fo:Operand}
section
variable {P:Program} {L:Env} {w:World} {d:Option Nat} {T:TypeId} {pos:String} {af:Array Edge} {g:Option (Nat×Bool)}
theorem aF {x:Operand} (hx:cT L x=some (.pointer (some ad))) : St P ⟨d,.nilCheck x,T,pos,af,g⟩ L w (.pointer (some ad)) :=
 ⟨fun _ a ha w' _=>by have e1:=ha.eval hx;generalize a.eval = ρ at *;simp [execOp,e1]⟩
theorem zf [c:bz P t e sz] {x:Operand} {n cap:Nat} (hx:cT L x=some (.slice A n cap)) :
 St P ⟨d,.call ⟨.builtin .cap,#[x],#[t]⟩,T,pos,af,g⟩ L w (.int .i64 cap) :=
 ⟨fun _ a ha w' _=>by simp [execOp,resolve,invoke,builtin,ha.eval hx,Builtin.cap_,run_underlying c.oz,goInt]⟩
theorem C7 {u:TypeId} {x:Operand} {i j:Int} (hx:cT L x=some (.int .i64 i)) (hy:cT L y=some (.int .i64 j)) :
 St P ⟨d,.call ⟨.builtin .min,#[x,y],#[t,u]⟩,T,pos,af,g⟩ L w (.int .i64 (min i j)) :=
 ⟨fun _ a ha w' _=>by
  have e:(if j<i then j else i)=min i j:=by split<;>omega
  simp [execOp,resolve,invoke,builtin,ha.eval hx,ha.eval hy,Builtin.min_,Builtin.min2,e]⟩
theorem C8 {u:TypeId} {x:Operand} {i j:Int} (hx:cT L x=some (.int .i64 i)) (hy:cT L y=some (.int .i64 j)) :
 St P ⟨d,.call ⟨.builtin .max,#[x,y],#[t,u]⟩,T,pos,af,g⟩ L w (.int .i64 (max i j)) :=
 ⟨fun _ a ha w' _=>by
  have e:(if i<j then j else i)=max i j:=by split<;>omega
  simp [execOp,resolve,invoke,builtin,ha.eval hx,ha.eval hy,Builtin.max_,Builtin.max2,e]⟩
theorem iK {f:FuncId} {cap:List Operand} {vs:List Value} (hx:uT L cap=some vs) : St P ⟨d,.makeFunc (.func f) #[] cap.toArray,T,pos,af,g⟩ L w (.func (.func f) #[] vs.toArray) :=
 ⟨fun _ a ha w' _=>by simp [execOp,Instr.makeFunc,<- ha.uU hx]⟩
end
def setAt (cs:List Value) (off:Nat) : List Value->List Value
 | []=>cs
 | v::r=>setAt (cs.set off v) (off+1) r
def Em (places:List (Nat×Nat)) (cells:List Value) : List (Nat×Value)->Option (List Value)
 | []=>some cells
 | (i,v)::rest=>match places[i]? with
   | none=>none
   | some (off,size)=>bif Nat.beq v.cells.size size && Nat.ble (off+v.cells.size) cells.length then Em places (setAt cells off v.cells.toList) rest else none
theorem qG:∀ (vs:List Value) (k off:Nat) (cs:List Value),(vs.zipIdx k).foldl (fun (cs:Array Value) (p:Value×Nat)=>cs.setIfInBounds (off+p.2) p.1) cs.toArray=(setAt cs (off+k) vs).toArray
 | [],_,_,_=>rfl
 | v::r,k,off,cs=>by
   simp only [List.zipIdx_cons,List.foldl_cons,setAt];rw [List.setIfInBounds_toArray,qG r (k+1) off]
   rfl
theorem It {places:List (Nat×Nat)}:∀ (ps:List (Nat×Value)) (cells cs:List Value),Em places cells ps=some cs->Instr.fill (places.toArray[·]?) cells.toArray ps=some cs.toArray
 | [],_,_,h=>by simp [Em] at h;subst h;rfl
 | (i,v)::rest,cells,cs,h=>by
   simp only [Em] at h;simp only [Instr.fill,List.getElem?_toArray];split at h
   ·cases h
   ·rename_i off size hp;simp only [cond_eq_ite] at h;split at h
    ·rename_i hb;simp only [Bool.and_eq_true] at hb;have h1:=adF hb.1;have h2:off+v.cells.size<=cells.length:=by simpa using hb.2
     simp only [hp];have:=qG v.cells.toList 0 off cells
     simp only [Nat.add_zero] at this
     have e2:Array.foldl (fun (cs:Array Value) (x:Value×Nat)=>cs.setIfInBounds (off+x.2) x.1) cells.toArray v.cells.zipIdx=(setAt cells off v.cells.toList).toArray:=by
      rw [<- this,<- ae2];simp [Array.toList_zipIdx]
     rw [if_neg (by simp;omega)];have e3:=It (places:=places) rest _ _ h;rw [<- e2] at e3;simpa using e3
    ·cases h
class ig (P:Program) (t:TypeId) (places:outParam (List (Nat×Nat))) (zc:outParam (List Value)) : Prop where
 oz:((P.underlying t).bind fun | .struct fs=>some ((fs.toList.map fun f=>(f.offset,(P.info? f.type).map (·.size))))|_=>none)=some (places.map fun p=>(p.1,some p.2)):=by kernel_rfl
 zero:((P.info? t).bind (·.zero)).map (·.cells)=some zc.toArray:=by kernel_rfl
def vY (L:Env) : List (Nat×Operand)->Option (List (Nat×Value))
 | []=>some []
 | (i,x)::r=>match cT L x,vY L r with
   | some v,some vs=>some ((i,v)::vs)
   | _,_=>none
theorem Fit.parts {n:Nat} {a:Act} {L:Env} (h:Fit n a L) : ∀ {xs:List (Nat×Operand)} {vs:List (Nat×Value)},vY L xs=some vs->xs.map (fun p=>(p.1,a.eval p.2))=vs
 | [],vs,e=>by simp [vY] at e;subst e;rfl
 | (i,x)::r,vs,e=>by
   simp only [vY] at e;cases hx:cT L x with
   | none=>simp [hx] at e
   | some v =>
     cases hr:vY L r with
     | none=>simp [hx,hr] at e
     | some us =>
       simp [hx,hr] at e;subst e;simp [h.eval hx,h.parts hr]
theorem rD (w:World) : ∀ (fs:List Field) (places:List (Nat×Nat)),(fs.map fun f=>(f.offset,(P.info? f.type).map (·.size)))=(places.map fun p=>(p.1,some p.2)) ->
 (fs.mapM (m:=Sem) fun f=>do return (f.offset,<- sizeOf f.type)).run P w = .ok places w
 | [],[],_=>by simp
 | f::fs,p::ps,h=>by
   simp only [List.map_cons,List.cons.injEq,Prod.mk.injEq] at h;have ih:=rD w fs ps h.2;have hs:=run_sizeOf h.1.2 w;rw [afs];simp only [Sem.run_bind,hs,Result.andThen,pure,Sem.run];rw [h.1.1];have UO:(fs.mapM (m:=Sem) fun f=>do return (f.offset,<- sizeOf f.type)).run P w = .ok ps w:=ih
   simp only [pure] at UO;rw [UO]
 | [],_::_,h=>by simp at h
 | _::_,[],h=>by simp at h
section
variable {P:Program} {L:Env} {w:World} {d:Option Nat} {T:TypeId} {pos:String} {af:Array Edge} {g:Option (Nat×Bool)}
theorem fZ [c:ig P t places zc] {ps:List (Nat×Operand)} (hp:vY L ps=some pv) (hf:Em places zc pv=some cs) :
 St P ⟨d,.build t ps.toArray,T,pos,af,g⟩ L w (.agg cs.toArray) :=
 ⟨fun n a ha w' _=>by
  have hz:=c.zero;cases hi:P.info? t with
  | none=>simp [hi] at hz
  | some inf =>
    cases oB:inf.zero with
    | none=>simp [hi,oB] at hz
    | some z =>
      simp [hi,oB] at hz;have hu:=c.oz;cases hd:P.underlying t with
      | none=>simp [hd] at hu
      | some D =>
        cases D<;>simp only [hd,Option.bind_some,reduceCtorEq,Option.some.injEq] at hu
        rename_i fs;have hm:=rD (P:=P) w' fs.toList places hu;have Lz:=It pv zc cs hf;have XX:=ha.parts hp
        have Vo:(fs.mapM (m:=Sem) fun f=>do return (f.offset,<- sizeOf f.type)).run P w' = .ok places.toArray w':=by
         rw [afc];have e:∀ (x:Sem (List (Nat×Nat))),x.run P w' = .ok places w'->(Functor.map List.toArray x).run P w' = .ok places.toArray w':=fun x hx=>by simp [hx,Result.andThen]
         exact e _ hm
        have Zw:(zeroValue t).run P w' = .ok z w':=by simp [zeroValue,typeInfo,hi,oB]
        have hb:(Instr.build t (ps.map fun p=>(p.1,a.eval p.2)).toArray).run P w' = .ok (.agg cs.toArray) w':=by
         unfold Instr.build;simp only [Sem.run_bind,Zw,Result.andThen,run_underlying hd];have e:=Vo;simp only [pure] at e ⊢;rw [e];simp only [hz,XX,Lz,Sem.run]
        have hx:(execOp a.eval ⟨d,.build t ps.toArray,T,pos,af,g⟩).run P w'=(do pure (Next.value (<- Instr.build t (ps.map fun p=>(p.1,a.eval p.2)).toArray)) : Sem Next).run P w':=by simp [execOp]
        rw [hx,Sem.run_bind,hb]
        rfl⟩
end
inductive mI (P:Program) (L:Env) (w:World) : List ResultVar->List Value->Prop
 | nil:mI P L w [] []
 | tmp {t:Nat} {v:Value} {rs:List ResultVar} {vs:List Value}:get L t=some v->mI P L w rs vs->mI P L w (.tmp t::rs) (v::vs)
 | cell {t ty b tb m:Nat} {cs:List Value} {rs:List ResultVar} {vs:List Value}:fE P ty m->get L t=some (.pointer (some ⟨b,0,none⟩))->aS w b tb cs->cs.length=m->mI P L w rs vs->mI P L w (.cell t ty::rs) (.agg cs.toArray::vs)
theorem mI.run {L:Env} {n:Nat} {a:Act} (ha:Fit n a L) {rs:List ResultVar} {vs:List Value} (h:mI P L w rs vs) :
 (rs.mapM (m:=Sem) fun | .tmp t=>pure (a.tmps.getD t undef) | .cell b t=>do loadVar t (<- asAddr (a.tmps.getD b undef))).run P w = .ok vs w:=by
 induction h with
 | nil=>rfl
 | @tmp t v rs vs hg hr ih =>
   rw [afs];simp only [Sem.run_bind,ha.has _ _ hg,pure,Sem.run,Result.andThen];simp only [pure] at ih;rw [ih]
 | @cell t ty b tb m cs rs vs c hg hB hl hr ih =>
   rw [afs]
   have SV:(loadVar ty ⟨b,0,none⟩).run P w = .ok (.agg cs.toArray) w:=by
    subst hl;simp [loadVar,tO,run_sizeOf c.size,run_loadCells_list (P:=P) w ⟨b,0,none⟩ cs (fun j v hv=>hB.cell hv)]
   have Vp:(asAddr (a.tmps.getD t undef)).run P w = .ok ⟨b,0,none⟩ w:=by rw [ha.has _ _ hg];rfl
   simp only [Sem.run_bind,Vp,Result.andThen,SV];rw [ih]
   rfl
section
variable {P:Program} {fn:Func} {R:Ending->World->Prop} {n:Nat} {L:Env} {w:World}
theorem mI.results {rs:List ResultVar} {vs:List Value} (hr:fn.results=rs.toArray) (h:mI P L w rs vs) {a:Act} (ha:Fit n a L) :
 (results fn a.tmps).run P w = .ok (if h:vs.toArray.size=1 then vs.toArray[0] else .tuple vs.toArray) w:=by
 have h1:=h.run ha;unfold Go.results;rw [hr,afc]
 have e:∀ (x:Sem (List Value)),x.run P w = .ok vs w->(do let vs <- (Functor.map List.toArray x:Sem (Array Value));pure (if h:vs.size=1 then vs[0] else .tuple vs) : Sem Value).run P w = .ok (if h:vs.toArray.size=1 then vs.toArray[0] else .tuple vs.toArray) w:=fun x hx=>by
  simp [hx,Result.andThen]
 exact e _ h1
theorem ae.En {t ty tb:Nat} [c:fE P ty m] (hr:fn.results = #[.cell t ty]) (hv:get L t=some (.pointer (some ⟨b,0,none⟩))) (hB:aS w b tb cs) (hl:Nat.beq cs.length m=true) (h:R (.returned (.agg cs.toArray)) w) : ae n (bodyPost P fn R) .ret L w :=
 ⟨fun a ha=>⟨ha.defers,_,by simpa using mI.results (rs:=[.cell t ty]) hr (.cell c hv hB (adF hl) .nil) ha,h⟩⟩
theorem ae.dA {t u ty tb:Nat} {x:Value} [c:fE P ty m] (hr:fn.results = #[.cell t ty,.tmp u]) (hv:get L t=some (.pointer (some ⟨b,0,none⟩))) (hx:get L u=some x) (hB:aS w b tb cs) (hl:Nat.beq cs.length m=true) (h:R (.returned (.tuple #[.agg cs.toArray,x])) w) : ae n (bodyPost P fn R) .ret L w :=
 ⟨fun a ha=>⟨ha.defers,_,by simpa using mI.results (rs:=[.cell t ty,.tmp u]) hr (.cell c hv hB (adF hl) (.tmp hx .nil)) ha,h⟩⟩
theorem ae.fg {t u q ty tb:Nat} {x y:Value} [c:fE P ty m] (hr:fn.results = #[.cell t ty,.tmp u,.tmp q]) (hv:get L t=some (.pointer (some ⟨b,0,none⟩))) (hx:get L u=some x) (hy:get L q=some y) (hB:aS w b tb cs) (hl:Nat.beq cs.length m=true) (h:R (.returned (.tuple #[.agg cs.toArray,x,y])) w) : ae n (bodyPost P fn R) .ret L w :=
 ⟨fun a ha=>⟨ha.defers,_,by simpa using mI.results (rs:=[.cell t ty,.tmp u,.tmp q]) hr (.cell c hv hB (adF hl) (.tmp hx (.tmp hy .nil))) ha,h⟩⟩
end
section
variable {P:Program} {n:Nat} {ops:Array Oper} {Q:Exit->Act->World->Prop} {rest:List Oper} {L:Env} {w:World}
theorem BL {a:Act} {d:Option Nat} {f:FuncId} {xs:List Operand} {pos:String}
 [hb:Body P f] (hf:a.eval fo = .func (.func f) #[] cap.toArray) : (execOp a.eval ⟨d,.call ⟨.value fo,xs.toArray,ts⟩,T,pos,af,g⟩).run P w' = .ok (.enter f (xs.map a.eval++cap).toArray) w':=by
 simp only [execOp,resolve,hf,Deferred.ofValue,Sem.run_bind,pure,Sem.run,Result.andThen,invoke,List.map_toArray];have:=hb.out (xs.map a.eval++cap).toArray w'
 simpa using this
theorem SW.tP {f:FuncId} {xs:List Operand} {vs:List Value} {pos:String} {R:Value->World->Prop}
 [Body P f] (hf:cT L fo=some (.func (.func f) #[] cap.toArray)) (hx:uT L xs=some vs) (hn:Nat.blt d n=true) (hc:bF P f (vs++cap) w R) (h:∀ v w',Ext w w'->R v w'->SW P n ops (.gM Q) rest ((d,v)::L) w') :
 SW P n ops (.gM Q) (⟨some d,.call ⟨.value fo,xs.toArray,ts⟩,T,pos,af,none⟩::rest) L w :=
 ⟨fun a ha=>by
  simp only [swp,wpList,Region.wanted,if_true];refine .inl ?_;unfold Oper.wp;rw [BL (ha.eval hf),Oper.upon_enter,ha.uU hx];refine Calls.mono hc.out ?_;rintro e w' ⟨v,rfl,pN,hv⟩
  exact (h v w' pN hv).out _ (ha.put hn v)⟩
theorem SW.ug {f:FuncId} {xs:List Operand} {vs:List Value} {pos:String} {v:Value}
 [Body P f] (hf:cT L fo=some (.func (.func f) #[] cap.toArray)) (hx:uT L xs=some vs) (hn:Nat.blt d n=true) (hc:∀ w',Ext w w'->bF P f (vs++cap) w' fun u _=>u=v) (h:SW P n ops (.Od K) rest ((d,v)::L) w) :
 SW P n ops (.Od K) (⟨some d,.call ⟨.value fo,xs.toArray,ts⟩,T,pos,af,none⟩::rest) L w :=
 ⟨fun a ha=>by
  simp only [swp,wpQuiet,Region.wanted,if_true];refine ⟨v,fun w' ni => ?_,h.out _ (ha.put hn v)⟩;unfold Oper.quietAt;rw [BL (ha.eval hf),ha.uU hx];refine ⟨rfl,Calls.mono (hc w' ni).out ?_⟩;rintro e Lw ⟨u,rfl,pN,rfl⟩
  exact ⟨rfl,ni.trans pN⟩⟩
end
section
variable {P:Program} {L:Env} {w:World} {d:Option Nat} {T:TypeId} {pos:String} {af:Array Edge} {g:Option (Nat×Bool)}
theorem bd [c:bz P t e sz] {x:Operand} {n cap:Nat} (hx:cT L x=some (.slice A n cap)) (hy:cT L y=some (.int .i64 (k:Int))) (hk:k<=n) (hc:n<=cap) :
 St P ⟨d,.slice t x (some y) none none,T,pos,af,g⟩ L w (.slice (if cap=k then A else A.map (·.add (k*sz))) (n-k) (cap-k)) :=
 ⟨fun _ a ha w' _=>by
  have e1:=ha.eval hx;have e2:=ha.eval hy;generalize a.eval = ρ at *
  simp [execOp,e1,e2,Instr.sliceAt,Instr.slice,Instr.sliceBounds,Instr.sliceBound,asIntOf,run_underlying c.oz,run_sizeOf c.size,hk]⟩
theorem dn [c:bz P t e sz] {x:Operand} {n cap:Nat} (hx:cT L x=some (.slice A n cap)) (hy:cT L y=some (.int .i64 (k:Int))) (hk:k<=cap) :
 St P ⟨d,.slice t x none (some y) none,T,pos,af,g⟩ L w (.slice A k cap) :=
 ⟨fun _ a ha w' _=>by
  have e1:=ha.eval hx;have e2:=ha.eval hy;generalize a.eval = ρ at *
  have h0:A.map (·.add 0)=A:=by cases A<;>simp [add_zero]
  simp [execOp,e1,e2,Instr.sliceAt,Instr.slice,Instr.sliceBounds,Instr.sliceBound,asIntOf,run_underlying c.oz,run_sizeOf c.size,hk,h0]⟩
end
section
variable {P:Program} {L:Env} {w:World} {d:Option Nat} {T:TypeId} {pos:String} {af:Array Edge} {g:Option (Nat×Bool)}
end
section
variable {P:Program} {n:Nat} {ops:Array Oper} {Q:Exit->Act->World->Prop} {rest:List Oper} {L:Env} {w:World} {pos:String} {af:Array Edge} {T:TypeId}
theorem SW.LD {x:Operand} {v:Value} (hx:cT L x=some v) (h1:v.oneCell'=true) (hn:Nat.blt d n=true)
 (h:∀ b w',Ext w w'->w.heap.size<=b->aS w' b t [v]->SW P n ops (.gM Q) rest ((d,.pointer (some ⟨b,0,none⟩))::L) w') : SW P n ops (.gM Q) (⟨some d,.box t x,T,pos,af,none⟩::rest) L w :=
 ⟨fun a ha=>by
  have lT:v.cells = #[v]:=by cases v<;>first|rfl|simp [Value.oneCell'] at h1
  simp only [swp,wpList,Region.wanted,if_true];refine .inl ?_;unfold Oper.wp
  have hr:(execOp a.eval ⟨some d,.box t x,T,pos,af,none⟩).run P w = .ok (.value (.pointer (some ⟨w.heap.size,0,none⟩))) (w.alloc (.cells #[v] t)):=by
   simp [execOp,ha.eval hx,Instr.box,newVar,newRow,newObj,Sem.run,lT]
  rw [hr,Oper.upon_value];exact (h _ _ (Ext.alloc w _) (adg _) (aS.new w t [v])).out _ (ha.put hn _)⟩
end
theorem Ext.own {base:World} (h:Ext base w) (hb:base.heap.size<=b) (hg:w.grownBy w' (some b)) : Ext base w':=aD h hg (adg _) (fun k e=>by cases e;exact hb)
variable {listed:Array Bool} {Q1 Q2:Exit->Act->World->Prop}
def xP (P:Program) (ops:Array Oper) (Q:Exit->Act->World->Prop) (fin e8:Nat) (S2:World->Prop) : (World->Prop)->Nat->Array Bool->Act->World->Prop
 | _,0,listed,a,w=>Region.ready .any ops listed=[]∧Q .normal a w
 | S,f+1,listed,a,w=>Region.ready .any ops listed≠[] ∧ ∀ i∈Region.ready .any ops listed,i<ops.size∧wpOp P ops Q i (fun a' w'=>(i=e8->xP P ops Q fin e8 S2 (fun _=>True) f (listed.setIfInBounds i true) a' w') ∧
    (i≠e8->i=fin->S2 w'∧xP P ops Q fin e8 S2 S2 f (listed.setIfInBounds i true) a' w')∧(i≠e8->i≠fin->S w'∧xP P ops Q fin e8 S2 S f (listed.setIfInBounds i true) a' w')) a w
section
variable {P:Program} {ops:Array Oper} {Q:Exit->Act->World->Prop} {fin e8:Nat} {S2:World->Prop}
theorem lc:∀ (f:Nat) {S S':World->Prop} (hS:∀ w,S' w->S w) (listed:Array Bool) (a:Act) (w:World),xP P ops Q fin e8 S2 S' f listed a w->xP P ops Q fin e8 S2 S f listed a w
 | 0,_,_,_,_,_,_,h=>h
 | f+1,S,S',hS,_,_,_,h=>⟨h.1,fun i hi=>⟨(h.2 i hi).1,wpOp_mono (fun a' w' h'=>⟨h'.1,h'.2.1,fun n1 n2=>⟨hS _ (h'.2.2 n1 n2).1,lc f hS _ a' w' (h'.2.2 n1 n2).2⟩⟩) (h.2 i hi).2⟩⟩
theorem oI:∀ (f:Nat) {S:World->Prop} (listed:Array Bool) (a:Act) (w:World),xP P ops Q fin e8 S2 S f listed a w->wpAny P .any ops Q f listed a w
 | 0,_,_,_,_,h=>h
 | f+1,S,listed,a,w,h=>⟨fun h0=>absurd h0 h.1,fun i hi=>wpOp_mono (fun a' w' h'=>by
    by_cases e:i=e8
    ·exact oI f _ a' w' (h'.1 e)
    ·by_cases e2:i=fin
     ·exact oI f _ a' w' (h'.2.1 e e2).2
     ·exact oI f _ a' w' (h'.2.2 e e2).2) (h.2 i hi).2⟩
def fR (ops:Array Oper) (k:Nat) : List Nat->Nat->Bool
 | [],i=>match ops[k]? with
   | some o=>o.after.any fun e=>Region.binds .any e && Nat.beq e.on i
   | none=>false
 | x::r,i=>(match ops[k]? with
   | some o=>o.after.any fun e=>Region.binds .any e && Nat.beq e.on x
   | none=>false) && fR ops x r i
theorem C9 (h:(match ops[k]? with|some o=>o.after.any fun e=>Region.binds .any e && Nat.beq e.on i|none=>false)=true) : ∃ o,ops[k]?=some o ∧ ∃ e∈o.after,Region.binds .any e=true∧e.on=i:=by
 cases ho:ops[k]? with
 | none=>rw [ho] at h;cases h
 | some o =>
   rw [ho] at h;simp only [Array.any_eq_true',Bool.and_eq_true] at h;obtain ⟨e,he,hb,hn⟩:=h;exact ⟨o,rfl,e,he,hb,adF hn⟩
theorem tQ {n:Nat} (inv:HeadInv .any ops n listed) : ∀ (p:List Nat) (k i:Nat),fR ops k p i=true->listed.getD k false=true->listed.getD i false=true
 | [],k,i,h,hk=>by
   obtain ⟨o,ho,e,he,hb,QF⟩:=C9 h;rw [<- QF];exact inv.closed k o ho hk e he hb
 | x::r,k,i,h,hk=>by
   simp only [fR,Bool.and_eq_true] at h;obtain ⟨o,ho,e,he,hb,QF⟩:=C9 h.1;exact tQ inv r x i h.2 (by rw [<- QF];exact inv.closed k o ho hk e he hb)
theorem Da {n:Nat} (inv:HeadInv .any ops n listed) {p:List Nat} (h:fR ops k p i=true) (hk:k∈Region.ready .any ops listed) : listed.getD i false=true:=by
 obtain ⟨_,o,ho,fk⟩:=mem_ready.1 hk;cases p with
 | nil =>
   obtain ⟨o',nQ,e,he,hb,QF⟩:=C9 h;rw [ho] at nQ;cases nQ
   rw [<- QF];exact fk e he hb
 | cons x r =>
   simp only [fR,Bool.and_eq_true] at h;obtain ⟨o',nQ,e,he,hb,QF⟩:=C9 h.1;rw [ho] at nQ;cases nQ
   exact tQ inv r x i h.2 (by rw [<- QF];exact fk e he hb)
theorem nS {T:World->Prop} {v:Value} (hi:ops[i]?=some oi) (Gs:∀ (j:Nat) (o:Oper) cs b,ops[j]?=some o->o.op ≠ .select cs b) (Jp:i≠e8) (PK:i≠fin)
 (hQ:∀ c a w,Q (.panic c) (a.put oi.dst v) w->Q (.panic c) a w) (Vq:(∀ w,T w) ∨ ∃ p,fR ops e8 p i=true) (zg:(∀ w,S2 w->T w) ∨ ∃ p,fR ops fin p i=true) :
 ∀ (f:Nat) {S:World->Prop} (SY:∀ w,S w->T w) (listed:Array Bool) (a:Act) (w:World),HeadInv .any ops ops.size listed ->
  (∀ j oj,ops[j]?=some oj->j≠i->listed.getD j true=false->(∀ e∈oj.after,Region.binds .any e=true->e.on≠i)->oi.apart ops oj=true) ->
  i∈Region.ready .any ops listed->YieldsIf P ops T oi v a->S w ->
  xP P ops Q fin e8 S2 S f (listed.setIfInBounds i true) (a.put oi.dst v) w->xP P ops Q fin e8 S2 S (f+1) listed a w:=by
 intro f;induction f with
 | zero =>
   intro S SY listed a w inv _ hr hy hS H;have Gh:=(mem_ready.1 hr).1;refine ⟨fun h=>(by rw [h] at hr;cases hr),fun j hj => ?_⟩;have pO:j<ops.size:=by obtain ⟨_,o,ho,_⟩:=mem_ready.1 hj;exact (ado.1 ho).1
   refine ⟨pO,?_⟩;by_cases ja:j=i
   ·subst ja;exact hy.wpOp hi (SY _ hS) ⟨fun e=>absurd e Jp,fun _ e=>absurd e PK,fun _ _=>⟨hS,H⟩⟩
   ·have h0:=ready_mono hj ja;rw [H.1] at h0;cases h0
 | succ f ih =>
   intro S SY listed a w inv nj hr hy hS H;have Gh:=(mem_ready.1 hr).1;refine ⟨fun h=>(by rw [h] at hr;cases hr),fun j hj => ?_⟩;have pO:j<ops.size:=by obtain ⟨_,o,ho,_⟩:=mem_ready.1 hj;exact (ado.1 ho).1
   refine ⟨pO,?_⟩;by_cases ja:j=i
   ·subst ja;exact hy.wpOp hi (SY _ hS) ⟨fun e=>absurd e Jp,fun _ e=>absurd e PK,fun _ _=>⟨hS,H⟩⟩
   ·have h1:=(H.2 j (ready_mono hj ja)).2;obtain ⟨LB,oj,QD,fk⟩:=mem_ready.1 hj
    have Bm:∀ e∈oj.after,Region.binds .any e=true->e.on≠i:=fun e he hb Vn=>by
     have h1:=fk e he hb;rw [Vn,getD_both Gh] at h1;cases h1
    have h2:=wpOp_putIf QD (nj j oj QD ja LB Bm) (fun cs b=>Gs i oi cs b hi) (fun cs b=>Gs j oj cs b QD) hQ hy h1
    have ze:∀ k ok,ops[k]?=some ok->k≠i->(listed.setIfInBounds j true).getD k true=false ->
     (∀ e∈ok.after,Region.binds .any e=true->e.on≠i)->oi.apart ops ok=true:=fun k ok hk Gt Gh oH=>by
     refine nj k ok hk Gt ?_ oH;by_cases nk:j=k
     ·subst nk;exact LB
     ·rw [getD_set_ne true nk] at Gh;exact Gh
    have LC:=inv.set hj pO
    have no:∀ {k:Nat} {p:List Nat},fR ops k p i=true->j=k->False:=fun {k p} SZ e=>by
     subst e;have:=Da inv SZ hj
     rw [getD_both Gh] at this;cases this
    refine wpOp_mono (fun a' w' h3=>⟨fun e => ?_,fun n1 e => ?_,fun n1 n2=>⟨(h3.2.2.2 n1 n2).1,ih SY (listed.setIfInBounds j true) a' w' LC ze (ready_mono hr (Ne.symm ja)) h3.1 (h3.2.2.2 n1 n2).1 ?_⟩⟩) h2
    ·rcases Vq with hT|⟨p,SZ⟩
     ·refine ih (fun w _=>hT w) (listed.setIfInBounds j true) a' w' LC ze (ready_mono hr (Ne.symm ja)) h3.1 trivial ?_;rw [aev _ _ ja];exact h3.2.1 e
     ·exact (no SZ e).elim
    ·rcases zg with hT|⟨p,SZ⟩
     ·refine ⟨(h3.2.2.1 n1 e).1,ih hT (listed.setIfInBounds j true) a' w' LC ze (ready_mono hr (Ne.symm ja)) h3.1 (h3.2.2.1 n1 e).1 ?_⟩;rw [aev _ _ ja];exact (h3.2.2.1 n1 e).2
     ·exact (no SZ e).elim
    ·rw [aev _ _ ja];exact (h3.2.2.2 n1 n2).2
end
structure SF (P:Program) (n:Nat) (ops:Array Oper) (Q:Exit->Act->World->Prop) (fin e8:Nat) (S2:World->Prop) (f:Nat) (listed:Array Bool) (L:Env) (w:World) : Prop where
 out:∀ a,Fit n a L->HeadInv .any ops ops.size listed->xP P ops (NoPanic Q) fin e8 S2 (Ext w) f listed a w
structure SG (P:Program) (n:Nat) (ops:Array Oper) (Q:Exit->Act->World->Prop) (fin e8:Nat) (S2:World->Prop) (f:Nat) (listed:Array Bool) (L:Env) (w:World) : Prop where
 out:∀ a,Fit n a L->HeadInv .any ops ops.size listed->xP P ops (NoPanic Q) fin e8 S2 S2 f listed a w
def Gu (P:Program) (n:Nat) (ops:Array Oper) (Q:Exit->Act->World->Prop) (fin e8:Nat) (S2:World->Prop) (f:Nat) (listed:Array Bool) (w:World) : Exit->Act->World->Prop
 | .normal,a,w'=>Ext w w'∧(HeadInv .any ops ops.size listed->xP P ops (NoPanic Q) fin e8 S2 (Ext w') f listed a w')
 | e,a,w'=>NoPanic Q e a w'
def LF (P:Program) (n:Nat) (ops:Array Oper) (Q:Exit->Act->World->Prop) (fin e8:Nat) (S2:World->Prop) (f:Nat) (listed:Array Bool) : Exit->Act->World->Prop
 | .normal,a,w'=>S2 w'∧(HeadInv .any ops ops.size listed->xP P ops (NoPanic Q) fin e8 S2 S2 f listed a w')
 | e,a,w'=>NoPanic Q e a w'
section
variable {P:Program} {n:Nat} {ops:Array Oper} {Q:Exit->Act->World->Prop} {fin e8 f:Nat} {S2:World->Prop} {listed:Array Bool} {L:Env} {w:World}
theorem Iu (h:(!Nat.beq i e8 && !Nat.beq i fin)=true) : i≠e8∧i≠fin:=by
 simp only [Bool.and_eq_true,Bool.not_eq_true'] at h;exact ⟨fun e=>by subst e;simp at h,fun e=>by subst e;simp at h⟩
theorem SF.take (i:Nat) (p q:List Nat) {o:Oper} (hB:Region.noSelect ops=true) (hi:ops[i]?=some o) (hf:Region.free .any ops listed i=true) (hr:(Region.ready .any ops listed).contains i=true) (hw:((fR ops fin p i && fR ops e8 q i) && (!Nat.beq i e8 && !Nat.beq i fin))=true)
 (h:SW P n ops (.tk fun L'=>SF P n ops Q fin e8 S2 f (listed.setIfInBounds i true) L' w) [o] L w) : SF P n ops Q fin e8 S2 (f+1) listed L w :=
 ⟨fun a ha inv=>by
  have hs:=h.out a ha;rw [adR,adR] at hw;obtain ⟨⟨ai,bt⟩,nT⟩:=hw;obtain ⟨n1,n2⟩:=Iu nT;have ph:i∈Region.ready .any ops listed:=by simpa using hr
  have cy:i<ops.size:=(ado.1 hi).1
  simp only [swp,C0] at hs;by_cases hw:Region.wanted o (yielded ops a.tmps)=true
  ·rw [if_pos hw] at hs;obtain ⟨v,hv,L',Gi,hK⟩:=hs;exact nS (T:=Ext w) hi (Region.noSelect_spec hB) n1 n2 (fun _ _ _ h=>(h:False).elim) (.inr ⟨q,bt⟩) (.inr ⟨p,ai⟩) f (fun _ h=>h) listed a w inv (Region.free_spec hi hf) ph (.inl ⟨hw,hv⟩) (Ext.refl w) (hK.out _ Gi (inv.set ph cy))
  ·rw [if_neg hw] at hs;obtain ⟨L',Gi,hK⟩:=hs;exact nS (T:=Ext w) hi (Region.noSelect_spec hB) n1 n2 (fun _ _ _ h=>(h:False).elim) (.inr ⟨q,bt⟩) (.inr ⟨p,ai⟩) f (fun _ h=>h) listed a w inv (Region.free_spec hi hf) ph (.inr ⟨by simpa using hw,rfl⟩) (Ext.refl w) (hK.out _ Gi (inv.set ph cy))⟩
theorem SF.cr (i:Nat) (q:List Nat) {pos:String} {v:Value} (hB:Region.noSelect ops=true) (hi:ops[i]?=some ⟨some d,op,T,pos,af,none⟩) (hf:Region.free .any ops listed i=true) (hr:(Region.ready .any ops listed).contains i=true) (hw:(fR ops e8 q i && (!Nat.beq i e8 && !Nat.beq i fin))=true)
 (h1:St P ⟨some d,op,T,pos,af,none⟩ L w v) (h2:∀ w2,S2 w2->St P ⟨some d,op,T,pos,af,none⟩ L w2 v) (hn:Nat.blt d n=true) (h:SF P n ops Q fin e8 S2 f (listed.setIfInBounds i true) ((d,v)::L) w) : SF P n ops Q fin e8 S2 (f+1) listed L w :=
 ⟨fun a ha inv=>by
  rw [adR] at hw;obtain ⟨ai,nT⟩:=hw;obtain ⟨n1,n2⟩:=Iu nT;have ph:i∈Region.ready .any ops listed:=by simpa using hr
  have cy:i<ops.size:=(ado.1 hi).1
  exact nS (T:=fun w'=>Ext w w'∨S2 w') hi (Region.noSelect_spec hB) n1 n2 (fun _ _ _ h=>(h:False).elim) (.inr ⟨q,ai⟩) (.inl fun _ => .inr) f (fun _ => .inl) listed a w inv (Region.free_spec hi hf) ph (v:=v)
   (.inl ⟨by simp [Region.wanted],fun w' hh=>by rcases hh with hh|hh;exact h1.out n a ha w' hh;exact (h2 w' hh).out n a ha w' (Ext.refl w')⟩) (Ext.refl w) (h.out _ (ha.put hn v) (inv.set ph cy))⟩
theorem SF.jb (i:Nat) {pos:String} {v:Value} (hB:Region.noSelect ops=true) (hi:ops[i]?=some ⟨some d,op,T,pos,af,none⟩) (hf:Region.free .any ops listed i=true) (hr:(Region.ready .any ops listed).contains i=true) (hw:(!Nat.beq i e8 && !Nat.beq i fin)=true)
 (h1:∀ w2,St P ⟨some d,op,T,pos,af,none⟩ L w2 v) (hn:Nat.blt d n=true) (h:SF P n ops Q fin e8 S2 f (listed.setIfInBounds i true) ((d,v)::L) w) : SF P n ops Q fin e8 S2 (f+1) listed L w :=
 ⟨fun a ha inv=>by
  obtain ⟨n1,n2⟩:=Iu hw;have ph:i∈Region.ready .any ops listed:=by simpa using hr
  have cy:i<ops.size:=(ado.1 hi).1
  exact nS (T:=fun _=>True) hi (Region.noSelect_spec hB) n1 n2 (fun _ _ _ h=>(h:False).elim) (.inl fun _=>trivial) (.inl fun _ _=>trivial) f (fun _ _=>trivial) listed a w inv (Region.free_spec hi hf) ph (v:=v)
   (.inl ⟨by simp [Region.wanted],fun w' _=>(h1 w').out n a ha w' (Ext.refl w')⟩) (Ext.refl w) (h.out _ (ha.put hn v) (inv.set ph cy))⟩
theorem Oper.Ok {o:Oper} {a:Act} {N:Act->World->Prop} (hq:∀ e a w,e ≠ .normal->Q1 e a w->Q2 e a w) (hl:LetsOut Q1->LetsOut Q2) (h:o.wp P a w N Q1) : o.wp P a w N Q2:=by
 unfold Oper.wp at *;generalize (execOp a.eval o).run P w=r at *
 cases r with
 | ok x w' =>
   cases x<;>simp only [Oper.upon] at h ⊢
   case value=>exact h
   case skip=>exact h
   case defer=>exact h
   case row=>exact h
   case enter =>
    refine Calls.mono h fun e Lw he => ?_
    cases e
    ·exact he
    ·exact hq _ _ _ (by simp) he
    ·exact hl he
 | halt x w' =>
   cases x<;>simp only [Oper.upon] at h ⊢
   exact hq _ _ _ (by simp) h
theorem oJ {o:Oper} {a:Act} {K:Act->World->Prop} (hi:ops[i]?=some o) (hq:∀ e a w,e ≠ .normal->Q1 e a w->NoPanic Q e a w) (hl:LetsOut Q1->LetsOut (NoPanic Q)) (conv:∀ a' w',Q1 .normal a' w'->K a' w') (hs:wpList P ops Q1 [o] a w) : wpOp P ops (NoPanic Q) i K a w:=by
 simp only [wpList] at hs;unfold wpOp;simp only [hi];by_cases hw:Region.wanted o (yielded ops a.tmps)=true
 ·rw [if_pos hw] at hs ⊢;rcases hs with hs|⟨h1,h2⟩
  ·exact .inl (Oper.wp_mono conv (Oper.Ok hq hl hs))
  ·exact .inr ⟨h1,hl h2⟩
 ·rw [if_neg hw] at hs ⊢;exact conv _ _ hs
theorem SF.one (i:Nat) {o:Oper} (hi:ops[i]?=some o) (hr:Region.ready .any ops listed=[i]) (hw:(!Nat.beq i e8 && !Nat.beq i fin)=true) (h:SW P n ops (.gM (Gu P n ops Q fin e8 S2 f (listed.setIfInBounds i true) w)) [o] L w) : SF P n ops Q fin e8 S2 (f+1) listed L w :=
 ⟨fun a ha inv=>⟨by rw [hr];simp,fun j hj=>by
  obtain ⟨n1,n2⟩:=Iu hw;have ja:j=i:=by rw [hr] at hj;simpa using hj
  subst ja;have cy:j<ops.size:=(ado.1 hi).1
  refine ⟨cy,oJ (Q1:=Gu P n ops Q fin e8 S2 f (listed.setIfInBounds j true) w) hi (fun e a w ne h=>by cases e<;>first|exact h|exact absurd rfl ne) (fun h=>h) (fun a' w' hh=>⟨fun e=>absurd e n1,fun _ e=>absurd e n2,fun _ _=>⟨hh.1,lc f (fun Lw El=>Ext.trans hh.1 El) _ _ _ (hh.2 (inv.set hj cy))⟩⟩) (h.out a ha)⟩⟩⟩
theorem ae.sf {l:Array Bool} (hx:Ext w0 w) (h:SF P n ops Q fin e8 S2 f l L w) : ae n (Gu P n ops Q fin e8 S2 f l w0) .normal L w:=⟨fun a ha=>⟨hx,h.out a ha⟩⟩
theorem SF.turn {o:Oper} (hi:ops[fin]?=some o) (hr:Region.ready .any ops listed=[fin]) (hw:Nat.beq fin e8=false) (h:SW P n ops (.gM (LF P n ops Q fin e8 S2 f (listed.setIfInBounds fin true))) [o] L w) : SF P n ops Q fin e8 S2 (f+1) listed L w :=
 ⟨fun a ha inv=>⟨by rw [hr];simp,fun j hj=>by
  have ja:j=fin:=by rw [hr] at hj;simpa using hj
  have n1:j≠e8:=fun e=>by rw [<- ja,e] at hw;simp at hw
  subst ja;have cy:j<ops.size:=(ado.1 hi).1
  exact ⟨cy,oJ (Q1:=LF P n ops Q j e8 S2 f (listed.setIfInBounds j true)) hi (fun e a w ne h=>by cases e<;>first|exact h|exact absurd rfl ne) (fun h=>h) (fun a' w' hh=>⟨fun e=>absurd e n1,fun _ _=>⟨hh.1,hh.2 (inv.set hj cy)⟩,fun _ n2=>absurd rfl n2⟩) (h.out a ha)⟩⟩⟩
theorem ae.sg {l:Array Bool} (hx:S2 w) (h:SG P n ops Q fin e8 S2 f l L w) : ae n (LF P n ops Q fin e8 S2 f l) .normal L w:=⟨fun a ha=>⟨hx,h.out a ha⟩⟩
theorem SG.one (i:Nat) {o:Oper} (hi:ops[i]?=some o) (hr:Region.ready .any ops listed=[i]) (hw:(!Nat.beq i e8 && !Nat.beq i fin)=true) (h:SW P n ops (.gM (LF P n ops Q fin e8 S2 f (listed.setIfInBounds i true))) [o] L w) : SG P n ops Q fin e8 S2 (f+1) listed L w :=
 ⟨fun a ha inv=>⟨by rw [hr];simp,fun j hj=>by
  obtain ⟨n1,n2⟩:=Iu hw;have ja:j=i:=by rw [hr] at hj;simpa using hj
  subst ja;have cy:j<ops.size:=(ado.1 hi).1
  exact ⟨cy,oJ (Q1:=LF P n ops Q fin e8 S2 f (listed.setIfInBounds j true)) hi (fun e a w ne h=>by cases e<;>first|exact h|exact absurd rfl ne) (fun h=>h) (fun a' w' hh=>⟨fun e=>absurd e n1,fun _ e=>absurd e n2,fun _ _=>⟨hh.1,hh.2 (inv.set hj cy)⟩⟩) (h.out a ha)⟩⟩⟩
theorem SF.last {o:Oper} (hi:ops[e8]?=some o) (hr:Region.ready .any ops listed=[e8]) (he:Region.ready .any ops (listed.setIfInBounds e8 true)=[]) (h:SW P n ops (.gM (NoPanic Q)) [o] L w) : SF P n ops Q fin e8 S2 1 listed L w :=
 ⟨fun a ha inv=>⟨by rw [hr];simp,fun j hj=>by
  have ja:j=e8:=by rw [hr] at hj;simpa using hj
  subst ja;exact ⟨(ado.1 hi).1,oJ (Q1:=NoPanic Q) hi (fun _ _ _ _ h=>h) (fun h=>h) (fun a' w' hh=>⟨fun _=>⟨he,hh⟩,fun n=>absurd rfl n,fun n=>absurd rfl n⟩) (h.out a ha)⟩⟩⟩
theorem SG.last {o:Oper} (hi:ops[e8]?=some o) (hr:Region.ready .any ops listed=[e8]) (he:Region.ready .any ops (listed.setIfInBounds e8 true)=[]) (h:SW P n ops (.gM (NoPanic Q)) [o] L w) : SG P n ops Q fin e8 S2 1 listed L w :=
 ⟨fun a ha inv=>⟨by rw [hr];simp,fun j hj=>by
  have ja:j=e8:=by rw [hr] at hj;simpa using hj
  subst ja;exact ⟨(ado.1 hi).1,oJ (Q1:=NoPanic Q) hi (fun _ _ _ _ h=>h) (fun h=>h) (fun a' w' hh=>⟨fun _=>⟨he,hh⟩,fun n=>absurd rfl n,fun n=>absurd rfl n⟩) (h.out a ha)⟩⟩⟩
theorem CW.gn {id:Nat} {l:List Oper} (fin e8:Nat) (S2:World->Prop) (hm:P.follows .mixedOrders=true) (hB:Region.noSelect l.toArray=true) (h:∀ w',Ext w w'->Region.noSelect l.toArray=true->SF P n l.toArray Q fin e8 S2 l.length (Array.replicate l.length false) L w') : CW P n (.region id l.toArray true) Q L w :=
 ⟨fun a ha=>by
  refine wp_region_noPanic (wp_region_any hm ?_);have h0:=(h _ (Ext.drew w) hB).out a ha ⟨by simp,fun j oj _ hl=>(by rw [getD_replicate_false] at hl;cases hl),fun t h1 h2=>absurd h2 (Nat.not_lt.2 h1)⟩;have:=oI _ _ _ _ h0
  simpa using this⟩
end

structure Jq (T : Prop) : Prop where
  out : T
section
variable {P : Program} {n : Nat} {ops : Array Oper} {L : Env} {w : World} {d : Option Nat} {T : TypeId} {pos : String} {af : Array Edge} {g : Option (Nat × Bool)}
theorem zh {t : TypeId} [gV P t] {x : Operand} {b i : Nat} {tb : TypeId} {cs : List Value} {v : Value} (hx : cT L x = some (.pointer (some ⟨b, i, none⟩))) (h : aS w b tb cs ∧ cs[i]? = some v := by (apply And.intro; assumption; rfl)) : St P ⟨d, .load t x, T, pos, af, g⟩ L w v :=
  aU hx (by have := h.1.cell h.2; rwa [dc] at this)
theorem vZ {t : TypeId} {m : Nat} [c : fE P t m] {x : Operand} {b : Nat} {tb : TypeId} {cs : List Value} (hx : cT L x = some (.pointer (some ⟨b, 0, none⟩))) (h : aS w b tb cs ∧ cs.length = m := by (apply And.intro; assumption; rfl)) : St P ⟨d, .load t x, T, pos, af, g⟩ L w (.agg cs.toArray) :=
  aX hx h.2 fun _ _ hv => h.1.cell hv
def XY (ops : Array Oper) (k i : Nat) : List Nat := bif fR ops k [] i then [] else (((List.range ops.size).find? fun j => fR ops k [j] i).map fun j => [j]).getD ((((List.range ops.size).flatMap fun j => (List.range ops.size).map fun m => [j, m]).find? fun p => fR ops k p i).getD [])
theorem SF.cG {Q : Exit -> Act -> World -> Prop} {fin e8 f : Nat} {S2 : World -> Prop} {listed : Array Bool} (i : Nat) {o : Oper} (h : SW P n ops (.tk fun L' => SF P n ops Q fin e8 S2 f (listed.setIfInBounds i true) L' w) [o] L w) (hB : Region.noSelect ops = true := by assumption) (hi : ops[i]? = some o := by rfl) (hf : Region.free .any ops listed i = true := by decide +kernel) (hr : (Region.ready .any ops listed).contains i = true := by decide +kernel) (hw : ((fR ops fin (XY ops fin i) i && fR ops e8 (XY ops e8 i) i) && (!Nat.beq i e8 && !Nat.beq i fin)) = true := by decide +kernel) : SF P n ops Q fin e8 S2 (f + 1) listed L w := SF.take i _ _ hB hi hf hr hw h
theorem SA.cG {Q : Exit -> Act -> World -> Prop} {nh f : Nat} {tl : List Oper} {listed : Array Bool} (i : Nat) {o : Oper} (h : SW P n ops (.tk fun L' => SA P n ops Q nh tl f (listed.setIfInBounds i true) L' w) [o] L w) (hB : RB ops nh := by assumption) (hi : ops[i]? = some o := by rfl) (hf : Region.free .any ops listed i = true := by decide +kernel) (hr : (Region.ready .any ops listed).contains i = true := by decide +kernel) (eX : Nat.blt i nh = true := by rfl) : SA P n ops Q nh tl (f + 1) listed L w := SA.take i hB hi hf hr eX h
/-- one operation of a UP region, whole: Wt, Wp ahead of 'Zx (SF), Wu, Wq where all extend (SA) -/
theorem Wt {Q : Exit -> Act -> World -> Prop} {fin e8 f : Nat} {S2 : World -> Prop} {listed : Array Bool} (i : Nat) (p q : List Nat) {op : Op} {d : Nat} {v : Value} (hB : Region.noSelect ops = true) (hi : ops[i]? = some ⟨some d, op, T, pos, af, none⟩) (hs : St P ⟨some d, op, T, pos, af, none⟩ L w v)
    (h : SF P n ops Q fin e8 S2 f (listed.setIfInBounds i true) ((d, v) :: L) w) (hn : Nat.blt d n = true := by rfl) (hf : Region.free .any ops listed i = true := by kernel_rfl) (hr : (Region.ready .any ops listed).contains i = true := by kernel_rfl)
    (hw : ((fR ops fin p i && fR ops e8 q i) && (!Nat.beq i e8 && !Nat.beq i fin)) = true := by kernel_rfl) : SF P n ops Q fin e8 S2 (f + 1) listed L w := SF.take i p q hB hi hf hr hw (SW.st hs hn (SW.Ef h))
theorem Wp {Q : Exit -> Act -> World -> Prop} {fin e8 f : Nat} {S2 : World -> Prop} {listed : Array Bool} (i : Nat) (p q : List Nat) {op : Op} {d : Nat} {v : Value} (hB : Region.noSelect ops = true) (hi : ops[i]? = some ⟨some d, op, T, pos, af, none⟩) (hs : tM L op = some v)
    (h : SF P n ops Q fin e8 S2 f (listed.setIfInBounds i true) ((d, v) :: L) w) (hn : Nat.blt d n = true := by rfl) (hf : Region.free .any ops listed i = true := by kernel_rfl) (hr : (Region.ready .any ops listed).contains i = true := by kernel_rfl)
    (hw : ((fR ops fin p i && fR ops e8 q i) && (!Nat.beq i e8 && !Nat.beq i fin)) = true := by kernel_rfl) : SF P n ops Q fin e8 S2 (f + 1) listed L w := SF.take i p q hB hi hf hr hw (SW.st (aR hs) hn (SW.Ef h))
theorem Wu {Q : Exit -> Act -> World -> Prop} {nh f : Nat} {tl : List Oper} {listed : Array Bool} (i : Nat) {op : Op} {d : Nat} {v : Value} (hB : RB ops nh) (hi : ops[i]? = some ⟨some d, op, T, pos, af, none⟩) (hs : St P ⟨some d, op, T, pos, af, none⟩ L w v)
    (h : SA P n ops Q nh tl f (listed.setIfInBounds i true) ((d, v) :: L) w) (hn : Nat.blt d n = true := by rfl) (hf : Region.free .any ops listed i = true := by kernel_rfl) (hr : (Region.ready .any ops listed).contains i = true := by kernel_rfl) (eX : Nat.blt i nh = true := by rfl) : SA P n ops Q nh tl (f + 1) listed L w := SA.take i hB hi hf hr eX (SW.st hs hn (SW.Ef h))
theorem Wq {Q : Exit -> Act -> World -> Prop} {nh f : Nat} {tl : List Oper} {listed : Array Bool} (i : Nat) {op : Op} {d : Nat} {v : Value} (hB : RB ops nh) (hi : ops[i]? = some ⟨some d, op, T, pos, af, none⟩) (hs : tM L op = some v)
    (h : SA P n ops Q nh tl f (listed.setIfInBounds i true) ((d, v) :: L) w) (hn : Nat.blt d n = true := by rfl) (hf : Region.free .any ops listed i = true := by kernel_rfl) (hr : (Region.ready .any ops listed).contains i = true := by kernel_rfl) (eX : Nat.blt i nh = true := by rfl) : SA P n ops Q nh tl (f + 1) listed L w := SA.take i hB hi hf hr eX (SW.st (aR hs) hn (SW.Ef h))
end
section
variable {P : Program} {n : Nat} {ops : Array Oper} {M : Md} {Q : Exit -> Act -> World -> Prop} {rest : List Oper} {L : Env} {w w0 : World} {d : Nat} {T : TypeId} {pos : String} {af : Array Edge} {t : TypeId}
theorem Wl [gV P t] {x : Operand} {ad : Addr} {v : Value} (hc : w.cell? ad = some v) (h : SW P n ops M rest ((d, v) :: L) w) (hx : cT L x = some (.pointer (some ad)) := by rfl) (hn : Nat.blt d n = true := by rfl) : SW P n ops M (⟨some d, .load t x, T, pos, af, none⟩ :: rest) L w := SW.st (aU hx hc) hn h
theorem Wn [gV P t] {x : Operand} {ad : Addr} {v : Value} (hw : Ext w0 w) (hc : w0.cell? ad = some v) (h : SW P n ops M rest ((d, v) :: L) w) (hx : cT L x = some (.pointer (some ad)) := by rfl) (hn : Nat.blt d n = true := by rfl) : SW P n ops M (⟨some d, .load t x, T, pos, af, none⟩ :: rest) L w := SW.st (mG hw hx hc) hn h
theorem Wm {m : Nat} [fE P t m] {x : Operand} {ad : Addr} {vs : List Value} (hc : ∀ j v, vs[j]? = some v -> w.cell? (ad.add j) = some v) (h : SW P n ops M rest ((d, .agg vs.toArray) :: L) w) (hx : cT L x = some (.pointer (some ad)) := by rfl) (hm : vs.length = m := by rfl) (hn : Nat.blt d n = true := by rfl) : SW P n ops M (⟨some d, .load t x, T, pos, af, none⟩ :: rest) L w := SW.st (aX hx hm hc) hn h
theorem Wo {m : Nat} [fE P t m] {x : Operand} {ad : Addr} {vs : List Value} (hw : Ext w0 w) (hc : ∀ j v, vs[j]? = some v -> w0.cell? (ad.add j) = some v) (h : SW P n ops M rest ((d, .agg vs.toArray) :: L) w) (hx : cT L x = some (.pointer (some ad)) := by rfl) (hm : vs.length = m := by rfl) (hn : Nat.blt d n = true := by rfl) : SW P n ops M (⟨some d, .load t x, T, pos, af, none⟩ :: rest) L w := SW.st (vX hw hx hm hc) hn h
theorem Wb {b i : Nat} {t' : TypeId} {cs : List Value} [gV P t'] {x y : Operand} {v : Value} (hB : aS w b t cs) (h : ∀ w', aS w' b t (cs.set i v) -> w.grownBy w' (some b) -> SW P n ops (.gM Q) rest L w') (hx : cT L x = some (.pointer (some ((⟨b, 0, none⟩ : Addr).add i))) := by rfl) (hy : cT L y = some v := by rfl) (h1 : v.oneCell' = true := by rfl) (hi : Nat.blt i cs.length = true := by rfl) : SW P n ops (.gM Q) (⟨none, .store t' x y, T, pos, af, none⟩ :: rest) L w := SW.sb hB hx hy h1 hi h
theorem Wk {f : FuncId} {xs : List Operand} {vs : List Value} {ts : Array TypeId} {R : Value -> World -> Prop} [Body P f] (hc : bF P f vs w R) (h : ∀ v w', Ext w w' -> R v w' -> SW P n ops (.gM Q) rest ((d, v) :: L) w') (hx : uT L xs = some vs := by rfl) (hn : Nat.blt d n = true := by rfl) : SW P n ops (.gM Q) (⟨some d, .call ⟨.value (.func f), xs.toArray, ts⟩, T, pos, af, none⟩ :: rest) L w := SW.call hx hn hc h
end
theorem Ext.up {w w' : World} {b : Nat} (h : Ext w w') (k : w'.heap.size <= b) : w.heap.size <= b := adf h.size k
theorem oK {G A B : Prop} (g : G) (a : A) (h : G -> A -> B := by
    intro g h
    first
      | exact h.ext g
      | exact h.aK g rfl
      | exact h.trans g) : B := h g a
theorem df {G A0 A1 B0 B1 : Prop} (g : G) (a0 : A0) (a1 : A1) (h0 : G -> A0 -> B0 := by
    intro g h
    exact oK g h) (h1 : G -> A1 -> B1 := by
    intro g h
    exact oK g h) : B0 ∧ B1 := ⟨h0 g a0, h1 g a1⟩
theorem cn {G A0 A1 A2 B0 B1 B2 : Prop} (g : G) (a0 : A0) (a1 : A1) (a2 : A2) (h0 : G -> A0 -> B0 := by
    intro g h
    exact oK g h) (h1 : G -> A1 -> B1 := by
    intro g h
    exact oK g h) (h2 : G -> A2 -> B2 := by
    intro g h
    exact oK g h) : B0 ∧ B1 ∧ B2 := ⟨h0 g a0, h1 g a1, h2 g a2⟩
theorem dv {G A0 A1 A2 A3 B0 B1 B2 B3 : Prop} (g : G) (a0 : A0) (a1 : A1) (a2 : A2) (a3 : A3) (h0 : G -> A0 -> B0 := by
    intro g h
    exact oK g h) (h1 : G -> A1 -> B1 := by
    intro g h
    exact oK g h) (h2 : G -> A2 -> B2 := by
    intro g h
    exact oK g h) (h3 : G -> A3 -> B3 := by
    intro g h
    exact oK g h) : B0 ∧ B1 ∧ B2 ∧ B3 := ⟨h0 g a0, h1 g a1, h2 g a2, h3 g a3⟩
theorem fD {G A0 A1 A2 A3 A4 B0 B1 B2 B3 B4 : Prop} (g : G) (a0 : A0) (a1 : A1) (a2 : A2) (a3 : A3) (a4 : A4) (h0 : G -> A0 -> B0 := by
    intro g h
    exact oK g h) (h1 : G -> A1 -> B1 := by
    intro g h
    exact oK g h) (h2 : G -> A2 -> B2 := by
    intro g h
    exact oK g h) (h3 : G -> A3 -> B3 := by
    intro g h
    exact oK g h) (h4 : G -> A4 -> B4 := by
    intro g h
    exact oK g h) : B0 ∧ B1 ∧ B2 ∧ B3 ∧ B4 := ⟨h0 g a0, h1 g a1, h2 g a2, h3 g a3, h4 g a4⟩
theorem gw {G A0 A1 A2 A3 A4 A5 B0 B1 B2 B3 B4 B5 : Prop} (g : G) (a0 : A0) (a1 : A1) (a2 : A2) (a3 : A3) (a4 : A4) (a5 : A5) (h0 : G -> A0 -> B0 := by
    intro g h
    exact oK g h) (h1 : G -> A1 -> B1 := by
    intro g h
    exact oK g h) (h2 : G -> A2 -> B2 := by
    intro g h
    exact oK g h) (h3 : G -> A3 -> B3 := by
    intro g h
    exact oK g h) (h4 : G -> A4 -> B4 := by
    intro g h
    exact oK g h) (h5 : G -> A5 -> B5 := by
    intro g h
    exact oK g h) : B0 ∧ B1 ∧ B2 ∧ B3 ∧ B4 ∧ B5 := ⟨h0 g a0, h1 g a1, h2 g a2, h3 g a3, h4 g a4, h5 g a5⟩
theorem uK {G A0 A1 A2 A3 A4 A5 A6 B0 B1 B2 B3 B4 B5 B6 : Prop} (g : G) (a0 : A0) (a1 : A1) (a2 : A2) (a3 : A3) (a4 : A4) (a5 : A5) (a6 : A6) (h0 : G -> A0 -> B0 := by
    intro g h
    exact oK g h) (h1 : G -> A1 -> B1 := by
    intro g h
    exact oK g h) (h2 : G -> A2 -> B2 := by
    intro g h
    exact oK g h) (h3 : G -> A3 -> B3 := by
    intro g h
    exact oK g h) (h4 : G -> A4 -> B4 := by
    intro g h
    exact oK g h) (h5 : G -> A5 -> B5 := by
    intro g h
    exact oK g h) (h6 : G -> A6 -> B6 := by
    intro g h
    exact oK g h) : B0 ∧ B1 ∧ B2 ∧ B3 ∧ B4 ∧ B5 ∧ B6 := ⟨h0 g a0, h1 g a1, h2 g a2, h3 g a3, h4 g a4, h5 g a5, h6 g a6⟩
theorem xQ {G A0 A1 A2 A3 A4 A5 A6 A7 B0 B1 B2 B3 B4 B5 B6 B7 : Prop} (g : G) (a0 : A0) (a1 : A1) (a2 : A2) (a3 : A3) (a4 : A4) (a5 : A5) (a6 : A6) (a7 : A7) (h0 : G -> A0 -> B0 := by
    intro g h
    exact oK g h) (h1 : G -> A1 -> B1 := by
    intro g h
    exact oK g h) (h2 : G -> A2 -> B2 := by
    intro g h
    exact oK g h) (h3 : G -> A3 -> B3 := by
    intro g h
    exact oK g h) (h4 : G -> A4 -> B4 := by
    intro g h
    exact oK g h) (h5 : G -> A5 -> B5 := by
    intro g h
    exact oK g h) (h6 : G -> A6 -> B6 := by
    intro g h
    exact oK g h) (h7 : G -> A7 -> B7 := by
    intro g h
    exact oK g h) : B0 ∧ B1 ∧ B2 ∧ B3 ∧ B4 ∧ B5 ∧ B6 ∧ B7 := ⟨h0 g a0, h1 g a1, h2 g a2, h3 g a3, h4 g a4, h5 g a5, h6 g a6, h7 g a7⟩
theorem LG {G A0 A1 A2 A3 A4 A5 A6 A7 A8 B0 B1 B2 B3 B4 B5 B6 B7 B8 : Prop} (g : G) (a0 : A0) (a1 : A1) (a2 : A2) (a3 : A3) (a4 : A4) (a5 : A5) (a6 : A6) (a7 : A7) (a8 : A8) (h0 : G -> A0 -> B0 := by
    intro g h
    exact oK g h) (h1 : G -> A1 -> B1 := by
    intro g h
    exact oK g h) (h2 : G -> A2 -> B2 := by
    intro g h
    exact oK g h) (h3 : G -> A3 -> B3 := by
    intro g h
    exact oK g h) (h4 : G -> A4 -> B4 := by
    intro g h
    exact oK g h) (h5 : G -> A5 -> B5 := by
    intro g h
    exact oK g h) (h6 : G -> A6 -> B6 := by
    intro g h
    exact oK g h) (h7 : G -> A7 -> B7 := by
    intro g h
    exact oK g h) (h8 : G -> A8 -> B8 := by
    intro g h
    exact oK g h) : B0 ∧ B1 ∧ B2 ∧ B3 ∧ B4 ∧ B5 ∧ B6 ∧ B7 ∧ B8 := ⟨h0 g a0, h1 g a1, h2 g a2, h3 g a3, h4 g a4, h5 g a5, h6 g a6, h7 g a7, h8 g a8⟩
theorem Wz {g T : Prop} (h : T) (hg : Jq T -> g := by
    intro h
    (first
      | (show CW _ _ _ _ _ _; first | refine CW.seq ?_ | refine CW.region ?_ | refine CW.block ?_ | refine CW.C3 rfl (by with_reducible rfl) ?_ | refine CW.C4 rfl (by with_reducible rfl) ?_ | refine CW.uQ rfl (by omega) ?_ | refine CW.yl rfl (by omega) ?_ | refine CW.uR rfl (by omega) ?_ | refine CW.uS rfl (by omega) ?_ | refine CW.skip ?_ | refine CW.ret ?_ | refine CW.exit ?_)
      | (show ae _ _ _ _ _; first | refine ae.seq ?_ | refine ae.uN ?_ | refine ae.uO ?_ | refine ae.hit ?_ | refine ae.pass rfl ?_ | refine ae.eM ?_ | refine ae.ym ?_ | refine ae.qD ?_ | refine ae.sW ?_ | refine ae.np ?_)
      | refine SW.nil ?_
      | (show SW _ _ _ _ (⟨_, _, _, _, _, some _⟩ :: _) _ _; first | refine SW.yU rfl rfl (by with_reducible rfl) ?_ | refine SW.yV rfl rfl (by with_reducible rfl) ?_ | refine SW.yW rfl rfl (by with_reducible rfl) rfl ?_ | refine SW.yX rfl rfl (by with_reducible rfl) rfl ?_ | refine SW.yY rfl rfl (by with_reducible rfl) rfl ?_ | refine SW.rW rfl rfl rfl (by omega) ?_ | refine SW.rX rfl rfl rfl (by omega) ?_ | refine SW.rY rfl rfl rfl (by omega) ?_ | refine SW.rZ rfl rfl rfl (by omega) ?_)
      | refine SW.pure rfl rfl ?_
      | (show SW _ _ _ _ (⟨_, Op.fieldAddr _ _ _, _, _, _, none⟩ :: _) _ _; refine SW.st (aA rfl) rfl ?_)
      | (show SW _ _ _ _ (⟨_, Op.nilCheck _, _, _, _, none⟩ :: _) _ _; refine SW.st (aF rfl) rfl ?_)
      | (show SW _ _ _ _ (⟨_, Op.build _ _, _, _, _, none⟩ :: _) _ _; refine SW.st (fZ rfl rfl) rfl ?_)
      | (show SW _ _ _ _ (⟨_, Op.binOp _ _ _ _ _, _, _, _, none⟩ :: _) _ _; first | refine SW.st (y5 rfl rfl (by omega) (by omega)) rfl ?_ | refine SW.st (y6 rfl rfl (by omega) (by omega)) rfl ?_ | refine SW.st (pd rfl rfl (by omega) (by omega)) rfl ?_ | refine SW.st (y7 rfl rfl (by omega) (by omega) (by omega)) rfl ?_ | refine SW.st (y8 rfl rfl (by omega)) rfl ?_)
      | (show SW _ _ _ _ (⟨_, Op.indexAddr _ _ _, _, _, _, none⟩ :: _) _ _; refine SW.st (cd rfl rfl (by assumption) (by omega)) rfl ?_)
      | (show SW _ _ _ _ (⟨_, Op.call ⟨.builtin .len, _, _⟩, _, _, _, none⟩ :: _) _ _; refine SW.st (y9 rfl) rfl ?_)
      | (show SW _ _ _ _ (⟨_, Op.call ⟨.builtin .cap, _, _⟩, _, _, _, none⟩ :: _) _ _; refine SW.st (zf rfl) rfl ?_)
      | (show SW _ _ _ _ (⟨_, Op.load _ _, _, _, _, none⟩ :: _) _ _; first | refine SW.st (zh rfl) rfl ?_ | refine SW.st (vZ rfl) rfl ?_))
    repeat' (first
      | (show CW _ _ _ _ _ _; first | refine CW.seq ?_ | refine CW.region ?_ | refine CW.block ?_ | refine CW.C3 rfl (by with_reducible rfl) ?_ | refine CW.C4 rfl (by with_reducible rfl) ?_ | refine CW.uQ rfl (by omega) ?_ | refine CW.yl rfl (by omega) ?_ | refine CW.uR rfl (by omega) ?_ | refine CW.uS rfl (by omega) ?_ | refine CW.skip ?_ | refine CW.ret ?_ | refine CW.exit ?_)
      | (show ae _ _ _ _ _; first | refine ae.seq ?_ | refine ae.uN ?_ | refine ae.uO ?_ | refine ae.hit ?_ | refine ae.pass rfl ?_ | refine ae.eM ?_ | refine ae.ym ?_ | refine ae.qD ?_ | refine ae.sW ?_ | refine ae.np ?_)
      | refine SW.nil ?_
      | (show SW _ _ _ _ (⟨_, _, _, _, _, some _⟩ :: _) _ _; first | refine SW.yU rfl rfl (by with_reducible rfl) ?_ | refine SW.yV rfl rfl (by with_reducible rfl) ?_ | refine SW.yW rfl rfl (by with_reducible rfl) rfl ?_ | refine SW.yX rfl rfl (by with_reducible rfl) rfl ?_ | refine SW.yY rfl rfl (by with_reducible rfl) rfl ?_ | refine SW.rW rfl rfl rfl (by omega) ?_ | refine SW.rX rfl rfl rfl (by omega) ?_ | refine SW.rY rfl rfl rfl (by omega) ?_ | refine SW.rZ rfl rfl rfl (by omega) ?_)
      | refine SW.pure rfl rfl ?_
      | (show SW _ _ _ _ (⟨_, Op.fieldAddr _ _ _, _, _, _, none⟩ :: _) _ _; refine SW.st (aA rfl) rfl ?_)
      | (show SW _ _ _ _ (⟨_, Op.nilCheck _, _, _, _, none⟩ :: _) _ _; refine SW.st (aF rfl) rfl ?_)
      | (show SW _ _ _ _ (⟨_, Op.build _ _, _, _, _, none⟩ :: _) _ _; refine SW.st (fZ rfl rfl) rfl ?_)
      | (show SW _ _ _ _ (⟨_, Op.binOp _ _ _ _ _, _, _, _, none⟩ :: _) _ _; first | refine SW.st (y5 rfl rfl (by omega) (by omega)) rfl ?_ | refine SW.st (y6 rfl rfl (by omega) (by omega)) rfl ?_ | refine SW.st (pd rfl rfl (by omega) (by omega)) rfl ?_ | refine SW.st (y7 rfl rfl (by omega) (by omega) (by omega)) rfl ?_ | refine SW.st (y8 rfl rfl (by omega)) rfl ?_)
      | (show SW _ _ _ _ (⟨_, Op.indexAddr _ _ _, _, _, _, none⟩ :: _) _ _; refine SW.st (cd rfl rfl (by assumption) (by omega)) rfl ?_)
      | (show SW _ _ _ _ (⟨_, Op.call ⟨.builtin .len, _, _⟩, _, _, _, none⟩ :: _) _ _; refine SW.st (y9 rfl) rfl ?_)
      | (show SW _ _ _ _ (⟨_, Op.call ⟨.builtin .cap, _, _⟩, _, _, _, none⟩ :: _) _ _; refine SW.st (zf rfl) rfl ?_)
      | (show SW _ _ _ _ (⟨_, Op.load _ _, _, _, _, none⟩ :: _) _ _; first | refine SW.st (zh rfl) rfl ?_ | refine SW.st (vZ rfl) rfl ?_)
      | exact h.out)) : g := hg ⟨h⟩

theorem Ws {g T : Prop} (h : T) (hg : Jq T -> g := by
    intro h
    repeat' (first
      | (show SW _ _ _ _ (⟨_, _, _, _, _, some _⟩ :: _) _ _; first | refine SW.yU rfl rfl (by with_reducible rfl) ?_ | refine SW.yV rfl rfl (by with_reducible rfl) ?_ | refine SW.yW rfl rfl (by with_reducible rfl) rfl ?_ | refine SW.yX rfl rfl (by with_reducible rfl) rfl ?_ | refine SW.yY rfl rfl (by with_reducible rfl) rfl ?_ | refine SW.rW rfl rfl rfl (by omega) ?_ | refine SW.rX rfl rfl rfl (by omega) ?_ | refine SW.rY rfl rfl rfl (by omega) ?_ | refine SW.rZ rfl rfl rfl (by omega) ?_)
      | refine SW.pure rfl rfl ?_
      | (show SW _ _ _ _ (⟨_, Op.fieldAddr _ _ _, _, _, _, none⟩ :: _) _ _; refine SW.st (aA rfl) rfl ?_)
      | (show SW _ _ _ _ (⟨_, Op.nilCheck _, _, _, _, none⟩ :: _) _ _; refine SW.st (aF rfl) rfl ?_)
      | (show SW _ _ _ _ (⟨_, Op.build _ _, _, _, _, none⟩ :: _) _ _; refine SW.st (fZ rfl rfl) rfl ?_)
      | (show SW _ _ _ _ (⟨_, Op.binOp _ _ _ _ _, _, _, _, none⟩ :: _) _ _; first | refine SW.st (y5 rfl rfl (by omega) (by omega)) rfl ?_ | refine SW.st (y6 rfl rfl (by omega) (by omega)) rfl ?_ | refine SW.st (pd rfl rfl (by omega) (by omega)) rfl ?_ | refine SW.st (y7 rfl rfl (by omega) (by omega) (by omega)) rfl ?_ | refine SW.st (y8 rfl rfl (by omega)) rfl ?_)
      | (show SW _ _ _ _ (⟨_, Op.indexAddr _ _ _, _, _, _, none⟩ :: _) _ _; refine SW.st (cd rfl rfl (by assumption) (by omega)) rfl ?_)
      | (show SW _ _ _ _ (⟨_, Op.call ⟨.builtin .len, _, _⟩, _, _, _, none⟩ :: _) _ _; refine SW.st (y9 rfl) rfl ?_)
      | (show SW _ _ _ _ (⟨_, Op.call ⟨.builtin .cap, _, _⟩, _, _, _, none⟩ :: _) _ _; refine SW.st (zf rfl) rfl ?_)
      | (show SW _ _ _ _ (⟨_, Op.load _ _, _, _, _, none⟩ :: _) _ _; first | refine SW.st (zh rfl) rfl ?_ | refine SW.st (vZ rfl) rfl ?_)
      | exact h.out)) : g := hg ⟨h⟩
theorem Wv {g T : Prop} (h : T) (hg : Jq T -> g := by
    intro h
    refine Ws ?_
    refine SW.Ef ?_
    exact h.out) : g := hg ⟨h⟩

theorem Wa {g T : Prop} (h : T) (hg : Jq T -> g := by
    intro h
    repeat' (first
      | (refine SA.cG 0 ?_; refine Wv ?_)
      | (refine SA.cG 1 ?_; refine Wv ?_)
      | (refine SA.cG 2 ?_; refine Wv ?_)
      | (refine SA.cG 3 ?_; refine Wv ?_)
      | (refine SA.cG 4 ?_; refine Wv ?_)
      | (refine SA.cG 5 ?_; refine Wv ?_)
      | (refine SA.cG 6 ?_; refine Wv ?_)
      | (refine SA.cG 7 ?_; refine Wv ?_)
      | (refine SA.cG 8 ?_; refine Wv ?_)
      | (refine SA.cG 9 ?_; refine Wv ?_)
      | (refine SA.cG 10 ?_; refine Wv ?_)
      | (refine SA.cG 11 ?_; refine Wv ?_)
      | (refine SA.cG 12 ?_; refine Wv ?_)
      | (refine SA.cG 13 ?_; refine Wv ?_)
      | (refine SA.cG 14 ?_; refine Wv ?_)
      | (refine SA.cG 15 ?_; refine Wv ?_)
      | (refine SA.cG 16 ?_; refine Wv ?_)
      | (refine SA.cG 17 ?_; refine Wv ?_)
      | (refine SA.cG 18 ?_; refine Wv ?_)
      | (refine SA.cG 19 ?_; refine Wv ?_)
      | (refine SA.cG 20 ?_; refine Wv ?_)
      | (refine SA.cG 21 ?_; refine Wv ?_)
      | (refine SA.cG 22 ?_; refine Wv ?_)
      | (refine SA.cG 23 ?_; refine Wv ?_)
      | (refine SA.cG 24 ?_; refine Wv ?_)
      | (refine SA.cG 25 ?_; refine Wv ?_)
      | (refine SA.cG 26 ?_; refine Wv ?_)
      | (refine SA.cG 27 ?_; refine Wv ?_)
      | (refine SA.cG 28 ?_; refine Wv ?_)
      | (refine SA.cG 29 ?_; refine Wv ?_)
      | exact h.out)) : g := hg ⟨h⟩

theorem Wf {g T : Prop} (h : T) (hg : Jq T -> g := by
    intro h
    repeat' (first
      | (refine SF.cG 0 ?_; refine Wv ?_)
      | (refine SF.cG 1 ?_; refine Wv ?_)
      | (refine SF.cG 2 ?_; refine Wv ?_)
      | (refine SF.cG 3 ?_; refine Wv ?_)
      | (refine SF.cG 4 ?_; refine Wv ?_)
      | (refine SF.cG 5 ?_; refine Wv ?_)
      | (refine SF.cG 6 ?_; refine Wv ?_)
      | (refine SF.cG 7 ?_; refine Wv ?_)
      | (refine SF.cG 8 ?_; refine Wv ?_)
      | (refine SF.cG 9 ?_; refine Wv ?_)
      | (refine SF.cG 10 ?_; refine Wv ?_)
      | (refine SF.cG 11 ?_; refine Wv ?_)
      | (refine SF.cG 12 ?_; refine Wv ?_)
      | (refine SF.cG 13 ?_; refine Wv ?_)
      | (refine SF.cG 14 ?_; refine Wv ?_)
      | (refine SF.cG 15 ?_; refine Wv ?_)
      | (refine SF.cG 16 ?_; refine Wv ?_)
      | (refine SF.cG 17 ?_; refine Wv ?_)
      | (refine SF.cG 18 ?_; refine Wv ?_)
      | (refine SF.cG 19 ?_; refine Wv ?_)
      | (refine SF.cG 20 ?_; refine Wv ?_)
      | (refine SF.cG 21 ?_; refine Wv ?_)
      | (refine SF.cG 22 ?_; refine Wv ?_)
      | (refine SF.cG 23 ?_; refine Wv ?_)
      | (refine SF.cG 24 ?_; refine Wv ?_)
      | (refine SF.cG 25 ?_; refine Wv ?_)
      | (refine SF.cG 26 ?_; refine Wv ?_)
      | (refine SF.cG 27 ?_; refine Wv ?_)
      | (refine SF.cG 28 ?_; refine Wv ?_)
      | (refine SF.cG 29 ?_; refine Wv ?_)
      | exact h.out)) : g := hg ⟨h⟩

theorem Wy {g T : Prop} (h : T) (hg : Jq T -> g := by
    intro h
    (first
      | (show CW _ _ _ _ _ _; first | refine CW.seq ?_ | refine CW.region ?_ | refine CW.block ?_ | refine CW.C3 rfl (by with_reducible rfl) ?_ | refine CW.C4 rfl (by with_reducible rfl) ?_ | refine CW.uQ rfl (by omega) ?_ | refine CW.yl rfl (by omega) ?_ | refine CW.uR rfl (by omega) ?_ | refine CW.uS rfl (by omega) ?_ | refine CW.skip ?_ | refine CW.ret ?_ | refine CW.exit ?_)
      | (show ae _ _ _ _ _; first | refine ae.seq ?_ | refine ae.uN ?_ | refine ae.uO ?_ | refine ae.hit ?_ | refine ae.pass rfl ?_ | refine ae.eM ?_ | refine ae.ym ?_ | refine ae.qD ?_ | refine ae.sW ?_ | refine ae.np ?_)
      | refine SW.nil ?_
      | (show SW _ _ _ _ (⟨_, _, _, _, _, some _⟩ :: _) _ _; first | refine SW.yU rfl rfl (by with_reducible rfl) ?_ | refine SW.yV rfl rfl (by with_reducible rfl) ?_ | refine SW.yW rfl rfl (by with_reducible rfl) rfl ?_ | refine SW.yX rfl rfl (by with_reducible rfl) rfl ?_ | refine SW.yY rfl rfl (by with_reducible rfl) rfl ?_ | refine SW.rW rfl rfl rfl (by omega) ?_ | refine SW.rX rfl rfl rfl (by omega) ?_ | refine SW.rY rfl rfl rfl (by omega) ?_ | refine SW.rZ rfl rfl rfl (by omega) ?_)
      | refine SW.pure rfl rfl ?_
      | (show SW _ _ _ _ (⟨_, Op.fieldAddr _ _ _, _, _, _, none⟩ :: _) _ _; refine SW.st (aA rfl) rfl ?_)
      | (show SW _ _ _ _ (⟨_, Op.nilCheck _, _, _, _, none⟩ :: _) _ _; refine SW.st (aF rfl) rfl ?_)
      | (show SW _ _ _ _ (⟨_, Op.build _ _, _, _, _, none⟩ :: _) _ _; refine SW.st (fZ rfl rfl) rfl ?_)
      | (show SW _ _ _ _ (⟨_, Op.binOp _ _ _ _ _, _, _, _, none⟩ :: _) _ _; first | refine SW.st (y5 rfl rfl (by omega) (by omega)) rfl ?_ | refine SW.st (y6 rfl rfl (by omega) (by omega)) rfl ?_ | refine SW.st (pd rfl rfl (by omega) (by omega)) rfl ?_ | refine SW.st (y7 rfl rfl (by omega) (by omega) (by omega)) rfl ?_ | refine SW.st (y8 rfl rfl (by omega)) rfl ?_)
      | (show SW _ _ _ _ (⟨_, Op.indexAddr _ _ _, _, _, _, none⟩ :: _) _ _; refine SW.st (cd rfl rfl (by assumption) (by omega)) rfl ?_)
      | (show SW _ _ _ _ (⟨_, Op.call ⟨.builtin .len, _, _⟩, _, _, _, none⟩ :: _) _ _; refine SW.st (y9 rfl) rfl ?_)
      | (show SW _ _ _ _ (⟨_, Op.call ⟨.builtin .cap, _, _⟩, _, _, _, none⟩ :: _) _ _; refine SW.st (zf rfl) rfl ?_))
    repeat' (first
      | (show CW _ _ _ _ _ _; first | refine CW.seq ?_ | refine CW.region ?_ | refine CW.block ?_ | refine CW.C3 rfl (by with_reducible rfl) ?_ | refine CW.C4 rfl (by with_reducible rfl) ?_ | refine CW.uQ rfl (by omega) ?_ | refine CW.yl rfl (by omega) ?_ | refine CW.uR rfl (by omega) ?_ | refine CW.uS rfl (by omega) ?_ | refine CW.skip ?_ | refine CW.ret ?_ | refine CW.exit ?_)
      | (show ae _ _ _ _ _; first | refine ae.seq ?_ | refine ae.uN ?_ | refine ae.uO ?_ | refine ae.hit ?_ | refine ae.pass rfl ?_ | refine ae.eM ?_ | refine ae.ym ?_ | refine ae.qD ?_ | refine ae.sW ?_ | refine ae.np ?_)
      | refine SW.nil ?_
      | (show SW _ _ _ _ (⟨_, _, _, _, _, some _⟩ :: _) _ _; first | refine SW.yU rfl rfl (by with_reducible rfl) ?_ | refine SW.yV rfl rfl (by with_reducible rfl) ?_ | refine SW.yW rfl rfl (by with_reducible rfl) rfl ?_ | refine SW.yX rfl rfl (by with_reducible rfl) rfl ?_ | refine SW.yY rfl rfl (by with_reducible rfl) rfl ?_ | refine SW.rW rfl rfl rfl (by omega) ?_ | refine SW.rX rfl rfl rfl (by omega) ?_ | refine SW.rY rfl rfl rfl (by omega) ?_ | refine SW.rZ rfl rfl rfl (by omega) ?_)
      | refine SW.pure rfl rfl ?_
      | (show SW _ _ _ _ (⟨_, Op.fieldAddr _ _ _, _, _, _, none⟩ :: _) _ _; refine SW.st (aA rfl) rfl ?_)
      | (show SW _ _ _ _ (⟨_, Op.nilCheck _, _, _, _, none⟩ :: _) _ _; refine SW.st (aF rfl) rfl ?_)
      | (show SW _ _ _ _ (⟨_, Op.build _ _, _, _, _, none⟩ :: _) _ _; refine SW.st (fZ rfl rfl) rfl ?_)
      | (show SW _ _ _ _ (⟨_, Op.binOp _ _ _ _ _, _, _, _, none⟩ :: _) _ _; first | refine SW.st (y5 rfl rfl (by omega) (by omega)) rfl ?_ | refine SW.st (y6 rfl rfl (by omega) (by omega)) rfl ?_ | refine SW.st (pd rfl rfl (by omega) (by omega)) rfl ?_ | refine SW.st (y7 rfl rfl (by omega) (by omega) (by omega)) rfl ?_ | refine SW.st (y8 rfl rfl (by omega)) rfl ?_)
      | (show SW _ _ _ _ (⟨_, Op.indexAddr _ _ _, _, _, _, none⟩ :: _) _ _; refine SW.st (cd rfl rfl (by assumption) (by omega)) rfl ?_)
      | (show SW _ _ _ _ (⟨_, Op.call ⟨.builtin .len, _, _⟩, _, _, _, none⟩ :: _) _ _; refine SW.st (y9 rfl) rfl ?_)
      | (show SW _ _ _ _ (⟨_, Op.call ⟨.builtin .cap, _, _⟩, _, _, _, none⟩ :: _) _ _; refine SW.st (zf rfl) rfl ?_)
      | exact h.out)) : g := hg ⟨h⟩
end Go.Proofs.YtohigmjjbgpfmaaGreatDoor
