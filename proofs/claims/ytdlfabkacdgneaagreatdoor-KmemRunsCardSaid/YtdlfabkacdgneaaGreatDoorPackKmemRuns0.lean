/- Part 0 of what kmemRuns_holds leans on. -/
import Derived.WalkKit
import Derived.Deep.Quiet
import Derived.KernelRfl
import Derived.WalkLawsBesides
import Derived.WalkSpells
import Derived.Laws.AppendOwnNone
import Derived.Laws.CopyOwn
import Derived.StillTail
import Derived.Deep.RegionHeld3
import Derived.Laws.CopyRow
import Derived.Laws.StructEq
import Derived.Test.YtdlfabkacdgneaaGreatDoorChecked
set_option maxHeartbeats 16000000
set_option linter.unusedVariables false
set_option linter.unusedSimpArgs false
set_option linter.defProp false
open Go.Proofs.Tryz
namespace Go.Proofs.YtdlfabkacdgneaaGreatDoor
def Pf:=@List.getElem_mem
def Pg:=@List.getElem_of_mem
def Ph:=@Nat.le_refl
def Pj:=@Nat.le_trans
def Pk:=@List.take_succ_eq_append_getElem
def Pl:=@List.take_of_length_le
def Pm:=@Int.eq_ofNat_of_zero_le
def Pn:=@List.any_eq_true
def Po:=@List.append_assoc
def Pp:=@List.getElem?_eq_getElem
def Pq:=@List.pairwise_iff_getElem
def Pr:=@Array.getElem?_eq_some_iff
def Ps:=@Nat.eq_zero_or_pos
def Pu:=@List.mem_or_eq_of_mem_set
def Pv:=@Int.tmod_eq_emod_of_nonneg
def Pw:=@List.mem_map
def Px:=@List.mem_append
def Py:=@List.mem_flatMap
def Pz:=@List.take_append_drop
def PA:=@List.any_eq_false
def PB:=@List.eq_nil_of_length_eq_zero
def PC:=@Nat.mul_le_mul_right
def PD:=@Nat.eq_of_beq_eq_true
def PE:=@Nat.le_of_ble_eq_true
def PF:=@List.getElem?_eq_some_iff
def PG:=@List.mem_take_iff_getElem
def PH:=@List.mem_of_mem_eraseIdx
def PI:=@List.length_append
def PJ:=@Nat.lt_or_ge
def PK:=@List.ext_getElem
def PL:=@Nat.zero_le
def PM:=@Option.isSome_iff_exists
def PN:=@List.pairwise_append
def PO:=@List.map_append
def PP:=@List.flatMap_append
def PQ:=@List.take_append_of_le_length
def PR:=@Nat.le_of_lt
def PS:=@List.length_set
def PT:=@Bool.and_eq_true
def PU:=@List.mem_append_left
def PV:=@List.eraseIdx_eq_take_drop_succ
def PW:=@Nat.le_succ
def PX:=@Nat.lt_trichotomy
def PY:=@List.getElem_take
def PZ:=@Int.mul_ediv_add_emod
def P1:=@Nat.lt_of_lt_of_le
def P2:=@List.getElem_append_left
def P3:=@List.length_take
def P4:=@List.getElem_set
def P5:=@List.mem_of_mem_take
def P6:=@Nat.not_succ_le_self
def P7:=@List.length_eraseIdx
def P8:=@List.getElem_drop
def P9:=@List.length_eraseIdx_of_lt
def Qa:=@Nat.add_mul
def Qb:=@List.nil_append
def Qc:=@List.mem_eraseIdx_iff_getElem
def Qd:=@List.length_eraseIdx_le
def Qe:=@Array.getD_eq_getD_getElem?
def Qf:=@List.getElem_eraseIdx
def Qg:=@List.set_getElem_self
def Qh:=@List.eraseIdx_sublist
def Qi:=@Int.mul_le_mul_of_nonneg_right
def Qj:=@List.nodup_cons
def Qk:=@Nat.zero_add
def Ql:=@List.length_filter_le
def Qm:=@Int.mul_nonneg
def Qn:=@List.singleton_append
def Qo:=@Bool.or_eq_false_iff
def Qp:=@List.getElem?_append_right
def Qq:=@List.getD_eq_getElem?_getD
def Qr:=@List.mem_cons
def Qs:=@List.flatten_append
def Qt:=@Int.ediv_nonneg
def Qu:=@List.drop_eq_getElem_cons
def Qv:=@Array.setIfInBounds_comm
def Qw:=@List.filter_append
def Qx:=@Nat.lt_trans
def Qy:=@Nat.sub_self
def Qz:=@List.flatten_cons
def QA:=@List.drop_eq_nil_of_le
def QB:=@List.getElem?_set_self
def QC:=@List.set_eq_take_append_cons_drop
def QD:=@Bool.true_and
def QE:=@Int.ediv_le_self
def QF:=@List.length_drop
def QG:=@List.take_length
def QH:=@List.set_append_right
def QI:=@Int.ediv_lt_of_lt_mul
def QJ:=@List.getElem?_eq_none
def QK:=@List.length_replicate
def QL:=@List.getElem_set_self
def QM:=@List.append_nil
def QN:=@List.map_set
def QO:=@Bool.eq_iff_iff
def QP:=@List.mem_of_mem_drop
def QQ:=@List.replicate_succ'
def QR:=@Int.mul_comm
def QS:=@List.drop_append_of_le_length
def QT:=@Int.mul_le_mul_of_nonneg_left
def QU:=@List.filter_eq_self
def QV:=@Nat.lt_of_le_of_lt
def QW:=@Int.emod_lt_of_pos
def QX:=@Array.getElem?_append_left
def QY:=@Int.tdiv_eq_ediv_of_nonneg
def QZ:=@List.map_cons
def Q4:=@List.ext_getElem?
def Q6:=@List.nodup_append
def Q7:=@Array.mapM_eq_mapM_toList
def Q8:=@Nat.add_zero
def Ra:=@List.set_set
def Rb:=@List.not_mem_nil
def Rc:=@Int.lt_or_le
def Rd:=@List.mem_filter
def Re:=@List.any_append
def Rf:=@Int.ediv_mul_le
def Rg:=@Int.emod_nonneg
open Go.RowKit
abbrev Iv:=Value.int .i64
abbrev Pt(b:Nat):Value:=.pointer (some ⟨b,0,none⟩)
theorem Y {p:Prop} (h:p:=by omega):p:=h
theorem bm {p:Prop} (h:p:=by kernel_rfl):p:=h
theorem dD {p:Prop} (h:p:=by simp only;omega):p:=h
theorem fy {p:Prop} (h:p:=by simp):p:=h
theorem ig {p:Prop} (h:p:=by assumption):p:=h
theorem ir {p:Prop} (h:p:=by decide):p:=h
theorem kE {p:Prop} (h:p:=by with_reducible rfl):p:=h
theorem Z {α:Sort _} {a:α}:a=a:=rfl
theorem bq {α:Sort _} (a:α):∃ x,a=x:=⟨a,rfl⟩
theorem Ni {α:Sort _} (a:α):∃ x,x=a:=⟨a,rfl⟩
variable {ad:Addr} {af:Array Edge} {ts:Array TypeId} {b':Bool} {Q:Exit->Act->World->Prop} {fn:Func} {args cs:List Value} {b d i j k m off sz:Nat} {op:Op} {y:Operand} {g:Option (Nat×Bool)} {A:Option Addr} {d':Option Nat} {P:Program} {T e ft t ty:TypeId} {v':Value} {R':Value->World->Prop} {w w' w0:World}
abbrev Env:=List (Nat×Value)
def get:Env->Nat->Option Value
 | [],_=>none
 | (i,v)::r,j=>bif Nat.beq i j then some v else get r j
structure Fit(n:Nat)(a:Act)(L:Env):Prop where
 size:a.tmps.size=n
 defers:a.defers=[]
 has:∀i v,get L i=some v->a.tmps.getD i undef=v
def cg(L:Env):Operand->Option Value
 | .tmp t=>get L t
 | .const v=>some v
 | .global g=>some (Pt g)
 | .func f=>some (.func (.func f) #[] #[])
theorem Fit.eval{n:Nat}{a:Act}{L:Env}(h:Fit n a L){x:Operand}{v:Value}(b:cg L x=some v):a.eval x=v:=by
 cases x with
 | tmp t=>exact h.has _ _ b
 | const c=>grind[cg,Act.eval]
 | global g=>grind[cg,Act.eval]
 | func f=>grind[cg,Act.eval]
theorem Fit.put{n:Nat}{a:Act}{L:Env}(h:Fit n a L)(f:Nat.blt d n=true)(v:Value):Fit n (a.put (some d) v) ((d,v)::L):=by
 have c:d<n:=by simp_all
 refine⟨by simp[Act.put,h.size],by simp[Act.put,h.defers],?_⟩;intro i u b;simp only[get,cond_eq_ite]at b;simp only[Act.put];by_cases e:d=i
 ·subst e;simp at b;subst b;simp[Array.getD_eq_getD_getElem?,h.size,c]
 have hb:Nat.beq d i=false:=by
  cases hb:Nat.beq d i<;>simp_all
 rw[hb]at b;have:=h.has i u (by grind)
 simp_all
theorem Fit.Jv{n:Nat}{a:Act}{L:Env}(h:Fit n a L)(v:Value):Fit n (a.put none v) L:=h
theorem Fit.less{n:Nat}{a:Act}{L b:Env}(h:Fit n a L)(c:∀i v,get b i=some v->get L i=some v):Fit n a b:=
 ⟨h.size,h.defers,λi v d=>h.has i v (c i v d)⟩
def eA(L:Env):Env->Prop
 | []=>True
 | (i,v)::r=>get L i=some v∧eA L r
theorem GD{L:Env}:∀{a:Env},eA L a->∀i v,get a i=some v->get L i=some v
 | [],_,_,_,h=>by simp[get]at h
 | (j,u)::r,hs,i,v,h=>by
   simp only[get,cond_eq_ite]at h;by_cases e:Nat.beq j i=true
   ·rw[if_pos e]at h;obtain rfl:=PD e;simp at h;subst h;exact hs.1
   rw[if_neg e]at h;exact GD hs.2 i v h
theorem Fit.sub{n:Nat}{a:Act}{L b:Env}(h:Fit n a L)(c:eA L b):Fit n a b:=h.less (GD c)
abbrev Ext(w w':World):Prop:=Below w.heap.size w w'
theorem Ext.refl(w:World):Ext w w:=Below.refl _ _
theorem Ext.trans{a b c:World}(h:Ext a b)(k:Ext b c):Ext a c:=Below.trans h (Below.mono k h.size)
theorem Ext.cell(h:Ext w w'){a:Addr}{v:Value}(b:w.cell? a=some v):w'.cell? a=some v:=
 (Below.cell h (World.block_lt_of_cell? w a b)).trans b
theorem Ext.alloc(w:World)(o:Obj):Ext w (w.alloc o):=(Below.refl _ _).alloc (Ph _) _
theorem Ext.drew(w:World):Ext w w.drew:=(Below.refl _ _).drew
structure CW(P:Program)(n:Nat)(c:Code)(Q:Exit->Act->World->Prop)(L:Env)(w:World):Prop where
 out:∀a,Fit n a L->c.wp P Q a w
inductive Md where
 | fg (Q:Exit->Act->World->Prop)
 | Ls (K:Env->Prop)
 | tk (K:Env->Prop)
def Ct(P:Program)(b:Array Oper)(C:World->Prop)(Q:Act->Prop):List Oper->Act->Prop
 | [],a=>Q a
 | o::rest,a=>if Region.wanted o (yielded b a.tmps)then∃v,(∀c,C c->(execOp a.eval o).run P c= .ok (.value v) c)∧Ct P b C Q rest (a.put o.dst v)else Ct P b C Q rest (a.put o.dst undef)
def swp(P:Program)(n:Nat)(b:Array Oper)(w:World):Md->List Oper->Act->Prop
 | .fg Q,rest,a=>wpList P b Q rest a w
 | .Ls K,rest,a=>wpQuiet P b (λd=>Ext w d) (λe=>∃c,Fit n e c∧K c) rest a
 | .tk K,rest,a=>Ct P b (λd=>Ext w d) (λe=>∃c,Fit n e c∧K c) rest a
structure SW(P:Program)(n:Nat)(ops:Array Oper)(M:Md)(rest:List Oper)(L:Env)(w:World):Prop where
 out:∀a,Fit n a L->swp P n ops w M rest a
structure St(P:Program)(o:Oper)(L:Env)(w:World)(v:Value):Prop where
 out:∀n a,Fit n a L->∀w',Ext w w'->(execOp a.eval o).run P w'= .ok (.value v) w'
structure ah(n:Nat)(Q:Exit->Act->World->Prop)(e:Exit)(L:Env)(w:World):Prop where
 out:∀a,Fit n a L->Q e a w
def Jw(P:Program)(y:Code)(Q:Exit->Act->World->Prop):Exit->Act->World->Prop:=Exit.then (y.wp P Q) Q
section
variable {P:Program}{n:Nat}{ops:Array Oper}{Q:Exit->Act->World->Prop}{M:Md}{rest:List Oper}{L:Env}{w:World}
theorem wi{a:Act}(h:Fit n a L){b:Bool}(c:(ops[j]?).bind (·.dst)=some d)(hb:get L d=some (.bool b)):yielded ops a.tmps j=some b:=by
 have:=h.has _ _ hb;rw[Qe]at this;unfold yielded;rw[c];cases e:a.tmps[d]? with
 | none=>rw[e]at this;cases this
 | some u=>grind
theorem SW.want{pos:String}{b:Bool}(e:(ops[j]?).bind (·.dst)=some d)(hb:get L d=some (.bool b))
 (h:SW P n ops M (⟨d',op,T,pos,af,none⟩::rest) L w):SW P n ops M (⟨d',op,T,pos,af,some (j,b)⟩::rest) L w:=
 ⟨λa c=>by
  have:=h.out a c;cases M<;>simp only[swp,wpList,wpQuiet,Ct,Region.wanted,if_true,wi c e hb,BEq.rfl]at this⊢<;>exact this⟩
theorem SW.skip{pos:String}{e:Nat}{b c:Bool}(i:(ops[j]?).bind (·.dst)=some d)(hb:get L d=some (.bool c))(k:(c==b)=false)
 (l:Nat.blt e n=true) (h:SW P n ops M rest ((e,undef)::L) w):SW P n ops M (⟨some e,op,T,pos,af,some (j,b)⟩::rest) L w:=
 ⟨λa g=>by
  have f:(some c==some b)=false:=by grind
  have:=h.out _ (g.put l undef);cases M<;>simp only[swp,wpList,wpQuiet,Ct,Region.wanted,wi g i hb,f,Bool.false_eq_true,if_false]at this⊢<;>exact this⟩
theorem SW.Nm{pos:String}{c:Nat}{b:Bool}(k:(ops[j]?).bind (·.dst)=some d)(hb:get L d=some undef)
 (g:Nat.blt c n=true) (h:SW P n ops M rest ((c,undef)::L) w):SW P n ops M (⟨some c,op,T,pos,af,some (j,b)⟩::rest) L w:=
 ⟨λa f=>by
  have i:yielded ops a.tmps j=none:=by
   have:=f.has _ _ hb;rw[Qe]at this;grind[Array.getD_eq_getD_getElem?,yielded,undef]
  have e:((none:Option Bool)==some b)=false:=Z;have:=h.out _ (f.put g undef);cases M<;>simp only[swp,wpList,wpQuiet,Ct,Region.wanted,i,e,Bool.false_eq_true,if_false]at this⊢<;>exact this⟩
section
variable {d':Option Nat}{op:Op}{T:TypeId}{pos:String}{af:Array Edge}{j d e:Nat}{v:Value}
theorem SW.lS(a:(ops[j]?).bind (·.dst)=some d)(hb:get L d=some v)(b:v= .bool true)(h:SW P n ops M (⟨d',op,T,pos,af,none⟩::rest) L w):SW P n ops M (⟨d',op,T,pos,af,some (j,true)⟩::rest) L w:=SW.want a (hb.trans (by rw[b])) h
theorem SW.fh(a:(ops[j]?).bind (·.dst)=some d)(hb:get L d=some v)(b:v= .bool false)(h:SW P n ops M (⟨d',op,T,pos,af,none⟩::rest) L w):SW P n ops M (⟨d',op,T,pos,af,some (j,false)⟩::rest) L w:=SW.want a (hb.trans (by rw[b])) h
theorem SW.lT(a:(ops[j]?).bind (·.dst)=some d)(hb:get L d=some v)(b:v= .bool false)(f:Nat.blt e n=true)(h:SW P n ops M rest ((e,undef)::L) w):SW P n ops M (⟨some e,op,T,pos,af,some (j,true)⟩::rest) L w:=SW.skip (c:=false) a (hb.trans (by rw[b])) Z f h
theorem SW.Jx(a:(ops[j]?).bind (·.dst)=some d)(hb:get L d=some v)(b:v= .bool true)(f:Nat.blt e n=true)(h:SW P n ops M rest ((e,undef)::L) w):SW P n ops M (⟨some e,op,T,pos,af,some (j,false)⟩::rest) L w:=SW.skip (c:=true) a (hb.trans (by rw[b])) Z f h
theorem SW.Jy{b:Bool}(a:(ops[j]?).bind (·.dst)=some d)(hb:get L d=some v)(c:v=undef)(f:Nat.blt e n=true)(h:SW P n ops M rest ((e,undef)::L) w):SW P n ops M (⟨some e,op,T,pos,af,some (j,b)⟩::rest) L w:=SW.Nm a (hb.trans (by rw[c])) f h
end
theorem Fit.known{a:Act}{c:Bool}(hb:get L d=some (.bool c))(e:c=b')(b:Fit n a L):Fit n a ((d,.bool b')::L):=b.less λi v f=>by
 simp only[get,cond_eq_ite]at f;by_cases g:Nat.beq d i=true<;>simp_all
section
variable {o:Oper}{j d:Nat}{b c:Bool}{p:Prop}[Decidable p]
theorem SW.split(OV:o.guard=some (j,b))(OW:(ops[j]?).bind (·.dst)=some d)(hb:get L d=some (.bool c))
 (f:c=true->SW P n ops M (o::rest) ((d,.bool true)::L) w) (g:c=false->SW P n ops M (o::rest) ((d,.bool false)::L) w):SW P n ops M (o::rest) L w:=by
 cases c
 ·exact⟨λa e=>(g Z).out a (e.known hb Z)⟩
 exact⟨λa e=>(f Z).out a (e.known hb Z)⟩
theorem SW.dP(a:o.guard=some (j,b))(c:(ops[j]?).bind (·.dst)=some d)(hb:get L d=some (.bool (decide p)))
 (f:p->SW P n ops M (o::rest) ((d,.bool true)::L) w) (g:¬p->SW P n ops M (o::rest) ((d,.bool false)::L) w):SW P n ops M (o::rest) L w:=
 SW.split a c hb (λe=>f (of_decide_eq_true e)) (λe=>g (of_decide_eq_false e))
theorem SW.nR(a:o.guard=some (j,b))(c:(ops[j]?).bind (·.dst)=some d)(hb:get L d=some (.bool (!decide p)))
 (f:¬p->SW P n ops M (o::rest) ((d,.bool true)::L) w) (g:p->SW P n ops M (o::rest) ((d,.bool false)::L) w):SW P n ops M (o::rest) L w:=
 SW.split a c hb (λe=>f (by grind)) (λe=>g (by grind))
theorem SW.wj(a:o.guard=some (j,b))(c:(ops[j]?).bind (·.dst)=some d)(hb:get L d=some (.bool (decide p)))(f:p)(g:SW P n ops M (o::rest) ((d,.bool true)::L) w):SW P n ops M (o::rest) L w:=SW.dP a c hb (λ_=>g) (λe=>absurd f e)
theorem SW.sK(a:o.guard=some (j,b))(c:(ops[j]?).bind (·.dst)=some d)(hb:get L d=some (.bool (decide p)))(f:¬p)(g:SW P n ops M (o::rest) ((d,.bool false)::L) w):SW P n ops M (o::rest) L w:=SW.dP a c hb (λe=>absurd e f) (λ_=>g)
theorem SW.Du(a:o.guard=some (j,b))(c:(ops[j]?).bind (·.dst)=some d)(hb:get L d=some (.bool (!decide p)))(f:¬p)(g:SW P n ops M (o::rest) ((d,.bool true)::L) w):SW P n ops M (o::rest) L w:=SW.nR a c hb (λ_=>g) (λe=>absurd e f)
theorem SW.mI(a:o.guard=some (j,b))(c:(ops[j]?).bind (·.dst)=some d)(hb:get L d=some (.bool (!decide p)))(f:p)(g:SW P n ops M (o::rest) ((d,.bool false)::L) w):SW P n ops M (o::rest) L w:=SW.nR a c hb (λe=>absurd f e) (λ_=>g)
end
theorem SW.st{pos:String}{v:Value}(e:St P ⟨some d,op,T,pos,af,none⟩ L w v)(g:Nat.blt d n=true)(h:SW P n ops M rest ((d,v)::L) w):SW P n ops M (⟨some d,op,T,pos,af,none⟩::rest) L w:=
 ⟨λa c=>by
  have h':=h.out _ (c.put g v);cases M with
  | fg Q=>
    simp only[swp,wpList,Region.wanted,if_true];refine .inl ?_;unfold Oper.wp;rw[e.out n a c w (Ext.refl w),Oper.upon_value];exact h'
  | Ls K=>
    simp only[swp,wpQuiet,Region.wanted,if_true];refine⟨v,λf b=>?_,h'⟩;unfold Oper.quietAt;rw[e.out n a c f b];exact⟨Z,Z⟩
  | tk K=>
    simp only[swp,Ct,Region.wanted,if_true];exact⟨v,λf b=>e.out n a c f b,h'⟩⟩
def Jz:IntKind->IntKind->Bool
 | .i64,.i64| .u8,.u8| .u64,.u64| .i32,.i32| .u32,.u32=>true
 | _,_=>false
theorem JA{a b:IntKind}(h:Jz a b=true):a=b:=by cases a<;>cases b<;>simp[Jz]at h<;>rfl
def MF(a:BinOp)(i j:Int):Option Value:=
 match a with
 | .lss=>some (.bool (decide (i<j)))
 | .leq=>some (.bool (decide (i<=j)))
 | .gtr=>some (.bool (decide (j<i)))
 | .geq=>some (.bool (decide (j<=i)))
 | .eql=>some (.bool (decide (i=j)))
 | .neq=>some (.bool (!decide (i=j)))
 | _=>none
def rI(L:Env):Op->Option Value
 | .move x=>cg L x
 | .assign x=>cg L x
 | .pick c x y=>match cg L c with
   | some (.bool true)=>cg L x
   | some (.bool false)=>cg L y
   | _=>none
 | .unOp .not _ x=>match cg L x with
   | some (.bool b)=>some (.bool !b)
   | _=>none
 | .binOp op _ x y _=>match cg L x,cg L y with
   | some (.int k i),some (.int k' j)=>bif Jz k k' then MF op i j else none
   | _,_=>none
 | .extract x i=>match cg L x with
   | some (.tuple vs)=>vs[i]?
   | _=>none
 | _=>none
section
variable {d:Option Nat}{T:TypeId}{pos:String}{af:Array Edge}{g:Option (Nat×Bool)}{v:Value}
theorem Nn{x:Operand}(h:cg L x=some v):St P ⟨d,.move x,T,pos,af,g⟩ L w v:=⟨λ_ a b c _=>by simp[execOp,b.eval h]⟩
theorem No{x:Operand}(h:cg L x=some v):St P ⟨d,.assign x,T,pos,af,g⟩ L w v:=⟨λ_ a b c _=>by simp[execOp,b.eval h]⟩
theorem GF{c x:Operand}{b:Bool}(k:cg L c=some (.bool b))(h:cg L (if b then x else y)=some v):St P ⟨d,.pick c x y,T,pos,af,g⟩ L w v:=
 ⟨λ_ a f l _=>by
  have i:=f.eval k;have j:=f.eval h;generalize a.eval=ρ at*;cases b
  ·have e:ρ y=v:=j;simp[go_sem,i,e]
  have e:ρ x=v:=j;simp[go_sem,i,e]⟩
theorem MG{x:Operand}{b:Bool}(c:cg L x=some (.bool b)):St P ⟨d,.unOp .not t x,T,pos,af,g⟩ L w (.bool !b):=
 ⟨λ_ a e h _=>by have f:=e.eval c;generalize a.eval=ρ at*;simp[go_sem,f,Op.unary]⟩
theorem MH{b:BinOp}{x:Operand}{k:IntKind}{i j:Int}(e:cg L x=some (.int k i))(f:cg L y=some (.int k j))(h:MF b i j=some v):St P ⟨d,.binOp b t x y ty,T,pos,af,g⟩ L w v:=
 ⟨λ_ a c n _=>by
  have l:=c.eval e;have m:=c.eval f;generalize a.eval=ρ at*;cases b<;>simp only[MF,Option.some.injEq,reduceCtorEq]at h
  all_goals subst h
  all_goals simp[go_sem,l,m]
  all_goals rfl⟩
theorem Fl{x:Operand}{vs:Array Value}(b:cg L x=some (.tuple vs))(h:vs[i]?=some v):St P ⟨d,.extract x i,T,pos,af,g⟩ L w v:=
 ⟨λ_ a c e _=>by simp[execOp,c.eval b,Instr.extract,h]⟩
theorem aH{o:Op}(h:rI L o=some v):St P ⟨d,o,T,pos,af,g⟩ L w v:=by
 cases o
 case move x=>exact Nn h
 case assign x=>exact No h
 case pick c x y=>
  simp only[rI]at h;split at h
  ·exact GF (b:=true) ‹_› h
  ·exact GF (b:=false) ‹_› h
  cases h
 case unOp op t x=>
  cases op
  case not=>
   simp only[rI]at h;split at h
   ·cases h;exact MG ‹_›
   cases h
  all_goals simp[rI]at h
 case binOp op t x y ty=>
  simp only[rI]at h;split at h
  ·simp only[cond_eq_ite]at h;split at h
   ·rename_i a;obtain rfl:=JA a;exact MH ‹_› ‹_› h
   cases h
  cases h
 case extract x i=>
  simp only[rI]at h;split at h
  ·exact Fl ‹_› h
  cases h
 all_goals simp[rI]at h
end
theorem SW.pure{pos:String}{v:Value}(a:rI L op=some v)(b:Nat.blt d n=true)(h:SW P n ops M rest ((d,v)::L) w):SW P n ops M (⟨some d,op,T,pos,af,none⟩::rest) L w:=
 SW.st (aH a) b h
theorem SW.br{K:Env->Prop}(h:K L):SW P n ops (.Ls K) [] L w:=⟨λ_ a=>⟨L,a,h⟩⟩
theorem SW.dI{K:Env->Prop}(h:K L):SW P n ops (.tk K) [] L w:=⟨λ_ a=>⟨L,a,h⟩⟩
theorem SW.nil(h:ah n Q .normal L w):SW P n ops (.fg Q) [] L w:=⟨λa b=>h.out a b⟩
theorem ah.seq{y:Code}(h:CW P n y Q L w):ah n (Jw P y Q) .normal L w:=⟨λa b=>h.out a b⟩
theorem ah.GG{y:Code}(h:ah n Q .ret L w):ah n (Jw P y Q) .ret L w:=⟨λa b=>h.out a b⟩
theorem ah.Dv{y:Code}{id:Nat}(h:ah n Q (.exit id) L w):ah n (Jw P y Q) (.exit id) L w:=⟨λa b=>h.out a b⟩
theorem CW.seq{x y:Code}(h:CW P n x (Jw P y Q) L w):CW P n (.seq x y) Q L w:=⟨λa b=>wp_seq (h.out a b)⟩
theorem CW.skip(h:ah n Q .normal L w):CW P n .skip Q L w:=⟨λa b=>wp_skip (h.out a b)⟩
theorem CW.ret(h:ah n Q .ret L w):CW P n .ret Q L w:=⟨λa b=>wp_ret (h.out a b)⟩
theorem CW.exit{id:Nat}(h:ah n Q (.exit id) L w):CW P n (.exit id) Q L w:=⟨λa b=>wp_exit (h.out a b)⟩
theorem CW.block{id:Nat}{c:Code}(h:CW P n c (Exit.inBlock id Q) L w):CW P n (.block id c) Q L w:=⟨λa b=>wp_block (h.out a b)⟩
theorem CW.cond{c:Operand}{x y:Code}{b:Bool}(f:cg L c=some (.bool b))(g:b=true->CW P n x Q L w)(h:b=false->CW P n y Q L w):CW P n (.cond c x y) Q L w:=
 ⟨λa d=>wp_cond_split (d.eval f) (λe=>(g e).out a d) (λe=>(h e).out a d)⟩
theorem CW.bQ{c:Operand}{x y:Code}(a:cg L c=some (.bool true))(h:CW P n x Q L w):CW P n (.cond c x y) Q L w:=CW.cond a (λ_=>h) (λe=>by cases e)
theorem CW.bo{c:Operand}{x y:Code}(a:cg L c=some (.bool false))(h:CW P n y Q L w):CW P n (.cond c x y) Q L w:=CW.cond a (λe=>by cases e) (λ_=>h)
theorem CW.og{c:Operand}{x y:Code}{p:Prop}[Decidable p](a:cg L c=some (.bool (decide p)))(b:p->CW P n x Q L w)(d:¬p->CW P n y Q L w):CW P n (.cond c x y) Q L w:=
 CW.cond a (λe=>b (of_decide_eq_true e)) (λe=>d (of_decide_eq_false e))
theorem CW.uX{c:Operand}{x y:Code}{p:Prop}[Decidable p](a:cg L c=some (.bool (!decide p)))(b:¬p->CW P n x Q L w)(d:p->CW P n y Q L w):CW P n (.cond c x y) Q L w:=
 CW.cond a (λe=>b (by grind)) (λe=>d (by grind))
theorem CW.GH{c:Operand}{x y:Code}{p:Prop}[Decidable p](a:cg L c=some (.bool (decide p)))(b:p)(d:CW P n x Q L w):CW P n (.cond c x y) Q L w:=CW.og a (λ_=>d) (λe=>absurd b e)
theorem CW.GI{c:Operand}{x y:Code}{p:Prop}[Decidable p](a:cg L c=some (.bool (decide p)))(b:¬p)(d:CW P n y Q L w):CW P n (.cond c x y) Q L w:=CW.og a (λe=>absurd e b) (λ_=>d)
theorem CW.GJ{c:Operand}{x y:Code}{p:Prop}[Decidable p](a:cg L c=some (.bool (!decide p)))(b:¬p)(d:CW P n x Q L w):CW P n (.cond c x y) Q L w:=CW.uX a (λ_=>d) (λe=>absurd e b)
theorem CW.GK{c:Operand}{x y:Code}{p:Prop}[Decidable p](a:cg L c=some (.bool (!decide p)))(b:p)(d:CW P n y Q L w):CW P n (.cond c x y) Q L w:=CW.uX a (λe=>absurd b e) (λ_=>d)
theorem CW.JB{c:Operand}{x y:Code}{v:Value}(a:cg L c=some v)(b:v= .bool true)(h:CW P n x Q L w):CW P n (.cond c x y) Q L w:=CW.bQ (a.trans (by rw[b])) h
theorem CW.JC{c:Operand}{x y:Code}{v:Value}(a:cg L c=some v)(b:v= .bool false)(h:CW P n y Q L w):CW P n (.cond c x y) Q L w:=CW.bo (a.trans (by rw[b])) h
theorem CW.region{id:Nat}{l:List Oper}(h:SW P n l.toArray (.fg Q) l L w):CW P n (.region id l.toArray false) Q L w:=⟨λa b=>wp_region_lit (h.out a b)⟩
theorem CW.quiet{id:Nat}{l:List Oper}{K:Env->Prop}(j:P.follows .mixedOrders=true)(m:Region.lexB .any l.toArray=true)(h:SW P n l.toArray (.Ls K) l L w)
 (k:∀c b,Ext w b->K c->ah n Q .normal c b):CW P n (.region id l.toArray true) Q L w:=
 ⟨λa p=>wp_region_quiet (C:=λb=>Ext w b) j m (Ext.drew w) (by
  have h':=h.out a p
  have d:∀(e:List Oper)(a:Act),wpQuiet P l.toArray (λb=>Ext w b) (λf=>∃c,Fit n f c∧K c) e a->
   wpQuiet P l.toArray (λb=>Ext w b) (λf=>∀b,Ext w b->Q .normal f b) e a:=by
   intro e;induction e with
   | nil=>exact λa⟨c,q,s⟩b g=>(k c b g s).out a q
   | cons o r t=>
     intro a i;simp only[wpQuiet]at i⊢;split
     ·rename_i u;rw[if_pos u]at i;exact Oper.quiet_mono t i
     grind
  exact d l a h')⟩
theorem CW.cut{c:Code}(K:Env->World->Prop)(h:CW P n c (λe a d=>e= .normal∧∃b,Fit n a b∧K b d) L w)(k:∀b d,K b d->ah n Q .normal b d):CW P n c Q L w:=
 ⟨λa f=>wp_mono (h.out a f) λe g d⟨i,b,j,l⟩=>by subst i;exact(k b d l).out g j⟩
theorem ah.cut{K:Env->World->Prop}(h:K L w):ah n (λe a c=>e=Exit.normal∧∃b,Fit n a b∧K b c) .normal L w:=⟨λ_ d=>⟨Z,L,d,h⟩⟩
theorem ah.sub{e:Exit}{b:Env}(c:eA L b)(h:ah n Q e b w):ah n Q e L w:=⟨λa d=>h.out a (d.sub c)⟩
theorem ah.hit{id:Nat}(h:ah n Q .normal L w):ah n (Exit.inBlock id Q) (.exit id) L w:=⟨λa b=>by simp only[Exit.inBlock,if_true];exact h.out a b⟩
theorem ah.pass{id:Nat}(b:Nat.beq j id=false)(h:ah n Q (.exit j) L w):ah n (Exit.inBlock id Q) (.exit j) L w:=
 ⟨λa c=>by
  have:j≠id:=λe=>by simp_all
  simp only[Exit.inBlock,this,if_false];exact h.out a c⟩
theorem ah.dm{id:Nat}(h:ah n Q .normal L w):ah n (Exit.inBlock id Q) .normal L w:=⟨λa b=>h.out a b⟩
theorem ah.GL{id:Nat}(h:ah n Q .ret L w):ah n (Exit.inBlock id Q) .ret L w:=⟨λa b=>h.out a b⟩
end
theorem Dw{c:Code}(I:Nat->Act->World->Prop)
 (g:∀m a w,I m a w->c.wp P (Exit.then (λh i=>∃j,j<m∧I j h i) Q) a w):
 ∀m a w,I m a w->(Code.loop c).wp P Q a w:=by
 intro m a w q b k cs
 have n:∀m a w,I m a w->∃e h i,Q e h i∧Arrives P (lone (b.at a (.code c:: .inLoop c::k)) cs w) b k cs e h i:=by
  intro m;induction m using Nat.strongRecOn with
  | _ m r=>
    intro a w o;obtain⟨e,a₁,w₁,f,d⟩:=g m a w o b (.inLoop c::k) cs;cases e with
    | normal=>
      obtain⟨j,p,o₁⟩:=f;obtain⟨e₂,a₂,w₂,f₂,d₂⟩:=r j p a₁ w₁ o₁;exact⟨e₂,a₂,w₂,f₂,.of_steps (Steps.trans d (.one step_inLoop)) d₂⟩
    | exit id=>exact⟨_,a₁,w₁,f,.pass (x:= .inLoop c) Z (λ_ _=> .inl fy) d⟩
    | goto l=>exact⟨_,a₁,w₁,f,.pass (x:= .inLoop c) Z (λ_ _=> .inl fy) d⟩
    | ret=>exact⟨_,a₁,w₁,f,.pass (x:= .inLoop c) Z (λ_ _=> .inl fy) d⟩
    | panic s=>exact⟨_,a₁,w₁,f,.pass (x:= .inLoop c) Z (λ_ _=> .inl fy) d⟩
    | outgrown=>exact⟨_,a₁,w₁,f,.pass (x:= .inLoop c) Z (λ_ _=> .inl fy) d⟩
 obtain⟨e,h,i,f,d⟩:=n m a w q;exact⟨e,h,i,f,.of_steps (.one step_loop) d⟩
section
variable {P:Program}{n:Nat}{Q:Exit->Act->World->Prop}{L:Env}{w:World}{σ:Type}
def GM(n:Nat)(E:σ->Env)(I:σ->World->Prop)(μ:σ->Nat)(m:Nat)(Q:Exit->Act->World->Prop):Exit->Act->World->Prop:=Exit.then (λa w=>∃b,b<m∧∃s,μ s=b∧Fit n a (E s)∧I s w) Q
theorem ah.again{E:σ->Env}{I:σ->World->Prop}{μ:σ->Nat}(s:σ)(a:eA L (E s))(b:μ s<m)(h:I s w):ah n (GM n E I μ m Q) .normal L w:=
 ⟨λ_ c=>⟨_,b,s,Z,c.sub a,h⟩⟩
theorem ah.Bi{E:σ->Env}{I:σ->World->Prop}{μ:σ->Nat}(h:ah n Q .ret L w):ah n (GM n E I μ m Q) .ret L w:=⟨λa b=>h.out a b⟩
theorem ah.wk{E:σ->Env}{I:σ->World->Prop}{μ:σ->Nat}{id:Nat}(h:ah n Q (.exit id) L w):ah n (GM n E I μ m Q) (.exit id) L w:=⟨λa b=>h.out a b⟩
theorem CW.loop{c:Code}(E:σ->Env)(I:σ->World->Prop)(μ:σ->Nat)(d:σ)(e:eA L (E d))(f:I d w)(b:∀s w,I s w->CW P n c (GM n E I μ (μ s) Q) (E s) w):CW P n (.loop c) Q L w:=
 ⟨λa g=>Dw (λm a w=>∃s,μ s=m∧Fit n a (E s)∧I s w)
  (λm a w⟨s,h,i,j⟩=>by subst h;exact(b s w j).out a i) (μ d) a w ⟨d,Z,g.sub e,f⟩⟩
end
section
variable {P:Program}{n:Nat}{ops:Array Oper}{Q:Exit->Act->World->Prop}{rest:List Oper}{L:Env}{w:World}
structure aS(P:Program)(f:FuncId)(args:List Value)(w:World)(R:Value->World->Prop):Prop where
 out:Calls P f args.toArray w λe w'=>∃v,e= .returned v∧Ext w w'∧R v w'
theorem aS.mono{f:FuncId}{R:Value->World->Prop}(h:aS P f args w R)(c:∀v a,Ext w a->R v a->R' v a):aS P f args w R':=
 ⟨Calls.mono h.out λ_ _⟨v,d,b,e⟩=>⟨v,d,b,c _ _ b e⟩⟩
def r4(L:Env):List Operand->Option (List Value)
 | []=>some []
 | x::r=>match cg L x,r4 L r with
   | some v,some vs=>some (v::vs)
   | _,_=>none
theorem Fit.sL{a:Act}(h:Fit n a L):∀{xs:List Operand}{vs:List Value},r4 L xs=some vs->xs.map a.eval=vs
 | [],vs,e=>by simp[r4]at e;grind
 | x::r,vs,e=>by
   simp only[r4]at e;cases b:cg L x with
   | none=>grind
   | some v=>
     cases c:r4 L r with
     | none=>grind
     | some d=>
       simp[b,c]at e;subst e;simp[h.eval b,h.sL c]
structure Body(P:Program)(f:FuncId):Prop where
 out:∀args w,(callFunc f args).run P w= .ok (.enter f args) w
theorem Lv {f:FuncId} (b:P.funcs[f]? =some fn) (c:(fn.name== "runtime.NumGoroutine")=false:=by kernel_rfl) (hb:fn.body.isNone=false:=by kernel_rfl):Body P f:=
 ⟨λa w=>by
  simp only[callFunc,Sem.run_bind,Go.program,Sem.run,Result.andThen,b,c,hb,Bool.false_eq_true,if_false]
  rfl⟩
def okB(P:Program)(f:FuncId):Bool:=match P.funcs[f]? with
 | some a=> !(a.name== "runtime.NumGoroutine") && !a.body.isNone
 | none=>false
theorem Lw{f:FuncId}(h:okB P f=true):Body P f:=by
 unfold okB at h;split at h
 ·next fn e=>
  simp only[Bool.and_eq_true,Bool.not_eq_true']at h;exact Lv e h.1 h.2
 cases h
theorem j0{f:FuncId}(h:Body P f:=by first|assumption|exact Lw bm):Body P f:=h
theorem wm{a:Act}{d:Option Nat}{f:FuncId}{xs:List Operand}{pos:String}
 (hb:Body P f):(execOp a.eval ⟨d,.call ⟨.value (.func f),xs.toArray,ts⟩,T,pos,af,g⟩).run P w'= .ok (.enter f (xs.map a.eval).toArray) w':=by
 simp only[execOp,resolve,Deferred.ofValue,Act.eval,Sem.run_bind,pure,Sem.run,Result.andThen,invoke,List.map_toArray];have:=hb.out (xs.map a.eval).toArray w';simpa using this
theorem SW.call{f:FuncId}{xs:List Operand}{vs:List Value}{pos:String}{R:Value->World->Prop}
 (i:r4 L xs=some vs) (j:Nat.blt d n=true) (k:aS P f vs w R) (h:∀v b,Ext w b->R v b->SW P n ops (.fg Q) rest ((d,v)::L) b) (l:Body P f:=by exact j0):
 SW P n ops (.fg Q) (⟨some d,.call ⟨.value (.func f),xs.toArray,ts⟩,T,pos,af,none⟩::rest) L w:=
 ⟨λa g=>by
  simp only[swp,wpList,Region.wanted,if_true];refine .inl ?_;unfold Oper.wp;rw[wm (hb:=l),Oper.upon_enter,g.sL i];refine Calls.mono k.out ?_;rintro e b ⟨v,rfl,c,m⟩;exact(h v b c m).out _ (g.put j v)⟩
theorem SW.ba{K:Env->Prop}{f:FuncId}{xs:List Operand}{vs:List Value}{pos:String}{v:Value}
 (j:r4 L xs=some vs) (k:Nat.blt d n=true) (l:∀c,Ext w c->aS P f vs c λu _=>u=v) (h:SW P n ops (.Ls K) rest ((d,v)::L) w) (m:Body P f:=by exact j0):
 SW P n ops (.Ls K) (⟨some d,.call ⟨.value (.func f),xs.toArray,ts⟩,T,pos,af,none⟩::rest) L w:=
 ⟨λa i=>by
  simp only[swp,wpQuiet,Region.wanted,if_true];refine⟨v,λc b=>?_,h.out _ (i.put k v)⟩;unfold Oper.quietAt;rw[wm (hb:=m),i.sL j];refine⟨Z,Calls.mono (l c b).out ?_⟩;rintro e o ⟨u,rfl,g,rfl⟩;exact⟨Z,b.trans g⟩⟩
end
section
variable {P:Program}{fn:Func}{R:Ending->World->Prop}{n:Nat}{L:Env}{w:World}
def oS:Nat->List Value->Env
 | _,[]=>[]
 | i,v::r=>(i,v)::oS (i+1) r
theorem pQ:∀(vs:List Value)(k i:Nat)(v:Value),get (oS k vs) i=some v->k<=i∧vs[i-k]?=some v
 | [],_,_,_,h=>by grind[oS,get]
 | u::r,k,i,v,h=>by
   simp only[oS,get,cond_eq_ite]at h;by_cases e:Nat.beq k i=true
   ·simp_all
   rw[if_neg e]at h;obtain⟨a,b⟩:=pQ r (k+1) i v h<;>grind
theorem tV{f:FuncId}{c:Code}{R:Value->World->Prop}(d:P.funcs[f]?=some fn)(hb:fn.body=some c)(l:fn.ntmps=n)(m:Nat.ble args.length n=true)
 (h:CW P n c (bodyPost P fn λe b=>∃v,e= .returned v∧Ext w b∧R v b) (oS 0 args) w):aS P f args w R:=by
 have g:args.length<=n:=by simp_all
 refine⟨calls_of_wp d hb (h.out _ ⟨?_,Z,?_⟩)⟩
 ·grind
 intro i v j;obtain⟨_,k⟩:=pQ args 0 i v j;simp only[Nat.sub_zero]at k
 have a:i<args.length:=by
  grind
 rw[Qe,QX (by simpa using a)];grind
theorem ah.aF{t:Nat}{v:Value}(c:fn.results= #[.tmp t])(d:get L t=some v)(h:R (.returned v) w):ah n (bodyPost P fn R) .ret L w:=
 ⟨λa b=>⟨b.defers,v,by rw[results_tmp c,b.has _ _ d],h⟩⟩
theorem ah.cf{t u:Nat}{v x:Value}(c:fn.results= #[.tmp t,.tmp u])(d:get L t=some v)(e:get L u=some x)(h:R (.returned (.tuple #[v,x])) w):ah n (bodyPost P fn R) .ret L w:=
 ⟨λa b=>⟨b.defers,_,by rw[results_tmp2 c,b.has _ _ d,b.has _ _ e],h⟩⟩
end
class bL(P:Program)(t:TypeId)(e:outParam TypeId)(sz:outParam Nat):Prop where
 mg:P.underlying t=some (.slice e):=by kernel_rfl
 size:(P.info? e).map (·.size)=some sz:=by kernel_rfl
class iA(P:Program)(t:TypeId):Prop where
 one:((P.underlying t).map fun| .struct _=>false| .array _ _=>false|_=>true)=some true:=by kernel_rfl
 size:(P.info? t).map (·.size)=some 1:=by kernel_rfl
class wq(P:Program)(t:TypeId)(len:outParam Nat)(e:outParam TypeId)(sz:outParam Nat):Prop where
 mg:P.underlying t=some (.array len e):=by kernel_rfl
 size:(P.info? e).map (·.size)=some sz:=by kernel_rfl
class dt(P:Program)(e:TypeId)(z:outParam Value)(sz bytes:outParam Nat):Prop where
 NO:(P.info? e).map (λi=>(i.zero,i.size,i.bytes))=some (some z,sz,bytes):=by kernel_rfl
 zc:z.cells.size=sz:=by kernel_rfl
 pos:0<sz:=by decide
class fA(P:Program)(t:TypeId)(n:outParam Nat):Prop where
 agg:((P.underlying t).map fun| .struct _=>true| .array _ _=>true|_=>false)=some true:=by kernel_rfl
 size:(P.info? t).map (·.size)=some n:=by kernel_rfl
class bH(P:Program)(t:TypeId)(i:Nat)(off:outParam Nat)(ft:outParam TypeId):Prop where
 dp:((P.underlying t).bind fun| .struct fs=>(fs[i]?).map (λf=>(f.offset,f.type))|_=>none)=some (off,ft):=by kernel_rfl
 size:((P.info? ft).map (·.size)).map (· ==0)=some false:=by kernel_rfl
theorem run_sizeOf{n:Nat}(h:(P.info? t).map (·.size)=some n)(w:World):(sizeOf t).run P w= .ok n w:=by
 cases a:P.info? t with
 | none=>grind
 | some i=>simp_all[sizeOf,typeInfo]
theorem rJ[c:iA P t](w:World):(isAgg t).run P w= .ok false w:=by
 have h:=c.one;cases a:P.underlying t with
 | none=>grind
 | some d=>
   simp only[isAgg,Sem.run_bind,run_underlying a,Result.andThen];simp[a]at h;cases d<;>simp_all
theorem rK{n:Nat}[c:fA P t n](w:World):(isAgg t).run P w= .ok true w:=by
 have h:=c.agg;cases a:P.underlying t with
 | none=>grind
 | some d=>
   simp only[isAgg,Sem.run_bind,run_underlying a,Result.andThen];simp[a]at h;cases d<;>simp_all
section
variable {P:Program}{L:Env}{w:World}{d:Option Nat}{T:TypeId}{pos:String}{af:Array Edge}{g:Option (Nat×Bool)}
section
variable {t ty:TypeId}{x y:Operand}{k:IntKind}{i j:Int}
theorem Lx(c:cg L x=some (.int k i))(e:cg L y=some (.int k j)):St P ⟨d,.binOp .add t x y ty,T,pos,af,g⟩ L w (.int k (k.wrap (i+j))):=
 ⟨λn a b l _=>by have f:=b.eval c;have h:=b.eval e;generalize a.eval=ρ at*;simp[go_sem,f,h]⟩
theorem vU(c:cg L x=some (.int k i))(e:cg L y=some (.int k j)):St P ⟨d,.binOp .sub t x y ty,T,pos,af,g⟩ L w (.int k (k.wrap (i-j))):=
 ⟨λn a b l _=>by have f:=b.eval c;have h:=b.eval e;generalize a.eval=ρ at*;simp[go_sem,f,h]⟩
theorem Ly(c:cg L x=some (.int k i))(e:cg L y=some (.int k j)):St P ⟨d,.binOp .mul t x y ty,T,pos,af,g⟩ L w (.int k (k.wrap (i*j))):=
 ⟨λn a b l _=>by have f:=b.eval c;have h:=b.eval e;generalize a.eval=ρ at*;simp[go_sem,f,h]⟩
theorem jF{z:Int}(a: -9223372036854775808<=z)(b:z<=9223372036854775807):IntKind.i64.wrap z=z:=IntWalk.i64_in _ ⟨a,b⟩
theorem St.eq{o:Oper}{v:Value}(h:St P o L w v)(e:v=v'):St P o L w v':=e▸h
theorem JD(a:cg L x=some (Iv i))(b:cg L y=some (Iv j))(c: -9223372036854775808<=i+j)(e:i+j<=9223372036854775807):St P ⟨d,.binOp .add t x y ty,T,pos,af,g⟩ L w (Iv (i+j)):=
 (Lx a b).eq (by rw[jF c e])
theorem r5(a:cg L x=some (Iv i))(b:cg L y=some (Iv j))(c: -9223372036854775808<=i-j)(e:i-j<=9223372036854775807):St P ⟨d,.binOp .sub t x y ty,T,pos,af,g⟩ L w (Iv (i-j)):=
 (vU a b).eq (by rw[jF c e])
theorem tW(a:cg L x=some (Iv i))(b:cg L y=some (Iv j))(c: -9223372036854775808<=i*j)(e:i*j<=9223372036854775807):St P ⟨d,.binOp .mul t x y ty,T,pos,af,g⟩ L w (Iv (i*j)):=
 (Ly a b).eq (by rw[jF c e])
theorem JE(f:cg L x=some (Iv i))(h:cg L y=some (Iv j))(b:0<=i)(p:0<j)(q:i<=9223372036854775807):St P ⟨d,.binOp .quo t x y ty,T,pos,af,g⟩ L w (Iv (i / j)):=
 ⟨λn a c r _=>by
  have k:¬j=0:=Y;have e:i.tdiv j=i / j:=QY b;have s:i / j<=i:=QE _ b;have l:0<=i / j:=Qt b Y;have:=jF (z:=i / j) Y Y;have m:=c.eval f;have o:=c.eval h;generalize a.eval=ρ at*;simp[go_sem,m,o,k,e,this]⟩
theorem Fm(c:cg L x=some (Iv i))(e:cg L y=some (Iv j))(f:j≠0):St P ⟨d,.binOp .rem t x y ty,T,pos,af,g⟩ L w (Iv (i.tmod j)):=
 ⟨λn a b l _=>by
  have h:=b.eval c;have k:=b.eval e;generalize a.eval=ρ at*;simp[go_sem,h,k,f]⟩
end
theorem Cu[c:bL P t e sz]{x:Operand}{n cap:Nat}(b:cg L x=some (.slice A n cap)):
 St P ⟨d,.call ⟨.builtin .len,#[x],#[t]⟩,T,pos,af,g⟩ L w (Iv n):=
 ⟨λ_ a f h _=>by simp[execOp,resolve,invoke,builtin,f.eval b,Builtin.len_,run_underlying c.mg,goInt]⟩
theorem JF[c:bL P t e sz]{x:Operand}{n cap:Nat}{i:Int}(f:cg L x=some (.slice A n cap))(h:cg L y=some (Iv i))
 (j:A.isSome=true) (k:0<=i) (l:i<n):St P ⟨d,.indexAddr t x y,T,pos,af,g⟩ L w (.pointer (some ((A.getD default).add (i.toNat*sz)))):=
 ⟨λ_ a b m _=>by
  obtain⟨o,rfl⟩:=PM.1 j;simp[execOp,b.eval f,b.eval h,Instr.indexAt,asIntOf,run_underlying c.mg,run_sizeOf c.size,k,l]⟩
theorem aI[c:bH P t i off ft]{x:Operand}(k:cg L x=some (.pointer (some ad))):
 St P ⟨d,.fieldAddr t x i,T,pos,af,g⟩ L w (.pointer (some (ad.add off))):=
 ⟨λ_ a l q _=>by
  have h:=c.dp;cases b:P.underlying t with
  | none=>grind
  | some D=>
    cases D<;>simp[b]at h
    rename_i r;obtain⟨f,m,n,o⟩:=h;subst n o;have e:=c.size;cases j:P.info? f.type with
    | none=>grind
    | some p=>
      simp[j]at e;simp[execOp,l.eval k,Instr.fieldAt,run_underlying b,m,fieldPlace,Instr.sureAddr,sizeOf,typeInfo,j,e]⟩
theorem sM[c:bL P t e sz]{x:Operand}{n cap q:Nat}(f:cg L x=some (.slice A n cap))(i:cg L y=some (.slice none m q)):
 St P ⟨d,.binOp .eql t x y ty,T,pos,af,g⟩ L w (.bool A.isNone):=
 ⟨λ_ a b j _=>by
  have h:=Lib.run_eql_slice_nil (P:=P) j t e A n cap m q c.mg;simp[execOp,b.eval f,b.eval i,eqGuard_at_slice,h]⟩
theorem aJ[iA P t]{x:Operand}{v:Value}(b:cg L x=some (.pointer (some ad)))(c:w.cell? ad=some v):St P ⟨d,.load t x,T,pos,af,g⟩ L w v:=
 ⟨λ_ a e h f=>by simp[execOp,e.eval b,Instr.loadAt,Instr.sureAddr,loadVar,rJ,load,Sem.run,f.cell c]⟩
theorem bX[iA P t]{x:Operand}{v:Value}(a:Ext w0 w)(b:cg L x=some (.pointer (some ad)))(c:w0.cell? ad=some v):St P ⟨d,.load t x,T,pos,af,g⟩ L w v:=aJ b (a.cell c)
theorem cv[c:fA P t m]{x:Operand}{vs:List Value}(b:cg L x=some (.pointer (some ad)))(e:vs.length=m)(f:∀j v,vs[j]?=some v->w.cell? (ad.add j)=some v):
 St P ⟨d,.load t x,T,pos,af,g⟩ L w (.agg vs.toArray):=
 ⟨λ_ a h i k=>by
  subst e;simp[execOp,h.eval b,Instr.loadAt,Instr.sureAddr,loadVar,rK,run_sizeOf c.size,run_loadCells_list (P:=P) i ad vs (λj v l=>k.cell (f j v l))]⟩
theorem g7[fA P t m]{x:Operand}{vs:List Value}(a:Ext w0 w)(b:cg L x=some (.pointer (some ad)))(c:vs.length=m)(e:∀j v,vs[j]?=some v->w0.cell? (ad.add j)=some v):
 St P ⟨d,.load t x,T,pos,af,g⟩ L w (.agg vs.toArray):=cv b c (λj v f=>a.cell (e j v f))
end
def ay(w:World)(b:Nat)(t:TypeId)(cs:List Value):Prop:=w.heap[b]?=some (.cells cs.toArray t (0,0))
theorem ay.lt(h:ay w b t cs):b<w.heap.size:=by
 rcases PJ b w.heap.size with a|c<;>grind[Nat.lt_or_ge,ay,Array.getElem?_eq_none]
theorem add_zero(a:Addr):a.add 0=a:=by simp[Addr.add]
theorem add_add(a:Addr)(i j:Nat):(a.add i).add j=a.add (i+j):=by
 unfold Addr.add<;>grind
theorem ay.cell(h:ay w b t cs){v:Value}(a:cs[i]?=some v):w.cell? ((⟨b,0,none⟩:Addr).add i)=some v:=by
 have:((⟨b,0,none⟩:Addr).add i)=⟨b,i,none⟩:=by unfold Addr.add<;>grind
 rw[this,cell_of_row w b i cs.toArray t (0,0) h];grind
theorem ay.ext(h:ay w b t cs)(a:Ext w w'):ay w' b t cs:=(a.block b h.lt).trans h
theorem ay.new(w:World)(t:TypeId)(cs:List Value):ay (w.alloc (.cells cs.toArray t)) w.heap.size t cs:=heap_alloc_new w _
section
variable {P:Program}{n:Nat}{ops:Array Oper}{Q:Exit->Act->World->Prop}{rest:List Oper}{L:Env}{w:World}
theorem SW.box{x:Operand}{vs:List Value}{pos:String}(f:cg L x=some (.agg vs.toArray))(g:Nat.blt d n=true)
 (h:∀b c,Ext w c->w.heap.size<=b->ay c b t vs->SW P n ops (.fg Q) rest ((d,Pt b)::L) c):SW P n ops (.fg Q) (⟨some d,.box t x,T,pos,af,none⟩::rest) L w:=
 ⟨λa e=>by
  simp only[swp,wpList,Region.wanted,if_true];refine .inl ?_;unfold Oper.wp
  have i:(execOp a.eval ⟨some d,.box t x,T,pos,af,none⟩).run P w= .ok (.value (.pointer (some ⟨w.heap.size,0,none⟩))) (w.alloc (.cells vs.toArray t)):=by
   simp[execOp,e.eval f,Instr.box,newVar,newRow,newObj,Sem.run,Value.cells]
  rw[i,Oper.upon_value];exact(h _ _ (Ext.alloc w _) (Ph _) (ay.new w t vs)).out _ (e.put g _)⟩
end
section
variable {P:Program}{n:Nat}{Q:Exit->Act->World->Prop}{L:Env}{w:World}
theorem CW.dF{id:Nat}{l:List Oper}{b:Env}(c:P.follows .mixedOrders=true)(d:Region.lexB .any l.toArray=true)(h:SW P n l.toArray (.Ls λe=>e=b) l L w)
 (k:∀a,Ext w a->ah n Q .normal b a):CW P n (.region id l.toArray true) Q L w:=
 CW.quiet c d h λ_ a f g=>by subst g;exact k a f
end
structure Sl{α:Type}(w:World)(sz:Nat)(enc:α->List Value)(A:Option Addr)(n:Nat)(l:List α):Prop where
 len:l.length=n
 base:0<n->A.isSome=true
 cell:∀(i:Nat)(h:i<l.length)(j:Nat)(u:Value),(enc l[i])[j]?=some u->w.cell? (((A.getD default).add (i*sz)).add j)=some u
def aT(z:Int):List Value:=[Iv z]
namespace Sl
variable {α:Type}{w w':World}{sz:Nat}{enc:α->List Value}{A:Option Addr}{n:Nat}{l:List α}
theorem ext(h:Sl w sz enc A n l)(a:Ext w w'):Sl w' sz enc A n l:=⟨h.len,h.base,λi b j u c=>a.cell (h.cell i b j u c)⟩
theorem cq(w:World)(sz:Nat)(enc:α->List Value)(A:Option Addr):Sl w sz enc A 0 ([]:List α):=⟨Z,λh=>absurd h Y,λi a=>absurd a fy⟩
theorem lt(h:Sl w sz enc A n l)(a:i<n):i<l.length:=by rw[h.len];exact a
theorem one(h:Sl w sz enc A n l)(a:i<n){u:Value}(b:enc (l[i]'(h.lt a))=[u]):w.cell? ((A.getD default).add (i*sz))=some u:=by
 have:=h.cell i (h.lt a) 0 u (by grind)
 grind[add_zero]
theorem dp(h:Sl w sz enc A n l)(a:i<n){u:Value}(b:(enc (l[i]'(h.lt a)))[j]?=some u):w.cell? (((A.getD default).add (i*sz)).add j)=some u:=h.cell i (h.lt a) j u b
theorem all(h:Sl w sz enc A n l)(a:i<n):∀j u,(enc (l[i]'(h.lt a)))[j]?=some u->w.cell? (((A.getD default).add (i*sz)).add j)=some u:=h.cell i (h.lt a)
end Sl
section
variable {P:Program}{L:Env}{w:World}{d:Option Nat}{T:TypeId}{pos:String}{af:Array Edge}{g:Option (Nat×Bool)}
theorem bO[bL P t e sz]{x:Operand}{n cap:Nat}(a:cg L x=some (.slice A n cap))(b:cg L y=some (Iv (k:Int)))
 (c:0<n->A.isSome=true) (f:k<n):St P ⟨d,.indexAddr t x y,T,pos,af,g⟩ L w (.pointer (some ((A.getD default).add (k*sz)))):=
 (JF a b (c Y) Y Y).eq fy
theorem aU[bL P t e sz]{x:Operand}{n cap:Nat}{i:Int}(k:Nat)(a:cg L x=some (.slice A n cap))(f:cg L y=some (Iv i))
 (b:0<n->A.isSome=true) (h:i=(k:Int)) (c:k<n):St P ⟨d,.indexAddr t x y,T,pos,af,g⟩ L w (.pointer (some ((A.getD default).add (k*sz)))):=
 bO a (by grind) b c
end
variable {α:Type} {R:Ending->World->Prop} {bytes lo nn:Nat} {row:Option Nat} {t' tb:TypeId} {enc:α -> List Value}
class gG{α:Type}(enc:α->List Value)(sz:outParam Nat):Prop where
 len:∀x,(enc x).length=sz
 one:∀x,∀u∈enc x,u.oneCell'=true
instance :gG aT 1:=⟨λ_=>rfl,λ_ u hu=>by simp[aT]at hu;subst hu;rfl⟩
def aN(A:Option Addr)(c:Nat):Option Nat:=if c=0 then none else A.map (·.block)
structure Own{α:Type}(w:World)(lo:Nat)(e:TypeId)(sz:Nat)(enc:α->List Value)(A:Option Addr)(n c:Nat)(l:List α):Prop where
 len:l.length=n
 row:(n=0∧c=0)∨(0<c∧∃g AM,A=some ⟨g,0,none⟩∧lo<=g∧w.heap[g]?=some (.cells AM e (0,0))∧n<=c∧c<=maxLen∧AM.size=c*sz∧AM.toList.take (n*sz)=l.flatMap enc)
theorem bc[E:gG enc sz]:∀(l:List α),(l.flatMap enc).length=l.length*sz
 | []=>by simp
 | x::r=>by simp[List.flatMap_cons,E.len,bc r,Nat.add_mul];omega
theorem iH[E:gG enc sz]:∀(l:List α)(i:Nat)(h:i<l.length)(j:Nat)(u:Value),(enc l[i])[j]?=some u->(l.flatMap enc)[i*sz+j]?=some u
 | x::r,0,_,j,u,hu=>by
   have a:j<(enc x).length:=by
    rcases PJ j (enc x).length with h|h
    ·exact h
    simp[List.getElem?_eq_none h]at hu
   simp only[List.flatMap_cons,Nat.zero_mul,Nat.zero_add];rw[List.getElem?_append_left a];simpa using hu
 | x::r,i+1,h,j,u,hu=>by
   have b:=iH r i (by simpa using h) j u (by simpa using hu);simp only[List.flatMap_cons];rw[Qp (by rw[E.len,Qa];omega),E.len];rw[<-b];congr 1
   rw[Qa];omega
theorem jz[E:gG enc sz](a:0<sz){n:Nat}{l:List α}(h:Sl w sz enc A n l):
 ∀j u,(l.flatMap enc)[j]?=some u->w.cell? ((A.getD default).add j)=some u:=by
 intro j u d
 have i:j<l.length*sz:=by
  rw[<-bc (enc:=enc)];grind
 have b:j / sz<l.length:=Nat.div_lt_of_lt_mul (by grind);have c:j % sz<(enc l[j / sz]).length:=by rw[E.len];exact Nat.mod_lt _ a
 have f:=iH (enc:=enc) l (j / sz) b (j % sz) _ (Pp c);have e:j / sz*sz+j % sz=j:=by grind[Nat.mul_comm,Nat.div_add_mod]
 rw[e,d]at f;have g:=h.cell (j / sz) b (j % sz) _ (Pp c);rw[add_add,e]at g;grind
namespace Own
variable {α:Type}{w w':World}{lo:Nat}{e:TypeId}{sz:Nat}{enc:α->List Value}{A:Option Addr}{n c:Nat}{l:List α}
theorem cq(w:World)(lo:Nat)(e:TypeId)(sz:Nat)(enc:α->List Value)(A:Option Addr):Own w lo e sz enc A 0 0 ([]:List α):=⟨Z,.inl ⟨Z,Z⟩⟩
theorem le(h:Own w lo e sz enc A n c l):n<=c∧c<=maxLen:=by
 rcases h.row with⟨rfl,rfl⟩|⟨_,g,a,_,_,_,b,d,_⟩<;>grind
theorem grown(h:Own w lo e sz enc A n c l)(d:w.grownBy w' row)(f:aN A c=none∨aN A c≠row):Own w' lo e sz enc A n c l:=by
 refine⟨h.len,?_⟩;rcases h.row with q|⟨i,g,a,rfl,j,b,k,m,o,p⟩
 ·omega
 refine .inr ⟨i,g,a,Z,j,?_,k,m,o,p⟩;rw[d.block g (Pr.1 b).1 (by grind[aN,Nat.pos_iff_ne_zero]),b]
theorem ext(h:Own w lo e sz enc A n c l)(d:Ext w w'):Own w' lo e sz enc A n c l:=by
 refine⟨h.len,?_⟩;rcases h.row with p|⟨f,g,a,rfl,i,b,j,k,m,o⟩
 ·omega
 refine .inr ⟨f,g,a,Z,i,?_,j,k,m,o⟩;rw[d.block g (Pr.1 b).1,b]
theorem owns(h:Own w lo e sz enc A n c l)(m:0<c)[gG enc sz]:w.ownsRow lo e sz (.slice A n c) n (l.flatMap enc):=by
 rcases h.row with⟨_,rfl⟩|⟨_,g,a,rfl,b,d,f,i,j,k⟩
 ·omega
 exact⟨by rw[bc,h.len],.inr ⟨g,c,a,Z,b,d,f,i,j,k⟩⟩
theorem qY{v:Value}(h:w.ownsRow lo e sz v m (l.flatMap enc))(a:l.length=m):∃A c,v= .slice A m c∧Own w lo e sz enc A m c l:=by
 rcases h.2 with⟨rfl,rfl⟩|⟨g,cap,b,rfl,d,f,i,j,k,n⟩
 ·exact⟨none,0,Z,a,.inl ⟨Z,Z⟩⟩
 refine⟨_,_,Z,a,?_⟩
 grind
theorem low(h:Own w lo e sz enc A n c l)(b:nn<=lo):Own w nn e sz enc A n c l:=by
 refine⟨h.len,?_⟩;rcases h.row with d|⟨f,g,a,rfl,i,r⟩<;>grind
theorem sl(h:Own w lo e sz enc A n c l)[E:gG enc sz]:Sl w sz enc A n l:=by
 refine⟨h.len,λp=>?_,λi d j u f=>?_⟩
 ·rcases h.row with⟨k,_⟩|⟨_,g,a,rfl,_⟩<;>grind
 rcases h.row with⟨k,_⟩|⟨_,g,a,rfl,q,m,r,s,t,o⟩
 ·have:=h.len;omega
 have b:=iH (enc:=enc) l i d j u f;rw[<-o,List.getElem?_take]at b;split at b
 ·rw[add_add]
  have e:((some (⟨g,0,none⟩:Addr)).getD default).add (i*sz+j)=⟨g,i*sz+j,none⟩:=by
   grind[Addr.add]
  rw[e,cell_of_row w g _ a _ (0,0) m];grind
 grind
end Own
theorem au{a:World}(h:Ext a w)(c:w.grownBy w' row)(b:a.heap.size<=lo)(d:∀k,row=some k->lo<=k):Ext a w':=
 Below.grown h c h.size (λk e=>Pj b (d k e))
theorem Own.az{n c:Nat}{l:List α}(h:Own w lo e sz enc A n c l):∀k,aN A c=some k->lo<=k:=by
 intro k b;rcases h.row with⟨_,rfl⟩|⟨d,g,a,rfl,f,_⟩
 all_goals grind[aN,Nat.pos_iff_ne_zero]
section
variable {α:Type}{P:Program}{w:World}{lo:Nat}{t e:TypeId}{z:Value}{sz bytes:Nat}{enc:α->List Value}{A X:Option Addr}{n c m d:Nat}{l ys:List α}
theorem eB(P:Program)(e:TypeId){z:Value}[E:dt P e z sz bytes]:∃i,P.info? e=some i∧i.zero=some z∧i.size=sz∧i.bytes=bytes:=by
 have h:=E.NO;simp_all
theorem pR[S:bL P t e sz][T:dt P e z sz bytes][E:gG enc sz](ty:TypeId)(B:Own w lo e sz enc A n c l)(C:Sl w sz enc X m ys)(p:lo<=w.heap.size)
 (hb:(n+m)*bytes<=140737488355328) (G:n+m<=maxLen):
 ∃k c' f,(Builtin.append_ #[t,t] ty #[.slice A n c,.slice X m d]).run P w= .ok (.slice k (n+m) c') f∧Own f lo e sz enc k (n+m) c' (l++ys)∧w.grownBy f (aN A c):=by
 obtain⟨i,F,H,I,q⟩:=eB P e (z:=z) (sz:=sz) (bytes:=bytes);have s:(ys.flatMap enc).length=m*sz:=by rw[bc,C.len]
 have o:∀u∈ys.flatMap enc,u.oneCell'=true:=λu W=>by
  obtain⟨x,_,hx⟩:=Py.1 W;exact E.one x u hx
 have D:(l++ys).flatMap enc=l.flatMap enc++ys.flatMap enc:=PP;have J:(l++ys).length=n+m:=by rw[PI,B.len,C.len]
 by_cases K:m=0
 ·subst K;have hy:ys=[]:=PB C.len;subst hy;have L:=B.le.1;refine⟨A,c,w,?_,by grind,World.grownBy.refl _ _⟩;cases A<;>cases X<;>simp[Builtin.append_,run_underlying S.mg,sizeOf,typeInfo,F,Builtin.lenOf,L,Builtin.firstCells,loadCells,loadCellsFrom,storeCells]
 obtain⟨M,rfl⟩:=PM.1 (C.base Y);have a:=jz T.pos C;by_cases V:c=0
 ·have hn:n=0:=by have:=B.le.1;omega
  subst V hn;have hl:l=[]:=PB B.len;subst hl
  have j:∀v f,f.ownsRow lo e sz v (0+m) (([]:List Value)++ys.flatMap enc)->∃k c',v= .slice k (0+m) c'∧Own f lo e sz enc k (0+m) c' ([]++ys):=λv f h'=>
   Own.qY (l:=[]++ys) (enc:=enc) (by grind) Y
  cases A with
  | none=>
    obtain⟨v,f,N,y,O,_⟩:=run_append_own (P:=P) w lo t ty e i z sz bytes S.mg F H I q T.zc T.pos (.slice none 0 0) 0 [] (World.ownsRow_nil _ _ _ _) M m d (ys.flatMap enc) s a o G hb p;obtain⟨k,c',rfl,Q⟩:=j _ _ y
    grind[aN,Value.ownBlock]
  | some b=>
    obtain⟨v,f,N,y,O⟩:=run_append_arg_grows (P:=P) w t ty e i z sz bytes S.mg F H I q T.zc T.pos b 0 0 [] fy fy M m d (ys.flatMap enc) s a Y G hb
    have R:f.ownsRow lo e sz v (0+m) (([]:List Value)++ys.flatMap enc):=⟨y.1,by
     rcases y.2 with h|⟨g,cap,U,e1,e2,r⟩
     ·exact .inl h
     exact .inr ⟨g,cap,U,e1,Pj p e2,r⟩⟩
    obtain⟨k,c',rfl,Q⟩:=j _ _ R
    grind[aN]
 obtain⟨v,f,N,y,O,_⟩:=run_append_own (P:=P) w lo t ty e i z sz bytes S.mg F H I q T.zc T.pos (.slice A n c) n (l.flatMap enc) (B.owns Y) M m d (ys.flatMap enc) s a o G hb p;rw[<-D]at y;obtain⟨k,c',rfl,Q⟩:=Own.qY y J;refine⟨k,c',f,N,Q,?_⟩;have:(Value.slice A n c).ownBlock=aN A c:=by cases A<;>simp[Value.ownBlock,aN,V]
 rwa[this]at O
end
section
variable {α:Type}{P:Program}{n:Nat}{ops:Array Oper}{Q:Exit->Act->World->Prop}{rest:List Oper}{L:Env}{w:World}{d:Nat}{T:TypeId}{pos:String}{af:Array Edge}
theorem SW.append{lo:Nat}{t e:TypeId}{z:Value}{sz bytes:Nat}{enc:α->List Value}{A X:Option Addr}{k c m c2:Nat}{l j:List α}[bL P t e sz][dt P e z sz bytes][gG enc sz]{x y:Operand}
 (o:Own w lo e sz enc A k c l) (p:Sl w sz enc X m j) (g:lo<=w.heap.size) (q:cg L x=some (.slice A k c)) (r:cg L y=some (.slice X m c2)) (s:Nat.blt d n=true)
 (hb:(k+m)*bytes<=140737488355328) (C:k+m<=9223372036854775807)
 (h:∀f c' b,Own b lo e sz enc f (k+m) c' (l++j)->w.grownBy b (aN A c)->SW P n ops (.fg Q) rest ((d,.slice f (k+m) c')::L) b):
 SW P n ops (.fg Q) (⟨some d,.call ⟨.builtin .append,#[x,y],#[t,t]⟩,T,pos,af,none⟩::rest) L w:=
 ⟨λa i=>by
  obtain⟨f,c',b,u,v,B⟩:=pR (P:=P) (t:=t) T o p (d:=c2) g hb (by simp only[maxLen];omega);simp only[swp,wpList,Region.wanted,if_true];refine .inl ?_;unfold Oper.wp
  have:(execOp a.eval ⟨some d,.call ⟨.builtin .append,#[x,y],#[t,t]⟩,T,pos,af,none⟩).run P w= .ok (.value (.slice f (k+m) c')) b:=by
   simp[execOp,resolve,invoke,builtin,i.eval q,i.eval r,u]
  rw[this,Oper.upon_value];exact(h f c' b v B).out _ (i.put s _)⟩
theorem SW.qZ{lo:Nat}{t e:TypeId}{z:Value}{sz bytes:Nat}{enc:α->List Value}{A X:Option Addr}{k c m c2:Nat}{l g i:List α}{r:Nat}[bL P t e sz][dt P e z sz bytes][gG enc sz]{x y:Operand}
 (o:k+m=r) (a:l++g=i) (p:Own w lo e sz enc A k c l) (q:Sl w sz enc X m g) (b:lo<=w.heap.size) (s:cg L x=some (.slice A k c)) (u:cg L y=some (.slice X m c2)) (v:Nat.blt d n=true)
 (hb:(k+m)*bytes<=140737488355328) (B:k+m<=9223372036854775807)
 (h:∀j c' f,Own f lo e sz enc j r c' i->w.grownBy f (aN A c)->SW P n ops (.fg Q) rest ((d,.slice j r c')::L) f):
 SW P n ops (.fg Q) (⟨some d,.call ⟨.builtin .append,#[x,y],#[t,t]⟩,T,pos,af,none⟩::rest) L w:=by
 subst o a;exact SW.append p q b s u v hb B h
theorem SW.Cv{z:Value}[S:bL P t e sz][E:dt P e z sz bytes](f:Nat.blt d n=true)
 (h:∀b c,Ext w c->w.heap.size<=b->SW P n ops (.fg Q) rest ((d,.slice (some ⟨b,0,none⟩) 0 0)::L) c):SW P n ops (.fg Q) (⟨some d,.buildSlice t 0 #[],T,pos,af,none⟩::rest) L w:=
 ⟨λa g=>by
  obtain⟨i,j,m,k,l⟩:=eB P e (z:=z) (sz:=sz) (bytes:=bytes);simp only[swp,wpList,Region.wanted,if_true];refine .inl ?_;unfold Oper.wp
  have:(execOp a.eval ⟨some d,.buildSlice t 0 #[],T,pos,af,none⟩).run P w= .ok (.value (.slice (some ⟨w.heap.size,0,none⟩) 0 0)) (w.alloc (.cells #[] e)):=by
   simp[execOp,Instr.buildSlice,run_underlying S.mg,sizeOf,typeInfo,j,Instr.fill,newRow,Array.range_zero']
  rw[this,Oper.upon_value];exact(h _ _ (Ext.alloc w _) (Ph _)).out _ (g.put f _)⟩
theorem pS:∀(vs:List Value)(k:Nat)(cs:Array Value),k+vs.length<=cs.size->
 ((vs.zipIdx k).foldl (λ(cs:Array Value)(p:Value×Nat)=>cs.setIfInBounds p.2 p.1) cs).toList=cs.toList.take k++vs++cs.toList.drop (k+vs.length)
 | [],k,cs,_=>by simp
 | v::r,k,cs,h=>by
   simp only[List.zipIdx_cons,List.foldl_cons,List.length_cons]at h⊢;rw[pS r (k+1) _ (by grind)];have a:k<cs.toList.length:=by grind
   simp only[Array.toList_setIfInBounds];rw[List.take_set,List.drop_set_of_lt Y]
   have:(cs.toList.take (k+1)).set k v=cs.toList.take k++[v]:=by
    grind[List.length_take,List.take_succ_eq_append_getElem,List.set_append_right]
   grind
theorem SW.bz{z v:Value}{vs:List Value}[S:bL P t e sz][E:dt P e z sz bytes]{x:Operand}(m:cg L x=some v)(o:v.cells=vs.toArray)(q:Nat.beq vs.length sz=true)(D:Nat.ble sz 1000=true)
 (r:Nat.blt d n=true) (h:∀b g,Ext w g->w.heap.size<=b->ay g b e vs->SW P n ops (.fg Q) rest ((d,.slice (some ⟨b,0,none⟩) 1 1)::L) g):
 SW P n ops (.fg Q) (⟨some d,.buildSlice t 1 #[(0,x)],T,pos,af,none⟩::rest) L w:=
 ⟨λa k=>by
  obtain⟨i,s,u,y,A⟩:=eB P e (z:=z) (sz:=sz) (bytes:=bytes);have F:=E.pos;have B:sz<=1000:=by simp_all
  have l:vs.length=sz:=PD q;simp only[swp,wpList,Region.wanted,if_true];refine .inl ?_;unfold Oper.wp
  have:(execOp a.eval ⟨some d,.buildSlice t 1 #[(0,x)],T,pos,af,none⟩).run P w= .ok (.value (.slice (some ⟨w.heap.size,0,none⟩) 1 1)) (w.alloc (.cells vs.toArray e)):=by
   have j:∀cs:Array Value,cs.size=sz->vs.zipIdx.foldl (λ(cs:Array Value)(p:Value×Nat)=>cs.setIfInBounds p.2 p.1) cs=vs.toArray:=λcs C=>by
    have G:=pS vs 0 cs Y;have H:vs.length=cs.toList.length:=by simp;omega
    grind
   have c:¬(16777216<i.size):=Y;have f:¬i.size=0:=Y;simp[execOp,k.eval m,Instr.buildSlice,run_underlying S.mg,sizeOf,typeInfo,s,zeroValue,u,Instr.fill,o,newRow,c,f];simp_all
  rw[this,Oper.upon_value];exact(h _ _ (Ext.alloc w _) (Ph _) (ay.new w e vs)).out _ (k.put r _)⟩
end
section
variable {P:Program}{L:Env}{w:World}{d:Option Nat}{T:TypeId}{pos:String}{af:Array Edge}{g:Option (Nat×Bool)}
theorem fO{x:Operand}{i j r:Int}(c:cg L x=some (Iv i))(e:cg L y=some (Iv j))(k:0<=j)(l:j<=64)(m:i*2 ^ j.toNat=r)(o: -9223372036854775808<=r)(p:r<=9223372036854775807):
 St P ⟨d,.binOp .shl t x y ty,T,pos,af,g⟩ L w (Iv r):=
 ⟨λn a b q _=>by
  have f:=b.eval c;have h:=b.eval e;generalize a.eval=ρ at*;simp[go_sem,f,h];grind[jF]⟩
end
theorem ah.sN{n:Nat}{L:Env}{t u q:Nat}{v x y:Value}(c:fn.results= #[.tmp t,.tmp u,.tmp q])(d:get L t=some v)(e:get L u=some x)(f:get L q=some y)(h:R (.returned (.tuple #[v,x,y])) w):ah n (bodyPost P fn R) .ret L w:=
 ⟨λa b=>⟨b.defers,_,by rw[results_tmp3 c,b.has _ _ d,b.has _ _ e,b.has _ _ f],h⟩⟩
theorem ay.la[E:gG enc sz]{x:α}(h:ay w b e (enc x)):Sl w sz enc (some ⟨b,0,none⟩) 1 [x]:=by
 refine⟨Z,λ_=>Z,λi a j u c=>?_⟩;have:i=0:=by grind
 subst this;simp only[Nat.zero_mul,add_zero];exact h.cell (by grind)
theorem iI(g k:Nat):(⟨g,0,none⟩:Addr).add k=⟨g,k,none⟩:=by unfold Addr.add<;>grind
theorem uY[E:gG enc sz]:∀(l:List α)(k:Nat)(b:k<l.length)(j:Nat)(v:Value)(a:α),j<sz->enc a=(enc l[k]).set j v->
 (l.set k a).flatMap enc=(l.flatMap enc).set (k*sz+j) v
 | x::r,0,_,j,v,a,hj,h=>by
   simp only[List.set_cons_zero,List.flatMap_cons,Nat.zero_mul,Nat.zero_add];rw[h,List.set_append_left _ _ (by rw[E.len];exact hj)]
   rfl
 | x::r,k+1,b,j,v,a,hj,h=>by
   simp only[List.set_cons_succ,List.flatMap_cons];rw[uY r k (by grind) j v a hj (by grind),QH _ _ (by rw[E.len,Qa];omega)];congr 2
   rw[E.len,Qa];omega
section
variable {α:Type}{P:Program}{n:Nat}{ops:Array Oper}{Q:Exit->Act->World->Prop}{rest:List Oper}{L:Env}{w:World}{T:TypeId}{pos:String}{af:Array Edge}
theorem Fo[c:iA P t]{v u:Value}(b:v.oneCell'=true)(d:w.cell? ad=some u)(e:w.frozen? ad=false):(Instr.storeAt t (.pointer (some ad)) v).run P w= .ok () (w.setCell ad v):=by
 have a:v.cells= #[v]:=by cases v<;>first|rfl|grind[Value.oneCell']
 simp[Instr.storeAt,Instr.sureAddr,storeVar,a,run_sizeOf c.size,storeCells,run_store P w ad v .plain b,d,e,add_zero]
theorem SW.store[iA P t]{x:Operand}{v u:Value}(c:cg L x=some (.pointer (some ad)))(d:cg L y=some v)(e:v.oneCell'=true)(f:w.cell? ad=some u)(g:w.frozen? ad=false)
 (h:SW P n ops (.fg Q) rest L (w.setCell ad v)):SW P n ops (.fg Q) (⟨none,.store t x y,T,pos,af,none⟩::rest) L w:=
 ⟨λa b=>by
  simp only[swp,wpList,Region.wanted,if_true];refine .inl ?_;unfold Oper.wp
  have:(execOp a.eval ⟨none,.store t x y,T,pos,af,none⟩).run P w= .ok .skip (w.setCell ad v):=by
   simp[execOp,b.eval c,b.eval d,Fo e f g]
  rw[this,Oper.upon_skip];exact h.out _ b⟩
theorem Own.setAt{lo:Nat}{e:TypeId}{sz:Nat}{enc:α->List Value}[E:gG enc sz]{A:Option Addr}{m c:Nat}{l:List α}(b:Own w lo e sz enc A m c l){k:Nat}(o:k<m){j:Nat}(q:j<sz){v:Value}{f:α}
 (h:enc f=(enc (l[k]'(by rw[b.len];exact o))).set j v) {d:Addr} (r:d=((A.getD default).add (k*sz)).add j):
 (∃u,w.cell? d=some u)∧w.frozen? d=false∧Own (w.setCell d v) lo e sz enc A m c (l.set k f)∧w.grownBy (w.setCell d v) (aN A c):=by
 subst r;have s:0<c:=by have:=b.le;omega
 have a:=b.owns s;rcases b.row with⟨I,_⟩|⟨_,g,t,rfl,x,y,z,B,C,D⟩
 ·omega
 have i:k*sz+j<m*sz:=by
  have:(k+1)*sz<=m*sz:=PC _ o;grind
 have F:((((some (⟨g,0,none⟩:Addr)).getD default).add (k*sz)).add j)=⟨g,k*sz+j,none⟩:=by grind[add_add,iI]
 rw[F];have J:=a.cellAt (k*sz+j) i;have n:=a.stored (k*sz+j) v;have G:k<l.length:=by grind
 refine⟨?_,a.frozenAt _,?_,?_⟩
 ·have H:k*sz+j<(l.flatMap enc).length:=by rw[bc,b.len];grind
  grind
 ·have p:=n.1;rw[<-uY l k G j v f q h]at p;obtain⟨K,c',L,M⟩:=Own.qY p (by simpa using b.len)<;>grind
 grind[aN,Nat.pos_iff_ne_zero]
theorem SW.eY{lo:Nat}{e:TypeId}{sz:Nat}{enc:α->List Value}[E:gG enc sz]{A:Option Addr}{m c:Nat}{l:List α}{t:TypeId}[iA P t]{x y:Operand}{d:Addr}{v:Value}(k j:Nat)(f:α)(g:Own w lo e sz enc A m c l)
 (o:cg L x=some (.pointer (some d))) (p:cg L y=some v) (q:v.oneCell'=true) (i:k<m) (r:j<sz) (s:d=((A.getD default).add (k*sz)).add j) (a:enc f=(enc (l[k]'(by rw[g.len];exact i))).set j v)
 (h:∀b,Own b lo e sz enc A m c (l.set k f)->w.grownBy b (aN A c)->SW P n ops (.fg Q) rest L b):SW P n ops (.fg Q) (⟨none,.store t x y,T,pos,af,none⟩::rest) L w:=by
 obtain⟨⟨u,z⟩,B,C,D⟩:=g.setAt i r a s;exact SW.store o p q z B (h _ C D)
theorem SW.j3{lo:Nat}{e:TypeId}{A:Option Addr}{m c:Nat}{l:List Int}{t:TypeId}[iA P t]{x y:Operand}{i:Int}(k:Nat)(b:Own w lo e 1 aT A m c l)
 (d:cg L x=some (.pointer (some ((A.getD default).add (k*1))))) (f:cg L y=some (Iv i)) (g:k<m)
 (h:∀a,Own a lo e 1 aT A m c (l.set k i)->w.grownBy a (aN A c)->SW P n ops (.fg Q) rest L a):SW P n ops (.fg Q) (⟨none,.store t x y,T,pos,af,none⟩::rest) L w:=
 SW.eY k 0 i b d f Z g Y (by rw[add_zero]) Z h
theorem ay.store(h:ay w b t cs)(a:i<cs.length)(v:Value):
 (∃u,w.cell? ((⟨b,0,none⟩:Addr).add i)=some u)∧w.frozen? ((⟨b,0,none⟩:Addr).add i)=false∧ay (w.setCell ((⟨b,0,none⟩:Addr).add i) v) b t (cs.set i v)∧w.grownBy (w.setCell ((⟨b,0,none⟩:Addr).add i) v) (some b):=by
 refine⟨⟨cs[i],h.cell (Pp a)⟩,?_,?_,?_⟩
 ·rw[iI];exact frozen_of_row w b i _ t h
 ·rw[iI];unfold ay at h⊢;rw[heap_setCell_same w b i _ t v h];simp
 rw[iI];exact⟨Z,Z,Z,by simp,λk _ c=>heap_setCell_other w ⟨b,i,none⟩ k v (λe=>c (by simp[e]))⟩
theorem SW.mJ[iA P t']{x:Operand}{v:Value}(c:ay w b t cs)(d:cg L x=some (.pointer (some ((⟨b,0,none⟩:Addr).add i))))(e:cg L y=some v)(f:v.oneCell'=true)(l:Nat.blt i cs.length=true)
 (h:∀a,ay a b t (cs.set i v)->w.grownBy a (some b)->SW P n ops (.fg Q) rest L a):SW P n ops (.fg Q) (⟨none,.store t' x y,T,pos,af,none⟩::rest) L w:=by
 obtain⟨⟨u,g⟩,j,hb,k⟩:=c.store (i:=i) (by simp_all) v;exact SW.store d e f g j (h _ hb k)
theorem ay.grown(h:ay w b t cs)(c:w.grownBy w' row)(a:some b≠row):ay w' b t cs:=(c.block b h.lt a).trans h
theorem Own.cB{lo:Nat}{e:TypeId}{sz:Nat}{enc:α->List Value}{A:Option Addr}{m c:Nat}{l:List α}(a:Own w lo e sz enc A m c l){b:Nat}{t:TypeId}{cs:List Value}(d:ay w b t cs)(f:Nat.beq t e=false):aN A c≠some b:=by
 rcases a.row with⟨_,rfl⟩|⟨h,g,i,rfl,_,j,_⟩
 ·simp[aN]
 simp only[aN,Nat.pos_iff_ne_zero.1 h,if_false,Option.map_some,ne_eq,Option.some.injEq];rintro rfl;unfold ay at d<;>simp_all
theorem Cw[c:fA P t k]{vs:List Value}(d:ay w b tb cs)(e:vs.length=k)(h:cs.length=k)(f:∀v∈vs,v.oneCell'=true):
 (Instr.storeAt t (Pt b) (.agg vs.toArray)).run P w= .ok () (w.setRow b vs.toArray):=by
 have a:=run_storeCells_at P b 0 tb vs 0 cs.toArray w d (by grind) f;simp only[Nat.zero_add,List.take_zero,List.nil_append]at a;have g:(cs.toArray.toList.drop vs.length)=[]:=by grind
 rw[g,QM]at a;simp[Instr.storeAt,Instr.sureAddr,storeVar,Value.cells,run_sizeOf c.size,e,a]
theorem SW.dY[fA P t k]{vs:List Value}{x:Operand}(e:ay w b tb cs)(f:cg L x=some (Pt b))(g:cg L y=some (.agg vs.toArray))(i:vs.length=k)(l:cs.length=k)(m:∀v∈vs,v.oneCell'=true)
 (h:∀c,ay c b tb vs->w.grownBy c (some b)->SW P n ops (.fg Q) rest L c):SW P n ops (.fg Q) (⟨none,.store t x y,T,pos,af,none⟩::rest) L w:=
 ⟨λa d=>by
  simp only[swp,wpList,Region.wanted,if_true];refine .inl ?_;unfold Oper.wp
  have:(execOp a.eval ⟨none,.store t x y,T,pos,af,none⟩).run P w= .ok .skip (w.setRow b vs.toArray):=by
   simp[execOp,d.eval f,d.eval g,Cw e i l m]
  rw[this,Oper.upon_skip];refine(h _ (setRow_heap w b _ _ tb (0,0) e) ⟨Z,Z,Z,by simp,λj _ o=>?_⟩).out _ d;simp only[World.setRow,Array.getElem?_modify];grind⟩
theorem SW.alloc{z:Value}[E:dt P t z sz bytes](e:Nat.blt d n=true)
 (h:∀b c,Ext w c->w.heap.size<=b->ay c b t z.cells.toList->SW P n ops (.fg Q) rest ((d,Pt b)::L) c):SW P n ops (.fg Q) (⟨some d,.alloc t,T,pos,af,none⟩::rest) L w:=
 ⟨λa f=>by
  obtain⟨i,g,j,_,_⟩:=eB P t (z:=z) (sz:=sz) (bytes:=bytes);simp only[swp,wpList,Region.wanted,if_true];refine .inl ?_;unfold Oper.wp
  have:(execOp a.eval ⟨some d,.alloc t,T,pos,af,none⟩).run P w= .ok (.value (.pointer (some ⟨w.heap.size,0,none⟩))) (w.alloc (.cells z.cells t)):=by
   simp[execOp,Instr.alloc,zeroValue,typeInfo,g,j,newVar,newRow]
  rw[this,Oper.upon_value];exact(h _ _ (Ext.alloc w _) (Ph _) (by have:=ay.new w t z.cells.toList;simp_all)).out _ (f.put e _)⟩
theorem wu{enc:α->List Value}{sz:Nat}[gG enc sz]{z:Value}(a:α)(d:enc a=z.cells.toList)(f:z.cells.size=sz)(g:0<sz)(k:Nat):(madeCells z.cells (k*sz)).toList=(List.replicate k a).flatMap enc:=by
 apply Q4;intro j;by_cases h:j<k*sz
 ·have c:j / sz<(List.replicate k a).length:=by simp_all[List.length_replicate,Nat.div_lt_of_lt_mul,Nat.mul_comm]
  have i:j % sz<z.cells.size:=by simp_all[Nat.mod_lt]
  have b:=iH (enc:=enc) (List.replicate k a) (j / sz) c (j % sz) z.cells[j % sz] (by grind);have e:j / sz*sz+j % sz=j:=by grind[Nat.mul_comm,Nat.div_add_mod]
  rw[e]at b;rw[b];have l:j<(Array.range (k*sz)).size:=by grind
  simp only[madeCells,Array.getElem?_toList,Array.getElem?_map];grind
 grind[List.getElem?_eq_none,size_madeCells,bc,List.length_replicate]
theorem SW.make{d:Nat}{t e:TypeId}{z:Value}{sz bytes:Nat}[S:bL P t e sz][E:dt P e z sz bytes]{x:Operand}{k:Nat}{i:Int}{enc:α->List Value}[gG enc sz](g:α)(u:enc g=z.cells.toList)
 (v:cg L x=some (Iv i)) (y:i=(k:Int)) (hb:bytes*k<=281474976710656) (M:k<=9223372036854775807) (B:Nat.blt d n=true)
 (h:∀A c b,Ext w b->Own b w.heap.size e sz enc A k c (List.replicate k g)->SW P n ops (.fg Q) rest ((d,.slice A k c)::L) b):SW P n ops (.fg Q) (⟨some d,.makeSlice t x x,T,pos,af,none⟩::rest) L w:=
 ⟨λa q=>by
  obtain⟨l,C,D,F,G⟩:=eB P e (z:=z) (sz:=sz) (bytes:=bytes);obtain⟨b,H,r,f⟩:=run_make_full (P:=P) w w.heap.size t e l z sz S.mg C D F .i64 .i64 k (by grind) (by grind[maxLen]) (Ph _);simp only[swp,wpList,Region.wanted,if_true];refine .inl ?_;unfold Oper.wp;have s:=q.eval v;rw[y]at s
  have:(execOp a.eval ⟨some d,.makeSlice t x x,T,pos,af,none⟩).run P w= .ok (.value (.slice (some ⟨w.heap.size,0,none⟩) k k)) b:=by
   simp[execOp,s,H]
  rw[this,Oper.upon_value];have m:(madeCells z.cells (k*sz)).toList=(List.replicate k g).flatMap enc:=wu g u E.zc E.pos k;rw[m]at r;obtain⟨A,c,o,p⟩:=Own.qY r fy;injection o with I _ J
  subst I J;exact(h _ _ _ ⟨f.os,f.tape,f.output,f.size,λj K=>f.block j K fy⟩ p).out _ (q.put B _)⟩
end
variable {ops:Array Oper} {nh:Nat} {o' oi:Oper} {S S':World->Prop}
def AN(P:Program)(md:Region.Mode)(b:Array Oper)(Q:Exit->Act->World->Prop)(c:Nat)(K:Array Bool->Act->World->Prop):(World->Prop)->Nat->Array Bool->Act->World->Prop
 | _,0,listed,a,w=>K listed a w
 | S,f+1,listed,a,w=>Region.ready md b listed≠[]∧∀i∈Region.ready md b listed,i<c∧wpOp P b Q i (λe d=>S d∧AN P md b Q c K S f (listed.setIfInBounds i true) e d) a w
section
variable {P:Program}{md:Region.Mode}{ops:Array Oper}{Q:Exit->Act->World->Prop}{nh:Nat}{K:Array Bool->Act->World->Prop}
theorem Bj(c:∀w,S' w->S w):∀(f:Nat)(b:Array Bool)(a:Act)(w:World),AN P md ops Q nh K S' f b a w->AN P md ops Q nh K S f b a w
 | 0,_,_,_,h=>h
 | f+1,_,_,_,h=>⟨h.1,λi d=>⟨(h.2 i d).1,wpOp_mono (λe g h'=>⟨c _ h'.1,Bj c f _ e g h'.2⟩) (h.2 i d).2⟩⟩
theorem uZ{g:Nat}(c:∀b a w,K b a w->wpAny P md ops Q g b a w):∀(f:Nat)(b:Array Bool)(a:Act)(w:World),AN P md ops Q nh K S f b a w->wpAny P md ops Q (f+g) b a w
 | 0,b,a,w,h=>by rw[Qk];exact c _ _ _ h
 | f+1,b,a,w,h=>by
   rw[show f+1+g=(f+g)+1 by omega];exact⟨λd=>absurd d h.1,λi e=>wpOp_mono (λj k h'=>uZ c f _ j k h'.2) (h.2 i e).2⟩
def Mm(md:Region.Mode)(b:Array Oper)(c:Nat):Prop:=∀a,HeadInv md b c a->∀i,i<c->a.getD i true=false->∀t,c<=t->t∉Region.ready md b a
theorem wv{v:Value}(I:ops[i]?=some oi)(r:∀(j:Nat)(o:Oper)cs b,ops[j]?=some o->o.op≠ .select cs b)
 (z:Mm md ops nh) (A:i<nh) (O:∀c a w,Q (.panic c) (a.put oi.dst v) w->Q (.panic c) a w) (t:∀d a w,K d a w->∀j∈Region.ready md ops d,nh<=j):
 ∀(f:Nat)(d:Array Bool)(a:Act)(w:World),HeadInv md ops nh d->
  (∀j u,ops[j]?=some u->j≠i->d.getD j true=false->(∀e∈u.after,Region.binds md e=true->e.on≠i)->oi.apart ops u=true)->
  i∈Region.ready md ops d->YieldsIf P ops S oi v a->S w->
  AN P md ops Q nh K S f (d.setIfInBounds i true) (a.put oi.dst v) w->AN P md ops Q nh K S (f+1) d a w:=by
 intro f;induction f with
 | zero=>
   intro d a w n _ F G B H;have l:=(mem_ready.1 F).1;refine⟨λh=>(by grind),λj x=>?_⟩
   have p:j<nh:=by
    rcases PJ j nh with h|h
    ·exact h
    exact absurd x (z _ n i A l j h)
   refine⟨p,?_⟩;by_cases g:j=i
   ·subst g;exact G.wpOp I B ⟨B,H⟩
   have:=t _ _ _ H j (ready_mono x g);grind
 | succ f R=>
   intro d a w n m F G B H;have l:=(mem_ready.1 F).1;refine⟨λh=>(by grind),λj x=>?_⟩
   have p:j<nh:=by
    rcases PJ j nh with h|h
    ·exact h
    exact absurd x (z _ n i A l j h)
   refine⟨p,?_⟩;by_cases g:j=i
   ·subst g;exact G.wpOp I B ⟨B,H⟩
   have T:=(H.2 j (ready_mono x g)).2;obtain⟨s,u,y,N⟩:=mem_ready.1 x
   have C:∀e∈u.after,Region.binds md e=true->e.on≠i:=λe he hb U=>by
    grind
   have V:=wpOp_putIf y (m j u y g s C) (λcs b=>r i oi cs b I) (λcs b=>r j u cs b y) O G T
   have q:∀k D,ops[k]?=some D->k≠i->(d.setIfInBounds j true).getD k true=false->
    (∀e∈D.after,Region.binds md e=true->e.on≠i)->oi.apart ops D=true:=λk D W J l L=>by
    refine m k D W J ?_ L;by_cases E:j=k
    ·subst E;exact s
    rw[getD_set_ne true E]at l;grind
   refine wpOp_mono (λX w' M=>⟨M.2.1,R (d.setIfInBounds j true) X w' (n.set x p) q (ready_mono F (Ne.symm g)) M.1 M.2.1 ?_⟩) V;rw[Qv _ _ g];grind
end
structure RB(ops:Array Oper)(nh:Nat):Prop where
 Ob:Region.noSelect ops=true
 waits:Mm .any ops nh
theorem cy(h:(Region.noSelect ops && (Nat.blt nh ops.size && (Region.sinkB .any ops nh && Region.chainB .any ops nh)))=true):RB ops nh:=by
 simp only[Bool.and_eq_true]at h;exact⟨h.1,λa b i d c t e f=>tail_waits h.2.2.1 h.2.2.2 (by simp_all) b _ i Z d c t e f⟩
def Dx(P:Program)(c:Array Oper)(Q:Exit->Act->World->Prop)(d:Nat)(l:List Oper):Array Bool->Act->World->Prop:=λb a w=>Region.seqB .any c l.length d b=true∧wpList P c Q l a w
structure SA(P:Program)(n:Nat)(ops:Array Oper)(Q:Exit->Act->World->Prop)(nh:Nat)(tl:List Oper)(f:Nat)(listed:Array Bool)(L:Env)(w:World):Prop where
 out:∀a,Fit n a L->HeadInv .any ops nh listed->AN P .any ops (NoPanic Q) nh (Dx P ops (NoPanic Q) nh tl) (Ext w) f listed a w
def Lz(P:Program)(n:Nat)(c:Array Oper)(Q:Exit->Act->World->Prop)(d:Nat)(g:List Oper)(f:Nat)(b:Array Bool)(w:World):Exit->Act->World->Prop
 | .normal,a,w'=>Ext w w'∧(HeadInv .any c d b->AN P .any c (NoPanic Q) d (Dx P c (NoPanic Q) d g) (Ext w') f b a w')
 | e,a,w'=>NoPanic Q e a w'
section
variable {P:Program}{n:Nat}{ops:Array Oper}{Q:Exit->Act->World->Prop}{nh f:Nat}{tl:List Oper}{listed:Array Bool}{L:Env}{w:World}
theorem SA.take(i:Nat){o:Oper}(hB:RB ops nh)(hi:ops[i]?=some o)(hf:Region.free .any ops listed i=true)(hr:(Region.ready .any ops listed).contains i=true)(JG:Nat.blt i nh=true)
 (h:SW P n ops (.tk λL'=>SA P n ops Q nh tl f (listed.setIfInBounds i true) L' w) [o] L w):SA P n ops Q nh tl (f+1) listed L w:=
 ⟨λa ha inv=>by
  have hs:=h.out a ha;have LA:i<nh:=by simp_all
  have NI:i∈Region.ready .any ops listed:=by grind
  have Mn:∀listed a w,Dx P ops (NoPanic Q) nh tl listed a w->∀j∈Region.ready .any ops listed,nh<=j:=λ_ _ _ hk=>seqB_ready hk.1;simp only[swp,Ct]at hs;by_cases hw:Region.wanted o (yielded ops a.tmps)=true
  ·rw[if_pos hw]at hs;obtain⟨v,hv,L',NP,hK⟩:=hs;exact wv hi (Region.noSelect_spec hB.Ob) hB.waits LA (λ_ _ _ h=>(h:False).elim) Mn f listed a w inv (Region.free_spec hi hf) NI (.inl ⟨hw,hv⟩) (Ext.refl w) (hK.out _ NP (inv.set NI LA))
  rw[if_neg hw]at hs;obtain⟨L',NP,hK⟩:=hs;exact wv hi (Region.noSelect_spec hB.Ob) hB.waits LA (λ_ _ _ h=>(h:False).elim) Mn f listed a w inv (Region.free_spec hi hf) NI (.inr ⟨by grind,Z⟩) (Ext.refl w) (hK.out _ NP (inv.set NI LA))⟩
theorem Dy{l:Array Bool}(h:LetsOut (Lz P n ops Q nh tl f l w)):LetsOut (NoPanic Q):=h
theorem Oper.MI{o:Oper}{a:Act}{l:Array Bool}{N:Act->World->Prop}(h:o.wp P a w N (Lz P n ops Q nh tl f l w)):o.wp P a w N (NoPanic Q):=by
 unfold Oper.wp at*;generalize (execOp a.eval o).run P w=r at*;cases r with
 | ok x b=>
   cases x<;>simp only[Oper.upon]at h⊢
   case value=>exact h
   case skip=>exact h
   case defer=>exact h
   case row=>exact h
   case enter=>
    refine Calls.mono h λe c d=>?_;cases e<;>exact d
 | halt x b=>
   cases x<;>simp only[Oper.upon]at h⊢
   exact h
theorem SA.stepOf{o:Oper}(p:ops[i]?=some o)(q:i∈Region.ready .any ops listed)(g:i<nh){a:Act}(r:Fit n a L)(j:HeadInv .any ops nh listed)(h:SW P n ops (.fg (Lz P n ops Q nh tl f (listed.setIfInBounds i true) w)) [o] L w):
 wpOp P ops (NoPanic Q) i (λc b=>Ext w b∧AN P .any ops (NoPanic Q) nh (Dx P ops (NoPanic Q) nh tl) (Ext w) f (listed.setIfInBounds i true) c b) a w:=by
 have e:=h.out a r;have d:=j.set q g
 have m:∀c b,Lz P n ops Q nh tl f (listed.setIfInBounds i true) w .normal c b->Ext w b∧AN P .any ops (NoPanic Q) nh (Dx P ops (NoPanic Q) nh tl) (Ext w) f (listed.setIfInBounds i true) c b:=λc b k=>
  ⟨k.1,Bj (λs l=>Ext.trans k.1 l) _ _ _ _ (k.2 d)⟩
 simp only[swp,wpList]at e;unfold wpOp;simp only[p];by_cases t:Region.wanted o (yielded ops a.tmps)=true
 ·rw[if_pos t]at e⊢;rcases e with e|⟨u,v⟩<;>grind[Oper.wp_mono,Oper.MI,Dy]
 grind
theorem SA.one(i:Nat){o:Oper}(e:ops[i]?=some o)(g:Region.ready .any ops listed=[i])(c:Nat.blt i nh=true)(h:SW P n ops (.fg (Lz P n ops Q nh tl f (listed.setIfInBounds i true) w)) [o] L w):SA P n ops Q nh tl (f+1) listed L w:=
 ⟨λa k d=>⟨by grind,λj l=>by
  have b:i<nh:=by simp_all
  grind[SA.stepOf]⟩⟩
theorem SA.two(i k:Nat){o:Oper}(q:ops[i]?=some o)(r:ops[k]?=some o')(g:Region.ready .any ops listed=[i,k])(l:Nat.blt i nh=true)(c:Nat.blt k nh=true)
 (h:SW P n ops (.fg (Lz P n ops Q nh tl f (listed.setIfInBounds i true) w)) [o] L w) (h':SW P n ops (.fg (Lz P n ops Q nh tl f (listed.setIfInBounds k true) w)) [o'] L w):SA P n ops Q nh tl (f+1) listed L w:=
 ⟨λa s m=>⟨by grind,λj p=>by
  have d:i<nh:=by simp_all
  have e:k<nh:=by simp_all
  have b:=p;rw[g]at b;simp only[List.mem_cons,List.not_mem_nil,or_false]at b;rcases b with rfl|rfl
  all_goals grind[SA.stepOf]⟩⟩
theorem ah.sa{l:Array Bool}(b:Ext w0 w)(h:SA P n ops Q nh tl f l L w):ah n (Lz P n ops Q nh tl f l w0) .normal L w:=⟨λa c=>⟨b,h.out a c⟩⟩
theorem SA.done(b:Region.seqB .any ops tl.length nh listed=true)(h:SW P n ops (.fg (NoPanic Q)) tl L w):SA P n ops Q nh tl 0 listed L w:=⟨λa c _=>⟨b,h.out a c⟩⟩
theorem ah.np(h:ah n Q .normal L w):ah n (NoPanic Q) .normal L w:=⟨λa b=>h.out a b⟩
theorem CW.any{id:Nat}{l:List Oper}(b:Nat)(i:P.follows .mixedOrders=true)(k:RB l.toArray b)(m:Nat.ble b l.length=true)(h:∀d,Ext w d->RB l.toArray b->SA P n l.toArray Q b (l.drop b) b (Array.replicate l.length false) L d):CW P n (.region id l.toArray true) Q L w:=
 ⟨λa o=>by
  have e:b<=l.length:=by simp_all
  refine wp_region_noPanic (wp_region_any i ?_);have p:=(h _ (Ext.drew w) k).out a o ⟨by simp,λj q _ r=>(by grind[getD_replicate_false]),λt _ s=>getD_in (by grind) (getD_replicate_false _ _)⟩;have:=uZ (g:=(l.drop b).length) (λc a w f=>wpAny_of_seq (md:= .any) (l.drop b) b c a w (λj=>by grind) f.1 f.2) _ _ _ _ p
  simp_all⟩
end
variable {K:Env->Prop} {places:List (Nat×Nat)} {pv:List (Nat×Value)} {cap zc:List Value} {fo:Operand}
section
variable {P:Program}{L:Env}{w:World}{d:Option Nat}{T:TypeId}{pos:String}{af:Array Edge}{g:Option (Nat×Bool)}
theorem aX{x:Operand}(b:cg L x=some (.pointer (some ad))):St P ⟨d,.nilCheck x,T,pos,af,g⟩ L w (.pointer (some ad)):=
 ⟨λ_ a c e _=>by have f:=c.eval b;simp_all[execOp]⟩
theorem JH[c:bL P t e sz]{x:Operand}{n cap:Nat}(b:cg L x=some (.slice A n cap)):
 St P ⟨d,.call ⟨.builtin .cap,#[x],#[t]⟩,T,pos,af,g⟩ L w (Iv cap):=
 ⟨λ_ a f h _=>by simp[execOp,resolve,invoke,builtin,f.eval b,Builtin.cap_,run_underlying c.mg,goInt]⟩
theorem Cx{u:TypeId}{x:Operand}{i j:Int}(c:cg L x=some (Iv i))(f:cg L y=some (Iv j)):
 St P ⟨d,.call ⟨.builtin .min,#[x,y],#[t,u]⟩,T,pos,af,g⟩ L w (Iv (min i j)):=
 ⟨λ_ a b h _=>by
  have e:(if j<i then j else i)=min i j:=Y;simp[execOp,resolve,invoke,builtin,b.eval c,b.eval f,Builtin.min_,Builtin.min2,e]⟩
theorem Cy{u:TypeId}{x:Operand}{i j:Int}(c:cg L x=some (Iv i))(f:cg L y=some (Iv j)):
 St P ⟨d,.call ⟨.builtin .max,#[x,y],#[t,u]⟩,T,pos,af,g⟩ L w (Iv (max i j)):=
 ⟨λ_ a b h _=>by
  have e:(if i<j then j else i)=max i j:=Y;simp[execOp,resolve,invoke,builtin,b.eval c,b.eval f,Builtin.max_,Builtin.max2,e]⟩
theorem gH{f:FuncId}{cap:List Operand}{vs:List Value}(b:r4 L cap=some vs):St P ⟨d,.makeFunc (.func f) #[] cap.toArray,T,pos,af,g⟩ L w (.func (.func f) #[] vs.toArray):=
 ⟨λ_ a c e _=>by simp[execOp,Instr.makeFunc,<-c.sL b]⟩
end
def setAt(cs:List Value)(off:Nat):List Value->List Value
 | []=>cs
 | v::r=>setAt (cs.set off v) (off+1) r
def Dz(places:List (Nat×Nat))(a:List Value):List (Nat×Value)->Option (List Value)
 | []=>some a
 | (i,v)::rest=>match places[i]? with
   | none=>none
   | some (off,size)=>bif Nat.beq v.cells.size size && Nat.ble (off+v.cells.size) a.length then Dz places (setAt a off v.cells.toList) rest else none
theorem r6:∀(vs:List Value)(k off:Nat)(cs:List Value),(vs.zipIdx k).foldl (λ(cs:Array Value)(p:Value×Nat)=>cs.setIfInBounds (off+p.2) p.1) cs.toArray=(setAt cs (off+k) vs).toArray
 | [],_,_,_=>rfl
 | v::r,k,off,cs=>by
   simp only[List.zipIdx_cons,List.foldl_cons,setAt];rw[List.setIfInBounds_toArray,r6 r (k+1) off]
   rfl
theorem GN{places:List (Nat×Nat)}:∀(b:List (Nat×Value))(a cs:List Value),Dz places a b=some cs->Instr.fill (places.toArray[·]?) a.toArray b=some cs.toArray
 | [],_,_,h=>by simp[Dz]at h;subst h;rfl
 | (i,v)::rest,a,cs,h=>by
   simp only[Dz]at h;simp only[Instr.fill,List.getElem?_toArray];split at h
   ·cases h
   rename_i off size c;simp only[cond_eq_ite]at h;split at h
   ·rename_i hb;simp only[Bool.and_eq_true]at hb;have d:=PD hb.1;have e:off+v.cells.size<=a.length:=by simp_all
    simp only[c];have:=r6 v.cells.toList 0 off a;simp only[Nat.add_zero]at this
    have f:Array.foldl (λ(cs:Array Value)(x:Value×Nat)=>cs.setIfInBounds (off+x.2) x.1) a.toArray v.cells.zipIdx=(setAt a off v.cells.toList).toArray:=by
     rw[<-this,<-Array.foldl_toList];grind
    rw[if_neg (by grind)];have g:=GN (places:=places) rest _ _ h;grind
   grind
class ke(P:Program)(t:TypeId)(places:outParam (List (Nat×Nat)))(zc:outParam (List Value)):Prop where
 mg:((P.underlying t).bind fun| .struct fs=>some ((fs.toList.map λf=>(f.offset,(P.info? f.type).map (·.size))))|_=>none)=some (places.map λp=>(p.1,some p.2)):=by kernel_rfl
 zero:((P.info? t).bind (·.zero)).map (·.cells)=some zc.toArray:=by kernel_rfl
def tX(L:Env):List (Nat×Operand)->Option (List (Nat×Value))
 | []=>some []
 | (i,x)::r=>match cg L x,tX L r with
   | some v,some vs=>some ((i,v)::vs)
   | _,_=>none
theorem Fit.parts{n:Nat}{a:Act}{L:Env}(h:Fit n a L):∀{xs:List (Nat×Operand)}{vs:List (Nat×Value)},tX L xs=some vs->xs.map (λp=>(p.1,a.eval p.2))=vs
 | [],vs,e=>by simp[tX]at e;grind
 | (i,x)::r,vs,e=>by
   simp only[tX]at e;cases b:cg L x with
   | none=>grind
   | some v=>
     cases c:tX L r with
     | none=>grind
     | some d=>
       simp[b,c]at e;subst e;simp[h.eval b,h.parts c]
theorem pE(w:World):∀(a:List Field)(places:List (Nat×Nat)),(a.map λf=>(f.offset,(P.info? f.type).map (·.size)))=(places.map λp=>(p.1,some p.2))->
 (a.mapM (m:=Sem) λf=>do return (f.offset,<-sizeOf f.type)).run P w= .ok places w
 | [],[],_=>by simp
 | f::a,p::ps,h=>by
   simp only[List.map_cons,List.cons.injEq,Prod.mk.injEq]at h;have b:=pE w a ps h.2;have c:=run_sizeOf h.1.2 w;simp_all
 | [],_::_,h=>by grind
 | _::_,[],h=>by grind
section
variable {P:Program}{L:Env}{w:World}{d:Option Nat}{T:TypeId}{pos:String}{af:Array Edge}{g:Option (Nat×Bool)}
theorem oh[c:ke P t places zc]{e:List (Nat×Operand)}(r:tX L e=some pv)(s:Dz places zc pv=some cs):
 St P ⟨d,.build t e.toArray,T,pos,af,g⟩ L w (.agg cs.toArray):=
 ⟨λn a u b _=>by
  have v:=c.zero;cases x:P.info? t with
  | none=>grind
  | some h=>
    cases i:h.zero with
    | none=>grind
    | some z=>
      simp[x,i]at v;have l:=c.mg;cases o:P.underlying t with
      | none=>grind
      | some D=>
        cases D<;>simp only[o,Option.bind_some,reduceCtorEq,Option.some.injEq]at l
        rename_i q;have B:=pE (P:=P) b q.toList places l;have j:=GN pv zc cs s;have y:=u.parts r
        have A:(q.mapM (m:=Sem) λf=>do return (f.offset,<-sizeOf f.type)).run P b= .ok places.toArray b:=by
         rw[Q7];simp_all
        have k:(zeroValue t).run P b= .ok z b:=by simp_all[zeroValue,typeInfo]
        have hb:(Instr.build t (e.map λp=>(p.1,a.eval p.2)).toArray).run P b= .ok (.agg cs.toArray) b:=by
         unfold Instr.build;simp only[Sem.run_bind,k,Result.andThen,run_underlying o];simp_all
        have C:(execOp a.eval ⟨d,.build t e.toArray,T,pos,af,g⟩).run P b=(do pure (Next.value (<-Instr.build t (e.map λp=>(p.1,a.eval p.2)).toArray)):Sem Next).run P b:=by simp[execOp]
        simp_all⟩
end
inductive lG(P:Program)(L:Env)(w:World):List ResultVar->List Value->Prop
 | nil:lG P L w [] []
 | tmp {t:Nat} {v:Value} {rs:List ResultVar} {vs:List Value}:get L t=some v->lG P L w rs vs->lG P L w (.tmp t::rs) (v::vs)
 | cell {t ty b tb m:Nat} {cs:List Value} {rs:List ResultVar} {vs:List Value}:fA P ty m->get L t=some (Pt b)->ay w b tb cs->cs.length=m->lG P L w rs vs->lG P L w (.cell t ty::rs) (.agg cs.toArray::vs)
theorem lG.run{L:Env}{n:Nat}{a:Act}(f:Fit n a L){rs:List ResultVar}{vs:List Value}(h:lG P L w rs vs):
 (rs.mapM (m:=Sem) fun| .tmp t=>pure (a.tmps.getD t undef)| .cell b t=>do loadVar t (<-asAddr (a.tmps.getD b undef))).run P w= .ok vs w:=by
 induction h with
 | nil=>rfl
 | @tmp t v rs vs d k g=>
   rw[List.mapM_cons];simp only[Sem.run_bind,f.has _ _ d,pure,Sem.run,Result.andThen];simp only[pure]at g;grind
 | @cell t ty b q m cs rs vs c d l o k g=>
   rw[List.mapM_cons]
   have e:(loadVar ty ⟨b,0,none⟩).run P w= .ok (.agg cs.toArray) w:=by
    subst o;simp[loadVar,rK,run_sizeOf c.size,run_loadCells_list (P:=P) w ⟨b,0,none⟩ cs (λj v p=>l.cell p)]
   have i:(asAddr (a.tmps.getD t undef)).run P w= .ok ⟨b,0,none⟩ w:=by rw[f.has _ _ d];rfl
   simp_all
section
variable {P:Program}{fn:Func}{R:Ending->World->Prop}{n:Nat}{L:Env}{w:World}
theorem lG.results{rs:List ResultVar}{vs:List Value}(b:fn.results=rs.toArray)(h:lG P L w rs vs){a:Act}(c:Fit n a L):
 (results fn a.tmps).run P w= .ok (if h:vs.toArray.size=1 then vs.toArray[0]else .tuple vs.toArray) w:=by
 have d:=h.run c;unfold Go.results;rw[b,Q7]
 have e:∀(x:Sem (List Value)),x.run P w= .ok vs w->(do let vs<-(Functor.map List.toArray x:Sem (Array Value));pure (if h:vs.size=1 then vs[0]else .tuple vs):Sem Value).run P w= .ok (if h:vs.toArray.size=1 then vs.toArray[0]else .tuple vs.toArray) w:=λx f=>by
  simp_all
 exact e _ d
theorem ah.nu{t ty e:Nat}[c:fA P ty m](f:fn.results= #[.cell t ty])(g:get L t=some (Pt b))(i:ay w b e cs)(j:Nat.beq cs.length m=true)(h:R (.returned (.agg cs.toArray)) w):ah n (bodyPost P fn R) .ret L w:=
 ⟨λa d=>⟨d.defers,_,by simpa using lG.results (rs:=[.cell t ty]) f (.cell c g i (PD j) .nil) d,h⟩⟩
theorem ah.a9{t u ty e:Nat}{x:Value}[c:fA P ty m](f:fn.results= #[.cell t ty,.tmp u])(g:get L t=some (Pt b))(i:get L u=some x)(j:ay w b e cs)(k:Nat.beq cs.length m=true)(h:R (.returned (.tuple #[.agg cs.toArray,x])) w):ah n (bodyPost P fn R) .ret L w:=
 ⟨λa d=>⟨d.defers,_,by simpa using lG.results (rs:=[.cell t ty,.tmp u]) f (.cell c g j (PD k) (.tmp i .nil)) d,h⟩⟩
theorem ah.cb{t u q ty e:Nat}{x y:Value}[c:fA P ty m](f:fn.results= #[.cell t ty,.tmp u,.tmp q])(g:get L t=some (Pt b))(i:get L u=some x)(j:get L q=some y)(k:ay w b e cs)(l:Nat.beq cs.length m=true)(h:R (.returned (.tuple #[.agg cs.toArray,x,y])) w):ah n (bodyPost P fn R) .ret L w:=
 ⟨λa d=>⟨d.defers,_,by simpa using lG.results (rs:=[.cell t ty,.tmp u,.tmp q]) f (.cell c g k (PD l) (.tmp i (.tmp j .nil))) d,h⟩⟩
end
section
variable {P:Program}{n:Nat}{ops:Array Oper}{Q:Exit->Act->World->Prop}{rest:List Oper}{L:Env}{w:World}
theorem tY{a:Act}{d:Option Nat}{f:FuncId}{xs:List Operand}{pos:String}
 (hb:Body P f) (b:a.eval fo= .func (.func f) #[] cap.toArray):(execOp a.eval ⟨d,.call ⟨.value fo,xs.toArray,ts⟩,T,pos,af,g⟩).run P w'= .ok (.enter f (xs.map a.eval++cap).toArray) w':=by
 simp only[execOp,resolve,b,Deferred.ofValue,Sem.run_bind,pure,Sem.run,Result.andThen,invoke,List.map_toArray];have:=hb.out (xs.map a.eval++cap).toArray w';simpa using this
theorem SW.nv{f:FuncId}{xs:List Operand}{vs:List Value}{pos:String}{R:Value->World->Prop}
 (i:cg L fo=some (.func (.func f) #[] cap.toArray)) (j:r4 L xs=some vs) (k:Nat.blt d n=true) (l:aS P f (vs++cap) w R) (h:∀v b,Ext w b->R v b->SW P n ops (.fg Q) rest ((d,v)::L) b) (m:Body P f:=by exact j0):
 SW P n ops (.fg Q) (⟨some d,.call ⟨.value fo,xs.toArray,ts⟩,T,pos,af,none⟩::rest) L w:=
 ⟨λa c=>by
  simp only[swp,wpList,Region.wanted,if_true];refine .inl ?_;unfold Oper.wp;rw[tY (hb:=m) (c.eval i),Oper.upon_enter,c.sL j];refine Calls.mono l.out ?_;rintro e b ⟨v,rfl,g,o⟩;exact(h v b g o).out _ (c.put k v)⟩
theorem SW.r7{f:FuncId}{xs:List Operand}{vs:List Value}{pos:String}{v:Value}
 (j:cg L fo=some (.func (.func f) #[] cap.toArray)) (k:r4 L xs=some vs) (l:Nat.blt d n=true) (m:∀c,Ext w c->aS P f (vs++cap) c λu _=>u=v) (h:SW P n ops (.Ls K) rest ((d,v)::L) w) (o:Body P f:=by exact j0):
 SW P n ops (.Ls K) (⟨some d,.call ⟨.value fo,xs.toArray,ts⟩,T,pos,af,none⟩::rest) L w:=
 ⟨λa g=>by
  simp only[swp,wpQuiet,Region.wanted,if_true];refine⟨v,λc b=>?_,h.out _ (g.put l v)⟩;unfold Oper.quietAt;rw[tY (hb:=o) (g.eval j),g.sL k];refine⟨Z,Calls.mono (m c b).out ?_⟩;rintro e p ⟨u,rfl,i,rfl⟩;exact⟨Z,b.trans i⟩⟩
end
section
variable {P:Program}{L:Env}{w:World}{d:Option Nat}{T:TypeId}{pos:String}{af:Array Edge}{g:Option (Nat×Bool)}
theorem dG[c:bL P t e sz]{x:Operand}{n cap:Nat}(f:cg L x=some (.slice A n cap))(h:cg L y=some (Iv (k:Int)))(i:k<=n)(m:n<=cap):
 St P ⟨d,.slice t x (some y) none none,T,pos,af,g⟩ L w (.slice (if cap=k then A else A.map (·.add (k*sz))) (n-k) (cap-k)):=
 ⟨λ_ a b o _=>by
  have j:=b.eval f;have l:=b.eval h;generalize a.eval=ρ at*;simp[execOp,j,l,Instr.sliceAt,Instr.slice,Instr.sliceBounds,Instr.sliceBound,asIntOf,run_underlying c.mg,run_sizeOf c.size,i]⟩
theorem gl[c:bL P t e sz]{x:Operand}{n cap:Nat}(f:cg L x=some (.slice A n cap))(h:cg L y=some (Iv (k:Int)))(i:k<=cap):
 St P ⟨d,.slice t x none (some y) none,T,pos,af,g⟩ L w (.slice A k cap):=
 ⟨λ_ a b o _=>by
  have j:=b.eval f;have l:=b.eval h;generalize a.eval=ρ at*;have m:A.map (·.add 0)=A:=by simp_all[add_zero]
  simp[execOp,j,l,Instr.sliceAt,Instr.slice,Instr.sliceBounds,Instr.sliceBound,asIntOf,run_underlying c.mg,run_sizeOf c.size,i,m]⟩
end
def GO:Option TypeDesc->Bool
 | some (.int .i64)=>true
 | _=>false
theorem wx{o:Option TypeDesc}(h:GO o=true):o=some (.int .i64):=by
 unfold GO at h<;>grind
class wy(P:Program)(t:TypeId)(k:outParam Nat):Prop where
 mg:P.underlying t=some (.struct (P.fieldsOf t))
 stood:P.stoodInHeld t=false
 guard:P.eqGuardType P.depth t=false
 Np:((P.fieldsOf t).toList.map λf=>(f.name== "_",f.offset,GO (P.underlying f.type),(P.info? f.type).map (·.size)))=(List.range k).map λi=>(false,i,true,some 1)
theorem sO{t:Nat}{xs:Array Value}{v:Value}(b:P.underlying t=some (.int .i64))(d:(P.info? t).map (·.size)=some 1)(a:xs[off]?=some v):(part t xs off).run P w= .ok v w:=by
 have c:off<xs.size:=(Pr.1 a).1;simp only[part,isAgg,Sem.run_bind,run_underlying b,Result.andThen,pure,Sem.run];simp[a]
theorem nw{P:Program}{w:World}(d:Nat)(xs a:List Int):∀(b:List Field)(j:Nat),
 (b.map λf=>(f.name== "_",f.offset,GO (P.underlying f.type),(P.info? f.type).map (·.size)))=(List.range' j b.length).map (λi=>(false,i,true,some 1))->xs.length=j+b.length->a.length=j+b.length->
 (Op.eqFields (d+1) (xs.map (Value.int .i64)).toArray (a.map (Value.int .i64)).toArray b).run P w= .ok (decide (xs.drop j=a.drop j)) w
 | [],j,_,hx,hy=>by
   simp only[List.length_nil]at hx hy;have n:xs.drop j=[]:=by grind
   have o:a.drop j=[]:=by grind
   simp[Op.eqFields,n,o]
 | f::b,j,h,hx,hy=>by
   simp only[List.map_cons,List.length_cons,List.range'_succ,List.cons.injEq,Prod.mk.injEq]at h hx hy;obtain⟨⟨x,p,c,m⟩,q⟩:=h;have y:=nw (w:=w) d xs a b (j+1) q Y Y;have g:j<xs.length:=Y;have k:j<a.length:=Y;have l:f.name≠ "_" :=by grind
   have r:=sO (P:=P) (w:=w) (off:=j) (xs:=(xs.map (Value.int .i64)).toArray) (wx c) m (v:= .int .i64 xs[j]) (by grind);have s:=sO (P:=P) (w:=w) (off:=j) (xs:=(a.map (Value.int .i64)).toArray) (wx c) m (v:= .int .i64 a[j]) (by grind);have t:=Qu g;have u:=Qu k;generalize xs.drop (j+1)=OX at*;generalize a.drop (j+1)=OY at*;rw[t,u];simp only[Op.eqFields,if_pos l,Sem.run_bind,p,r,s,Result.andThen,run_equalIn_int w d f.type .i64 .i64 xs[j] a[j] (wx c)];by_cases e:xs[j]=a[j]<;>simp_all
section
variable {P:Program}{L:Env}{w:World}{d:Option Nat}{T:TypeId}{pos:String}{af:Array Edge}{g:Option (Nat×Bool)}
theorem LB{k:TypeId}[c:wy P t k](xs a:List Int)(e:xs.length=k)(f:a.length=k)(b:World):(Op.equalIn 10000 t (.agg (xs.map (Value.int .i64)).toArray) (.agg (a.map (Value.int .i64)).toArray)).run P b= .ok (decide (xs=a)) b:=by
 have d:(P.fieldsOf t).toList.length=k:=by have:=congrArg List.length c.Np;grind
 have h:=nw (P:=P) (w:=b) 9998 xs a (P.fieldsOf t).toList 0 (by rw[c.Np,d,List.range_eq_range']) Y Y;rw[run_equalIn_struct b 9999 t _ _ c.mg c.stood];grind
theorem JI{k:TypeId}[c:wy P t k]{x:Operand}(xs b:List Int)(i:cg L x=some (.agg (xs.map (Value.int .i64)).toArray))(j:cg L y=some (.agg (b.map (Value.int .i64)).toArray))(l:Nat.beq xs.length k=true)(m:Nat.beq b.length k=true):
 St P ⟨d,.binOp .neq t x y ty,T,pos,af,g⟩ L w (.bool (!decide (xs=b))):=
 ⟨λ_ a h f _=>by
  have e:=LB (P:=P) (t:=t) xs b (PD l) (PD m) f;have hb:(binOp .neq t (.agg (xs.map (Value.int .i64)).toArray) (.agg (b.map (Value.int .i64)).toArray)).run P f= .ok (.bool (!decide (xs=b))) f:=by rw[run_neq_struct,e];rfl
  have n:=run_eqGuard_agg (P:=P) f .neq t x y (xs.map (Value.int .i64)).toArray (b.map (Value.int .i64)).toArray c.guard;have o:=h.eval i;have p:=h.eval j
  simp_all[execOp]⟩
end
section
variable {P:Program}{n:Nat}{ops:Array Oper}{Q:Exit->Act->World->Prop}{rest:List Oper}{L:Env}{w:World}{pos:String}{af:Array Edge}{T:TypeId}
theorem SW.JJ{x:Operand}{v:Value}(g:cg L x=some v)(k:v.oneCell'=true)(i:Nat.blt d n=true)
 (h:∀b c,Ext w c->w.heap.size<=b->ay c b t [v]->SW P n ops (.fg Q) rest ((d,Pt b)::L) c):SW P n ops (.fg Q) (⟨some d,.box t x,T,pos,af,none⟩::rest) L w:=
 ⟨λa f=>by
  have e:v.cells= #[v]:=by cases v<;>first|rfl|grind[Value.oneCell']
  simp only[swp,wpList,Region.wanted,if_true];refine .inl ?_;unfold Oper.wp
  have j:(execOp a.eval ⟨some d,.box t x,T,pos,af,none⟩).run P w= .ok (.value (.pointer (some ⟨w.heap.size,0,none⟩))) (w.alloc (.cells #[v] t)):=by
   simp[execOp,f.eval g,Instr.box,newVar,newRow,newObj,Sem.run,e]
  rw[j,Oper.upon_value];exact(h _ _ (Ext.alloc w _) (Ph _) (ay.new w t [v])).out _ (f.put i _)⟩
end
theorem Ext.own{a:World}(h:Ext a w)(hb:a.heap.size<=b)(c:w.grownBy w' (some b)):Ext a w':=au h c (Ph _) (λk e=>by grind)
variable {listed:Array Bool} {Q1 Q2:Exit->Act->World->Prop}
def vC(P:Program)(b:Array Oper)(Q:Exit->Act->World->Prop)(d c:Nat)(e:World->Prop):(World->Prop)->Nat->Array Bool->Act->World->Prop
 | _,0,listed,a,w=>Region.ready .any b listed=[]∧Q .normal a w
 | S,f+1,listed,a,w=>Region.ready .any b listed≠[]∧∀i∈Region.ready .any b listed,i<b.size∧wpOp P b Q i (λh g=>(i=c->vC P b Q d c e (λ_=>True) f (listed.setIfInBounds i true) h g)∧
    (i≠c->i=d->e g∧vC P b Q d c e e f (listed.setIfInBounds i true) h g)∧(i≠c->i≠d->S g∧vC P b Q d c e S f (listed.setIfInBounds i true) h g)) a w
section
variable {P:Program}{ops:Array Oper}{Q:Exit->Act->World->Prop}{fin dV:Nat}{S2:World->Prop}
theorem kv:∀(f:Nat){S c:World->Prop}(d:∀w,c w->S w)(b:Array Bool)(a:Act)(w:World),vC P ops Q fin dV S2 c f b a w->vC P ops Q fin dV S2 S f b a w
 | 0,_,_,_,_,_,_,h=>h
 | f+1,S,c,d,_,_,_,h=>⟨h.1,λi e=>⟨(h.2 i e).1,wpOp_mono (λj k h'=>⟨h'.1,h'.2.1,λg n2=>⟨d _ (h'.2.2 g n2).1,kv f d _ j k (h'.2.2 g n2).2⟩⟩) (h.2 i e).2⟩⟩
theorem ny:∀(f:Nat){S:World->Prop}(b:Array Bool)(a:Act)(w:World),vC P ops Q fin dV S2 S f b a w->wpAny P .any ops Q f b a w
 | 0,_,_,_,_,h=>h
 | f+1,S,b,a,w,h=>⟨λj=>absurd j h.1,λi k=>wpOp_mono (λc d h'=>by
    by_cases e:i=dV
    ·exact ny f _ c d (h'.1 e)
    by_cases g:i=fin
    ·exact ny f _ c d (h'.2.1 e g).2
    exact ny f _ c d (h'.2.2 e g).2) (h.2 i k).2⟩
def fr(a:Array Oper)(k:Nat):List Nat->Nat->Bool
 | [],i=>match a[k]? with
   | some o=>o.after.any λe=>Region.binds .any e && Nat.beq e.on i
   | none=>false
 | x::r,i=>(match a[k]? with
   | some o=>o.after.any λe=>Region.binds .any e && Nat.beq e.on x
   | none=>false) && fr a x r i
theorem Cz(h:(match ops[k]? with|some o=>o.after.any λe=>Region.binds .any e && Nat.beq e.on i|none=>false)=true):∃o,ops[k]?=some o∧∃e∈o.after,Region.binds .any e=true∧e.on=i:=by
 cases a:ops[k]? with
 | none=>grind
 | some o=>
   rw[a]at h;simp only[Array.any_eq_true',Bool.and_eq_true]at h;simp_all
theorem rL{n:Nat}(a:HeadInv .any ops n listed):∀(p:List Nat)(k i:Nat),fr ops k p i=true->listed.getD k false=true->listed.getD i false=true
 | [],k,i,h,hk=>by
   obtain⟨o,c,e,d,hb,b⟩:=Cz h;rw[<-b];exact a.closed k o c hk e d hb
 | x::r,k,i,h,hk=>by
   simp only[fr,Bool.and_eq_true]at h;obtain⟨o,c,e,d,hb,b⟩:=Cz h.1;exact rL a r x i h.2 (by rw[<-b];exact a.closed k o c hk e d hb)
theorem CA{n:Nat}(d:HeadInv .any ops n listed){p:List Nat}(h:fr ops k p i=true)(f:k∈Region.ready .any ops listed):listed.getD i false=true:=by
 obtain⟨_,o,g,c⟩:=mem_ready.1 f;cases p with
 | nil=>
   obtain⟨j,a,e,l,hb,b⟩:=Cz h<;>grind
 | cons x r=>
   simp only[fr,Bool.and_eq_true]at h;obtain⟨j,a,e,l,hb,b⟩:=Cz h.1;rw[g]at a;grind[rL]
theorem mK{T:World->Prop}{v:Value}(R:ops[i]?=some oi)(t:∀(j:Nat)(o:Oper)cs b,ops[j]?=some o->o.op≠ .select cs b)(D:i≠dV)(E:i≠fin)
 (hQ:∀c a w,Q (.panic c) (a.put oi.dst v) w->Q (.panic c) a w) (F:(∀w,T w)∨∃p,fr ops dV p i=true) (G:(∀w,S2 w->T w)∨∃p,fr ops fin p i=true):
 ∀(f:Nat){S:World->Prop}(m:∀w,S w->T w)(d:Array Bool)(a:Act)(w:World),HeadInv .any ops ops.size d->
  (∀j x,ops[j]?=some x->j≠i->d.getD j true=false->(∀e∈x.after,Region.binds .any e=true->e.on≠i)->oi.apart ops x=true)->
  i∈Region.ready .any ops d->YieldsIf P ops T oi v a->S w->
  vC P ops Q fin dV S2 S f (d.setIfInBounds i true) (a.put oi.dst v) w->vC P ops Q fin dV S2 S (f+1) d a w:=by
 intro f;induction f with
 | zero=>
   intro S m d a w I _ C O J H;have y:=(mem_ready.1 C).1;refine⟨λh=>(by grind),λj z=>?_⟩;have r:j<ops.size:=by obtain⟨_,o,ho,_⟩:=mem_ready.1 z<;>grind
   refine⟨r,?_⟩;by_cases g:j=i
   ·subst g;exact O.wpOp R (m _ J) ⟨λe=>absurd e D,λ_ e=>absurd e E,λ_ _=>⟨J,H⟩⟩
   have h0:=ready_mono z g;rw[H.1]at h0;grind
 | succ f U=>
   intro S m d a w I n C O J H;have y:=(mem_ready.1 C).1;refine⟨λh=>(by grind),λj z=>?_⟩;have r:j<ops.size:=by obtain⟨_,o,ho,_⟩:=mem_ready.1 z<;>grind
   refine⟨r,?_⟩;by_cases g:j=i
   ·subst g;exact O.wpOp R (m _ J) ⟨λe=>absurd e D,λ_ e=>absurd e E,λ_ _=>⟨J,H⟩⟩
   have h1:=(H.2 j (ready_mono z g)).2;obtain⟨u,x,A,za⟩:=mem_ready.1 z
   have K:∀e∈x.after,Region.binds .any e=true->e.on≠i:=λe he hb zb=>by
    grind
   have h2:=wpOp_putIf A (n j x A g u K) (λcs b=>t i oi cs b R) (λcs b=>t j x cs b A) hQ O h1
   have l:∀k L,ops[k]?=some L->k≠i->(d.setIfInBounds j true).getD k true=false->
    (∀e∈L.after,Region.binds .any e=true->e.on≠i)->oi.apart ops L=true:=λk L hk V y W=>by
    refine n k L hk V ?_ W;by_cases M:j=k
    ·subst M;exact u
    rw[getD_set_ne true M]at y;grind
   have q:=I.set z r
   have no:∀{k:Nat}{p:List Nat},fr ops k p i=true->j=k->False:=λ{k p}s e=>by
    subst e<;>grind[CA,getD_both]
   refine wpOp_mono (λX w' B=>⟨λe=>?_,λN e=>?_,λN n2=>⟨(B.2.2.2 N n2).1,U m (d.setIfInBounds j true) X w' q l (ready_mono C (Ne.symm g)) B.1 (B.2.2.2 N n2).1 ?_⟩⟩) h2
   ·rcases F with hT|⟨p,s⟩
    ·refine U (λw _=>hT w) (d.setIfInBounds j true) X w' q l (ready_mono C (Ne.symm g)) B.1 trivial ?_;rw[Qv _ _ g];grind
    exact(no s e).elim
   ·rcases G with hT|⟨p,s⟩
    ·refine⟨(B.2.2.1 N e).1,U hT (d.setIfInBounds j true) X w' q l (ready_mono C (Ne.symm g)) B.1 (B.2.2.1 N e).1 ?_⟩;rw[Qv _ _ g];grind
    exact(no s e).elim
   grind[Array.setIfInBounds_comm]
end
structure SF(P:Program)(n:Nat)(ops:Array Oper)(Q:Exit->Act->World->Prop)(fin dV:Nat)(S2:World->Prop)(f:Nat)(listed:Array Bool)(L:Env)(w:World):Prop where
 out:∀a,Fit n a L->HeadInv .any ops ops.size listed->vC P ops (NoPanic Q) fin dV S2 (Ext w) f listed a w
structure SG(P:Program)(n:Nat)(ops:Array Oper)(Q:Exit->Act->World->Prop)(fin dV:Nat)(S2:World->Prop)(f:Nat)(listed:Array Bool)(L:Env)(w:World):Prop where
 out:∀a,Fit n a L->HeadInv .any ops ops.size listed->vC P ops (NoPanic Q) fin dV S2 S2 f listed a w
def Fk(P:Program)(n:Nat)(c:Array Oper)(Q:Exit->Act->World->Prop)(d g:Nat)(h:World->Prop)(f:Nat)(b:Array Bool)(w:World):Exit->Act->World->Prop
 | .normal,a,w'=>Ext w w'∧(HeadInv .any c c.size b->vC P c (NoPanic Q) d g h (Ext w') f b a w')
 | e,a,w'=>NoPanic Q e a w'
def HE(P:Program)(n:Nat)(c:Array Oper)(Q:Exit->Act->World->Prop)(d g:Nat)(h:World->Prop)(f:Nat)(b:Array Bool):Exit->Act->World->Prop
 | .normal,a,w'=>h w'∧(HeadInv .any c c.size b->vC P c (NoPanic Q) d g h h f b a w')
 | e,a,w'=>NoPanic Q e a w'
section
variable {P:Program}{n:Nat}{ops:Array Oper}{Q:Exit->Act->World->Prop}{fin dV f:Nat}{S2:World->Prop}{listed:Array Bool}{L:Env}{w:World}
theorem GP(h:(!Nat.beq i dV && !Nat.beq i fin)=true):i≠dV∧i≠fin:=by
 simp only[Bool.and_eq_true,Bool.not_eq_true']at h;exact⟨λe=>by simp_all,λe=>by simp_all⟩
theorem SF.take(i:Nat)(p q:List Nat){o:Oper}(u:Region.noSelect ops=true)(g:ops[i]?=some o)(x:Region.free .any ops listed i=true)(B:(Region.ready .any ops listed).contains i=true)(e:((fr ops fin p i && fr ops dV q i) && (!Nat.beq i dV && !Nat.beq i fin))=true)
 (h:SW P n ops (.tk λr=>SF P n ops Q fin dV S2 f (listed.setIfInBounds i true) r w) [o] L w):SF P n ops Q fin dV S2 (f+1) listed L w:=
 ⟨λa z b=>by
  have j:=h.out a z;rw[PT,PT]at e;obtain⟨⟨k,l⟩,s⟩:=e;obtain⟨y,n2⟩:=GP s;have c:i∈Region.ready .any ops listed:=by grind
  have m:i<ops.size:=(Pr.1 g).1;simp only[swp,Ct]at j;by_cases e:Region.wanted o (yielded ops a.tmps)=true
  ·rw[if_pos e]at j;obtain⟨v,A,r,d,t⟩:=j;exact mK (T:=Ext w) g (Region.noSelect_spec u) y n2 (λ_ _ _ h=>(h:False).elim) (.inr ⟨q,l⟩) (.inr ⟨p,k⟩) f (λ_ h=>h) listed a w b (Region.free_spec g x) c (.inl ⟨e,A⟩) (Ext.refl w) (t.out _ d (b.set c m))
  rw[if_neg e]at j;obtain⟨r,d,t⟩:=j;exact mK (T:=Ext w) g (Region.noSelect_spec u) y n2 (λ_ _ _ h=>(h:False).elim) (.inr ⟨q,l⟩) (.inr ⟨p,k⟩) f (λ_ h=>h) listed a w b (Region.free_spec g x) c (.inr ⟨by grind,Z⟩) (Ext.refl w) (t.out _ d (b.set c m))⟩
theorem SF.nz(i:Nat)(q:List Nat){pos:String}{v:Value}(s:Region.noSelect ops=true)(j:ops[i]?=some ⟨some d,op,T,pos,af,none⟩)(t:Region.free .any ops listed i=true)(A:(Region.ready .any ops listed).contains i=true)(p:(fr ops dV q i && (!Nat.beq i dV && !Nat.beq i fin))=true)
 (u:St P ⟨some d,op,T,pos,af,none⟩ L w v) (x:∀r,S2 r->St P ⟨some d,op,T,pos,af,none⟩ L r v) (y:Nat.blt d n=true) (h:SF P n ops Q fin dV S2 f (listed.setIfInBounds i true) ((d,v)::L) w):SF P n ops Q fin dV S2 (f+1) listed L w:=
 ⟨λa k c=>by
  rw[PT]at p;obtain⟨l,m⟩:=p;obtain⟨z,n2⟩:=GP m;have e:i∈Region.ready .any ops listed:=by grind
  have o:i<ops.size:=(Pr.1 j).1
  exact mK (T:=λb=>Ext w b∨S2 b) j (Region.noSelect_spec s) z n2 (λ_ _ _ h=>(h:False).elim) (.inr ⟨q,l⟩) (.inl λ_=> .inr) f (λ_=> .inl) listed a w c (Region.free_spec j t) e (v:=v)
   (.inl ⟨by simp[Region.wanted],λb g=>by rcases g with g|g;exact u.out n a k b g;exact(x b g).out n a k b (Ext.refl b)⟩) (Ext.refl w) (h.out _ (k.put y v) (c.set e o))⟩
theorem SF.gm(i:Nat){pos:String}{v:Value}(l:Region.noSelect ops=true)(e:ops[i]?=some ⟨some d,op,T,pos,af,none⟩)(m:Region.free .any ops listed i=true)(t:(Region.ready .any ops listed).contains i=true)(o:(!Nat.beq i dV && !Nat.beq i fin)=true)
 (p:∀q,St P ⟨some d,op,T,pos,af,none⟩ L q v) (r:Nat.blt d n=true) (h:SF P n ops Q fin dV S2 f (listed.setIfInBounds i true) ((d,v)::L) w):SF P n ops Q fin dV S2 (f+1) listed L w:=
 ⟨λa k b=>by
  obtain⟨s,n2⟩:=GP o;have c:i∈Region.ready .any ops listed:=by grind
  have g:i<ops.size:=(Pr.1 e).1
  exact mK (T:=λ_=>True) e (Region.noSelect_spec l) s n2 (λ_ _ _ h=>(h:False).elim) (.inl λ_=>trivial) (.inl λ_ _=>trivial) f (λ_ _=>trivial) listed a w b (Region.free_spec e m) c (v:=v)
   (.inl ⟨by simp[Region.wanted],λj _=>(p j).out n a k j (Ext.refl j)⟩) (Ext.refl w) (h.out _ (k.put r v) (b.set c g))⟩
theorem Oper.LC{o:Oper}{a:Act}{N:Act->World->Prop}(c:∀e a w,e≠ .normal->Q1 e a w->Q2 e a w)(d:LetsOut Q1->LetsOut Q2)(h:o.wp P a w N Q1):o.wp P a w N Q2:=by
 unfold Oper.wp at*;generalize (execOp a.eval o).run P w=r at*;cases r with
 | ok x b=>
   cases x<;>simp only[Oper.upon]at h⊢<;>grind[Oper.upon,Calls.mono]
 | halt x b=>
   cases x<;>simp only[Oper.upon]at h⊢<;>grind
theorem nA{o:Oper}{a:Act}{K:Act->World->Prop}(g:ops[i]?=some o)(j:∀e a w,e≠ .normal->Q1 e a w->NoPanic Q e a w)(k:LetsOut Q1->LetsOut (NoPanic Q))(c:∀d f,Q1 .normal d f->K d f)(b:wpList P ops Q1 [o] a w):wpOp P ops (NoPanic Q) i K a w:=by
 simp only[wpList]at b;unfold wpOp;simp only[g];by_cases h:Region.wanted o (yielded ops a.tmps)=true
 ·rw[if_pos h]at b⊢;rcases b with b|⟨l,m⟩<;>grind[Oper.wp_mono,Oper.LC]
 grind
theorem SF.one(i:Nat){o:Oper}(l:ops[i]?=some o)(t:Region.ready .any ops listed=[i])(m:(!Nat.beq i dV && !Nat.beq i fin)=true)(h:SW P n ops (.fg (Fk P n ops Q fin dV S2 f (listed.setIfInBounds i true) w)) [o] L w):SF P n ops Q fin dV S2 (f+1) listed L w:=
 ⟨λa p c=>⟨by grind,λj q=>by
  obtain⟨r,n2⟩:=GP m;have d:j=i:=by grind
  subst d;have b:j<ops.size:=(Pr.1 l).1;refine⟨b,nA (Q1:=Fk P n ops Q fin dV S2 f (listed.setIfInBounds j true) w) l (λe a w u h=>by cases e<;>first|exact h|grind) (λh=>h) (λv x g=>⟨λe=>absurd e r,λ_ e=>absurd e n2,λ_ _=>⟨g.1,kv f (λs k=>Ext.trans g.1 k) _ _ _ (g.2 (c.set q b))⟩⟩) (h.out a p)⟩⟩⟩
theorem ah.sf{l:Array Bool}(b:Ext w0 w)(h:SF P n ops Q fin dV S2 f l L w):ah n (Fk P n ops Q fin dV S2 f l w0) .normal L w:=⟨λa c=>⟨b,h.out a c⟩⟩
theorem SF.turn{o:Oper}(g:ops[fin]?=some o)(p:Region.ready .any ops listed=[fin])(q:Nat.beq fin dV=false)(h:SW P n ops (.fg (HE P n ops Q fin dV S2 f (listed.setIfInBounds fin true))) [o] L w):SF P n ops Q fin dV S2 (f+1) listed L w:=
 ⟨λa k c=>⟨by grind,λj l=>by
  have d:j=fin:=by grind
  have m:j≠dV:=λe=>by simp_all
  subst d;have b:j<ops.size:=(Pr.1 g).1;exact⟨b,nA (Q1:=HE P n ops Q j dV S2 f (listed.setIfInBounds j true)) g (λe a w r h=>by cases e<;>first|exact h|grind) (λh=>h) (λs t i=>⟨λe=>absurd e m,λ_ _=>⟨i.1,i.2 (c.set l b)⟩,λ_ n2=>absurd Z n2⟩) (h.out a k)⟩⟩⟩
theorem ah.sg{l:Array Bool}(b:S2 w)(h:SG P n ops Q fin dV S2 f l L w):ah n (HE P n ops Q fin dV S2 f l) .normal L w:=⟨λa c=>⟨b,h.out a c⟩⟩
theorem SG.one(i:Nat){o:Oper}(g:ops[i]?=some o)(r:Region.ready .any ops listed=[i])(l:(!Nat.beq i dV && !Nat.beq i fin)=true)(h:SW P n ops (.fg (HE P n ops Q fin dV S2 f (listed.setIfInBounds i true))) [o] L w):SG P n ops Q fin dV S2 (f+1) listed L w:=
 ⟨λa m c=>⟨by grind,λj p=>by
  obtain⟨q,n2⟩:=GP l;have d:j=i:=by grind
  subst d;have b:j<ops.size:=(Pr.1 g).1;exact⟨b,nA (Q1:=HE P n ops Q fin dV S2 f (listed.setIfInBounds j true)) g (λe a w s h=>by cases e<;>first|exact h|grind) (λh=>h) (λt u k=>⟨λe=>absurd e q,λ_ e=>absurd e n2,λ_ _=>⟨k.1,k.2 (c.set p b)⟩⟩) (h.out a m)⟩⟩⟩
theorem SF.last{o:Oper}(c:ops[dV]?=some o)(i:Region.ready .any ops listed=[dV])(d:Region.ready .any ops (listed.setIfInBounds dV true)=[])(h:SW P n ops (.fg (NoPanic Q)) [o] L w):SF P n ops Q fin dV S2 1 listed L w:=
 ⟨λa e f=>⟨by grind,λj k=>by
  have b:j=dV:=by grind
  subst b;exact⟨(Pr.1 c).1,nA (Q1:=NoPanic Q) c (λ_ _ _ _ h=>h) (λh=>h) (λl m g=>⟨λ_=>⟨d,g⟩,λn=>absurd Z n,λn=>absurd Z n⟩) (h.out a e)⟩⟩⟩
theorem SG.last{o:Oper}(c:ops[dV]?=some o)(i:Region.ready .any ops listed=[dV])(d:Region.ready .any ops (listed.setIfInBounds dV true)=[])(h:SW P n ops (.fg (NoPanic Q)) [o] L w):SG P n ops Q fin dV S2 1 listed L w:=
 ⟨λa e f=>⟨by grind,λj k=>by
  have b:j=dV:=by grind
  subst b;exact⟨(Pr.1 c).1,nA (Q1:=NoPanic Q) c (λ_ _ _ _ h=>h) (λh=>h) (λl m g=>⟨λ_=>⟨d,g⟩,λn=>absurd Z n,λn=>absurd Z n⟩) (h.out a e)⟩⟩⟩
theorem CW.iF{id:Nat}{l:List Oper}(b c:Nat)(e:World->Prop)(f:P.follows .mixedOrders=true)(g:Region.noSelect l.toArray=true)(h:∀d,Ext w d->Region.noSelect l.toArray=true->SF P n l.toArray Q b c e l.length (Array.replicate l.length false) L d):CW P n (.region id l.toArray true) Q L w:=
 ⟨λa i=>by
  refine wp_region_noPanic (wp_region_any f ?_);have k:=(h _ (Ext.drew w) g).out a i ⟨by simp,λj p _ q=>(by grind[getD_replicate_false]),λt m o=>absurd o (Nat.not_lt.2 m)⟩;have:=ny _ _ _ _ k;simp_all⟩
end
instance :iA prog 3:={}
instance :dt prog 3 (.int .i64 0) 1 8:={}
instance :iA prog 4:={}
instance :dt prog 4 (.bool false) 1 1:={}
instance :iA prog 5:={}
instance :iA prog 9:={}
instance :dt prog 9 (.string ByteArray.empty) 1 16:={}
instance :iA prog 22:={}
instance :bL prog 22 108 2:={}
instance :fA prog 24 2:={}
instance :ke prog 24 [(0,1),(1,1)] [.slice none 0 0,.slice none 0 0]:={}
instance :bH prog 24 0 0 22:={}
instance :bH prog 24 1 1 22:={}
instance :fA prog 26 5:={}
instance :bH prog 26 0 0 24:={}
instance :bH prog 26 1 2 3:={}
instance :bH prog 26 2 3 3:={}
instance :bH prog 26 3 4 3:={}
instance :bL prog 27 47 7:={}
instance :bL prog 28 49 3:={}
instance :iA prog 29:={}
instance :bL prog 29 3 1:={}
instance :iA prog 30:={}
instance :bL prog 30 98 4:={}
instance :iA prog 31:={}
instance :bL prog 31 100 4:={}
instance :iA prog 32:={}
instance :dt prog 32 (.slice none 0 0) 1 24:={}
instance :bL prog 32 129 3:={}
instance :dt prog 34 (.agg #[.slice none 0 0,.slice none 0 0,.int .i64 0,.slice none 0 0,.slice none 0 0]) 5 104:={}
instance :fA prog 34 5:={}
instance :ke prog 34 [(0,1),(1,1),(2,1),(3,1),(4,1)] [.slice none 0 0,.slice none 0 0,.int .i64 0,.slice none 0 0,.slice none 0 0]:={}
instance :bH prog 34 0 0 30:={}
instance :bH prog 34 1 1 29:={}
instance :bH prog 34 2 2 3:={}
instance :bH prog 34 3 3 31:={}
instance :bH prog 34 4 4 32:={}
instance :iA prog 35:={}
instance :bL prog 35 58 6:={}
instance :dt prog 37 (.agg #[.slice none 0 0,.slice none 0 0,.slice none 0 0,.int .i64 0,.slice none 0 0,.slice none 0 0,.slice none 0 0]) 7 152:={}
instance :fA prog 37 7:={}
instance :ke prog 37 [(0,1),(1,5),(6,1)] [.slice none 0 0,.slice none 0 0,.slice none 0 0,.int .i64 0,.slice none 0 0,.slice none 0 0,.slice none 0 0]:={}
instance :bH prog 37 0 0 29:={}
instance :bH prog 37 1 1 34:={}
instance :bH prog 37 2 6 35:={}
instance :iA prog 38:={}
instance :dt prog 47 (.agg #[.int .i64 0,.int .i64 0,.int .i64 0,.int .i64 0,.int .i64 0,.int .i64 0,.string ByteArray.empty]) 7 64:={}
instance :fA prog 47 7:={}
instance :bH prog 47 0 0 3:={}
instance :bH prog 47 1 1 3:={}
instance :bH prog 47 2 2 3:={}
instance :bH prog 47 3 3 3:={}
instance :bH prog 47 4 4 3:={}
instance :bH prog 47 5 5 3:={}
instance :bH prog 47 6 6 9:={}
instance :dt prog 49 (.agg #[.int .i64 0,.int .i64 0,.slice none 0 0]) 3 40:={}
instance :fA prog 49 3:={}
instance :ke prog 49 [(0,1),(1,1),(2,1)] [.int .i64 0,.int .i64 0,.slice none 0 0]:={}
instance :bH prog 49 0 0 38:={}
instance :bH prog 49 1 1 3:={}
instance :bH prog 49 2 2 29:={}
instance :iA prog 55:={}
instance :bL prog 55 9 1:={}
instance :iA prog 56:={}
instance :bL prog 56 60 3:={}
instance :dt prog 58 (.agg #[.slice none 0 0,.int .i64 0,.int .i64 0,.int .i64 0,.slice none 0 0,.slice none 0 0]) 6 96:={}
instance :fA prog 58 6:={}
instance :ke prog 58 [(0,1),(1,1),(2,1),(3,1),(4,1),(5,1)] [.slice none 0 0,.int .i64 0,.int .i64 0,.int .i64 0,.slice none 0 0,.slice none 0 0]:={}
instance :bH prog 58 0 0 55:={}
instance :bH prog 58 1 1 3:={}
instance :bH prog 58 2 2 3:={}
instance :bH prog 58 3 3 3:={}
instance :bH prog 58 4 4 56:={}
instance :bH prog 58 5 5 29:={}
instance :dt prog 60 (.agg #[.int .i64 0,.int .i64 0,.int .i64 0]) 3 24:={}
instance :fA prog 60 3:={}
instance :ke prog 60 [(0,1),(1,1),(2,1)] [.int .i64 0,.int .i64 0,.int .i64 0]:={}
instance :wy prog 60 3:=⟨by kernel_rfl,by kernel_rfl,by kernel_rfl,by kernel_rfl⟩
instance :bH prog 60 0 0 3:={}
instance :bH prog 60 1 1 3:={}
instance :bH prog 60 2 2 3:={}
instance :wq prog 67 6 3 1:={}
instance :fA prog 67 6:={}
instance :dt prog 98 (.agg #[.int .i64 0,.int .i64 0,.slice none 0 0,.slice none 0 0]) 4 64:={}
instance :fA prog 98 4:={}
instance :ke prog 98 [(0,1),(1,1),(2,1),(3,1)] [.int .i64 0,.int .i64 0,.slice none 0 0,.slice none 0 0]:={}
instance :bH prog 98 0 0 3:={}
instance :bH prog 98 1 1 3:={}
instance :bH prog 98 2 2 32:={}
instance :bH prog 98 3 3 29:={}
instance :dt prog 100 (.agg #[.int .i64 0,.int .i64 0,.int .i64 0,.slice none 0 0]) 4 48:={}
instance :fA prog 100 4:={}
instance :ke prog 100 [(0,1),(1,1),(2,1),(3,1)] [.int .i64 0,.int .i64 0,.int .i64 0,.slice none 0 0]:={}
instance :bH prog 100 0 0 3:={}
instance :bH prog 100 1 1 3:={}
instance :bH prog 100 2 2 3:={}
instance :bH prog 100 3 3 29:={}
instance :bL prog 102 4 1:={}
instance :dt prog 108 (.agg #[.int .i64 0,.int .i64 0]) 2 16:={}
instance :fA prog 108 2:={}
instance :ke prog 108 [(0,1),(1,1)] [.int .i64 0,.int .i64 0]:={}
instance :bH prog 108 0 0 3:={}
instance :bH prog 108 1 1 3:={}
instance :iA prog 116:={}
instance :dt prog 116 (.pointer none) 1 8:={}
instance :dt prog 129 (.agg #[.int .i64 0,.int .i64 0,.int .i64 0]) 3 24:={}
instance :fA prog 129 3:={}
instance :ke prog 129 [(0,1),(1,1),(2,1)] [.int .i64 0,.int .i64 0,.int .i64 0]:={}
instance :wy prog 129 3:=⟨by kernel_rfl,by kernel_rfl,by kernel_rfl,by kernel_rfl⟩
instance :bH prog 129 0 0 3:={}
instance :bH prog 129 1 1 3:={}
instance :bH prog 129 2 2 3:={}
instance :bL prog 168 5 1:={}
instance :wq prog 176 256 4 1:={}
instance :ke prog 178 [(0,256),(256,1)] (List.replicate 257 (.bool false)):={}
instance :bH prog 178 0 0 176:={}
instance :bH prog 178 1 256 4:={}
instance :wq prog 242 2 3 1:={}
instance :fA prog 242 2:={}
instance :wq prog 243 3 242 2:={}
theorem mixed:prog.follows .mixedOrders=true:=by kernel_rfl
structure HF(T:Prop):Prop where
  out:T
section
variable {P:Program}{n:Nat}{ops:Array Oper}{L:Env}{w:World}{d:Option Nat}{T:TypeId}{pos:String}{af:Array Edge}{g:Option (Nat×Bool)}
theorem DA{t:TypeId}[iA P t]{x:Operand}{b i:Nat}{tb:TypeId}{cs:List Value}{v:Value}(hx:cg L x=some (.pointer (some ⟨b,i,none⟩)))(h:ay w b tb cs∧cs[i]? =some v:=by(apply And.intro;assumption;rfl)):St P ⟨d, .load t x,T,pos,af,g⟩ L w v:=
  aJ hx (by have:=h.1.cell h.2;rwa[iI]at this)
theorem Bl{t:TypeId}{m:Nat}[c:fA P t m]{x:Operand}{b:Nat}{tb:TypeId}{cs:List Value}(hx:cg L x=some (.pointer (some ⟨b,0,none⟩)))(h:ay w b tb cs∧cs.length=m:=by(apply And.intro;assumption;rfl)):St P ⟨d, .load t x,T,pos,af,g⟩ L w (.agg cs.toArray):=
  cv hx h.2 λ_ _ hv=>h.1.cell hv
def Oc(ops:Array Oper)(k i:Nat):List Nat:=bif fr ops k [] i then []else(((List.range ops.size).find? λj=>fr ops k [j] i).map λj=>[j]).getD ((((List.range ops.size).flatMap λj=>(List.range ops.size).map λm=>[j,m]).find? λp=>fr ops k p i).getD [])
theorem SF.cw{Q:Exit->Act->World->Prop}{fin dV f:Nat}{S2:World->Prop}{listed:Array Bool}(i:Nat){o:Oper}(h:SW P n ops (.tk λL'=>SF P n ops Q fin dV S2 f (listed.setIfInBounds i true) L' w) [o] L w)(hB:Region.noSelect ops=true:=by assumption)(hi:ops[i]? =some o:=by rfl)(hf:Region.free .any ops listed i=true:=by decide+kernel)(hr:(Region.ready .any ops listed).contains i=true:=by decide+kernel)(hw:((fr ops fin (Oc ops fin i) i && fr ops dV (Oc ops dV i) i) && (!Nat.beq i dV && !Nat.beq i fin))=true:=by decide+kernel):SF P n ops Q fin dV S2 (f+1) listed L w:=SF.take i _ _ hB hi hf hr hw h
theorem SA.cw{Q:Exit->Act->World->Prop}{nh f:Nat}{tl:List Oper}{listed:Array Bool}(i:Nat){o:Oper}(h:SW P n ops (.tk λL'=>SA P n ops Q nh tl f (listed.setIfInBounds i true) L' w) [o] L w)(hB:RB ops nh:=by assumption)(hi:ops[i]? =some o:=by rfl)(hf:Region.free .any ops listed i=true:=by decide+kernel)(hr:(Region.ready .any ops listed).contains i=true:=by decide+kernel)(JG:Nat.blt i nh=true:=by rfl):SA P n ops Q nh tl (f+1) listed L w:=SA.take i hB hi hf hr JG h
theorem Wt{Q:Exit->Act->World->Prop}{fin dV f:Nat}{S2:World->Prop}{listed:Array Bool}(i:Nat)(p q:List Nat){op:Op}{d:Nat}{v:Value}(hB:Region.noSelect ops=true)(hi:ops[i]? =some ⟨some d,op,T,pos,af,none⟩)(hs:St P ⟨some d,op,T,pos,af,none⟩ L w v)
    (h:SF P n ops Q fin dV S2 f (listed.setIfInBounds i true) ((d,v)::L) w) (hn:Nat.blt d n=true:=by rfl) (hf:Region.free .any ops listed i=true:=by kernel_rfl) (hr:(Region.ready .any ops listed).contains i=true:=by kernel_rfl)
    (hw:((fr ops fin p i && fr ops dV q i) && (!Nat.beq i dV && !Nat.beq i fin))=true:=by kernel_rfl):SF P n ops Q fin dV S2 (f+1) listed L w:=SF.take i p q hB hi hf hr hw (SW.st hs hn (SW.dI h))
theorem Wp{Q:Exit->Act->World->Prop}{fin dV f:Nat}{S2:World->Prop}{listed:Array Bool}(i:Nat)(p q:List Nat){op:Op}{d:Nat}{v:Value}(hB:Region.noSelect ops=true)(hi:ops[i]? =some ⟨some d,op,T,pos,af,none⟩)(hs:rI L op=some v)
    (h:SF P n ops Q fin dV S2 f (listed.setIfInBounds i true) ((d,v)::L) w) (hn:Nat.blt d n=true:=by rfl) (hf:Region.free .any ops listed i=true:=by kernel_rfl) (hr:(Region.ready .any ops listed).contains i=true:=by kernel_rfl)
    (hw:((fr ops fin p i && fr ops dV q i) && (!Nat.beq i dV && !Nat.beq i fin))=true:=by kernel_rfl):SF P n ops Q fin dV S2 (f+1) listed L w:=SF.take i p q hB hi hf hr hw (SW.st (aH hs) hn (SW.dI h))
theorem Wu{Q:Exit->Act->World->Prop}{nh f:Nat}{tl:List Oper}{listed:Array Bool}(i:Nat){op:Op}{d:Nat}{v:Value}(hB:RB ops nh)(hi:ops[i]? =some ⟨some d,op,T,pos,af,none⟩)(hs:St P ⟨some d,op,T,pos,af,none⟩ L w v)
    (h:SA P n ops Q nh tl f (listed.setIfInBounds i true) ((d,v)::L) w) (hn:Nat.blt d n=true:=by rfl) (hf:Region.free .any ops listed i=true:=by kernel_rfl) (hr:(Region.ready .any ops listed).contains i=true:=by kernel_rfl) (JG:Nat.blt i nh=true:=by rfl):SA P n ops Q nh tl (f+1) listed L w:=SA.take i hB hi hf hr JG (SW.st hs hn (SW.dI h))
theorem Wq{Q:Exit->Act->World->Prop}{nh f:Nat}{tl:List Oper}{listed:Array Bool}(i:Nat){op:Op}{d:Nat}{v:Value}(hB:RB ops nh)(hi:ops[i]? =some ⟨some d,op,T,pos,af,none⟩)(hs:rI L op=some v)
    (h:SA P n ops Q nh tl f (listed.setIfInBounds i true) ((d,v)::L) w) (hn:Nat.blt d n=true:=by rfl) (hf:Region.free .any ops listed i=true:=by kernel_rfl) (hr:(Region.ready .any ops listed).contains i=true:=by kernel_rfl) (JG:Nat.blt i nh=true:=by rfl):SA P n ops Q nh tl (f+1) listed L w:=SA.take i hB hi hf hr JG (SW.st (aH hs) hn (SW.dI h))
end
section
variable {P:Program}{n:Nat}{ops:Array Oper}{M:Md}{Q:Exit->Act->World->Prop}{rest:List Oper}{L:Env}{w w0:World}{d:Nat}{T:TypeId}{pos:String}{af:Array Edge}{t:TypeId}
theorem Wl[iA P t]{x:Operand}{ad:Addr}{v:Value}(hc:w.cell? ad=some v)(h:SW P n ops M rest ((d,v)::L) w)(hx:cg L x=some (.pointer (some ad)):=by rfl)(hn:Nat.blt d n=true:=by rfl):SW P n ops M (⟨some d, .load t x,T,pos,af,none⟩::rest) L w:=SW.st (aJ hx hc) hn h
theorem Wn[iA P t]{x:Operand}{ad:Addr}{v:Value}(hw:Ext w0 w)(hc:w0.cell? ad=some v)(h:SW P n ops M rest ((d,v)::L) w)(hx:cg L x=some (.pointer (some ad)):=by rfl)(hn:Nat.blt d n=true:=by rfl):SW P n ops M (⟨some d, .load t x,T,pos,af,none⟩::rest) L w:=SW.st (bX hw hx hc) hn h
theorem Wm{m:Nat}[fA P t m]{x:Operand}{ad:Addr}{vs:List Value}(hc:∀j v,vs[j]? =some v->w.cell? (ad.add j)=some v)(h:SW P n ops M rest ((d, .agg vs.toArray)::L) w)(hx:cg L x=some (.pointer (some ad)):=by rfl)(hm:vs.length=m:=by rfl)(hn:Nat.blt d n=true:=by rfl):SW P n ops M (⟨some d, .load t x,T,pos,af,none⟩::rest) L w:=SW.st (cv hx hm hc) hn h
theorem Wo{m:Nat}[fA P t m]{x:Operand}{ad:Addr}{vs:List Value}(hw:Ext w0 w)(hc:∀j v,vs[j]? =some v->w0.cell? (ad.add j)=some v)(h:SW P n ops M rest ((d, .agg vs.toArray)::L) w)(hx:cg L x=some (.pointer (some ad)):=by rfl)(hm:vs.length=m:=by rfl)(hn:Nat.blt d n=true:=by rfl):SW P n ops M (⟨some d, .load t x,T,pos,af,none⟩::rest) L w:=SW.st (g7 hw hx hm hc) hn h
theorem Wb{b i:Nat}{t':TypeId}{cs:List Value}[iA P t']{x y:Operand}{v:Value}(hB:ay w b t cs)(h:∀w',ay w' b t (cs.set i v)->w.grownBy w' (some b)->SW P n ops (.fg Q) rest L w')(hx:cg L x=some (.pointer (some ((⟨b,0,none⟩:Addr).add i))):=by rfl)(hy:cg L y=some v:=by rfl)(h1:v.oneCell'=true:=by rfl)(hi:Nat.blt i cs.length=true:=by rfl):SW P n ops (.fg Q) (⟨none, .store t' x y,T,pos,af,none⟩::rest) L w:=SW.mJ hB hx hy h1 hi h
theorem Wk{f:FuncId}{xs:List Operand}{vs:List Value}{ts:Array TypeId}{R:Value->World->Prop}(hc:aS P f vs w R)(h:∀v w',Ext w w'->R v w'->SW P n ops (.fg Q) rest ((d,v)::L) w')(hx:r4 L xs=some vs:=by rfl)(hn:Nat.blt d n=true:=by rfl)(hB:Body P f:=by exact j0):SW P n ops (.fg Q) (⟨some d, .call ⟨.value (.func f),xs.toArray,ts⟩,T,pos,af,none⟩::rest) L w:=SW.call hx hn hc h hB
theorem Wc{f:FuncId}{xs:List Operand}{vs:List Value}{ts:Array TypeId}{c:Value}(hc:aS P f vs w λv _=>v=c)(h:∀w',Ext w w'->SW P n ops (.fg Q) rest ((d,c)::L) w')(hx:r4 L xs=some vs:=by rfl)(hn:Nat.blt d n=true:=by rfl)(hB:Body P f:=by exact j0):SW P n ops (.fg Q) (⟨some d, .call ⟨.value (.func f),xs.toArray,ts⟩,T,pos,af,none⟩::rest) L w:=SW.call hx hn hc (λ_ w' g e=>by subst e;exact h w' g) hB
end
section
variable {P:Program}{n:Nat}{ops:Array Oper}{Q:Exit->Act->World->Prop}{rest:List Oper}{L:Env}{w:World}{T:TypeId}{pos:String}{af:Array Edge}
theorem Wg{t k:Nat}[fA P t k]{b tb:Nat}{cs vs:List Value}{x y:Operand}(hB:ay w b tb cs)(h1:∀v∈vs,v.oneCell'=true)(h:∀w',ay w' b tb vs->w.grownBy w' (some b)->SW P n ops (.fg Q) rest L w')(hx:cg L x=some (.pointer (some ⟨b,0,none⟩)):=by rfl)(hy:cg L y=some (.agg vs.toArray):=by rfl)(hl:vs.length=k:=by rfl)(hc:cs.length=k:=by rfl):SW P n ops (.fg Q) (⟨none, .store t x y,T,pos,af,none⟩::rest) L w:=SW.dY hB hx hy hl hc h1 h
theorem Ww{id d t:Nat}{y:Code}{x:Operand}{vs:List Value}(h:∀b w',Ext w w'->w.heap.size<=b->ay w' b t vs->SW P n (⟨some d, .box t x,T,pos,af,none⟩::rest).toArray (.fg (Jw P y Q)) rest ((d, .pointer (some ⟨b,0,none⟩))::L) w')(hx:cg L x=some (.agg vs.toArray):=by rfl)(hn:Nat.blt d n=true:=by rfl):CW P n (.seq (.region id (⟨some d, .box t x,T,pos,af,none⟩::rest).toArray false) y) Q L w:=CW.seq (CW.region (SW.box hx hn h))
theorem Wj{fn:Func}{f:FuncId}{c:Code}{args:List Value}{R:Value->World->Prop}(hf:P.funcs[f]? =some fn)(hn:fn.ntmps=n)(h:CW P n c (bodyPost P fn λe w'=>∃v,e= .returned v∧Ext w w'∧R v w') (oS 0 args) w)(hb:fn.body=some c:=by rfl)(hl:Nat.ble args.length n=true:=by rfl):aS P f args w R:=tV hf hb hn hl h
variable {fin dV f:Nat}{S2:World->Prop}{listed:Array Bool}{o:Oper}
theorem Wi(i:Nat)(q:List Nat){d:Nat}{op:Op}{v:Value}(hB:Region.noSelect ops=true)(hi:ops[i]? =some ⟨some d,op,T,pos,af,none⟩)(h1:St P ⟨some d,op,T,pos,af,none⟩ L w v)(h2:∀w2,S2 w2->St P ⟨some d,op,T,pos,af,none⟩ L w2 v)(h:SF P n ops Q fin dV S2 f (listed.setIfInBounds i true) ((d,v)::L) w)(hf:Region.free .any ops listed i=true:=by kernel_rfl)(hr:(Region.ready .any ops listed).contains i=true:=by kernel_rfl)(hw:(fr ops dV q i && (!Nat.beq i dV && !Nat.beq i fin))=true:=by kernel_rfl)(hn:Nat.blt d n=true:=by rfl):SF P n ops Q fin dV S2 (f+1) listed L w:=SF.nz i q hB hi hf hr hw h1 h2 hn h
theorem SF.bD(i:Nat)(h:SW P n ops (.fg (Fk P n ops Q fin dV S2 f (listed.setIfInBounds i true) w)) [o] L w)(hi:ops[i]? =some o:=by rfl)(hr:Region.ready .any ops listed=[i]:=by kernel_rfl)(hw:(!Nat.beq i dV && !Nat.beq i fin)=true:=by rfl):SF P n ops Q fin dV S2 (f+1) listed L w:=SF.one i hi hr hw h
theorem SG.bD(i:Nat)(h:SW P n ops (.fg (HE P n ops Q fin dV S2 f (listed.setIfInBounds i true))) [o] L w)(hi:ops[i]? =some o:=by rfl)(hr:Region.ready .any ops listed=[i]:=by kernel_rfl)(hw:(!Nat.beq i dV && !Nat.beq i fin)=true:=by rfl):SG P n ops Q fin dV S2 (f+1) listed L w:=SG.one i hi hr hw h
theorem SF.eW(h:SW P n ops (.fg (HE P n ops Q fin dV S2 f (listed.setIfInBounds fin true))) [o] L w)(hi:ops[fin]? =some o:=by rfl)(hr:Region.ready .any ops listed=[fin]:=by kernel_rfl)(hw:Nat.beq fin dV=false:=by rfl):SF P n ops Q fin dV S2 (f+1) listed L w:=SF.turn hi hr hw h
theorem SF.dQ(h:SW P n ops (.fg (NoPanic Q)) [o] L w)(hi:ops[dV]? =some o:=by rfl)(hr:Region.ready .any ops listed=[dV]:=by kernel_rfl)(he:Region.ready .any ops (listed.setIfInBounds dV true)=[]:=by kernel_rfl):SF P n ops Q fin dV S2 1 listed L w:=SF.last hi hr he h
theorem SG.dQ(h:SW P n ops (.fg (NoPanic Q)) [o] L w)(hi:ops[dV]? =some o:=by rfl)(hr:Region.ready .any ops listed=[dV]:=by kernel_rfl)(he:Region.ready .any ops (listed.setIfInBounds dV true)=[]:=by kernel_rfl):SG P n ops Q fin dV S2 1 listed L w:=SG.last hi hr he h
variable {nh:Nat}{tl:List Oper}
theorem SA.bD(i:Nat)(h:SW P n ops (.fg (Lz P n ops Q nh tl f (listed.setIfInBounds i true) w)) [o] L w)(hi:ops[i]? =some o:=by rfl)(hr:Region.ready .any ops listed=[i]:=by kernel_rfl)(JG:Nat.blt i nh=true:=by rfl):SA P n ops Q nh tl (f+1) listed L w:=SA.one i hi hr JG h
theorem SA.fH(h:SW P n ops (.fg (NoPanic Q)) tl L w)(hq:Region.seqB .any ops tl.length nh listed=true:=by kernel_rfl):SA P n ops Q nh tl 0 listed L w:=SA.done hq h
end
theorem Ext.up{w w':World}{b:Nat}(h:Ext w w')(k:w'.heap.size<=b):w.heap.size<=b:=Pj h.size k
theorem jc{G A B:Prop}(g:G)(a:A) (h:G->A->B:=by
    intro g h
    first
      | exact h.ext g
      | exact h.aQ g Z
      | exact h.trans g
      | exact h.aQ g.T Z
      | exact h.grown g.g (by simp;first|assumption|omega)
      | exact h.own ig g.g):B:=h g a
structure Mv(G A B:Prop):Prop where
 m:G->A->B:=by exact λg h=>jc g h
theorem bk{G A0 A1 B0 B1:Prop}(g:G)(a0:A0)(a1:A1)(h0:Mv G A0 B0:=by exact{})(h1:Mv G A1 B1:=by exact{}):B0∧B1:=⟨h0.m g a0,h1.m g a1⟩
theorem aY{G A0 A1 A2 B0 B1 B2:Prop}(g:G)(a0:A0)(a1:A1)(a2:A2)(h0:Mv G A0 B0:=by exact{})(h1:Mv G A1 B1:=by exact{})(h2:Mv G A2 B2:=by exact{}):B0∧B1∧B2:=⟨h0.m g a0,h1.m g a1,h2.m g a2⟩
theorem cG{G A0 A1 A2 A3 B0 B1 B2 B3:Prop}(g:G)(a0:A0)(a1:A1)(a2:A2)(a3:A3)(h0:Mv G A0 B0:=by exact{})(h1:Mv G A1 B1:=by exact{})(h2:Mv G A2 B2:=by exact{})(h3:Mv G A3 B3:=by exact{}):B0∧B1∧B2∧B3:=⟨h0.m g a0,h1.m g a1,h2.m g a2,h3.m g a3⟩
theorem dz{G A0 A1 A2 A3 A4 B0 B1 B2 B3 B4:Prop}(g:G)(a0:A0)(a1:A1)(a2:A2)(a3:A3)(a4:A4)(h0:Mv G A0 B0:=by exact{})(h1:Mv G A1 B1:=by exact{})(h2:Mv G A2 B2:=by exact{})(h3:Mv G A3 B3:=by exact{})(h4:Mv G A4 B4:=by exact{}):B0∧B1∧B2∧B3∧B4:=⟨h0.m g a0,h1.m g a1,h2.m g a2,h3.m g a3,h4.m g a4⟩
theorem fi{G A0 A1 A2 A3 A4 A5 B0 B1 B2 B3 B4 B5:Prop}(g:G)(a0:A0)(a1:A1)(a2:A2)(a3:A3)(a4:A4)(a5:A5)(h0:Mv G A0 B0:=by exact{})(h1:Mv G A1 B1:=by exact{})(h2:Mv G A2 B2:=by exact{})(h3:Mv G A3 B3:=by exact{})(h4:Mv G A4 B4:=by exact{})(h5:Mv G A5 B5:=by exact{}):B0∧B1∧B2∧B3∧B4∧B5:=⟨h0.m g a0,h1.m g a1,h2.m g a2,h3.m g a3,h4.m g a4,h5.m g a5⟩
theorem iX{G A0 A1 A2 A3 A4 A5 A6 B0 B1 B2 B3 B4 B5 B6:Prop}(g:G)(a0:A0)(a1:A1)(a2:A2)(a3:A3)(a4:A4)(a5:A5)(a6:A6)(h0:Mv G A0 B0:=by exact{})(h1:Mv G A1 B1:=by exact{})(h2:Mv G A2 B2:=by exact{})(h3:Mv G A3 B3:=by exact{})(h4:Mv G A4 B4:=by exact{})(h5:Mv G A5 B5:=by exact{})(h6:Mv G A6 B6:=by exact{}):B0∧B1∧B2∧B3∧B4∧B5∧B6:=⟨h0.m g a0,h1.m g a1,h2.m g a2,h3.m g a3,h4.m g a4,h5.m g a5,h6.m g a6⟩
theorem nS{G A0 A1 A2 A3 A4 A5 A6 A7 B0 B1 B2 B3 B4 B5 B6 B7:Prop}(g:G)(a0:A0)(a1:A1)(a2:A2)(a3:A3)(a4:A4)(a5:A5)(a6:A6)(a7:A7)(h0:Mv G A0 B0:=by exact{})(h1:Mv G A1 B1:=by exact{})(h2:Mv G A2 B2:=by exact{})(h3:Mv G A3 B3:=by exact{})(h4:Mv G A4 B4:=by exact{})(h5:Mv G A5 B5:=by exact{})(h6:Mv G A6 B6:=by exact{})(h7:Mv G A7 B7:=by exact{}):B0∧B1∧B2∧B3∧B4∧B5∧B6∧B7:=⟨h0.m g a0,h1.m g a1,h2.m g a2,h3.m g a3,h4.m g a4,h5.m g a5,h6.m g a6,h7.m g a7⟩
theorem HG{G A0 A1 A2 A3 A4 A5 A6 A7 A8 B0 B1 B2 B3 B4 B5 B6 B7 B8:Prop}(g:G)(a0:A0)(a1:A1)(a2:A2)(a3:A3)(a4:A4)(a5:A5)(a6:A6)(a7:A7)(a8:A8)(h0:Mv G A0 B0:=by exact{})(h1:Mv G A1 B1:=by exact{})(h2:Mv G A2 B2:=by exact{})(h3:Mv G A3 B3:=by exact{})(h4:Mv G A4 B4:=by exact{})(h5:Mv G A5 B5:=by exact{})(h6:Mv G A6 B6:=by exact{})(h7:Mv G A7 B7:=by exact{})(h8:Mv G A8 B8:=by exact{}):B0∧B1∧B2∧B3∧B4∧B5∧B6∧B7∧B8:=⟨h0.m g a0,h1.m g a1,h2.m g a2,h3.m g a3,h4.m g a4,h5.m g a5,h6.m g a6,h7.m g a7,h8.m g a8⟩
theorem fq{P:Program}{n:Nat}{Q:Exit->Act->World->Prop}{L:Env}{w:World}{id:Nat}{l:List Oper}(h:SW P n l.toArray (.Ls λL'=>∀w',Ext w w'->ah n Q .normal L' w') l L w)(hm:P.follows .mixedOrders=true:=by exact mixed)(hB:Region.lexB .any l.toArray=true:=by kernel_rfl):CW P n (.region id l.toArray true) Q L w:=CW.quiet hm hB h λ_ w' hx k=>k w' hx
theorem Wd{g T:Prop}(h:T) (hg:HF T->g:=by
    intro h
    first
      | (show CW _ _ _ _ _ _;first|refine CW.seq ?_|refine CW.region ?_|refine CW.block ?_|refine CW.JB Z kE ?_|refine CW.JC Z kE ?_|refine CW.GH Z Y ?_|refine CW.GI Z Y ?_|refine CW.GJ Z Y ?_|refine CW.GK Z Y ?_|refine CW.skip ?_|refine CW.ret ?_|refine CW.exit ?_)
      | (show ah _ _ _ _ _;first|refine ah.seq ?_|refine ah.GG ?_|refine ah.Dv ?_|refine ah.hit ?_|refine ah.pass Z ?_|refine ah.dm ?_|refine ah.GL ?_|refine ah.wk ?_|refine ah.Bi ?_|refine ah.np ?_)
      | refine SW.nil ?_
      | (show SW _ _ _ _ (⟨_,_,_,_,_,some _⟩::_) _ _;first|refine SW.lS Z Z kE ?_|refine SW.fh Z Z kE ?_|refine SW.lT Z Z kE Z ?_|refine SW.Jx Z Z kE Z ?_|refine SW.Jy Z Z kE Z ?_|refine SW.wj Z Z Z Y ?_|refine SW.sK Z Z Z Y ?_|refine SW.Du Z Z Z Y ?_|refine SW.mI Z Z Z Y ?_)
      | refine SW.pure Z Z ?_
      | (show SW _ _ _ _ (⟨_,Op.fieldAddr _ _ _,_,_,_,none⟩::_) _ _;refine SW.st (aI Z) Z ?_)
      | (show SW _ _ _ _ (⟨_,Op.nilCheck _,_,_,_,none⟩::_) _ _;refine SW.st (aX Z) Z ?_)
      | (show SW _ _ _ _ (⟨_,Op.build _ _,_,_,_,none⟩::_) _ _;refine SW.st (oh Z Z) Z ?_)
      | (show SW _ _ _ _ (⟨_,Op.binOp _ _ _ _ _,_,_,_,none⟩::_) _ _;first|refine SW.st (JD Z Z Y Y) Z ?_|refine SW.st (r5 Z Z Y Y) Z ?_|refine SW.st (tW Z Z Y Y) Z ?_|refine SW.st (JE Z Z Y Y Y) Z ?_|refine SW.st (Fm Z Z Y) Z ?_)
      | (show SW _ _ _ _ (⟨_,Op.indexAddr _ _ _,_,_,_,none⟩::_) _ _;refine SW.st (bO Z Z ig Y) Z ?_)
      | (show SW _ _ _ _ (⟨_,Op.call ⟨.builtin .len,_,_⟩,_,_,_,none⟩::_) _ _;refine SW.st (Cu Z) Z ?_)
      | (show SW _ _ _ _ (⟨_,Op.call ⟨.builtin .cap,_,_⟩,_,_,_,none⟩::_) _ _;refine SW.st (JH Z) Z ?_)
    exact h.out):g:=hg ⟨h⟩
theorem Wz{g T:Prop}(h:T) (hg:HF T->g:=by
    intro h
    (first
      | refine Wd ?_
      | (show SW _ _ _ _ (⟨_,Op.load _ _,_,_,_,none⟩::_) _ _;first|refine SW.st (DA Z) Z ?_|refine SW.st (Bl Z) Z ?_))
    repeat'(first
      | (show CW _ _ _ _ _ _;first|refine CW.seq ?_|refine CW.region ?_|refine CW.block ?_|refine CW.JB Z kE ?_|refine CW.JC Z kE ?_|refine CW.GH Z Y ?_|refine CW.GI Z Y ?_|refine CW.GJ Z Y ?_|refine CW.GK Z Y ?_|refine CW.skip ?_|refine CW.ret ?_|refine CW.exit ?_)
      | (show ah _ _ _ _ _;first|refine ah.seq ?_|refine ah.GG ?_|refine ah.Dv ?_|refine ah.hit ?_|refine ah.pass Z ?_|refine ah.dm ?_|refine ah.GL ?_|refine ah.wk ?_|refine ah.Bi ?_|refine ah.np ?_)
      | refine SW.nil ?_
      | (show SW _ _ _ _ (⟨_,_,_,_,_,some _⟩::_) _ _;first|refine SW.lS Z Z kE ?_|refine SW.fh Z Z kE ?_|refine SW.lT Z Z kE Z ?_|refine SW.Jx Z Z kE Z ?_|refine SW.Jy Z Z kE Z ?_|refine SW.wj Z Z Z Y ?_|refine SW.sK Z Z Z Y ?_|refine SW.Du Z Z Z Y ?_|refine SW.mI Z Z Z Y ?_)
      | refine SW.pure Z Z ?_
      | (show SW _ _ _ _ (⟨_,Op.fieldAddr _ _ _,_,_,_,none⟩::_) _ _;refine SW.st (aI Z) Z ?_)
      | (show SW _ _ _ _ (⟨_,Op.nilCheck _,_,_,_,none⟩::_) _ _;refine SW.st (aX Z) Z ?_)
      | (show SW _ _ _ _ (⟨_,Op.build _ _,_,_,_,none⟩::_) _ _;refine SW.st (oh Z Z) Z ?_)
      | (show SW _ _ _ _ (⟨_,Op.binOp _ _ _ _ _,_,_,_,none⟩::_) _ _;first|refine SW.st (JD Z Z Y Y) Z ?_|refine SW.st (r5 Z Z Y Y) Z ?_|refine SW.st (tW Z Z Y Y) Z ?_|refine SW.st (JE Z Z Y Y Y) Z ?_|refine SW.st (Fm Z Z Y) Z ?_)
      | (show SW _ _ _ _ (⟨_,Op.indexAddr _ _ _,_,_,_,none⟩::_) _ _;refine SW.st (bO Z Z ig Y) Z ?_)
      | (show SW _ _ _ _ (⟨_,Op.call ⟨.builtin .len,_,_⟩,_,_,_,none⟩::_) _ _;refine SW.st (Cu Z) Z ?_)
      | (show SW _ _ _ _ (⟨_,Op.call ⟨.builtin .cap,_,_⟩,_,_,_,none⟩::_) _ _;refine SW.st (JH Z) Z ?_)
      | (show SW _ _ _ _ (⟨_,Op.load _ _,_,_,_,none⟩::_) _ _;first|refine SW.st (DA Z) Z ?_|refine SW.st (Bl Z) Z ?_)
      | exact h.out)):g:=hg ⟨h⟩
theorem Wv{g T:Prop}(h:T) (hg:HF T->g:=by
    intro h
    try refine Wz ?_
    refine SW.dI ?_
    exact h.out):g:=hg ⟨h⟩
theorem Wa{g T:Prop}(h:T) (hg:HF T->g:=by
    intro h
    repeat'(first
      | (refine SA.cw 0 ?_;refine Wv ?_)
      | (refine SA.cw 1 ?_;refine Wv ?_)
      | (refine SA.cw 2 ?_;refine Wv ?_)
      | (refine SA.cw 3 ?_;refine Wv ?_)
      | (refine SA.cw 4 ?_;refine Wv ?_)
      | (refine SA.cw 5 ?_;refine Wv ?_)
      | (refine SA.cw 6 ?_;refine Wv ?_)
      | (refine SA.cw 7 ?_;refine Wv ?_)
      | (refine SA.cw 8 ?_;refine Wv ?_)
      | (refine SA.cw 9 ?_;refine Wv ?_)
      | (refine SA.cw 10 ?_;refine Wv ?_)
      | (refine SA.cw 11 ?_;refine Wv ?_)
      | (refine SA.cw 12 ?_;refine Wv ?_)
      | (refine SA.cw 13 ?_;refine Wv ?_)
      | (refine SA.cw 14 ?_;refine Wv ?_)
      | (refine SA.cw 15 ?_;refine Wv ?_)
      | (refine SA.cw 16 ?_;refine Wv ?_)
      | (refine SA.cw 17 ?_;refine Wv ?_)
      | (refine SA.cw 18 ?_;refine Wv ?_)
      | (refine SA.cw 19 ?_;refine Wv ?_)
      | (refine SA.cw 20 ?_;refine Wv ?_)
      | (refine SA.cw 21 ?_;refine Wv ?_)
      | (refine SA.cw 22 ?_;refine Wv ?_)
      | (refine SA.cw 23 ?_;refine Wv ?_)
      | (refine SA.cw 24 ?_;refine Wv ?_)
      | (refine SA.cw 25 ?_;refine Wv ?_)
      | (refine SA.cw 26 ?_;refine Wv ?_)
      | (refine SA.cw 27 ?_;refine Wv ?_)
      | (refine SA.cw 28 ?_;refine Wv ?_)
      | (refine SA.cw 29 ?_;refine Wv ?_)
      | exact h.out)):g:=hg ⟨h⟩
theorem Wf{g T:Prop}(h:T) (hg:HF T->g:=by
    intro h
    repeat'(first
      | (refine SF.cw 0 ?_;refine Wv ?_)
      | (refine SF.cw 1 ?_;refine Wv ?_)
      | (refine SF.cw 2 ?_;refine Wv ?_)
      | (refine SF.cw 3 ?_;refine Wv ?_)
      | (refine SF.cw 4 ?_;refine Wv ?_)
      | (refine SF.cw 5 ?_;refine Wv ?_)
      | (refine SF.cw 6 ?_;refine Wv ?_)
      | (refine SF.cw 7 ?_;refine Wv ?_)
      | (refine SF.cw 8 ?_;refine Wv ?_)
      | (refine SF.cw 9 ?_;refine Wv ?_)
      | (refine SF.cw 10 ?_;refine Wv ?_)
      | (refine SF.cw 11 ?_;refine Wv ?_)
      | (refine SF.cw 12 ?_;refine Wv ?_)
      | (refine SF.cw 13 ?_;refine Wv ?_)
      | (refine SF.cw 14 ?_;refine Wv ?_)
      | (refine SF.cw 15 ?_;refine Wv ?_)
      | (refine SF.cw 16 ?_;refine Wv ?_)
      | (refine SF.cw 17 ?_;refine Wv ?_)
      | (refine SF.cw 18 ?_;refine Wv ?_)
      | (refine SF.cw 19 ?_;refine Wv ?_)
      | (refine SF.cw 20 ?_;refine Wv ?_)
      | (refine SF.cw 21 ?_;refine Wv ?_)
      | (refine SF.cw 22 ?_;refine Wv ?_)
      | (refine SF.cw 23 ?_;refine Wv ?_)
      | (refine SF.cw 24 ?_;refine Wv ?_)
      | (refine SF.cw 25 ?_;refine Wv ?_)
      | (refine SF.cw 26 ?_;refine Wv ?_)
      | (refine SF.cw 27 ?_;refine Wv ?_)
      | (refine SF.cw 28 ?_;refine Wv ?_)
      | (refine SF.cw 29 ?_;refine Wv ?_)
      | exact h.out)):g:=hg ⟨h⟩
theorem Wy{g T:Prop}(h:T) (hg:HF T->g:=by
    intro h
    refine Wd ?_
    repeat'(first
      | refine Wd ?_
      | exact h.out)):g:=hg ⟨h⟩
structure Region where
 aE:Int
 ax:Int
 deriving DecidableEq
structure Block where
 At:Int
 Order:Int
 Ty:Int
 deriving DecidableEq
structure ap where
 aE:Int
 To:Int
 ai:List Block
 Types:List Int
 deriving DecidableEq
structure aC where
 ep:Int
 ap:Int
 Ty:Int
 aq:List Int
structure Heap where
 aK:List ap
 bY:List Int
 bl:Int
 ak:List aC
 Live:List Block
structure Slab where
 At:Int
 ai:Int
 bR:Int
 deriving DecidableEq
theorem bE(x lo a:Int)(w:World):aS prog 40 [Iv x,Iv lo,Iv a] w λv _=>v= .bool (decide (lo<=x∧x<=a)):=by
 refine Wj func40 ntmps40 ?_;repeat'(first|refine Wz ?_|refine SW.dP rfl rfl rfl (λh=>?_) (λh=>?_))
 all_goals refine ah.aF rfl rfl ⟨_,rfl,Ext.refl _,?_⟩
 all_goals simp[*]
theorem jV(A B:Option Addr)(n m c d:Nat)(xs b:List Int)(w:World)(p:Sl w 1 aT A n xs)(q:Sl w 1 aT B m b)(x:n<=2305843009213693952):
 aS prog 13 [.slice A n c,.slice B m d] w λv _=>v= .bool (decide (xs=b)):=by
 refine Wj func13 ntmps13 ?_;have y:=p.len;have u:=q.len;have z:=p.base;have C:=q.base;have a:=Ext.refl w;repeat'(first|refine Wz ?_|(refine CW.uX rfl (λh=>?_) (λh=>?_)))
 ·refine ah.aF rfl rfl ⟨_,rfl,a,?_⟩;have:xs≠b:=λe=>by subst e;omega
  simp[this]
 have r:n=m:=Y
 refine CW.loop (λk:Nat=>[(0,.slice A n c),(1,.slice B m d),(5,Iv (k:Int))])
  (λk t=>k<=n∧Ext w t∧∀j(l:j<xs.length)(o:j<b.length),j<k->xs[j]=b[j]) (λk=>n-k) 0 ⟨Z,Z,Z,trivial⟩ ⟨by omega,a,λj _ _ h=>by omega⟩ ?_
 rintro k t ⟨D,a,f⟩;by_cases g:k<n
 ·repeat'(first|refine Wz ?_|(first|refine CW.uX Z (λh=>?_) (λh=>?_)|(apply CW.dF mixed;(·kernel_rfl);rotate_left;intro E i;have a:=a.trans i;rotate_right))|refine Wn a (p.one g Z) ?_|refine Wn a (q.one (r▸g) Z) ?_|exact SW.br Z)
  ·refine ah.aF Z Z ⟨_,Z,a,?_⟩;have:xs≠b:=λe=>by subst e;exact h Z
   simp[this]
  refine ah.again (k+1) ⟨Z,Z,Z,trivial⟩ Y ⟨by omega,a,λj l o F=>?_⟩;by_cases s:j=k
  ·subst s;assumption
  exact f j l o Y
 refine Wz ?_;refine ah.aF Z Z ⟨_,Z,a,?_⟩;have:xs=b:=PK Y λj l o=>f j l o Y;simp[this]
theorem oT(A:Option Addr)(n c:Nat)(x k:Int)(w:World)(a:n<=2305843009213693952):aS prog 174 [.slice A n c,Iv x,Iv k] w λv _=>v= .bool (decide (0<=x∧0<=k∧k<=n∧x+k<=n)):=by
 refine Wj func174 ntmps174 ?_;repeat'(first|refine Wz ?_|refine SW.dP rfl rfl rfl (λh=>?_) (λh=>?_))
 all_goals refine ah.aF rfl rfl ⟨_,rfl,Ext.refl _,?_⟩
 all_goals congr 1
 all_goals symm
 all_goals first|(refine decide_eq_true ?_;omega)|(refine decide_eq_false ?_;omega)|(rw[decide_eq_decide];omega)
theorem oj(A:Option Addr)(n c:Nat)(x k:Int)(w:World)(d:n<=2305843009213693952):aS prog 224 [.slice A n c,Iv x,Iv k] w λv _=>v= .bool (decide (0<=x∧0<=k∧k<=n∧x+k<=n)):=by
 refine Wj func224 ntmps224 ?_;have b:=Ext.refl w;repeat'(first|refine Wz ?_|refine SW.dP rfl rfl rfl (λh=>?_) (λh=>?_)|(refine Wc (bE _ _ _ _) λe a=>?_;have b:=b.trans a))
 all_goals refine ah.aF rfl rfl ⟨_,rfl,b,?_⟩
 all_goals congr 1
 all_goals symm
 all_goals first|(refine decide_eq_true ?_;omega)|(refine decide_eq_false ?_;omega)|(rw[decide_eq_decide];omega)
def tZ(w:World)(e sz:Nat)(enc:α->List Value)(n:Nat)(l:List α):Value->World->Prop:=λv a=>∃A c,v= .slice A n c∧Own a w.heap.size e sz enc A n c l
theorem iM(A:Option Addr)(n c:Nat)(l:List Int)(w:World)(f:Sl w 1 aT A n l)(t:n*8<=140737488355328):aS prog 109 [.slice A n c] w (tZ w 3 1 aT n l):=by
 refine Wj func109 ntmps109 ?_;have a:=Ext.refl w;have u:=f.base;refine Wz ?_
 refine CW.loop (λs:Nat×Option Addr×Nat=>[(0,.slice A n c),(3,.slice s.2.1 s.1 s.2.2),(4,Iv (s.1:Int))])
  (λs g=>s.1<=n∧Ext w g∧Own g w.heap.size 3 1 aT s.2.1 s.1 s.2.2 (l.take s.1)) (λs=>n-s.1) (0,none,0) ⟨rfl,rfl,rfl,trivial⟩ ⟨by omega,a,by simpa using Own.cq _ _ _ _ _ _⟩ ?_
 rintro⟨k,j,m⟩ g ⟨o,a,d⟩;simp only at o d⊢;by_cases e:k<n
 ·repeat'(first|refine Wz ?_|refine Wn a (f.one e rfl) ?_)
  refine SW.bz rfl rfl rfl rfl rfl λb v h hb p=>?_;obtain⟨a,d⟩:=bk h a d;refine SW.append d (ay.la (enc:=aT) p) a.size Z Z Z Y Y λq c2 x i r=>?_;have a:=au a r (Ph _) d.az;refine Wz ?_;refine ah.again (k+1,q,c2) ⟨Z,Z,Z,trivial⟩ dD ⟨by simp only;omega,a,?_⟩;rw[Pk (f.lt e)];exact i
 refine Wz ?_;obtain rfl:k=n:=Y;refine ah.aF Z Z ⟨_,Z,a,j,m,Z,?_⟩;rwa[Pl (by have:=f.len;omega)]at d
theorem eD(A:Option Addr)(n c:Nat)(l:List Int)(w:World)(d:Sl w 1 aT A n l)(o:n*8<=140737488355328):aS prog 29 [.slice A n c] w (tZ w 3 1 aT n l):=by
 refine Wj func29 ntmps29 ?_;have a:=Ext.refl w;refine Wz ?_;refine SW.st (sM rfl rfl) rfl ?_;repeat'(first|refine Wz ?_|(refine CW.cond rfl (λh=>?_) (λh=>?_)))
 ·have e:n=0:=by
   rcases Ps n with f|f
   ·exact f
   have:=d.base f;simp_all
  subst e;have:l=[]:=PB d.len;subst this;exact ah.aF rfl rfl ⟨_,rfl,a,none,0,rfl,Own.cq _ _ _ _ _ _⟩
 refine SW.Cv rfl λb i g hb=>?_;have a:=a.trans g;refine Wz ?_;refine SW.qZ (Qk n) (Qb l) (Own.cq i w.heap.size _ _ aT (some ⟨b,0,none⟩)) (d.ext a) a.size Z Z Z Y Y λj c2 p k m=>?_;have a:=au a m (Ph _) (by simp[aN]);refine Wz ?_;exact ah.aF Z Z ⟨_,Z,a,j,c2,Z,k⟩
theorem LD(k:Int)(w:World):aS prog 17 [Iv k] w λv d=>
 if 0<=k∧k<=256 then∃A c,v= .tuple #[.slice A (16*k).toNat c,Iv 0]∧Own d w.heap.size 3 1 aT A (16*k).toNat c (List.replicate (16*k).toNat 0)else v= .tuple #[.slice none 0 0,Iv 1]:=by
 refine Wj func17 ntmps17 ?_;have a:=Ext.refl w;repeat'(first|refine Wz ?_|(refine CW.og rfl (λh=>?_) (λh=>?_))|refine SW.dP rfl rfl rfl (λh=>?_) (λh=>?_))
 ·refine ah.cf rfl rfl rfl ⟨_,rfl,a,?_⟩;rw[if_neg Y]
 ·refine ah.cf rfl rfl rfl ⟨_,rfl,a,?_⟩;rw[if_neg Y]
 refine SW.make (enc:=aT) (k:=(16*k).toNat) 0 rfl rfl Y Y Y rfl λA c f b e=>?_;have a:=a.trans b;refine Wz ?_;refine ah.cf Z Z Z ⟨_,Z,a,?_⟩;rw[if_pos Y];exact⟨A,c,Z,e⟩
theorem HH(k:Int)(w:World):aS prog 35 [Iv k] w λv f=>
 if 0<=k∧k<=256 then∃A c,v= .tuple #[.slice A (16*k).toNat c,Iv 0]∧Own f w.heap.size 3 1 aT A (16*k).toNat c (List.replicate (16*k).toNat 0)else v= .tuple #[.slice none 0 0,Iv 1]:=by
 refine Wj func35 ntmps35 ?_;have a:=Ext.refl w;repeat'(first|refine Wz ?_|(refine CW.uX rfl (λh=>?_) (λh=>?_))|(refine Wc (bE _ _ _ _) λi d=>?_;have a:=a.trans d))
 ·refine ah.cf rfl rfl rfl ⟨_,rfl,a,?_⟩;rw[if_neg Y]
 have l:0<=k∧k<=256:=Y
 refine CW.loop (λs:Nat×Option Addr×Nat=>[(0,Iv k),(4,.slice s.2.1 s.1 s.2.2),(5,Iv (s.1:Int))])
  (λs f=>s.1<=(16*k).toNat∧Ext w f∧Own f w.heap.size 3 1 aT s.2.1 s.1 s.2.2 (List.replicate s.1 0)) (λs=>(16*k).toNat-s.1) (0,none,0) ⟨rfl,rfl,rfl,trivial⟩ ⟨by simp,a,by simpa using Own.cq _ _ _ _ _ _⟩ ?_
 rintro⟨j,m,n⟩ f ⟨o,a,e⟩;simp only at o e⊢;by_cases p:j<(16*k).toNat
 ·refine Wz ?_;refine SW.bz rfl rfl rfl rfl rfl λb i d hb q=>?_;obtain⟨a,e⟩:=bk d a e;refine SW.append e (ay.la (enc:=aT) q) a.size Z Z Z Y Y λr c2 u g t=>?_;have a:=au a t (Ph _) e.az;refine Wz ?_;refine ah.again (j+1,r,c2) ⟨Z,Z,Z,trivial⟩ dD ⟨by simp only;omega,a,?_⟩;simp only[List.replicate_succ'];exact g
 refine Wz ?_;obtain rfl:j=(16*k).toNat:=Y;refine ah.cf Z Z Z ⟨_,Z,a,?_⟩;rw[if_pos l];exact⟨m,n,Z,e⟩
def Region.ok(r:Region):Prop:=0<=r.aE∧1<=r.ax∧r.ax<=256∧r.aE+r.ax<=256
instance (r:Region):Decidable r.ok:=inferInstanceAs (Decidable (_∧_))
def eV(r:Region):List Value:=[Iv r.aE,Iv r.ax]
theorem pF(r:Region)(w:World):aS prog 192 [.agg (eV r).toArray] w λv _=>v=Iv (if r.ok then 0 else 1):=by
 refine Wj func192 ntmps192 ?_;refine Ww λb c a hb d=>?_;repeat'(first|refine Wz ?_|(refine CW.og Z (λh=>?_) (λh=>?_))|refine SW.dP Z Z Z (λh=>?_) (λh=>?_))
 all_goals refine ah.aF Z Z ⟨_,Z,a,?_⟩
 all_goals first|rw[if_pos (by unfold Region.ok;omega)]|rw[if_neg (by unfold Region.ok;omega)]
theorem pG(r:Region)(w:World):aS prog 177 [.agg (eV r).toArray] w λv _=>v=Iv (if r.ok then 0 else 1):=by
 refine Wj func177 ntmps177 ?_;refine Ww λb e c hb d=>?_;repeat'(first|refine Wz ?_|(refine CW.og Z (λh=>?_) (λh=>?_))|refine SW.nR Z Z Z (λh=>?_) (λh=>?_)|(refine Wc (bE _ _ _ _) λe a=>?_;obtain⟨c,d⟩:=bk a c d))
 all_goals refine ah.aF Z Z ⟨_,Z,c,?_⟩
 all_goals first|rw[if_pos (by unfold Region.ok;omega)]|rw[if_neg (by unfold Region.ok;omega)]
instance :gG eV 2:=⟨λ_=>rfl,λr u hu=>by simp[eV]at hu;rcases hu with rfl|rfl<;>rfl⟩
def g9(l:List Region):Prop:=l.length<=40∧∀(i:Nat)(h:i<l.length),(l[i]).ok∧∀(a:0<i),(l[i-1]'Y).aE+(l[i-1]'Y).ax<(l[i]).aE
noncomputable def dv(l:List Region):Bool:= @decide (g9 l) (Classical.propDecidable _)
theorem oU{l:List Region}(h:g9 l):dv l=true:=by unfold dv<;>grind
theorem ki{l:List Region}(h:¬g9 l):dv l=false:=by unfold dv<;>grind
theorem oV{l:List Region}:dv l=true↔g9 l:=by
 by_cases h:g9 l<;>grind[g9,oU,ki]
theorem pT{r:Region}(h:r.ok)(w:World):aS prog 192 [.agg (eV r).toArray] w λv _=>v=Iv 0:=(pF r w).mono λ_ _ _ a=>by rw[a,if_pos h]
theorem wz{r:Region}(h:¬r.ok)(w:World):aS prog 192 [.agg (eV r).toArray] w λv _=>v=Iv 1:=(pF r w).mono λ_ _ _ a=>by rw[a,if_neg h]
theorem pU{r:Region}(h:r.ok)(w:World):aS prog 177 [.agg (eV r).toArray] w λv _=>v=Iv 0:=(pG r w).mono λ_ _ _ a=>by rw[a,if_pos h]
theorem wA{r:Region}(h:¬r.ok)(w:World):aS prog 177 [.agg (eV r).toArray] w λv _=>v=Iv 1:=(pG r w).mono λ_ _ _ a=>by rw[a,if_neg h]
theorem wB{r:Region}(h:r.ok)(w:World):aS prog 126 [.agg (eV r).toArray] w λv _=>v=Iv (r.aE+r.ax):=by
 obtain⟨c,d,e,f⟩:=h;refine Wj func126 ntmps126 ?_;refine Ww λb g a hb i=>?_;refine Wz ?_;exact ah.aF Z Z ⟨_,Z,a,Z⟩
theorem mL(A:Option Addr)(n c:Nat)(l:List Region)(w:World)(e:Sl w 2 eV A n l)(D:n<=9223372036854775807):
 aS prog 96 [.slice A n c] w λv _=>v= .bool (dv l):=by
 refine Wj func96 ntmps96 ?_;have b:=Ext.refl w;have E:=e.base;have z:=e.len;repeat'(first|refine Wz ?_|(refine CW.og rfl (λh=>?_) (λh=>?_)))
 ·refine ah.aF rfl rfl ⟨_,rfl,b,?_⟩;rw[ki (λh=>by have:=h.1;omega)]
 refine CW.loop (λk:Nat=>[(0,.slice A n c),(3,Iv (k:Int))]) (λk x=>k<=n∧Ext w x∧∀(i:Nat)(h:i<l.length),i<k->(l[i]).ok∧∀(B:0<i),(l[i-1]'Y).aE+(l[i-1]'Y).ax<(l[i]).aE)
  (λk=>n-k) 0 ⟨rfl,rfl,trivial⟩ ⟨by omega,b,λi h y=>by omega⟩ ?_
 rintro k x ⟨F,b,r⟩;by_cases f:k<n
 ·have g:=e.lt f;by_cases d:(l[k]).ok
  ·by_cases s:k=0
   ·subst s;repeat'(first|refine Wz ?_|((apply CW.dF mixed;(·kernel_rfl);rotate_left;intro p a;have b:=b.trans a;rotate_right))|refine Wo b ((e.all f)) ?_|(refine Wc (pU d _) λp a=>?_;have b:=b.trans a)|exact SW.br rfl)
    refine ah.again (0+1) ⟨rfl,rfl,trivial⟩ Y ⟨by omega,b,λi h y=>?_⟩;obtain rfl:i=0:=Y;exact⟨d,λB=>by omega⟩
   obtain⟨j,rfl⟩:∃j,k=j+1:=⟨k-1,by omega⟩;have q:j<n:=Y;have C:=(r j (e.lt q) Y).1;have t:=C;have m:=d;unfold Region.ok at t m;by_cases o:(l[j]'(e.lt q)).aE+(l[j]'(e.lt q)).ax<(l[j+1]).aE
   all_goals
    repeat'(first|refine Wz ?_|((apply CW.dF mixed;(·kernel_rfl);rotate_left;intro p a;have b:=b.trans a;rotate_right))|refine SW.st (aU (j) rfl rfl ig Y Y) rfl ?_|refine Wo b ((e.all f)) ?_|refine Wn b (e.dp f rfl) ?_|refine Wn b (e.dp q rfl) ?_|(refine Wc (pU d _) λp a=>?_;have b:=b.trans a)|exact SW.br rfl)
   ·refine ah.again (j+1+1) ⟨rfl,rfl,trivial⟩ Y ⟨by omega,b,λi h y=>?_⟩;by_cases u:i=j+1
    ·subst u;exact⟨d,λ_=>o⟩
    exact r i h Y
   refine ah.aF rfl rfl ⟨_,rfl,b,?_⟩;rw[ki (λh=>o ((h.2 (j+1) g).2 Y))]
  repeat'(first|refine Wz ?_|refine Wo b ((e.all f)) ?_|(refine Wc (wA d _) λp a=>?_;have b:=b.trans a))
  refine ah.aF rfl rfl ⟨_,rfl,b,?_⟩;rw[ki (λh=>d (h.2 k g).1)]
 refine Wz ?_;refine ah.aF rfl rfl ⟨_,rfl,b,?_⟩;rw[oU ⟨by omega,λi h=>r i h Y⟩]
def aL(b:Block):List Value:=[Iv b.At,Iv b.Order,Iv b.Ty]
instance :gG aL 3:=⟨λ_=>rfl,λr u hu=>by simp[aL]at hu;rcases hu with rfl|rfl|rfl<;>rfl⟩
def bG(b:Slab):List Value:=[Iv b.At,Iv b.ai,Iv b.bR]
instance :gG bG 3:=⟨λ_=>rfl,λr u hu=>by simp[bG]at hu;rcases hu with rfl|rfl|rfl<;>rfl⟩
def Block.Fp(r:Block):List Int:=[r.At,r.Order,r.Ty]
theorem Block.JK{r s:Block}:r.Fp=s.Fp↔r=s:=by cases r;cases s;simp[Block.Fp]
theorem kF(A:Option Addr)(n c:Nat)(l:List Block)(w:World)(d:Sl w 3 aL A n l)(o:n*24<=140737488355328):aS prog 90 [.slice A n c] w (tZ w 129 3 aL n l):=by
 refine Wj func90 ntmps90 ?_;have a:=Ext.refl w;refine Wz ?_;refine SW.st (sM rfl rfl) rfl ?_;repeat'(first|refine Wz ?_|(refine CW.cond rfl (λh=>?_) (λh=>?_)))
 ·have e:n=0:=by
   rcases Ps n with f|f
   ·exact f
   have:=d.base f;simp_all
  subst e;have:l=[]:=PB d.len;subst this;exact ah.aF rfl rfl ⟨_,rfl,a,none,0,rfl,Own.cq _ _ _ _ _ _⟩
 refine SW.Cv rfl λb i g hb=>?_;have a:=a.trans g;refine Wz ?_;refine SW.qZ (Qk n) (Qb l) (Own.cq i w.heap.size _ _ aL (some ⟨b,0,none⟩)) (d.ext a) a.size Z Z Z Y Y λj c2 p k m=>?_;have a:=au a m (Ph _) (by simp[aN]);refine Wz ?_;exact ah.aF Z Z ⟨_,Z,a,j,c2,Z,k⟩
theorem oW(A:Option Addr)(n c:Nat)(l:List Block)(w:World)(f:Sl w 3 aL A n l)(t:n*24<=140737488355328):aS prog 185 [.slice A n c] w (tZ w 129 3 aL n l):=by
 refine Wj func185 ntmps185 ?_;have a:=Ext.refl w;have u:=f.base;refine Wz ?_
 refine CW.loop (λs:Nat×Option Addr×Nat=>[(0,.slice A n c),(3,.slice s.2.1 s.1 s.2.2),(4,Iv (s.1:Int))])
  (λs g=>s.1<=n∧Ext w g∧Own g w.heap.size 129 3 aL s.2.1 s.1 s.2.2 (l.take s.1)) (λs=>n-s.1) (0,none,0) ⟨rfl,rfl,rfl,trivial⟩ ⟨by omega,a,by simpa using Own.cq _ _ _ _ _ _⟩ ?_
 rintro⟨k,j,m⟩ g ⟨o,a,d⟩;simp only at o d⊢;by_cases e:k<n
 ·repeat'(first|refine Wz ?_|refine Wo a ((f.all e)) ?_)
  refine SW.bz rfl rfl rfl rfl rfl λb v h hb p=>?_;obtain⟨a,d⟩:=bk h a d;refine SW.append d (ay.la (enc:=aL) p) a.size Z Z Z Y Y λq c2 x i r=>?_;have a:=au a r (Ph _) d.az;refine Wz ?_;refine ah.again (k+1,q,c2) ⟨Z,Z,Z,trivial⟩ dD ⟨by simp only;omega,a,?_⟩;rw[Pk (f.lt e)];exact i
 refine Wz ?_;obtain rfl:k=n:=Y;refine ah.aF Z Z ⟨_,Z,a,j,m,Z,?_⟩;rwa[Pl (by have:=f.len;omega)]at d
theorem pV(A B:Option Addr)(n m c d:Nat)(xs f:List Block)(w:World)(o:Sl w 3 aL A n xs)(p:Sl w 3 aL B m f)(x:n<=2305843009213693952):
 aS prog 54 [.slice A n c,.slice B m d] w λv _=>v= .bool (decide (xs=f)):=by
 refine Wj func54 ntmps54 ?_;have y:=o.len;have u:=p.len;have z:=o.base;have C:=p.base;have a:=Ext.refl w;repeat'(first|refine Wz ?_|(refine CW.uX rfl (λh=>?_) (λh=>?_)))
 ·refine ah.aF rfl rfl ⟨_,rfl,a,?_⟩;have:xs≠f:=λe=>by subst e;omega
  simp[this]
 have g:n=m:=Y
 refine CW.loop (λk:Nat=>[(0,.slice A n c),(1,.slice B m d),(5,Iv (k:Int))])
  (λk t=>k<=n∧Ext w t∧∀j(q:j<xs.length)(r:j<f.length),j<k->xs[j]=f[j]) (λk=>n-k) 0 ⟨Z,Z,Z,trivial⟩ ⟨by omega,a,λj _ _ h=>by omega⟩ ?_
 rintro k t ⟨D,a,i⟩;by_cases b:k<n
 ·repeat'(first|refine Wz ?_|(first|refine CW.uX Z (λh=>?_) (λh=>?_)|(apply CW.dF mixed;(·kernel_rfl);rotate_left;intro E l;have a:=a.trans l;rotate_right))|refine Wo a ((o.all b)) ?_|refine Wo a ((p.all (g▸b))) ?_|(refine SW.st (JI (xs[k]'(o.lt b)).Fp (f[k]'(p.lt (g▸b))).Fp Z Z Z Z) Z ?_)|exact SW.br Z)
  ·refine ah.aF Z Z ⟨_,Z,a,?_⟩;have:xs≠f:=λe=>by subst e;exact h Z
   simp[this]
  refine ah.again (k+1) ⟨Z,Z,Z,trivial⟩ Y ⟨by omega,a,λj q r F=>?_⟩;by_cases s:j=k
  ·subst s;exact Block.JK.1 ig
  exact i j q r Y
 refine Wz ?_;refine ah.aF Z Z ⟨_,Z,a,?_⟩
 have:xs=f:=by
  apply PK Y;intro j q r;exact i j q r Y
 simp[this]
variable {a f o:Int} {z:ap}
def pw(o:Int):Int:=2 ^ o.toNat
theorem eE(a:0<=o)(b:o<=4):(o=0∧pw o=1)∨(o=1∧pw o=2)∨(o=2∧pw o=4)∨(o=3∧pw o=8)∨(o=4∧pw o=16):=by
 have:o=0∨o=1∨o=2∨o=3∨o=4:=Y;rcases this with rfl|rfl|rfl|rfl|rfl<;>decide
theorem bP(a:0<=o)(b:o<=4):1<=pw o∧pw o<=16:=by grind[eE]
theorem kG(a:0<=o)(b:o<=4):pw (o+1)=2*pw o:=by
 have:o=0∨o=1∨o=2∨o=3∨o=4:=Y;rcases this with rfl|rfl|rfl|rfl|rfl<;>decide
def beside(a o:Int):Int:=if a % (2*pw o)=0 then a+pw o else a-pw o
theorem sP:∀a<256,∀o<4,a % 2 ^ o=0->((a ^^^ 2 ^ o:Nat):Int)=if(a:Int) % (2*2 ^ o)=0 then(a:Int)+2 ^ o else(a:Int)-2 ^ o:=by decide+kernel
theorem Fq{a:Nat}(b:a<256)(c:0<=o)(d:o<4)(h:(a:Int) % pw o=0):((a ^^^ 2 ^ o.toNat:Nat):Int)=beside a o:=by
 have:o=0∨o=1∨o=2∨o=3:=Y;rcases this with rfl|rfl|rfl|rfl
 ·exact sP a b 0 Y Y
 ·exact sP a b 1 Y (by
   rw[show pw 1=2 by decide]at h;grind)
 ·exact sP a b 2 Y (by
   rw[show pw 2=4 by decide]at h;grind)
 exact sP a b 3 Y (by
  rw[show pw 3=8 by decide]at h;grind)
def gL(f t a o:Int):Prop:=0<=o∧o<=4∧f<=a∧a<t∧a % pw o=0
instance (f t a o:Int):Decidable (gL f t a o):=inferInstanceAs (Decidable (_∧_))
def iu(t:Int):Prop:=0<=t∧t<=2
instance (t:Int):Decidable (iu t):=inferInstanceAs (Decidable (_∧_))
def kj(a b:Block):Prop:=a.At+pw a.Order<=b.At∧¬(b.Order<4∧a.Order=b.Order∧a.At=beside b.At b.Order)
instance (a b:Block):Decidable (kj a b):=inferInstanceAs (Decidable (_∧_))
def eG(f t:Int)(b:Block):Prop:=gL f t b.At b.Order∧iu b.Ty
instance (f t:Int) (b:Block):Decidable (eG f t b):=inferInstanceAs (Decidable (_∧_))
def eu(f t:Int):Prop:=0<=f∧f<=t∧t<=256∧f % 16=0∧t % 16=0
instance (f t:Int):Decidable (eu f t):=inferInstanceAs (Decidable (_∧_))
structure bV(z:ap):Prop where
 ok:eu z.aE z.To
 len:8*(z.Types.length:Int)=z.To-z.aE
 types:∀t∈z.Types,iu t
 dm:∀(i:Nat)(h:i<z.ai.length),eG z.aE z.To z.ai[i]
 next:∀(i:Nat)(h:i+1<z.ai.length),kj z.ai[i] z.ai[i+1]
noncomputable def dZ(z:ap):Bool:= @decide (bV z) (Classical.propDecidable _)
theorem sQ(h:bV z):dZ z=true:=by unfold dZ<;>grind
theorem jW(h:¬bV z):dZ z=false:=by unfold dZ<;>grind
theorem dj:dZ z=true↔bV z:=by
 by_cases h:bV z<;>grind[sQ,jW]
theorem JL{t:Int}{a b:Block}(j:eG f t a)(hb:eG f t b)(h:a.At+pw a.Order<=b.At):
 (b.Order<4∧a.Order=b.Order∧a.At=beside b.At b.Order)↔(b.Order<4∧a.Order=b.Order∧a.At+pw b.Order=b.At∧a.At % pw (b.Order+1)=0):=by
 obtain⟨⟨m,n,o,p,i⟩,_⟩:=j;obtain⟨⟨d,e,q,r,s⟩,_⟩:=hb;rw[kG d e];unfold beside;constructor
 ·rintro⟨g,c,k⟩;refine⟨g,c,?_⟩;rw[c]at i h;have l:=eE d e;grind
 rintro⟨g,c,k,u⟩;refine⟨g,c,?_⟩;rw[c]at i h;have l:=eE d e;grind
def idxOf(p:α->Bool)(l:List α):Int:=if l.any p then(l.findIdx p:Int)else-1
def fu(l:List Block):Int:=(l.map λb=>pw b.Order).sum
theorem oX(l:List Block)(k:Nat)(h:k<l.length):fu (l.take (k+1))=fu (l.take k)+pw l[k].Order:=by
 grind[fu,List.take_succ_eq_append_getElem]
theorem lz(h:bV z):∀k,k<=z.ai.length->0<=fu (z.ai.take k)∧fu (z.ai.take k)<=16*(k:Int)
 | 0,_=>by simp[fu]
 | k+1,hk=>by
   have a:=lz h k Y;have hb:=(h.dm k Y).1;have:=bP hb.1 hb.2.1;grind[bP,oX]
theorem vV(b:bV z)(c:z.aE<=a)(d:a<z.To):∃k:Nat,(a-z.aE) / 8=k∧k<z.Types.length:=by
 have:=b.len;exact⟨((a-z.aE) / 8).toNat,by omega,by omega⟩
structure jC where
 A:Option Addr
 n:Nat
 c:Nat
def jC.v(s:jC):Value:= .slice s.A s.n s.c
def jC.nil:jC:=⟨none,0,0⟩
structure cM where
 aE:Int
 To:Int
 ai:jC
 Types:jC
def bu(z:cM):List Value:=[Iv z.aE,Iv z.To,z.ai.v,z.Types.v]
instance :gG bu 4:=⟨λ_=>rfl,λr u hu=>by simp[bu,jC.v]at hu;rcases hu with rfl|rfl|rfl|rfl<;>rfl⟩
theorem ck(r:cM):∀v∈bu r,v.oneCell'=true:=gG.one (enc:=bu) r
structure vD(w:World)(r:cM)(z:ap):Prop where
 from_:r.aE=z.aE
 kW:r.To=z.To
 free:Sl w 3 aL r.ai.A r.ai.n z.ai
 types:Sl w 1 aT r.Types.A r.Types.n z.Types
structure fv(w:World)(lo:Nat)(r:cM)(z:ap):Prop where
 from_:r.aE=z.aE
 kW:r.To=z.To
 free:Own w lo 129 3 aL r.ai.A r.ai.n r.ai.c z.ai
 types:Own w lo 3 1 aT r.Types.A r.Types.n r.Types.c z.Types
theorem vD.ext{r:cM}{z:ap}(h:vD w r z)(a:Ext w w'):vD w' r z:=⟨h.from_,h.kW,h.free.ext a,h.types.ext a⟩
theorem fv.ext{r:cM}{z:ap}(h:fv w lo r z)(a:Ext w w'):fv w' lo r z:=⟨h.from_,h.kW,h.free.ext a,h.types.ext a⟩
theorem fv.low{r:cM}{z:ap}(h:fv w lo r z)(a:nn<=lo):fv w nn r z:=⟨h.from_,h.kW,h.free.low a,h.types.low a⟩
theorem fv.rd{r:cM}{z:ap}(h:fv w lo r z):vD w r z:=⟨h.from_,h.kW,h.free.sl,h.types.sl⟩
theorem fv.dm{t:Nat}{r:cM}{z:ap}(h:fv w lo r z)(a:ay w b t cs)(c:w.grownBy w' (some b))(d:Nat.beq t 129=false)(e:Nat.beq t 3=false):fv w' lo r z:=
 ⟨h.from_,h.kW,h.free.grown c (.inr (h.free.cB a d)),h.types.grown c (.inr (h.types.cB a e))⟩
def ap.zero:ap:=⟨0,0,[],[]⟩
def cM.zero:cM:=⟨0,0,.nil,.nil⟩
theorem fv.zero(w:World)(lo:Nat):fv w lo .zero .zero:=⟨Z,Z,Own.cq _ _ _ _ _ _,Own.cq _ _ _ _ _ _⟩
theorem CB(r s:cM)(a b:ap)(w:World)(f:vD w r a)(hb:vD w s b)(j:r.ai.n<=2305843009213693952)(k:r.Types.n<=2305843009213693952):
 aS prog 55 [.agg (bu r).toArray,.agg (bu s).toArray] w λv _=>v= .bool (decide (a=b)):=by
 refine Wj func55 ntmps55 ?_;have t:=f.from_;have u:=f.kW;have x:=hb.from_;have y:=hb.kW;refine Ww λl m c n g=>?_;refine SW.box Z Z λo z i p d=>?_;obtain⟨c,g⟩:=bk i c g;repeat'(first|refine Wz ?_|refine SW.dP Z Z Z (λh=>?_) (λh=>?_)|((first|refine Wk (pV _ _ _ _ _ _ _ _ _ (f.free.ext c) (hb.free.ext c) j) ?_|refine Wk (jV _ _ _ _ _ _ _ _ _ (f.types.ext c) (hb.types.ext c) k) ?_);intro v m e q;subst q;obtain⟨c,g,d⟩:=aY e c g d))
 all_goals refine ah.aF Z Z ⟨_,Z,c,?_⟩
 all_goals obtain⟨A,B,C,D⟩:=a
 all_goals obtain⟨l,o,E,F⟩:=b
 all_goals simp_all
theorem ra(r:cM)(z:ap)(w:World)(q:vD w r z)(C:r.ai.n*24<=140737488355328)(D:r.Types.n*8<=140737488355328):
 aS prog 91 [.agg (bu r).toArray] w λv E=>∃s,v= .agg (bu s).toArray∧fv E w.heap.size s z∧s.ai.n=r.ai.n∧s.Types.n=r.Types.n:=by
 refine Wj func91 ntmps91 ?_;refine Ww λb F d hb g=>?_;refine SW.alloc Z λG J t u c=>?_;have l:=d.up u;have m:G≠b:=by have:=g.lt;omega
 obtain⟨d,g⟩:=bk t d g;have n:=hb;refine Wz ?_;refine CW.any 7 mixed (cy bm) Z λF o H=>?_;obtain⟨d,g,c⟩:=aY o d g c;refine Wa ?_;refine SA.bD 2 ?_;refine Wk (kF _ _ _ _ _ (q.free.ext d) C) λv I j x=>?_;obtain⟨X,A,rfl,e⟩:=x;have e:=e.low d.size;obtain⟨d,g,c⟩:=aY j d g c;refine SW.nil (ah.sa j ?_);refine Wa ?_;refine SA.bD 5 ?_;refine Wk (eD _ _ _ _ _ (q.types.ext d) D) λv I j x=>?_;obtain⟨a,B,rfl,h⟩:=x;have h:=h.low d.size;obtain⟨e,d,g,c⟩:=cG j e d g c;refine SW.nil (ah.sa j ?_);refine SA.fH ?_;skip;refine Wb (i:=2) g λK k f=>?_;have d:=d.own n f;have e:=e.grown f (.inr (e.cB g Z));have h:=h.grown f (.inr (h.cB g Z));have c:=c.grown f (by simpa using m);refine Wz ?_;refine Wb (i:=3) k λL p f=>?_;have d:=d.own n f;have e:=e.grown f (.inr (e.cB k Z));have h:=h.grown f (.inr (h.cB k Z));have c:=c.grown f (by simpa using m);repeat'(first|refine Wz ?_|refine Wm ((λ_ _=>p.cell)) ?_)
 refine Wg c (ck ⟨r.aE,r.To,⟨X,r.ai.n,A⟩,⟨a,r.Types.n,B⟩⟩) λM y f=>?_;have d:=d.own l f;have e:=e.grown f (.inr (e.cB c Z));have h:=h.grown f (.inr (h.cB c Z));refine Wz ?_;exact ah.nu Z Z y Z ⟨_,Z,d,⟨r.aE,r.To,⟨X,r.ai.n,A⟩,⟨a,r.Types.n,B⟩⟩,Z,⟨q.from_,q.kW,e,h⟩,Z,Z⟩
def gn(f t:Int):Int×ap:=if eu f t then(0,⟨f,t,[],List.replicate ((t-f) / 8).toNat 1⟩)else(1,.zero)
def oY(lo:Nat)(r:Int×ap)(v:Value)(w:World):Prop:=∃s:cM,v= .tuple #[.agg (bu s).toArray,Iv r.1]∧fv w lo s r.2
theorem lc{t:Int}(h:¬eu f t):gn f t=(1,.zero):=if_neg h
theorem jd{t:Int}(h:eu f t):gn f t=(0,⟨f,t,[],List.replicate ((t-f) / 8).toNat 1⟩):=if_pos h
theorem pW{x:Int}(h:0<=x):x.tmod 16=x % 16:=Pv h
theorem LF(k i:Nat)(h:i<k):(List.replicate i (1:Int)++List.replicate (k-i) 0).set i 1=List.replicate (i+1) 1++List.replicate (k-(i+1)) 0:=by
 apply PK (by grind)
 grind
theorem wC(f t:Int)(w:World)(L: -9223372036854775808<=f∧f<=9223372036854775807)(M: -9223372036854775808<=t∧t<=9223372036854775807):aS prog 59 [Iv f,Iv t] w (oY w.heap.size (gn f t)):=by
 refine Wj func59 ntmps59 ?_;refine CW.seq (CW.region (SW.alloc rfl λz G b r a=>?_));have m:=r;by_cases n:eu f t
 ·obtain⟨B,H,N,O,P⟩:=id n;have m1:=pW B;have C:=pW (show 0<=t by omega);rw[jd n];obtain⟨k,I⟩:∃k:Nat,(t-f) / 8=k:=⟨((t-f) / 8).toNat,by omega⟩;refine Wz ?_;refine SW.make (enc:=aT) (k:=k) 0 rfl rfl Y Y Y rfl λA c J D d=>?_;have d:=d.low b.size;obtain⟨b,a⟩:=bk D b a;refine Wz ?_;refine SW.alloc Z λE G s p g=>?_;have u:=b.up p;have o:z≠E:=by have:=a.lt;omega
  obtain⟨b,a,d⟩:=aY s b a d;refine Wg g (ck ⟨f,t,.nil,⟨A,k,c⟩⟩) λJ q j=>?_;have b:=b.own u j;have d:=d.grown j (.inr (d.cB g Z));have a:=a.grown j (by simpa using o);have g:=q;have K:=d.sl.base;refine Wz ?_
  refine CW.loop (λi:Nat=>[(4,Pt z),(6,Pt E),(40,Iv (k:Int)),(41,Iv (i:Int))])
   (λi v=>i<=k∧Ext w v∧ay v z 98 (bu .zero)∧ay v E 98 (bu ⟨f,t,.nil,⟨A,k,c⟩⟩)∧Own v w.heap.size 3 1 aT A k c (List.replicate i 1++List.replicate (k-i) 0)) (λi=>k-i) 0
   ⟨Z,Z,Z,Z,trivial⟩ ⟨by omega,b,a,g,by simpa using d⟩ ?_
  rintro i v ⟨Q,b,a,g,d⟩;have K:=d.sl.base;by_cases x:i<k
  ·refine Wz ?_;refine SW.j3 i d Z Z x λR y j=>?_;have b:=au b j (Ph _) d.az;have a:=a.grown j (λe=>d.cB a Z e.symm);have g:=g.grown j (λe=>d.cB g Z e.symm);rw[LF k i x]at y;refine Wz ?_;exact ah.again (i+1) ⟨Z,Z,Z,Z,trivial⟩ Y ⟨by omega,b,a,g,y⟩
  obtain rfl:i=k:=Y;simp only[Nat.sub_self,List.replicate_zero,List.append_nil]at d;refine Wz ?_;refine Wg a (ck ⟨f,t,.nil,⟨A,i,c⟩⟩) λF l j=>?_;have b:=b.own m j;have d:=d.grown j (.inr (d.cB a Z));refine Wz ?_;refine ah.a9 Z Z Z l Z ⟨_,Z,b,⟨f,t,.nil,⟨A,i,c⟩⟩,Z,Z,Z,Own.cq _ _ _ _ _ _,?_⟩;simp only[I,Int.toNat_natCast];exact d
 rw[lc n];unfold eu at n;have m1:=λh=> @pW f h;have C:=λh=> @pW t h;by_cases B:0<=f
 ·have m1:=m1 B;by_cases H:f<=t
  ·have C:=C Y;repeat'(first|refine Wz ?_|refine SW.dP Z Z Z (λh=>?_) (λh=>?_)|refine SW.nR Z Z Z (λh=>?_) (λh=>?_))
   all_goals
    first
     | (exfalso;omega)
     | (refine Wg a (ck .zero) λF l j=>?_
        have b:=b.own m j;refine Wz ?_;exact ah.a9 Z Z Z l Z ⟨_,Z,b,.zero,Z,fv.zero _ _⟩)
  repeat'(first|refine Wz ?_|refine SW.dP Z Z Z (λh=>?_) (λh=>?_))
  all_goals
   refine Wg a (ck .zero) λF l j=>?_;have b:=b.own m j;refine Wz ?_;exact ah.a9 Z Z Z l Z ⟨_,Z,b,.zero,Z,fv.zero _ _⟩
 refine Wz ?_
 all_goals
  refine Wg a (ck .zero) λF l j=>?_;have b:=b.own m j;refine Wz ?_;exact ah.a9 Z Z Z l Z ⟨_,Z,b,.zero,Z,fv.zero _ _⟩
theorem pX(f t:Int)(w:World)(P: -9223372036854775808<=f∧f<=9223372036854775807)(Q: -9223372036854775808<=t∧t<=9223372036854775807):aS prog 97 [Iv f,Iv t] w (oY w.heap.size (gn f t)):=by
 refine Wj func97 ntmps97 ?_;refine CW.seq (CW.region (SW.alloc rfl λE z d B a=>?_));have n:=B;by_cases r:eu f t
 ·obtain⟨F,I,R,S,T⟩:=id r;have m1:=pW F;have G:=pW (show 0<=t by omega);rw[jd r];obtain⟨k,J⟩:∃k:Nat,(t-f) / 8=k:=⟨((t-f) / 8).toNat,by omega⟩;repeat'(first|refine Wz ?_|(refine Wc (bE _ _ _ _) λz g=>?_;obtain⟨d,a⟩:=bk g d a))
  refine SW.alloc rfl λH z g v j=>?_;have y:=d.up v;have o:E≠H:=by have:=a.lt;omega
  obtain⟨d,a⟩:=bk g d a;refine Wg j (ck ⟨f,t,.nil,.nil⟩) λK p l=>?_;have d:=d.own y l;have a:=a.grown l (by simpa using o);have j:=p;refine Wz ?_
  refine CW.loop (λs:Nat×Option Addr×Nat=>[(1,Iv t),(4,Pt E),(6,Pt H),(7,Iv (f+8*(s.1:Int)))])
   (λs C=>s.1<=k∧Ext w C∧ay C E 98 (bu .zero)∧ay C H 98 (bu ⟨f,t,.nil,⟨s.2.1,s.1,s.2.2⟩⟩)∧Own C w.heap.size 3 1 aT s.2.1 s.1 s.2.2 (List.replicate s.1 1)) (λs=>k-s.1) (0,none,0)
   ⟨Z,Z,Z,by simp;rfl,trivial⟩ ⟨by omega,d,a,j,Own.cq _ _ _ _ _ _⟩ ?_
  rintro⟨i,A,c⟩ C ⟨L,d,a,j,q⟩;simp only at L j q⊢;by_cases M:i<k
  ·refine Wz ?_;refine SW.bz Z Z Z Z Z λb z g hb N=>?_;obtain⟨d,a,j,q⟩:=cG g d a j q;refine SW.append q (ay.la (enc:=aT) (x:=1) N) d.size Z Z Z Y Y λO c2 K u l=>?_;have d:=au d l (Ph _) q.az;have a:=a.grown l (λe=>q.cB a Z e.symm);have j:=j.grown l (λe=>q.cB j Z e.symm);refine Wz ?_;refine Wb (i:=3) j λD p l=>?_;have d:=d.own y l;have u:=u.grown l (.inr (u.cB j Z));have a:=a.grown l (by simpa using o);refine Wz ?_;refine ah.again (i+1,O,c2) ⟨Z,Z,Z,by simp only[get];simp;omega,trivial⟩ dD ⟨by simp only;omega,d,a,p,?_⟩;simp only[List.replicate_succ'];exact u
  obtain rfl:i=k:=Y;refine Wz ?_;refine Wg a (ck ⟨f,t,.nil,⟨A,i,c⟩⟩) λD m l=>?_;have d:=d.own n l;have q:=q.grown l (.inr (q.cB a Z));refine Wz ?_;refine ah.a9 Z Z Z m Z ⟨_,Z,d,⟨f,t,.nil,⟨A,i,c⟩⟩,Z,Z,Z,Own.cq _ _ _ _ _ _,?_⟩;simp only[J,Int.toNat_natCast];exact q
 rw[lc r];unfold eu at r;have m1:=λh=> @pW f h;have G:=λh=> @pW t h;by_cases F:0<=f
 ·have m1:=m1 F;by_cases I:f<=t
  ·have G:=G Y;repeat'(first|refine Wz ?_|refine SW.nR Z Z Z (λh=>?_) (λh=>?_)|(refine Wc (bE _ _ _ _) λz g=>?_;obtain⟨d,a⟩:=bk g d a))
   all_goals
    first
     | (exfalso;omega)
     | (refine Wg a (ck .zero) λD m l=>?_
        have d:=d.own n l;refine Wz ?_;exact ah.a9 Z Z Z m Z ⟨_,Z,d,.zero,Z,fv.zero _ _⟩)
  repeat'(first|refine Wz ?_|refine SW.nR Z Z Z (λh=>?_) (λh=>?_)|(refine Wc (bE _ _ _ _) λz g=>?_;obtain⟨d,a⟩:=bk g d a))
  all_goals
   refine Wg a (ck .zero) λD m l=>?_;have d:=d.own n l;refine Wz ?_;exact ah.a9 Z Z Z m Z ⟨_,Z,d,.zero,Z,fv.zero _ _⟩
 repeat'(first|refine Wz ?_|(refine Wc (bE _ _ _ _) λz g=>?_;obtain⟨d,a⟩:=bk g d a))
 all_goals
  refine Wg a (ck .zero) λD m l=>?_;have d:=d.own n l;refine Wz ?_;exact ah.a9 Z Z Z m Z ⟨_,Z,d,.zero,Z,fv.zero _ _⟩
variable {p:α -> Bool}
section
variable {P:Program}{L:Env}{w:World}{d:Option Nat}{T:TypeId}{pos:String}{af:Array Edge}{g:Option (Nat×Bool)}
theorem MJ{x:Operand}{i j:Int}(a b:Nat)(h:cg L x=some (Iv i))(k:cg L y=some (Iv j))(l:i=(a:Int))(hb:j=(b:Int))(m:a<9223372036854775808)(o:b<9223372036854775808):
 St P ⟨d,.binOp .xor t x y ty,T,pos,af,g⟩ L w (Iv ((a ^^^ b:Nat):Int)):=
 ⟨λn A c f _=>by
  have r:=c.eval h;have s:=c.eval k;subst l hb;generalize A.eval=ρ at*;have p:a ^^^ b<2 ^ 63:=Nat.xor_lt_two_pow Y Y
  have e:(BitVec.ofInt 64 (a:Int) ^^^ BitVec.ofInt 64 (b:Int)).toNat=a ^^^ b:=by
   grind
  have q:(Op.intBits .xor .i64 (a:Int) (b:Int)).run P f= .ok (Iv ((a ^^^ b:Nat):Int)) f:=by
   have:Op.intBits .xor .i64 (a:Int) (b:Int)=(pure (Iv (IntKind.i64.wrap ((BitVec.ofInt 64 (a:Int) ^^^ BitVec.ofInt 64 (b:Int)).toNat:Nat))):Sem Value):=Z;rw[this,e,jF Y Y]
   rfl
  simp_all[binOp,Op.intBits,execOp,eqGuard]⟩
theorem mz{x:Operand}{i j:Int}(a o:Int)(f:cg L x=some (Iv i))(l:cg L y=some (Iv j))(m:i=a)(n:j=pw o)(h:0<=a∧a<256∧0<=o∧o<4∧a % pw o=0):
 St P ⟨d,.binOp .xor t x y ty,T,pos,af,g⟩ L w (Iv (beside a o)):=by
 obtain⟨p,s,c,q,r⟩:=h;subst m n;obtain⟨k,rfl⟩:=Pm p;have u:=bP c Y;have e:pw o=((2 ^ o.toNat:Nat):Int):=by grind[pw]
 have b:(2 ^ o.toNat:Nat)<9223372036854775808:=Y;have:=MJ (P:=P) (t:=t) (ty:=ty) (w:=w) (d:=d) (T:=T) (pos:=pos) (af:=af) (g:=g) k (2 ^ o.toNat) f l Z e Y b;rw[Fq Y c q r]at this;exact this
end
theorem dk(z:Int)(h:0<=z∧z<=5)(w:World):aS prog 123 [Iv z] w λv _=>v=Iv (pw z):=by
 refine Wj func123 ntmps123 ?_;have a:=Ext.refl w;obtain⟨m,rfl⟩:=Pm h.1;refine Wz ?_;refine CW.loop (λk:Nat=>[(0,Iv ((m-k:Nat):Int)),(3,Iv (pw k))]) (λk b=>k<=m∧Ext w b) (λk=>m-k) 0 ⟨by simp;rfl,rfl,trivial⟩ ⟨by omega,a⟩ ?_;rintro k b ⟨g,a⟩;by_cases c:k<m
 ·have i:=bP (o:=(k:Int)) Y Y;have d:=kG (o:=(k:Int)) Y Y;refine Wz ?_;have e:((m-k:Nat):Int)-1=((m-(k+1):Nat):Int):=Y;have f:2*pw (k:Int)=pw ((k+1:Nat):Int):=by rw[<-d];rfl
  exact ah.again (k+1) ⟨congrArg (λz=>some (Iv z)) e,congrArg (λz=>some (Iv z)) f,trivial⟩ Y ⟨by omega,a⟩
 obtain rfl:k=m:=Y;refine Wz ?_;exact ah.aF rfl rfl ⟨_,rfl,a,rfl⟩
theorem rb(r:cM)(b:Block)(w:World)(s:0<=r.aE):aS prog 194 [.agg (bu r).toArray,.agg (aL b).toArray] w λv _=>v= .bool (decide (gL r.aE r.To b.At b.Order)):=by
 refine Wj func194 ntmps194 ?_;refine Ww λt g c o d=>?_;refine SW.box Z Z λu x k p f=>?_;obtain⟨c,d⟩:=bk k c d;by_cases h:gL r.aE r.To b.At b.Order
 ·obtain⟨i,j,m,n,l⟩:=id h;have q:=bP i j;rw[decide_eq_true h];have e:b.At.tmod (pw b.Order)=0:=by rw[Pv Y];exact l
  repeat'(first|refine Wz ?_|refine fq ?_|(refine SW.st (fO (r:=pw b.Order) Z Z Y Y (by simp[pw]) Y Y) Z ?_)|(refine SW.br λg a=>?_;obtain⟨c,d,f⟩:=aY a c d f))
  exact ah.aF Z Z ⟨_,Z,c,by simp[e]⟩
 rw[decide_eq_false h];by_cases i:0<=b.Order
 ·by_cases j:b.Order<=4
  ·by_cases m:r.aE<=b.At
   ·by_cases n:b.At<r.To
    ·have q:=bP i j
     have e:b.At.tmod (pw b.Order)≠0:=by
      rw[Pv Y];exact λl=>h ⟨i,j,m,n,l⟩
     repeat'(first|refine Wz ?_|refine fq ?_|(refine SW.st (fO (r:=pw b.Order) Z Z Y Y (by simp[pw]) Y Y) Z ?_)|(refine SW.br λg a=>?_;obtain⟨c,d,f⟩:=aY a c d f))
     exact ah.aF Z Z ⟨_,Z,c,by simp[e]⟩
    repeat'(first|refine Wz ?_|refine fq ?_|(refine SW.br λg a=>?_;obtain⟨c,d,f⟩:=aY a c d f))
    exact ah.aF Z Z ⟨_,Z,c,by simp[*]⟩
   repeat'(first|refine Wz ?_|refine fq ?_|(refine SW.br λg a=>?_;obtain⟨c,d,f⟩:=aY a c d f))
   exact ah.aF Z Z ⟨_,Z,c,by simp[*]⟩
  repeat'(first|refine Wz ?_|refine fq ?_|(refine SW.br λg a=>?_;obtain⟨c,d,f⟩:=aY a c d f))
  exact ah.aF Z Z ⟨_,Z,c,by simp[*]⟩
 repeat'(first|refine Wz ?_|refine fq ?_|(refine SW.br λg a=>?_;obtain⟨c,d,f⟩:=aY a c d f))
 exact ah.aF Z Z ⟨_,Z,c,by simp[*]⟩
theorem ol(b:Block)(w:World)(h:0<=b.Order∧b.Order<=4)(g:0<=b.At∧b.At<=256):aS prog 195 [.agg (aL b).toArray] w λv _=>v=Iv (b.At+pw b.Order):=by
 refine Wj func195 ntmps195 ?_;refine Ww λi e c f d=>?_;have j:=bP h.1 h.2;repeat'(first|refine Wz ?_|refine fq ?_|(refine SW.st (fO (r:=pw b.Order) Z Z Y Y (by simp[pw]) Y Y) Z ?_)|(refine SW.br λe a=>?_;obtain⟨c,d⟩:=bk a c d))
 exact ah.aF Z Z ⟨_,Z,c,Z⟩
theorem sR(r:cM)(a o:Int)(w:World)(l:0<=r.aE∧r.aE<=256)(m:0<=r.To∧r.To<=256):aS prog 179 [.agg (bu r).toArray,Iv a,Iv o] w λv _=>v= .bool (decide (gL r.aE r.To a o)):=by
 refine tV func179 rfl ntmps179 rfl ?_;refine CW.seq (CW.region (SW.box rfl rfl λn i c k d=>?_));by_cases f:0<=o∧o<=4
 ·by_cases j:r.aE<=a∧a<r.To
  ·have p:=bP f.1 f.2;have e:a.tmod (pw o)=a % pw o:=Pv Y;repeat'(first|refine Wz ?_|((first|refine SW.call rfl rfl (bE _ _ _ _) ?_|refine SW.call rfl rfl (dk _ Y _) ?_);intro v i b g;subst g;have c:=c.trans b;have d:=d.ext b))
   all_goals try omega
   refine ah.aF rfl rfl ⟨_,rfl,c,?_⟩;rw[e];simp[gL,f.1,f.2,j.1,j.2]
  repeat'(first|refine Wz ?_|(refine SW.call rfl rfl (bE _ _ _ _) ?_;intro v i b g;subst g;have c:=c.trans b;have d:=d.ext b))
  all_goals try omega
  refine ah.aF rfl rfl ⟨_,rfl,c,?_⟩;rw[decide_eq_false (λh=>j ⟨h.2.2.1,h.2.2.2.1⟩)];try(simp;omega)
 repeat'(first|refine Wz ?_|(refine SW.call rfl rfl (bE _ _ _ _) ?_;intro v i b g;subst g;have c:=c.trans b;have d:=d.ext b))
 all_goals try omega
 refine ah.aF rfl rfl ⟨_,rfl,c,?_⟩;rw[decide_eq_false (λh=>f ⟨h.1,h.2.1⟩)];try(simp;omega)
theorem jA{l:List α}(h:k<l.length)(a:p l[k]=true)(b:∀j(c:j<l.length),j<k->p l[j]=false):idxOf p l=(k:Int):=by
 grind[List.findIdx_eq,List.any_eq_true,List.getElem_mem,idxOf]
theorem iv{l:List α}(c:∀j(a:j<l.length),p l[j]=false):idxOf p l= -1∧l.any p=false:=by
 have e:l.any p=false:=by
  rw[PA];intro x b;obtain⟨j,a,rfl⟩:=Pg b<;>grind
 grind[idxOf]
theorem iN(p:α->Bool)(l:List α):decide (0<=idxOf p l)=l.any p:=by
 unfold idxOf<;>grind
theorem ua(A:Option Addr)(n c:Nat)(l:List Int)(w:World)(b:Sl w 1 aT A n l)(f:FuncId)(cap:List Value)(p:Int->Bool)(d:Int->Value)(e:∀x,d x=(if 1=1 then(aT x)[0]?.getD undef else .agg (aT x).toArray))
 (u:∀x∈l,∀g,Ext w g->aS prog f ([d x]++cap) g λv _=>v= .bool (p x)) (C:n<=9223372036854775807) (D:Body prog f:=by exact j0):
 aS prog 205 [.slice A n c,.func (.func f) #[] cap.toArray] w λv _=>v=Iv (idxOf p l):=by
 refine Wj func205 ntmps205 ?_;have a:=Ext.refl w;have E:=b.base;refine Wz ?_;refine CW.loop (λk:Nat=>[(0,.slice A n c),(1,.func (.func f) #[] cap.toArray),(7,Iv (n:Int)),(8,Iv (k:Int))]) (λk g=>k<=n∧Ext w g∧∀j(o:j<l.length),j<k->p l[j]=false) (λk=>n-k) 0 ⟨rfl,rfl,rfl,rfl,trivial⟩ ⟨by omega,a,λj _ h=>by omega⟩ ?_;rintro k g ⟨y,a,q⟩;by_cases i:k<n
 ·have z:=e (l[k]'(b.lt i));have m:=u (l[k]'(b.lt i)) (Pf _);rw[z]at m;repeat'(first|refine Wz ?_|refine Wn a (b.one i rfl) ?_)
  refine SW.nv rfl rfl rfl (m _ a) λv F r B=>?_;subst B;have a:=a.trans r;cases t:p (l[k]'(b.lt i))
  ·refine Wz ?_;refine ah.again (k+1) ⟨Z,Z,Z,Z,trivial⟩ Y ⟨by omega,a,λj o h=>?_⟩;by_cases s:j=k
   ·subst s;exact t
   exact q j o Y
  refine Wz ?_;exact ah.aF Z Z ⟨_,Z,a,by rw[jA (b.lt i) t q]⟩
 refine Wz ?_;exact ah.aF Z Z ⟨_,Z,a,by rw[(iv (λj o=>q j o (by have:=b.len;omega))).1]⟩
theorem iJ(A:Option Addr)(n c:Nat)(l:List Int)(w:World)(i:Sl w 1 aT A n l)(f:FuncId)(cap:List Value)(p:Int->Bool)(a:Int->Value)(b:∀x,a x=(if 1=1 then(aT x)[0]?.getD undef else .agg (aT x).toArray))
 (j:∀x∈l,∀g,Ext w g->aS prog f ([a x]++cap) g λv _=>v= .bool (p x)) (k:n<=9223372036854775807) (q:Body prog f:=by exact j0):
 aS prog 141 [.slice A n c,.func (.func f) #[] cap.toArray] w λv _=>v= .bool (l.any p):=by
 refine Wj func141 ntmps141 ?_;have d:=Ext.refl w;repeat'(first|refine Wz ?_|(refine Wc (ua _ _ _ _ _ (i.ext d) f cap p a b (λx m h o=>j x m h (d.trans o)) k) λh e=>?_;have d:=d.trans e))
 exact ah.aF rfl rfl ⟨_,rfl,d,by rw[iN]⟩
theorem mM(A:Option Addr)(n c:Nat)(l:List Block)(w:World)(b:Sl w 3 aL A n l)(f:FuncId)(cap:List Value)(p:Block->Bool)(d:Block->Value)(e:∀x,d x=(if 3=1 then(aL x)[0]?.getD undef else .agg (aL x).toArray))
 (u:∀x∈l,∀g,Ext w g->aS prog f ([d x]++cap) g λv _=>v= .bool (p x)) (C:n<=9223372036854775807) (D:Body prog f:=by exact j0):
 aS prog 219 [.slice A n c,.func (.func f) #[] cap.toArray] w λv _=>v=Iv (idxOf p l):=by
 refine Wj func219 ntmps219 ?_;have a:=Ext.refl w;have E:=b.base;refine Wz ?_;refine CW.loop (λk:Nat=>[(0,.slice A n c),(1,.func (.func f) #[] cap.toArray),(7,Iv (n:Int)),(8,Iv (k:Int))]) (λk g=>k<=n∧Ext w g∧∀j(o:j<l.length),j<k->p l[j]=false) (λk=>n-k) 0 ⟨rfl,rfl,rfl,rfl,trivial⟩ ⟨by omega,a,λj _ h=>by omega⟩ ?_;rintro k g ⟨y,a,q⟩;by_cases i:k<n
 ·have z:=e (l[k]'(b.lt i));have m:=u (l[k]'(b.lt i)) (Pf _);rw[z]at m;repeat'(first|refine Wz ?_|refine Wo a ((b.all i)) ?_)
  refine SW.nv rfl rfl rfl (m _ a) λv F r B=>?_;subst B;have a:=a.trans r;cases t:p (l[k]'(b.lt i))
  ·refine Wz ?_;refine ah.again (k+1) ⟨Z,Z,Z,Z,trivial⟩ Y ⟨by omega,a,λj o h=>?_⟩;by_cases s:j=k
   ·subst s;exact t
   exact q j o Y
  refine Wz ?_;exact ah.aF Z Z ⟨_,Z,a,by rw[jA (b.lt i) t q]⟩
 refine Wz ?_;exact ah.aF Z Z ⟨_,Z,a,by rw[(iv (λj o=>q j o (by have:=b.len;omega))).1]⟩
theorem k6(A:Option Addr)(n c:Nat)(l:List Block)(w:World)(i:Sl w 3 aL A n l)(f:FuncId)(cap:List Value)(p:Block->Bool)(a:Block->Value)(b:∀x,a x=(if 3=1 then(aL x)[0]?.getD undef else .agg (aL x).toArray))
 (j:∀x∈l,∀g,Ext w g->aS prog f ([a x]++cap) g λv _=>v= .bool (p x)) (k:n<=9223372036854775807) (q:Body prog f:=by exact j0):
 aS prog 175 [.slice A n c,.func (.func f) #[] cap.toArray] w λv _=>v= .bool (l.any p):=by
 refine Wj func175 ntmps175 ?_;have d:=Ext.refl w;repeat'(first|refine Wz ?_|(refine Wc (mM _ _ _ _ _ (i.ext d) f cap p a b (λx m h o=>j x m h (d.trans o)) k) λh e=>?_;have d:=d.trans e))
 exact ah.aF rfl rfl ⟨_,rfl,d,by rw[iN]⟩
end Go.Proofs.YtdlfabkacdgneaaGreatDoor
