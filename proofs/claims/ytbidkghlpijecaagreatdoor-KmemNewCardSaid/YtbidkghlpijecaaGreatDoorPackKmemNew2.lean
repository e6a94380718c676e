/-
  Texts of the claim KmemNew, part 2: what its theorem leans on.
-/
import Derived.Test.YtbidkghlpijecaaGreatDoorPackKmemNew1
import Derived.Lib.ConvBytes
import Derived.Laws.Strings
import Derived.Test.YtbidkghlpijecaaGreatDoorChecked
set_option linter.unusedVariables false
set_option linter.unusedSimpArgs false
namespace Go.Proofs.YtbidkghlpijecaaGreatDoor
open Go.RowKit
def lessS (a b:ByteArray) : Bool:=Op.bytesLess a.toList b.toList
theorem bytes_irrefl:∀ x:List UInt8,Op.bytesLess x x=false
 | []=>rfl
 | a::x=>by simp [Op.bytesLess,bytes_irrefl x]
theorem bytes_tri:∀ x y:List UInt8,Op.bytesLess x y=(!(Op.bytesLess y x || decide (x=y)))
 | [],[]=>by simp [Op.bytesLess]
 | [],_::_=>by simp [Op.bytesLess]
 | _::_,[]=>by simp [Op.bytesLess]
 | a::x,b::y=>by
   have ih:=bytes_tri x y
   simp only [Op.bytesLess,List.cons.injEq]
   rcases Nat.lt_trichotomy a.toNat b.toNat with h|h|h
   ·have h1:a<b:=h
    have h2 : ¬ b<a:=fun e=>by have:b.toNat<a.toNat:=e;omega
    have h3 : ¬ a=b:=fun e=>by subst e;omega
    have h4 : ¬ b=a:=fun e=>h3 e.symm
    simp [h1,h2,h3,h4]
   ·have h3:a=b:=UInt8.toNat_inj.1 h
    subst h3
    have h1 : ¬ a<a:=fun e=>by have:a.toNat<a.toNat:=e;omega
    simp [h1,ih]
   ·have h1:b<a:=h
    have h2 : ¬ a<b:=fun e=>by have:a.toNat<b.toNat:=e;omega
    have h3 : ¬ a=b:=fun e=>by subst e;omega
    have h4 : ¬ b=a:=fun e=>h3 e.symm
    simp [h1,h2,h3]
theorem bytes_trans:∀ x y z:List UInt8,Op.bytesLess x y=true→Op.bytesLess y z=true→Op.bytesLess x z=true
 | _,[],_,h,_=>by simp [Op.bytesLess] at h
 | _,_::_,[],_,h=>by simp [Op.bytesLess] at h
 | [],_::_,_::_,_,_=>by simp [Op.bytesLess]
 | a::x,b::y,c::z,h,k=>by
   simp only [Op.bytesLess,Bool.or_eq_true,decide_eq_true_eq,Bool.and_eq_true,beq_iff_eq] at h k ⊢
   rcases h with h|⟨rfl,h⟩<;>rcases k with k|⟨rfl,k⟩
   ·have h':a.toNat<b.toNat:=h
    have k':b.toNat<c.toNat:=k
    exact .inl (show a.toNat<c.toNat by omega)
   ·exact .inl h
   ·exact .inl k
   ·exact .inr ⟨rfl,bytes_trans x y z h k⟩
theorem bytesEq (a b:ByteArray) : (a.toList == b.toList)=decide (a=b):=by
 by_cases h:a=b
 ·subst h;simp
 ·have : ¬ a.toList=b.toList:=fun e=>h (by
   have e1:=congrArg (fun l:List UInt8=>ByteArray.mk l.toArray) e
   simp only [ByteArray.toList_eq] at e1
   cases a;cases b;simpa using e1)
  simp [h,this]
theorem lessS_irrefl (a:ByteArray) : lessS a a=false:=bytes_irrefl _
theorem lessS_trans {a b c:ByteArray} (h:lessS a b=true) (k:lessS b c=true) : lessS a c=true:=bytes_trans _ _ _ h k
theorem lessS_tri (a b:ByteArray) : lessS a b = !(lessS b a || decide (a=b)):=by
 unfold lessS
 rw [bytes_tri]
 have:decide (a.toList=b.toList)=decide (a=b):=by rw [← bytesEq];exact (Bool.beq_eq_decide_eq _ _).symm
 rw [this]
class StrTy (P:Program) (t:TypeId) : Prop where
 und:P.underlying t=some .string
def encU (b:UInt8) : List Value:=[.int .u8 b.toNat]
section
variable {P:Program} {L:Env} {w:World} {d:Option Nat} {T:TypeId} {pos:String} {af:Array Edge} {g:Option (Nat×Bool)}
theorem st_eqStr {t ty:TypeId} {x y:Operand} {a b:ByteArray} (hx:opv L x=some (.string a)) (hy:opv L y=some (.string b)) : St P ⟨d,.binOp .eql t x y ty,T,pos,af,g⟩ L w (.bool (decide (a=b))) :=
 ⟨fun _ A hA w' _=>by
  have e1:=hA.eval hx
  have e2:=hA.eval hy
  generalize A.eval = ρ at *
  have h1:(binOp .eql t (.string a) (.string b)).run P w' = .ok (.bool (decide (a=b))) w':=by
   have:binOp .eql t (.string a) (.string b)=Op.stringOp .eql a b:=by simp [binOp]
   rw [this,← bytesEq]
   simp [Op.stringOp,pure]
  simp [execOp,e1,e2,eqGuard,h1]⟩
theorem st_geStr {t ty:TypeId} {x y:Operand} {a b:ByteArray} (hx:opv L x=some (.string a)) (hy:opv L y=some (.string b)) : St P ⟨d,.binOp .geq t x y ty,T,pos,af,g⟩ L w (.bool (!lessS a b)) :=
 ⟨fun _ A hA w' _=>by
  have e1:=hA.eval hx
  have e2:=hA.eval hy
  generalize A.eval = ρ at *
  have h1:(binOp .geq t (.string a) (.string b)).run P w' = .ok (.bool (!lessS a b)) w':=by
   have:binOp .geq t (.string a) (.string b)=Op.stringOp .geq a b:=by simp [binOp]
   rw [this]
   simp [Op.stringOp,pure,lessS]
  simp [execOp,e1,e2,eqGuard,h1]⟩
theorem st_leStr {t ty:TypeId} {x y:Operand} {a b:ByteArray} (hx:opv L x=some (.string a)) (hy:opv L y=some (.string b)) : St P ⟨d,.binOp .leq t x y ty,T,pos,af,g⟩ L w (.bool (!lessS b a)) :=
 ⟨fun _ A hA w' _=>by
  have e1:=hA.eval hx
  have e2:=hA.eval hy
  generalize A.eval = ρ at *
  have h1:(binOp .leq t (.string a) (.string b)).run P w' = .ok (.bool (!lessS b a)) w':=by
   have:binOp .leq t (.string a) (.string b)=Op.stringOp .leq a b:=by simp [binOp]
   rw [this,lessS_tri b a]
   have e:decide (b=a)=decide (a=b):=by simp [eq_comm]
   rw [e,← bytesEq]
   simp [Op.stringOp,pure,lessS]
  simp [execOp,e1,e2,eqGuard,h1]⟩
theorem st_ltStr {t ty:TypeId} {x y:Operand} {a b:ByteArray} (hx:opv L x=some (.string a)) (hy:opv L y=some (.string b)) : St P ⟨d,.binOp .lss t x y ty,T,pos,af,g⟩ L w (.bool (lessS a b)) :=
 ⟨fun _ A hA w' _=>by
  have e1:=hA.eval hx
  have e2:=hA.eval hy
  generalize A.eval = ρ at *
  have h1:(binOp .lss t (.string a) (.string b)).run P w' = .ok (.bool (lessS a b)) w':=by
   have:binOp .lss t (.string a) (.string b)=Op.stringOp .lss a b:=by simp [binOp]
   rw [this]
   simp [Op.stringOp,pure,lessS]
  simp [execOp,e1,e2,eqGuard,h1]⟩
theorem st_neStr' {t ty:TypeId} {x y:Operand} {a b:ByteArray} (hx:opv L x=some (.string a)) (hy:opv L y=some (.string b)) : St P ⟨d,.binOp .neq t x y ty,T,pos,af,g⟩ L w (.bool (decide (a≠b))) :=
 ⟨fun _ A hA w' _=>by
  have e1:=hA.eval hx
  have e2:=hA.eval hy
  generalize A.eval = ρ at *
  have h1:(binOp .neq t (.string a) (.string b)).run P w' = .ok (.bool (decide (a≠b))) w':=by
   have:binOp .neq t (.string a) (.string b)=Op.stringOp .neq a b:=by simp [binOp]
   rw [this]
   have e:decide (a≠b) = !(a.toList == b.toList):=by rw [bytesEq];simp
   rw [e]
   simp [Op.stringOp,pure]
  simp [execOp,e1,e2,eqGuard,h1]⟩
theorem st_lenS {t:TypeId} [c:StrTy P t] {x:Operand} {s:ByteArray} (hx:opv L x=some (.string s)) :
 St P ⟨d,.call ⟨.builtin .len,#[x],#[t]⟩,T,pos,af,g⟩ L w (.int .i64 (s.size:Int)) :=
 ⟨fun _ a ha w' _=>by simp [execOp,resolve,invoke,builtin,ha.eval hx,Builtin.len_,run_underlying c.und,goInt]⟩
theorem st_idxS {t:TypeId} [c:StrTy P t] {x y:Operand} {s:ByteArray} {i:Int} (k:Nat) (hx:opv L x=some (.string s)) (hy:opv L y=some (.int .i64 i)) (hi:i=(k:Int)) (hk:k<s.size) :
 St P ⟨d,.index t x y,T,pos,af,g⟩ L w (.int .u8 (s[k]'hk).toNat) :=
 ⟨fun _ a ha w' _=>by
  subst hi
  have e1:=ha.eval hx;have e2:=ha.eval hy;generalize a.eval = ρ at *
  have:=run_index_string (P:=P) w' t s .i64 (k:Int) c.und
  rw [dif_pos ⟨by omega,by omega⟩] at this
  simp [execOp,e1,e2,this]⟩
end
section
variable {P:Program} {n:Nat} {ops:Array Oper} {Q:Exit→Act→World→Prop} {rest:List Oper} {L:Env} {w:World} {T:TypeId} {pos:String} {af:Array Edge}
theorem SW.convBytes {d:Nat} {src dst e:TypeId} [S:StrTy P src] [D:SliceTy P dst e 1] (he:P.underlying e=some (.int .u8)) {x:Operand} {s:ByteArray} (hx:opv L x=some (.string s)) (hn:Nat.blt d n=true)
 (h:∀ b c w',Ext w w'→w.heap.size≤b→Sl w' 1 encU (some ⟨b,0,none⟩) s.size s.data.toList→SW P n ops (.eff Q) rest ((d,.slice (some ⟨b,0,none⟩) s.size c)::L) w') :
 SW P n ops (.eff Q) (⟨some d,.convert src dst x,T,pos,af,none⟩::rest) L w :=
 ⟨fun a ha=>by
  simp only [swp,wpList,Region.wanted,if_true]
  refine .inl ?_
  unfold Oper.wp
  have hr:=Lib.run_convert_string_bytes (P:=P) w src dst e s S.und D.und he
  have:(execOp a.eval ⟨some d,.convert src dst x,T,pos,af,none⟩).run P w = .ok (.value (.slice (some ⟨w.heap.size,0,none⟩) s.size (grownCap w s.size 0 e))) (Lib.bytesWorld w e s):=by
   simp [execOp,ha.eval hx,hr]
  rw [this,Oper.upon_value]
  have hE:Ext w (Lib.bytesWorld w e s):=⟨rfl,rfl,rfl,by rw [Lib.bytesWorld_size];omega,fun j hj=>Lib.bytesWorld_at_old w e s j hj⟩
  refine (h _ _ _ hE (Nat.le_refl _) ⟨?_,fun _=>rfl,fun i hi j u hu => ?_⟩).out _ (ha.put hn _)
  ·exact Array.length_toList
  ·have hi':i<s.size:=by rw [Array.length_toList] at hi;exact hi
   have:=Lib.bytesWorld_cell w e s i hi'
   match j,hu with
   | 0,hu =>
     simp only [encU,List.getElem?_cons_zero,Option.some.injEq] at hu
     rw [add_zero]
     have e2:(((some (⟨w.heap.size,0,none⟩ : Addr)).getD default).add (i*1))=⟨w.heap.size,i,none⟩:=by
      simp only [Option.getD_some,Nat.mul_one]
      unfold Addr.add
      split<;>simp_all
     rw [e2,this,← hu]
     have e3:s.data.toList.getD i 0=s.data.toList[i]:=by simp [List.getD,hi']
     rw [e3]
   | j+1,hu=>simp [encU] at hu⟩
end
instance:OneTy Tryz.prog 3:=⟨by kernel_rfl,by kernel_rfl⟩
instance:ElemTy Tryz.prog 3 (.int .i64 0) 1 8:=⟨by kernel_rfl,by kernel_rfl,by decide⟩
instance:OneTy Tryz.prog 4:=⟨by kernel_rfl,by kernel_rfl⟩
instance:ElemTy Tryz.prog 4 (.bool false) 1 1:=⟨by kernel_rfl,by kernel_rfl,by decide⟩
instance:OneTy Tryz.prog 5:=⟨by kernel_rfl,by kernel_rfl⟩
instance:OneTy Tryz.prog 9:=⟨by kernel_rfl,by kernel_rfl⟩
instance:ElemTy Tryz.prog 9 (.string ByteArray.empty) 1 16:=⟨by kernel_rfl,by kernel_rfl,by decide⟩
instance:OneTy Tryz.prog 25:=⟨by kernel_rfl,by kernel_rfl⟩
instance:SliceTy Tryz.prog 25 123 2:=⟨by kernel_rfl,by kernel_rfl⟩
instance:AggTy Tryz.prog 27 2:=⟨by kernel_rfl,by kernel_rfl⟩
instance:BuildTy Tryz.prog 27 [(0,1),(1,1)] [.slice none 0 0,.slice none 0 0]:=⟨by kernel_rfl,by kernel_rfl⟩
instance:FieldOf Tryz.prog 27 0 0 25:=⟨by kernel_rfl,by kernel_rfl⟩
instance:FieldOf Tryz.prog 27 1 1 25:=⟨by kernel_rfl,by kernel_rfl⟩
instance:AggTy Tryz.prog 29 5:=⟨by kernel_rfl,by kernel_rfl⟩
instance:FieldOf Tryz.prog 29 0 0 27:=⟨by kernel_rfl,by kernel_rfl⟩
instance:FieldOf Tryz.prog 29 1 2 3:=⟨by kernel_rfl,by kernel_rfl⟩
instance:FieldOf Tryz.prog 29 2 3 3:=⟨by kernel_rfl,by kernel_rfl⟩
instance:FieldOf Tryz.prog 29 3 4 3:=⟨by kernel_rfl,by kernel_rfl⟩
instance:OneTy Tryz.prog 36:=⟨by kernel_rfl,by kernel_rfl⟩
instance:SliceTy Tryz.prog 36 3 1:=⟨by kernel_rfl,by kernel_rfl⟩
instance:OneTy Tryz.prog 37:=⟨by kernel_rfl,by kernel_rfl⟩
instance:SliceTy Tryz.prog 37 139 4:=⟨by kernel_rfl,by kernel_rfl⟩
instance:OneTy Tryz.prog 38:=⟨by kernel_rfl,by kernel_rfl⟩
instance:SliceTy Tryz.prog 38 142 4:=⟨by kernel_rfl,by kernel_rfl⟩
instance:OneTy Tryz.prog 39:=⟨by kernel_rfl,by kernel_rfl⟩
instance:ElemTy Tryz.prog 39 (.slice none 0 0) 1 24:=⟨by kernel_rfl,by kernel_rfl,by decide⟩
instance:SliceTy Tryz.prog 39 165 3:=⟨by kernel_rfl,by kernel_rfl⟩
instance:ElemTy Tryz.prog 41 (.agg #[.slice none 0 0,.slice none 0 0,.int .i64 0,.slice none 0 0,.slice none 0 0]) 5 104:=⟨by kernel_rfl,by kernel_rfl,by decide⟩
instance:AggTy Tryz.prog 41 5:=⟨by kernel_rfl,by kernel_rfl⟩
instance:BuildTy Tryz.prog 41 [(0,1),(1,1),(2,1),(3,1),(4,1)] [.slice none 0 0,.slice none 0 0,.int .i64 0,.slice none 0 0,.slice none 0 0]:=⟨by kernel_rfl,by kernel_rfl⟩
instance:FieldOf Tryz.prog 41 0 0 37:=⟨by kernel_rfl,by kernel_rfl⟩
instance:FieldOf Tryz.prog 41 1 1 36:=⟨by kernel_rfl,by kernel_rfl⟩
instance:FieldOf Tryz.prog 41 2 2 3:=⟨by kernel_rfl,by kernel_rfl⟩
instance:FieldOf Tryz.prog 41 3 3 38:=⟨by kernel_rfl,by kernel_rfl⟩
instance:FieldOf Tryz.prog 41 4 4 39:=⟨by kernel_rfl,by kernel_rfl⟩
instance:OneTy Tryz.prog 42:=⟨by kernel_rfl,by kernel_rfl⟩
instance:SliceTy Tryz.prog 42 89 6:=⟨by kernel_rfl,by kernel_rfl⟩
instance:ElemTy Tryz.prog 44 (.agg #[.slice none 0 0,.slice none 0 0,.slice none 0 0,.int .i64 0,.slice none 0 0,.slice none 0 0,.slice none 0 0]) 7 152:=⟨by kernel_rfl,by kernel_rfl,by decide⟩
instance:AggTy Tryz.prog 44 7:=⟨by kernel_rfl,by kernel_rfl⟩
instance:BuildTy Tryz.prog 44 [(0,1),(1,5),(6,1)] [.slice none 0 0,.slice none 0 0,.slice none 0 0,.int .i64 0,.slice none 0 0,.slice none 0 0,.slice none 0 0]:=⟨by kernel_rfl,by kernel_rfl⟩
instance:FieldOf Tryz.prog 44 0 0 36:=⟨by kernel_rfl,by kernel_rfl⟩
instance:FieldOf Tryz.prog 44 1 1 41:=⟨by kernel_rfl,by kernel_rfl⟩
instance:FieldOf Tryz.prog 44 2 6 42:=⟨by kernel_rfl,by kernel_rfl⟩
instance:OneTy Tryz.prog 61:=⟨by kernel_rfl,by kernel_rfl⟩
instance:SliceTy Tryz.prog 61 9 1:=⟨by kernel_rfl,by kernel_rfl⟩
instance:OneTy Tryz.prog 87:=⟨by kernel_rfl,by kernel_rfl⟩
instance:SliceTy Tryz.prog 87 91 3:=⟨by kernel_rfl,by kernel_rfl⟩
instance:ElemTy Tryz.prog 89 (.agg #[.slice none 0 0,.int .i64 0,.int .i64 0,.int .i64 0,.slice none 0 0,.slice none 0 0]) 6 96:=⟨by kernel_rfl,by kernel_rfl,by decide⟩
instance:AggTy Tryz.prog 89 6:=⟨by kernel_rfl,by kernel_rfl⟩
instance:BuildTy Tryz.prog 89 [(0,1),(1,1),(2,1),(3,1),(4,1),(5,1)] [.slice none 0 0,.int .i64 0,.int .i64 0,.int .i64 0,.slice none 0 0,.slice none 0 0]:=⟨by kernel_rfl,by kernel_rfl⟩
instance:FieldOf Tryz.prog 89 0 0 61:=⟨by kernel_rfl,by kernel_rfl⟩
instance:FieldOf Tryz.prog 89 1 1 3:=⟨by kernel_rfl,by kernel_rfl⟩
instance:FieldOf Tryz.prog 89 2 2 3:=⟨by kernel_rfl,by kernel_rfl⟩
instance:FieldOf Tryz.prog 89 3 3 3:=⟨by kernel_rfl,by kernel_rfl⟩
instance:FieldOf Tryz.prog 89 4 4 87:=⟨by kernel_rfl,by kernel_rfl⟩
instance:FieldOf Tryz.prog 89 5 5 36:=⟨by kernel_rfl,by kernel_rfl⟩
instance:ElemTy Tryz.prog 91 (.agg #[.int .i64 0,.int .i64 0,.int .i64 0]) 3 24:=⟨by kernel_rfl,by kernel_rfl,by decide⟩
instance:AggTy Tryz.prog 91 3:=⟨by kernel_rfl,by kernel_rfl⟩
instance:IntsTy Tryz.prog 91 3:=⟨by kernel_rfl,by kernel_rfl,by kernel_rfl,by kernel_rfl⟩
instance:FieldOf Tryz.prog 91 0 0 3:=⟨by kernel_rfl,by kernel_rfl⟩
instance:FieldOf Tryz.prog 91 1 1 3:=⟨by kernel_rfl,by kernel_rfl⟩
instance:FieldOf Tryz.prog 91 2 2 3:=⟨by kernel_rfl,by kernel_rfl⟩
instance:ArrTy Tryz.prog 111 6 3 1:=⟨by kernel_rfl,by kernel_rfl⟩
instance:AggTy Tryz.prog 111 6:=⟨by kernel_rfl,by kernel_rfl⟩
instance:ElemTy Tryz.prog 123 (.agg #[.int .i64 0,.int .i64 0]) 2 16:=⟨by kernel_rfl,by kernel_rfl,by decide⟩
instance:AggTy Tryz.prog 123 2:=⟨by kernel_rfl,by kernel_rfl⟩
instance:BuildTy Tryz.prog 123 [(0,1),(1,1)] [.int .i64 0,.int .i64 0]:=⟨by kernel_rfl,by kernel_rfl⟩
instance:FieldOf Tryz.prog 123 0 0 3:=⟨by kernel_rfl,by kernel_rfl⟩
instance:FieldOf Tryz.prog 123 1 1 3:=⟨by kernel_rfl,by kernel_rfl⟩
instance:ElemTy Tryz.prog 139 (.agg #[.int .i64 0,.int .i64 0,.slice none 0 0,.slice none 0 0]) 4 64:=⟨by kernel_rfl,by kernel_rfl,by decide⟩
instance:AggTy Tryz.prog 139 4:=⟨by kernel_rfl,by kernel_rfl⟩
instance:BuildTy Tryz.prog 139 [(0,1),(1,1),(2,1),(3,1)] [.int .i64 0,.int .i64 0,.slice none 0 0,.slice none 0 0]:=⟨by kernel_rfl,by kernel_rfl⟩
instance:FieldOf Tryz.prog 139 0 0 3:=⟨by kernel_rfl,by kernel_rfl⟩
instance:FieldOf Tryz.prog 139 1 1 3:=⟨by kernel_rfl,by kernel_rfl⟩
instance:FieldOf Tryz.prog 139 2 2 39:=⟨by kernel_rfl,by kernel_rfl⟩
instance:FieldOf Tryz.prog 139 3 3 36:=⟨by kernel_rfl,by kernel_rfl⟩
instance:ElemTy Tryz.prog 142 (.agg #[.int .i64 0,.int .i64 0,.int .i64 0,.slice none 0 0]) 4 48:=⟨by kernel_rfl,by kernel_rfl,by decide⟩
instance:AggTy Tryz.prog 142 4:=⟨by kernel_rfl,by kernel_rfl⟩
instance:FieldOf Tryz.prog 142 0 0 3:=⟨by kernel_rfl,by kernel_rfl⟩
instance:FieldOf Tryz.prog 142 1 1 3:=⟨by kernel_rfl,by kernel_rfl⟩
instance:FieldOf Tryz.prog 142 2 2 3:=⟨by kernel_rfl,by kernel_rfl⟩
instance:FieldOf Tryz.prog 142 3 3 36:=⟨by kernel_rfl,by kernel_rfl⟩
instance:ElemTy Tryz.prog 165 (.agg #[.int .i64 0,.int .i64 0,.int .i64 0]) 3 24:=⟨by kernel_rfl,by kernel_rfl,by decide⟩
instance:AggTy Tryz.prog 165 3:=⟨by kernel_rfl,by kernel_rfl⟩
instance:BuildTy Tryz.prog 165 [(0,1),(1,1),(2,1)] [.int .i64 0,.int .i64 0,.int .i64 0]:=⟨by kernel_rfl,by kernel_rfl⟩
instance:IntsTy Tryz.prog 165 3:=⟨by kernel_rfl,by kernel_rfl,by kernel_rfl,by kernel_rfl⟩
instance:FieldOf Tryz.prog 165 0 0 3:=⟨by kernel_rfl,by kernel_rfl⟩
instance:FieldOf Tryz.prog 165 1 1 3:=⟨by kernel_rfl,by kernel_rfl⟩
instance:FieldOf Tryz.prog 165 2 2 3:=⟨by kernel_rfl,by kernel_rfl⟩
instance:SliceTy Tryz.prog 189 4 1:=⟨by kernel_rfl,by kernel_rfl⟩
instance:ArrTy Tryz.prog 222 256 4 1:=⟨by kernel_rfl,by kernel_rfl⟩
instance:BuildTy Tryz.prog 224 [(0,256),(256,1)] [.bool false,.bool false,.bool false,.bool false,.bool false,.bool false,.bool false,.bool false,.bool false,.bool false,.bool false,.bool false,.bool false,.bool false,.bool false,.bool false,.bool false,.bool false,.bool false,.bool false,.bool false,.bool false,.bool false,.bool false,.bool false,.bool false,.bool false,.bool false,.bool false,.bool false,.bool false,.bool false,.bool false,.bool false,.bool false,.bool false,.bool false,.bool false,.bool false,.bool false,.bool false,.bool false,.bool false,.bool false,.bool false,.bool false,.bool false,.bool false,.bool false,.bool false,.bool false,.bool false,.bool false,.bool false,.bool false,.bool false,.bool false,.bool false,.bool false,.bool false,.bool false,.bool false,.bool false,.bool false,.bool false,.bool false,.bool false,.bool false,.bool false,.bool false,.bool false,.bool false,.bool false,.bool false,.bool false,.bool false,.bool false,.bool false,.bool false,.bool false,.bool false,.bool false,.bool false,.bool false,.bool false,.bool false,.bool false,.bool false,.bool false,.bool false,.bool false,.bool false,.bool false,.bool false,.bool false,.bool false,.bool false,.bool false,.bool false,.bool false,.bool false,.bool false,.bool false,.bool false,.bool false,.bool false,.bool false,.bool false,.bool false,.bool false,.bool false,.bool false,.bool false,.bool false,.bool false,.bool false,.bool false,.bool false,.bool false,.bool false,.bool false,.bool false,.bool false,.bool false,.bool false,.bool false,.bool false,.bool false,.bool false,.bool false,.bool false,.bool false,.bool false,.bool false,.bool false,.bool false,.bool false,.bool false,.bool false,.bool false,.bool false,.bool false,.bool false,.bool false,.bool false,.bool false,.bool false,.bool false,.bool false,.bool false,.bool false,.bool false,.bool false,.bool false,.bool false,.bool false,.bool false,.bool false,.bool false,.bool false,.bool false,.bool false,.bool false,.bool false,.bool false,.bool false,.bool false,.bool false,.bool false,.bool false,.bool false,.bool false,.bool false,.bool false,.bool false,.bool false,.bool false,.bool false,.bool false,.bool false,.bool false,.bool false,.bool false,.bool false,.bool false,.bool false,.bool false,.bool false,.bool false,.bool false,.bool false,.bool false,.bool false,.bool false,.bool false,.bool false,.bool false,.bool false,.bool false,.bool false,.bool false,.bool false,.bool false,.bool false,.bool false,.bool false,.bool false,.bool false,.bool false,.bool false,.bool false,.bool false,.bool false,.bool false,.bool false,.bool false,.bool false,.bool false,.bool false,.bool false,.bool false,.bool false,.bool false,.bool false,.bool false,.bool false,.bool false,.bool false,.bool false,.bool false,.bool false,.bool false,.bool false,.bool false,.bool false,.bool false,.bool false,.bool false,.bool false,.bool false,.bool false,.bool false,.bool false,.bool false,.bool false,.bool false,.bool false,.bool false,.bool false,.bool false,.bool false,.bool false,.bool false,.bool false,.bool false,.bool false,.bool false]:=⟨by kernel_rfl,by kernel_rfl⟩
instance:FieldOf Tryz.prog 224 0 0 222:=⟨by kernel_rfl,by kernel_rfl⟩
instance:FieldOf Tryz.prog 224 1 256 4:=⟨by kernel_rfl,by kernel_rfl⟩
instance:SliceTy Tryz.prog 229 5 1:=⟨by kernel_rfl,by kernel_rfl⟩
instance:Body Tryz.prog 20:=body_of Tryz.func20 (by kernel_rfl) (by kernel_rfl)
instance:Body Tryz.prog 23:=body_of Tryz.func23 (by kernel_rfl) (by kernel_rfl)
instance:Body Tryz.prog 24:=body_of Tryz.func24 (by kernel_rfl) (by kernel_rfl)
instance:Body Tryz.prog 25:=body_of Tryz.func25 (by kernel_rfl) (by kernel_rfl)
instance:Body Tryz.prog 36:=body_of Tryz.func36 (by kernel_rfl) (by kernel_rfl)
instance:Body Tryz.prog 39:=body_of Tryz.func39 (by kernel_rfl) (by kernel_rfl)
instance:Body Tryz.prog 40:=body_of Tryz.func40 (by kernel_rfl) (by kernel_rfl)
instance:Body Tryz.prog 41:=body_of Tryz.func41 (by kernel_rfl) (by kernel_rfl)
instance:Body Tryz.prog 47:=body_of Tryz.func47 (by kernel_rfl) (by kernel_rfl)
instance:Body Tryz.prog 48:=body_of Tryz.func48 (by kernel_rfl) (by kernel_rfl)
instance:Body Tryz.prog 53:=body_of Tryz.func53 (by kernel_rfl) (by kernel_rfl)
instance:Body Tryz.prog 54:=body_of Tryz.func54 (by kernel_rfl) (by kernel_rfl)
instance:Body Tryz.prog 55:=body_of Tryz.func55 (by kernel_rfl) (by kernel_rfl)
instance:Body Tryz.prog 56:=body_of Tryz.func56 (by kernel_rfl) (by kernel_rfl)
instance:Body Tryz.prog 57:=body_of Tryz.func57 (by kernel_rfl) (by kernel_rfl)
instance:Body Tryz.prog 58:=body_of Tryz.func58 (by kernel_rfl) (by kernel_rfl)
instance:Body Tryz.prog 59:=body_of Tryz.func59 (by kernel_rfl) (by kernel_rfl)
instance:Body Tryz.prog 60:=body_of Tryz.func60 (by kernel_rfl) (by kernel_rfl)
instance:Body Tryz.prog 61:=body_of Tryz.func61 (by kernel_rfl) (by kernel_rfl)
instance:Body Tryz.prog 62:=body_of Tryz.func62 (by kernel_rfl) (by kernel_rfl)
instance:Body Tryz.prog 63:=body_of Tryz.func63 (by kernel_rfl) (by kernel_rfl)
instance:Body Tryz.prog 64:=body_of Tryz.func64 (by kernel_rfl) (by kernel_rfl)
instance:Body Tryz.prog 69:=body_of Tryz.func69 (by kernel_rfl) (by kernel_rfl)
instance:Body Tryz.prog 82:=body_of Tryz.func82 (by kernel_rfl) (by kernel_rfl)
instance:Body Tryz.prog 83:=body_of Tryz.func83 (by kernel_rfl) (by kernel_rfl)
instance:Body Tryz.prog 84:=body_of Tryz.func84 (by kernel_rfl) (by kernel_rfl)
instance:Body Tryz.prog 85:=body_of Tryz.func85 (by kernel_rfl) (by kernel_rfl)
instance:Body Tryz.prog 86:=body_of Tryz.func86 (by kernel_rfl) (by kernel_rfl)
instance:Body Tryz.prog 87:=body_of Tryz.func87 (by kernel_rfl) (by kernel_rfl)
instance:Body Tryz.prog 88:=body_of Tryz.func88 (by kernel_rfl) (by kernel_rfl)
instance:Body Tryz.prog 89:=body_of Tryz.func89 (by kernel_rfl) (by kernel_rfl)
instance:Body Tryz.prog 90:=body_of Tryz.func90 (by kernel_rfl) (by kernel_rfl)
instance:Body Tryz.prog 91:=body_of Tryz.func91 (by kernel_rfl) (by kernel_rfl)
instance:Body Tryz.prog 92:=body_of Tryz.func92 (by kernel_rfl) (by kernel_rfl)
instance:Body Tryz.prog 93:=body_of Tryz.func93 (by kernel_rfl) (by kernel_rfl)
instance:Body Tryz.prog 94:=body_of Tryz.func94 (by kernel_rfl) (by kernel_rfl)
instance:Body Tryz.prog 95:=body_of Tryz.func95 (by kernel_rfl) (by kernel_rfl)
instance:Body Tryz.prog 96:=body_of Tryz.func96 (by kernel_rfl) (by kernel_rfl)
instance:Body Tryz.prog 98:=body_of Tryz.func98 (by kernel_rfl) (by kernel_rfl)
instance:Body Tryz.prog 105:=body_of Tryz.func105 (by kernel_rfl) (by kernel_rfl)
instance:Body Tryz.prog 108:=body_of Tryz.func108 (by kernel_rfl) (by kernel_rfl)
instance:Body Tryz.prog 110:=body_of Tryz.func110 (by kernel_rfl) (by kernel_rfl)
instance:Body Tryz.prog 114:=body_of Tryz.func114 (by kernel_rfl) (by kernel_rfl)
instance:Body Tryz.prog 115:=body_of Tryz.func115 (by kernel_rfl) (by kernel_rfl)
instance:Body Tryz.prog 116:=body_of Tryz.func116 (by kernel_rfl) (by kernel_rfl)
instance:Body Tryz.prog 118:=body_of Tryz.func118 (by kernel_rfl) (by kernel_rfl)
instance:Body Tryz.prog 123:=body_of Tryz.func123 (by kernel_rfl) (by kernel_rfl)
instance:Body Tryz.prog 124:=body_of Tryz.func124 (by kernel_rfl) (by kernel_rfl)
instance:Body Tryz.prog 129:=body_of Tryz.func129 (by kernel_rfl) (by kernel_rfl)
instance:Body Tryz.prog 130:=body_of Tryz.func130 (by kernel_rfl) (by kernel_rfl)
instance:Body Tryz.prog 131:=body_of Tryz.func131 (by kernel_rfl) (by kernel_rfl)
instance:Body Tryz.prog 132:=body_of Tryz.func132 (by kernel_rfl) (by kernel_rfl)
instance:Body Tryz.prog 133:=body_of Tryz.func133 (by kernel_rfl) (by kernel_rfl)
instance:Body Tryz.prog 134:=body_of Tryz.func134 (by kernel_rfl) (by kernel_rfl)
instance:Body Tryz.prog 135:=body_of Tryz.func135 (by kernel_rfl) (by kernel_rfl)
instance:Body Tryz.prog 136:=body_of Tryz.func136 (by kernel_rfl) (by kernel_rfl)
instance:Body Tryz.prog 137:=body_of Tryz.func137 (by kernel_rfl) (by kernel_rfl)
instance:Body Tryz.prog 138:=body_of Tryz.func138 (by kernel_rfl) (by kernel_rfl)
instance:Body Tryz.prog 139:=body_of Tryz.func139 (by kernel_rfl) (by kernel_rfl)
instance:Body Tryz.prog 140:=body_of Tryz.func140 (by kernel_rfl) (by kernel_rfl)
instance:Body Tryz.prog 141:=body_of Tryz.func141 (by kernel_rfl) (by kernel_rfl)
instance:Body Tryz.prog 142:=body_of Tryz.func142 (by kernel_rfl) (by kernel_rfl)
instance:Body Tryz.prog 143:=body_of Tryz.func143 (by kernel_rfl) (by kernel_rfl)
instance:Body Tryz.prog 144:=body_of Tryz.func144 (by kernel_rfl) (by kernel_rfl)
instance:Body Tryz.prog 145:=body_of Tryz.func145 (by kernel_rfl) (by kernel_rfl)
instance:Body Tryz.prog 146:=body_of Tryz.func146 (by kernel_rfl) (by kernel_rfl)
instance:Body Tryz.prog 147:=body_of Tryz.func147 (by kernel_rfl) (by kernel_rfl)
instance:Body Tryz.prog 148:=body_of Tryz.func148 (by kernel_rfl) (by kernel_rfl)
instance:Body Tryz.prog 149:=body_of Tryz.func149 (by kernel_rfl) (by kernel_rfl)
instance:Body Tryz.prog 150:=body_of Tryz.func150 (by kernel_rfl) (by kernel_rfl)
instance:Body Tryz.prog 155:=body_of Tryz.func155 (by kernel_rfl) (by kernel_rfl)
instance:Body Tryz.prog 160:=body_of Tryz.func160 (by kernel_rfl) (by kernel_rfl)
instance:Body Tryz.prog 161:=body_of Tryz.func161 (by kernel_rfl) (by kernel_rfl)
instance:Body Tryz.prog 174:=body_of Tryz.func174 (by kernel_rfl) (by kernel_rfl)
instance:Body Tryz.prog 175:=body_of Tryz.func175 (by kernel_rfl) (by kernel_rfl)
instance:Body Tryz.prog 176:=body_of Tryz.func176 (by kernel_rfl) (by kernel_rfl)
instance:Body Tryz.prog 177:=body_of Tryz.func177 (by kernel_rfl) (by kernel_rfl)
instance:Body Tryz.prog 178:=body_of Tryz.func178 (by kernel_rfl) (by kernel_rfl)
instance:Body Tryz.prog 179:=body_of Tryz.func179 (by kernel_rfl) (by kernel_rfl)
instance:Body Tryz.prog 180:=body_of Tryz.func180 (by kernel_rfl) (by kernel_rfl)
instance:Body Tryz.prog 181:=body_of Tryz.func181 (by kernel_rfl) (by kernel_rfl)
instance:Body Tryz.prog 182:=body_of Tryz.func182 (by kernel_rfl) (by kernel_rfl)
instance:Body Tryz.prog 183:=body_of Tryz.func183 (by kernel_rfl) (by kernel_rfl)
instance:Body Tryz.prog 184:=body_of Tryz.func184 (by kernel_rfl) (by kernel_rfl)
instance:Body Tryz.prog 185:=body_of Tryz.func185 (by kernel_rfl) (by kernel_rfl)
instance:Body Tryz.prog 186:=body_of Tryz.func186 (by kernel_rfl) (by kernel_rfl)
instance:Body Tryz.prog 187:=body_of Tryz.func187 (by kernel_rfl) (by kernel_rfl)
instance:Body Tryz.prog 188:=body_of Tryz.func188 (by kernel_rfl) (by kernel_rfl)
instance:Body Tryz.prog 190:=body_of Tryz.func190 (by kernel_rfl) (by kernel_rfl)
instance:Body Tryz.prog 192:=body_of Tryz.func192 (by kernel_rfl) (by kernel_rfl)
instance:Body Tryz.prog 194:=body_of Tryz.func194 (by kernel_rfl) (by kernel_rfl)
instance:Body Tryz.prog 195:=body_of Tryz.func195 (by kernel_rfl) (by kernel_rfl)
instance:Body Tryz.prog 196:=body_of Tryz.func196 (by kernel_rfl) (by kernel_rfl)
instance:Body Tryz.prog 197:=body_of Tryz.func197 (by kernel_rfl) (by kernel_rfl)
instance:Body Tryz.prog 198:=body_of Tryz.func198 (by kernel_rfl) (by kernel_rfl)
instance:Body Tryz.prog 199:=body_of Tryz.func199 (by kernel_rfl) (by kernel_rfl)
instance:Body Tryz.prog 200:=body_of Tryz.func200 (by kernel_rfl) (by kernel_rfl)
instance:Body Tryz.prog 201:=body_of Tryz.func201 (by kernel_rfl) (by kernel_rfl)
instance:Body Tryz.prog 202:=body_of Tryz.func202 (by kernel_rfl) (by kernel_rfl)
instance:Body Tryz.prog 203:=body_of Tryz.func203 (by kernel_rfl) (by kernel_rfl)
instance:Body Tryz.prog 204:=body_of Tryz.func204 (by kernel_rfl) (by kernel_rfl)
instance:Body Tryz.prog 205:=body_of Tryz.func205 (by kernel_rfl) (by kernel_rfl)
instance:Body Tryz.prog 206:=body_of Tryz.func206 (by kernel_rfl) (by kernel_rfl)
instance:Body Tryz.prog 209:=body_of Tryz.func209 (by kernel_rfl) (by kernel_rfl)
instance:Body Tryz.prog 210:=body_of Tryz.func210 (by kernel_rfl) (by kernel_rfl)
instance:Body Tryz.prog 211:=body_of Tryz.func211 (by kernel_rfl) (by kernel_rfl)
instance:Body Tryz.prog 226:=body_of Tryz.func226 (by kernel_rfl) (by kernel_rfl)
instance:Body Tryz.prog 228:=body_of Tryz.func228 (by kernel_rfl) (by kernel_rfl)
instance:Body Tryz.prog 229:=body_of Tryz.func229 (by kernel_rfl) (by kernel_rfl)
instance:Body Tryz.prog 230:=body_of Tryz.func230 (by kernel_rfl) (by kernel_rfl)
instance:Body Tryz.prog 231:=body_of Tryz.func231 (by kernel_rfl) (by kernel_rfl)
instance:Body Tryz.prog 232:=body_of Tryz.func232 (by kernel_rfl) (by kernel_rfl)
instance:Body Tryz.prog 233:=body_of Tryz.func233 (by kernel_rfl) (by kernel_rfl)
instance:Body Tryz.prog 234:=body_of Tryz.func234 (by kernel_rfl) (by kernel_rfl)
instance:Body Tryz.prog 237:=body_of Tryz.func237 (by kernel_rfl) (by kernel_rfl)
instance:Body Tryz.prog 238:=body_of Tryz.func238 (by kernel_rfl) (by kernel_rfl)
instance:Body Tryz.prog 239:=body_of Tryz.func239 (by kernel_rfl) (by kernel_rfl)
instance:Body Tryz.prog 241:=body_of Tryz.func241 (by kernel_rfl) (by kernel_rfl)
instance:Body Tryz.prog 249:=body_of Tryz.func249 (by kernel_rfl) (by kernel_rfl)
instance:Body Tryz.prog 254:=body_of Tryz.func254 (by kernel_rfl) (by kernel_rfl)
instance:Body Tryz.prog 255:=body_of Tryz.func255 (by kernel_rfl) (by kernel_rfl)
instance:Body Tryz.prog 258:=body_of Tryz.func258 (by kernel_rfl) (by kernel_rfl)
theorem mixed:Tryz.prog.follows .mixedOrders=true:=by kernel_rfl
structure Region where
 From:Int
 Size:Int
 deriving DecidableEq
structure Block where
 At:Int
 Order:Int
 Ty:Int
 deriving DecidableEq
structure Zone where
 From:Int
 To:Int
 Free:List Block
 Types:List Int
 deriving DecidableEq
structure PList where
 Cpu:Int
 Zone:Int
 Ty:Int
 Pages:List Int
structure Heap where
 Zones:List Zone
 Mins:List Int
 Cpus:Int
 Lists:List PList
 Live:List Block
structure Slab where
 At:Int
 Free:Int
 First:Int
 deriving DecidableEq
open Go.RowKit
theorem In_ans (x lo hi:Int) (w:World) : Ans Tryz.prog 48 [.int .i64 x,.int .i64 lo,.int .i64 hi] w fun v _=>v = .bool (decide (lo≤x∧x≤hi)):=by
 refine ans_of Tryz.func48 rfl Tryz.ntmps48 rfl ?_
 repeat' (first|(first|refine CW.seq ?_|refine CW.region ?_|refine CW.ret ?_)|(refine Post.seq ?_)|refine SW.nil ?_|(show SW _ _ _ _ (⟨_,_,_,_,_,some _⟩::_) _ _;first|refine SW.want_t rfl rfl (by with_reducible rfl) ?_|refine SW.skip_t rfl rfl (by with_reducible rfl) rfl ?_|refine SW.splitd rfl rfl rfl (fun h => ?_) (fun h => ?_))|refine SW.pure rfl rfl ?_)
 all_goals refine Post.ret1 rfl rfl ⟨_,rfl,Ext.refl _,?_⟩
 all_goals simp [*]
theorem sameInts_ans (A B:Option Addr) (n m c d:Nat) (xs ys:List Int) (w:World) (hx:Sl w 1 encI A n xs) (hy:Sl w 1 encI B m ys) (hn:n≤2305843009213693952) :
 Ans Tryz.prog 53 [.slice A n c,.slice B m d] w fun v _=>v = .bool (decide (xs=ys)):=by
 refine ans_of Tryz.func53 rfl Tryz.ntmps53 rfl ?_
 have hl:=hx.len
 have hl':=hy.len
 have hA:=hx.base
 have hB:=hy.base
 have hw:=Ext.refl w
 repeat' (first|(first|refine CW.seq ?_|refine CW.region ?_|refine CW.block ?_|refine CW.condn rfl (fun h => ?_) (fun h => ?_)|refine CW.skip ?_|refine CW.ret ?_)|(first|refine Post.seq ?_|refine Post.seq_ret ?_)|refine SW.nil ?_|refine SW.pure rfl rfl ?_|(show SW _ _ _ _ (⟨_,Op.call ⟨.builtin .len,_,_⟩,_,_,_,none⟩::_) _ _;refine SW.st (st_len rfl) rfl ?_))
 ·refine Post.ret1 rfl rfl ⟨_,rfl,hw,?_⟩
  have:xs≠ys:=fun e=>by subst e;omega
  simp [this]
 ·have hnm:n=m:=by omega
  refine CW.loop (fun k:Nat=>[(0,.slice A n c),(1,.slice B m d),(5,.int .i64 (k:Int))])
   (fun k w'=>k≤n∧Ext w w' ∧ ∀ j (h1:j<xs.length) (h2:j<ys.length),j<k→xs[j]=ys[j]) (fun k=>n-k) 0 ⟨rfl,rfl,rfl,trivial⟩ ⟨by omega,hw,fun j _ _ h=>by omega⟩ ?_
  clear hw
  rintro k w' ⟨hk,hw,heq⟩
  by_cases hkn:k<n
  ·repeat' (first|(first|refine CW.seq ?_|refine CW.region ?_|refine CW.block ?_|refine CW.condd_t rfl (by omega) ?_|refine CW.condn rfl (fun h => ?_) (fun h => ?_)|refine CW.skip ?_|refine CW.ret ?_|(apply CW.quiet1 mixed;(· kernel_rfl);rotate_left;intro w1 hw1;replace hw:=Ext.trans hw hw1;clear hw1;rotate_right))|(first|refine Post.seq ?_|refine Post.seq_ret ?_|refine Post.blk ?_|refine Post.blk_ret ?_|refine Post.again_ret ?_)|refine SW.nil ?_|refine SW.pure rfl rfl ?_|(show SW _ _ _ _ (⟨_,Op.binOp _ _ _ _ _,_,_,_,none⟩::_) _ _;refine SW.st (st_add rfl rfl (by omega) (by omega)) rfl ?_)|(show SW _ _ _ _ (⟨_,Op.indexAddr _ _ _,_,_,_,none⟩::_) _ _;refine SW.st (st_indexN rfl rfl (by assumption) (by omega)) rfl ?_)|(show SW _ _ _ _ (⟨_,Op.call ⟨.builtin .len,_,_⟩,_,_,_,none⟩::_) _ _;refine SW.st (st_len rfl) rfl ?_)|(show SW _ _ _ _ (⟨_,Op.load _ _,_,_,_,none⟩::_) _ _;first|refine SW.st (st_loadx hw rfl (hx.one hkn rfl)) rfl ?_|refine SW.st (st_loadx hw rfl (hy.one (hnm ▸ hkn) rfl)) rfl ?_)|exact SW.qnil rfl)
   ·refine Post.ret1 rfl rfl ⟨_,rfl,hw,?_⟩
    have:xs≠ys:=fun e=>by subst e;exact h rfl
    simp [this]
   ·refine Post.again (k+1) ⟨rfl,rfl,rfl,trivial⟩ (by omega) ⟨by omega,hw,fun j h1 h2 hj => ?_⟩
    by_cases hjk:j=k
    ·subst hjk;assumption
    ·exact heq j h1 h2 (by omega)
  ·repeat' (first|(first|refine CW.seq ?_|refine CW.region ?_|refine CW.condd_f rfl (by omega) ?_|refine CW.ret ?_|refine CW.exit ?_)|(first|refine Post.seq ?_|refine Post.seq_exit ?_|refine Post.hit ?_|refine Post.again_exit ?_)|refine SW.nil ?_|refine SW.pure rfl rfl ?_|(show SW _ _ _ _ (⟨_,Op.call ⟨.builtin .len,_,_⟩,_,_,_,none⟩::_) _ _;refine SW.st (st_len rfl) rfl ?_))
   refine Post.ret1 rfl rfl ⟨_,rfl,hw,?_⟩
   have:xs=ys:=List.ext_getElem (by omega) fun j h1 h2=>heq j h1 h2 (by omega)
   simp [this]
open Go.RowKit
theorem in_ans (A:Option Addr) (n c:Nat) (x k:Int) (w:World) (hn:n≤2305843009213693952) : Ans Tryz.prog 161 [.slice A n c,.int .i64 x,.int .i64 k] w fun v _=>v = .bool (decide (0≤x∧0≤k∧k≤n∧x+k≤n)):=by
 refine ans_of Tryz.func161 rfl Tryz.ntmps161 rfl ?_
 repeat' (first|(first|refine CW.seq ?_|refine CW.region ?_|refine CW.ret ?_)|(refine Post.seq ?_)|refine SW.nil ?_|(show SW _ _ _ _ (⟨_,_,_,_,_,some _⟩::_) _ _;first|refine SW.want_t rfl rfl (by with_reducible rfl) ?_|refine SW.skip_t rfl rfl (by with_reducible rfl) rfl ?_|refine SW.splitd rfl rfl rfl (fun h => ?_) (fun h => ?_))|refine SW.pure rfl rfl ?_|(show SW _ _ _ _ (⟨_,Op.binOp _ _ _ _ _,_,_,_,none⟩::_) _ _;refine SW.st (st_sub rfl rfl (by omega) (by omega)) rfl ?_)|(show SW _ _ _ _ (⟨_,Op.call ⟨.builtin .len,_,_⟩,_,_,_,none⟩::_) _ _;refine SW.st (st_len rfl) rfl ?_))
 all_goals refine Post.ret1 rfl rfl ⟨_,rfl,Ext.refl _,?_⟩
 all_goals congr 1
 all_goals symm
 all_goals first|(refine decide_eq_true ?_;omega)|(refine decide_eq_false ?_;omega)|(rw [decide_eq_decide];omega)
theorem there_ans (A:Option Addr) (n c:Nat) (x k:Int) (w:World) (hn:n≤2305843009213693952) : Ans Tryz.prog 249 [.slice A n c,.int .i64 x,.int .i64 k] w fun v _=>v = .bool (decide (0≤x∧0≤k∧k≤n∧x+k≤n)):=by
 refine ans_of Tryz.func249 rfl Tryz.ntmps249 rfl ?_
 have hw:=Ext.refl w
 repeat' (first|(first|refine CW.seq ?_|refine CW.region ?_|refine CW.ret ?_)|(refine Post.seq ?_)|refine SW.nil ?_|(show SW _ _ _ _ (⟨_,_,_,_,_,some _⟩::_) _ _;first|refine SW.want_t rfl rfl (by with_reducible rfl) ?_|refine SW.skip_t rfl rfl (by with_reducible rfl) rfl ?_|refine SW.splitd rfl rfl rfl (fun h => ?_) (fun h => ?_))|refine SW.pure rfl rfl ?_|(show SW _ _ _ _ (⟨_,Op.binOp _ _ _ _ _,_,_,_,none⟩::_) _ _;refine SW.st (st_add rfl rfl (by omega) (by omega)) rfl ?_)|(show SW _ _ _ _ (⟨_,Op.call ⟨.builtin .len,_,_⟩,_,_,_,none⟩::_) _ _;refine SW.st (st_len rfl) rfl ?_)|(show SW _ _ _ _ (⟨_,Op.call ⟨.value (.func _),_,_⟩,_,_,_,none⟩::_) _ _;(refine SW.call rfl rfl (In_ans _ _ _ _) ?_;intro v w1 hw1 hv;subst hv;replace hw:=Ext.trans hw hw1;clear hw1)))
 all_goals refine Post.ret1 rfl rfl ⟨_,rfl,hw,?_⟩
 all_goals congr 1
 all_goals symm
 all_goals first|(refine decide_eq_true ?_;omega)|(refine decide_eq_false ?_;omega)|(rw [decide_eq_decide];omega)
def Copied (w:World) (e sz:Nat) {α : Type} (enc : α → List Value) (n:Nat) (l:List α) : Value→World→Prop:=fun v w' => ∃ A c,v = .slice A n c∧Own w' w.heap.size e sz enc A n c l
theorem words_ans (A:Option Addr) (n c:Nat) (l:List Int) (w:World) (hl:Sl w 1 encI A n l) (hn:n*8≤140737488355328) : Ans Tryz.prog 39 [.slice A n c] w (Copied w 3 1 encI n l):=by
 refine ans_of Tryz.func39 rfl Tryz.ntmps39 rfl ?_
 have hw:=Ext.refl w
 have hA:=hl.base
 repeat' (first|(first|refine CW.seq ?_|refine CW.region ?_|refine CW.block ?_)|(refine Post.seq ?_)|refine SW.nil ?_|refine SW.pure rfl rfl ?_)
 refine CW.loop (fun s:Nat×Option Addr×Nat=>[(0,.slice A n c),(3,.slice s.2.1 s.1 s.2.2),(4,.int .i64 (s.1:Int))])
  (fun s w'=>s.1≤n∧Ext w w'∧Own w' w.heap.size 3 1 encI s.2.1 s.1 s.2.2 (l.take s.1)) (fun s=>n-s.1) (0,none,0) ⟨rfl,rfl,rfl,trivial⟩ ⟨by omega,hw,by simpa using Own.nil_ _ _ _ _ _ _⟩ ?_
 clear hw
 rintro ⟨k,A1,c1⟩ w' ⟨hk,hw,hO⟩
 simp only at hk hO ⊢
 by_cases hkn:k<n
 ·repeat' (first|(first|refine CW.seq ?_|refine CW.region ?_|refine CW.block ?_|refine CW.condd_t rfl (by omega) ?_|refine CW.skip ?_)|(refine Post.seq ?_)|refine SW.nil ?_|refine SW.pure rfl rfl ?_|(show SW _ _ _ _ (⟨_,Op.indexAddr _ _ _,_,_,_,none⟩::_) _ _;refine SW.st (st_indexN rfl rfl (by assumption) (by omega)) rfl ?_)|(show SW _ _ _ _ (⟨_,Op.call ⟨.builtin .len,_,_⟩,_,_,_,none⟩::_) _ _;refine SW.st (st_len rfl) rfl ?_)|(show SW _ _ _ _ (⟨_,Op.load _ _,_,_,_,none⟩::_) _ _;refine SW.st (st_loadx hw rfl (hl.one hkn rfl)) rfl ?_))
  refine SW.build1 rfl rfl rfl rfl rfl fun b w1 hw1 hb hB => ?_
  replace hw:=Ext.trans hw hw1
  replace hO:=hO.ext hw1
  refine SW.append hO (Blk.sl1 (enc:=encI) hB) hw.size rfl rfl rfl (by omega) (by omega) fun A2 c2 w2 hO1 hg => ?_
  replace hw:=ext_grown hw hg (Nat.le_refl _) hO.row_ge
  repeat' (first|(refine CW.region ?_)|(first|refine Post.seq ?_|refine Post.blk ?_)|refine SW.nil ?_|refine SW.pure rfl rfl ?_|(show SW _ _ _ _ (⟨_,Op.binOp _ _ _ _ _,_,_,_,none⟩::_) _ _;refine SW.st (st_add rfl rfl (by omega) (by omega)) rfl ?_))
  refine Post.again (k+1,A2,c2) ⟨rfl,rfl,rfl,trivial⟩ (by simp only;omega) ⟨by simp only;omega,hw,?_⟩
  rw [List.take_succ_eq_append_getElem (hl.lt hkn)]
  exact hO1
 ·repeat' (first|(first|refine CW.seq ?_|refine CW.region ?_|refine CW.condd_f rfl (by omega) ?_|refine CW.ret ?_|refine CW.exit ?_)|(first|refine Post.seq ?_|refine Post.seq_exit ?_|refine Post.hit ?_|refine Post.again_exit ?_)|refine SW.nil ?_|refine SW.pure rfl rfl ?_|(show SW _ _ _ _ (⟨_,Op.call ⟨.builtin .len,_,_⟩,_,_,_,none⟩::_) _ _;refine SW.st (st_len rfl) rfl ?_))
  obtain rfl:k=n:=by omega
  refine Post.ret1 rfl rfl ⟨_,rfl,hw,A1,c1,rfl,?_⟩
  rwa [List.take_of_length_le (by have:=hl.len;omega)] at hO
theorem CloneInt_ans (A:Option Addr) (n c:Nat) (l:List Int) (w:World) (hl:Sl w 1 encI A n l) (hn:n*8≤140737488355328) : Ans Tryz.prog 82 [.slice A n c] w (Copied w 3 1 encI n l):=by
 refine ans_of Tryz.func82 rfl Tryz.ntmps82 rfl ?_
 have hw:=Ext.refl w
 repeat' (first|(first|refine CW.seq ?_|refine CW.region ?_)|(refine Post.seq ?_)|refine SW.nil ?_|refine SW.pure rfl rfl ?_)
 refine SW.st (st_eqnil rfl rfl) rfl ?_
 repeat' (first|(first|refine CW.seq ?_|refine CW.region ?_|refine CW.cond rfl (fun h => ?_) (fun h => ?_)|refine CW.skip ?_|refine CW.ret ?_)|(first|refine Post.seq ?_|refine Post.seq_ret ?_)|refine SW.nil ?_|refine SW.pure rfl rfl ?_)
 ·have hn0:n=0:=by
   rcases Nat.eq_zero_or_pos n with h0|h0
   ·exact h0
   ·have:=hl.base h0;simp_all
  subst hn0
  have:l=[]:=List.eq_nil_of_length_eq_zero hl.len
  subst this
  exact Post.ret1 rfl rfl ⟨_,rfl,hw,none,0,rfl,Own.nil_ _ _ _ _ _ _⟩
 ·refine SW.build0 rfl fun b w1 hw1 hb => ?_
  replace hw:=Ext.trans hw hw1
  repeat' (refine SW.pure rfl rfl ?_)
  refine SW.appendR (Nat.zero_add n) (List.nil_append l) (Own.nil_ w1 w.heap.size _ _ encI (some ⟨b,0,none⟩)) (hl.ext hw) hw.size rfl rfl rfl (by omega) (by omega) fun A2 c2 w2 hO hg => ?_
  replace hw:=ext_grown hw hg (Nat.le_refl _) (by simp [ownB])
  repeat' (first|(refine CW.ret ?_)|(refine Post.seq ?_)|refine SW.nil ?_|refine SW.pure rfl rfl ?_)
  exact Post.ret1 rfl rfl ⟨_,rfl,hw,A2,c2,rfl,hO⟩
theorem New_ans (k:Int) (w:World) : Ans Tryz.prog 57 [.int .i64 k] w fun v w' =>
 if 0≤k∧k≤256 then ∃ A c,v = .tuple #[.slice A (16*k).toNat c,.int .i64 0]∧Own w' w.heap.size 3 1 encI A (16*k).toNat c (List.replicate (16*k).toNat 0) else v = .tuple #[.slice none 0 0,.int .i64 1]:=by
 refine ans_of Tryz.func57 rfl Tryz.ntmps57 rfl ?_
 have hw:=Ext.refl w
 repeat' (first|(first|refine CW.seq ?_|refine CW.region ?_|refine CW.block ?_|refine CW.condtr rfl (by with_reducible rfl) ?_|refine CW.condfr rfl (by with_reducible rfl) ?_|refine CW.condd_t rfl (by omega) ?_|refine CW.condd_f rfl (by omega) ?_|refine CW.condn_t rfl (by omega) ?_|refine CW.condn_f rfl (by omega) ?_|refine CW.condd rfl (fun h => ?_) (fun h => ?_)|refine CW.condn rfl (fun h => ?_) (fun h => ?_)|refine CW.condt rfl ?_|refine CW.condf rfl ?_|refine CW.cond rfl (fun h => ?_) (fun h => ?_)|refine CW.skip ?_|refine CW.ret ?_|refine CW.exit ?_)|(first|refine Post.seq ?_|refine Post.seq_ret ?_|refine Post.seq_exit ?_|refine Post.hit ?_|refine Post.pass rfl ?_|refine Post.blk ?_|refine Post.blk_ret ?_|refine Post.again_exit ?_|refine Post.again_ret ?_|refine Post.np ?_)|refine SW.nil ?_|(show SW _ _ _ _ (⟨_,_,_,_,_,some _⟩::_) _ _;first|refine SW.want_t rfl rfl (by with_reducible rfl) ?_|refine SW.want_f rfl rfl (by with_reducible rfl) ?_|refine SW.skip_t rfl rfl (by with_reducible rfl) rfl ?_|refine SW.skip_f rfl rfl (by with_reducible rfl) rfl ?_|refine SW.skip_u rfl rfl (by with_reducible rfl) rfl ?_|refine SW.splitd_t rfl rfl rfl (by omega) ?_|refine SW.splitd_f rfl rfl rfl (by omega) ?_|refine SW.splitn_t rfl rfl rfl (by omega) ?_|refine SW.splitn_f rfl rfl rfl (by omega) ?_|refine SW.splitd rfl rfl rfl (fun h => ?_) (fun h => ?_)|refine SW.splitn rfl rfl rfl (fun h => ?_) (fun h => ?_)|refine SW.want rfl rfl ?_|refine SW.skip rfl rfl rfl rfl ?_|refine SW.skipu rfl rfl rfl ?_|refine SW.split rfl rfl rfl (fun h => ?_) (fun h => ?_))|refine SW.pure rfl rfl ?_|(show SW _ _ _ _ (⟨_,Op.fieldAddr _ _ _,_,_,_,none⟩::_) _ _;refine SW.st (st_field rfl) rfl ?_)|(show SW _ _ _ _ (⟨_,Op.nilCheck _,_,_,_,none⟩::_) _ _;refine SW.st (st_nilCheck rfl) rfl ?_)|(show SW _ _ _ _ (⟨_,Op.build _ _,_,_,_,none⟩::_) _ _;refine SW.st (st_build rfl rfl) rfl ?_)|(show SW _ _ _ _ (⟨_,Op.binOp _ _ _ _ _,_,_,_,none⟩::_) _ _;first|refine SW.st (st_add rfl rfl (by omega) (by omega)) rfl ?_|refine SW.st (st_sub rfl rfl (by omega) (by omega)) rfl ?_|refine SW.st (st_mul rfl rfl (by omega) (by omega)) rfl ?_|refine SW.st (st_quo rfl rfl (by omega) (by omega) (by omega)) rfl ?_|refine SW.st (st_rem rfl rfl (by omega)) rfl ?_)|(show SW _ _ _ _ (⟨_,Op.indexAddr _ _ _,_,_,_,none⟩::_) _ _;refine SW.st (st_indexN rfl rfl (by assumption) (by omega)) rfl ?_)|(show SW _ _ _ _ (⟨_,Op.call ⟨.builtin .len,_,_⟩,_,_,_,none⟩::_) _ _;refine SW.st (st_len rfl) rfl ?_)|(show SW _ _ _ _ (⟨_,Op.call ⟨.builtin .cap,_,_⟩,_,_,_,none⟩::_) _ _;refine SW.st (st_cap rfl) rfl ?_))
 ·refine Post.ret2 rfl rfl rfl ⟨_,rfl,hw,?_⟩
  rw [if_neg (by omega)]
 ·refine Post.ret2 rfl rfl rfl ⟨_,rfl,hw,?_⟩
  rw [if_neg (by omega)]
 ·refine SW.make (enc:=encI) (k:=(16*k).toNat) 0 rfl rfl (by omega) (by omega) (by omega) rfl fun A c w1 hw1 hO => ?_
  replace hw:=Ext.trans hw hw1
  repeat' (first|(first|refine CW.seq ?_|refine CW.region ?_|refine CW.block ?_|refine CW.condtr rfl (by with_reducible rfl) ?_|refine CW.condfr rfl (by with_reducible rfl) ?_|refine CW.condd_t rfl (by omega) ?_|refine CW.condd_f rfl (by omega) ?_|refine CW.condn_t rfl (by omega) ?_|refine CW.condn_f rfl (by omega) ?_|refine CW.condd rfl (fun h => ?_) (fun h => ?_)|refine CW.condn rfl (fun h => ?_) (fun h => ?_)|refine CW.condt rfl ?_|refine CW.condf rfl ?_|refine CW.cond rfl (fun h => ?_) (fun h => ?_)|refine CW.skip ?_|refine CW.ret ?_|refine CW.exit ?_)|(first|refine Post.seq ?_|refine Post.seq_ret ?_|refine Post.seq_exit ?_|refine Post.hit ?_|refine Post.pass rfl ?_|refine Post.blk ?_|refine Post.blk_ret ?_|refine Post.again_exit ?_|refine Post.again_ret ?_|refine Post.np ?_)|refine SW.nil ?_|(show SW _ _ _ _ (⟨_,_,_,_,_,some _⟩::_) _ _;first|refine SW.want_t rfl rfl (by with_reducible rfl) ?_|refine SW.want_f rfl rfl (by with_reducible rfl) ?_|refine SW.skip_t rfl rfl (by with_reducible rfl) rfl ?_|refine SW.skip_f rfl rfl (by with_reducible rfl) rfl ?_|refine SW.skip_u rfl rfl (by with_reducible rfl) rfl ?_|refine SW.splitd_t rfl rfl rfl (by omega) ?_|refine SW.splitd_f rfl rfl rfl (by omega) ?_|refine SW.splitn_t rfl rfl rfl (by omega) ?_|refine SW.splitn_f rfl rfl rfl (by omega) ?_|refine SW.splitd rfl rfl rfl (fun h => ?_) (fun h => ?_)|refine SW.splitn rfl rfl rfl (fun h => ?_) (fun h => ?_)|refine SW.want rfl rfl ?_|refine SW.skip rfl rfl rfl rfl ?_|refine SW.skipu rfl rfl rfl ?_|refine SW.split rfl rfl rfl (fun h => ?_) (fun h => ?_))|refine SW.pure rfl rfl ?_|(show SW _ _ _ _ (⟨_,Op.fieldAddr _ _ _,_,_,_,none⟩::_) _ _;refine SW.st (st_field rfl) rfl ?_)|(show SW _ _ _ _ (⟨_,Op.nilCheck _,_,_,_,none⟩::_) _ _;refine SW.st (st_nilCheck rfl) rfl ?_)|(show SW _ _ _ _ (⟨_,Op.build _ _,_,_,_,none⟩::_) _ _;refine SW.st (st_build rfl rfl) rfl ?_)|(show SW _ _ _ _ (⟨_,Op.binOp _ _ _ _ _,_,_,_,none⟩::_) _ _;first|refine SW.st (st_add rfl rfl (by omega) (by omega)) rfl ?_|refine SW.st (st_sub rfl rfl (by omega) (by omega)) rfl ?_|refine SW.st (st_mul rfl rfl (by omega) (by omega)) rfl ?_|refine SW.st (st_quo rfl rfl (by omega) (by omega) (by omega)) rfl ?_|refine SW.st (st_rem rfl rfl (by omega)) rfl ?_)|(show SW _ _ _ _ (⟨_,Op.indexAddr _ _ _,_,_,_,none⟩::_) _ _;refine SW.st (st_indexN rfl rfl (by assumption) (by omega)) rfl ?_)|(show SW _ _ _ _ (⟨_,Op.call ⟨.builtin .len,_,_⟩,_,_,_,none⟩::_) _ _;refine SW.st (st_len rfl) rfl ?_)|(show SW _ _ _ _ (⟨_,Op.call ⟨.builtin .cap,_,_⟩,_,_,_,none⟩::_) _ _;refine SW.st (st_cap rfl) rfl ?_))
  refine Post.ret2 rfl rfl rfl ⟨_,rfl,hw,?_⟩
  rw [if_pos (by omega)]
  exact ⟨A,c,rfl,hO⟩
theorem NewOf_ans (k:Int) (w:World) : Ans Tryz.prog 62 [.int .i64 k] w fun v w' =>
 if 0≤k∧k≤256 then ∃ A c,v = .tuple #[.slice A (16*k).toNat c,.int .i64 0]∧Own w' w.heap.size 3 1 encI A (16*k).toNat c (List.replicate (16*k).toNat 0) else v = .tuple #[.slice none 0 0,.int .i64 1]:=by
 refine ans_of Tryz.func62 rfl Tryz.ntmps62 rfl ?_
 have hw:=Ext.refl w
 repeat' (first|(first|refine CW.seq ?_|refine CW.region ?_|refine CW.block ?_|refine CW.condtr rfl (by with_reducible rfl) ?_|refine CW.condfr rfl (by with_reducible rfl) ?_|refine CW.condd_t rfl (by omega) ?_|refine CW.condd_f rfl (by omega) ?_|refine CW.condn_t rfl (by omega) ?_|refine CW.condn_f rfl (by omega) ?_|refine CW.condd rfl (fun h => ?_) (fun h => ?_)|refine CW.condn rfl (fun h => ?_) (fun h => ?_)|refine CW.condt rfl ?_|refine CW.condf rfl ?_|refine CW.cond rfl (fun h => ?_) (fun h => ?_)|refine CW.skip ?_|refine CW.ret ?_|refine CW.exit ?_)|(first|refine Post.seq ?_|refine Post.seq_ret ?_|refine Post.seq_exit ?_|refine Post.hit ?_|refine Post.pass rfl ?_|refine Post.blk ?_|refine Post.blk_ret ?_|refine Post.again_exit ?_|refine Post.again_ret ?_|refine Post.np ?_)|refine SW.nil ?_|(show SW _ _ _ _ (⟨_,_,_,_,_,some _⟩::_) _ _;first|refine SW.want_t rfl rfl (by with_reducible rfl) ?_|refine SW.want_f rfl rfl (by with_reducible rfl) ?_|refine SW.skip_t rfl rfl (by with_reducible rfl) rfl ?_|refine SW.skip_f rfl rfl (by with_reducible rfl) rfl ?_|refine SW.skip_u rfl rfl (by with_reducible rfl) rfl ?_|refine SW.splitd_t rfl rfl rfl (by omega) ?_|refine SW.splitd_f rfl rfl rfl (by omega) ?_|refine SW.splitn_t rfl rfl rfl (by omega) ?_|refine SW.splitn_f rfl rfl rfl (by omega) ?_|refine SW.splitd rfl rfl rfl (fun h => ?_) (fun h => ?_)|refine SW.splitn rfl rfl rfl (fun h => ?_) (fun h => ?_)|refine SW.want rfl rfl ?_|refine SW.skip rfl rfl rfl rfl ?_|refine SW.skipu rfl rfl rfl ?_|refine SW.split rfl rfl rfl (fun h => ?_) (fun h => ?_))|refine SW.pure rfl rfl ?_|(show SW _ _ _ _ (⟨_,Op.fieldAddr _ _ _,_,_,_,none⟩::_) _ _;refine SW.st (st_field rfl) rfl ?_)|(show SW _ _ _ _ (⟨_,Op.nilCheck _,_,_,_,none⟩::_) _ _;refine SW.st (st_nilCheck rfl) rfl ?_)|(show SW _ _ _ _ (⟨_,Op.build _ _,_,_,_,none⟩::_) _ _;refine SW.st (st_build rfl rfl) rfl ?_)|(show SW _ _ _ _ (⟨_,Op.binOp _ _ _ _ _,_,_,_,none⟩::_) _ _;first|refine SW.st (st_add rfl rfl (by omega) (by omega)) rfl ?_|refine SW.st (st_sub rfl rfl (by omega) (by omega)) rfl ?_|refine SW.st (st_mul rfl rfl (by omega) (by omega)) rfl ?_|refine SW.st (st_quo rfl rfl (by omega) (by omega) (by omega)) rfl ?_|refine SW.st (st_rem rfl rfl (by omega)) rfl ?_)|(show SW _ _ _ _ (⟨_,Op.indexAddr _ _ _,_,_,_,none⟩::_) _ _;refine SW.st (st_indexN rfl rfl (by assumption) (by omega)) rfl ?_)|(show SW _ _ _ _ (⟨_,Op.call ⟨.builtin .len,_,_⟩,_,_,_,none⟩::_) _ _;refine SW.st (st_len rfl) rfl ?_)|(show SW _ _ _ _ (⟨_,Op.call ⟨.builtin .cap,_,_⟩,_,_,_,none⟩::_) _ _;refine SW.st (st_cap rfl) rfl ?_)|(show SW _ _ _ _ (⟨_,Op.call ⟨.value (.func _),_,_⟩,_,_,_,none⟩::_) _ _;(refine SW.call rfl rfl (In_ans _ _ _ _) ?_;intro v w1 hw1 hv;subst hv;replace hw:=Ext.trans hw hw1;clear hw1)))
 ·refine Post.ret2 rfl rfl rfl ⟨_,rfl,hw,?_⟩
  rw [if_neg (by omega)]
 ·have hk : 0≤k∧k≤256:=by omega
  refine CW.loop (fun s:Nat×Option Addr×Nat=>[(0,.int .i64 k),(4,.slice s.2.1 s.1 s.2.2),(5,.int .i64 (s.1:Int))])
   (fun s w'=>s.1≤(16*k).toNat∧Ext w w'∧Own w' w.heap.size 3 1 encI s.2.1 s.1 s.2.2 (List.replicate s.1 0)) (fun s=>(16*k).toNat-s.1) (0,none,0) ⟨rfl,rfl,rfl,trivial⟩ ⟨by simp,hw,by simpa using Own.nil_ _ _ _ _ _ _⟩ ?_
  clear hw
  rintro ⟨j,A1,c1⟩ w' ⟨hj,hw,hO⟩
  simp only at hj hO ⊢
  by_cases hkn:j<(16*k).toNat
  ·repeat' (first|(first|refine CW.seq ?_|refine CW.region ?_|refine CW.block ?_|refine CW.condtr rfl (by with_reducible rfl) ?_|refine CW.condfr rfl (by with_reducible rfl) ?_|refine CW.condd_t rfl (by omega) ?_|refine CW.condd_f rfl (by omega) ?_|refine CW.condn_t rfl (by omega) ?_|refine CW.condn_f rfl (by omega) ?_|refine CW.condd rfl (fun h => ?_) (fun h => ?_)|refine CW.condn rfl (fun h => ?_) (fun h => ?_)|refine CW.condt rfl ?_|refine CW.condf rfl ?_|refine CW.cond rfl (fun h => ?_) (fun h => ?_)|refine CW.skip ?_|refine CW.ret ?_|refine CW.exit ?_)|(first|refine Post.seq ?_|refine Post.seq_ret ?_|refine Post.seq_exit ?_|refine Post.hit ?_|refine Post.pass rfl ?_|refine Post.blk ?_|refine Post.blk_ret ?_|refine Post.again_exit ?_|refine Post.again_ret ?_|refine Post.np ?_)|refine SW.nil ?_|(show SW _ _ _ _ (⟨_,_,_,_,_,some _⟩::_) _ _;first|refine SW.want_t rfl rfl (by with_reducible rfl) ?_|refine SW.want_f rfl rfl (by with_reducible rfl) ?_|refine SW.skip_t rfl rfl (by with_reducible rfl) rfl ?_|refine SW.skip_f rfl rfl (by with_reducible rfl) rfl ?_|refine SW.skip_u rfl rfl (by with_reducible rfl) rfl ?_|refine SW.splitd_t rfl rfl rfl (by omega) ?_|refine SW.splitd_f rfl rfl rfl (by omega) ?_|refine SW.splitn_t rfl rfl rfl (by omega) ?_|refine SW.splitn_f rfl rfl rfl (by omega) ?_|refine SW.splitd rfl rfl rfl (fun h => ?_) (fun h => ?_)|refine SW.splitn rfl rfl rfl (fun h => ?_) (fun h => ?_)|refine SW.want rfl rfl ?_|refine SW.skip rfl rfl rfl rfl ?_|refine SW.skipu rfl rfl rfl ?_|refine SW.split rfl rfl rfl (fun h => ?_) (fun h => ?_))|refine SW.pure rfl rfl ?_|(show SW _ _ _ _ (⟨_,Op.fieldAddr _ _ _,_,_,_,none⟩::_) _ _;refine SW.st (st_field rfl) rfl ?_)|(show SW _ _ _ _ (⟨_,Op.nilCheck _,_,_,_,none⟩::_) _ _;refine SW.st (st_nilCheck rfl) rfl ?_)|(show SW _ _ _ _ (⟨_,Op.build _ _,_,_,_,none⟩::_) _ _;refine SW.st (st_build rfl rfl) rfl ?_)|(show SW _ _ _ _ (⟨_,Op.binOp _ _ _ _ _,_,_,_,none⟩::_) _ _;first|refine SW.st (st_add rfl rfl (by omega) (by omega)) rfl ?_|refine SW.st (st_sub rfl rfl (by omega) (by omega)) rfl ?_|refine SW.st (st_mul rfl rfl (by omega) (by omega)) rfl ?_|refine SW.st (st_quo rfl rfl (by omega) (by omega) (by omega)) rfl ?_|refine SW.st (st_rem rfl rfl (by omega)) rfl ?_)|(show SW _ _ _ _ (⟨_,Op.indexAddr _ _ _,_,_,_,none⟩::_) _ _;refine SW.st (st_indexN rfl rfl (by assumption) (by omega)) rfl ?_)|(show SW _ _ _ _ (⟨_,Op.call ⟨.builtin .len,_,_⟩,_,_,_,none⟩::_) _ _;refine SW.st (st_len rfl) rfl ?_)|(show SW _ _ _ _ (⟨_,Op.call ⟨.builtin .cap,_,_⟩,_,_,_,none⟩::_) _ _;refine SW.st (st_cap rfl) rfl ?_))
   refine SW.build1 rfl rfl rfl rfl rfl fun b w1 hw1 hb hB => ?_
   replace hw:=Ext.trans hw hw1
   replace hO:=hO.ext hw1
   refine SW.append hO (Blk.sl1 (enc:=encI) hB) hw.size rfl rfl rfl (by omega) (by omega) fun A2 c2 w2 hO1 hg => ?_
   replace hw:=ext_grown hw hg (Nat.le_refl _) hO.row_ge
   repeat' (first|(first|refine CW.seq ?_|refine CW.region ?_|refine CW.block ?_|refine CW.condtr rfl (by with_reducible rfl) ?_|refine CW.condfr rfl (by with_reducible rfl) ?_|refine CW.condd_t rfl (by omega) ?_|refine CW.condd_f rfl (by omega) ?_|refine CW.condn_t rfl (by omega) ?_|refine CW.condn_f rfl (by omega) ?_|refine CW.condd rfl (fun h => ?_) (fun h => ?_)|refine CW.condn rfl (fun h => ?_) (fun h => ?_)|refine CW.condt rfl ?_|refine CW.condf rfl ?_|refine CW.cond rfl (fun h => ?_) (fun h => ?_)|refine CW.skip ?_|refine CW.ret ?_|refine CW.exit ?_)|(first|refine Post.seq ?_|refine Post.seq_ret ?_|refine Post.seq_exit ?_|refine Post.hit ?_|refine Post.pass rfl ?_|refine Post.blk ?_|refine Post.blk_ret ?_|refine Post.again_exit ?_|refine Post.again_ret ?_|refine Post.np ?_)|refine SW.nil ?_|(show SW _ _ _ _ (⟨_,_,_,_,_,some _⟩::_) _ _;first|refine SW.want_t rfl rfl (by with_reducible rfl) ?_|refine SW.want_f rfl rfl (by with_reducible rfl) ?_|refine SW.skip_t rfl rfl (by with_reducible rfl) rfl ?_|refine SW.skip_f rfl rfl (by with_reducible rfl) rfl ?_|refine SW.skip_u rfl rfl (by with_reducible rfl) rfl ?_|refine SW.splitd_t rfl rfl rfl (by omega) ?_|refine SW.splitd_f rfl rfl rfl (by omega) ?_|refine SW.splitn_t rfl rfl rfl (by omega) ?_|refine SW.splitn_f rfl rfl rfl (by omega) ?_|refine SW.splitd rfl rfl rfl (fun h => ?_) (fun h => ?_)|refine SW.splitn rfl rfl rfl (fun h => ?_) (fun h => ?_)|refine SW.want rfl rfl ?_|refine SW.skip rfl rfl rfl rfl ?_|refine SW.skipu rfl rfl rfl ?_|refine SW.split rfl rfl rfl (fun h => ?_) (fun h => ?_))|refine SW.pure rfl rfl ?_|(show SW _ _ _ _ (⟨_,Op.fieldAddr _ _ _,_,_,_,none⟩::_) _ _;refine SW.st (st_field rfl) rfl ?_)|(show SW _ _ _ _ (⟨_,Op.nilCheck _,_,_,_,none⟩::_) _ _;refine SW.st (st_nilCheck rfl) rfl ?_)|(show SW _ _ _ _ (⟨_,Op.build _ _,_,_,_,none⟩::_) _ _;refine SW.st (st_build rfl rfl) rfl ?_)|(show SW _ _ _ _ (⟨_,Op.binOp _ _ _ _ _,_,_,_,none⟩::_) _ _;first|refine SW.st (st_add rfl rfl (by omega) (by omega)) rfl ?_|refine SW.st (st_sub rfl rfl (by omega) (by omega)) rfl ?_|refine SW.st (st_mul rfl rfl (by omega) (by omega)) rfl ?_|refine SW.st (st_quo rfl rfl (by omega) (by omega) (by omega)) rfl ?_|refine SW.st (st_rem rfl rfl (by omega)) rfl ?_)|(show SW _ _ _ _ (⟨_,Op.indexAddr _ _ _,_,_,_,none⟩::_) _ _;refine SW.st (st_indexN rfl rfl (by assumption) (by omega)) rfl ?_)|(show SW _ _ _ _ (⟨_,Op.call ⟨.builtin .len,_,_⟩,_,_,_,none⟩::_) _ _;refine SW.st (st_len rfl) rfl ?_)|(show SW _ _ _ _ (⟨_,Op.call ⟨.builtin .cap,_,_⟩,_,_,_,none⟩::_) _ _;refine SW.st (st_cap rfl) rfl ?_))
   refine Post.again (j+1,A2,c2) ⟨rfl,rfl,rfl,trivial⟩ (by simp only;omega) ⟨by simp only;omega,hw,?_⟩
   simp only [List.replicate_succ']
   exact hO1
  ·repeat' (first|(first|refine CW.seq ?_|refine CW.region ?_|refine CW.block ?_|refine CW.condtr rfl (by with_reducible rfl) ?_|refine CW.condfr rfl (by with_reducible rfl) ?_|refine CW.condd_t rfl (by omega) ?_|refine CW.condd_f rfl (by omega) ?_|refine CW.condn_t rfl (by omega) ?_|refine CW.condn_f rfl (by omega) ?_|refine CW.condd rfl (fun h => ?_) (fun h => ?_)|refine CW.condn rfl (fun h => ?_) (fun h => ?_)|refine CW.condt rfl ?_|refine CW.condf rfl ?_|refine CW.cond rfl (fun h => ?_) (fun h => ?_)|refine CW.skip ?_|refine CW.ret ?_|refine CW.exit ?_)|(first|refine Post.seq ?_|refine Post.seq_ret ?_|refine Post.seq_exit ?_|refine Post.hit ?_|refine Post.pass rfl ?_|refine Post.blk ?_|refine Post.blk_ret ?_|refine Post.again_exit ?_|refine Post.again_ret ?_|refine Post.np ?_)|refine SW.nil ?_|(show SW _ _ _ _ (⟨_,_,_,_,_,some _⟩::_) _ _;first|refine SW.want_t rfl rfl (by with_reducible rfl) ?_|refine SW.want_f rfl rfl (by with_reducible rfl) ?_|refine SW.skip_t rfl rfl (by with_reducible rfl) rfl ?_|refine SW.skip_f rfl rfl (by with_reducible rfl) rfl ?_|refine SW.skip_u rfl rfl (by with_reducible rfl) rfl ?_|refine SW.splitd_t rfl rfl rfl (by omega) ?_|refine SW.splitd_f rfl rfl rfl (by omega) ?_|refine SW.splitn_t rfl rfl rfl (by omega) ?_|refine SW.splitn_f rfl rfl rfl (by omega) ?_|refine SW.splitd rfl rfl rfl (fun h => ?_) (fun h => ?_)|refine SW.splitn rfl rfl rfl (fun h => ?_) (fun h => ?_)|refine SW.want rfl rfl ?_|refine SW.skip rfl rfl rfl rfl ?_|refine SW.skipu rfl rfl rfl ?_|refine SW.split rfl rfl rfl (fun h => ?_) (fun h => ?_))|refine SW.pure rfl rfl ?_|(show SW _ _ _ _ (⟨_,Op.fieldAddr _ _ _,_,_,_,none⟩::_) _ _;refine SW.st (st_field rfl) rfl ?_)|(show SW _ _ _ _ (⟨_,Op.nilCheck _,_,_,_,none⟩::_) _ _;refine SW.st (st_nilCheck rfl) rfl ?_)|(show SW _ _ _ _ (⟨_,Op.build _ _,_,_,_,none⟩::_) _ _;refine SW.st (st_build rfl rfl) rfl ?_)|(show SW _ _ _ _ (⟨_,Op.binOp _ _ _ _ _,_,_,_,none⟩::_) _ _;first|refine SW.st (st_add rfl rfl (by omega) (by omega)) rfl ?_|refine SW.st (st_sub rfl rfl (by omega) (by omega)) rfl ?_|refine SW.st (st_mul rfl rfl (by omega) (by omega)) rfl ?_|refine SW.st (st_quo rfl rfl (by omega) (by omega) (by omega)) rfl ?_|refine SW.st (st_rem rfl rfl (by omega)) rfl ?_)|(show SW _ _ _ _ (⟨_,Op.indexAddr _ _ _,_,_,_,none⟩::_) _ _;refine SW.st (st_indexN rfl rfl (by assumption) (by omega)) rfl ?_)|(show SW _ _ _ _ (⟨_,Op.call ⟨.builtin .len,_,_⟩,_,_,_,none⟩::_) _ _;refine SW.st (st_len rfl) rfl ?_)|(show SW _ _ _ _ (⟨_,Op.call ⟨.builtin .cap,_,_⟩,_,_,_,none⟩::_) _ _;refine SW.st (st_cap rfl) rfl ?_))
   obtain rfl:j=(16*k).toNat:=by omega
   refine Post.ret2 rfl rfl rfl ⟨_,rfl,hw,?_⟩
   rw [if_pos hk]
   exact ⟨A1,c1,rfl,hO⟩
end Go.Proofs.YtbidkghlpijecaaGreatDoor
