/-
  Texts of the claim SlabAllocs, part 14: what its theorem leans on.
-/
import Derived.Test.YtjimadiidbkohaaGreatDoorPackSlabAllocs1
import Derived.Lib.ConvBytes
import Derived.Laws.Strings
import Derived.Test.YtjimadiidbkohaaGreatDoorPackSlabAllocs8
import Derived.Test.YtjimadiidbkohaaGreatDoorPackSlabAllocs3
import Derived.Test.YtjimadiidbkohaaGreatDoorPackSlabAllocs2
import Derived.Test.YtjimadiidbkohaaGreatDoorPackSlabAllocs11
import Derived.Test.YtjimadiidbkohaaGreatDoorPackSlabAllocs6
set_option linter.unusedVariables false
set_option linter.unusedSimpArgs false
namespace Go.Proofs.YtjimadiidbkohaaGreatDoor
open Go.RowKit
def fK (a b:ByteArray) : Bool:=Op.bytesLess a.toList b.toList
theorem uH:∀ x y:List UInt8,Op.bytesLess x y=(!(Op.bytesLess y x || decide (x=y)))
 | [],[]=>by simp [Op.bytesLess]
 | [],_::_=>by simp [Op.bytesLess]
 | _::_,[]=>by simp [Op.bytesLess]
 | a::x,b::y=>by
   have ih:=uH x y;simp only [Op.bytesLess,List.cons.injEq];rcases Nat.lt_trichotomy a.toNat b.toNat with h|h|h
   ·have h1:a<b:=h
    have h2 : ¬ b<a:=fun e=>by have:b.toNat<a.toNat:=e;omega
    have h3 : ¬ a=b:=fun e=>by subst e;omega
    have h4 : ¬ b=a:=fun e=>h3 e.symm
    simp [h1,h2,h3,h4]
   ·have h3:a=b:=UInt8.toNat_inj.1 h
    subst h3;have h1 : ¬ a<a:=fun e=>by have:a.toNat<a.toNat:=e;omega
    simp [h1,ih]
   ·have h1:b<a:=h
    have h2 : ¬ a<b:=fun e=>by have:a.toNat<b.toNat:=e;omega
    have h3 : ¬ a=b:=fun e=>by subst e;omega
    have h4 : ¬ b=a:=fun e=>h3 e.symm
    simp [h1,h2,h3]
theorem vA (a b:ByteArray) : (a.toList == b.toList)=decide (a=b):=by
 by_cases h:a=b
 ·subst h;simp
 ·have : ¬ a.toList=b.toList:=fun e=>h (by
   have e1:=congrArg (fun l:List UInt8=>ByteArray.mk l.toArray) e;simp only [ByteArray.toList_eq] at e1;cases a;cases b;simpa using e1)
  simp [h,this]
theorem AL (a b:ByteArray) : fK a b = !(fK b a || decide (a=b)):=by
 unfold fK;rw [uH];have:decide (a.toList=b.toList)=decide (a=b):=by rw [← vA];exact (Bool.beq_eq_decide_eq _ _).symm
 rw [this]
class zS (P:Program) (t:TypeId) : Prop where
 ko:P.underlying t=some .string
def vB (b:UInt8) : List Value:=[.int .u8 b.toNat]
section
variable {P:Program} {L:Env} {w:World} {d:Option Nat} {T:TypeId} {pos:String} {af:Array Edge} {g:Option (Nat×Bool)}
theorem iC {t ty:TypeId} {x y:Operand} {a b:ByteArray} (hx:ca L x=some (.string a)) (hy:ca L y=some (.string b)) : St P ⟨d,.binOp .eql t x y ty,T,pos,af,g⟩ L w (.bool (decide (a=b))) :=
 ⟨fun _ A hA w' _=>by
  have e1:=hA.eval hx;have e2:=hA.eval hy;generalize A.eval = ρ at *
  have h1:(binOp .eql t (.string a) (.string b)).run P w' = .ok (.bool (decide (a=b))) w':=by
   have:binOp .eql t (.string a) (.string b)=Op.stringOp .eql a b:=by simp [binOp]
   rw [this,← vA];simp [Op.stringOp,pure]
  simp [execOp,e1,e2,eqGuard,h1]⟩
theorem xh {t ty:TypeId} {x y:Operand} {a b:ByteArray} (hx:ca L x=some (.string a)) (hy:ca L y=some (.string b)) : St P ⟨d,.binOp .geq t x y ty,T,pos,af,g⟩ L w (.bool (!fK a b)) :=
 ⟨fun _ A hA w' _=>by
  have e1:=hA.eval hx;have e2:=hA.eval hy;generalize A.eval = ρ at *
  have h1:(binOp .geq t (.string a) (.string b)).run P w' = .ok (.bool (!fK a b)) w':=by
   have:binOp .geq t (.string a) (.string b)=Op.stringOp .geq a b:=by simp [binOp]
   rw [this];simp [Op.stringOp,pure,fK]
  simp [execOp,e1,e2,eqGuard,h1]⟩
theorem xi {t ty:TypeId} {x y:Operand} {a b:ByteArray} (hx:ca L x=some (.string a)) (hy:ca L y=some (.string b)) : St P ⟨d,.binOp .leq t x y ty,T,pos,af,g⟩ L w (.bool (!fK b a)) :=
 ⟨fun _ A hA w' _=>by
  have e1:=hA.eval hx;have e2:=hA.eval hy;generalize A.eval = ρ at *
  have h1:(binOp .leq t (.string a) (.string b)).run P w' = .ok (.bool (!fK b a)) w':=by
   have:binOp .leq t (.string a) (.string b)=Op.stringOp .leq a b:=by simp [binOp]
   rw [this,AL b a];have e:decide (b=a)=decide (a=b):=by simp [eq_comm]
   rw [e,← vA];simp [Op.stringOp,pure,fK]
  simp [execOp,e1,e2,eqGuard,h1]⟩
theorem ph {t:TypeId} [c:zS P t] {x:Operand} {s:ByteArray} (hx:ca L x=some (.string s)) :
 St P ⟨d,.call ⟨.builtin .len,#[x],#[t]⟩,T,pos,af,g⟩ L w (.int .i64 (s.size:Int)) :=
 ⟨fun _ a ha w' _=>by simp [execOp,resolve,invoke,builtin,ha.eval hx,Builtin.len_,run_underlying c.ko,goInt]⟩
theorem zT {t:TypeId} [c:zS P t] {x y:Operand} {s:ByteArray} {i:Int} (k:Nat) (hx:ca L x=some (.string s)) (hy:ca L y=some (.int .i64 i)) (hi:i=(k:Int)) (hk:k<s.size) :
 St P ⟨d,.index t x y,T,pos,af,g⟩ L w (.int .u8 (s[k]'hk).toNat) :=
 ⟨fun _ a ha w' _=>by
  subst hi;have e1:=ha.eval hx;have e2:=ha.eval hy;generalize a.eval = ρ at *
  have:=run_index_string (P:=P) w' t s .i64 (k:Int) c.ko
  rw [dif_pos ⟨by omega,by omega⟩] at this;simp [execOp,e1,e2,this]⟩
end
section
variable {P:Program} {n:Nat} {ops:Array Oper} {Q:Exit→Act→World→Prop} {rest:List Oper} {L:Env} {w:World} {T:TypeId} {pos:String} {af:Array Edge}
theorem SW.AM {d:Nat} {src dst e:TypeId} [S:zS P src] [D:bw P dst e 1] (he:P.underlying e=some (.int .u8)) {x:Operand} {s:ByteArray} (hx:ca L x=some (.string s)) (hn:Nat.blt d n=true)
 (h:∀ b c w',Ext w w'→w.heap.size≤b→Sl w' 1 vB (some ⟨b,0,none⟩) s.size s.data.toList→SW P n ops (.fr Q) rest ((d,.slice (some ⟨b,0,none⟩) s.size c)::L) w') :
 SW P n ops (.fr Q) (⟨some d,.convert src dst x,T,pos,af,none⟩::rest) L w :=
 ⟨fun a ha=>by
  simp only [swp,wpList,Region.wanted,if_true];refine .inl ?_;unfold Oper.wp;have hr:=Lib.run_convert_string_bytes (P:=P) w src dst e s S.ko D.ko he
  have:(execOp a.eval ⟨some d,.convert src dst x,T,pos,af,none⟩).run P w = .ok (.value (.slice (some ⟨w.heap.size,0,none⟩) s.size (grownCap w s.size 0 e))) (Lib.bytesWorld w e s):=by
   simp [execOp,ha.eval hx,hr]
  rw [this,Oper.upon_value];have hE:Ext w (Lib.bytesWorld w e s):=⟨rfl,rfl,rfl,by rw [Lib.bytesWorld_size];omega,fun j hj=>Lib.bytesWorld_at_old w e s j hj⟩
  refine (h _ _ _ hE (Nat.le_refl _) ⟨?_,fun _=>rfl,fun i hi j u hu => ?_⟩).out _ (ha.put hn _)
  ·exact Array.length_toList
  ·have pL:i<s.size:=by rw [Array.length_toList] at hi;exact hi
   have:=Lib.bytesWorld_cell w e s i pL
   match j,hu with
   | 0,hu =>
     simp only [vB,List.getElem?_cons_zero,Option.some.injEq] at hu;rw [add_zero]
     have e2:(((some (⟨w.heap.size,0,none⟩ : Addr)).getD default).add (i*1))=⟨w.heap.size,i,none⟩:=by
      simp only [Option.getD_some,Nat.mul_one];unfold Addr.add;split<;>simp_all
     rw [e2,this,← hu];have e3:s.data.toList.getD i 0=s.data.toList[i]:=by simp [List.getD,pL]
     rw [e3]
   | j+1,hu=>simp [vB] at hu⟩
end
open Go.RowKit
instance:zS Tryz.prog 9:=⟨by kernel_rfl⟩
theorem Gp:Tryz.prog.underlying 5=some (.int .u8):=by kernel_rfl
theorem oq (A:Option Addr) (n c:Nat) (l:List UInt8) (w:World) (hl:Sl w 1 vB A n l) (f:FuncId) (cap:List Value) [Body Tryz.prog f] (p:UInt8→Bool) (arg:UInt8→Value) (mF:∀ x,arg x=(if 1=1 then (vB x)[0]?.getD undef else .agg (vB x).toArray))
 (hf:∀ x∈l,∀ w',Ext w w'→bt Tryz.prog f ([arg x]++cap) w' fun v _=>v = .bool (p x)) (hn:n≤9223372036854775807) :
 bt Tryz.prog 101 [.slice A n c,.func (.func f) #[] cap.toArray] w fun v _=>v = .int .i64 (idxOf p l):=by
 refine aL Tryz.func101 rfl Tryz.ntmps101 rfl ?_;have hw:=Ext.refl w;have hA:=hl.base;refine Wz ?_;refine CW.loop (fun k:Nat=>[(0,.slice A n c),(1,.func (.func f) #[] cap.toArray),(7,.int .i64 (n:Int)),(8,.int .i64 (k:Int))]) (fun k w'=>k≤n∧Ext w w' ∧ ∀ j (hj:j<l.length),j<k→p l[j]=false) (fun k=>n-k) 0 ⟨rfl,rfl,rfl,rfl,trivial⟩ ⟨by omega,hw,fun j _ h=>by omega⟩ ?_;clear hw;rintro k w' ⟨oO,hw,hI⟩
 by_cases hk:k<n
 ·have hx:=mF (l[k]'(hl.lt hk));have oP:=hf (l[k]'(hl.lt hk)) (List.getElem_mem _);rw [hx] at oP;repeat' (first|refine Wz ?_|refine SW.st (ao hw rfl (hl.one hk rfl)) rfl ?_)
  refine SW.oI rfl rfl rfl (oP _ hw) fun v w1 ab hv => ?_
  subst hv;replace hw:=Ext.trans hw ab;cases hp:p (l[k]'(hl.lt hk))
  ·refine Wz ?_;refine ae.again (k+1) ⟨rfl,rfl,rfl,rfl,trivial⟩ (by omega) ⟨by omega,hw,fun j hj h => ?_⟩;by_cases k7:j=k
   ·subst k7;exact hp
   ·exact hI j hj (by omega)
  ·refine Wz ?_;exact ae.aN rfl rfl ⟨_,rfl,hw,by rw [gX (hl.lt hk) hp hI]⟩
 ·refine Wz ?_;exact ae.aN rfl rfl ⟨_,rfl,hw,by rw [(fj (fun j hj=>hI j hj (by have:=hl.len;omega))).1]⟩
theorem iD (A:Option Addr) (n c:Nat) (l:List Slab) (w:World) (hl:Sl w 3 aZ A n l) (f:FuncId) (cap:List Value) [Body Tryz.prog f] (p:Slab→Bool) (arg:Slab→Value) (mF:∀ x,arg x=(if 3=1 then (aZ x)[0]?.getD undef else .agg (aZ x).toArray))
 (hf:∀ x∈l,∀ w',Ext w w'→bt Tryz.prog f ([arg x]++cap) w' fun v _=>v = .bool (p x)) (hn:n≤9223372036854775807) :
 bt Tryz.prog 47 [.slice A n c,.func (.func f) #[] cap.toArray] w fun v _=>v = .int .i64 (idxOf p l):=by
 refine aL Tryz.func47 rfl Tryz.ntmps47 rfl ?_;have hw:=Ext.refl w;have hA:=hl.base;refine Wz ?_;refine CW.loop (fun k:Nat=>[(0,.slice A n c),(1,.func (.func f) #[] cap.toArray),(7,.int .i64 (n:Int)),(8,.int .i64 (k:Int))]) (fun k w'=>k≤n∧Ext w w' ∧ ∀ j (hj:j<l.length),j<k→p l[j]=false) (fun k=>n-k) 0 ⟨rfl,rfl,rfl,rfl,trivial⟩ ⟨by omega,hw,fun j _ h=>by omega⟩ ?_;clear hw;rintro k w' ⟨oO,hw,hI⟩
 by_cases hk:k<n
 ·have hx:=mF (l[k]'(hl.lt hk));have oP:=hf (l[k]'(hl.lt hk)) (List.getElem_mem _);rw [hx] at oP;repeat' (first|refine Wz ?_|refine SW.st (aH hw rfl rfl ((hl.all hk))) rfl ?_)
  refine SW.oI rfl rfl rfl (oP _ hw) fun v w1 ab hv => ?_
  subst hv;replace hw:=Ext.trans hw ab;cases hp:p (l[k]'(hl.lt hk))
  ·refine Wz ?_;refine ae.again (k+1) ⟨rfl,rfl,rfl,rfl,trivial⟩ (by omega) ⟨by omega,hw,fun j hj h => ?_⟩;by_cases k7:j=k
   ·subst k7;exact hp
   ·exact hI j hj (by omega)
  ·refine Wz ?_;exact ae.aN rfl rfl ⟨_,rfl,hw,by rw [gX (hl.lt hk) hp hI]⟩
 ·refine Wz ?_;exact ae.aN rfl rfl ⟨_,rfl,hw,by rw [(fj (fun j hj=>hI j hj (by have:=hl.len;omega))).1]⟩
theorem kH (A:Option Addr) (n c:Nat) (l:List dn) (w:World) (hl:Sl w 6 db A n l) (f:FuncId) (cap:List Value) [Body Tryz.prog f] (p:dn→Bool) (arg:dn→Value) (mF:∀ x,arg x=(if 6=1 then (db x)[0]?.getD undef else .agg (db x).toArray))
 (hf:∀ x∈l,∀ w',Ext w w'→bt Tryz.prog f ([arg x]++cap) w' fun v _=>v = .bool (p x)) (hn:n≤9223372036854775807) :
 bt Tryz.prog 39 [.slice A n c,.func (.func f) #[] cap.toArray] w fun v _=>v = .int .i64 (idxOf p l):=by
 refine aL Tryz.func39 rfl Tryz.ntmps39 rfl ?_;have hw:=Ext.refl w;have hA:=hl.base;refine Wz ?_;refine CW.loop (fun k:Nat=>[(0,.slice A n c),(1,.func (.func f) #[] cap.toArray),(7,.int .i64 (n:Int)),(8,.int .i64 (k:Int))]) (fun k w'=>k≤n∧Ext w w' ∧ ∀ j (hj:j<l.length),j<k→p l[j]=false) (fun k=>n-k) 0 ⟨rfl,rfl,rfl,rfl,trivial⟩ ⟨by omega,hw,fun j _ h=>by omega⟩ ?_;clear hw;rintro k w' ⟨oO,hw,hI⟩
 by_cases hk:k<n
 ·have hx:=mF (l[k]'(hl.lt hk));have oP:=hf (l[k]'(hl.lt hk)) (List.getElem_mem _);rw [hx] at oP;repeat' (first|refine Wz ?_|refine SW.st (aH hw rfl rfl ((hl.all hk))) rfl ?_)
  refine SW.oI rfl rfl rfl (oP _ hw) fun v w1 ab hv => ?_
  subst hv;replace hw:=Ext.trans hw ab;cases hp:p (l[k]'(hl.lt hk))
  ·refine Wz ?_;refine ae.again (k+1) ⟨rfl,rfl,rfl,rfl,trivial⟩ (by omega) ⟨by omega,hw,fun j hj h => ?_⟩;by_cases k7:j=k
   ·subst k7;exact hp
   ·exact hI j hj (by omega)
  ·refine Wz ?_;exact ae.aN rfl rfl ⟨_,rfl,hw,by rw [gX (hl.lt hk) hp hI]⟩
 ·refine Wz ?_;exact ae.aN rfl rfl ⟨_,rfl,hw,by rw [(fj (fun j hj=>hI j hj (by have:=hl.len;omega))).1]⟩
theorem mu (A:Option Addr) (n c:Nat) (l:List UInt8) (w:World) (hl:Sl w 1 vB A n l) (f:FuncId) (cap:List Value) [Body Tryz.prog f] (p:UInt8→Bool) (arg:UInt8→Value) (mF:∀ x,arg x=(if 1=1 then (vB x)[0]?.getD undef else .agg (vB x).toArray))
 (hf:∀ x∈l,∀ w',Ext w w'→bt Tryz.prog f ([arg x]++cap) w' fun v _=>v = .bool (p x)) (hn:n≤9223372036854775807) :
 bt Tryz.prog 68 [.slice A n c,.func (.func f) #[] cap.toArray] w fun v _=>v = .bool (l.any p):=by
 refine aL Tryz.func68 rfl Tryz.ntmps68 rfl ?_;have hw:=Ext.refl w;repeat' (first|refine Wz ?_|(refine SW.call rfl rfl (oq _ _ _ _ _ (hl.ext hw) f cap p arg mF (fun x hx w1 h1=>hf x hx w1 (Ext.trans hw h1)) hn) ?_;intro v w1 ab hv;subst hv;replace hw:=Ext.trans hw ab;clear ab))
 exact ae.aN rfl rfl ⟨_,rfl,hw,by rw [iz]⟩
theorem mY (A:Option Addr) (n c:Nat) (l:List dn) (w:World) (hl:Sl w 6 db A n l) (f:FuncId) (cap:List Value) [Body Tryz.prog f] (p:dn→Bool) (arg:dn→Value) (mF:∀ x,arg x=(if 6=1 then (db x)[0]?.getD undef else .agg (db x).toArray))
 (hf:∀ x∈l,∀ w',Ext w w'→bt Tryz.prog f ([arg x]++cap) w' fun v _=>v = .bool (p x)) (hn:n≤9223372036854775807) :
 bt Tryz.prog 36 [.slice A n c,.func (.func f) #[] cap.toArray] w fun v _=>v = .bool (l.any p):=by
 refine aL Tryz.func36 rfl Tryz.ntmps36 rfl ?_;have hw:=Ext.refl w;repeat' (first|refine Wz ?_|(refine SW.call rfl rfl (kH _ _ _ _ _ (hl.ext hw) f cap p arg mF (fun x hx w1 h1=>hf x hx w1 (Ext.trans hw h1)) hn) ?_;intro v w1 ab hv;subst hv;replace hw:=Ext.trans hw ab;clear ab))
 exact ae.aN rfl rfl ⟨_,rfl,hw,by rw [iz]⟩
def lx (b:UInt8) : Bool:=(decide ((b.toNat:Int)<97) || decide (122<(b.toNat:Int))) && (decide ((b.toNat:Int)<48) || decide (57<(b.toNat:Int)))
def gm (s:ByteArray) : Bool:=decide (1≤(s.size:Int)∧(s.size:Int)≤8) && !(s.data.toList.any lx)
theorem Ej {s:ByteArray} (h : 1≤s.size∧s.size≤8) (k:s.data.toList.any lx=false) : gm s=true:=by
 unfold gm;rw [k,decide_eq_true (by omega)]
 rfl
theorem yD {s:ByteArray} (h : ¬ (1≤s.size∧s.size≤8)) : gm s=false:=by
 unfold gm;rw [decide_eq_false (by omega)]
 rfl
theorem uI {s:ByteArray} (k:s.data.toList.any lx=true) : gm s=false:=by
 unfold gm;rw [k];simp
theorem CM (b:UInt8) (w:World) : bt Tryz.prog 69 ([.int .u8 b.toNat]++[]) w fun v _=>v = .bool (lx b):=by
 refine aL Tryz.func69 rfl Tryz.ntmps69 rfl ?_;have hw:=Ext.refl w;unfold lx;obtain ⟨z,hz⟩ : ∃ z:Int,(b.toNat:Int)=z:=⟨_,rfl⟩;rw [hz];by_cases a1:z<97
 ·by_cases a2:z<48
  ·refine Wz ?_;exact ae.aN rfl rfl ⟨_,rfl,hw,by simp [a1,a2]<;>omega⟩
  ·refine Wz ?_;exact ae.aN rfl rfl ⟨_,rfl,hw,by simp [a1,a2]<;>omega⟩
 ·by_cases a2 : 122<z
  ·refine Wz ?_;exact ae.aN rfl rfl ⟨_,rfl,hw,by simp [a1,a2]<;>omega⟩
  ·refine Wz ?_;exact ae.aN rfl rfl ⟨_,rfl,hw,by simp [a1,a2]<;>omega⟩
theorem CN (s:ByteArray) (w:World) (hs:s.size≤140737488351232) : bt Tryz.prog 38 [.string s] w fun v _=>v = .bool (gm s):=by
 refine aL Tryz.func38 rfl Tryz.ntmps38 rfl ?_;have hw:=Ext.refl w;by_cases h0:s=⟨#[]⟩
 ·subst h0;repeat' (first|refine Wz ?_|refine SW.cb rfl rfl rfl (fun h => ?_) (fun h => ?_)|(refine SW.st (iC rfl rfl) rfl ?_))
  all_goals first|(exfalso;simp_all;done)|skip
  exact ae.aN rfl rfl ⟨_,rfl,hw,rfl⟩
 ·by_cases h8:s.size≤8
  ·have h1 : 1≤s.size:=by
    rcases Nat.eq_zero_or_pos s.size with h|h
    ·exact absurd (by cases s;simp [ByteArray.size] at h;subst h;rfl) h0
    ·exact h
   have cG:decide (s=⟨#[]⟩)=false:=decide_eq_false h0
   repeat' (first|refine Wz ?_|(refine SW.st ((iC rfl rfl).eq (congrArg Value.bool cG)) rfl ?_)|refine SW.st (ph rfl) rfl ?_)
   refine SW.AM (e:=5) Gp rfl rfl fun b c w1 ab hb hS => ?_
   replace hw:=Ext.trans hw ab;refine SW.call rfl rfl (mu _ _ _ _ _ hS _ [] lx (fun x => .int .u8 x.toNat) (fun x=>rfl) (fun x _ w1 _=>CM x w1) (by omega)) fun v w2 cw hv => ?_
   subst hv;replace hw:=Ext.trans hw cw;refine Wz ?_;refine ae.aN rfl rfl ⟨_,rfl,hw,?_⟩;cases k:s.data.toList.any lx
   ·rw [Ej ⟨h1,h8⟩ k];rfl
   ·rw [uI k];rfl
  ·have cG:decide (s=⟨#[]⟩)=false:=decide_eq_false h0
   rw [yD (by omega)];repeat' (first|refine Wz ?_|(refine SW.st ((iC rfl rfl).eq (congrArg Value.bool cG)) rfl ?_)|refine SW.st (ph rfl) rfl ?_)
   exact ae.aN rfl rfl ⟨_,rfl,hw,rfl⟩
theorem xj (s:ByteArray) (w:World) (hs:s.size≤140737488351232) : bt Tryz.prog 53 [.string s] w fun v _=>v = .bool (gm s):=by
 refine aL Tryz.func53 rfl Tryz.ntmps53 rfl ?_;have hw:=Ext.refl w;refine Wz ?_;have DD:s.data.toList.length=s.size:=Array.length_toList
 refine CW.loop (fun k:Nat=>[(0,.string s),(3,.int .i64 (k:Int))]) (fun k w'=>k≤s.size∧Ext w w' ∧ ∀ (i:Nat) (h:i<s.data.toList.length),i<k→lx s.data.toList[i]=false) (fun k=>s.size-k) 0 ⟨rfl,rfl,trivial⟩ ⟨by omega,hw,fun i h h'=>by omega⟩ ?_;clear hw;rintro k w' ⟨hk,hw,hI⟩
 by_cases ns:k<s.size
 ·have de:k<s.data.toList.length:=by omega
  have eb:s[k]'ns=s.data.toList[k]:=rfl
  obtain ⟨q,hq⟩ : ∃ q,lx s.data.toList[k]=q:=⟨_,rfl⟩;obtain ⟨z,hz⟩ : ∃ z:Int,((s.data.toList[k]).toNat:Int)=z:=⟨_,rfl⟩;have lF:(((s[k]'ns).toNat:Nat) : Int)=z:=hz
  have Hg:=hq;unfold lx at Hg;rw [hz] at Hg;cases q
  ·have hc:(97≤z∧z≤122)∨(48≤z∧z≤57):=by
    simp at Hg;omega
   repeat' (first|refine Wz ?_|(refine CW.bA rfl ?_)|refine SW.cb rfl rfl rfl (fun h => ?_) (fun h => ?_)|refine SW.st (ph rfl) rfl ?_|(refine SW.st ((zT k rfl rfl rfl ns).eq (congrArg (Value.int .u8) lF)) rfl ?_))
   all_goals try omega
   all_goals exact ae.again (k+1) ⟨rfl,rfl,trivial⟩ (by omega) ⟨by omega,hw,fun i h h'=>by
    by_cases e:i=k
    ·subst e;exact hq
    ·exact hI i h (by omega)⟩
  ·have hc : ¬ ((97≤z∧z≤122)∨(48≤z∧z≤57)):=by
    simp at Hg;omega
   have hn:gm s=false:=uI (List.any_eq_true.2 ⟨_,List.getElem_mem de,hq⟩)
   rw [hn];repeat' (first|refine Wz ?_|(refine CW.bF rfl ?_)|refine SW.cb rfl rfl rfl (fun h => ?_) (fun h => ?_)|refine SW.st (ph rfl) rfl ?_|(refine SW.st ((zT k rfl rfl rfl ns).eq (congrArg (Value.int .u8) lF)) rfl ?_))
   all_goals try omega
   all_goals exact ae.aN rfl rfl ⟨_,rfl,hw,rfl⟩
 ·have hn:s.data.toList.any lx=false:=by
   rw [List.any_eq_false];intro x hx;obtain ⟨i,hi,rfl⟩:=List.getElem_of_mem hx;rw [hI i hi (by omega)];simp
  repeat' (first|refine Wz ?_|(refine SW.call rfl rfl (bM _ _ _ _) ?_;intro v w1 ab hv;subst hv;replace hw:=Ext.trans hw ab;clear ab)|refine SW.st (ph rfl) rfl ?_)
  refine ae.aN rfl rfl ⟨_,rfl,hw,?_⟩;unfold gm;rw [hn];simp
open Go.RowKit
def dX (x:Int) : Int×Int×Int:=if 1≤x∧x≤64 then (if 4≤16 / x then (0,16 / x,0) else if 4≤32 / x then (1,32 / x,0) else (2,64 / x,0)) else (0,0,1)
def jg (x:Int) : Value := .tuple #[.int .i64 (dX x).1,.int .i64 (dX x).2.1,.int .i64 (dX x).2.2]
theorem vC (x:Int) (w:World) : bt Tryz.prog 83 [.int .i64 x] w fun v _=>v=jg x:=by
 refine aL Tryz.func83 rfl Tryz.ntmps83 rfl ?_;have hw:=Ext.refl w;repeat' (first|refine Wz ?_|(first|refine CW.gi rfl (fun h => ?_) (fun h => ?_)|refine CW.gj rfl (fun h => ?_) (fun h => ?_)|(apply CW.aO mixed;(· kernel_rfl);rotate_left;intro w1 ab;replace hw:=Ext.trans hw ab;clear ab;rotate_right))|(refine SW.call rfl rfl (bM _ _ _ _) ?_;intro v w1 ab hv;subst hv;replace hw:=Ext.trans hw ab;clear ab)|exact SW.bx rfl)
 all_goals refine ae.z9 rfl rfl rfl rfl ⟨_,rfl,hw,?_⟩
 all_goals unfold jg dX
 ·rw [if_neg (by omega)]
 ·rw [if_pos (by omega),if_pos (by omega)]
 ·rw [if_pos (by omega),if_neg (by omega),if_pos (by omega)]
 ·rw [if_pos (by omega),if_neg (by omega),if_neg (by omega)]
theorem yE (x:Int) (w:World) : bt Tryz.prog 64 [.int .i64 x] w fun v _=>v=jg x:=by
 refine aL Tryz.func64 rfl Tryz.ntmps64 rfl ?_;have hw:=Ext.refl w;repeat' (first|refine Wz ?_|(refine CW.gi rfl (fun h => ?_) (fun h => ?_))|refine SW.cb rfl rfl rfl (fun h => ?_) (fun h => ?_))
 ·refine ae.z9 rfl rfl rfl rfl ⟨_,rfl,hw,?_⟩;unfold jg dX;rw [if_neg (by omega)]
 ·refine ae.z9 rfl rfl rfl rfl ⟨_,rfl,hw,?_⟩;unfold jg dX;rw [if_neg (by omega)]
 ·have hx : 1≤x∧x≤64:=by omega
  refine CW.loop (fun k:Nat=>[(0,.int .i64 x),(5,.int .i64 (k:Int))]) (fun k w'=>k≤2∧Ext w w'∧(1≤k → ¬ 4≤16 / x)∧(2≤k → ¬ 4≤32 / x)) (fun k=>2-k) 0 ⟨rfl,rfl,trivial⟩ ⟨by omega,hw,by omega,by omega⟩ ?_;clear hw;rintro k w' ⟨hk,hw,h1,h2⟩
  obtain rfl|rfl|rfl:k=0∨k=1∨k=2:=by omega
  ·refine Wz ?_;refine SW.st (fD (r:=16) rfl rfl (by decide) (by decide) (by decide) (by decide) (by decide)) rfl ?_;repeat' (first|refine Wz ?_|refine SW.cb rfl rfl rfl (fun h => ?_) (fun h => ?_))
   ·refine ae.z9 rfl rfl rfl rfl ⟨_,rfl,hw,?_⟩;unfold jg dX;rw [if_pos (by omega),if_pos (by omega)]
    rfl
   ·exact ae.again 1 ⟨rfl,rfl,trivial⟩ (by omega) ⟨by omega,hw,fun _=>by omega,fun h=>by omega⟩
  ·refine Wz ?_;refine SW.st (fD (r:=32) rfl rfl (by decide) (by decide) (by decide) (by decide) (by decide)) rfl ?_;repeat' (first|refine Wz ?_|refine SW.cb rfl rfl rfl (fun h => ?_) (fun h => ?_))
   ·refine ae.z9 rfl rfl rfl rfl ⟨_,rfl,hw,?_⟩;have:=h1 (by omega)
    unfold jg dX;rw [if_pos (by omega),if_neg (by omega),if_pos (by omega)]
    rfl
   ·exact ae.again 2 ⟨rfl,rfl,trivial⟩ (by omega) ⟨by omega,hw,fun _=>h1 (by omega),fun _=>by omega⟩
  ·refine Wz ?_;refine SW.st (fD (r:=64) rfl rfl (by decide) (by decide) (by decide) (by decide) (by decide)) rfl ?_;have Nk:=h1 (by omega);have mi:=h2 (by omega);repeat' (first|refine Wz ?_|refine SW.cb rfl rfl rfl (fun h => ?_) (fun h => ?_))
   all_goals refine ae.z9 rfl rfl rfl rfl ⟨_,rfl,hw,?_⟩
   all_goals unfold jg dX
   all_goals rw [if_pos (by omega),if_neg (by omega),if_neg (by omega)]
   all_goals rfl
open Go.RowKit
def AN (b:Bool) : List Value:=[.bool b]
instance:fB AN 1:=⟨fun _=>rfl,fun _ u hu=>by simp [AN] at hu;subst hu;rfl⟩
theorem vD (A:Option Addr) (n c:Nat) (l:List Int) (x:Int) (w:World) (hl:Sl w 1 bh A n l) (hn:n≤9223372036854775807) :
 bt Tryz.prog 74 [.slice A n c,.int .i64 x] w fun v _ => ∃ i:Int,v = .int .i64 i∧(0≤i↔x∈l):=by
 refine aL Tryz.func74 rfl Tryz.ntmps74 rfl ?_;have hw:=Ext.refl w;have hA:=hl.base;have ma:=hl.len;refine Wz ?_
 refine CW.loop (fun k:Nat=>[(0,.slice A n c),(1,.int .i64 x),(7,.int .i64 (n:Int)),(8,.int .i64 (k:Int))]) (fun k w'=>k≤n∧Ext w w' ∧ ∀ (i:Nat) (h:i<l.length),i<k→l[i]≠x)
  (fun k=>n-k) 0 ⟨rfl,rfl,rfl,rfl,trivial⟩ ⟨by omega,hw,fun i h hi=>by omega⟩ ?_
 clear hw;rintro k w' ⟨hk,hw,hI⟩
 by_cases bY:k<n
 ·repeat' (first|refine Wz ?_|(refine CW.gi rfl (fun h => ?_) (fun h => ?_))|refine SW.st (ao hw rfl (hl.one bY rfl)) rfl ?_)
  ·refine ae.aN rfl rfl ⟨_,rfl,hw,_,rfl,?_⟩;have hx:x∈l:=by rw [h];exact List.getElem_mem _
   simp [hx]
  ·refine ae.again (k+1) ⟨rfl,rfl,rfl,rfl,trivial⟩ (by omega) ⟨by omega,hw,fun i h' hi => ?_⟩;by_cases zv:i=k
   ·subst zv;exact fun e=>h e.symm
   ·exact hI i h' (by omega)
 ·refine Wz ?_;refine ae.aN rfl rfl ⟨_,rfl,hw,_,rfl,?_⟩
  have hx : ¬ x∈l:=fun hm=>by
   obtain ⟨i,hi,e⟩:=List.getElem_of_mem hm;exact hI i hi (by omega) e
  simp [hx]
theorem gG (A:Option Addr) (n c:Nat) (l:List Int) (x:Int) (w:World) (hl:Sl w 1 bh A n l) (hn:n≤9223372036854775807) :
 bt Tryz.prog 49 [.slice A n c,.int .i64 x] w fun v _=>v = .bool (decide (x∈l)):=by
 refine aL Tryz.func49 rfl Tryz.ntmps49 rfl ?_;have hw:=Ext.refl w;refine Wz ?_;refine SW.call rfl rfl (vD _ _ _ _ _ _ (hl.ext hw) hn) fun v w1 ab hv => ?_
 obtain ⟨i,rfl,hi⟩:=hv;replace hw:=Ext.trans hw ab;refine Wz ?_;refine ae.aN rfl rfl ⟨_,rfl,hw,?_⟩;congr 1
 rw [decide_eq_decide];exact hi
inductive dJ (l:List Int) (most:Int) : Int→List Int→Option (List Int)→Prop where
 | done (out:List Int) : dJ l most (-1) out (some out)
 | bad {x:Int} {out:List Int} (h:x ≠ -1) (hb:most≤out.length ∨ ¬ (0≤x∧x<l.length)∨x∈out) : dJ l most x out none
 | step {k:Nat} {out:List Int} {r:Option (List Int)} (h1:out.length<most) (hk:k<l.length) (h3:(k:Int)∉out) (h:dJ l most l[k] (out++[(k:Int)]) r) : dJ l most k out r
theorem dJ.km {l:List Int} {most x:Int} {out:List Int} {r s:Option (List Int)} (h:dJ l most x out r) : dJ l most x out s→r=s:=by
 induction h with
 | done out=>intro h';generalize hx:(-1:Int)=y at h';cases h' with
   | done=>rfl
   | bad h hb=>exact absurd hx.symm h
   | step h1 hk h3 h=>omega
 | @bad x out h hb=>intro h';cases h' with
   | done=>exact absurd rfl h
   | bad=>rfl
   | @step k _ _ h1 hk h3 h'=>rcases hb with h0|h0|h0<;>first|omega|exact absurd h0 h3
 | @step k out r h1 hk h3 h ih=>intro h';generalize hx:(k:Int)=y at h';cases h' with
   | done=>omega
   | bad h hb=>subst hx;rcases hb with h0|h0|h0<;>first|omega|exact absurd h0 h3
   | @step k' _ _ Nk oO Ox h' =>
     have:k=k':=by omega
     subst this;exact ih h'
def mZ (n:Nat) (out:List Int) : Nat:=((List.range n).filter fun i:Nat=>decide ((i:Int)∉out)).length
theorem uJ {n k:Nat} {out:List Int} (hk:k<n) (h:(k:Int)∉out) : mZ n (out++[(k:Int)])<mZ n out:=by
 unfold mZ
 have e:((List.range n).filter fun i:Nat=>decide ((i:Int)∉out++[(k:Int)]))=((List.range n).filter fun i:Nat=>decide ((i:Int)∉out)).filter fun i:Nat=>decide (i≠k):=by
  rw [List.filter_filter];apply List.filter_congr;intro i _;rw [← Bool.decide_and,decide_eq_decide];simp only [List.mem_append,List.mem_singleton,not_or];constructor
  ·rintro ⟨h1,h2⟩;exact ⟨fun e=>h2 (by rw [e]),h1⟩
  ·rintro ⟨h1,h2⟩;exact ⟨h2,fun e=>h1 (by omega)⟩
 rw [e];refine List.length_filter_lt_length_iff_exists.2 ⟨k,?_,by simp⟩;simp [hk,h]
open Go.RowKit
theorem Own.vE {α β:Type} {w:World} {lo nj:Nat} {e e':TypeId} {sz J6:Nat} {enc : α → List Value} {Ge : β → List Value} {A B:Option Addr} {m c k d:Nat} {l:List α} {l':List β}
 (hO:Own w lo e sz enc A m c l) (hS:Own w nj e' J6 Ge B k d l') (cG:Nat.beq e e'=false) : aT A c=none∨aT A c≠aT B d:=by
 rcases hO.row with ⟨_,rfl⟩|⟨hc,g,ga,rfl,_,h2,_⟩
 ·exact .inl (by simp [aT])
 ·right;rcases hS.row with ⟨_,rfl⟩|⟨hd,g',Nl,rfl,_,mi,_⟩
  ·simp [aT,Nat.pos_iff_ne_zero.1 hc]
  ·simp only [aT,Nat.pos_iff_ne_zero.1 hc,Nat.pos_iff_ne_zero.1 hd,if_false,Option.map_some,ne_eq,Option.some.injEq];rintro rfl;rw [h2] at mi;injection mi with mi
   injection mi with _ h _
   subst h;simp at cG
def zU (lo:Nat) (r:Option (List Int)) (v:Value) (w:World) : Prop:=match r with
 | none=>v = .tuple #[.slice none 0 0,.int .i64 8]
 | some out => ∃ A c,v = .tuple #[.slice A out.length c,.int .i64 0]∧Own w lo 3 1 bh A out.length c out∧out.length≤17592186044416
theorem sM (n:Nat) : mZ n []≤n:=Nat.le_trans (List.length_filter_le _ _) (by simp)
theorem yF (A:Option Addr) (n c:Nat) (l:List Int) (x most:Int) (w:World) (hl:Sl w 1 bh A n l) (hn:n*8≤140737488355328) :
 bt Tryz.prog 98 [.slice A n c,.int .i64 x,.int .i64 most] w fun v w' => ∃ r,dJ l most x [] r∧zU w.heap.size r v w':=by
 refine aL Tryz.func98 rfl Tryz.ntmps98 rfl ?_;have hw:=Ext.refl w;have tD:n≤2305843009213693952:=by omega
 have hA:=hl.base;have ma:=hl.len;refine Wz ?_
 refine CW.loop (fun s:List Int×Int×Option Addr×Nat=>[(0,.slice A n c),(1,.int .i64 s.2.1),(2,.int .i64 most),(8,.slice s.2.2.1 s.1.length s.2.2.2)])
  (fun s w'=>s.1.length+mZ n s.1≤n∧(∀ r,dJ l most s.2.1 s.1 r→dJ l most x [] r)∧Ext w w'∧Own w' w.heap.size 3 1 bh s.2.2.1 s.1.length s.2.2.2 s.1) (fun s=>mZ n s.1) ([],x,none,0) ⟨rfl,rfl,rfl,rfl,trivial⟩
  ⟨by simpa using sM n,fun _ h=>h,hw,Own.eR _ _ _ _ _ _⟩ ?_
 clear hw;rintro ⟨out,y,A1,c1⟩ w' ⟨hk,hF,hw,hO⟩
 simp only at hk hF hO ⊢;by_cases hy:y = -1
 ·refine Wz ?_;refine ae.cu rfl rfl rfl ⟨_,rfl,hw,some out,hF _ (by subst hy;exact .done _),A1,c1,rfl,hO,by omega⟩
 ·by_cases hm:most≤out.length
  ·refine Wz ?_;exact ae.cu rfl rfl rfl ⟨_,rfl,hw,none,hF _ (.bad hy (.inl hm)),rfl⟩
  ·by_cases hx : 0≤y∧y<n
   ·obtain ⟨k,rfl⟩:=Int.eq_ofNat_of_zero_le hx.1;have bY:k<n:=by omega
    by_cases ly:(k:Int)∈out
    ·repeat' (first|refine Wz ?_|(refine SW.call rfl rfl (rU _ _ _ _ _ _ tD) ?_;intro v w1 ab hv;subst hv;replace hw:=Ext.trans hw ab;replace hO:=hO.ext ab;clear ab))
     refine SW.call rfl rfl (gG _ _ _ _ _ _ hO.sl (by omega)) fun v w1 ab hv => ?_
     rw [decide_eq_true ly] at hv;subst hv;replace hw:=Ext.trans hw ab;refine Wz ?_;exact ae.cu rfl rfl rfl ⟨_,rfl,hw,none,hF _ (.bad hy (.inr (.inr ly))),rfl⟩
    ·have hu:=uJ bY ly;repeat' (first|refine Wz ?_|(refine SW.call rfl rfl (rU _ _ _ _ _ _ tD) ?_;intro v w1 ab hv;subst hv;replace hw:=Ext.trans hw ab;replace hO:=hO.ext ab;clear ab))
     refine SW.call rfl rfl (gG _ _ _ _ _ _ hO.sl (by omega)) fun v w1 ab hv => ?_
     rw [decide_eq_false ly] at hv;subst hv;replace hw:=Ext.trans hw ab;replace hO:=hO.ext ab;refine Wz ?_;refine SW.bJ rfl rfl rfl rfl rfl fun b w1 ab hb hB => ?_
     replace hw:=Ext.trans hw ab;replace hO:=hO.ext ab;refine SW.append hO (aJ.mb (enc:=bh) hB) hw.size rfl rfl rfl (by omega) (by omega) fun A2 c2 w2 fT hg => ?_
     replace hw:=aE hw hg (Nat.le_refl _) hO.aM;repeat' (first|refine Wz ?_|refine SW.st (ao hw rfl (hl.one bY rfl)) rfl ?_)
     refine ae.again (out++[(k:Int)],l[k]'(hl.lt bY),A2,c2) ⟨rfl,rfl,rfl,by simp;rfl,trivial⟩ hu ⟨by simp only [List.length_append,List.length_singleton];omega,fun r h=>hF r (.step (by omega) (hl.lt bY) ly h),hw,by simpa using fT⟩
   ·repeat' (first|refine Wz ?_|(refine SW.call rfl rfl (rU _ _ _ _ _ _ tD) ?_;intro v w1 ab hv;subst hv;replace hw:=Ext.trans hw ab;replace hO:=hO.ext ab;clear ab))
    exact ae.cu rfl rfl rfl ⟨_,rfl,hw,none,hF _ (.bad hy (.inr (.inl (by omega)))),rfl⟩
def m6 (n:Nat) (out:List Int) : List Bool:=(List.range n).map fun i:Nat=>decide ((i:Int)∈out)
theorem AO (n:Nat) : m6 n []=List.replicate n false:=by
 apply List.ext_getElem (by simp [m6]);intro i h1 h2;simp [m6]
theorem AP {n k:Nat} {out:List Int}:(m6 n out).set k true=m6 n (out++[(k:Int)]):=by
 apply List.ext_getElem (by simp [m6]);intro i h1 h2;rw [List.getElem_set];by_cases h:k=i
 ·subst h;simp [m6]
 ·have : ¬ i=k:=fun e=>h e.symm
  simp [m6,h,Int.natCast_inj,this]
theorem ot {w:World} {B:Option Addr} {n k:Nat} {out:List Int} (h:Sl w 1 AN B n (m6 n out)) (hk:k<n) : w.cell? ((B.getD default).add (k*1))=some (.bool (decide ((k:Int)∈out))):=by
 have:=h.one (u := .bool (decide ((k:Int)∈out))) hk (by simp [AN,m6])
 exact this
theorem vF (A:Option Addr) (n c:Nat) (l:List Int) (x most:Int) (w:World) (hl:Sl w 1 bh A n l) (hn:n*8≤140737488355328) :
 bt Tryz.prog 112 [.slice A n c,.int .i64 x,.int .i64 most] w fun v w' => ∃ r,dJ l most x [] r∧zU w.heap.size r v w':=by
 refine aL Tryz.func112 rfl Tryz.ntmps112 rfl ?_;have hw:=Ext.refl w;have tD:n≤2305843009213693952:=by omega
 have hA:=hl.base;have ma:=hl.len;refine Wz ?_;refine SW.make (enc:=AN) (k:=n) false rfl rfl rfl (by omega) (by omega) rfl fun B d w1 ab hS => ?_
 have fC:=hw.size;replace hw:=Ext.trans hw ab;rw [← AO n] at hS;replace hS:=Own.low hS fC;refine Wz ?_
 refine CW.loop (fun s:List Int×Int×Option Addr×Nat=>[(0,.slice A n c),(1,.int .i64 s.2.1),(2,.int .i64 most),(8,.slice B n d),(9,.slice s.2.2.1 s.1.length s.2.2.2)])
  (fun s w'=>s.1.length+mZ n s.1≤n∧(∀ r,dJ l most s.2.1 s.1 r→dJ l most x [] r)∧Ext w w'∧Own w' w.heap.size 3 1 bh s.2.2.1 s.1.length s.2.2.2 s.1∧Own w' w.heap.size 4 1 AN B n d (m6 n s.1)) (fun s=>mZ n s.1) ([],x,none,0) ⟨rfl,rfl,rfl,rfl,rfl,trivial⟩
  ⟨by simpa using sM n,fun _ h=>h,hw,Own.eR _ _ _ _ _ _,hS⟩ ?_
 clear hw hS;rintro ⟨out,y,A1,c1⟩ w' ⟨hk,hF,hw,hO,hS⟩
 simp only at hk hF hO hS ⊢;by_cases hy:y = -1
 ·refine Wz ?_;refine ae.cu rfl rfl rfl ⟨_,rfl,hw,some out,hF _ (by subst hy;exact .done _),A1,c1,rfl,hO,by omega⟩
 ·by_cases hm:most≤out.length
  ·refine Wz ?_;exact ae.cu rfl rfl rfl ⟨_,rfl,hw,none,hF _ (.bad hy (.inl hm)),rfl⟩
  ·by_cases hx : 0≤y∧y<n
   ·obtain ⟨k,rfl⟩:=Int.eq_ofNat_of_zero_le hx.1;have bY:k<n:=by omega
    have Oy:=hS.sl.base;by_cases ly:(k:Int)∈out
    ·have um:=ot hS.sl bY;rw [decide_eq_true ly] at um;repeat' (first|refine Wz ?_|refine SW.st (ak rfl (ot hS.sl bY)) rfl ?_|(refine SW.call rfl rfl (k9 _ _ _ _ _ _ tD) ?_;intro v w1 ab hv;subst hv;replace hw:=Ext.trans hw ab;replace hO:=hO.ext ab;replace hS:=hS.ext ab;clear ab))
     exact ae.cu rfl rfl rfl ⟨_,rfl,hw,none,hF _ (.bad hy (.inr (.inr ly))),rfl⟩
    ·have hu:=uJ bY ly;repeat' (first|refine Wz ?_|refine SW.st (ak rfl (ot hS.sl bY)) rfl ?_|(refine SW.call rfl rfl (k9 _ _ _ _ _ _ tD) ?_;intro v w1 ab hv;subst hv;replace hw:=Ext.trans hw ab;replace hO:=hO.ext ab;replace hS:=hS.ext ab;clear ab))
     refine SW.gH k 0 true hS rfl rfl rfl bY (by omega) (by rw [add_zero]) rfl fun w2 jo hg => ?_
     replace hw:=aE hw hg (Nat.le_refl _) hS.aM;replace hO:=hO.grown hg (hO.vE hS rfl);rw [AP] at jo;refine Wz ?_;refine SW.bJ rfl rfl rfl rfl rfl fun b w1 ab hb hB => ?_
     replace hw:=Ext.trans hw ab;replace hO:=hO.ext ab;replace jo:=jo.ext ab;refine SW.append hO (aJ.mb (enc:=bh) hB) hw.size rfl rfl rfl (by omega) (by omega) fun A2 c2 w2 fT hg => ?_
     replace hw:=aE hw hg (Nat.le_refl _) hO.aM;replace jo:=jo.grown hg (jo.vE hO rfl);repeat' (first|refine Wz ?_|refine SW.st (ao hw rfl (hl.one bY rfl)) rfl ?_)
     refine ae.again (out++[(k:Int)],l[k]'(hl.lt bY),A2,c2) ⟨rfl,rfl,rfl,rfl,by simp;rfl,trivial⟩ hu ⟨by simp only [List.length_append,List.length_singleton];omega,fun r h=>hF r (.step (by omega) (hl.lt bY) ly h),hw,by simpa using fT,jo⟩
   ·repeat' (first|refine Wz ?_|(refine SW.call rfl rfl (k9 _ _ _ _ _ _ tD) ?_;intro v w1 ab hv;subst hv;replace hw:=Ext.trans hw ab;replace hO:=hO.ext ab;replace hS:=hS.ext ab;clear ab))
    exact ae.cu rfl rfl rfl ⟨_,rfl,hw,none,hF _ (.bad hy (.inr (.inl (by omega)))),rfl⟩
theorem CO {x y:Int} (h1 : 0≤x) (h2:x≤64) (h3 : 0≤y) (h4:y≤64) : 0≤x*y∧x*y≤4096 :=
 ⟨Int.mul_nonneg h1 h3,by have:=Int.mul_le_mul h2 h4 h3 (by omega:(0:Int)≤64);omega⟩
def mv (size jd t a:Int) : Bool:=decide (0≤a-t*16) && decide (a-t*16<jd*size) && decide ((a-t*16) % size=0)
theorem CP {size jd t a:Int} {k:Nat} (hs : 1≤size) (hk:(k:Int)<jd) (h:a=16*t+k*size) : mv size jd t a=true:=by
 have e:a-t*16=k*size:=by omega
 unfold mv;rw [e,decide_eq_true (Int.mul_nonneg (by omega) (by omega)),decide_eq_true (Int.mul_lt_mul_of_pos_right hk (by omega)),decide_eq_true (Int.mul_emod_left _ _)]
 rfl
theorem AQ {size jd t a:Int} (hs : 1≤size) (h:∀ k:Nat,(k:Int)<jd→a≠16*t+k*size) : mv size jd t a=false:=by
 cases e:mv size jd t a
 ·rfl
 ·exfalso;unfold mv at e;simp only [Bool.and_eq_true,decide_eq_true_eq] at e;obtain ⟨⟨e1,e2⟩,e3⟩:=e;have h1:(a-t*16) / size<jd:=Int.ediv_lt_of_lt_mul (by omega) e2
  have h2 : 0≤(a-t*16) / size:=Int.ediv_nonneg e1 (by omega)
  have h3:=Int.mul_ediv_add_emod (a-t*16) size;obtain ⟨k,hk⟩:=Int.eq_ofNat_of_zero_le h2;rw [hk] at h1 h3;rw [e3,Int.mul_comm] at h3;exact h k h1 (by omega)
def pi (ws:List Int) (size jd:Int) (x:Slab) (out:List Int) : Prop:=dJ ws jd x.fR [] (some out)∧(out.length:Int)=x.ag ∧ ∀ a∈out,mv size jd x.At a=true
theorem dJ.mem {l:List Int} {most x:Int} {acc:List Int} {r:Option (List Int)} (h:dJ l most x acc r) : (∀ a∈acc,0≤a∧a<(l.length:Int)) → ∀ out,r=some out → ∀ a∈out,0≤a∧a<(l.length:Int):=by
 induction h with
 | done out=>intro ha o e;cases e;exact ha
 | bad=>intro _ _ e;cases e
 | @step k out r h1 hk h3 h ih =>
   intro ha o e;refine ih (fun a hm => ?_) o e;rcases List.mem_append.1 hm with hm|hm
   ·exact ha a hm
   ·simp at hm;subst hm;exact ⟨by omega,by omega⟩
def yG (l:List Block) (a:Int) : Int:=if cc l a then (l.getD (bE l a) ⟨0,0,0⟩).Order else -1
theorem yH {l:List Block} {a:Int} (h:cc l a=true) (hk:bE l a<l.length) : yG l a=l[bE l a].Order:=by
 unfold yG;rw [if_pos h];simp [List.getD,hk]
theorem vG {l:List Block} {a:Int} (h:cc l a=false) : yG l a = -1:=by
 unfold yG;rw [h]
 rfl
structure lW (s:aF) (c:bd) (i:Nat) (h:i<c.ai.length) : Prop where
 live:yG s.Heap.Live c.ai[i].At=c.Order
 next : 0<i→(c.ai[i-1]'(by omega)).At<c.ai[i].At
 chain:∃ out,pi s.Words c.bf c.ck c.ai[i] out
def zV (t:Int) (x:Slab) : Bool:=decide (x.At=t)
def yI (c:bd) (i:Nat) (h:i<c.au.length) : Prop:=c.au[i] = -1∨(c.au[i]∉c.au.take i∧c.ai.any (zV c.au[i])=true)
structure jq (s:aF) (c:bd) : Prop where
 lay:dX c.bf=(c.Order,c.ck,0)
 names : 0<c.Names.length
 a9:(c.au.length:Int)=s.Heap.bW
 aR:∀ (i:Nat) (h:i<c.ai.length),lW s c i h
 AR:∀ (i:Nat) (h:i<c.au.length),yI c i h
noncomputable def iT (s:aF) (c:bd) : Bool := @decide (jq s c) (Classical.propDecidable _)
theorem m7 {s:aF} {c:bd} (a:jq s c) : iT s c=true:=by unfold iT;exact @decide_eq_true _ (Classical.propDecidable _) a
theorem fb {s:aF} {c:bd} (a : ¬ jq s c) : iT s c=false:=by unfold iT;exact @decide_eq_false _ (Classical.propDecidable _) a
theorem sN {s:aF} {c:bd}:iT s c=true↔jq s c:=by
 by_cases a:jq s c
 ·simp [m7 a,a]
 ·simp [fb a,a]
theorem iU {x o n:Int} (h:dX x=(o,n,0)) : (1≤x∧x≤64)∧(0≤o∧o≤2)∧(1≤n∧n≤64):=by
 unfold dX at h;split at h
 ·rename_i hx;have k1 : 64 / x≤64:=Int.ediv_le_self _ (by omega)
  have k2 : 1≤64 / x:=by rw [Int.le_ediv_iff_mul_le (by omega)];omega
  have k3 : 16 / x≤16:=Int.ediv_le_self _ (by omega)
  have k4 : 32 / x≤32:=Int.ediv_le_self _ (by omega)
  split at h
  ·simp only [Prod.mk.injEq] at h;omega
  ·split at h
   ·simp only [Prod.mk.injEq] at h;omega
   ·simp only [Prod.mk.injEq] at h;omega
 ·simp only [Prod.mk.injEq] at h;omega
def bZ (cs:List bd) : List ByteArray:=cs.flatMap fun c=>c.Names
def cx (cs:List bd) : List Int:=cs.flatMap fun c=>c.ai.map fun x=>x.At
structure vH (acc l:List ByteArray) : Prop where
 each:∀ (k:Nat) (h:k<l.length),gm l[k]=true∧l[k]∉acc++l.take k∧(0<k→fK (l[k-1]'(by omega)) l[k]=true)
def Ek (acc:List Int) (l:List Slab) : Prop := ∀ (k:Nat) (h:k<l.length),l[k].At∉acc++(l.take k).map fun x=>x.At
structure rD (s:aF) (i:Nat) (h:i<s.aa.length) : Prop where
 may:jq s s.aa[i]
 size:∀ (j:Nat) (hj:j<i),(s.aa[j]'(by omega)).bf≠s.aa[i].bf
 names:vH (bZ (s.aa.take i)) s.aa[i].Names
 aR:Ek (cx (s.aa.take i)) s.aa[i].ai
structure jW (s:aF) : Prop where
 words:s.Words.length=4096
 heap:bD s.Heap
 most:s.aa.length≤20
 each:∀ (i:Nat) (h:i<s.aa.length),rD s i h
noncomputable def j8 (s:aF) : Bool := @decide (jW s) (Classical.propDecidable _)
theorem yJ {s:aF} (a:jW s) : j8 s=true:=by unfold j8;exact @decide_eq_true _ (Classical.propDecidable _) a
theorem j9 {s:aF} (a : ¬ jW s) : j8 s=false:=by unfold j8;exact @decide_eq_false _ (Classical.propDecidable _) a
theorem pj {s:aF}:j8 s=true↔jW s:=by
 by_cases a:jW s
 ·simp [yJ a,a]
 ·simp [j9 a,a]
theorem jy (cs:List bd) (i:Nat) (h:i<cs.length) : bZ (cs.take (i+1))=bZ (cs.take i)++cs[i].Names:=by
 unfold bZ;rw [List.take_succ_eq_append_getElem h,List.flatMap_append];simp
theorem jz (cs:List bd) (i:Nat) (h:i<cs.length) : cx (cs.take (i+1))=cx (cs.take i)++cs[i].ai.map fun x=>x.At:=by
 unfold cx;rw [List.take_succ_eq_append_getElem h,List.flatMap_append];simp
open Go.RowKit
theorem CQ {z:Int} (h1 : -18446744073709551616<z) (h2:z < -9223372036854775808) : IntKind.i64.wrap z=z+18446744073709551616:=by
 simp [IntKind.wrap,IntKind.bits,IntKind.signed];omega
theorem yK (r:dn) (t a:Int) (w:World) (hs : 1≤r.bf∧r.bf≤64) (hp : 1≤r.ck∧r.ck≤64) (ht : 0≤t∧t≤255) (ha : -9223372036854775808≤a∧a≤9223372036854775807) :
 bt Tryz.prog 100 [.agg (db r).toArray,.int .i64 t,.int .i64 a] w fun v _=>v = .bool (mv r.bf r.ck t a):=by
 refine aL Tryz.func100 rfl Tryz.ntmps100 rfl ?_;refine CW.seq (CW.region (SW.box rfl rfl fun b1 w1 hw gK aA => ?_));have hm:=CO (x:=r.ck) (y:=r.bf) (by omega) (by omega) (by omega) (by omega);unfold mv;by_cases fC:a-t*16 < -9223372036854775808
 ·have e:=CQ (z:=a-t*16) (by omega) fC;rw [decide_eq_false (show ¬ 0≤a-t*16 by omega)];repeat' (first|refine Wz ?_|(refine SW.st ((rl rfl rfl).eq (congrArg (Value.int .i64) e)) rfl ?_))
  all_goals try omega
  exact ae.aN rfl rfl ⟨_,rfl,hw,rfl⟩
 ·by_cases h0 : 0≤a-t*16
  ·have e:(a-t*16).tmod r.bf=(a-t*16) % r.bf:=Int.tmod_eq_emod_of_nonneg h0
   rw [decide_eq_true h0];by_cases h1:a-t*16<r.ck*r.bf
   ·rw [decide_eq_true h1];refine Wz ?_;all_goals try omega
    refine ae.aN rfl rfl ⟨_,rfl,hw,?_⟩;rw [e];rfl
   ·rw [decide_eq_false h1];refine Wz ?_;all_goals try omega
    exact ae.aN rfl rfl ⟨_,rfl,hw,rfl⟩
  ·rw [decide_eq_false h0];refine Wz ?_;all_goals try omega
   exact ae.aN rfl rfl ⟨_,rfl,hw,rfl⟩
theorem vI (r:dn) (t a:Int) (w:World) (hs : 1≤r.bf∧r.bf≤64) (hp : 1≤r.ck∧r.ck≤64) (ht : 0≤t∧t≤255) :
 bt Tryz.prog 113 [.agg (db r).toArray,.int .i64 t,.int .i64 a] w fun v _=>v = .bool (mv r.bf r.ck t a):=by
 refine aL Tryz.func113 rfl Tryz.ntmps113 rfl ?_;refine CW.seq (CW.region (SW.box rfl rfl fun b1 w1 hw gK aA => ?_));refine Wz ?_
 refine CW.loop (fun k:Nat=>[(1,.int .i64 t),(2,.int .i64 a),(3,.pointer (some ⟨b1,0,none⟩)),(7,.int .i64 (k:Int))]) (fun k w'=>(k:Int)≤r.ck∧Ext w w'∧aJ w' b1 46 (db r) ∧ ∀ i:Nat,i<k→a≠16*t+i*r.bf) (fun k=>r.ck.toNat-k) 0
  ⟨rfl,rfl,rfl,rfl,trivial⟩ ⟨by omega,hw,aA,fun i h=>by omega⟩ ?_
 clear hw aA;rintro k w' ⟨hk,hw,aA,hI⟩
 by_cases bY:(k:Int)<r.ck
 ·have hm:=CO (x:=(k:Int)) (y:=r.bf) (by omega) (by omega) (by omega) (by omega);by_cases hx:a=16*t+k*r.bf
  ·rw [CP hs.1 bY hx];refine Wz ?_;all_goals try omega
   exact ae.aN rfl rfl ⟨_,rfl,hw,rfl⟩
  ·refine Wz ?_;all_goals try omega
   exact ae.again (k+1) ⟨rfl,rfl,rfl,rfl,trivial⟩ (by omega) ⟨by omega,hw,aA,fun i h=>by
    by_cases e:i=k
    ·subst e;exact hx
    ·exact hI i (by omega)⟩
 ·rw [AQ hs.1 (fun i h=>hI i (by omega))];refine Wz ?_;exact ae.aN rfl rfl ⟨_,rfl,hw,rfl⟩
theorem yL (a:Int) (b4 b5:Nat) (q:dn) (x:Slab) (w:World) (h4:aJ w b4 46 (db q)) (h5:aJ w b5 48 (aZ x))
 (hs : 1≤q.bf∧q.bf≤64) (hp : 1≤q.ck∧q.ck≤64) (ht : 0≤x.At∧x.At≤255) (ha : 0≤a∧a<9223372036854775807) :
 bt Tryz.prog 99 ([.int .i64 a]++[.pointer (some ⟨b4,0,none⟩),.pointer (some ⟨b5,0,none⟩)]) w fun v _=>v = .bool (!mv q.bf q.ck x.At a):=by
 refine aL Tryz.func99 rfl Tryz.ntmps99 rfl ?_;have hw:=Ext.refl w;repeat' (first|refine Wz ?_|(refine SW.call rfl rfl (yK q x.At a _ hs hp ht (by omega)) ?_;intro v w1 ab hv;subst hv;replace hw:=Ext.trans hw ab;clear ab))
 exact ae.aN rfl rfl ⟨_,rfl,hw,rfl⟩
def m8 (lo:Nat) (ws:List Int) (size jd:Int) (x:Slab) (v:Value) (w:World) : Prop :=
 (∃ out A k,pi ws size jd x out∧v = .tuple #[.slice A out.length k,.bool true]∧Own w lo 3 1 bh A out.length k out∧out.length≤17592186044416) ∨
 ((∀ out,¬ pi ws size jd x out)∧v = .tuple #[.slice none 0 0,.bool false])
theorem AS (r:dV) (q:dn) (x:Slab) (ws:List Int) (w:World) (hl:Sl w 1 bh r.Words.A r.Words.n ws) (hn:r.Words.n*8≤140737488355328)
 (hs : 1≤q.bf∧q.bf≤64) (hp : 1≤q.ck∧q.ck≤64) (ht : 0≤x.At∧x.At≤255) :
 bt Tryz.prog 67 [.agg (aU r).toArray,.agg (db q).toArray,.agg (aZ x).toArray] w fun v w'=>m8 w.heap.size ws q.bf q.ck x v w':=by
 refine aL Tryz.func67 rfl Tryz.ntmps67 rfl ?_;refine CW.seq (CW.region (SW.box rfl rfl fun b3 w1 hw bK ar => ?_));refine SW.box rfl rfl fun b4 w2 cw ml bX => ?_
 (replace hw:=Ext.trans hw cw;replace ar:=ar.ext cw);refine SW.box rfl rfl fun b5 w3 jQ ig cd => ?_
 (replace hw:=Ext.trans hw jQ;replace ar:=ar.ext jQ;replace bX:=bX.ext jQ);refine Wz ?_;have fC:=hw.size;refine SW.call rfl rfl (yF _ _ _ _ _ _ _ (hl.ext hw) hn) fun v w4 iG hv => ?_
 obtain ⟨Km,hF,hV⟩:=hv;(replace hw:=Ext.trans hw iG;replace ar:=ar.ext iG;replace bX:=bX.ext iG;replace cd:=cd.ext iG);have Hh:=hl.len;rcases Km with _|out
 ·subst hV;refine Wz ?_;refine ae.cu rfl rfl rfl ⟨_,rfl,hw,.inr ⟨fun o h => ?_,rfl⟩⟩;have:=hF.km h.1
  cases this
 ·obtain ⟨A,k,rfl,hO,hlen⟩:=hV;replace hO:=hO.low fC;by_cases fG:(out.length:Int)=x.ag
  ·have cC:∀ w',Ext w4 w'→bt Tryz.prog 60 [.slice A out.length k,.func (.func 99) #[] [.pointer (some ⟨b4,0,none⟩),.pointer (some ⟨b5,0,none⟩)].toArray] w' fun v _=>v = .bool (out.any fun a => !mv q.bf q.ck x.At a):=fun w' hx =>
    gq _ _ _ _ _ (hO.sl.ext hx) _ [.pointer (some ⟨b4,0,none⟩),.pointer (some ⟨b5,0,none⟩)] (fun a => !mv q.bf q.ck x.At a) (fun x => .int .i64 x) (fun x=>rfl)
     (fun a ha w1 kz=>by
       have hm:=hF.mem (by simp) out rfl a ha;exact yL a b4 b5 q x w1 ((bX.ext hx).ext kz) ((cd.ext hx).ext kz) hs hp ht ⟨hm.1,by omega⟩) (by omega)
   have Nm:=Ext.refl w4;repeat' (first|refine Wz ?_|(refine SW.st (iv (vs:=[.pointer (some ⟨b4,0,none⟩),.pointer (some ⟨b5,0,none⟩)]) rfl) rfl ?_))
   refine SW.call rfl rfl (cC _ Nm) fun v w5 jv hv => ?_
   (replace hw:=Ext.trans hw jv;replace hO:=hO.ext jv);subst hv;cases dS:out.any fun a => !mv q.bf q.ck x.At a
   ·refine Wz ?_;refine ae.cu rfl rfl rfl ⟨_,rfl,hw,.inl ⟨out,A,k,⟨hF,fG,fun a ha => ?_⟩,rfl,hO,hlen⟩⟩;rw [List.any_eq_false] at dS;simpa using dS a ha
   ·refine Wz ?_;refine ae.cu rfl rfl rfl ⟨_,rfl,hw,.inr ⟨fun o h => ?_,rfl⟩⟩;obtain ⟨a,ha,LM⟩:=List.any_eq_true.1 dS;have e:=hF.km h.1;injection e with e
    subst e;rw [h.2.2 a ha] at LM;cases LM
  ·refine Wz ?_;all_goals try omega
   refine ae.cu rfl rfl rfl ⟨_,rfl,hw,.inr ⟨fun o h => ?_,rfl⟩⟩;have e:=hF.km h.1;injection e with e
   subst e;exact fG h.2.1
theorem yM (r:dV) (q:dn) (x:Slab) (ws:List Int) (w:World) (hl:Sl w 1 bh r.Words.A r.Words.n ws) (hn:r.Words.n*8≤140737488355328)
 (hs : 1≤q.bf∧q.bf≤64) (hp : 1≤q.ck∧q.ck≤64) (ht : 0≤x.At∧x.At≤255) :
 bt Tryz.prog 85 [.agg (aU r).toArray,.agg (db q).toArray,.agg (aZ x).toArray] w fun v w'=>m8 w.heap.size ws q.bf q.ck x v w':=by
 refine aL Tryz.func85 rfl Tryz.ntmps85 rfl ?_;refine CW.seq (CW.region (SW.box rfl rfl fun b3 w1 hw bK ar => ?_));refine SW.box rfl rfl fun b4 w2 cw ml bX => ?_
 (replace hw:=Ext.trans hw cw;replace ar:=ar.ext cw);refine SW.box rfl rfl fun b5 w3 jQ ig cd => ?_
 (replace hw:=Ext.trans hw jQ;replace ar:=ar.ext jQ;replace bX:=bX.ext jQ);refine Wz ?_;have fC:=hw.size;refine SW.call rfl rfl (vF _ _ _ _ _ _ _ (hl.ext hw) hn) fun v w4 iG hv => ?_
 obtain ⟨Km,hF,hV⟩:=hv;(replace hw:=Ext.trans hw iG;replace ar:=ar.ext iG;replace bX:=bX.ext iG;replace cd:=cd.ext iG);have Hh:=hl.len;rcases Km with _|out
 ·subst hV;refine Wz ?_;refine ae.cu rfl rfl rfl ⟨_,rfl,hw,.inr ⟨fun o h => ?_,rfl⟩⟩;have:=hF.km h.1
  cases this
 ·obtain ⟨A,k,rfl,hO,hlen⟩:=hV;replace hO:=hO.low fC;by_cases fG:(out.length:Int)=x.ag
  ·refine Wz ?_;all_goals try omega
   refine CW.loop (fun j:Nat=>[(4,.pointer (some ⟨b4,0,none⟩)),(5,.pointer (some ⟨b5,0,none⟩)),(8,.slice A out.length k),(10,.int .i64 (j:Int))]) (fun j w'=>j≤out.length∧Ext w w'∧Own w' w.heap.size 3 1 bh A out.length k out∧aJ w' b4 46 (db q)∧aJ w' b5 48 (aZ x) ∧ ∀ (i:Nat) (h:i<out.length),i<j→mv q.bf q.ck x.At out[i]=true) (fun j=>out.length-j) 0
    ⟨rfl,rfl,rfl,rfl,trivial⟩ ⟨by omega,hw,hO,bX,cd,fun i h h'=>by omega⟩ ?_
   clear hw hO bX cd ar;rintro j w' ⟨hj,hw,hO,bX,cd,hI⟩
   have LN:=hO.sl.base;by_cases iZ:j<out.length
   ·have cO:∀ w',bt Tryz.prog 113 [.agg (db q).toArray,.int .i64 x.At,.int .i64 out[j]] w' fun v _=>v = .bool (mv q.bf q.ck x.At out[j]):=fun w'=>vI q x.At out[j] w' hs hp ht
    cases ho:mv q.bf q.ck x.At out[j]
    ·rw [ho] at cO;repeat' (first|refine Wz ?_|(first|refine CW.bF rfl ?_|(apply CW.aO mixed;(· kernel_rfl);rotate_left;intro w1 ab;replace hw:=Ext.trans hw ab;replace hO:=hO.ext ab;replace bX:=bX.ext ab;replace cd:=cd.ext ab;clear ab;rotate_right))|refine SW.st (ak rfl (hO.sl.one iZ rfl)) rfl ?_|refine SW.bq rfl rfl (fun w1 ab=>(cO _)) ?_|exact SW.bx rfl)
     refine ae.cu rfl rfl rfl ⟨_,rfl,hw,.inr ⟨fun o h => ?_,rfl⟩⟩;have e:=hF.km h.1;injection e with e
     subst e;rw [h.2.2 _ (List.getElem_mem iZ)] at ho;cases ho
    ·rw [ho] at cO;repeat' (first|refine Wz ?_|(first|refine CW.bA rfl ?_|(apply CW.aO mixed;(· kernel_rfl);rotate_left;intro w1 ab;replace hw:=Ext.trans hw ab;replace hO:=hO.ext ab;replace bX:=bX.ext ab;replace cd:=cd.ext ab;clear ab;rotate_right))|refine SW.st (ak rfl (hO.sl.one iZ rfl)) rfl ?_|refine SW.bq rfl rfl (fun w1 ab=>(cO _)) ?_|exact SW.bx rfl)
     exact ae.again (j+1) ⟨rfl,rfl,rfl,rfl,trivial⟩ (by omega) ⟨by omega,hw,hO,bX,cd,fun i h h'=>by
      by_cases e:i=j
      ·subst e;exact ho
      ·exact hI i h (by omega)⟩
   ·refine Wz ?_;refine ae.cu rfl rfl rfl ⟨_,rfl,hw,.inl ⟨out,A,k,⟨hF,fG,fun a ha => ?_⟩,rfl,hO,hlen⟩⟩;obtain ⟨i,hi,rfl⟩:=List.getElem_of_mem ha;exact hI i hi (by omega)
  ·refine Wz ?_;all_goals try omega
   refine ae.cu rfl rfl rfl ⟨_,rfl,hw,.inr ⟨fun o h => ?_,rfl⟩⟩;have e:=hF.km h.1;injection e with e
   subst e;exact fG h.2.1
end Go.Proofs.YtjimadiidbkohaaGreatDoor
