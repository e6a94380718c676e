/-
  Texts of the claim SlabBulks, part 14: what its theorem leans on.
-/
import Derived.Test.YtjimadiidbkohaaGreatDoorPackSlabBulks1
import Derived.Lib.ConvBytes
import Derived.Laws.Strings
import Derived.Test.YtjimadiidbkohaaGreatDoorPackSlabBulks8
import Derived.Test.YtjimadiidbkohaaGreatDoorPackSlabBulks3
import Derived.Test.YtjimadiidbkohaaGreatDoorPackSlabBulks2
import Derived.Test.YtjimadiidbkohaaGreatDoorPackSlabBulks11
import Derived.Test.YtjimadiidbkohaaGreatDoorPackSlabBulks6
set_option linter.unusedVariables false
set_option linter.unusedSimpArgs false
namespace Go.Proofs.YtjimadiidbkohaaGreatDoor
open Go.RowKit
def fY (a b:ByteArray) : Bool:=Op.bytesLess a.toList b.toList
theorem uV:∀ x y:List UInt8,Op.bytesLess x y=(!(Op.bytesLess y x || decide (x=y)))
 | [],[]=>by simp [Op.bytesLess]
 | [],_::_=>by simp [Op.bytesLess]
 | _::_,[]=>by simp [Op.bytesLess]
 | a::x,b::y=>by
   have ih:=uV x y;simp only [Op.bytesLess,List.cons.injEq];rcases Nat.lt_trichotomy a.toNat b.toNat with h|h|h
   ·have h1:a<b:=h
    have h2 : ¬ b<a:=fun e=>by have:b.toNat<a.toNat:=e;omega
    have h3 : ¬ a=b:=fun e=>by subst e;omega
    have h4 : ¬ b=a:=fun e=>h3 e.symm
    simp [h1,h2,h3,h4]
   ·have h3:a=b:=UInt8.toNat_inj.1 h
    subst h3;have h1 : ¬ a<a:=fun e=>by have:a.toNat<a.toNat:=e;omega
    simp [h1,ih]
   ·have h1:b<a:=h
    have h2 : ¬ a<b:=fun e=>by have:a.toNat<b.toNat:=e;omega
    have h3 : ¬ a=b:=fun e=>by subst e;omega
    have h4 : ¬ b=a:=fun e=>h3 e.symm
    simp [h1,h2,h3]
theorem vP (a b:ByteArray) : (a.toList == b.toList)=decide (a=b):=by
 by_cases h:a=b
 ·subst h;simp
 ·have : ¬ a.toList=b.toList:=fun e=>h (by
   have e1:=congrArg (fun l:List UInt8=>ByteArray.mk l.toArray) e;simp only [ByteArray.toList_eq] at e1;cases a;cases b;simpa using e1)
  simp [h,this]
theorem Bg (a b:ByteArray) : fY a b = !(fY b a || decide (a=b)):=by
 unfold fY;rw [uV];have:decide (a.toList=b.toList)=decide (a=b):=by rw [← vP];exact (Bool.beq_eq_decide_eq _ _).symm
 rw [this]
class An (P:Program) (t:TypeId) : Prop where
 ky:P.underlying t=some .string
def vQ (b:UInt8) : List Value:=[.int .u8 b.toNat]
section
variable {P:Program} {L:Env} {w:World} {d:Option Nat} {T:TypeId} {pos:String} {af:Array Edge} {g:Option (Nat×Bool)}
theorem iO {t ty:TypeId} {x y:Operand} {a b:ByteArray} (hx:cd L x=some (.string a)) (hy:cd L y=some (.string b)) : St P ⟨d,.binOp .eql t x y ty,T,pos,af,g⟩ L w (.bool (decide (a=b))) :=
 ⟨fun _ A hA w' _=>by
  have e1:=hA.eval hx;have e2:=hA.eval hy;generalize A.eval = ρ at *
  have h1:(binOp .eql t (.string a) (.string b)).run P w' = .ok (.bool (decide (a=b))) w':=by
   have:binOp .eql t (.string a) (.string b)=Op.stringOp .eql a b:=by simp [binOp]
   rw [this,← vP];simp [Op.stringOp,pure]
  simp [execOp,e1,e2,eqGuard,h1]⟩
theorem xE {t ty:TypeId} {x y:Operand} {a b:ByteArray} (hx:cd L x=some (.string a)) (hy:cd L y=some (.string b)) : St P ⟨d,.binOp .geq t x y ty,T,pos,af,g⟩ L w (.bool (!fY a b)) :=
 ⟨fun _ A hA w' _=>by
  have e1:=hA.eval hx;have e2:=hA.eval hy;generalize A.eval = ρ at *
  have h1:(binOp .geq t (.string a) (.string b)).run P w' = .ok (.bool (!fY a b)) w':=by
   have:binOp .geq t (.string a) (.string b)=Op.stringOp .geq a b:=by simp [binOp]
   rw [this];simp [Op.stringOp,pure,fY]
  simp [execOp,e1,e2,eqGuard,h1]⟩
theorem xF {t ty:TypeId} {x y:Operand} {a b:ByteArray} (hx:cd L x=some (.string a)) (hy:cd L y=some (.string b)) : St P ⟨d,.binOp .leq t x y ty,T,pos,af,g⟩ L w (.bool (!fY b a)) :=
 ⟨fun _ A hA w' _=>by
  have e1:=hA.eval hx;have e2:=hA.eval hy;generalize A.eval = ρ at *
  have h1:(binOp .leq t (.string a) (.string b)).run P w' = .ok (.bool (!fY b a)) w':=by
   have:binOp .leq t (.string a) (.string b)=Op.stringOp .leq a b:=by simp [binOp]
   rw [this,Bg b a];have e:decide (b=a)=decide (a=b):=by simp [eq_comm]
   rw [e,← vP];simp [Op.stringOp,pure,fY]
  simp [execOp,e1,e2,eqGuard,h1]⟩
theorem pu {t:TypeId} [c:An P t] {x:Operand} {s:ByteArray} (hx:cd L x=some (.string s)) :
 St P ⟨d,.call ⟨.builtin .len,#[x],#[t]⟩,T,pos,af,g⟩ L w (.int .i64 (s.size:Int)) :=
 ⟨fun _ a ha w' _=>by simp [execOp,resolve,invoke,builtin,ha.eval hx,Builtin.len_,run_underlying c.ky,goInt]⟩
theorem Ao {t:TypeId} [c:An P t] {x y:Operand} {s:ByteArray} {i:Int} (k:Nat) (hx:cd L x=some (.string s)) (hy:cd L y=some (.int .i64 i)) (hi:i=(k:Int)) (hk:k<s.size) :
 St P ⟨d,.index t x y,T,pos,af,g⟩ L w (.int .u8 (s[k]'hk).toNat) :=
 ⟨fun _ a ha w' _=>by
  subst hi;have e1:=ha.eval hx;have e2:=ha.eval hy;generalize a.eval = ρ at *
  have:=run_index_string (P:=P) w' t s .i64 (k:Int) c.ky
  rw [dif_pos ⟨by omega,by omega⟩] at this;simp [execOp,e1,e2,this]⟩
end
section
variable {P:Program} {n:Nat} {ops:Array Oper} {Q:Exit→Act→World→Prop} {rest:List Oper} {L:Env} {w:World} {T:TypeId} {pos:String} {af:Array Edge}
theorem SW.Bh {d:Nat} {src dst e:TypeId} [S:An P src] [D:bw P dst e 1] (he:P.underlying e=some (.int .u8)) {x:Operand} {s:ByteArray} (hx:cd L x=some (.string s)) (hn:Nat.blt d n=true)
 (h:∀ b c w',Ext w w'→w.heap.size≤b→Sl w' 1 vQ (some ⟨b,0,none⟩) s.size s.data.toList→SW P n ops (.fF Q) rest ((d,.slice (some ⟨b,0,none⟩) s.size c)::L) w') :
 SW P n ops (.fF Q) (⟨some d,.convert src dst x,T,pos,af,none⟩::rest) L w :=
 ⟨fun a ha=>by
  simp only [swp,wpList,Region.wanted,if_true];refine .inl ?_;unfold Oper.wp;have hr:=Lib.run_convert_string_bytes (P:=P) w src dst e s S.ky D.ky he
  have:(execOp a.eval ⟨some d,.convert src dst x,T,pos,af,none⟩).run P w = .ok (.value (.slice (some ⟨w.heap.size,0,none⟩) s.size (grownCap w s.size 0 e))) (Lib.bytesWorld w e s):=by
   simp [execOp,ha.eval hx,hr]
  rw [this,Oper.upon_value];have hE:Ext w (Lib.bytesWorld w e s):=⟨rfl,rfl,rfl,by rw [Lib.bytesWorld_size];omega,fun j hj=>Lib.bytesWorld_at_old w e s j hj⟩
  refine (h _ _ _ hE (Nat.le_refl _) ⟨?_,fun _=>rfl,fun i hi j u hu => ?_⟩).out _ (ha.put hn _)
  ·exact Array.length_toList
  ·have ol:i<s.size:=by rw [Array.length_toList] at hi;exact hi
   have:=Lib.bytesWorld_cell w e s i ol
   match j,hu with
   | 0,hu =>
     simp only [vQ,List.getElem?_cons_zero,Option.some.injEq] at hu;rw [add_zero]
     have e2:(((some (⟨w.heap.size,0,none⟩ : Addr)).getD default).add (i*1))=⟨w.heap.size,i,none⟩:=by
      simp only [Option.getD_some,Nat.mul_one];unfold Addr.add;split<;>simp_all
     rw [e2,this,← hu];have e3:s.data.toList.getD i 0=s.data.toList[i]:=by simp [List.getD,ol]
     rw [e3]
   | j+1,hu=>simp [vQ] at hu⟩
end
open Go.RowKit
instance:An Tryz.prog 9:=⟨by kernel_rfl⟩
theorem GO:Tryz.prog.underlying 5=some (.int .u8):=by kernel_rfl
theorem oz (A:Option Addr) (n c:Nat) (l:List UInt8) (w:World) (hl:Sl w 1 vQ A n l) (f:FuncId) (cap:List Value) [Body Tryz.prog f] (p:UInt8→Bool) (arg:UInt8→Value) (mN:∀ x,arg x=(if 1=1 then (vQ x)[0]?.getD undef else .agg (vQ x).toArray))
 (hf:∀ x∈l,∀ w',Ext w w'→bt Tryz.prog f ([arg x]++cap) w' fun v _=>v = .bool (p x)) (hn:n≤9223372036854775807) :
 bt Tryz.prog 101 [.slice A n c,.func (.func f) #[] cap.toArray] w fun v _=>v = .int .i64 (idxOf p l):=by
 refine aM Tryz.func101 rfl Tryz.ntmps101 rfl ?_;have hw:=Ext.refl w;have hA:=hl.base;refine Wz ?_;refine CW.loop (fun k:Nat=>[(0,.slice A n c),(1,.func (.func f) #[] cap.toArray),(7,.int .i64 (n:Int)),(8,.int .i64 (k:Int))]) (fun k w'=>k≤n∧Ext w w' ∧ ∀ j (hj:j<l.length),j<k→p l[j]=false) (fun k=>n-k) 0 ⟨rfl,rfl,rfl,rfl,trivial⟩ ⟨by omega,hw,fun j _ h=>by omega⟩ ?_;clear hw;rintro k w' ⟨oV,hw,hI⟩
 by_cases hk:k<n
 ·have hx:=mN (l[k]'(hl.lt hk));have oW:=hf (l[k]'(hl.lt hk)) (List.getElem_mem _);rw [hx] at oW;repeat' (first|refine Wz ?_|refine SW.st (ao hw rfl (hl.one hk rfl)) rfl ?_)
  refine SW.oP rfl rfl rfl (oW _ hw) fun v w1 ab hv => ?_
  subst hv;replace hw:=Ext.trans hw ab;cases hp:p (l[k]'(hl.lt hk))
  ·refine Wz ?_;refine ae.again (k+1) ⟨rfl,rfl,rfl,rfl,trivial⟩ (by omega) ⟨by omega,hw,fun j hj h => ?_⟩;by_cases kx:j=k
   ·subst kx;exact hp
   ·exact hI j hj (by omega)
  ·refine Wz ?_;exact ae.aO rfl rfl ⟨_,rfl,hw,by rw [iw (hl.lt hk) hp hI]⟩
 ·refine Wz ?_;exact ae.aO rfl rfl ⟨_,rfl,hw,by rw [(fA (fun j hj=>hI j hj (by have:=hl.len;omega))).1]⟩
theorem iP (A:Option Addr) (n c:Nat) (l:List Slab) (w:World) (hl:Sl w 3 a8 A n l) (f:FuncId) (cap:List Value) [Body Tryz.prog f] (p:Slab→Bool) (arg:Slab→Value) (mN:∀ x,arg x=(if 3=1 then (a8 x)[0]?.getD undef else .agg (a8 x).toArray))
 (hf:∀ x∈l,∀ w',Ext w w'→bt Tryz.prog f ([arg x]++cap) w' fun v _=>v = .bool (p x)) (hn:n≤9223372036854775807) :
 bt Tryz.prog 47 [.slice A n c,.func (.func f) #[] cap.toArray] w fun v _=>v = .int .i64 (idxOf p l):=by
 refine aM Tryz.func47 rfl Tryz.ntmps47 rfl ?_;have hw:=Ext.refl w;have hA:=hl.base;refine Wz ?_;refine CW.loop (fun k:Nat=>[(0,.slice A n c),(1,.func (.func f) #[] cap.toArray),(7,.int .i64 (n:Int)),(8,.int .i64 (k:Int))]) (fun k w'=>k≤n∧Ext w w' ∧ ∀ j (hj:j<l.length),j<k→p l[j]=false) (fun k=>n-k) 0 ⟨rfl,rfl,rfl,rfl,trivial⟩ ⟨by omega,hw,fun j _ h=>by omega⟩ ?_;clear hw;rintro k w' ⟨oV,hw,hI⟩
 by_cases hk:k<n
 ·have hx:=mN (l[k]'(hl.lt hk));have oW:=hf (l[k]'(hl.lt hk)) (List.getElem_mem _);rw [hx] at oW;repeat' (first|refine Wz ?_|refine SW.st (aH hw rfl rfl ((hl.all hk))) rfl ?_)
  refine SW.oP rfl rfl rfl (oW _ hw) fun v w1 ab hv => ?_
  subst hv;replace hw:=Ext.trans hw ab;cases hp:p (l[k]'(hl.lt hk))
  ·refine Wz ?_;refine ae.again (k+1) ⟨rfl,rfl,rfl,rfl,trivial⟩ (by omega) ⟨by omega,hw,fun j hj h => ?_⟩;by_cases kx:j=k
   ·subst kx;exact hp
   ·exact hI j hj (by omega)
  ·refine Wz ?_;exact ae.aO rfl rfl ⟨_,rfl,hw,by rw [iw (hl.lt hk) hp hI]⟩
 ·refine Wz ?_;exact ae.aO rfl rfl ⟨_,rfl,hw,by rw [(fA (fun j hj=>hI j hj (by have:=hl.len;omega))).1]⟩
theorem kP (A:Option Addr) (n c:Nat) (l:List de) (w:World) (hl:Sl w 6 df A n l) (f:FuncId) (cap:List Value) [Body Tryz.prog f] (p:de→Bool) (arg:de→Value) (mN:∀ x,arg x=(if 6=1 then (df x)[0]?.getD undef else .agg (df x).toArray))
 (hf:∀ x∈l,∀ w',Ext w w'→bt Tryz.prog f ([arg x]++cap) w' fun v _=>v = .bool (p x)) (hn:n≤9223372036854775807) :
 bt Tryz.prog 39 [.slice A n c,.func (.func f) #[] cap.toArray] w fun v _=>v = .int .i64 (idxOf p l):=by
 refine aM Tryz.func39 rfl Tryz.ntmps39 rfl ?_;have hw:=Ext.refl w;have hA:=hl.base;refine Wz ?_;refine CW.loop (fun k:Nat=>[(0,.slice A n c),(1,.func (.func f) #[] cap.toArray),(7,.int .i64 (n:Int)),(8,.int .i64 (k:Int))]) (fun k w'=>k≤n∧Ext w w' ∧ ∀ j (hj:j<l.length),j<k→p l[j]=false) (fun k=>n-k) 0 ⟨rfl,rfl,rfl,rfl,trivial⟩ ⟨by omega,hw,fun j _ h=>by omega⟩ ?_;clear hw;rintro k w' ⟨oV,hw,hI⟩
 by_cases hk:k<n
 ·have hx:=mN (l[k]'(hl.lt hk));have oW:=hf (l[k]'(hl.lt hk)) (List.getElem_mem _);rw [hx] at oW;repeat' (first|refine Wz ?_|refine SW.st (aH hw rfl rfl ((hl.all hk))) rfl ?_)
  refine SW.oP rfl rfl rfl (oW _ hw) fun v w1 ab hv => ?_
  subst hv;replace hw:=Ext.trans hw ab;cases hp:p (l[k]'(hl.lt hk))
  ·refine Wz ?_;refine ae.again (k+1) ⟨rfl,rfl,rfl,rfl,trivial⟩ (by omega) ⟨by omega,hw,fun j hj h => ?_⟩;by_cases kx:j=k
   ·subst kx;exact hp
   ·exact hI j hj (by omega)
  ·refine Wz ?_;exact ae.aO rfl rfl ⟨_,rfl,hw,by rw [iw (hl.lt hk) hp hI]⟩
 ·refine Wz ?_;exact ae.aO rfl rfl ⟨_,rfl,hw,by rw [(fA (fun j hj=>hI j hj (by have:=hl.len;omega))).1]⟩
theorem mF (A:Option Addr) (n c:Nat) (l:List UInt8) (w:World) (hl:Sl w 1 vQ A n l) (f:FuncId) (cap:List Value) [Body Tryz.prog f] (p:UInt8→Bool) (arg:UInt8→Value) (mN:∀ x,arg x=(if 1=1 then (vQ x)[0]?.getD undef else .agg (vQ x).toArray))
 (hf:∀ x∈l,∀ w',Ext w w'→bt Tryz.prog f ([arg x]++cap) w' fun v _=>v = .bool (p x)) (hn:n≤9223372036854775807) :
 bt Tryz.prog 68 [.slice A n c,.func (.func f) #[] cap.toArray] w fun v _=>v = .bool (l.any p):=by
 refine aM Tryz.func68 rfl Tryz.ntmps68 rfl ?_;have hw:=Ext.refl w;repeat' (first|refine Wz ?_|(refine SW.call rfl rfl (oz _ _ _ _ _ (hl.ext hw) f cap p arg mN (fun x hx w1 h1=>hf x hx w1 (Ext.trans hw h1)) hn) ?_;intro v w1 ab hv;subst hv;replace hw:=Ext.trans hw ab;clear ab))
 exact ae.aO rfl rfl ⟨_,rfl,hw,by rw [iL]⟩
theorem nd (A:Option Addr) (n c:Nat) (l:List de) (w:World) (hl:Sl w 6 df A n l) (f:FuncId) (cap:List Value) [Body Tryz.prog f] (p:de→Bool) (arg:de→Value) (mN:∀ x,arg x=(if 6=1 then (df x)[0]?.getD undef else .agg (df x).toArray))
 (hf:∀ x∈l,∀ w',Ext w w'→bt Tryz.prog f ([arg x]++cap) w' fun v _=>v = .bool (p x)) (hn:n≤9223372036854775807) :
 bt Tryz.prog 36 [.slice A n c,.func (.func f) #[] cap.toArray] w fun v _=>v = .bool (l.any p):=by
 refine aM Tryz.func36 rfl Tryz.ntmps36 rfl ?_;have hw:=Ext.refl w;repeat' (first|refine Wz ?_|(refine SW.call rfl rfl (kP _ _ _ _ _ (hl.ext hw) f cap p arg mN (fun x hx w1 h1=>hf x hx w1 (Ext.trans hw h1)) hn) ?_;intro v w1 ab hv;subst hv;replace hw:=Ext.trans hw ab;clear ab))
 exact ae.aO rfl rfl ⟨_,rfl,hw,by rw [iL]⟩
def lG (b:UInt8) : Bool:=(decide ((b.toNat:Int)<97) || decide (122<(b.toNat:Int))) && (decide ((b.toNat:Int)<48) || decide (57<(b.toNat:Int)))
def gE (s:ByteArray) : Bool:=decide (1≤(s.size:Int)∧(s.size:Int)≤8) && !(s.data.toList.any lG)
theorem EL {s:ByteArray} (h : 1≤s.size∧s.size≤8) (k:s.data.toList.any lG=false) : gE s=true:=by
 unfold gE;rw [k,decide_eq_true (by omega)]
 rfl
theorem y7 {s:ByteArray} (h : ¬ (1≤s.size∧s.size≤8)) : gE s=false:=by
 unfold gE;rw [decide_eq_false (by omega)]
 rfl
theorem uW {s:ByteArray} (k:s.data.toList.any lG=true) : gE s=false:=by
 unfold gE;rw [k];simp
theorem Df (b:UInt8) (w:World) : bt Tryz.prog 69 ([.int .u8 b.toNat]++[]) w fun v _=>v = .bool (lG b):=by
 refine aM Tryz.func69 rfl Tryz.ntmps69 rfl ?_;have hw:=Ext.refl w;unfold lG;obtain ⟨z,hz⟩ : ∃ z:Int,(b.toNat:Int)=z:=⟨_,rfl⟩;rw [hz];by_cases a1:z<97
 ·by_cases a2:z<48
  ·refine Wz ?_;exact ae.aO rfl rfl ⟨_,rfl,hw,by simp [a1,a2]<;>omega⟩
  ·refine Wz ?_;exact ae.aO rfl rfl ⟨_,rfl,hw,by simp [a1,a2]<;>omega⟩
 ·by_cases a2 : 122<z
  ·refine Wz ?_;exact ae.aO rfl rfl ⟨_,rfl,hw,by simp [a1,a2]<;>omega⟩
  ·refine Wz ?_;exact ae.aO rfl rfl ⟨_,rfl,hw,by simp [a1,a2]<;>omega⟩
theorem Dg (s:ByteArray) (w:World) (hs:s.size≤140737488351232) : bt Tryz.prog 38 [.string s] w fun v _=>v = .bool (gE s):=by
 refine aM Tryz.func38 rfl Tryz.ntmps38 rfl ?_;have hw:=Ext.refl w;by_cases h0:s=⟨#[]⟩
 ·subst h0;repeat' (first|refine Wz ?_|refine SW.bZ rfl rfl rfl (fun h => ?_) (fun h => ?_)|(refine SW.st (iO rfl rfl) rfl ?_))
  all_goals first|(exfalso;simp_all;done)|skip
  exact ae.aO rfl rfl ⟨_,rfl,hw,rfl⟩
 ·by_cases h8:s.size≤8
  ·have h1 : 1≤s.size:=by
    rcases Nat.eq_zero_or_pos s.size with h|h
    ·exact absurd (by cases s;simp [ByteArray.size] at h;subst h;rfl) h0
    ·exact h
   have cG:decide (s=⟨#[]⟩)=false:=decide_eq_false h0
   repeat' (first|refine Wz ?_|(refine SW.st ((iO rfl rfl).eq (congrArg Value.bool cG)) rfl ?_)|refine SW.st (pu rfl) rfl ?_)
   refine SW.Bh (e:=5) GO rfl rfl fun b c w1 ab hb hS => ?_
   replace hw:=Ext.trans hw ab;refine SW.call rfl rfl (mF _ _ _ _ _ hS _ [] lG (fun x => .int .u8 x.toNat) (fun x=>rfl) (fun x _ w1 _=>Df x w1) (by omega)) fun v w2 cJ hv => ?_
   subst hv;replace hw:=Ext.trans hw cJ;refine Wz ?_;refine ae.aO rfl rfl ⟨_,rfl,hw,?_⟩;cases k:s.data.toList.any lG
   ·rw [EL ⟨h1,h8⟩ k];rfl
   ·rw [uW k];rfl
  ·have cG:decide (s=⟨#[]⟩)=false:=decide_eq_false h0
   rw [y7 (by omega)];repeat' (first|refine Wz ?_|(refine SW.st ((iO rfl rfl).eq (congrArg Value.bool cG)) rfl ?_)|refine SW.st (pu rfl) rfl ?_)
   exact ae.aO rfl rfl ⟨_,rfl,hw,rfl⟩
theorem xG (s:ByteArray) (w:World) (hs:s.size≤140737488351232) : bt Tryz.prog 53 [.string s] w fun v _=>v = .bool (gE s):=by
 refine aM Tryz.func53 rfl Tryz.ntmps53 rfl ?_;have hw:=Ext.refl w;refine Wz ?_;have Dc:s.data.toList.length=s.size:=Array.length_toList
 refine CW.loop (fun k:Nat=>[(0,.string s),(3,.int .i64 (k:Int))]) (fun k w'=>k≤s.size∧Ext w w' ∧ ∀ (i:Nat) (h:i<s.data.toList.length),i<k→lG s.data.toList[i]=false) (fun k=>s.size-k) 0 ⟨rfl,rfl,trivial⟩ ⟨by omega,hw,fun i h h'=>by omega⟩ ?_;clear hw;rintro k w' ⟨hk,hw,hI⟩
 by_cases nC:k<s.size
 ·have di:k<s.data.toList.length:=by omega
  have eb:s[k]'nC=s.data.toList[k]:=rfl
  obtain ⟨q,hq⟩ : ∃ q,lG s.data.toList[k]=q:=⟨_,rfl⟩;obtain ⟨z,hz⟩ : ∃ z:Int,((s.data.toList[k]).toNat:Int)=z:=⟨_,rfl⟩;have lO:(((s[k]'nC).toNat:Nat) : Int)=z:=hz
  have HB:=hq;unfold lG at HB;rw [hz] at HB;cases q
  ·have hc:(97≤z∧z≤122)∨(48≤z∧z≤57):=by
    simp at HB;omega
   repeat' (first|refine Wz ?_|(refine CW.bA rfl ?_)|refine SW.bZ rfl rfl rfl (fun h => ?_) (fun h => ?_)|refine SW.st (pu rfl) rfl ?_|(refine SW.st ((Ao k rfl rfl rfl nC).eq (congrArg (Value.int .u8) lO)) rfl ?_))
   all_goals try omega
   all_goals exact ae.again (k+1) ⟨rfl,rfl,trivial⟩ (by omega) ⟨by omega,hw,fun i h h'=>by
    by_cases e:i=k
    ·subst e;exact hq
    ·exact hI i h (by omega)⟩
  ·have hc : ¬ ((97≤z∧z≤122)∨(48≤z∧z≤57)):=by
    simp at HB;omega
   have hn:gE s=false:=uW (List.any_eq_true.2 ⟨_,List.getElem_mem di,hq⟩)
   rw [hn];repeat' (first|refine Wz ?_|(refine CW.bG rfl ?_)|refine SW.bZ rfl rfl rfl (fun h => ?_) (fun h => ?_)|refine SW.st (pu rfl) rfl ?_|(refine SW.st ((Ao k rfl rfl rfl nC).eq (congrArg (Value.int .u8) lO)) rfl ?_))
   all_goals try omega
   all_goals exact ae.aO rfl rfl ⟨_,rfl,hw,rfl⟩
 ·have hn:s.data.toList.any lG=false:=by
   rw [List.any_eq_false];intro x hx;obtain ⟨i,hi,rfl⟩:=List.getElem_of_mem hx;rw [hI i hi (by omega)];simp
  repeat' (first|refine Wz ?_|(refine SW.call rfl rfl (bK _ _ _ _) ?_;intro v w1 ab hv;subst hv;replace hw:=Ext.trans hw ab;clear ab)|refine SW.st (pu rfl) rfl ?_)
  refine ae.aO rfl rfl ⟨_,rfl,hw,?_⟩;unfold gE;rw [hn];simp
open Go.RowKit
def dF (x:Int) : Int×Int×Int:=if 1≤x∧x≤64 then (if 4≤16 / x then (0,16 / x,0) else if 4≤32 / x then (1,32 / x,0) else (2,64 / x,0)) else (0,0,1)
def jv (x:Int) : Value := .tuple #[.int .i64 (dF x).1,.int .i64 (dF x).2.1,.int .i64 (dF x).2.2]
theorem vR (x:Int) (w:World) : bt Tryz.prog 83 [.int .i64 x] w fun v _=>v=jv x:=by
 refine aM Tryz.func83 rfl Tryz.ntmps83 rfl ?_;have hw:=Ext.refl w;repeat' (first|refine Wz ?_|(first|refine CW.gB rfl (fun h => ?_) (fun h => ?_)|refine CW.gC rfl (fun h => ?_) (fun h => ?_)|(apply CW.aP mixed;(· kernel_rfl);rotate_left;intro w1 ab;replace hw:=Ext.trans hw ab;clear ab;rotate_right))|(refine SW.call rfl rfl (bK _ _ _ _) ?_;intro v w1 ab hv;subst hv;replace hw:=Ext.trans hw ab;clear ab)|exact SW.bx rfl)
 all_goals refine ae.AA rfl rfl rfl rfl ⟨_,rfl,hw,?_⟩
 all_goals unfold jv dF
 ·rw [if_neg (by omega)]
 ·rw [if_pos (by omega),if_pos (by omega)]
 ·rw [if_pos (by omega),if_neg (by omega),if_pos (by omega)]
 ·rw [if_pos (by omega),if_neg (by omega),if_neg (by omega)]
theorem y8 (x:Int) (w:World) : bt Tryz.prog 64 [.int .i64 x] w fun v _=>v=jv x:=by
 refine aM Tryz.func64 rfl Tryz.ntmps64 rfl ?_;have hw:=Ext.refl w;repeat' (first|refine Wz ?_|(refine CW.gB rfl (fun h => ?_) (fun h => ?_))|refine SW.bZ rfl rfl rfl (fun h => ?_) (fun h => ?_))
 ·refine ae.AA rfl rfl rfl rfl ⟨_,rfl,hw,?_⟩;unfold jv dF;rw [if_neg (by omega)]
 ·refine ae.AA rfl rfl rfl rfl ⟨_,rfl,hw,?_⟩;unfold jv dF;rw [if_neg (by omega)]
 ·have hx : 1≤x∧x≤64:=by omega
  refine CW.loop (fun k:Nat=>[(0,.int .i64 x),(5,.int .i64 (k:Int))]) (fun k w'=>k≤2∧Ext w w'∧(1≤k → ¬ 4≤16 / x)∧(2≤k → ¬ 4≤32 / x)) (fun k=>2-k) 0 ⟨rfl,rfl,trivial⟩ ⟨by omega,hw,by omega,by omega⟩ ?_;clear hw;rintro k w' ⟨hk,hw,h1,h2⟩
  obtain rfl|rfl|rfl:k=0∨k=1∨k=2:=by omega
  ·refine Wz ?_;refine SW.st (fQ (r:=16) rfl rfl (by decide) (by decide) (by decide) (by decide) (by decide)) rfl ?_;repeat' (first|refine Wz ?_|refine SW.bZ rfl rfl rfl (fun h => ?_) (fun h => ?_))
   ·refine ae.AA rfl rfl rfl rfl ⟨_,rfl,hw,?_⟩;unfold jv dF;rw [if_pos (by omega),if_pos (by omega)]
    rfl
   ·exact ae.again 1 ⟨rfl,rfl,trivial⟩ (by omega) ⟨by omega,hw,fun _=>by omega,fun h=>by omega⟩
  ·refine Wz ?_;refine SW.st (fQ (r:=32) rfl rfl (by decide) (by decide) (by decide) (by decide) (by decide)) rfl ?_;repeat' (first|refine Wz ?_|refine SW.bZ rfl rfl rfl (fun h => ?_) (fun h => ?_))
   ·refine ae.AA rfl rfl rfl rfl ⟨_,rfl,hw,?_⟩;have:=h1 (by omega)
    unfold jv dF;rw [if_pos (by omega),if_neg (by omega),if_pos (by omega)]
    rfl
   ·exact ae.again 2 ⟨rfl,rfl,trivial⟩ (by omega) ⟨by omega,hw,fun _=>h1 (by omega),fun _=>by omega⟩
  ·refine Wz ?_;refine SW.st (fQ (r:=64) rfl rfl (by decide) (by decide) (by decide) (by decide) (by decide)) rfl ?_;have NL:=h1 (by omega);have mx:=h2 (by omega);repeat' (first|refine Wz ?_|refine SW.bZ rfl rfl rfl (fun h => ?_) (fun h => ?_))
   all_goals refine ae.AA rfl rfl rfl rfl ⟨_,rfl,hw,?_⟩
   all_goals unfold jv dF
   all_goals rw [if_pos (by omega),if_neg (by omega),if_neg (by omega)]
   all_goals rfl
open Go.RowKit
def Bi (b:Bool) : List Value:=[.bool b]
instance:fO Bi 1:=⟨fun _=>rfl,fun _ u hu=>by simp [Bi] at hu;subst hu;rfl⟩
theorem vS (A:Option Addr) (n c:Nat) (l:List Int) (x:Int) (w:World) (hl:Sl w 1 bf A n l) (hn:n≤9223372036854775807) :
 bt Tryz.prog 74 [.slice A n c,.int .i64 x] w fun v _ => ∃ i:Int,v = .int .i64 i∧(0≤i↔x∈l):=by
 refine aM Tryz.func74 rfl Tryz.ntmps74 rfl ?_;have hw:=Ext.refl w;have hA:=hl.base;have kB:=hl.len;refine Wz ?_
 refine CW.loop (fun k:Nat=>[(0,.slice A n c),(1,.int .i64 x),(7,.int .i64 (n:Int)),(8,.int .i64 (k:Int))]) (fun k w'=>k≤n∧Ext w w' ∧ ∀ (i:Nat) (h:i<l.length),i<k→l[i]≠x)
  (fun k=>n-k) 0 ⟨rfl,rfl,rfl,rfl,trivial⟩ ⟨by omega,hw,fun i h hi=>by omega⟩ ?_
 clear hw;rintro k w' ⟨hk,hw,hI⟩
 by_cases cb:k<n
 ·repeat' (first|refine Wz ?_|(refine CW.gB rfl (fun h => ?_) (fun h => ?_))|refine SW.st (ao hw rfl (hl.one cb rfl)) rfl ?_)
  ·refine ae.aO rfl rfl ⟨_,rfl,hw,_,rfl,?_⟩;have hx:x∈l:=by rw [h];exact List.getElem_mem _
   simp [hx]
  ·refine ae.again (k+1) ⟨rfl,rfl,rfl,rfl,trivial⟩ (by omega) ⟨by omega,hw,fun i h' hi => ?_⟩;by_cases zW:i=k
   ·subst zW;exact fun e=>h e.symm
   ·exact hI i h' (by omega)
 ·refine Wz ?_;refine ae.aO rfl rfl ⟨_,rfl,hw,_,rfl,?_⟩
  have hx : ¬ x∈l:=fun hm=>by
   obtain ⟨i,hi,e⟩:=List.getElem_of_mem hm;exact hI i hi (by omega) e
  simp [hx]
theorem ie (A:Option Addr) (n c:Nat) (l:List Int) (x:Int) (w:World) (hl:Sl w 1 bf A n l) (hn:n≤9223372036854775807) :
 bt Tryz.prog 49 [.slice A n c,.int .i64 x] w fun v _=>v = .bool (decide (x∈l)):=by
 refine aM Tryz.func49 rfl Tryz.ntmps49 rfl ?_;have hw:=Ext.refl w;refine Wz ?_;refine SW.call rfl rfl (vS _ _ _ _ _ _ (hl.ext hw) hn) fun v w1 ab hv => ?_
 obtain ⟨i,rfl,hi⟩:=hv;replace hw:=Ext.trans hw ab;refine Wz ?_;refine ae.aO rfl rfl ⟨_,rfl,hw,?_⟩;congr 1
 rw [decide_eq_decide];exact hi
inductive dR (l:List Int) (most:Int) : Int→List Int→Option (List Int)→Prop where
 | done (out:List Int) : dR l most (-1) out (some out)
 | bad {x:Int} {out:List Int} (h:x ≠ -1) (hb:most≤out.length ∨ ¬ (0≤x∧x<l.length)∨x∈out) : dR l most x out none
 | step {k:Nat} {out:List Int} {r:Option (List Int)} (h1:out.length<most) (hk:k<l.length) (h3:(k:Int)∉out) (h:dR l most l[k] (out++[(k:Int)]) r) : dR l most k out r
theorem dR.jK {l:List Int} {most x:Int} {out:List Int} {r s:Option (List Int)} (h:dR l most x out r) : dR l most x out s→r=s:=by
 induction h with
 | done out=>intro h';generalize hx:(-1:Int)=y at h';cases h' with
   | done=>rfl
   | bad h hb=>exact absurd hx.symm h
   | step h1 hk h3 h=>omega
 | @bad x out h hb=>intro h';cases h' with
   | done=>exact absurd rfl h
   | bad=>rfl
   | @step k _ _ h1 hk h3 h'=>rcases hb with h0|h0|h0<;>first|omega|exact absurd h0 h3
 | @step k out r h1 hk h3 h ih=>intro h';generalize hx:(k:Int)=y at h';cases h' with
   | done=>omega
   | bad h hb=>subst hx;rcases hb with h0|h0|h0<;>first|omega|exact absurd h0 h3
   | @step k' _ _ NL oV OU h' =>
     have:k=k':=by omega
     subst this;exact ih h'
def nf (n:Nat) (out:List Int) : Nat:=((List.range n).filter fun i:Nat=>decide ((i:Int)∉out)).length
theorem uX {n k:Nat} {out:List Int} (hk:k<n) (h:(k:Int)∉out) : nf n (out++[(k:Int)])<nf n out:=by
 unfold nf
 have e:((List.range n).filter fun i:Nat=>decide ((i:Int)∉out++[(k:Int)]))=((List.range n).filter fun i:Nat=>decide ((i:Int)∉out)).filter fun i:Nat=>decide (i≠k):=by
  rw [List.filter_filter];apply List.filter_congr;intro i _;rw [← Bool.decide_and,decide_eq_decide];simp only [List.mem_append,List.mem_singleton,not_or];constructor
  ·rintro ⟨h1,h2⟩;exact ⟨fun e=>h2 (by rw [e]),h1⟩
  ·rintro ⟨h1,h2⟩;exact ⟨h2,fun e=>h1 (by omega)⟩
 rw [e];refine List.length_filter_lt_length_iff_exists.2 ⟨k,?_,by simp⟩;simp [hk,h]
open Go.RowKit
theorem Own.vT {α β:Type} {w:World} {lo nw:Nat} {e e':TypeId} {sz Kx:Nat} {enc : α → List Value} {GD : β → List Value} {A B:Option Addr} {m c k d:Nat} {l:List α} {l':List β}
 (hO:Own w lo e sz enc A m c l) (hS:Own w nw e' Kx GD B k d l') (cG:Nat.beq e e'=false) : aQ A c=none∨aQ A c≠aQ B d:=by
 rcases hO.row with ⟨_,rfl⟩|⟨hc,g,gb,rfl,_,h2,_⟩
 ·exact .inl (by simp [aQ])
 ·right;rcases hS.row with ⟨_,rfl⟩|⟨hd,g',NM,rfl,_,mx,_⟩
  ·simp [aQ,Nat.pos_iff_ne_zero.1 hc]
  ·simp only [aQ,Nat.pos_iff_ne_zero.1 hc,Nat.pos_iff_ne_zero.1 hd,if_false,Option.map_some,ne_eq,Option.some.injEq];rintro rfl;rw [h2] at mx;injection mx with mx
   injection mx with _ h _
   subst h;simp at cG
def Ap (lo:Nat) (r:Option (List Int)) (v:Value) (w:World) : Prop:=match r with
 | none=>v = .tuple #[.slice none 0 0,.int .i64 8]
 | some out => ∃ A c,v = .tuple #[.slice A out.length c,.int .i64 0]∧Own w lo 3 1 bf A out.length c out∧out.length≤17592186044416
theorem sV (n:Nat) : nf n []≤n:=Nat.le_trans (List.length_filter_le _ _) (by simp)
theorem y9 (A:Option Addr) (n c:Nat) (l:List Int) (x most:Int) (w:World) (hl:Sl w 1 bf A n l) (hn:n*8≤140737488355328) :
 bt Tryz.prog 98 [.slice A n c,.int .i64 x,.int .i64 most] w fun v w' => ∃ r,dR l most x [] r∧Ap w.heap.size r v w':=by
 refine aM Tryz.func98 rfl Tryz.ntmps98 rfl ?_;have hw:=Ext.refl w;have tM:n≤2305843009213693952:=by omega
 have hA:=hl.base;have kB:=hl.len;refine Wz ?_
 refine CW.loop (fun s:List Int×Int×Option Addr×Nat=>[(0,.slice A n c),(1,.int .i64 s.2.1),(2,.int .i64 most),(8,.slice s.2.2.1 s.1.length s.2.2.2)])
  (fun s w'=>s.1.length+nf n s.1≤n∧(∀ r,dR l most s.2.1 s.1 r→dR l most x [] r)∧Ext w w'∧Own w' w.heap.size 3 1 bf s.2.2.1 s.1.length s.2.2.2 s.1) (fun s=>nf n s.1) ([],x,none,0) ⟨rfl,rfl,rfl,rfl,trivial⟩
  ⟨by simpa using sV n,fun _ h=>h,hw,Own.dS _ _ _ _ _ _⟩ ?_
 clear hw;rintro ⟨out,y,A1,c1⟩ w' ⟨hk,hF,hw,hO⟩
 simp only at hk hF hO ⊢;by_cases hy:y = -1
 ·refine Wz ?_;refine ae.cy rfl rfl rfl ⟨_,rfl,hw,some out,hF _ (by subst hy;exact .done _),A1,c1,rfl,hO,by omega⟩
 ·by_cases hm:most≤out.length
  ·refine Wz ?_;exact ae.cy rfl rfl rfl ⟨_,rfl,hw,none,hF _ (.bad hy (.inl hm)),rfl⟩
  ·by_cases hx : 0≤y∧y<n
   ·obtain ⟨k,rfl⟩:=Int.eq_ofNat_of_zero_le hx.1;have cb:k<n:=by omega
    by_cases lH:(k:Int)∈out
    ·repeat' (first|refine Wz ?_|(refine SW.call rfl rfl (r7 _ _ _ _ _ _ tM) ?_;intro v w1 ab hv;subst hv;replace hw:=Ext.trans hw ab;replace hO:=hO.ext ab;clear ab))
     refine SW.call rfl rfl (ie _ _ _ _ _ _ hO.sl (by omega)) fun v w1 ab hv => ?_
     rw [decide_eq_true lH] at hv;subst hv;replace hw:=Ext.trans hw ab;refine Wz ?_;exact ae.cy rfl rfl rfl ⟨_,rfl,hw,none,hF _ (.bad hy (.inr (.inr lH))),rfl⟩
    ·have hu:=uX cb lH;repeat' (first|refine Wz ?_|(refine SW.call rfl rfl (r7 _ _ _ _ _ _ tM) ?_;intro v w1 ab hv;subst hv;replace hw:=Ext.trans hw ab;replace hO:=hO.ext ab;clear ab))
     refine SW.call rfl rfl (ie _ _ _ _ _ _ hO.sl (by omega)) fun v w1 ab hv => ?_
     rw [decide_eq_false lH] at hv;subst hv;replace hw:=Ext.trans hw ab;replace hO:=hO.ext ab;refine Wz ?_;refine SW.bD rfl rfl rfl rfl rfl fun b w1 ab hb hB => ?_
     replace hw:=Ext.trans hw ab;replace hO:=hO.ext ab;refine SW.append hO (aI.lj (enc:=bf) hB) hw.size rfl rfl rfl (by omega) (by omega) fun A2 c2 w2 gi hg => ?_
     replace hw:=aF hw hg (Nat.le_refl _) hO.aL;repeat' (first|refine Wz ?_|refine SW.st (ao hw rfl (hl.one cb rfl)) rfl ?_)
     refine ae.again (out++[(k:Int)],l[k]'(hl.lt cb),A2,c2) ⟨rfl,rfl,rfl,by simp;rfl,trivial⟩ hu ⟨by simp only [List.length_append,List.length_singleton];omega,fun r h=>hF r (.step (by omega) (hl.lt cb) lH h),hw,by simpa using gi⟩
   ·repeat' (first|refine Wz ?_|(refine SW.call rfl rfl (r7 _ _ _ _ _ _ tM) ?_;intro v w1 ab hv;subst hv;replace hw:=Ext.trans hw ab;replace hO:=hO.ext ab;clear ab))
    exact ae.cy rfl rfl rfl ⟨_,rfl,hw,none,hF _ (.bad hy (.inr (.inl (by omega)))),rfl⟩
def ng (n:Nat) (out:List Int) : List Bool:=(List.range n).map fun i:Nat=>decide ((i:Int)∈out)
theorem Bj (n:Nat) : ng n []=List.replicate n false:=by
 apply List.ext_getElem (by simp [ng]);intro i h1 h2;simp [ng]
theorem Bl {n k:Nat} {out:List Int}:(ng n out).set k true=ng n (out++[(k:Int)]):=by
 apply List.ext_getElem (by simp [ng]);intro i h1 h2;rw [List.getElem_set];by_cases h:k=i
 ·subst h;simp [ng]
 ·have : ¬ i=k:=fun e=>h e.symm
  simp [ng,h,Int.natCast_inj,this]
theorem oA {w:World} {B:Option Addr} {n k:Nat} {out:List Int} (h:Sl w 1 Bi B n (ng n out)) (hk:k<n) : w.cell? ((B.getD default).add (k*1))=some (.bool (decide ((k:Int)∈out))):=by
 have:=h.one (u := .bool (decide ((k:Int)∈out))) hk (by simp [Bi,ng])
 exact this
theorem vU (A:Option Addr) (n c:Nat) (l:List Int) (x most:Int) (w:World) (hl:Sl w 1 bf A n l) (hn:n*8≤140737488355328) :
 bt Tryz.prog 112 [.slice A n c,.int .i64 x,.int .i64 most] w fun v w' => ∃ r,dR l most x [] r∧Ap w.heap.size r v w':=by
 refine aM Tryz.func112 rfl Tryz.ntmps112 rfl ?_;have hw:=Ext.refl w;have tM:n≤2305843009213693952:=by omega
 have hA:=hl.base;have kB:=hl.len;refine Wz ?_;refine SW.make (enc:=Bi) (k:=n) false rfl rfl rfl (by omega) (by omega) rfl fun B d w1 ab hS => ?_
 have fG:=hw.size;replace hw:=Ext.trans hw ab;rw [← Bj n] at hS;replace hS:=Own.low hS fG;refine Wz ?_
 refine CW.loop (fun s:List Int×Int×Option Addr×Nat=>[(0,.slice A n c),(1,.int .i64 s.2.1),(2,.int .i64 most),(8,.slice B n d),(9,.slice s.2.2.1 s.1.length s.2.2.2)])
  (fun s w'=>s.1.length+nf n s.1≤n∧(∀ r,dR l most s.2.1 s.1 r→dR l most x [] r)∧Ext w w'∧Own w' w.heap.size 3 1 bf s.2.2.1 s.1.length s.2.2.2 s.1∧Own w' w.heap.size 4 1 Bi B n d (ng n s.1)) (fun s=>nf n s.1) ([],x,none,0) ⟨rfl,rfl,rfl,rfl,rfl,trivial⟩
  ⟨by simpa using sV n,fun _ h=>h,hw,Own.dS _ _ _ _ _ _,hS⟩ ?_
 clear hw hS;rintro ⟨out,y,A1,c1⟩ w' ⟨hk,hF,hw,hO,hS⟩
 simp only at hk hF hO hS ⊢;by_cases hy:y = -1
 ·refine Wz ?_;refine ae.cy rfl rfl rfl ⟨_,rfl,hw,some out,hF _ (by subst hy;exact .done _),A1,c1,rfl,hO,by omega⟩
 ·by_cases hm:most≤out.length
  ·refine Wz ?_;exact ae.cy rfl rfl rfl ⟨_,rfl,hw,none,hF _ (.bad hy (.inl hm)),rfl⟩
  ·by_cases hx : 0≤y∧y<n
   ·obtain ⟨k,rfl⟩:=Int.eq_ofNat_of_zero_le hx.1;have cb:k<n:=by omega
    have OV:=hS.sl.base;by_cases lH:(k:Int)∈out
    ·have uF:=oA hS.sl cb;rw [decide_eq_true lH] at uF;repeat' (first|refine Wz ?_|refine SW.st (ak rfl (oA hS.sl cb)) rfl ?_|(refine SW.call rfl rfl (lp _ _ _ _ _ _ tM) ?_;intro v w1 ab hv;subst hv;replace hw:=Ext.trans hw ab;replace hO:=hO.ext ab;replace hS:=hS.ext ab;clear ab))
     exact ae.cy rfl rfl rfl ⟨_,rfl,hw,none,hF _ (.bad hy (.inr (.inr lH))),rfl⟩
    ·have hu:=uX cb lH;repeat' (first|refine Wz ?_|refine SW.st (ak rfl (oA hS.sl cb)) rfl ?_|(refine SW.call rfl rfl (lp _ _ _ _ _ _ tM) ?_;intro v w1 ab hv;subst hv;replace hw:=Ext.trans hw ab;replace hO:=hO.ext ab;replace hS:=hS.ext ab;clear ab))
     refine SW.ig k 0 true hS rfl rfl rfl cb (by omega) (by rw [add_zero]) rfl fun w2 jk hg => ?_
     replace hw:=aF hw hg (Nat.le_refl _) hS.aL;replace hO:=hO.grown hg (hO.vT hS rfl);rw [Bl] at jk;refine Wz ?_;refine SW.bD rfl rfl rfl rfl rfl fun b w1 ab hb hB => ?_
     replace hw:=Ext.trans hw ab;replace hO:=hO.ext ab;replace jk:=jk.ext ab;refine SW.append hO (aI.lj (enc:=bf) hB) hw.size rfl rfl rfl (by omega) (by omega) fun A2 c2 w2 gi hg => ?_
     replace hw:=aF hw hg (Nat.le_refl _) hO.aL;replace jk:=jk.grown hg (jk.vT hO rfl);repeat' (first|refine Wz ?_|refine SW.st (ao hw rfl (hl.one cb rfl)) rfl ?_)
     refine ae.again (out++[(k:Int)],l[k]'(hl.lt cb),A2,c2) ⟨rfl,rfl,rfl,rfl,by simp;rfl,trivial⟩ hu ⟨by simp only [List.length_append,List.length_singleton];omega,fun r h=>hF r (.step (by omega) (hl.lt cb) lH h),hw,by simpa using gi,jk⟩
   ·repeat' (first|refine Wz ?_|(refine SW.call rfl rfl (lp _ _ _ _ _ _ tM) ?_;intro v w1 ab hv;subst hv;replace hw:=Ext.trans hw ab;replace hO:=hO.ext ab;replace hS:=hS.ext ab;clear ab))
    exact ae.cy rfl rfl rfl ⟨_,rfl,hw,none,hF _ (.bad hy (.inr (.inl (by omega)))),rfl⟩
theorem Dh {x y:Int} (h1 : 0≤x) (h2:x≤64) (h3 : 0≤y) (h4:y≤64) : 0≤x*y∧x*y≤4096 :=
 ⟨Int.mul_nonneg h1 h3,by have:=Int.mul_le_mul h2 h4 h3 (by omega:(0:Int)≤64);omega⟩
def k8 (size fk t a:Int) : Bool:=decide (0≤a-t*16) && decide (a-t*16<fk*size) && decide ((a-t*16) % size=0)
theorem xH {size fk t a:Int} {k:Nat} (hs : 1≤size) (hk:(k:Int)<fk) (h:a=16*t+k*size) : k8 size fk t a=true:=by
 have e:a-t*16=k*size:=by omega
 unfold k8;rw [e,decide_eq_true (Int.mul_nonneg (by omega) (by omega)),decide_eq_true (Int.mul_lt_mul_of_pos_right hk (by omega)),decide_eq_true (Int.mul_emod_left _ _)]
 rfl
theorem Bm {size fk t a:Int} (hs : 1≤size) (h:∀ k:Nat,(k:Int)<fk→a≠16*t+k*size) : k8 size fk t a=false:=by
 cases e:k8 size fk t a
 ·rfl
 ·exfalso;unfold k8 at e;simp only [Bool.and_eq_true,decide_eq_true_eq] at e;obtain ⟨⟨e1,e2⟩,e3⟩:=e;have h1:(a-t*16) / size<fk:=Int.ediv_lt_of_lt_mul (by omega) e2
  have h2 : 0≤(a-t*16) / size:=Int.ediv_nonneg e1 (by omega)
  have h3:=Int.mul_ediv_add_emod (a-t*16) size;obtain ⟨k,hk⟩:=Int.eq_ofNat_of_zero_le h2;rw [hk] at h1 h3;rw [e3,Int.mul_comm] at h3;exact h k h1 (by omega)
def px (ws:List Int) (size fk:Int) (x:Slab) (out:List Int) : Prop:=dR ws fk x.dg [] (some out)∧(out.length:Int)=x.ag ∧ ∀ a∈out,k8 size fk x.At a=true
theorem dR.mem {l:List Int} {most x:Int} {acc:List Int} {r:Option (List Int)} (h:dR l most x acc r) : (∀ a∈acc,0≤a∧a<(l.length:Int)) → ∀ out,r=some out → ∀ a∈out,0≤a∧a<(l.length:Int):=by
 induction h with
 | done out=>intro ha o e;cases e;exact ha
 | bad=>intro _ _ e;cases e
 | @step k out r h1 hk h3 h ih =>
   intro ha o e;refine ih (fun a hm => ?_) o e;rcases List.mem_append.1 hm with hm|hm
   ·exact ha a hm
   ·simp at hm;subst hm;exact ⟨by omega,by omega⟩
def za (l:List Block) (a:Int) : Int:=if cf l a then (l.getD (bF l a) ⟨0,0,0⟩).Order else -1
theorem zb {l:List Block} {a:Int} (h:cf l a=true) (hk:bF l a<l.length) : za l a=l[bF l a].Order:=by
 unfold za;rw [if_pos h];simp [List.getD,hk]
theorem vV {l:List Block} {a:Int} (h:cf l a=false) : za l a = -1:=by
 unfold za;rw [h]
 rfl
structure mf (s:aE) (c:bg) (i:Nat) (h:i<c.ah.length) : Prop where
 live:za s.Heap.Live c.ah[i].At=c.Order
 next : 0<i→(c.ah[i-1]'(by omega)).At<c.ah[i].At
 chain:∃ out,px s.Words c.bh c.cj c.ah[i] out
def xI (t:Int) (x:Slab) : Bool:=decide (x.At=t)
def zd (c:bg) (i:Nat) (h:i<c.au.length) : Prop:=c.au[i] = -1∨(c.au[i]∉c.au.take i∧c.ah.any (xI c.au[i])=true)
structure jF (s:aE) (c:bg) : Prop where
 lay:dF c.bh=(c.Order,c.cj,0)
 names : 0<c.Names.length
 ba:(c.au.length:Int)=s.Heap.bX
 aR:∀ (i:Nat) (h:i<c.ah.length),mf s c i h
 xJ:∀ (i:Nat) (h:i<c.au.length),zd c i h
noncomputable def jl (s:aE) (c:bg) : Bool := @decide (jF s c) (Classical.propDecidable _)
theorem ni {s:aE} {c:bg} (a:jF s c) : jl s c=true:=by unfold jl;exact @decide_eq_true _ (Classical.propDecidable _) a
theorem fj {s:aE} {c:bg} (a : ¬ jF s c) : jl s c=false:=by unfold jl;exact @decide_eq_false _ (Classical.propDecidable _) a
theorem sW {s:aE} {c:bg}:jl s c=true↔jF s c:=by
 by_cases a:jF s c
 ·simp [ni a,a]
 ·simp [fj a,a]
theorem gm {x o n:Int} (h:dF x=(o,n,0)) : (1≤x∧x≤64)∧(0≤o∧o≤2)∧(1≤n∧n≤64):=by
 unfold dF at h;split at h
 ·rename_i hx;have k1 : 64 / x≤64:=Int.ediv_le_self _ (by omega)
  have k2 : 1≤64 / x:=by rw [Int.le_ediv_iff_mul_le (by omega)];omega
  have k3 : 16 / x≤16:=Int.ediv_le_self _ (by omega)
  have k4 : 32 / x≤32:=Int.ediv_le_self _ (by omega)
  split at h
  ·simp only [Prod.mk.injEq] at h;omega
  ·split at h
   ·simp only [Prod.mk.injEq] at h;omega
   ·simp only [Prod.mk.injEq] at h;omega
 ·simp only [Prod.mk.injEq] at h;omega
def cc (cs:List bg) : List ByteArray:=cs.flatMap fun c=>c.Names
def cK (cs:List bg) : List Int:=cs.flatMap fun c=>c.ah.map fun x=>x.At
structure vW (acc l:List ByteArray) : Prop where
 each:∀ (k:Nat) (h:k<l.length),gE l[k]=true∧l[k]∉acc++l.take k∧(0<k→fY (l[k-1]'(by omega)) l[k]=true)
def EM (acc:List Int) (l:List Slab) : Prop := ∀ (k:Nat) (h:k<l.length),l[k].At∉acc++(l.take k).map fun x=>x.At
structure rM (s:aE) (i:Nat) (h:i<s.aa.length) : Prop where
 may:jF s s.aa[i]
 size:∀ (j:Nat) (hj:j<i),(s.aa[j]'(by omega)).bh≠s.aa[i].bh
 names:vW (cc (s.aa.take i)) s.aa[i].Names
 aR:EM (cK (s.aa.take i)) s.aa[i].ah
structure jm (s:aE) : Prop where
 words:s.Words.length=4096
 heap:bE s.Heap
 most:s.aa.length≤20
 each:∀ (i:Nat) (h:i<s.aa.length),rM s i h
noncomputable def kj (s:aE) : Bool := @decide (jm s) (Classical.propDecidable _)
theorem ze {s:aE} (a:jm s) : kj s=true:=by unfold kj;exact @decide_eq_true _ (Classical.propDecidable _) a
theorem km {s:aE} (a : ¬ jm s) : kj s=false:=by unfold kj;exact @decide_eq_false _ (Classical.propDecidable _) a
theorem xK {s:aE}:kj s=true↔jm s:=by
 by_cases a:jm s
 ·simp [ze a,a]
 ·simp [km a,a]
theorem jN (cs:List bg) (i:Nat) (h:i<cs.length) : cc (cs.take (i+1))=cc (cs.take i)++cs[i].Names:=by
 unfold cc;rw [List.take_succ_eq_append_getElem h,List.flatMap_append];simp
theorem jO (cs:List bg) (i:Nat) (h:i<cs.length) : cK (cs.take (i+1))=cK (cs.take i)++cs[i].ah.map fun x=>x.At:=by
 unfold cK;rw [List.take_succ_eq_append_getElem h,List.flatMap_append];simp
open Go.RowKit
theorem Di {z:Int} (h1 : -18446744073709551616<z) (h2:z < -9223372036854775808) : IntKind.i64.wrap z=z+18446744073709551616:=by
 simp [IntKind.wrap,IntKind.bits,IntKind.signed];omega
theorem zf (r:de) (t a:Int) (w:World) (hs : 1≤r.bh∧r.bh≤64) (hp : 1≤r.cj∧r.cj≤64) (ht : 0≤t∧t≤255) (ha : -9223372036854775808≤a∧a≤9223372036854775807) :
 bt Tryz.prog 100 [.agg (df r).toArray,.int .i64 t,.int .i64 a] w fun v _=>v = .bool (k8 r.bh r.cj t a):=by
 refine aM Tryz.func100 rfl Tryz.ntmps100 rfl ?_;refine CW.seq (CW.region (SW.box rfl rfl fun b1 w1 hw ik aB => ?_));have hm:=Dh (x:=r.cj) (y:=r.bh) (by omega) (by omega) (by omega) (by omega);unfold k8;by_cases fG:a-t*16 < -9223372036854775808
 ·have e:=Di (z:=a-t*16) (by omega) fG;rw [decide_eq_false (show ¬ 0≤a-t*16 by omega)];repeat' (first|refine Wz ?_|(refine SW.st ((rv rfl rfl).eq (congrArg (Value.int .i64) e)) rfl ?_))
  all_goals try omega
  exact ae.aO rfl rfl ⟨_,rfl,hw,rfl⟩
 ·by_cases h0 : 0≤a-t*16
  ·have e:(a-t*16).tmod r.bh=(a-t*16) % r.bh:=Int.tmod_eq_emod_of_nonneg h0
   rw [decide_eq_true h0];by_cases h1:a-t*16<r.cj*r.bh
   ·rw [decide_eq_true h1];refine Wz ?_;all_goals try omega
    refine ae.aO rfl rfl ⟨_,rfl,hw,?_⟩;rw [e];rfl
   ·rw [decide_eq_false h1];refine Wz ?_;all_goals try omega
    exact ae.aO rfl rfl ⟨_,rfl,hw,rfl⟩
  ·rw [decide_eq_false h0];refine Wz ?_;all_goals try omega
   exact ae.aO rfl rfl ⟨_,rfl,hw,rfl⟩
theorem vX (r:de) (t a:Int) (w:World) (hs : 1≤r.bh∧r.bh≤64) (hp : 1≤r.cj∧r.cj≤64) (ht : 0≤t∧t≤255) :
 bt Tryz.prog 113 [.agg (df r).toArray,.int .i64 t,.int .i64 a] w fun v _=>v = .bool (k8 r.bh r.cj t a):=by
 refine aM Tryz.func113 rfl Tryz.ntmps113 rfl ?_;refine CW.seq (CW.region (SW.box rfl rfl fun b1 w1 hw ik aB => ?_));refine Wz ?_
 refine CW.loop (fun k:Nat=>[(1,.int .i64 t),(2,.int .i64 a),(3,.pointer (some ⟨b1,0,none⟩)),(7,.int .i64 (k:Int))]) (fun k w'=>(k:Int)≤r.cj∧Ext w w'∧aI w' b1 46 (df r) ∧ ∀ i:Nat,i<k→a≠16*t+i*r.bh) (fun k=>r.cj.toNat-k) 0
  ⟨rfl,rfl,rfl,rfl,trivial⟩ ⟨by omega,hw,aB,fun i h=>by omega⟩ ?_
 clear hw aB;rintro k w' ⟨hk,hw,aB,hI⟩
 by_cases cb:(k:Int)<r.cj
 ·have hm:=Dh (x:=(k:Int)) (y:=r.bh) (by omega) (by omega) (by omega) (by omega);by_cases hx:a=16*t+k*r.bh
  ·rw [xH hs.1 cb hx];refine Wz ?_;all_goals try omega
   exact ae.aO rfl rfl ⟨_,rfl,hw,rfl⟩
  ·refine Wz ?_;all_goals try omega
   exact ae.again (k+1) ⟨rfl,rfl,rfl,rfl,trivial⟩ (by omega) ⟨by omega,hw,aB,fun i h=>by
    by_cases e:i=k
    ·subst e;exact hx
    ·exact hI i (by omega)⟩
 ·rw [Bm hs.1 (fun i h=>hI i (by omega))];refine Wz ?_;exact ae.aO rfl rfl ⟨_,rfl,hw,rfl⟩
theorem zg (a:Int) (b4 b5:Nat) (q:de) (x:Slab) (w:World) (h4:aI w b4 46 (df q)) (h5:aI w b5 48 (a8 x))
 (hs : 1≤q.bh∧q.bh≤64) (hp : 1≤q.cj∧q.cj≤64) (ht : 0≤x.At∧x.At≤255) (ha : 0≤a∧a<9223372036854775807) :
 bt Tryz.prog 99 ([.int .i64 a]++[.pointer (some ⟨b4,0,none⟩),.pointer (some ⟨b5,0,none⟩)]) w fun v _=>v = .bool (!k8 q.bh q.cj x.At a):=by
 refine aM Tryz.func99 rfl Tryz.ntmps99 rfl ?_;have hw:=Ext.refl w;repeat' (first|refine Wz ?_|(refine SW.call rfl rfl (zf q x.At a _ hs hp ht (by omega)) ?_;intro v w1 ab hv;subst hv;replace hw:=Ext.trans hw ab;clear ab))
 exact ae.aO rfl rfl ⟨_,rfl,hw,rfl⟩
def nj (lo:Nat) (ws:List Int) (size fk:Int) (x:Slab) (v:Value) (w:World) : Prop :=
 (∃ out A k,px ws size fk x out∧v = .tuple #[.slice A out.length k,.bool true]∧Own w lo 3 1 bf A out.length k out∧out.length≤17592186044416) ∨
 ((∀ out,¬ px ws size fk x out)∧v = .tuple #[.slice none 0 0,.bool false])
theorem Bn (r:dP) (q:de) (x:Slab) (ws:List Int) (w:World) (hl:Sl w 1 bf r.Words.A r.Words.n ws) (hn:r.Words.n*8≤140737488355328)
 (hs : 1≤q.bh∧q.bh≤64) (hp : 1≤q.cj∧q.cj≤64) (ht : 0≤x.At∧x.At≤255) :
 bt Tryz.prog 67 [.agg (aT r).toArray,.agg (df q).toArray,.agg (a8 x).toArray] w fun v w'=>nj w.heap.size ws q.bh q.cj x v w':=by
 refine aM Tryz.func67 rfl Tryz.ntmps67 rfl ?_;refine CW.seq (CW.region (SW.box rfl rfl fun b3 w1 hw bM ar => ?_));refine SW.box rfl rfl fun b4 w2 cJ my bY => ?_
 (replace hw:=Ext.trans hw cJ;replace ar:=ar.ext cJ);refine SW.box rfl rfl fun b5 w3 j2 iC cg => ?_
 (replace hw:=Ext.trans hw j2;replace ar:=ar.ext j2;replace bY:=bY.ext j2);refine Wz ?_;have fG:=hw.size;refine SW.call rfl rfl (y9 _ _ _ _ _ _ _ (hl.ext hw) hn) fun v w4 iS hv => ?_
 obtain ⟨KO,hF,hV⟩:=hv;(replace hw:=Ext.trans hw iS;replace ar:=ar.ext iS;replace bY:=bY.ext iS;replace cg:=cg.ext iS);have HC:=hl.len;rcases KO with _|out
 ·subst hV;refine Wz ?_;refine ae.cy rfl rfl rfl ⟨_,rfl,hw,.inr ⟨fun o h => ?_,rfl⟩⟩;have:=hF.jK h.1
  cases this
 ·obtain ⟨A,k,rfl,hO,hlen⟩:=hV;replace hO:=hO.low fG;by_cases fH:(out.length:Int)=x.ag
  ·have cC:∀ w',Ext w4 w'→bt Tryz.prog 60 [.slice A out.length k,.func (.func 99) #[] [.pointer (some ⟨b4,0,none⟩),.pointer (some ⟨b5,0,none⟩)].toArray] w' fun v _=>v = .bool (out.any fun a => !k8 q.bh q.cj x.At a):=fun w' hx =>
    gI _ _ _ _ _ (hO.sl.ext hx) _ [.pointer (some ⟨b4,0,none⟩),.pointer (some ⟨b5,0,none⟩)] (fun a => !k8 q.bh q.cj x.At a) (fun x => .int .i64 x) (fun x=>rfl)
     (fun a ha w1 kH=>by
       have hm:=hF.mem (by simp) out rfl a ha;exact zg a b4 b5 q x w1 ((bY.ext hx).ext kH) ((cg.ext hx).ext kH) hs hp ht ⟨hm.1,by omega⟩) (by omega)
   have NN:=Ext.refl w4;repeat' (first|refine Wz ?_|(refine SW.st (iJ (vs:=[.pointer (some ⟨b4,0,none⟩),.pointer (some ⟨b5,0,none⟩)]) rfl) rfl ?_))
   refine SW.call rfl rfl (cC _ NN) fun v w5 jJ hv => ?_
   (replace hw:=Ext.trans hw jJ;replace hO:=hO.ext jJ);subst hv;cases dO:out.any fun a => !k8 q.bh q.cj x.At a
   ·refine Wz ?_;refine ae.cy rfl rfl rfl ⟨_,rfl,hw,.inl ⟨out,A,k,⟨hF,fH,fun a ha => ?_⟩,rfl,hO,hlen⟩⟩;rw [List.any_eq_false] at dO;simpa using dO a ha
   ·refine Wz ?_;refine ae.cy rfl rfl rfl ⟨_,rfl,hw,.inr ⟨fun o h => ?_,rfl⟩⟩;obtain ⟨a,ha,Mi⟩:=List.any_eq_true.1 dO;have e:=hF.jK h.1;injection e with e
    subst e;rw [h.2.2 a ha] at Mi;cases Mi
  ·refine Wz ?_;all_goals try omega
   refine ae.cy rfl rfl rfl ⟨_,rfl,hw,.inr ⟨fun o h => ?_,rfl⟩⟩;have e:=hF.jK h.1;injection e with e
   subst e;exact fH h.2.1
theorem zh (r:dP) (q:de) (x:Slab) (ws:List Int) (w:World) (hl:Sl w 1 bf r.Words.A r.Words.n ws) (hn:r.Words.n*8≤140737488355328)
 (hs : 1≤q.bh∧q.bh≤64) (hp : 1≤q.cj∧q.cj≤64) (ht : 0≤x.At∧x.At≤255) :
 bt Tryz.prog 85 [.agg (aT r).toArray,.agg (df q).toArray,.agg (a8 x).toArray] w fun v w'=>nj w.heap.size ws q.bh q.cj x v w':=by
 refine aM Tryz.func85 rfl Tryz.ntmps85 rfl ?_;refine CW.seq (CW.region (SW.box rfl rfl fun b3 w1 hw bM ar => ?_));refine SW.box rfl rfl fun b4 w2 cJ my bY => ?_
 (replace hw:=Ext.trans hw cJ;replace ar:=ar.ext cJ);refine SW.box rfl rfl fun b5 w3 j2 iC cg => ?_
 (replace hw:=Ext.trans hw j2;replace ar:=ar.ext j2;replace bY:=bY.ext j2);refine Wz ?_;have fG:=hw.size;refine SW.call rfl rfl (vU _ _ _ _ _ _ _ (hl.ext hw) hn) fun v w4 iS hv => ?_
 obtain ⟨KO,hF,hV⟩:=hv;(replace hw:=Ext.trans hw iS;replace ar:=ar.ext iS;replace bY:=bY.ext iS;replace cg:=cg.ext iS);have HC:=hl.len;rcases KO with _|out
 ·subst hV;refine Wz ?_;refine ae.cy rfl rfl rfl ⟨_,rfl,hw,.inr ⟨fun o h => ?_,rfl⟩⟩;have:=hF.jK h.1
  cases this
 ·obtain ⟨A,k,rfl,hO,hlen⟩:=hV;replace hO:=hO.low fG;by_cases fH:(out.length:Int)=x.ag
  ·refine Wz ?_;all_goals try omega
   refine CW.loop (fun j:Nat=>[(4,.pointer (some ⟨b4,0,none⟩)),(5,.pointer (some ⟨b5,0,none⟩)),(8,.slice A out.length k),(10,.int .i64 (j:Int))]) (fun j w'=>j≤out.length∧Ext w w'∧Own w' w.heap.size 3 1 bf A out.length k out∧aI w' b4 46 (df q)∧aI w' b5 48 (a8 x) ∧ ∀ (i:Nat) (h:i<out.length),i<j→k8 q.bh q.cj x.At out[i]=true) (fun j=>out.length-j) 0
    ⟨rfl,rfl,rfl,rfl,trivial⟩ ⟨by omega,hw,hO,bY,cg,fun i h h'=>by omega⟩ ?_
   clear hw hO bY cg ar;rintro j w' ⟨hj,hw,hO,bY,cg,hI⟩
   have Mj:=hO.sl.base;by_cases jo:j<out.length
   ·have cO:∀ w',bt Tryz.prog 113 [.agg (df q).toArray,.int .i64 x.At,.int .i64 out[j]] w' fun v _=>v = .bool (k8 q.bh q.cj x.At out[j]):=fun w'=>vX q x.At out[j] w' hs hp ht
    cases ho:k8 q.bh q.cj x.At out[j]
    ·rw [ho] at cO;repeat' (first|refine Wz ?_|(first|refine CW.bG rfl ?_|(apply CW.aP mixed;(· kernel_rfl);rotate_left;intro w1 ab;replace hw:=Ext.trans hw ab;replace hO:=hO.ext ab;replace bY:=bY.ext ab;replace cg:=cg.ext ab;clear ab;rotate_right))|refine SW.st (ak rfl (hO.sl.one jo rfl)) rfl ?_|refine SW.bq rfl rfl (fun w1 ab=>(cO _)) ?_|exact SW.bx rfl)
     refine ae.cy rfl rfl rfl ⟨_,rfl,hw,.inr ⟨fun o h => ?_,rfl⟩⟩;have e:=hF.jK h.1;injection e with e
     subst e;rw [h.2.2 _ (List.getElem_mem jo)] at ho;cases ho
    ·rw [ho] at cO;repeat' (first|refine Wz ?_|(first|refine CW.bA rfl ?_|(apply CW.aP mixed;(· kernel_rfl);rotate_left;intro w1 ab;replace hw:=Ext.trans hw ab;replace hO:=hO.ext ab;replace bY:=bY.ext ab;replace cg:=cg.ext ab;clear ab;rotate_right))|refine SW.st (ak rfl (hO.sl.one jo rfl)) rfl ?_|refine SW.bq rfl rfl (fun w1 ab=>(cO _)) ?_|exact SW.bx rfl)
     exact ae.again (j+1) ⟨rfl,rfl,rfl,rfl,trivial⟩ (by omega) ⟨by omega,hw,hO,bY,cg,fun i h h'=>by
      by_cases e:i=j
      ·subst e;exact ho
      ·exact hI i h (by omega)⟩
   ·refine Wz ?_;refine ae.cy rfl rfl rfl ⟨_,rfl,hw,.inl ⟨out,A,k,⟨hF,fH,fun a ha => ?_⟩,rfl,hO,hlen⟩⟩;obtain ⟨i,hi,rfl⟩:=List.getElem_of_mem ha;exact hI i hi (by omega)
  ·refine Wz ?_;all_goals try omega
   refine ae.cy rfl rfl rfl ⟨_,rfl,hw,.inr ⟨fun o h => ?_,rfl⟩⟩;have e:=hF.jK h.1;injection e with e
   subst e;exact fH h.2.1
end Go.Proofs.YtjimadiidbkohaaGreatDoor
