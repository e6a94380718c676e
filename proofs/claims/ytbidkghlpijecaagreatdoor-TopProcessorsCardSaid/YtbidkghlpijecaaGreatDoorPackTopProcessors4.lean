/-
  Texts of the claim TopProcessors, part 4: what its theorem leans on.
-/
import Derived.Test.YtbidkghlpijecaaGreatDoorPackTopProcessors3
import Derived.Test.YtbidkghlpijecaaGreatDoorPackTopProcessors2
import Derived.Test.YtbidkghlpijecaaGreatDoorPackTopProcessors1
set_option linter.unusedVariables false
set_option linter.unusedSimpArgs false
namespace Go.Proofs.YtbidkghlpijecaaGreatDoor
open Go.RowKit
section
variable {P:Program} {L:Env} {w:World} {d:Option Nat} {T:TypeId} {pos:String} {af:Array Edge} {g:Option (Nat×Bool)}
theorem Lr {t ty:TypeId} {x y:Operand} {i j:Int} (a b:Nat) (hx:cg L x=some (.int .i64 i)) (hy:cg L y=some (.int .i64 j)) (ha:i=(a:Int)) (hb:j=(b:Int)) (iY:a<9223372036854775808) (ka:b<9223372036854775808) :
 St P ⟨d,.binOp .xor t x y ty,T,pos,af,g⟩ L w (.int .i64 ((a ^^^ b:Nat) : Int)) :=
 ⟨fun n A hA w' _=>by
  have e1:=hA.eval hx;have e2:=hA.eval hy;subst ha hb;generalize A.eval = ρ at *
  have dL:a ^^^ b<2 ^ 63:=Nat.xor_lt_two_pow (by omega) (by omega)
  have e:(BitVec.ofInt 64 (a:Int) ^^^ BitVec.ofInt 64 (b:Int)).toNat=a ^^^ b:=by
   rw [BitVec.toNat_xor,BitVec.ofInt_natCast,BitVec.ofInt_natCast,BitVec.toNat_ofNat,BitVec.toNat_ofNat,Nat.mod_eq_of_lt (by omega),Nat.mod_eq_of_lt (by omega)]
  have aI:(Op.intBits .xor .i64 (a:Int) (b:Int)).run P w' = .ok (.int .i64 ((a ^^^ b:Nat) : Int)) w':=by
   have:Op.intBits .xor .i64 (a:Int) (b:Int)=(pure (.int .i64 (IntKind.i64.wrap ((BitVec.ofInt 64 (a:Int) ^^^ BitVec.ofInt 64 (b:Int)).toNat:Nat))) : Sem Value):=rfl
   rw [this,e,gf (by omega) (by omega)]
   rfl
  have aD:(binOp .xor t (.int .i64 (a:Int)) (.int .i64 (b:Int))).run P w' = .ok (.int .i64 ((a ^^^ b:Nat) : Int)) w':=by
   have:binOp .xor t (.int .i64 (a:Int)) (.int .i64 (b:Int))=Op.intBits .xor .i64 (a:Int) (b:Int):=by simp [binOp]
   rw [this,aI]
  simp [execOp,e1,e2,eqGuard,aD]⟩
theorem ll {t ty:TypeId} {x y:Operand} {i j:Int} (a o:Int) (hx:cg L x=some (.int .i64 i)) (hy:cg L y=some (.int .i64 j)) (hi:i=a) (hj:j=pw o) (h : 0≤a∧a<256∧0≤o∧o<4∧a % pw o=0) :
 St P ⟨d,.binOp .xor t x y ty,T,pos,af,g⟩ L w (.int .i64 (beside a o)):=by
 obtain ⟨h1,h2,h3,h4,h5⟩:=h;subst hi hj;obtain ⟨k,rfl⟩:=Int.eq_ofNat_of_zero_le h1;have hp:=bT h3 (by omega);have e:pw o=((2 ^ o.toNat:Nat) : Int):=by unfold pw;simp
 have dL:(2 ^ o.toNat:Nat)<9223372036854775808:=by omega
 have:=Lr (P:=P) (t:=t) (ty:=ty) (w:=w) (d:=d) (T:=T) (pos:=pos) (af:=af) (g:=g) k (2 ^ o.toNat) hx hy rfl e (by omega) dL
 rw [Cm (by omega) h3 h4 h5] at this;exact this
end
theorem py (z:Int) (h : 0≤z∧z≤5) (w:World) : bq Tryz.prog 69 [.int .i64 z] w fun v _=>v = .int .i64 (pw z):=by
 refine aG Tryz.func69 rfl Tryz.ntmps69 rfl ?_;have hw:=Ext.refl w;obtain ⟨m,rfl⟩:=Int.eq_ofNat_of_zero_le h.1;refine Wz ?_;refine CW.loop (fun k:Nat=>[(0,.int .i64 ((m-k:Nat) : Int)),(3,.int .i64 (pw k))]) (fun k w'=>k≤m∧Ext w w') (fun k=>m-k) 0 ⟨by simp;rfl,rfl,trivial⟩ ⟨by omega,hw⟩ ?_;clear hw;rintro k w' ⟨hk,hw⟩
 by_cases Gz:k<m
 ·have hp:=bT (o:=(k:Int)) (by omega) (by omega);have hs:=ks (o:=(k:Int)) (by omega) (by omega);refine Wz ?_;have e1:((m-k:Nat) : Int)-1=((m-(k+1) : Nat) : Int):=by omega
  have e2 : 2*pw (k:Int)=pw ((k+1:Nat) : Int):=by rw [← hs];rfl
  exact ah.again (k+1) ⟨congrArg (fun z=>some (Value.int .i64 z)) e1,congrArg (fun z=>some (Value.int .i64 z)) e2,trivial⟩ (by omega) ⟨by omega,hw⟩
 ·obtain rfl:k=m:=by omega
  refine Wz ?_;exact ah.aY rfl rfl ⟨_,rfl,hw,rfl⟩
theorem pA (r:cU) (b:Block) (w:World) (h0 : 0≤r.aK) : bq Tryz.prog 229 [.agg (bX r).toArray,.agg (aL b).toArray] w fun v _=>v = .bool (decide (fU r.aK r.To b.At b.Order)):=by
 refine aG Tryz.func229 rfl Tryz.ntmps229 rfl ?_;refine CW.seq (CW.region (SW.box rfl rfl fun b1 w1 hw aI h1 => ?_));refine SW.box rfl rfl fun b2 w2 bF aD h2 => ?_
 (replace hw:=Ext.trans hw bF;replace h1:=h1.ext bF);by_cases hf:fU r.aK r.To b.At b.Order
 ·obtain ⟨a1,a2,a3,a4,a5⟩:=id hf;have hp:=bT a1 a2;rw [decide_eq_true hf];have e:b.At.tmod (pw b.Order)=0:=by rw [Int.tmod_eq_emod_of_nonneg (by omega)];exact a5
  repeat' (first|refine Wz ?_|((apply CW.bl mixed;(· kernel_rfl);rotate_left;intro w1 ae;replace hw:=Ext.trans hw ae;replace h1:=h1.ext ae;replace h2:=h2.ext ae;clear ae;rotate_right))|(refine SW.st (fb (r:=pw b.Order) rfl rfl (by omega) (by omega) (by simp [pw]) (by omega) (by omega)) rfl ?_)|exact SW.dF rfl)
  exact ah.aY rfl rfl ⟨_,rfl,hw,by simp [e]⟩
 ·rw [decide_eq_false hf];by_cases a1 : 0≤b.Order
  ·by_cases a2:b.Order≤4
   ·by_cases a3:r.aK≤b.At
    ·by_cases a4:b.At<r.To
     ·have hp:=bT a1 a2
      have e:b.At.tmod (pw b.Order)≠0:=by
       rw [Int.tmod_eq_emod_of_nonneg (by omega)];exact fun a5=>hf ⟨a1,a2,a3,a4,a5⟩
      repeat' (first|refine Wz ?_|((apply CW.bl mixed;(· kernel_rfl);rotate_left;intro w1 ae;replace hw:=Ext.trans hw ae;replace h1:=h1.ext ae;replace h2:=h2.ext ae;clear ae;rotate_right))|(refine SW.st (fb (r:=pw b.Order) rfl rfl (by omega) (by omega) (by simp [pw]) (by omega) (by omega)) rfl ?_)|exact SW.dF rfl)
      exact ah.aY rfl rfl ⟨_,rfl,hw,by simp [e]⟩
     ·repeat' (first|refine Wz ?_|((apply CW.bl mixed;(· kernel_rfl);rotate_left;intro w1 ae;replace hw:=Ext.trans hw ae;replace h1:=h1.ext ae;replace h2:=h2.ext ae;clear ae;rotate_right))|exact SW.dF rfl)
      exact ah.aY rfl rfl ⟨_,rfl,hw,by simp [*]⟩
    ·repeat' (first|refine Wz ?_|((apply CW.bl mixed;(· kernel_rfl);rotate_left;intro w1 ae;replace hw:=Ext.trans hw ae;replace h1:=h1.ext ae;replace h2:=h2.ext ae;clear ae;rotate_right))|exact SW.dF rfl)
     exact ah.aY rfl rfl ⟨_,rfl,hw,by simp [*]⟩
   ·repeat' (first|refine Wz ?_|((apply CW.bl mixed;(· kernel_rfl);rotate_left;intro w1 ae;replace hw:=Ext.trans hw ae;replace h1:=h1.ext ae;replace h2:=h2.ext ae;clear ae;rotate_right))|exact SW.dF rfl)
    exact ah.aY rfl rfl ⟨_,rfl,hw,by simp [*]⟩
  ·repeat' (first|refine Wz ?_|((apply CW.bl mixed;(· kernel_rfl);rotate_left;intro w1 ae;replace hw:=Ext.trans hw ae;replace h1:=h1.ext ae;replace h2:=h2.ext ae;clear ae;rotate_right))|exact SW.dF rfl)
   exact ah.aY rfl rfl ⟨_,rfl,hw,by simp [*]⟩
theorem mC (b:Block) (w:World) (h : 0≤b.Order∧b.Order≤4) (ha : 0≤b.At∧b.At≤256) : bq Tryz.prog 230 [.agg (aL b).toArray] w fun v _=>v = .int .i64 (b.At+pw b.Order):=by
 refine aG Tryz.func230 rfl Tryz.ntmps230 rfl ?_;refine CW.seq (CW.region (SW.box rfl rfl fun b1 w1 hw aI h1 => ?_));have hp:=bT h.1 h.2;repeat' (first|refine Wz ?_|((apply CW.bl mixed;(· kernel_rfl);rotate_left;intro w1 ae;replace hw:=Ext.trans hw ae;replace h1:=h1.ext ae;clear ae;rotate_right))|(refine SW.st (fb (r:=pw b.Order) rfl rfl (by omega) (by omega) (by simp [pw]) (by omega) (by omega)) rfl ?_)|exact SW.dF rfl)
 exact ah.aY rfl rfl ⟨_,rfl,hw,rfl⟩
theorem y9 (r:cU) (a o:Int) (w:World) (h0 : 0≤r.aK∧r.aK≤256) (h1 : 0≤r.To∧r.To≤256) : bq Tryz.prog 211 [.agg (bX r).toArray,.int .i64 a,.int .i64 o] w fun v _=>v = .bool (decide (fU r.aK r.To a o)):=by
 refine aG Tryz.func211 rfl Tryz.ntmps211 rfl ?_;refine CW.seq (CW.region (SW.box rfl rfl fun b1 w1 hw aI hB => ?_));by_cases a1 : 0≤o∧o≤4
 ·by_cases a2:r.aK≤a∧a<r.To
  ·have hp:=bT a1.1 a1.2;have e:a.tmod (pw o)=a % pw o:=Int.tmod_eq_emod_of_nonneg (by omega)
   repeat' (first|refine Wz ?_|((first|refine SW.call rfl rfl (jD _ _ _ _) ?_|refine SW.call rfl rfl (py _ (by omega) _) ?_);intro v w1 ae hv;subst hv;replace hw:=Ext.trans hw ae;replace hB:=hB.ext ae;clear ae))
   all_goals try omega
   refine ah.aY rfl rfl ⟨_,rfl,hw,?_⟩;rw [e];simp [fU,a1.1,a1.2,a2.1,a2.2]
  ·repeat' (first|refine Wz ?_|(refine SW.call rfl rfl (jD _ _ _ _) ?_;intro v w1 ae hv;subst hv;replace hw:=Ext.trans hw ae;replace hB:=hB.ext ae;clear ae))
   all_goals try omega
   refine ah.aY rfl rfl ⟨_,rfl,hw,?_⟩;rw [decide_eq_false (fun h=>a2 ⟨h.2.2.1,h.2.2.2.1⟩)];try (simp;omega)
 ·repeat' (first|refine Wz ?_|(refine SW.call rfl rfl (jD _ _ _ _) ?_;intro v w1 ae hv;subst hv;replace hw:=Ext.trans hw ae;replace hB:=hB.ext ae;clear ae))
  all_goals try omega
  refine ah.aY rfl rfl ⟨_,rfl,hw,?_⟩;rw [decide_eq_false (fun h=>a1 ⟨h.1,h.2.1⟩)];try (simp;omega)
theorem lm {α:Type} {p : α → Bool} {l:List α} {k:Nat} (h:k<l.length) (hp:p l[k]=true) (hf:∀ j (hj:j<l.length),j<k→p l[j]=false) : idxOf p l=(k:Int):=by
 have e:l.findIdx p=k:=(List.findIdx_eq h).2 ⟨hp,fun j hj=>hf j (by omega) hj⟩
 have e2:l.any p=true:=List.any_eq_true.2 ⟨l[k],List.getElem_mem h,hp⟩
 simp [idxOf,e,e2]
theorem jf {α:Type} {p : α → Bool} {l:List α} (hf:∀ j (hj:j<l.length),p l[j]=false) : idxOf p l = -1∧l.any p=false:=by
 have e:l.any p=false:=by
  rw [List.any_eq_false];intro x hx;obtain ⟨j,hj,rfl⟩:=List.getElem_of_mem hx;simp [hf j hj]
 exact ⟨by simp [idxOf,e],e⟩
theorem kz {α:Type} (p : α → Bool) (l:List α) : decide (0≤idxOf p l)=l.any p:=by
 unfold idxOf;by_cases h:l.any p=true
 ·simp [h]
 ·simp [h]
theorem sh (A:Option Addr) (n c:Nat) (l:List Int) (w:World) (hl:Sl w 1 bK A n l) (f:FuncId) (cap:List Value) [Body Tryz.prog f] (p:Int→Bool) (arg:Int→Value) (nj:∀ x,arg x=(if 1=1 then (bK x)[0]?.getD undef else .agg (bK x).toArray))
 (hf:∀ x∈l,∀ w',Ext w w'→bq Tryz.prog f ([arg x]++cap) w' fun v _=>v = .bool (p x)) (hn:n≤9223372036854775807) :
 bq Tryz.prog 187 [.slice A n c,.func (.func f) #[] cap.toArray] w fun v _=>v = .int .i64 (idxOf p l):=by
 refine aG Tryz.func187 rfl Tryz.ntmps187 rfl ?_;have hw:=Ext.refl w;have hA:=hl.base;refine Wz ?_;refine CW.loop (fun k:Nat=>[(0,.slice A n c),(1,.func (.func f) #[] cap.toArray),(7,.int .i64 (n:Int)),(8,.int .i64 (k:Int))]) (fun k w'=>k≤n∧Ext w w' ∧ ∀ j (hj:j<l.length),j<k→p l[j]=false) (fun k=>n-k) 0 ⟨rfl,rfl,rfl,rfl,trivial⟩ ⟨by omega,hw,fun j _ h=>by omega⟩ ?_;clear hw;rintro k w' ⟨j6,hw,hI⟩
 by_cases hk:k<n
 ·have hx:=nj (l[k]'(hl.lt hk));have tv:=hf (l[k]'(hl.lt hk)) (List.getElem_mem _);rw [hx] at tv;repeat' (first|refine Wz ?_|refine SW.st (aT hw rfl (hl.one hk rfl)) rfl ?_)
  refine SW.qU rfl rfl rfl (tv _ hw) fun v w1 ae hv => ?_
  subst hv;replace hw:=Ext.trans hw ae;cases hp:p (l[k]'(hl.lt hk))
  ·refine Wz ?_;refine ah.again (k+1) ⟨rfl,rfl,rfl,rfl,trivial⟩ (by omega) ⟨by omega,hw,fun j hj h => ?_⟩;by_cases na:j=k
   ·subst na;exact hp
   ·exact hI j hj (by omega)
  ·refine Wz ?_;exact ah.aY rfl rfl ⟨_,rfl,hw,by rw [lm (hl.lt hk) hp hI]⟩
 ·refine Wz ?_;exact ah.aY rfl rfl ⟨_,rfl,hw,by rw [(jf (fun j hj=>hI j hj (by have:=hl.len;omega))).1]⟩
theorem fF (A:Option Addr) (n c:Nat) (l:List Int) (w:World) (hl:Sl w 1 bK A n l) (f:FuncId) (cap:List Value) [Body Tryz.prog f] (p:Int→Bool) (arg:Int→Value) (nj:∀ x,arg x=(if 1=1 then (bK x)[0]?.getD undef else .agg (bK x).toArray))
 (hf:∀ x∈l,∀ w',Ext w w'→bq Tryz.prog f ([arg x]++cap) w' fun v _=>v = .bool (p x)) (hn:n≤9223372036854775807) :
 bq Tryz.prog 96 [.slice A n c,.func (.func f) #[] cap.toArray] w fun v _=>v = .bool (l.any p):=by
 refine aG Tryz.func96 rfl Tryz.ntmps96 rfl ?_;have hw:=Ext.refl w;repeat' (first|refine Wz ?_|(refine SW.call rfl rfl (sh _ _ _ _ _ (hl.ext hw) f cap p arg nj (fun x hx w1 h1=>hf x hx w1 (Ext.trans hw h1)) hn) ?_;intro v w1 ae hv;subst hv;replace hw:=Ext.trans hw ae;clear ae))
 exact ah.aY rfl rfl ⟨_,rfl,hw,by rw [kz]⟩
theorem lx (A:Option Addr) (n c:Nat) (l:List Block) (w:World) (hl:Sl w 3 aL A n l) (f:FuncId) (cap:List Value) [Body Tryz.prog f] (p:Block→Bool) (arg:Block→Value) (nj:∀ x,arg x=(if 3=1 then (aL x)[0]?.getD undef else .agg (aL x).toArray))
 (hf:∀ x∈l,∀ w',Ext w w'→bq Tryz.prog f ([arg x]++cap) w' fun v _=>v = .bool (p x)) (hn:n≤9223372036854775807) :
 bq Tryz.prog 254 [.slice A n c,.func (.func f) #[] cap.toArray] w fun v _=>v = .int .i64 (idxOf p l):=by
 refine aG Tryz.func254 rfl Tryz.ntmps254 rfl ?_;have hw:=Ext.refl w;have hA:=hl.base;refine Wz ?_;refine CW.loop (fun k:Nat=>[(0,.slice A n c),(1,.func (.func f) #[] cap.toArray),(7,.int .i64 (n:Int)),(8,.int .i64 (k:Int))]) (fun k w'=>k≤n∧Ext w w' ∧ ∀ j (hj:j<l.length),j<k→p l[j]=false) (fun k=>n-k) 0 ⟨rfl,rfl,rfl,rfl,trivial⟩ ⟨by omega,hw,fun j _ h=>by omega⟩ ?_;clear hw;rintro k w' ⟨j6,hw,hI⟩
 by_cases hk:k<n
 ·have hx:=nj (l[k]'(hl.lt hk));have tv:=hf (l[k]'(hl.lt hk)) (List.getElem_mem _);rw [hx] at tv;repeat' (first|refine Wz ?_|refine SW.st (aU hw rfl rfl ((hl.all hk))) rfl ?_)
  refine SW.qU rfl rfl rfl (tv _ hw) fun v w1 ae hv => ?_
  subst hv;replace hw:=Ext.trans hw ae;cases hp:p (l[k]'(hl.lt hk))
  ·refine Wz ?_;refine ah.again (k+1) ⟨rfl,rfl,rfl,rfl,trivial⟩ (by omega) ⟨by omega,hw,fun j hj h => ?_⟩;by_cases na:j=k
   ·subst na;exact hp
   ·exact hI j hj (by omega)
  ·refine Wz ?_;exact ah.aY rfl rfl ⟨_,rfl,hw,by rw [lm (hl.lt hk) hp hI]⟩
 ·refine Wz ?_;exact ah.aY rfl rfl ⟨_,rfl,hw,by rw [(jf (fun j hj=>hI j hj (by have:=hl.len;omega))).1]⟩
theorem oc (A:Option Addr) (n c:Nat) (l:List Block) (w:World) (hl:Sl w 3 aL A n l) (f:FuncId) (cap:List Value) [Body Tryz.prog f] (p:Block→Bool) (arg:Block→Value) (nj:∀ x,arg x=(if 3=1 then (aL x)[0]?.getD undef else .agg (aL x).toArray))
 (hf:∀ x∈l,∀ w',Ext w w'→bq Tryz.prog f ([arg x]++cap) w' fun v _=>v = .bool (p x)) (hn:n≤9223372036854775807) :
 bq Tryz.prog 226 [.slice A n c,.func (.func f) #[] cap.toArray] w fun v _=>v = .bool (l.any p):=by
 refine aG Tryz.func226 rfl Tryz.ntmps226 rfl ?_;have hw:=Ext.refl w;repeat' (first|refine Wz ?_|(refine SW.call rfl rfl (lx _ _ _ _ _ (hl.ext hw) f cap p arg nj (fun x hx w1 h1=>hf x hx w1 (Ext.trans hw h1)) hn) ?_;intro v w1 ae hv;subst hv;replace hw:=Ext.trans hw ae;clear ae))
 exact ah.aY rfl rfl ⟨_,rfl,hw,by rw [kz]⟩
open Go.RowKit
def za (t:Int) : Bool := !decide (ik t)
theorem Co {t:Int} (h:ik t) : za t=false:=by simp [za,h]
theorem Cp {t:Int} (h : ¬ ik t) : za t=true:=by simp [za,h]
theorem vu (t:Int) (w:World) : bq Tryz.prog 228 ([.int .i64 t]++[]) w fun v _=>v = .bool (za t):=by
 refine aG Tryz.func228 rfl Tryz.ntmps228 rfl ?_;have hw:=Ext.refl w;by_cases h1 : 0≤t
 ·by_cases h2:t≤2
  ·rw [Co ⟨h1,h2⟩];refine Wz ?_;all_goals exact ah.aY rfl rfl ⟨_,rfl,hw,by simp;try omega⟩
  ·rw [Cp (fun h=>h2 h.2)];refine Wz ?_;all_goals exact ah.aY rfl rfl ⟨_,rfl,hw,by simp;try omega⟩
 ·rw [Cp (fun h=>h1 h.1)];refine Wz ?_;all_goals exact ah.aY rfl rfl ⟨_,rfl,hw,by simp;try omega⟩
set_option maxHeartbeats 4000000 in
theorem jg (r:cU) (z:ao) (w:World) (hr:Ca w r z) (hf:r.aj.n≤2305843009213693952) (ht:r.Types.n≤2305843009213693952) (h1 : -9223372036854775808≤r.aK∧r.aK≤9223372036854775807) (h2 : -9223372036854775808≤r.To∧r.To≤9223372036854775807) :
 bq Tryz.prog 176 [.agg (bX r).toArray] w fun v _=>v = .int .i64 (if dO z then 0 else 8):=by
 refine aG Tryz.func176 rfl Tryz.ntmps176 rfl ?_;refine CW.seq (CW.region (SW.box rfl rfl fun b1 w1 hw jh aI => ?_));have eF:=hr.from_;have eT:=hr.lV;have IP:=hr.free.len;have MX:=hr.types.len;refine Wz ?_;refine SW.call rfl rfl (vt r.aK r.To _ h1 h2) fun v w2 bF hv => ?_
 (replace hw:=Ext.trans hw bF;replace aI:=aI.ext bF);by_cases jv:dI r.aK r.To
 ·rw [g9 jv] at hv;obtain ⟨s,rfl,hs⟩:=hv;obtain ⟨o1,o2,o3,o4,o5⟩:=id jv;have m9:∀ {p:Prop},(bD z→False)→p ∨ ¬ bD z:=fun h => .inr h
  by_cases Nv : 8*(z.Types.length:Int)=z.To-z.aK
  ·refine Wz ?_;refine SW.alloc rfl fun b3 w1 ae bQ ax => ?_
   have dB:w.heap.size≤b3:=Nat.le_trans hw.size bQ
   have ly:b1≠b3:=by have:=aI.lt;omega
   replace hw:=Ext.trans hw ae;replace aI:=aI.ext ae;replace hs:=hs.ext ae;refine SW.ak ax rfl rfl rfl rfl (dr _) fun w2 cW hg => ?_
   replace hw:=hw.own dB hg;replace hs:=hs.dD ax hg rfl rfl;replace aI:=aI.grown hg (by simpa using ly);replace ax:=cW;clear cW ae hg bQ
   have cO:∀ w',Ext w w'→bq Tryz.prog 96 [.slice r.Types.A r.Types.n r.Types.c,.func (.func 228) #[] ([] : List Value).toArray] w' fun v _=>v = .bool (z.Types.any za):=fun w' h =>
    fF _ _ _ _ _ (hr.types.ext h) _ [] za (fun x => .int .i64 x) (fun x=>rfl) (fun x _ w1 _=>vu x w1) (by omega)
   cases EL:z.Types.any za
   ·rw [EL] at cO
    have si:∀ t∈z.Types,ik t:=fun t Kj=>by
     rw [List.any_eq_false] at EL;have:=EL t Kj
     simp [za] at this;exact this
    repeat' (first|refine Wz ?_|(refine SW.call rfl rfl (cO _ hw) ?_;intro v w1 ae hv;subst hv;replace hw:=Ext.trans hw ae;replace aI:=aI.ext ae;clear ae))
    refine CW.loop (fun k:Nat=>[(1,.pointer (some ⟨b1,0,none⟩)),(5,.func (.func 228) #[] #[]),(35,.slice r.aj.A r.aj.n r.aj.c),(36,.int .i64 (r.aj.n:Int)),(37,.int .i64 (k:Int))])
     (fun k w'=>k≤r.aj.n∧Ext w w'∧aW w' b1 139 (bX r)∧(∀ (i:Nat) (h:i<z.aj.length),i<k→gl z.aK z.To z.aj[i])∧(∀ (i:Nat) (h:i+1<z.aj.length),i+1<k→je z.aj[i] z.aj[i+1]))
     (fun k=>r.aj.n-k) 0 ⟨rfl,rfl,rfl,rfl,rfl,trivial⟩ ⟨by omega,hw,aI,fun i h hi=>by omega,fun i h hi=>by omega⟩ ?_
    clear hw aI ax cO hs;rintro k w' ⟨hk,hw,aI,hI,hN⟩
    have hA:=hr.free.base;by_cases dY:k<r.aj.n
    ·have fe:=hr.free.lt dY;repeat' (first|refine Wz ?_|refine SW.st (aU hw rfl rfl ((hr.free.all dY))) rfl ?_)
     refine SW.alloc rfl fun b7 w3 jA jG bO => ?_
     have jH:w.heap.size≤b7:=Nat.le_trans hw.size jG
     have bW:b1≠b7:=by have:=aI.lt;omega
     (replace hw:=Ext.trans hw jA;replace aI:=aI.ext jA);refine Wz ?_;refine SW.ak bO rfl rfl rfl rfl (fP.one (enc:=aL) _) fun w4 bB hg => ?_
     replace hw:=hw.own jH hg;replace aI:=aI.grown hg (by simpa using bW);by_cases sk:gl z.aK z.To z.aj[k]
     ·obtain ⟨EM,An⟩:=id sk;obtain ⟨f1,f2,f3,f4,f5⟩:=id EM;have hp:=bT f1 f2
      have cF:∀ w',Ext w w'→bq Tryz.prog 229 [.agg (bX r).toArray,.agg (aL z.aj[k]).toArray] w' fun v _=>v = .bool true:=fun w' _=>by
       have:=pA r z.aj[k] w' (by omega)
       rwa [eF,eT,decide_eq_true EM] at this
      have cD:∀ w',bq Tryz.prog 228 ([.int .i64 (z.aj[k]).Ty]++[]) w' fun v _=>v = .bool false:=fun w'=>by
       have:=vu (z.aj[k]).Ty w'
       rwa [Co An] at this
      by_cases xd:k=0
      ·subst xd;repeat' (first|refine Wz ?_|((apply CW.bl mixed;(· kernel_rfl);rotate_left;intro w1 ae;replace hw:=Ext.trans hw ae;replace aI:=aI.ext ae;replace bB:=bB.ext ae;clear ae;rotate_right))|refine SW.want rfl rfl ?_|refine SW.cx rfl rfl (fun w1 ae=>(cF _ (Ext.trans hw ae))) ?_|(refine SW.qq rfl rfl rfl (fun w1 _=>cD w1) ?_)|exact SW.dF rfl)
       refine ah.again (0+1) ⟨rfl,rfl,rfl,rfl,rfl,trivial⟩ (by omega) ⟨by omega,hw,aI,fun i h hi => ?_,fun i h hi=>by omega⟩;obtain rfl:i=0:=by omega
       exact sk
      ·obtain ⟨j,rfl⟩ : ∃ j,k=j+1:=⟨k-1,by omega⟩;have hj:j<r.aj.n:=by omega
       have pq:=hr.free.lt hj;obtain ⟨⟨g1,g2,g3,g4,g5⟩,_⟩:=hI j pq (by omega);have cE:∀ w',bq Tryz.prog 230 [.agg (aL z.aj[j]).toArray] w' fun v _=>v = .int .i64 ((z.aj[j]).At+pw (z.aj[j]).Order):=fun w'=>mC _ _ ⟨g1,g2⟩ ⟨by omega,by omega⟩
       by_cases dL:(z.aj[j]).At+pw (z.aj[j]).Order≤(z.aj[j+1]).At
       ·by_cases GA:(z.aj[j+1]).Order<4∧(z.aj[j]).Order=(z.aj[j+1]).Order∧(z.aj[j]).At=beside (z.aj[j+1]).At (z.aj[j+1]).Order
        ·obtain ⟨u1,u2,u3⟩:=id GA;repeat' (first|refine Wz ?_|((apply CW.bl mixed;(· kernel_rfl);rotate_left;intro w1 ae;replace hw:=Ext.trans hw ae;replace aI:=aI.ext ae;replace bB:=bB.ext ae;clear ae;rotate_right))|refine SW.st (aZ (j) rfl rfl (by assumption) (by omega) (by omega)) rfl ?_|refine SW.st (aU hw rfl rfl ((hr.free.all hj))) rfl ?_|refine SW.st (aT hw rfl (hr.free.fw hj rfl)) rfl ?_|refine SW.cx rfl rfl (fun w1 ae=>(cF _ (Ext.trans hw ae))) ?_|refine SW.cx rfl rfl (fun w1 ae=>(cE _)) ?_|(refine SW.qq rfl rfl rfl (fun w1 _=>cD w1) ?_)|(refine SW.st (fb (r:=pw (z.aj[j+1]).Order) rfl rfl (by omega) (by omega) (by simp [pw]) (by omega) (by omega)) rfl ?_)|(refine SW.st (ll (z.aj[j+1]).At (z.aj[j+1]).Order rfl rfl rfl rfl ⟨by omega,by omega,f1,u1,f5⟩) rfl ?_)|exact SW.dF rfl)
         refine ah.aY rfl rfl ⟨_,rfl,hw,?_⟩;rw [il (fun h=>(h.next j fe).2 GA)];rfl
        ·by_cases u1:(z.aj[j+1]).Order<4
         ·by_cases u2:(z.aj[j]).Order=(z.aj[j+1]).Order
          ·have u3 : ¬ (z.aj[j]).At=beside (z.aj[j+1]).At (z.aj[j+1]).Order:=fun u3=>GA ⟨u1,u2,u3⟩
           repeat' (first|refine Wz ?_|((apply CW.bl mixed;(· kernel_rfl);rotate_left;intro w1 ae;replace hw:=Ext.trans hw ae;replace aI:=aI.ext ae;replace bB:=bB.ext ae;clear ae;rotate_right))|refine SW.want rfl rfl ?_|refine SW.st (aZ (j) rfl rfl (by assumption) (by omega) (by omega)) rfl ?_|refine SW.st (aU hw rfl rfl ((hr.free.all hj))) rfl ?_|refine SW.st (aT hw rfl (hr.free.fw hj rfl)) rfl ?_|refine SW.cx rfl rfl (fun w1 ae=>(cF _ (Ext.trans hw ae))) ?_|refine SW.cx rfl rfl (fun w1 ae=>(cE _)) ?_|(refine SW.qq rfl rfl rfl (fun w1 _=>cD w1) ?_)|(refine SW.st (fb (r:=pw (z.aj[j+1]).Order) rfl rfl (by omega) (by omega) (by simp [pw]) (by omega) (by omega)) rfl ?_)|(refine SW.st (ll (z.aj[j+1]).At (z.aj[j+1]).Order rfl rfl rfl rfl ⟨by omega,by omega,f1,u1,f5⟩) rfl ?_)|exact SW.dF rfl)
           refine ah.again (j+1+1) ⟨rfl,rfl,rfl,rfl,rfl,trivial⟩ (by omega) ⟨by omega,hw,aI,fun i h hi => ?_,fun i h hi => ?_⟩
           ·by_cases lz:i=j+1
            ·subst lz;exact sk
            ·exact hI i h (by omega)
           ·by_cases lz:i=j
            ·subst lz;exact ⟨dL,GA⟩
            ·exact hN i h (by omega)
          ·repeat' (first|refine Wz ?_|((apply CW.bl mixed;(· kernel_rfl);rotate_left;intro w1 ae;replace hw:=Ext.trans hw ae;replace aI:=aI.ext ae;replace bB:=bB.ext ae;clear ae;rotate_right))|refine SW.want rfl rfl ?_|refine SW.st (aZ (j) rfl rfl (by assumption) (by omega) (by omega)) rfl ?_|refine SW.st (aU hw rfl rfl ((hr.free.all hj))) rfl ?_|refine SW.st (aT hw rfl (hr.free.fw hj rfl)) rfl ?_|refine SW.cx rfl rfl (fun w1 ae=>(cF _ (Ext.trans hw ae))) ?_|refine SW.cx rfl rfl (fun w1 ae=>(cE _)) ?_|(refine SW.qq rfl rfl rfl (fun w1 _=>cD w1) ?_)|exact SW.dF rfl)
           refine ah.again (j+1+1) ⟨rfl,rfl,rfl,rfl,rfl,trivial⟩ (by omega) ⟨by omega,hw,aI,fun i h hi => ?_,fun i h hi => ?_⟩
           ·by_cases lz:i=j+1
            ·subst lz;exact sk
            ·exact hI i h (by omega)
           ·by_cases lz:i=j
            ·subst lz;exact ⟨dL,GA⟩
            ·exact hN i h (by omega)
         ·repeat' (first|refine Wz ?_|((apply CW.bl mixed;(· kernel_rfl);rotate_left;intro w1 ae;replace hw:=Ext.trans hw ae;replace aI:=aI.ext ae;replace bB:=bB.ext ae;clear ae;rotate_right))|refine SW.want rfl rfl ?_|refine SW.st (aZ (j) rfl rfl (by assumption) (by omega) (by omega)) rfl ?_|refine SW.st (aU hw rfl rfl ((hr.free.all hj))) rfl ?_|refine SW.cx rfl rfl (fun w1 ae=>(cF _ (Ext.trans hw ae))) ?_|refine SW.cx rfl rfl (fun w1 ae=>(cE _)) ?_|(refine SW.qq rfl rfl rfl (fun w1 _=>cD w1) ?_)|exact SW.dF rfl)
          refine ah.again (j+1+1) ⟨rfl,rfl,rfl,rfl,rfl,trivial⟩ (by omega) ⟨by omega,hw,aI,fun i h hi => ?_,fun i h hi => ?_⟩
          ·by_cases lz:i=j+1
           ·subst lz;exact sk
           ·exact hI i h (by omega)
          ·by_cases lz:i=j
           ·subst lz;exact ⟨dL,GA⟩
           ·exact hN i h (by omega)
       ·repeat' (first|refine Wz ?_|((apply CW.bl mixed;(· kernel_rfl);rotate_left;intro w1 ae;replace hw:=Ext.trans hw ae;replace aI:=aI.ext ae;replace bB:=bB.ext ae;clear ae;rotate_right))|refine SW.want rfl rfl ?_|refine SW.st (aZ (j) rfl rfl (by assumption) (by omega) (by omega)) rfl ?_|refine SW.st (aU hw rfl rfl ((hr.free.all hj))) rfl ?_|refine SW.cx rfl rfl (fun w1 ae=>(cF _ (Ext.trans hw ae))) ?_|refine SW.cx rfl rfl (fun w1 ae=>(cE _)) ?_|(refine SW.qq rfl rfl rfl (fun w1 _=>cD w1) ?_)|exact SW.dF rfl)
        refine ah.aY rfl rfl ⟨_,rfl,hw,?_⟩;rw [il (fun h=>dL (h.next j fe).1)];rfl
     ·have Ao:dO z=false:=il (fun h=>sk (h.dD k fe))
      by_cases EM:fU z.aK z.To (z.aj[k]).At (z.aj[k]).Order
      ·have An : ¬ ik (z.aj[k]).Ty:=fun h=>sk ⟨EM,h⟩
       have cF:∀ w',Ext w w'→bq Tryz.prog 229 [.agg (bX r).toArray,.agg (aL z.aj[k]).toArray] w' fun v _=>v = .bool true:=fun w' _=>by
        have:=pA r z.aj[k] w' (by omega)
        rwa [eF,eT,decide_eq_true EM] at this
       have cD:∀ w',bq Tryz.prog 228 ([.int .i64 (z.aj[k]).Ty]++[]) w' fun v _=>v = .bool true:=fun w'=>by
        have:=vu (z.aj[k]).Ty w'
        rwa [Cp An] at this
       repeat' (first|refine Wz ?_|((apply CW.bl mixed;(· kernel_rfl);rotate_left;intro w1 ae;replace hw:=Ext.trans hw ae;replace aI:=aI.ext ae;replace bB:=bB.ext ae;clear ae;rotate_right))|refine SW.want rfl rfl ?_|refine SW.cx rfl rfl (fun w1 ae=>(cF _ (Ext.trans hw ae))) ?_|(refine SW.qq rfl rfl rfl (fun w1 _=>cD w1) ?_)|exact SW.dF rfl)
       exact ah.aY rfl rfl ⟨_,rfl,hw,by rw [Ao];rfl⟩
      ·have cF:∀ w',Ext w w'→bq Tryz.prog 229 [.agg (bX r).toArray,.agg (aL z.aj[k]).toArray] w' fun v _=>v = .bool false:=fun w' _=>by
        have:=pA r z.aj[k] w' (by omega)
        rwa [eF,eT,decide_eq_false EM] at this
       repeat' (first|refine Wz ?_|((apply CW.bl mixed;(· kernel_rfl);rotate_left;intro w1 ae;replace hw:=Ext.trans hw ae;replace aI:=aI.ext ae;replace bB:=bB.ext ae;clear ae;rotate_right))|refine SW.skip rfl rfl rfl rfl ?_|refine SW.cx rfl rfl (fun w1 ae=>(cF _ (Ext.trans hw ae))) ?_|exact SW.dF rfl)
       exact ah.aY rfl rfl ⟨_,rfl,hw,by rw [Ao];rfl⟩
    ·refine Wz ?_;refine ah.aY rfl rfl ⟨_,rfl,hw,?_⟩;rw [qX ⟨by rw [← eF,← eT];exact jv,Nv,si,fun i h=>hI i h (by omega),fun i h=>hN i h (by omega)⟩];rfl
   ·rw [EL] at cO;repeat' (first|refine Wz ?_|(refine SW.call rfl rfl (cO _ hw) ?_;intro v w1 ae hv;subst hv;replace hw:=Ext.trans hw ae;replace aI:=aI.ext ae;clear ae))
    refine ah.aY rfl rfl ⟨_,rfl,hw,?_⟩
    rw [il (fun h=>by
     rw [List.any_eq_true] at EL;obtain ⟨t,h1,h2⟩:=EL;rw [Co (h.types t h1)] at h2;cases h2)];rfl
  ·refine Wz ?_;refine SW.alloc rfl fun b3 w1 ae bQ ax => ?_
   have dB:w.heap.size≤b3:=Nat.le_trans hw.size bQ
   have ly:b1≠b3:=by have:=aI.lt;omega
   replace hw:=Ext.trans hw ae;replace aI:=aI.ext ae;replace hs:=hs.ext ae;refine SW.ak ax rfl rfl rfl rfl (dr _) fun w2 cW hg => ?_
   replace hw:=hw.own dB hg;replace hs:=hs.dD ax hg rfl rfl;replace aI:=aI.grown hg (by simpa using ly);replace ax:=cW;clear cW ae hg bQ;refine Wz ?_;refine ah.aY rfl rfl ⟨_,rfl,hw,?_⟩;rw [il (fun h=>Nv h.len)];rfl
 ·rw [lu jv] at hv;obtain ⟨s,rfl,hs⟩:=hv;refine Wz ?_;refine SW.alloc rfl fun b3 w1 ae bQ ax => ?_
  have dB:w.heap.size≤b3:=Nat.le_trans hw.size bQ
  have ly:b1≠b3:=by have:=aI.lt;omega
  replace hw:=Ext.trans hw ae;replace aI:=aI.ext ae;replace hs:=hs.ext ae;refine SW.ak ax rfl rfl rfl rfl (dr _) fun w2 cW hg => ?_
  replace hw:=hw.own dB hg;replace hs:=hs.dD ax hg rfl rfl;replace aI:=aI.grown hg (by simpa using ly);replace ax:=cW;clear cW ae hg bQ;refine Wz ?_;refine ah.aY rfl rfl ⟨_,rfl,hw,?_⟩;rw [il (fun h=>jv (by rw [eF,eT];exact h.ok))];rfl
open Go.RowKit
def DT (f:Int) (l:List Block) : Nat→Int
 | 0=>f
 | k+1=>match l[k]? with
   | some b=>b.At+pw b.Order
   | none=>0
theorem qs (f:Int) (l:List Block) (k:Nat) (h:k<l.length) : DT f l (k+1)=l[k].At+pw l[k].Order:=by simp [DT,List.getElem?_eq_getElem h]
set_option maxHeartbeats 4000000 in
theorem Ap (r:cU) (z:ao) (w:World) (hr:Ca w r z) (hf:r.aj.n≤2305843009213693952) (ht:r.Types.n≤1000000000000000000) (h1 : -9223372036854775808≤r.aK∧r.aK≤9223372036854775807) (h2 : -9223372036854775808≤r.To∧r.To≤9223372036854775807) :
 bq Tryz.prog 195 [.agg (bX r).toArray] w fun v _=>v = .bool (dO z):=by
 refine aG Tryz.func195 rfl Tryz.ntmps195 rfl ?_;refine CW.seq (CW.region (SW.box rfl rfl fun b1 w1 hw jh aI => ?_));have eF:=hr.from_;have eT:=hr.lV;have IP:=hr.free.len;have MX:=hr.types.len;refine Wz ?_;refine SW.call rfl rfl (Am r.aK r.To _ h1 h2) fun v w2 bF hv => ?_
 (replace hw:=Ext.trans hw bF;replace aI:=aI.ext bF);by_cases jv:dI r.aK r.To
 ·rw [g9 jv] at hv;obtain ⟨s,rfl,hs⟩:=hv;obtain ⟨o1,o2,o3,o4,o5⟩:=id jv;by_cases Nv : 8*(z.Types.length:Int)=z.To-z.aK
  ·refine Wz ?_;refine SW.alloc rfl fun b3 w1 ae bQ ax => ?_
   have dB:w.heap.size≤b3:=Nat.le_trans hw.size bQ
   have ly:b1≠b3:=by have:=aI.lt;omega
   replace hw:=Ext.trans hw ae;replace aI:=aI.ext ae;replace hs:=hs.ext ae;refine SW.ak ax rfl rfl rfl rfl (dr _) fun w2 cW hg => ?_
   replace hw:=hw.own dB hg;replace hs:=hs.dD ax hg rfl rfl;replace aI:=aI.grown hg (by simpa using ly);replace ax:=cW;clear cW ae hg bQ;refine Wz ?_
   refine CW.loop (fun k:Nat=>[(1,.pointer (some ⟨b1,0,none⟩)),(5,.int .i64 (k:Int))]) (fun k w'=>k≤r.Types.n∧Ext w w'∧aW w' b1 139 (bX r) ∧ ∀ (j:Nat) (hj:j<z.Types.length),j<k→ik z.Types[j]) (fun k=>r.Types.n-k) 0
    ⟨rfl,rfl,trivial⟩ ⟨by omega,hw,aI,fun j _ h=>by omega⟩ ?_
   clear hw aI ax hs;rintro k w' ⟨hk,hw,aI,hI⟩
   have hA:=hr.types.base;by_cases dY:k<r.Types.n
   ·have fe:=hr.types.lt dY;by_cases si:ik (z.Types[k])
    ·obtain ⟨t1,t2⟩:=id si;repeat' (first|refine Wz ?_|refine SW.st (aT hw rfl (hr.types.one dY rfl)) rfl ?_|(refine SW.call rfl rfl (jD _ _ _ _) ?_;intro v w1 ae hv;subst hv;replace hw:=Ext.trans hw ae;replace aI:=aI.ext ae;clear ae))
     all_goals try omega
     refine ah.again (k+1) ⟨rfl,rfl,trivial⟩ (by omega) ⟨by omega,hw,aI,fun j hj h => ?_⟩;by_cases na:j=k
     ·subst na;exact si
     ·exact hI j hj (by omega)
    ·have hn : ¬ (0≤z.Types[k]∧z.Types[k]≤2):=si
     repeat' (first|refine Wz ?_|refine SW.st (aT hw rfl (hr.types.one dY rfl)) rfl ?_|(refine SW.call rfl rfl (jD _ _ _ _) ?_;intro v w1 ae hv;subst hv;replace hw:=Ext.trans hw ae;replace aI:=aI.ext ae;clear ae))
     all_goals try omega
     refine ah.aY rfl rfl ⟨_,rfl,hw,?_⟩;rw [il (fun h=>si (h.types _ (List.getElem_mem fe)))]
   ·have si:∀ t∈z.Types,ik t:=fun t Kj=>by
     obtain ⟨j,hj,rfl⟩:=List.getElem_of_mem Kj;exact hI j hj (by omega)
    clear hI hA;refine Wz ?_
    refine CW.loop (fun k:Nat=>[(1,.pointer (some ⟨b1,0,none⟩)),(6,.int .i64 (DT z.aK z.aj k)),(7,.int .i64 (k:Int))])
     (fun k w'=>k≤r.aj.n∧Ext w w'∧aW w' b1 139 (bX r)∧(∀ (i:Nat) (h:i<z.aj.length),i<k→gl z.aK z.To z.aj[i])∧(∀ (i:Nat) (h:i+1<z.aj.length),i+1<k→je z.aj[i] z.aj[i+1]))
     (fun k=>r.aj.n-k) 0 ⟨rfl,by rw [eF];rfl,rfl,trivial⟩ ⟨by omega,hw,aI,fun i h hi=>by omega,fun i h hi=>by omega⟩ ?_
    clear hw aI hk dY;rintro k w' ⟨hk,hw,aI,hI,hN⟩
    have hA:=hr.free.base;by_cases dY:k<r.aj.n
    ·have fe:=hr.free.lt dY
     have cM:∀ w',bq Tryz.prog 211 [.agg (bX r).toArray,.int .i64 (z.aj[k]).At,.int .i64 (z.aj[k]).Order] w' fun v _=>v = .bool (decide (fU z.aK z.To (z.aj[k]).At (z.aj[k]).Order)):=fun w'=>by
      have:=y9 r (z.aj[k]).At (z.aj[k]).Order w' ⟨by omega,by omega⟩ ⟨by omega,by omega⟩
      rwa [eF,eT] at this
     repeat' (first|refine Wz ?_|refine SW.st (aU hw rfl rfl ((hr.free.all dY))) rfl ?_)
     refine SW.alloc rfl fun b7 w3 jA jG bO => ?_
     have jH:w.heap.size≤b7:=Nat.le_trans hw.size jG
     have bW:b1≠b7:=by have:=aI.lt;omega
     (replace hw:=Ext.trans hw jA;replace aI:=aI.ext jA);skip;refine SW.ak bO rfl rfl rfl rfl (fP.one (enc:=aL) _) fun w4 bB hg => ?_
     replace hw:=hw.own jH hg;replace aI:=aI.grown hg (by simpa using bW);by_cases sk:gl z.aK z.To z.aj[k]
     ·obtain ⟨EM,t1,t2⟩:=id sk;obtain ⟨f1,f2,f3,f4,f5⟩:=id EM;have hp:=bT f1 f2;have Ve:=ks f1 f2;rw [decide_eq_true EM] at cM;by_cases xd:k=0
      ·subst xd;have Ls:DT z.aK z.aj 0=z.aK:=rfl
       repeat' (first|refine Wz ?_|((apply CW.bl mixed;(· kernel_rfl);rotate_left;intro w1 ae;replace hw:=Ext.trans hw ae;replace aI:=aI.ext ae;replace bB:=bB.ext ae;clear ae;rotate_right))|refine SW.want rfl rfl ?_|((first|refine SW.call rfl rfl (cM _) ?_|refine SW.call rfl rfl (jD _ _ _ _) ?_);intro v w1 ae hv;subst hv;replace hw:=Ext.trans hw ae;replace aI:=aI.ext ae;replace bB:=bB.ext ae;clear ae)|refine SW.cx rfl rfl (fun w1 ae=>(py _ (by omega) _)) ?_|exact SW.dF rfl)
       all_goals try omega
       refine ah.again (0+1) ⟨rfl,by rw [qs _ _ _ fe];rfl,rfl,trivial⟩ (by omega) ⟨by omega,hw,aI,fun i h hi => ?_,fun i h hi=>by omega⟩;obtain rfl:i=0:=by omega
       exact sk
      ·obtain ⟨j,rfl⟩ : ∃ j,k=j+1:=⟨k-1,by omega⟩;have hj:j<r.aj.n:=by omega
       have pq:=hr.free.lt hj;have RD:=hI j pq (by omega);obtain ⟨⟨g1,g2,g3,g4,g5⟩,_⟩:=id RD;have Ls:=qs z.aK z.aj j pq;have em:(z.aj[j]).At.tmod (pw ((z.aj[j+1]).Order+1))=(z.aj[j]).At % (pw ((z.aj[j+1]).Order+1)):=Int.tmod_eq_emod_of_nonneg (by omega)
       by_cases dL:(z.aj[j]).At+pw (z.aj[j]).Order≤(z.aj[j+1]).At
       ·have Pa:=Gy RD sk dL;by_cases GA:(z.aj[j+1]).Order<4∧(z.aj[j]).Order=(z.aj[j+1]).Order∧(z.aj[j]).At+pw (z.aj[j+1]).Order=(z.aj[j+1]).At∧(z.aj[j]).At % pw ((z.aj[j+1]).Order+1)=0
        ·have ra:=Pa.2 GA;obtain ⟨u1,u2,u3,u4⟩:=id GA;clear Pa;repeat' (first|refine Wz ?_|((apply CW.bl mixed;(· kernel_rfl);rotate_left;intro w1 ae;replace hw:=Ext.trans hw ae;replace aI:=aI.ext ae;replace bB:=bB.ext ae;clear ae;rotate_right))|refine SW.st (aZ (j) rfl rfl (by assumption) (by omega) (by omega)) rfl ?_|refine SW.st (aT hw rfl (hr.free.fw hj rfl)) rfl ?_|((first|refine SW.call rfl rfl (cM _) ?_|refine SW.call rfl rfl (jD _ _ _ _) ?_);intro v w1 ae hv;subst hv;replace hw:=Ext.trans hw ae;replace aI:=aI.ext ae;replace bB:=bB.ext ae;clear ae)|refine SW.cx rfl rfl (fun w1 ae=>(py _ (by omega) _)) ?_|exact SW.dF rfl)
         all_goals try omega
         refine ah.aY rfl rfl ⟨_,rfl,hw,?_⟩;rw [il (fun h=>(h.next j fe).2 ra)]
        ·have PM:je z.aj[j] z.aj[j+1]:=⟨dL,fun h=>GA (Pa.1 h)⟩
         have hd:(¬ (z.aj[j+1]).Order<4)∨((z.aj[j+1]).Order<4 ∧ ¬ (z.aj[j]).Order=(z.aj[j+1]).Order)∨((z.aj[j+1]).Order<4∧(z.aj[j]).Order=(z.aj[j+1]).Order ∧ ¬ (z.aj[j]).At+pw (z.aj[j+1]).Order=(z.aj[j+1]).At) ∨
          ((z.aj[j+1]).Order<4∧(z.aj[j]).Order=(z.aj[j+1]).Order∧(z.aj[j]).At+pw (z.aj[j+1]).Order=(z.aj[j+1]).At ∧ ¬ (z.aj[j]).At % pw ((z.aj[j+1]).Order+1)=0):=by
          by_cases u1:(z.aj[j+1]).Order<4
          ·by_cases u2:(z.aj[j]).Order=(z.aj[j+1]).Order
           ·by_cases u3:(z.aj[j]).At+pw (z.aj[j+1]).Order=(z.aj[j+1]).At
            ·exact .inr (.inr (.inr ⟨u1,u2,u3,fun u4=>GA ⟨u1,u2,u3,u4⟩⟩))
            ·exact .inr (.inr (.inl ⟨u1,u2,u3⟩))
           ·exact .inr (.inl ⟨u1,u2⟩)
          ·exact .inl u1
         clear Pa
         have Aq:∀ (i:Nat) (h:i+1<z.aj.length),i+1<j+1+1→je z.aj[i] z.aj[i+1]:=fun i h hi=>by
          by_cases lz:i=j
          ·subst lz;exact PM
          ·exact hN i h (by omega)
         have PN:∀ (i:Nat) (h:i<z.aj.length),i<j+1+1→gl z.aK z.To z.aj[i]:=fun i h hi=>by
          by_cases lz:i=j+1
          ·subst lz;exact sk
          ·exact hI i h (by omega)
         rcases hd with u1|⟨u1,u2⟩|⟨u1,u2,u3⟩|⟨u1,u2,u3,u4⟩
         all_goals
          repeat' (first|refine Wz ?_|((apply CW.bl mixed;(· kernel_rfl);rotate_left;intro w1 ae;replace hw:=Ext.trans hw ae;replace aI:=aI.ext ae;replace bB:=bB.ext ae;clear ae;rotate_right))|refine SW.want rfl rfl ?_|refine SW.st (aZ (j) rfl rfl (by assumption) (by omega) (by omega)) rfl ?_|refine SW.st (aT hw rfl (hr.free.fw hj rfl)) rfl ?_|((first|refine SW.call rfl rfl (cM _) ?_|refine SW.call rfl rfl (jD _ _ _ _) ?_);intro v w1 ae hv;subst hv;replace hw:=Ext.trans hw ae;replace aI:=aI.ext ae;replace bB:=bB.ext ae;clear ae)|refine SW.cx rfl rfl (fun w1 ae=>(py _ (by omega) _)) ?_|exact SW.dF rfl)
          all_goals try omega
          exact ah.again (j+1+1) ⟨rfl,by rw [qs _ _ _ fe];rfl,rfl,trivial⟩ (by omega) ⟨by omega,hw,aI,PN,Aq⟩
       ·repeat' (first|refine Wz ?_|refine SW.want rfl rfl ?_|((first|refine SW.call rfl rfl (cM _) ?_|refine SW.call rfl rfl (jD _ _ _ _) ?_);intro v w1 ae hv;subst hv;replace hw:=Ext.trans hw ae;replace aI:=aI.ext ae;replace bB:=bB.ext ae;clear ae))
        all_goals try omega
        refine ah.aY rfl rfl ⟨_,rfl,hw,?_⟩;rw [il (fun h=>dL (h.next j fe).1)]
     ·have Ao:dO z=false:=il (fun h=>sk (h.dD k fe))
      by_cases EM:fU z.aK z.To (z.aj[k]).At (z.aj[k]).Order
      ·have An : ¬ (0≤(z.aj[k]).Ty∧(z.aj[k]).Ty≤2):=fun h=>sk ⟨EM,h⟩
       rw [decide_eq_true EM] at cM;repeat' (first|refine Wz ?_|refine SW.want rfl rfl ?_|((first|refine SW.call rfl rfl (cM _) ?_|refine SW.call rfl rfl (jD _ _ _ _) ?_);intro v w1 ae hv;subst hv;replace hw:=Ext.trans hw ae;replace aI:=aI.ext ae;replace bB:=bB.ext ae;clear ae))
       all_goals try omega
       exact ah.aY rfl rfl ⟨_,rfl,hw,by rw [Ao]⟩
      ·rw [decide_eq_false EM] at cM;repeat' (first|refine Wz ?_|refine SW.skip rfl rfl rfl rfl ?_|(refine SW.call rfl rfl (cM _) ?_;intro v w1 ae hv;subst hv;replace hw:=Ext.trans hw ae;replace aI:=aI.ext ae;replace bB:=bB.ext ae;clear ae))
       exact ah.aY rfl rfl ⟨_,rfl,hw,by rw [Ao]⟩
    ·refine Wz ?_;refine ah.aY rfl rfl ⟨_,rfl,hw,?_⟩;rw [qX ⟨by rw [← eF,← eT];exact jv,Nv,si,fun i h=>hI i h (by omega),fun i h=>hN i h (by omega)⟩]
  ·refine Wz ?_;refine SW.alloc rfl fun b3 w1 ae bQ ax => ?_
   have dB:w.heap.size≤b3:=Nat.le_trans hw.size bQ
   have ly:b1≠b3:=by have:=aI.lt;omega
   replace hw:=Ext.trans hw ae;replace aI:=aI.ext ae;replace hs:=hs.ext ae;refine SW.ak ax rfl rfl rfl rfl (dr _) fun w2 cW hg => ?_
   replace hw:=hw.own dB hg;replace hs:=hs.dD ax hg rfl rfl;replace aI:=aI.grown hg (by simpa using ly);replace ax:=cW;clear cW ae hg bQ;refine Wz ?_;refine ah.aY rfl rfl ⟨_,rfl,hw,?_⟩;rw [il (fun h=>Nv h.len)]
 ·rw [lu jv] at hv;obtain ⟨s,rfl,hs⟩:=hv;refine Wz ?_;refine SW.alloc rfl fun b3 w1 ae bQ ax => ?_
  have dB:w.heap.size≤b3:=Nat.le_trans hw.size bQ
  have ly:b1≠b3:=by have:=aI.lt;omega
  replace hw:=Ext.trans hw ae;replace aI:=aI.ext ae;replace hs:=hs.ext ae;refine SW.ak ax rfl rfl rfl rfl (dr _) fun w2 cW hg => ?_
  replace hw:=hw.own dB hg;replace hs:=hs.dD ax hg rfl rfl;replace aI:=aI.grown hg (by simpa using ly);replace ax:=cW;clear cW ae hg bQ;refine Wz ?_;refine ah.aY rfl rfl ⟨_,rfl,hw,?_⟩;rw [il (fun h=>jv (by rw [eF,eT];exact h.ok))]
def xe (a o:Int) (b:Block) : Bool:=decide (b.At=a) && decide (b.Order=o)
def ku (l:List Block) (a o:Int) : List Block:=l.filter fun b => !xe a o b
def fV:Nat→List Block→Int→Int→List Block×Int×Int
 | 0,l,a,o=>(l,a,o)
 | f+1,l,a,o=>if o<4 then (if l.any (xe (beside a o) o) then fV f (ku l (beside a o) o) (min a (beside a o)) (o+1) else (l,a,o)) else (l,a,o)
def bi (l:List Block) (a:Int) : Nat:=l.findIdx fun b=>decide (a≤b.At)
def aN {α:Type} (l:List α) (i:Nat) (b : α) : List α := l.take i++[b]++l.drop i
def iC (l:List Block) (a o:Int) : Bool:=l.any fun x=>decide (x.At<a+pw o) && decide (a<x.At+pw x.Order)
def oE (l:List Block) : Prop:=l.Pairwise fun x y=>x.At+pw x.Order≤y.At
structure Ar (f t:Int) (l:List Block) (a o:Int) : Prop where
 oE:oE l
 dD:∀ b∈l,gl f t b
 fit:fU f t a o
 GC:∀ b∈l,b.At+pw b.Order≤a∨a+pw o≤b.At
theorem gL {l:List Block} (h:oE l) {i j:Nat} (hj:j<l.length) (lz:i<j) : (l[i]'(by omega)).At+pw (l[i]'(by omega)).Order≤l[j].At:=by
 unfold oE at h;rw [List.pairwise_iff_getElem] at h;exact h i j (by omega) hj lz
theorem mD {z:ao} (h:bD z) : oE z.aj:=by
 have key:∀ (d i:Nat) (hj:i+d+1<z.aj.length),(z.aj[i]'(by omega)).At+pw (z.aj[i]'(by omega)).Order≤z.aj[i+d+1].At:=by
  intro d;induction d with
  | zero=>intro i hj;exact (h.next i hj).1
  | succ d ih =>
    intro i hj;have h1:=ih i (by omega);have h2:=(h.next (i+d+1) (by omega)).1;have hb:=(h.dD (i+d+1) (by omega)).1;have:=bT hb.1 hb.2.1
    have e:z.aj[i+(d+1)+1]=z.aj[i+d+1+1]'(by omega):=rfl
    rw [e];omega
 unfold oE;rw [List.pairwise_iff_getElem];intro i j hi hj lz;have:=key (j-i-1) i (by omega)
 have e:i+(j-i-1)+1=j:=by omega
 simp only [e] at this;exact this
theorem GD {f t:Int} {l:List Block} (h:oE l) (hb:∀ b∈l,gl f t b) {x y:Block} (hx:x∈l) (hy:y∈l) : x=y∨x.At+pw x.Order≤y.At∨y.At+pw y.Order≤x.At:=by
 obtain ⟨i,hi,rfl⟩:=List.getElem_of_mem hx;obtain ⟨j,hj,rfl⟩:=List.getElem_of_mem hy;rcases Nat.lt_trichotomy i j with h1|h1|h1
 ·exact .inr (.inl (gL h hj h1))
 ·subst h1;exact .inl rfl
 ·exact .inr (.inr (gL h hi h1))
theorem Lt {f t:Int} {l:List Block} (h:oE l) (hb:∀ b∈l,gl f t b) {i j:Nat} (hi:i<l.length) (hj:j<l.length) (e:l[i].At=l[j].At) : i=j:=by
 have p1:=hb _ (List.getElem_mem hi);have p2:=hb _ (List.getElem_mem hj);have q1:=bT p1.1.1 p1.1.2.1;have q2:=bT p2.1.1 p2.1.2.1;rcases Nat.lt_trichotomy i j with h1|h1|h1
 ·have:=gL h hj h1;omega
 ·exact h1
 ·have:=gL h hi h1;omega
theorem vv {a o:Int} (h : 0≤a) (h0 : 0≤o) (h4:o<4) (hm:a % pw o=0) : (min a (beside a o)) % pw (o+1)=0∧(beside a o=a+pw o∨beside a o=a-pw o)∧(beside a o) % pw o=0:=by
 rw [ks h0 (by omega)];unfold beside;have hp:=dU h0 (show o≤4 by omega);generalize pw o=q at *
 rcases hp with ⟨e,rfl⟩|⟨e,rfl⟩|⟨e,rfl⟩|⟨e,rfl⟩|⟨e,rfl⟩<;>split<;>omega
theorem iq {a o:Int} {b:Block}:xe a o b=true↔b.At=a∧b.Order=o:=by simp [xe]
theorem Ar.step {f t:Int} {l:List Block} {a o:Int} (h:Ar f t l a o) (h0 : 0≤f) (ho:o<4) (fJ:l.any (xe (beside a o) o)=true) : Ar f t (ku l (beside a o) o) (min a (beside a o)) (o+1):=by
 obtain ⟨b,hb,hi⟩:=List.any_eq_true.1 fJ;obtain ⟨e1,e2⟩:=iq.1 hi;obtain ⟨f1,f2,f3,f4,f5⟩:=h.fit;obtain ⟨g1,g2,g3,g4,g5⟩:=(h.dD b hb).1;obtain ⟨k1,k2,k3⟩:=vv (by omega) f1 ho f5;have hp:=ks f1 f2;have Pb:=bT f1 f2;refine ⟨h.oE.sublist List.filter_sublist,fun x hx=>h.dD x ((List.mem_filter.1 hx).1),⟨by omega,by omega,by omega,by omega,k1⟩,fun x hx => ?_⟩;have jn:=(List.mem_filter.1 hx).1
 have RE:xe (beside a o) o x=false:=by
  have:=(List.mem_filter.1 hx).2
  simpa using this
 have hd:=h.GC x jn;have PO:=bT (h.dD x jn).1.1 (h.dD x jn).1.2.1;rcases GD h.oE h.dD hb jn with e|e|e
 ·subst e;rw [hi] at RE;cases RE
 ·rw [hp];rw [e2] at e;omega
 ·rw [hp];omega
theorem As {f t:Int} (h0 : 0≤f) : ∀ (k:Nat) {l:List Block} {a o:Int},Ar f t l a o→Ar f t (fV k l a o).1 (fV k l a o).2.1 (fV k l a o).2.2∧(fV k l a o).1.length≤l.length
 | 0,l,a,o,h=>⟨h,Nat.le_refl _⟩
 | k+1,l,a,o,h=>by
   simp only [fV];split
   ·rename_i ho;split
    ·rename_i fJ;have ih:=As h0 k (h.step h0 ho fJ);exact ⟨ih.1,Nat.le_trans ih.2 (List.length_filter_le _ _)⟩
    ·exact ⟨h,Nat.le_refl _⟩
   ·exact ⟨h,Nat.le_refl _⟩
theorem DU {l:List Block} {a:Int} {i:Nat} (hi:i≤l.length) (h1:∀ (k:Nat) (h:k<l.length),k<i→l[k].At<a) (h2:∀ h:i<l.length,a≤l[i].At) : bi l a=i:=by
 unfold bi;by_cases h:i<l.length
 ·exact (List.findIdx_eq h).2 ⟨by simpa using h2 h,fun j hj=>by simpa using h1 j (by omega) hj⟩
 ·have e:i=l.length:=by omega
  subst e;rw [List.findIdx_eq_length];intro x hx;obtain ⟨k,hk,rfl⟩:=List.getElem_of_mem hx;simpa using h1 k hk hk
theorem DV (l:List Block) (a:Int) : bi l a≤l.length:=List.findIdx_le_length
theorem mE {l:List Block} {a:Int} {k:Nat} (hk:k<bi l a) : (l[k]'(Nat.lt_of_lt_of_le hk (DV l a))).At<a:=by
 have:=List.not_of_lt_findIdx hk
 simpa using this
theorem Au {l:List Block} {a:Int} (h:bi l a<l.length) : a≤(l[bi l a]).At:=by
 have:=List.findIdx_getElem (w:=h)
 exact of_decide_eq_true this
def sn (l:List Block) (a o:Int) : Bool:=if h:bi l a<l.length then decide ((l[bi l a]).At=a∧(l[bi l a]).Order=o) else false
theorem EN {f t:Int} {l:List Block} (hu:oE l) (hb:∀ b∈l,gl f t b) (a o:Int) : l.any (xe a o)=sn l a o:=by
 unfold sn;by_cases h:bi l a<l.length
 ·rw [dif_pos h];by_cases hh:(l[bi l a]).At=a∧(l[bi l a]).Order=o
  ·rw [decide_eq_true hh];exact List.any_eq_true.2 ⟨_,List.getElem_mem h,iq.2 hh⟩
  ·rw [decide_eq_false hh,List.any_eq_false];intro x hx hi;obtain ⟨e1,e2⟩:=iq.1 hi;obtain ⟨j,hj,rfl⟩:=List.getElem_of_mem hx;have h1:=Au h;rcases Nat.lt_trichotomy j (bi l a) with dL|dL|dL
   ·have:=mE dL;omega
   ·subst dL;exact hh ⟨e1,e2⟩
   ·have:=gL hu hj dL
    have hp:=hb _ (List.getElem_mem h);have:=bT hp.1.1 hp.1.2.1
    omega
 ·rw [dif_neg h,List.any_eq_false];intro x hx hi;obtain ⟨e1,e2⟩:=iq.1 hi;obtain ⟨j,hj,rfl⟩:=List.getElem_of_mem hx;have:=mE (show j<bi l a by omega)
  omega
theorem xl {f t:Int} {l:List Block} (hu:oE l) (hb:∀ b∈l,gl f t b) {a o:Int} {i:Nat} (hi:i<l.length) (h1:l[i].At=a) (h2:l[i].Order=o) : l.eraseIdx i=ku l a o:=by
 have bW:∀ (j:Nat) (hj:j<l.length),j≠i→xe a o l[j]=false:=fun j hj jm=>by
  cases hh:xe a o l[j] with
  | false=>rfl
  | true =>
    obtain ⟨e1,e2⟩:=iq.1 hh;exact absurd (Lt hu hb hj hi (by omega)) jm
 have e:l=l.take i++l[i]::l.drop (i+1):=by simp
 have hL:∀ x∈l.take i,xe a o x=false:=fun x hx=>by
  obtain ⟨j,hj,rfl⟩:=List.getElem_of_mem hx;simp at hj;rw [List.getElem_take];exact bW j (by omega) (by omega)
 have hR:∀ x∈l.drop (i+1),xe a o x=false:=fun x hx=>by
  obtain ⟨j,hj,rfl⟩:=List.getElem_of_mem hx;simp at hj;rw [List.getElem_drop];exact bW _ (by omega) (by omega)
 have hm:xe a o l[i]=true:=iq.2 ⟨h1,h2⟩
 unfold ku;rw [List.eraseIdx_eq_take_drop_succ]
 conv=>rhs;rw [e]
 rw [List.filter_append,List.filter_cons];simp only [hm,Bool.not_true,Bool.false_eq_true,if_false];rw [List.filter_eq_self.2 (fun x hx=>by simp [hL x hx]),List.filter_eq_self.2 (fun x hx=>by simp [hR x hx])]
noncomputable def ee (z:ao) (a o:Int) : Int×ao :=
 if dO z then (if fU z.aK z.To a o then (if iC z.aj a o then (5,⟨0,0,[],[]⟩) else
  (0,⟨z.aK,z.To,aN (fV 5 z.aj a o).1 (bi (fV 5 z.aj a o).1 (fV 5 z.aj a o).2.1) ⟨(fV 5 z.aj a o).2.1,(fV 5 z.aj a o).2.2,z.Types.getD (((fV 5 z.aj a o).2.1-z.aK) / 8).toNat 0⟩,z.Types⟩)) else (1,⟨0,0,[],[]⟩)) else (8,⟨0,0,[],[]⟩)
theorem vw {f t:Int} {z:ao} {a o:Int} (hz:bD z) (hf:fU z.aK z.To a o) (h:iC z.aj a o=false) : Ar z.aK z.To z.aj a o:=by
 refine ⟨mD hz,fun b hb => ?_,hf,fun b hb => ?_⟩
 ·obtain ⟨i,hi,rfl⟩:=List.getElem_of_mem hb;exact hz.dD i hi
 ·unfold iC at h;rw [List.any_eq_false] at h;have:=h b hb
  simp at this;omega
open Go.RowKit
open Go.RowKit
section
variable {P:Program} {n:Nat} {Q:Exit→Act→World→Prop} {L:Env} {w:World}
def Nw (n:Nat) (K:Env→World→Prop) (Q:Exit→Act→World→Prop) : Exit→Act→World→Prop
 | .normal,a,w' => ∃ L',Fit n a L'∧K L' w'
 | e,a,w'=>Q e a w'
theorem CW.Lu {c:Code} {id:Nat} (K:Env→World→Prop) (h:CW P n c (Exit.inBlock id (Nw n K Q)) L w) (k:∀ L' w',K L' w'→ah n Q .normal L' w') : CW P n c (Exit.inBlock id Q) L w :=
 ⟨fun a ha=>wp_mono (h.out a ha) fun e a' w' h'=>by
  cases e with
  | normal=>obtain ⟨L',hf,hk⟩:=h';exact (k L' w' hk).out a' hf
  | exit j =>
    simp only [Exit.inBlock] at h' ⊢;split
    ·rename_i hj;rw [if_pos hj] at h';obtain ⟨L',hf,hk⟩:=h';exact (k L' w' hk).out a' hf
    ·rename_i hj;rw [if_neg hj] at h';exact h'
  | _=>exact h'⟩
theorem ah.Av {K:Env→World→Prop} (h:K L w) : ah n (Nw n K Q) .normal L w:=⟨fun _ ha=>⟨L,ha,h⟩⟩
end
end Go.Proofs.YtbidkghlpijecaaGreatDoor
