/-
  Texts of the claim TopRoom, part 4: what its theorem leans on.
-/
import Derived.Test.YtbidkghlpijecaaGreatDoorPackTopRoom3
import Derived.Test.YtbidkghlpijecaaGreatDoorPackTopRoom2
import Derived.Test.YtbidkghlpijecaaGreatDoorPackTopRoom1
set_option linter.unusedVariables false
set_option linter.unusedSimpArgs false
namespace Go.Proofs.YtbidkghlpijecaaGreatDoor
open Go.RowKit
section
variable {P:Program} {L:Env} {w:World} {d:Option Nat} {T:TypeId} {pos:String} {af:Array Edge} {g:Option (Nat×Bool)}
theorem HA {t ty:TypeId} {x y:Operand} {i j:Int} (a b:Nat) (hx:bF L x=some (.int .i64 i)) (hy:bF L y=some (.int .i64 j)) (ha:i=(a:Int)) (hb:j=(b:Int)) (oA:a<9223372036854775808) (lV:b<9223372036854775808) :
 St P ⟨d,.binOp .xor t x y ty,T,pos,af,g⟩ L w (.int .i64 ((a ^^^ b:Nat) : Int)) :=
 ⟨fun n A hA w' _=>by
  have e1:=hA.eval hx;have e2:=hA.eval hy;subst ha hb;generalize A.eval = ρ at *
  have dg:a ^^^ b<2 ^ 63:=Nat.xor_lt_two_pow (by omega) (by omega)
  have e:(BitVec.ofInt 64 (a:Int) ^^^ BitVec.ofInt 64 (b:Int)).toNat=a ^^^ b:=by
   rw [BitVec.toNat_xor,BitVec.ofInt_natCast,BitVec.ofInt_natCast,BitVec.toNat_ofNat,BitVec.toNat_ofNat,Nat.mod_eq_of_lt (by omega),Nat.mod_eq_of_lt (by omega)]
  have aB:(Op.intBits .xor .i64 (a:Int) (b:Int)).run P w' = .ok (.int .i64 ((a ^^^ b:Nat) : Int)) w':=by
   have:Op.intBits .xor .i64 (a:Int) (b:Int)=(pure (.int .i64 (IntKind.i64.wrap ((BitVec.ofInt 64 (a:Int) ^^^ BitVec.ofInt 64 (b:Int)).toNat:Nat))) : Sem Value):=rfl
   rw [this,e,fi (by omega) (by omega)]
   rfl
  have aC:(binOp .xor t (.int .i64 (a:Int)) (.int .i64 (b:Int))).run P w' = .ok (.int .i64 ((a ^^^ b:Nat) : Int)) w':=by
   have:binOp .xor t (.int .i64 (a:Int)) (.int .i64 (b:Int))=Op.intBits .xor .i64 (a:Int) (b:Int):=by simp [binOp]
   rw [this,aB]
  simp [execOp,e1,e2,eqGuard,aC]⟩
theorem jx {t ty:TypeId} {x y:Operand} {i j:Int} (a o:Int) (hx:bF L x=some (.int .i64 i)) (hy:bF L y=some (.int .i64 j)) (hi:i=a) (hj:j=pw o) (h : 0≤a∧a<256∧0≤o∧o<4∧a % pw o=0) :
 St P ⟨d,.binOp .xor t x y ty,T,pos,af,g⟩ L w (.int .i64 (beside a o)):=by
 obtain ⟨h1,h2,h3,h4,h5⟩:=h;subst hi hj;obtain ⟨k,rfl⟩:=Int.eq_ofNat_of_zero_le h1;have hp:=bM h3 (by omega);have e:pw o=((2 ^ o.toNat:Nat) : Int):=by unfold pw;simp
 have dg:(2 ^ o.toNat:Nat)<9223372036854775808:=by omega
 have:=HA (P:=P) (t:=t) (ty:=ty) (w:=w) (d:=d) (T:=T) (pos:=pos) (af:=af) (g:=g) k (2 ^ o.toNat) hx hy rfl e (by omega) dg
 rw [y8 (by omega) h3 h4 h5] at this;exact this
end
theorem nq (z:Int) (h : 0≤z∧z≤5) (w:World) : bl Tryz.prog 69 [.int .i64 z] w fun v _=>v = .int .i64 (pw z):=by
 refine aD Tryz.func69 rfl Tryz.ntmps69 rfl ?_;have hw:=Ext.refl w;obtain ⟨m,rfl⟩:=Int.eq_ofNat_of_zero_le h.1;refine Wz ?_;refine CW.loop (fun k:Nat=>[(0,.int .i64 ((m-k:Nat) : Int)),(3,.int .i64 (pw k))]) (fun k w'=>k≤m∧Ext w w') (fun k=>m-k) 0 ⟨by simp;rfl,rfl,trivial⟩ ⟨by omega,hw⟩ ?_;clear hw;rintro k w' ⟨hk,hw⟩
 by_cases Rp:k<m
 ·have hp:=bM (o:=(k:Int)) (by omega) (by omega);have hs:=iI (o:=(k:Int)) (by omega) (by omega);refine Wz ?_;have e1:((m-k:Nat) : Int)-1=((m-(k+1) : Nat) : Int):=by omega
  have e2 : 2*pw (k:Int)=pw ((k+1:Nat) : Int):=by rw [← hs];rfl
  exact ae.again (k+1) ⟨congrArg (fun z=>some (Value.int .i64 z)) e1,congrArg (fun z=>some (Value.int .i64 z)) e2,trivial⟩ (by omega) ⟨by omega,hw⟩
 ·obtain rfl:k=m:=by omega
  refine Wz ?_;exact ae.aI rfl rfl ⟨_,rfl,hw,rfl⟩
theorem nr (r:bU) (b:Block) (w:World) (h0 : 0≤r.aw) : bl Tryz.prog 229 [.agg (bG r).toArray,.agg (aA b).toArray] w fun v _=>v = .bool (decide (dK r.aw r.To b.At b.Order)):=by
 refine aD Tryz.func229 rfl Tryz.ntmps229 rfl ?_;refine CW.seq (CW.region (SW.box rfl rfl fun b1 w1 hw aB h1 => ?_));refine SW.box rfl rfl fun b2 w2 bo aC h2 => ?_
 (replace hw:=Ext.trans hw bo;replace h1:=h1.ext bo);by_cases hf:dK r.aw r.To b.At b.Order
 ·obtain ⟨a1,a2,a3,a4,a5⟩:=id hf;have hp:=bM a1 a2;rw [decide_eq_true hf];have e:b.At.tmod (pw b.Order)=0:=by rw [Int.tmod_eq_emod_of_nonneg (by omega)];exact a5
  repeat' (first|refine Wz ?_|((apply CW.bg mixed;(· kernel_rfl);rotate_left;intro w1 aa;replace hw:=Ext.trans hw aa;replace h1:=h1.ext aa;replace h2:=h2.ext aa;clear aa;rotate_right))|(refine SW.st (fE (r:=pw b.Order) rfl rfl (by omega) (by omega) (by simp [pw]) (by omega) (by omega)) rfl ?_)|exact SW.du rfl)
  exact ae.aI rfl rfl ⟨_,rfl,hw,by simp [e]⟩
 ·rw [decide_eq_false hf];by_cases a1 : 0≤b.Order
  ·by_cases a2:b.Order≤4
   ·by_cases a3:r.aw≤b.At
    ·by_cases a4:b.At<r.To
     ·have hp:=bM a1 a2
      have e:b.At.tmod (pw b.Order)≠0:=by
       rw [Int.tmod_eq_emod_of_nonneg (by omega)];exact fun a5=>hf ⟨a1,a2,a3,a4,a5⟩
      repeat' (first|refine Wz ?_|((apply CW.bg mixed;(· kernel_rfl);rotate_left;intro w1 aa;replace hw:=Ext.trans hw aa;replace h1:=h1.ext aa;replace h2:=h2.ext aa;clear aa;rotate_right))|(refine SW.st (fE (r:=pw b.Order) rfl rfl (by omega) (by omega) (by simp [pw]) (by omega) (by omega)) rfl ?_)|exact SW.du rfl)
      exact ae.aI rfl rfl ⟨_,rfl,hw,by simp [e]⟩
     ·repeat' (first|refine Wz ?_|((apply CW.bg mixed;(· kernel_rfl);rotate_left;intro w1 aa;replace hw:=Ext.trans hw aa;replace h1:=h1.ext aa;replace h2:=h2.ext aa;clear aa;rotate_right))|exact SW.du rfl)
      exact ae.aI rfl rfl ⟨_,rfl,hw,by simp [*]⟩
    ·repeat' (first|refine Wz ?_|((apply CW.bg mixed;(· kernel_rfl);rotate_left;intro w1 aa;replace hw:=Ext.trans hw aa;replace h1:=h1.ext aa;replace h2:=h2.ext aa;clear aa;rotate_right))|exact SW.du rfl)
     exact ae.aI rfl rfl ⟨_,rfl,hw,by simp [*]⟩
   ·repeat' (first|refine Wz ?_|((apply CW.bg mixed;(· kernel_rfl);rotate_left;intro w1 aa;replace hw:=Ext.trans hw aa;replace h1:=h1.ext aa;replace h2:=h2.ext aa;clear aa;rotate_right))|exact SW.du rfl)
    exact ae.aI rfl rfl ⟨_,rfl,hw,by simp [*]⟩
  ·repeat' (first|refine Wz ?_|((apply CW.bg mixed;(· kernel_rfl);rotate_left;intro w1 aa;replace hw:=Ext.trans hw aa;replace h1:=h1.ext aa;replace h2:=h2.ext aa;clear aa;rotate_right))|exact SW.du rfl)
   exact ae.aI rfl rfl ⟨_,rfl,hw,by simp [*]⟩
theorem kC (b:Block) (w:World) (h : 0≤b.Order∧b.Order≤4) (ha : 0≤b.At∧b.At≤256) : bl Tryz.prog 230 [.agg (aA b).toArray] w fun v _=>v = .int .i64 (b.At+pw b.Order):=by
 refine aD Tryz.func230 rfl Tryz.ntmps230 rfl ?_;refine CW.seq (CW.region (SW.box rfl rfl fun b1 w1 hw aB h1 => ?_));have hp:=bM h.1 h.2;repeat' (first|refine Wz ?_|((apply CW.bg mixed;(· kernel_rfl);rotate_left;intro w1 aa;replace hw:=Ext.trans hw aa;replace h1:=h1.ext aa;clear aa;rotate_right))|(refine SW.st (fE (r:=pw b.Order) rfl rfl (by omega) (by omega) (by simp [pw]) (by omega) (by omega)) rfl ?_)|exact SW.du rfl)
 exact ae.aI rfl rfl ⟨_,rfl,hw,rfl⟩
theorem vM (r:bU) (a o:Int) (w:World) (h0 : 0≤r.aw∧r.aw≤256) (h1 : 0≤r.To∧r.To≤256) : bl Tryz.prog 211 [.agg (bG r).toArray,.int .i64 a,.int .i64 o] w fun v _=>v = .bool (decide (dK r.aw r.To a o)):=by
 refine aD Tryz.func211 rfl Tryz.ntmps211 rfl ?_;refine CW.seq (CW.region (SW.box rfl rfl fun b1 w1 hw aB hB => ?_));by_cases a1 : 0≤o∧o≤4
 ·by_cases a2:r.aw≤a∧a<r.To
  ·have hp:=bM a1.1 a1.2;have e:a.tmod (pw o)=a % pw o:=Int.tmod_eq_emod_of_nonneg (by omega)
   repeat' (first|refine Wz ?_|((first|refine SW.call rfl rfl (gI _ _ _ _) ?_|refine SW.call rfl rfl (nq _ (by omega) _) ?_);intro v w1 aa hv;subst hv;replace hw:=Ext.trans hw aa;replace hB:=hB.ext aa;clear aa))
   all_goals try omega
   refine ae.aI rfl rfl ⟨_,rfl,hw,?_⟩;rw [e];simp [dK,a1.1,a1.2,a2.1,a2.2]
  ·repeat' (first|refine Wz ?_|(refine SW.call rfl rfl (gI _ _ _ _) ?_;intro v w1 aa hv;subst hv;replace hw:=Ext.trans hw aa;replace hB:=hB.ext aa;clear aa))
   all_goals try omega
   refine ae.aI rfl rfl ⟨_,rfl,hw,?_⟩;rw [decide_eq_false (fun h=>a2 ⟨h.2.2.1,h.2.2.2.1⟩)];try (simp;omega)
 ·repeat' (first|refine Wz ?_|(refine SW.call rfl rfl (gI _ _ _ _) ?_;intro v w1 aa hv;subst hv;replace hw:=Ext.trans hw aa;replace hB:=hB.ext aa;clear aa))
  all_goals try omega
  refine ae.aI rfl rfl ⟨_,rfl,hw,?_⟩;rw [decide_eq_false (fun h=>a1 ⟨h.1,h.2.1⟩)];try (simp;omega)
theorem kD {α:Type} {p : α → Bool} {l:List α} {k:Nat} (h:k<l.length) (hp:p l[k]=true) (hf:∀ j (hj:j<l.length),j<k→p l[j]=false) : idxOf p l=(k:Int):=by
 have e:l.findIdx p=k:=(List.findIdx_eq h).2 ⟨hp,fun j hj=>hf j (by omega) hj⟩
 have e2:l.any p=true:=List.any_eq_true.2 ⟨l[k],List.getElem_mem h,hp⟩
 simp [idxOf,e,e2]
theorem iB {α:Type} {p : α → Bool} {l:List α} (hf:∀ j (hj:j<l.length),p l[j]=false) : idxOf p l = -1∧l.any p=false:=by
 have e:l.any p=false:=by
  rw [List.any_eq_false];intro x hx;obtain ⟨j,hj,rfl⟩:=List.getElem_of_mem hx;simp [hf j hj]
 exact ⟨by simp [idxOf,e],e⟩
theorem jC {α:Type} (p : α → Bool) (l:List α) : decide (0≤idxOf p l)=l.any p:=by
 unfold idxOf;by_cases h:l.any p=true
 ·simp [h]
 ·simp [h]
theorem pP (A:Option Addr) (n c:Nat) (l:List Int) (w:World) (hl:Sl w 1 bB A n l) (f:FuncId) (cap:List Value) [Body Tryz.prog f] (p:Int→Bool) (arg:Int→Value) (ln:∀ x,arg x=(if 1=1 then (bB x)[0]?.getD undef else .agg (bB x).toArray))
 (hf:∀ x∈l,∀ w',Ext w w'→bl Tryz.prog f ([arg x]++cap) w' fun v _=>v = .bool (p x)) (hn:n≤9223372036854775807) :
 bl Tryz.prog 187 [.slice A n c,.func (.func f) #[] cap.toArray] w fun v _=>v = .int .i64 (idxOf p l):=by
 refine aD Tryz.func187 rfl Tryz.ntmps187 rfl ?_;have hw:=Ext.refl w;have hA:=hl.base;refine Wz ?_;refine CW.loop (fun k:Nat=>[(0,.slice A n c),(1,.func (.func f) #[] cap.toArray),(7,.int .i64 (n:Int)),(8,.int .i64 (k:Int))]) (fun k w'=>k≤n∧Ext w w' ∧ ∀ j (hj:j<l.length),j<k→p l[j]=false) (fun k=>n-k) 0 ⟨rfl,rfl,rfl,rfl,trivial⟩ ⟨by omega,hw,fun j _ h=>by omega⟩ ?_;clear hw;rintro k w' ⟨kj,hw,hI⟩
 by_cases hk:k<n
 ·have hx:=ln (l[k]'(hl.lt hk));have qD:=hf (l[k]'(hl.lt hk)) (List.getElem_mem _);rw [hx] at qD;repeat' (first|refine Wz ?_|refine SW.st (aM hw rfl (hl.one hk rfl)) rfl ?_)
  refine SW.oG rfl rfl rfl (qD _ hw) fun v w1 aa hv => ?_
  subst hv;replace hw:=Ext.trans hw aa;cases hp:p (l[k]'(hl.lt hk))
  ·refine Wz ?_;refine ae.again (k+1) ⟨rfl,rfl,rfl,rfl,trivial⟩ (by omega) ⟨by omega,hw,fun j hj h => ?_⟩;by_cases kB:j=k
   ·subst kB;exact hp
   ·exact hI j hj (by omega)
  ·refine Wz ?_;exact ae.aI rfl rfl ⟨_,rfl,hw,by rw [kD (hl.lt hk) hp hI]⟩
 ·refine Wz ?_;exact ae.aI rfl rfl ⟨_,rfl,hw,by rw [(iB (fun j hj=>hI j hj (by have:=hl.len;omega))).1]⟩
theorem gi (A:Option Addr) (n c:Nat) (l:List Int) (w:World) (hl:Sl w 1 bB A n l) (f:FuncId) (cap:List Value) [Body Tryz.prog f] (p:Int→Bool) (arg:Int→Value) (ln:∀ x,arg x=(if 1=1 then (bB x)[0]?.getD undef else .agg (bB x).toArray))
 (hf:∀ x∈l,∀ w',Ext w w'→bl Tryz.prog f ([arg x]++cap) w' fun v _=>v = .bool (p x)) (hn:n≤9223372036854775807) :
 bl Tryz.prog 96 [.slice A n c,.func (.func f) #[] cap.toArray] w fun v _=>v = .bool (l.any p):=by
 refine aD Tryz.func96 rfl Tryz.ntmps96 rfl ?_;have hw:=Ext.refl w;repeat' (first|refine Wz ?_|(refine SW.call rfl rfl (pP _ _ _ _ _ (hl.ext hw) f cap p arg ln (fun x hx w1 h1=>hf x hx w1 (Ext.trans hw h1)) hn) ?_;intro v w1 aa hv;subst hv;replace hw:=Ext.trans hw aa;clear aa))
 exact ae.aI rfl rfl ⟨_,rfl,hw,by rw [jC]⟩
theorem jD (A:Option Addr) (n c:Nat) (l:List Block) (w:World) (hl:Sl w 3 aA A n l) (f:FuncId) (cap:List Value) [Body Tryz.prog f] (p:Block→Bool) (arg:Block→Value) (ln:∀ x,arg x=(if 3=1 then (aA x)[0]?.getD undef else .agg (aA x).toArray))
 (hf:∀ x∈l,∀ w',Ext w w'→bl Tryz.prog f ([arg x]++cap) w' fun v _=>v = .bool (p x)) (hn:n≤9223372036854775807) :
 bl Tryz.prog 254 [.slice A n c,.func (.func f) #[] cap.toArray] w fun v _=>v = .int .i64 (idxOf p l):=by
 refine aD Tryz.func254 rfl Tryz.ntmps254 rfl ?_;have hw:=Ext.refl w;have hA:=hl.base;refine Wz ?_;refine CW.loop (fun k:Nat=>[(0,.slice A n c),(1,.func (.func f) #[] cap.toArray),(7,.int .i64 (n:Int)),(8,.int .i64 (k:Int))]) (fun k w'=>k≤n∧Ext w w' ∧ ∀ j (hj:j<l.length),j<k→p l[j]=false) (fun k=>n-k) 0 ⟨rfl,rfl,rfl,rfl,trivial⟩ ⟨by omega,hw,fun j _ h=>by omega⟩ ?_;clear hw;rintro k w' ⟨kj,hw,hI⟩
 by_cases hk:k<n
 ·have hx:=ln (l[k]'(hl.lt hk));have qD:=hf (l[k]'(hl.lt hk)) (List.getElem_mem _);rw [hx] at qD;repeat' (first|refine Wz ?_|refine SW.st (aN hw rfl rfl ((hl.all hk))) rfl ?_)
  refine SW.oG rfl rfl rfl (qD _ hw) fun v w1 aa hv => ?_
  subst hv;replace hw:=Ext.trans hw aa;cases hp:p (l[k]'(hl.lt hk))
  ·refine Wz ?_;refine ae.again (k+1) ⟨rfl,rfl,rfl,rfl,trivial⟩ (by omega) ⟨by omega,hw,fun j hj h => ?_⟩;by_cases kB:j=k
   ·subst kB;exact hp
   ·exact hI j hj (by omega)
  ·refine Wz ?_;exact ae.aI rfl rfl ⟨_,rfl,hw,by rw [kD (hl.lt hk) hp hI]⟩
 ·refine Wz ?_;exact ae.aI rfl rfl ⟨_,rfl,hw,by rw [(iB (fun j hj=>hI j hj (by have:=hl.len;omega))).1]⟩
theorem me (A:Option Addr) (n c:Nat) (l:List Block) (w:World) (hl:Sl w 3 aA A n l) (f:FuncId) (cap:List Value) [Body Tryz.prog f] (p:Block→Bool) (arg:Block→Value) (ln:∀ x,arg x=(if 3=1 then (aA x)[0]?.getD undef else .agg (aA x).toArray))
 (hf:∀ x∈l,∀ w',Ext w w'→bl Tryz.prog f ([arg x]++cap) w' fun v _=>v = .bool (p x)) (hn:n≤9223372036854775807) :
 bl Tryz.prog 226 [.slice A n c,.func (.func f) #[] cap.toArray] w fun v _=>v = .bool (l.any p):=by
 refine aD Tryz.func226 rfl Tryz.ntmps226 rfl ?_;have hw:=Ext.refl w;repeat' (first|refine Wz ?_|(refine SW.call rfl rfl (jD _ _ _ _ _ (hl.ext hw) f cap p arg ln (fun x hx w1 h1=>hf x hx w1 (Ext.trans hw h1)) hn) ?_;intro v w1 aa hv;subst hv;replace hw:=Ext.trans hw aa;clear aa))
 exact ae.aI rfl rfl ⟨_,rfl,hw,by rw [jC]⟩
open Go.RowKit
def vN (t:Int) : Bool := !decide (fR t)
theorem y9 {t:Int} (h:fR t) : vN t=false:=by simp [vN,h]
theorem za {t:Int} (h : ¬ fR t) : vN t=true:=by simp [vN,h]
theorem so (t:Int) (w:World) : bl Tryz.prog 228 ([.int .i64 t]++[]) w fun v _=>v = .bool (vN t):=by
 refine aD Tryz.func228 rfl Tryz.ntmps228 rfl ?_;have hw:=Ext.refl w;by_cases h1 : 0≤t
 ·by_cases h2:t≤2
  ·rw [y9 ⟨h1,h2⟩];refine Wz ?_;all_goals exact ae.aI rfl rfl ⟨_,rfl,hw,by simp;try omega⟩
  ·rw [za (fun h=>h2 h.2)];refine Wz ?_;all_goals exact ae.aI rfl rfl ⟨_,rfl,hw,by simp;try omega⟩
 ·rw [za (fun h=>h1 h.1)];refine Wz ?_;all_goals exact ae.aI rfl rfl ⟨_,rfl,hw,by simp;try omega⟩
set_option maxHeartbeats 4000000 in
theorem gK (r:bU) (z:ab) (w:World) (hr:yU w r z) (hf:r.ag.n≤2305843009213693952) (ht:r.Types.n≤2305843009213693952) (h1 : -9223372036854775808≤r.aw∧r.aw≤9223372036854775807) (h2 : -9223372036854775808≤r.To∧r.To≤9223372036854775807) :
 bl Tryz.prog 176 [.agg (bG r).toArray] w fun v _=>v = .int .i64 (if df z then 0 else 8):=by
 refine aD Tryz.func176 rfl Tryz.ntmps176 rfl ?_;refine CW.seq (CW.region (SW.box rfl rfl fun b1 w1 hw gX aB => ?_));have eF:=hr.from_;have eT:=hr.jA;have Fe:=hr.free.len;have I5:=hr.types.len;refine Wz ?_;refine SW.call rfl rfl (sn r.aw r.To _ h1 h2) fun v w2 bo hv => ?_
 (replace hw:=Ext.trans hw bo;replace aB:=aB.ext bo);by_cases iO:cw r.aw r.To
 ·rw [ep iO] at hv;obtain ⟨s,rfl,hs⟩:=hv;obtain ⟨o1,o2,o3,o4,o5⟩:=id iO;have nD:∀ {p:Prop},(aU z→False)→p ∨ ¬ aU z:=fun h => .inr h
  by_cases JF : 8*(z.Types.length:Int)=z.To-z.aw
  ·refine Wz ?_;refine SW.alloc rfl fun b3 w1 aa bL aq => ?_
   have cJ:w.heap.size≤b3:=Nat.le_trans hw.size bL
   have jE:b1≠b3:=by have:=aB.lt;omega
   replace hw:=Ext.trans hw aa;replace aB:=aB.ext aa;replace hs:=hs.ext aa;refine SW.ah aq rfl rfl rfl rfl (cx _) fun w2 cS hg => ?_
   replace hw:=hw.own cJ hg;replace hs:=hs.cU aq hg rfl rfl;replace aB:=aB.grown hg (by simpa using jE);replace aq:=cS;clear cS aa hg bL
   have cO:∀ w',Ext w w'→bl Tryz.prog 96 [.slice r.Types.A r.Types.n r.Types.c,.func (.func 228) #[] ([] : List Value).toArray] w' fun v _=>v = .bool (z.Types.any vN):=fun w' h =>
    gi _ _ _ _ _ (hr.types.ext h) _ [] vN (fun x => .int .i64 x) (fun x=>rfl) (fun x _ w1 _=>so x w1) (by omega)
   cases Bw:z.Types.any vN
   ·rw [Bw] at cO
    have rD:∀ t∈z.Types,fR t:=fun t GH=>by
     rw [List.any_eq_false] at Bw;have:=Bw t GH
     simp [vN] at this;exact this
    repeat' (first|refine Wz ?_|(refine SW.call rfl rfl (cO _ hw) ?_;intro v w1 aa hv;subst hv;replace hw:=Ext.trans hw aa;replace aB:=aB.ext aa;clear aa))
    refine CW.loop (fun k:Nat=>[(1,.pointer (some ⟨b1,0,none⟩)),(5,.func (.func 228) #[] #[]),(35,.slice r.ag.A r.ag.n r.ag.c),(36,.int .i64 (r.ag.n:Int)),(37,.int .i64 (k:Int))])
     (fun k w'=>k≤r.ag.n∧Ext w w'∧aT w' b1 139 (bG r)∧(∀ (i:Nat) (h:i<z.ag.length),i<k→fv z.aw z.To z.ag[i])∧(∀ (i:Nat) (h:i+1<z.ag.length),i+1<k→gJ z.ag[i] z.ag[i+1]))
     (fun k=>r.ag.n-k) 0 ⟨rfl,rfl,rfl,rfl,rfl,trivial⟩ ⟨by omega,hw,aB,fun i h hi=>by omega,fun i h hi=>by omega⟩ ?_
    clear hw aB aq cO hs;rintro k w' ⟨hk,hw,aB,hI,hN⟩
    have hA:=hr.free.base;by_cases ey:k<r.ag.n
    ·have eV:=hr.free.lt ey;repeat' (first|refine Wz ?_|refine SW.st (aN hw rfl rfl ((hr.free.all ey))) rfl ?_)
     refine SW.alloc rfl fun b7 w3 iN iP bP => ?_
     have jq:w.heap.size≤b7:=Nat.le_trans hw.size iP
     have cr:b1≠b7:=by have:=aB.lt;omega
     (replace hw:=Ext.trans hw iN;replace aB:=aB.ext iN);refine Wz ?_;refine SW.ah bP rfl rfl rfl rfl (fu.one (enc:=aA) _) fun w4 bu hg => ?_
     replace hw:=hw.own jq hg;replace aB:=aB.grown hg (by simpa using cr);by_cases pQ:fv z.aw z.To z.ag[k]
     ·obtain ⟨Bx,xc⟩:=id pQ;obtain ⟨f1,f2,f3,f4,f5⟩:=id Bx;have hp:=bM f1 f2
      have cF:∀ w',Ext w w'→bl Tryz.prog 229 [.agg (bG r).toArray,.agg (aA z.ag[k]).toArray] w' fun v _=>v = .bool true:=fun w' _=>by
       have:=nr r z.ag[k] w' (by omega)
       rwa [eF,eT,decide_eq_true Bx] at this
      have cD:∀ w',bl Tryz.prog 228 ([.int .i64 (z.ag[k]).Ty]++[]) w' fun v _=>v = .bool false:=fun w'=>by
       have:=so (z.ag[k]).Ty w'
       rwa [y9 xc] at this
      by_cases tY:k=0
      ·subst tY;repeat' (first|refine Wz ?_|((apply CW.bg mixed;(· kernel_rfl);rotate_left;intro w1 aa;replace hw:=Ext.trans hw aa;replace aB:=aB.ext aa;replace bu:=bu.ext aa;clear aa;rotate_right))|refine SW.want rfl rfl ?_|refine SW.cI rfl rfl (fun w1 aa=>(cF _ (Ext.trans hw aa))) ?_|(refine SW.n6 rfl rfl rfl (fun w1 _=>cD w1) ?_)|exact SW.du rfl)
       refine ae.again (0+1) ⟨rfl,rfl,rfl,rfl,rfl,trivial⟩ (by omega) ⟨by omega,hw,aB,fun i h hi => ?_,fun i h hi=>by omega⟩;obtain rfl:i=0:=by omega
       exact pQ
      ·obtain ⟨j,rfl⟩ : ∃ j,k=j+1:=⟨k-1,by omega⟩;have hj:j<r.ag.n:=by omega
       have nQ:=hr.free.lt hj;obtain ⟨⟨g1,g2,g3,g4,g5⟩,_⟩:=hI j nQ (by omega);have cE:∀ w',bl Tryz.prog 230 [.agg (aA z.ag[j]).toArray] w' fun v _=>v = .int .i64 ((z.ag[j]).At+pw (z.ag[j]).Order):=fun w'=>kC _ _ ⟨g1,g2⟩ ⟨by omega,by omega⟩
       by_cases dg:(z.ag[j]).At+pw (z.ag[j]).Order≤(z.ag[j+1]).At
       ·by_cases Dj:(z.ag[j+1]).Order<4∧(z.ag[j]).Order=(z.ag[j+1]).Order∧(z.ag[j]).At=beside (z.ag[j+1]).At (z.ag[j+1]).Order
        ·obtain ⟨u1,u2,u3⟩:=id Dj;repeat' (first|refine Wz ?_|((apply CW.bg mixed;(· kernel_rfl);rotate_left;intro w1 aa;replace hw:=Ext.trans hw aa;replace aB:=aB.ext aa;replace bu:=bu.ext aa;clear aa;rotate_right))|refine SW.st (bc (j) rfl rfl (by assumption) (by omega) (by omega)) rfl ?_|refine SW.st (aN hw rfl rfl ((hr.free.all hj))) rfl ?_|refine SW.st (aM hw rfl (hr.free.qV hj rfl)) rfl ?_|refine SW.cI rfl rfl (fun w1 aa=>(cF _ (Ext.trans hw aa))) ?_|refine SW.cI rfl rfl (fun w1 aa=>(cE _)) ?_|(refine SW.n6 rfl rfl rfl (fun w1 _=>cD w1) ?_)|(refine SW.st (fE (r:=pw (z.ag[j+1]).Order) rfl rfl (by omega) (by omega) (by simp [pw]) (by omega) (by omega)) rfl ?_)|(refine SW.st (jx (z.ag[j+1]).At (z.ag[j+1]).Order rfl rfl rfl rfl ⟨by omega,by omega,f1,u1,f5⟩) rfl ?_)|exact SW.du rfl)
         refine ae.aI rfl rfl ⟨_,rfl,hw,?_⟩;rw [fY (fun h=>(h.next j eV).2 Dj)];rfl
        ·by_cases u1:(z.ag[j+1]).Order<4
         ·by_cases u2:(z.ag[j]).Order=(z.ag[j+1]).Order
          ·have u3 : ¬ (z.ag[j]).At=beside (z.ag[j+1]).At (z.ag[j+1]).Order:=fun u3=>Dj ⟨u1,u2,u3⟩
           repeat' (first|refine Wz ?_|((apply CW.bg mixed;(· kernel_rfl);rotate_left;intro w1 aa;replace hw:=Ext.trans hw aa;replace aB:=aB.ext aa;replace bu:=bu.ext aa;clear aa;rotate_right))|refine SW.want rfl rfl ?_|refine SW.st (bc (j) rfl rfl (by assumption) (by omega) (by omega)) rfl ?_|refine SW.st (aN hw rfl rfl ((hr.free.all hj))) rfl ?_|refine SW.st (aM hw rfl (hr.free.qV hj rfl)) rfl ?_|refine SW.cI rfl rfl (fun w1 aa=>(cF _ (Ext.trans hw aa))) ?_|refine SW.cI rfl rfl (fun w1 aa=>(cE _)) ?_|(refine SW.n6 rfl rfl rfl (fun w1 _=>cD w1) ?_)|(refine SW.st (fE (r:=pw (z.ag[j+1]).Order) rfl rfl (by omega) (by omega) (by simp [pw]) (by omega) (by omega)) rfl ?_)|(refine SW.st (jx (z.ag[j+1]).At (z.ag[j+1]).Order rfl rfl rfl rfl ⟨by omega,by omega,f1,u1,f5⟩) rfl ?_)|exact SW.du rfl)
           refine ae.again (j+1+1) ⟨rfl,rfl,rfl,rfl,rfl,trivial⟩ (by omega) ⟨by omega,hw,aB,fun i h hi => ?_,fun i h hi => ?_⟩
           ·by_cases j1:i=j+1
            ·subst j1;exact pQ
            ·exact hI i h (by omega)
           ·by_cases j1:i=j
            ·subst j1;exact ⟨dg,Dj⟩
            ·exact hN i h (by omega)
          ·repeat' (first|refine Wz ?_|((apply CW.bg mixed;(· kernel_rfl);rotate_left;intro w1 aa;replace hw:=Ext.trans hw aa;replace aB:=aB.ext aa;replace bu:=bu.ext aa;clear aa;rotate_right))|refine SW.want rfl rfl ?_|refine SW.st (bc (j) rfl rfl (by assumption) (by omega) (by omega)) rfl ?_|refine SW.st (aN hw rfl rfl ((hr.free.all hj))) rfl ?_|refine SW.st (aM hw rfl (hr.free.qV hj rfl)) rfl ?_|refine SW.cI rfl rfl (fun w1 aa=>(cF _ (Ext.trans hw aa))) ?_|refine SW.cI rfl rfl (fun w1 aa=>(cE _)) ?_|(refine SW.n6 rfl rfl rfl (fun w1 _=>cD w1) ?_)|exact SW.du rfl)
           refine ae.again (j+1+1) ⟨rfl,rfl,rfl,rfl,rfl,trivial⟩ (by omega) ⟨by omega,hw,aB,fun i h hi => ?_,fun i h hi => ?_⟩
           ·by_cases j1:i=j+1
            ·subst j1;exact pQ
            ·exact hI i h (by omega)
           ·by_cases j1:i=j
            ·subst j1;exact ⟨dg,Dj⟩
            ·exact hN i h (by omega)
         ·repeat' (first|refine Wz ?_|((apply CW.bg mixed;(· kernel_rfl);rotate_left;intro w1 aa;replace hw:=Ext.trans hw aa;replace aB:=aB.ext aa;replace bu:=bu.ext aa;clear aa;rotate_right))|refine SW.want rfl rfl ?_|refine SW.st (bc (j) rfl rfl (by assumption) (by omega) (by omega)) rfl ?_|refine SW.st (aN hw rfl rfl ((hr.free.all hj))) rfl ?_|refine SW.cI rfl rfl (fun w1 aa=>(cF _ (Ext.trans hw aa))) ?_|refine SW.cI rfl rfl (fun w1 aa=>(cE _)) ?_|(refine SW.n6 rfl rfl rfl (fun w1 _=>cD w1) ?_)|exact SW.du rfl)
          refine ae.again (j+1+1) ⟨rfl,rfl,rfl,rfl,rfl,trivial⟩ (by omega) ⟨by omega,hw,aB,fun i h hi => ?_,fun i h hi => ?_⟩
          ·by_cases j1:i=j+1
           ·subst j1;exact pQ
           ·exact hI i h (by omega)
          ·by_cases j1:i=j
           ·subst j1;exact ⟨dg,Dj⟩
           ·exact hN i h (by omega)
       ·repeat' (first|refine Wz ?_|((apply CW.bg mixed;(· kernel_rfl);rotate_left;intro w1 aa;replace hw:=Ext.trans hw aa;replace aB:=aB.ext aa;replace bu:=bu.ext aa;clear aa;rotate_right))|refine SW.want rfl rfl ?_|refine SW.st (bc (j) rfl rfl (by assumption) (by omega) (by omega)) rfl ?_|refine SW.st (aN hw rfl rfl ((hr.free.all hj))) rfl ?_|refine SW.cI rfl rfl (fun w1 aa=>(cF _ (Ext.trans hw aa))) ?_|refine SW.cI rfl rfl (fun w1 aa=>(cE _)) ?_|(refine SW.n6 rfl rfl rfl (fun w1 _=>cD w1) ?_)|exact SW.du rfl)
        refine ae.aI rfl rfl ⟨_,rfl,hw,?_⟩;rw [fY (fun h=>dg (h.next j eV).1)];rfl
     ·have xd:df z=false:=fY (fun h=>pQ (h.cU k eV))
      by_cases Bx:dK z.aw z.To (z.ag[k]).At (z.ag[k]).Order
      ·have xc : ¬ fR (z.ag[k]).Ty:=fun h=>pQ ⟨Bx,h⟩
       have cF:∀ w',Ext w w'→bl Tryz.prog 229 [.agg (bG r).toArray,.agg (aA z.ag[k]).toArray] w' fun v _=>v = .bool true:=fun w' _=>by
        have:=nr r z.ag[k] w' (by omega)
        rwa [eF,eT,decide_eq_true Bx] at this
       have cD:∀ w',bl Tryz.prog 228 ([.int .i64 (z.ag[k]).Ty]++[]) w' fun v _=>v = .bool true:=fun w'=>by
        have:=so (z.ag[k]).Ty w'
        rwa [za xc] at this
       repeat' (first|refine Wz ?_|((apply CW.bg mixed;(· kernel_rfl);rotate_left;intro w1 aa;replace hw:=Ext.trans hw aa;replace aB:=aB.ext aa;replace bu:=bu.ext aa;clear aa;rotate_right))|refine SW.want rfl rfl ?_|refine SW.cI rfl rfl (fun w1 aa=>(cF _ (Ext.trans hw aa))) ?_|(refine SW.n6 rfl rfl rfl (fun w1 _=>cD w1) ?_)|exact SW.du rfl)
       exact ae.aI rfl rfl ⟨_,rfl,hw,by rw [xd];rfl⟩
      ·have cF:∀ w',Ext w w'→bl Tryz.prog 229 [.agg (bG r).toArray,.agg (aA z.ag[k]).toArray] w' fun v _=>v = .bool false:=fun w' _=>by
        have:=nr r z.ag[k] w' (by omega)
        rwa [eF,eT,decide_eq_false Bx] at this
       repeat' (first|refine Wz ?_|((apply CW.bg mixed;(· kernel_rfl);rotate_left;intro w1 aa;replace hw:=Ext.trans hw aa;replace aB:=aB.ext aa;replace bu:=bu.ext aa;clear aa;rotate_right))|refine SW.skip rfl rfl rfl rfl ?_|refine SW.cI rfl rfl (fun w1 aa=>(cF _ (Ext.trans hw aa))) ?_|exact SW.du rfl)
       exact ae.aI rfl rfl ⟨_,rfl,hw,by rw [xd];rfl⟩
    ·refine Wz ?_;refine ae.aI rfl rfl ⟨_,rfl,hw,?_⟩;rw [iJ ⟨by rw [← eF,← eT];exact iO,JF,rD,fun i h=>hI i h (by omega),fun i h=>hN i h (by omega)⟩];rfl
   ·rw [Bw] at cO;repeat' (first|refine Wz ?_|(refine SW.call rfl rfl (cO _ hw) ?_;intro v w1 aa hv;subst hv;replace hw:=Ext.trans hw aa;replace aB:=aB.ext aa;clear aa))
    refine ae.aI rfl rfl ⟨_,rfl,hw,?_⟩
    rw [fY (fun h=>by
     rw [List.any_eq_true] at Bw;obtain ⟨t,h1,h2⟩:=Bw;rw [y9 (h.types t h1)] at h2;cases h2)];rfl
  ·refine Wz ?_;refine SW.alloc rfl fun b3 w1 aa bL aq => ?_
   have cJ:w.heap.size≤b3:=Nat.le_trans hw.size bL
   have jE:b1≠b3:=by have:=aB.lt;omega
   replace hw:=Ext.trans hw aa;replace aB:=aB.ext aa;replace hs:=hs.ext aa;refine SW.ah aq rfl rfl rfl rfl (cx _) fun w2 cS hg => ?_
   replace hw:=hw.own cJ hg;replace hs:=hs.cU aq hg rfl rfl;replace aB:=aB.grown hg (by simpa using jE);replace aq:=cS;clear cS aa hg bL;refine Wz ?_;refine ae.aI rfl rfl ⟨_,rfl,hw,?_⟩;rw [fY (fun h=>JF h.len)];rfl
 ·rw [jB iO] at hv;obtain ⟨s,rfl,hs⟩:=hv;refine Wz ?_;refine SW.alloc rfl fun b3 w1 aa bL aq => ?_
  have cJ:w.heap.size≤b3:=Nat.le_trans hw.size bL
  have jE:b1≠b3:=by have:=aB.lt;omega
  replace hw:=Ext.trans hw aa;replace aB:=aB.ext aa;replace hs:=hs.ext aa;refine SW.ah aq rfl rfl rfl rfl (cx _) fun w2 cS hg => ?_
  replace hw:=hw.own cJ hg;replace hs:=hs.cU aq hg rfl rfl;replace aB:=aB.grown hg (by simpa using jE);replace aq:=cS;clear cS aa hg bL;refine Wz ?_;refine ae.aI rfl rfl ⟨_,rfl,hw,?_⟩;rw [fY (fun h=>iO (by rw [eF,eT];exact h.ok))];rfl
open Go.RowKit
def AI (f:Int) (l:List Block) : Nat→Int
 | 0=>f
 | k+1=>match l[k]? with
   | some b=>b.At+pw b.Order
   | none=>0
theorem n7 (f:Int) (l:List Block) (k:Nat) (h:k<l.length) : AI f l (k+1)=l[k].At+pw l[k].Order:=by simp [AI,List.getElem?_eq_getElem h]
set_option maxHeartbeats 4000000 in
theorem xe (r:bU) (z:ab) (w:World) (hr:yU w r z) (hf:r.ag.n≤2305843009213693952) (ht:r.Types.n≤1000000000000000000) (h1 : -9223372036854775808≤r.aw∧r.aw≤9223372036854775807) (h2 : -9223372036854775808≤r.To∧r.To≤9223372036854775807) :
 bl Tryz.prog 195 [.agg (bG r).toArray] w fun v _=>v = .bool (df z):=by
 refine aD Tryz.func195 rfl Tryz.ntmps195 rfl ?_;refine CW.seq (CW.region (SW.box rfl rfl fun b1 w1 hw gX aB => ?_));have eF:=hr.from_;have eT:=hr.jA;have Fe:=hr.free.len;have I5:=hr.types.len;refine Wz ?_;refine SW.call rfl rfl (xb r.aw r.To _ h1 h2) fun v w2 bo hv => ?_
 (replace hw:=Ext.trans hw bo;replace aB:=aB.ext bo);by_cases iO:cw r.aw r.To
 ·rw [ep iO] at hv;obtain ⟨s,rfl,hs⟩:=hv;obtain ⟨o1,o2,o3,o4,o5⟩:=id iO;by_cases JF : 8*(z.Types.length:Int)=z.To-z.aw
  ·refine Wz ?_;refine SW.alloc rfl fun b3 w1 aa bL aq => ?_
   have cJ:w.heap.size≤b3:=Nat.le_trans hw.size bL
   have jE:b1≠b3:=by have:=aB.lt;omega
   replace hw:=Ext.trans hw aa;replace aB:=aB.ext aa;replace hs:=hs.ext aa;refine SW.ah aq rfl rfl rfl rfl (cx _) fun w2 cS hg => ?_
   replace hw:=hw.own cJ hg;replace hs:=hs.cU aq hg rfl rfl;replace aB:=aB.grown hg (by simpa using jE);replace aq:=cS;clear cS aa hg bL;refine Wz ?_
   refine CW.loop (fun k:Nat=>[(1,.pointer (some ⟨b1,0,none⟩)),(5,.int .i64 (k:Int))]) (fun k w'=>k≤r.Types.n∧Ext w w'∧aT w' b1 139 (bG r) ∧ ∀ (j:Nat) (hj:j<z.Types.length),j<k→fR z.Types[j]) (fun k=>r.Types.n-k) 0
    ⟨rfl,rfl,trivial⟩ ⟨by omega,hw,aB,fun j _ h=>by omega⟩ ?_
   clear hw aB aq hs;rintro k w' ⟨hk,hw,aB,hI⟩
   have hA:=hr.types.base;by_cases ey:k<r.Types.n
   ·have eV:=hr.types.lt ey;by_cases rD:fR (z.Types[k])
    ·obtain ⟨t1,t2⟩:=id rD;repeat' (first|refine Wz ?_|refine SW.st (aM hw rfl (hr.types.one ey rfl)) rfl ?_|(refine SW.call rfl rfl (gI _ _ _ _) ?_;intro v w1 aa hv;subst hv;replace hw:=Ext.trans hw aa;replace aB:=aB.ext aa;clear aa))
     all_goals try omega
     refine ae.again (k+1) ⟨rfl,rfl,trivial⟩ (by omega) ⟨by omega,hw,aB,fun j hj h => ?_⟩;by_cases kB:j=k
     ·subst kB;exact rD
     ·exact hI j hj (by omega)
    ·have hn : ¬ (0≤z.Types[k]∧z.Types[k]≤2):=rD
     repeat' (first|refine Wz ?_|refine SW.st (aM hw rfl (hr.types.one ey rfl)) rfl ?_|(refine SW.call rfl rfl (gI _ _ _ _) ?_;intro v w1 aa hv;subst hv;replace hw:=Ext.trans hw aa;replace aB:=aB.ext aa;clear aa))
     all_goals try omega
     refine ae.aI rfl rfl ⟨_,rfl,hw,?_⟩;rw [fY (fun h=>rD (h.types _ (List.getElem_mem eV)))]
   ·have rD:∀ t∈z.Types,fR t:=fun t GH=>by
     obtain ⟨j,hj,rfl⟩:=List.getElem_of_mem GH;exact hI j hj (by omega)
    clear hI hA;refine Wz ?_
    refine CW.loop (fun k:Nat=>[(1,.pointer (some ⟨b1,0,none⟩)),(6,.int .i64 (AI z.aw z.ag k)),(7,.int .i64 (k:Int))])
     (fun k w'=>k≤r.ag.n∧Ext w w'∧aT w' b1 139 (bG r)∧(∀ (i:Nat) (h:i<z.ag.length),i<k→fv z.aw z.To z.ag[i])∧(∀ (i:Nat) (h:i+1<z.ag.length),i+1<k→gJ z.ag[i] z.ag[i+1]))
     (fun k=>r.ag.n-k) 0 ⟨rfl,by rw [eF];rfl,rfl,trivial⟩ ⟨by omega,hw,aB,fun i h hi=>by omega,fun i h hi=>by omega⟩ ?_
    clear hw aB hk ey;rintro k w' ⟨hk,hw,aB,hI,hN⟩
    have hA:=hr.free.base;by_cases ey:k<r.ag.n
    ·have eV:=hr.free.lt ey
     have cM:∀ w',bl Tryz.prog 211 [.agg (bG r).toArray,.int .i64 (z.ag[k]).At,.int .i64 (z.ag[k]).Order] w' fun v _=>v = .bool (decide (dK z.aw z.To (z.ag[k]).At (z.ag[k]).Order)):=fun w'=>by
      have:=vM r (z.ag[k]).At (z.ag[k]).Order w' ⟨by omega,by omega⟩ ⟨by omega,by omega⟩
      rwa [eF,eT] at this
     repeat' (first|refine Wz ?_|refine SW.st (aN hw rfl rfl ((hr.free.all ey))) rfl ?_)
     refine SW.alloc rfl fun b7 w3 iN iP bP => ?_
     have jq:w.heap.size≤b7:=Nat.le_trans hw.size iP
     have cr:b1≠b7:=by have:=aB.lt;omega
     (replace hw:=Ext.trans hw iN;replace aB:=aB.ext iN);skip;refine SW.ah bP rfl rfl rfl rfl (fu.one (enc:=aA) _) fun w4 bu hg => ?_
     replace hw:=hw.own jq hg;replace aB:=aB.grown hg (by simpa using cr);by_cases pQ:fv z.aw z.To z.ag[k]
     ·obtain ⟨Bx,t1,t2⟩:=id pQ;obtain ⟨f1,f2,f3,f4,f5⟩:=id Bx;have hp:=bM f1 f2;have Rq:=iI f1 f2;rw [decide_eq_true Bx] at cM;by_cases tY:k=0
      ·subst tY;have HB:AI z.aw z.ag 0=z.aw:=rfl
       repeat' (first|refine Wz ?_|((apply CW.bg mixed;(· kernel_rfl);rotate_left;intro w1 aa;replace hw:=Ext.trans hw aa;replace aB:=aB.ext aa;replace bu:=bu.ext aa;clear aa;rotate_right))|refine SW.want rfl rfl ?_|((first|refine SW.call rfl rfl (cM _) ?_|refine SW.call rfl rfl (gI _ _ _ _) ?_);intro v w1 aa hv;subst hv;replace hw:=Ext.trans hw aa;replace aB:=aB.ext aa;replace bu:=bu.ext aa;clear aa)|refine SW.cI rfl rfl (fun w1 aa=>(nq _ (by omega) _)) ?_|exact SW.du rfl)
       all_goals try omega
       refine ae.again (0+1) ⟨rfl,by rw [n7 _ _ _ eV];rfl,rfl,trivial⟩ (by omega) ⟨by omega,hw,aB,fun i h hi => ?_,fun i h hi=>by omega⟩;obtain rfl:i=0:=by omega
       exact pQ
      ·obtain ⟨j,rfl⟩ : ∃ j,k=j+1:=⟨k-1,by omega⟩;have hj:j<r.ag.n:=by omega
       have nQ:=hr.free.lt hj;have NT:=hI j nQ (by omega);obtain ⟨⟨g1,g2,g3,g4,g5⟩,_⟩:=id NT;have HB:=n7 z.aw z.ag j nQ;have em:(z.ag[j]).At.tmod (pw ((z.ag[j+1]).Order+1))=(z.ag[j]).At % (pw ((z.ag[j+1]).Order+1)):=Int.tmod_eq_emod_of_nonneg (by omega)
       by_cases dg:(z.ag[j]).At+pw (z.ag[j]).Order≤(z.ag[j+1]).At
       ·have Le:=Di NT pQ dg;by_cases Dj:(z.ag[j+1]).Order<4∧(z.ag[j]).Order=(z.ag[j+1]).Order∧(z.ag[j]).At+pw (z.ag[j+1]).Order=(z.ag[j+1]).At∧(z.ag[j]).At % pw ((z.ag[j+1]).Order+1)=0
        ·have oM:=Le.2 Dj;obtain ⟨u1,u2,u3,u4⟩:=id Dj;clear Le;repeat' (first|refine Wz ?_|((apply CW.bg mixed;(· kernel_rfl);rotate_left;intro w1 aa;replace hw:=Ext.trans hw aa;replace aB:=aB.ext aa;replace bu:=bu.ext aa;clear aa;rotate_right))|refine SW.st (bc (j) rfl rfl (by assumption) (by omega) (by omega)) rfl ?_|refine SW.st (aM hw rfl (hr.free.qV hj rfl)) rfl ?_|((first|refine SW.call rfl rfl (cM _) ?_|refine SW.call rfl rfl (gI _ _ _ _) ?_);intro v w1 aa hv;subst hv;replace hw:=Ext.trans hw aa;replace aB:=aB.ext aa;replace bu:=bu.ext aa;clear aa)|refine SW.cI rfl rfl (fun w1 aa=>(nq _ (by omega) _)) ?_|exact SW.du rfl)
         all_goals try omega
         refine ae.aI rfl rfl ⟨_,rfl,hw,?_⟩;rw [fY (fun h=>(h.next j eV).2 oM)]
        ·have LX:gJ z.ag[j] z.ag[j+1]:=⟨dg,fun h=>Dj (Le.1 h)⟩
         have hd:(¬ (z.ag[j+1]).Order<4)∨((z.ag[j+1]).Order<4 ∧ ¬ (z.ag[j]).Order=(z.ag[j+1]).Order)∨((z.ag[j+1]).Order<4∧(z.ag[j]).Order=(z.ag[j+1]).Order ∧ ¬ (z.ag[j]).At+pw (z.ag[j+1]).Order=(z.ag[j+1]).At) ∨
          ((z.ag[j+1]).Order<4∧(z.ag[j]).Order=(z.ag[j+1]).Order∧(z.ag[j]).At+pw (z.ag[j+1]).Order=(z.ag[j+1]).At ∧ ¬ (z.ag[j]).At % pw ((z.ag[j+1]).Order+1)=0):=by
          by_cases u1:(z.ag[j+1]).Order<4
          ·by_cases u2:(z.ag[j]).Order=(z.ag[j+1]).Order
           ·by_cases u3:(z.ag[j]).At+pw (z.ag[j+1]).Order=(z.ag[j+1]).At
            ·exact .inr (.inr (.inr ⟨u1,u2,u3,fun u4=>Dj ⟨u1,u2,u3,u4⟩⟩))
            ·exact .inr (.inr (.inl ⟨u1,u2,u3⟩))
           ·exact .inr (.inl ⟨u1,u2⟩)
          ·exact .inl u1
         clear Le
         have JG:∀ (i:Nat) (h:i+1<z.ag.length),i+1<j+1+1→gJ z.ag[i] z.ag[i+1]:=fun i h hi=>by
          by_cases j1:i=j
          ·subst j1;exact LX
          ·exact hN i h (by omega)
         have LY:∀ (i:Nat) (h:i<z.ag.length),i<j+1+1→fv z.aw z.To z.ag[i]:=fun i h hi=>by
          by_cases j1:i=j+1
          ·subst j1;exact pQ
          ·exact hI i h (by omega)
         rcases hd with u1|⟨u1,u2⟩|⟨u1,u2,u3⟩|⟨u1,u2,u3,u4⟩
         all_goals
          repeat' (first|refine Wz ?_|((apply CW.bg mixed;(· kernel_rfl);rotate_left;intro w1 aa;replace hw:=Ext.trans hw aa;replace aB:=aB.ext aa;replace bu:=bu.ext aa;clear aa;rotate_right))|refine SW.want rfl rfl ?_|refine SW.st (bc (j) rfl rfl (by assumption) (by omega) (by omega)) rfl ?_|refine SW.st (aM hw rfl (hr.free.qV hj rfl)) rfl ?_|((first|refine SW.call rfl rfl (cM _) ?_|refine SW.call rfl rfl (gI _ _ _ _) ?_);intro v w1 aa hv;subst hv;replace hw:=Ext.trans hw aa;replace aB:=aB.ext aa;replace bu:=bu.ext aa;clear aa)|refine SW.cI rfl rfl (fun w1 aa=>(nq _ (by omega) _)) ?_|exact SW.du rfl)
          all_goals try omega
          exact ae.again (j+1+1) ⟨rfl,by rw [n7 _ _ _ eV];rfl,rfl,trivial⟩ (by omega) ⟨by omega,hw,aB,LY,JG⟩
       ·repeat' (first|refine Wz ?_|refine SW.want rfl rfl ?_|((first|refine SW.call rfl rfl (cM _) ?_|refine SW.call rfl rfl (gI _ _ _ _) ?_);intro v w1 aa hv;subst hv;replace hw:=Ext.trans hw aa;replace aB:=aB.ext aa;replace bu:=bu.ext aa;clear aa))
        all_goals try omega
        refine ae.aI rfl rfl ⟨_,rfl,hw,?_⟩;rw [fY (fun h=>dg (h.next j eV).1)]
     ·have xd:df z=false:=fY (fun h=>pQ (h.cU k eV))
      by_cases Bx:dK z.aw z.To (z.ag[k]).At (z.ag[k]).Order
      ·have xc : ¬ (0≤(z.ag[k]).Ty∧(z.ag[k]).Ty≤2):=fun h=>pQ ⟨Bx,h⟩
       rw [decide_eq_true Bx] at cM;repeat' (first|refine Wz ?_|refine SW.want rfl rfl ?_|((first|refine SW.call rfl rfl (cM _) ?_|refine SW.call rfl rfl (gI _ _ _ _) ?_);intro v w1 aa hv;subst hv;replace hw:=Ext.trans hw aa;replace aB:=aB.ext aa;replace bu:=bu.ext aa;clear aa))
       all_goals try omega
       exact ae.aI rfl rfl ⟨_,rfl,hw,by rw [xd]⟩
      ·rw [decide_eq_false Bx] at cM;repeat' (first|refine Wz ?_|refine SW.skip rfl rfl rfl rfl ?_|(refine SW.call rfl rfl (cM _) ?_;intro v w1 aa hv;subst hv;replace hw:=Ext.trans hw aa;replace aB:=aB.ext aa;replace bu:=bu.ext aa;clear aa))
       exact ae.aI rfl rfl ⟨_,rfl,hw,by rw [xd]⟩
    ·refine Wz ?_;refine ae.aI rfl rfl ⟨_,rfl,hw,?_⟩;rw [iJ ⟨by rw [← eF,← eT];exact iO,JF,rD,fun i h=>hI i h (by omega),fun i h=>hN i h (by omega)⟩]
  ·refine Wz ?_;refine SW.alloc rfl fun b3 w1 aa bL aq => ?_
   have cJ:w.heap.size≤b3:=Nat.le_trans hw.size bL
   have jE:b1≠b3:=by have:=aB.lt;omega
   replace hw:=Ext.trans hw aa;replace aB:=aB.ext aa;replace hs:=hs.ext aa;refine SW.ah aq rfl rfl rfl rfl (cx _) fun w2 cS hg => ?_
   replace hw:=hw.own cJ hg;replace hs:=hs.cU aq hg rfl rfl;replace aB:=aB.grown hg (by simpa using jE);replace aq:=cS;clear cS aa hg bL;refine Wz ?_;refine ae.aI rfl rfl ⟨_,rfl,hw,?_⟩;rw [fY (fun h=>JF h.len)]
 ·rw [jB iO] at hv;obtain ⟨s,rfl,hs⟩:=hv;refine Wz ?_;refine SW.alloc rfl fun b3 w1 aa bL aq => ?_
  have cJ:w.heap.size≤b3:=Nat.le_trans hw.size bL
  have jE:b1≠b3:=by have:=aB.lt;omega
  replace hw:=Ext.trans hw aa;replace aB:=aB.ext aa;replace hs:=hs.ext aa;refine SW.ah aq rfl rfl rfl rfl (cx _) fun w2 cS hg => ?_
  replace hw:=hw.own cJ hg;replace hs:=hs.cU aq hg rfl rfl;replace aB:=aB.grown hg (by simpa using jE);replace aq:=cS;clear cS aa hg bL;refine Wz ?_;refine ae.aI rfl rfl ⟨_,rfl,hw,?_⟩;rw [fY (fun h=>iO (by rw [eF,eT];exact h.ok))]
def sq (a o:Int) (b:Block) : Bool:=decide (b.At=a) && decide (b.Order=o)
def gC (l:List Block) (a o:Int) : List Block:=l.filter fun b => !sq a o b
def dr:Nat→List Block→Int→Int→List Block×Int×Int
 | 0,l,a,o=>(l,a,o)
 | f+1,l,a,o=>if o<4 then (if l.any (sq (beside a o) o) then dr f (gC l (beside a o) o) (min a (beside a o)) (o+1) else (l,a,o)) else (l,a,o)
def aZ (l:List Block) (a:Int) : Nat:=l.findIdx fun b=>decide (a≤b.At)
def aH {α:Type} (l:List α) (i:Nat) (b : α) : List α := l.take i++[b]++l.drop i
def eK (l:List Block) (a o:Int) : Bool:=l.any fun x=>decide (x.At<a+pw o) && decide (a<x.At+pw x.Order)
def mE (l:List Block) : Prop:=l.Pairwise fun x y=>x.At+pw x.Order≤y.At
structure xf (f t:Int) (l:List Block) (a o:Int) : Prop where
 mE:mE l
 cU:∀ b∈l,fv f t b
 fit:dK f t a o
 Dk:∀ b∈l,b.At+pw b.Order≤a∨a+pw o≤b.At
theorem fI {l:List Block} (h:mE l) {i j:Nat} (hj:j<l.length) (j1:i<j) : (l[i]'(by omega)).At+pw (l[i]'(by omega)).Order≤l[j].At:=by
 unfold mE at h;rw [List.pairwise_iff_getElem] at h;exact h i j (by omega) hj j1
theorem kE {z:ab} (h:aU z) : mE z.ag:=by
 have key:∀ (d i:Nat) (hj:i+d+1<z.ag.length),(z.ag[i]'(by omega)).At+pw (z.ag[i]'(by omega)).Order≤z.ag[i+d+1].At:=by
  intro d;induction d with
  | zero=>intro i hj;exact (h.next i hj).1
  | succ d ih =>
    intro i hj;have h1:=ih i (by omega);have h2:=(h.next (i+d+1) (by omega)).1;have hb:=(h.cU (i+d+1) (by omega)).1;have:=bM hb.1 hb.2.1
    have e:z.ag[i+(d+1)+1]=z.ag[i+d+1+1]'(by omega):=rfl
    rw [e];omega
 unfold mE;rw [List.pairwise_iff_getElem];intro i j hi hj j1;have:=key (j-i-1) i (by omega)
 have e:i+(j-i-1)+1=j:=by omega
 simp only [e] at this;exact this
theorem Dl {f t:Int} {l:List Block} (h:mE l) (hb:∀ b∈l,fv f t b) {x y:Block} (hx:x∈l) (hy:y∈l) : x=y∨x.At+pw x.Order≤y.At∨y.At+pw y.Order≤x.At:=by
 obtain ⟨i,hi,rfl⟩:=List.getElem_of_mem hx;obtain ⟨j,hj,rfl⟩:=List.getElem_of_mem hy;rcases Nat.lt_trichotomy i j with h1|h1|h1
 ·exact .inr (.inl (fI h hj h1))
 ·subst h1;exact .inl rfl
 ·exact .inr (.inr (fI h hi h1))
theorem HC {f t:Int} {l:List Block} (h:mE l) (hb:∀ b∈l,fv f t b) {i j:Nat} (hi:i<l.length) (hj:j<l.length) (e:l[i].At=l[j].At) : i=j:=by
 have p1:=hb _ (List.getElem_mem hi);have p2:=hb _ (List.getElem_mem hj);have q1:=bM p1.1.1 p1.1.2.1;have q2:=bM p2.1.1 p2.1.2.1;rcases Nat.lt_trichotomy i j with h1|h1|h1
 ·have:=fI h hj h1;omega
 ·exact h1
 ·have:=fI h hi h1;omega
theorem sr {a o:Int} (h : 0≤a) (h0 : 0≤o) (h4:o<4) (hm:a % pw o=0) : (min a (beside a o)) % pw (o+1)=0∧(beside a o=a+pw o∨beside a o=a-pw o)∧(beside a o) % pw o=0:=by
 rw [iI h0 (by omega)];unfold beside;have hp:=dl h0 (show o≤4 by omega);generalize pw o=q at *
 rcases hp with ⟨e,rfl⟩|⟨e,rfl⟩|⟨e,rfl⟩|⟨e,rfl⟩|⟨e,rfl⟩<;>split<;>omega
theorem fJ {a o:Int} {b:Block}:sq a o b=true↔b.At=a∧b.Order=o:=by simp [sq]
theorem xf.step {f t:Int} {l:List Block} {a o:Int} (h:xf f t l a o) (h0 : 0≤f) (ho:o<4) (ga:l.any (sq (beside a o) o)=true) : xf f t (gC l (beside a o) o) (min a (beside a o)) (o+1):=by
 obtain ⟨b,hb,hi⟩:=List.any_eq_true.1 ga;obtain ⟨e1,e2⟩:=fJ.1 hi;obtain ⟨f1,f2,f3,f4,f5⟩:=h.fit;obtain ⟨g1,g2,g3,g4,g5⟩:=(h.cU b hb).1;obtain ⟨k1,k2,k3⟩:=sr (by omega) f1 ho f5;have hp:=iI f1 f2;have Lg:=bM f1 f2;refine ⟨h.mE.sublist List.filter_sublist,fun x hx=>h.cU x ((List.mem_filter.1 hx).1),⟨by omega,by omega,by omega,by omega,k1⟩,fun x hx => ?_⟩;have j0:=(List.mem_filter.1 hx).1
 have NU:sq (beside a o) o x=false:=by
  have:=(List.mem_filter.1 hx).2
  simpa using this
 have hd:=h.Dk x j0;have LZ:=bM (h.cU x j0).1.1 (h.cU x j0).1.2.1;rcases Dl h.mE h.cU hb j0 with e|e|e
 ·subst e;rw [hi] at NU;cases NU
 ·rw [hp];rw [e2] at e;omega
 ·rw [hp];omega
theorem ss {f t:Int} (h0 : 0≤f) : ∀ (k:Nat) {l:List Block} {a o:Int},xf f t l a o→xf f t (dr k l a o).1 (dr k l a o).2.1 (dr k l a o).2.2∧(dr k l a o).1.length≤l.length
 | 0,l,a,o,h=>⟨h,Nat.le_refl _⟩
 | k+1,l,a,o,h=>by
   simp only [dr];split
   ·rename_i ho;split
    ·rename_i ga;have ih:=ss h0 k (h.step h0 ho ga);exact ⟨ih.1,Nat.le_trans ih.2 (List.length_filter_le _ _)⟩
    ·exact ⟨h,Nat.le_refl _⟩
   ·exact ⟨h,Nat.le_refl _⟩
theorem AJ {l:List Block} {a:Int} {i:Nat} (hi:i≤l.length) (h1:∀ (k:Nat) (h:k<l.length),k<i→l[k].At<a) (h2:∀ h:i<l.length,a≤l[i].At) : aZ l a=i:=by
 unfold aZ;by_cases h:i<l.length
 ·exact (List.findIdx_eq h).2 ⟨by simpa using h2 h,fun j hj=>by simpa using h1 j (by omega) hj⟩
 ·have e:i=l.length:=by omega
  subst e;rw [List.findIdx_eq_length];intro x hx;obtain ⟨k,hk,rfl⟩:=List.getElem_of_mem hx;simpa using h1 k hk hk
theorem AK (l:List Block) (a:Int) : aZ l a≤l.length:=List.findIdx_le_length
theorem kF {l:List Block} {a:Int} {k:Nat} (hk:k<aZ l a) : (l[k]'(Nat.lt_of_lt_of_le hk (AK l a))).At<a:=by
 have:=List.not_of_lt_findIdx hk
 simpa using this
theorem xg {l:List Block} {a:Int} (h:aZ l a<l.length) : a≤(l[aZ l a]).At:=by
 have:=List.findIdx_getElem (w:=h)
 exact of_decide_eq_true this
def pR (l:List Block) (a o:Int) : Bool:=if h:aZ l a<l.length then decide ((l[aZ l a]).At=a∧(l[aZ l a]).Order=o) else false
theorem By {f t:Int} {l:List Block} (hu:mE l) (hb:∀ b∈l,fv f t b) (a o:Int) : l.any (sq a o)=pR l a o:=by
 unfold pR;by_cases h:aZ l a<l.length
 ·rw [dif_pos h];by_cases hh:(l[aZ l a]).At=a∧(l[aZ l a]).Order=o
  ·rw [decide_eq_true hh];exact List.any_eq_true.2 ⟨_,List.getElem_mem h,fJ.2 hh⟩
  ·rw [decide_eq_false hh,List.any_eq_false];intro x hx hi;obtain ⟨e1,e2⟩:=fJ.1 hi;obtain ⟨j,hj,rfl⟩:=List.getElem_of_mem hx;have h1:=xg h;rcases Nat.lt_trichotomy j (aZ l a) with dg|dg|dg
   ·have:=kF dg;omega
   ·subst dg;exact hh ⟨e1,e2⟩
   ·have:=fI hu hj dg
    have hp:=hb _ (List.getElem_mem h);have:=bM hp.1.1 hp.1.2.1
    omega
 ·rw [dif_neg h,List.any_eq_false];intro x hx hi;obtain ⟨e1,e2⟩:=fJ.1 hi;obtain ⟨j,hj,rfl⟩:=List.getElem_of_mem hx;have:=kF (show j<aZ l a by omega)
  omega
theorem ud {f t:Int} {l:List Block} (hu:mE l) (hb:∀ b∈l,fv f t b) {a o:Int} {i:Nat} (hi:i<l.length) (h1:l[i].At=a) (h2:l[i].Order=o) : l.eraseIdx i=gC l a o:=by
 have cr:∀ (j:Nat) (hj:j<l.length),j≠i→sq a o l[j]=false:=fun j hj j5=>by
  cases hh:sq a o l[j] with
  | false=>rfl
  | true =>
    obtain ⟨e1,e2⟩:=fJ.1 hh;exact absurd (HC hu hb hj hi (by omega)) j5
 have e:l=l.take i++l[i]::l.drop (i+1):=by simp
 have hL:∀ x∈l.take i,sq a o x=false:=fun x hx=>by
  obtain ⟨j,hj,rfl⟩:=List.getElem_of_mem hx;simp at hj;rw [List.getElem_take];exact cr j (by omega) (by omega)
 have hR:∀ x∈l.drop (i+1),sq a o x=false:=fun x hx=>by
  obtain ⟨j,hj,rfl⟩:=List.getElem_of_mem hx;simp at hj;rw [List.getElem_drop];exact cr _ (by omega) (by omega)
 have hm:sq a o l[i]=true:=fJ.2 ⟨h1,h2⟩
 unfold gC;rw [List.eraseIdx_eq_take_drop_succ]
 conv=>rhs;rw [e]
 rw [List.filter_append,List.filter_cons];simp only [hm,Bool.not_true,Bool.false_eq_true,if_false];rw [List.filter_eq_self.2 (fun x hx=>by simp [hL x hx]),List.filter_eq_self.2 (fun x hx=>by simp [hR x hx])]
noncomputable def bV (z:ab) (a o:Int) : Int×ab :=
 if df z then (if dK z.aw z.To a o then (if eK z.ag a o then (5,⟨0,0,[],[]⟩) else
  (0,⟨z.aw,z.To,aH (dr 5 z.ag a o).1 (aZ (dr 5 z.ag a o).1 (dr 5 z.ag a o).2.1) ⟨(dr 5 z.ag a o).2.1,(dr 5 z.ag a o).2.2,z.Types.getD (((dr 5 z.ag a o).2.1-z.aw) / 8).toNat 0⟩,z.Types⟩)) else (1,⟨0,0,[],[]⟩)) else (8,⟨0,0,[],[]⟩)
theorem oN {f t:Int} {z:ab} {a o:Int} (hz:aU z) (hf:dK z.aw z.To a o) (h:eK z.ag a o=false) : xf z.aw z.To z.ag a o:=by
 refine ⟨kE hz,fun b hb => ?_,hf,fun b hb => ?_⟩
 ·obtain ⟨i,hi,rfl⟩:=List.getElem_of_mem hb;exact hz.cU i hi
 ·unfold eK at h;rw [List.any_eq_false] at h;have:=h b hb
  simp at this;omega
open Go.RowKit
open Go.RowKit
section
variable {P:Program} {n:Nat} {Q:Exit→Act→World→Prop} {L:Env} {w:World}
def JH (n:Nat) (K:Env→World→Prop) (Q:Exit→Act→World→Prop) : Exit→Act→World→Prop
 | .normal,a,w' => ∃ L',Fit n a L'∧K L' w'
 | e,a,w'=>Q e a w'
theorem CW.HD {c:Code} {id:Nat} (K:Env→World→Prop) (h:CW P n c (Exit.inBlock id (JH n K Q)) L w) (k:∀ L' w',K L' w'→ae n Q .normal L' w') : CW P n c (Exit.inBlock id Q) L w :=
 ⟨fun a ha=>wp_mono (h.out a ha) fun e a' w' h'=>by
  cases e with
  | normal=>obtain ⟨L',hf,hk⟩:=h';exact (k L' w' hk).out a' hf
  | exit j =>
    simp only [Exit.inBlock] at h' ⊢;split
    ·rename_i hj;rw [if_pos hj] at h';obtain ⟨L',hf,hk⟩:=h';exact (k L' w' hk).out a' hf
    ·rename_i hj;rw [if_neg hj] at h';exact h'
  | _=>exact h'⟩
theorem ae.xh {K:Env→World→Prop} (h:K L w) : ae n (JH n K Q) .normal L w:=⟨fun _ ha=>⟨L,ha,h⟩⟩
end
end Go.Proofs.YtbidkghlpijecaaGreatDoor
