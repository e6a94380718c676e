/-
  Texts of the claim KmemFrees, part 5: what its theorem leans on.
-/
import Derived.Test.YtbidkghlpijecaaGreatDoorPackKmemFrees3
import Derived.Test.YtbidkghlpijecaaGreatDoorPackKmemFrees2
set_option linter.unusedVariables false
set_option linter.unusedSimpArgs false
namespace Go.Proofs.YtbidkghlpijecaaGreatDoor
open Go.RowKit
def dk (x:Int) : Int×Int×Int:=if 1≤x∧x≤64 then (if 4≤16 / x then (0,16 / x,0) else if 4≤32 / x then (1,32 / x,0) else (2,64 / x,0)) else (0,0,1)
def gx (x:Int) : Value := .tuple #[.int .i64 (dk x).1,.int .i64 (dk x).2.1,.int .i64 (dk x).2.2]
theorem rK (x:Int) (w:World) : a9 Tryz.prog 150 [.int .i64 x] w fun v _=>v=gx x:=by
 refine aC Tryz.func150 rfl Tryz.ntmps150 rfl ?_;have hw:=Ext.refl w;repeat' (first|refine Wz ?_|(first|refine CW.oD rfl (fun h => ?_) (fun h => ?_)|refine CW.oE rfl (fun h => ?_) (fun h => ?_)|(apply CW.aM mixed;(· kernel_rfl);rotate_left;intro w1 ab;replace hw:=Ext.trans hw ab;clear ab;rotate_right))|(refine SW.call rfl rfl (ca _ _ _ _) ?_;intro v w1 ab hv;subst hv;replace hw:=Ext.trans hw ab;clear ab)|exact SW.br rfl)
 all_goals refine ae.l8 rfl rfl rfl rfl ⟨_,rfl,hw,?_⟩
 all_goals unfold gx dk
 ·rw [if_neg (by omega)]
 ·rw [if_pos (by omega),if_pos (by omega)]
 ·rw [if_pos (by omega),if_neg (by omega),if_pos (by omega)]
 ·rw [if_pos (by omega),if_neg (by omega),if_neg (by omega)]
theorem uD (x:Int) (w:World) : a9 Tryz.prog 141 [.int .i64 x] w fun v _=>v=gx x:=by
 refine aC Tryz.func141 rfl Tryz.ntmps141 rfl ?_;have hw:=Ext.refl w;repeat' (first|refine Wz ?_|(refine CW.oD rfl (fun h => ?_) (fun h => ?_))|refine SW.dv rfl rfl rfl (fun h => ?_) (fun h => ?_))
 ·refine ae.l8 rfl rfl rfl rfl ⟨_,rfl,hw,?_⟩;unfold gx dk;rw [if_neg (by omega)]
 ·refine ae.l8 rfl rfl rfl rfl ⟨_,rfl,hw,?_⟩;unfold gx dk;rw [if_neg (by omega)]
 ·have hx : 1≤x∧x≤64:=by omega
  refine CW.loop (fun k:Nat=>[(0,.int .i64 x),(5,.int .i64 (k:Int))]) (fun k w'=>k≤2∧Ext w w'∧(1≤k → ¬ 4≤16 / x)∧(2≤k → ¬ 4≤32 / x)) (fun k=>2-k) 0 ⟨rfl,rfl,trivial⟩ ⟨by omega,hw,by omega,by omega⟩ ?_;clear hw;rintro k w' ⟨hk,hw,h1,h2⟩
  obtain rfl|rfl|rfl:k=0∨k=1∨k=2:=by omega
  ·refine Wz ?_;refine SW.st (fB (r:=16) rfl rfl (by decide) (by decide) (by decide) (by decide) (by decide)) rfl ?_;repeat' (first|refine Wz ?_|refine SW.dv rfl rfl rfl (fun h => ?_) (fun h => ?_))
   ·refine ae.l8 rfl rfl rfl rfl ⟨_,rfl,hw,?_⟩;unfold gx dk;rw [if_pos (by omega),if_pos (by omega)]
    rfl
   ·exact ae.again 1 ⟨rfl,rfl,trivial⟩ (by omega) ⟨by omega,hw,fun _=>by omega,fun h=>by omega⟩
  ·refine Wz ?_;refine SW.st (fB (r:=32) rfl rfl (by decide) (by decide) (by decide) (by decide) (by decide)) rfl ?_;repeat' (first|refine Wz ?_|refine SW.dv rfl rfl rfl (fun h => ?_) (fun h => ?_))
   ·refine ae.l8 rfl rfl rfl rfl ⟨_,rfl,hw,?_⟩;have:=h1 (by omega)
    unfold gx dk;rw [if_pos (by omega),if_neg (by omega),if_pos (by omega)]
    rfl
   ·exact ae.again 2 ⟨rfl,rfl,trivial⟩ (by omega) ⟨by omega,hw,fun _=>h1 (by omega),fun _=>by omega⟩
  ·refine Wz ?_;refine SW.st (fB (r:=64) rfl rfl (by decide) (by decide) (by decide) (by decide) (by decide)) rfl ?_;have G8:=h1 (by omega);have lA:=h2 (by omega);repeat' (first|refine Wz ?_|refine SW.dv rfl rfl rfl (fun h => ?_) (fun h => ?_))
   all_goals refine ae.l8 rfl rfl rfl rfl ⟨_,rfl,hw,?_⟩
   all_goals unfold gx dk
   all_goals rw [if_pos (by omega),if_neg (by omega),if_neg (by omega)]
   all_goals rfl
open Go.RowKit
def vW (b:Bool) : List Value:=[.bool b]
instance:fM vW 1:=⟨fun _=>rfl,fun _ u hu=>by simp [vW] at hu;subst hu;rfl⟩
theorem rL (A:Option Addr) (n c:Nat) (l:List Int) (x:Int) (w:World) (hl:Sl w 1 bm A n l) (hn:n≤9223372036854775807) :
 a9 Tryz.prog 186 [.slice A n c,.int .i64 x] w fun v _ => ∃ i:Int,v = .int .i64 i∧(0≤i↔x∈l):=by
 refine aC Tryz.func186 rfl Tryz.ntmps186 rfl ?_;have hw:=Ext.refl w;have hA:=hl.base;have lz:=hl.len;refine Wz ?_
 refine CW.loop (fun k:Nat=>[(0,.slice A n c),(1,.int .i64 x),(7,.int .i64 (n:Int)),(8,.int .i64 (k:Int))]) (fun k w'=>k≤n∧Ext w w' ∧ ∀ (i:Nat) (h:i<l.length),i<k→l[i]≠x)
  (fun k=>n-k) 0 ⟨rfl,rfl,rfl,rfl,trivial⟩ ⟨by omega,hw,fun i h hi=>by omega⟩ ?_
 clear hw;rintro k w' ⟨hk,hw,hI⟩
 by_cases cc:k<n
 ·repeat' (first|refine Wz ?_|(refine CW.oD rfl (fun h => ?_) (fun h => ?_))|refine SW.st (ag hw rfl (hl.one cc rfl)) rfl ?_)
  ·refine ae.aF rfl rfl ⟨_,rfl,hw,_,rfl,?_⟩;have hx:x∈l:=by rw [h];exact List.getElem_mem _
   simp [hx]
  ·refine ae.again (k+1) ⟨rfl,rfl,rfl,rfl,trivial⟩ (by omega) ⟨by omega,hw,fun i h' hi => ?_⟩;by_cases vx:i=k
   ·subst vx;exact fun e=>h e.symm
   ·exact hI i h' (by omega)
 ·refine Wz ?_;refine ae.aF rfl rfl ⟨_,rfl,hw,_,rfl,?_⟩
  have hx : ¬ x∈l:=fun hm=>by
   obtain ⟨i,hi,e⟩:=List.getElem_of_mem hm;exact hI i hi (by omega) e
  simp [hx]
theorem eA (A:Option Addr) (n c:Nat) (l:List Int) (x:Int) (w:World) (hl:Sl w 1 bm A n l) (hn:n≤9223372036854775807) :
 a9 Tryz.prog 95 [.slice A n c,.int .i64 x] w fun v _=>v = .bool (decide (x∈l)):=by
 refine aC Tryz.func95 rfl Tryz.ntmps95 rfl ?_;have hw:=Ext.refl w;refine Wz ?_;refine SW.call rfl rfl (rL _ _ _ _ _ _ (hl.ext hw) hn) fun v w1 ab hv => ?_
 obtain ⟨i,rfl,hi⟩:=hv;replace hw:=Ext.trans hw ab;refine Wz ?_;refine ae.aF rfl rfl ⟨_,rfl,hw,?_⟩;congr 1
 rw [decide_eq_decide];exact hi
inductive dn (l:List Int) (most:Int) : Int→List Int→Option (List Int)→Prop where
 | done (out:List Int) : dn l most (-1) out (some out)
 | bad {x:Int} {out:List Int} (h:x ≠ -1) (hb:most≤out.length ∨ ¬ (0≤x∧x<l.length)∨x∈out) : dn l most x out none
 | step {k:Nat} {out:List Int} {r:Option (List Int)} (h1:out.length<most) (hk:k<l.length) (h3:(k:Int)∉out) (h:dn l most l[k] (out++[(k:Int)]) r) : dn l most k out r
theorem dn.mM {l:List Int} {most x:Int} {out:List Int} {r s:Option (List Int)} (h:dn l most x out r) : dn l most x out s→r=s:=by
 induction h with
 | done out=>intro h';generalize hx:(-1:Int)=y at h';cases h' with
   | done=>rfl
   | bad h hb=>exact absurd hx.symm h
   | step h1 hk h3 h=>omega
 | @bad x out h hb=>intro h';cases h' with
   | done=>exact absurd rfl h
   | bad=>rfl
   | @step k _ _ h1 hk h3 h'=>rcases hb with h0|h0|h0<;>first|omega|exact absurd h0 h3
 | @step k out r h1 hk h3 h ih=>intro h';generalize hx:(k:Int)=y at h';cases h' with
   | done=>omega
   | bad h hb=>subst hx;rcases hb with h0|h0|h0<;>first|omega|exact absurd h0 h3
   | @step k' _ _ G8 sR IW h' =>
     have:k=k':=by omega
     subst this;exact ih h'
def kk (n:Nat) (out:List Int) : Nat:=((List.range n).filter fun i:Nat=>decide ((i:Int)∉out)).length
theorem qO {n k:Nat} {out:List Int} (hk:k<n) (h:(k:Int)∉out) : kk n (out++[(k:Int)])<kk n out:=by
 unfold kk
 have e:((List.range n).filter fun i:Nat=>decide ((i:Int)∉out++[(k:Int)]))=((List.range n).filter fun i:Nat=>decide ((i:Int)∉out)).filter fun i:Nat=>decide (i≠k):=by
  rw [List.filter_filter];apply List.filter_congr;intro i _;rw [← Bool.decide_and,decide_eq_decide];simp only [List.mem_append,List.mem_singleton,not_or];constructor
  ·rintro ⟨h1,h2⟩;exact ⟨fun e=>h2 (by rw [e]),h1⟩
  ·rintro ⟨h1,h2⟩;exact ⟨h2,fun e=>h1 (by omega)⟩
 rw [e];refine List.length_filter_lt_length_iff_exists.2 ⟨k,?_,by simp⟩;simp [hk,h]
open Go.RowKit
theorem Own.rM {α β:Type} {w:World} {lo jW:Nat} {e e':TypeId} {sz EF:Nat} {enc : α → List Value} {Bg : β → List Value} {A B:Option Addr} {m c k d:Nat} {l:List α} {l':List β}
 (hO:Own w lo e sz enc A m c l) (hS:Own w jW e' EF Bg B k d l') (cQ:Nat.beq e e'=false) : aX A c=none∨aX A c≠aX B d:=by
 rcases hO.row with ⟨_,rfl⟩|⟨hc,g,fk,rfl,_,h2,_⟩
 ·exact .inl (by simp [aX])
 ·right;rcases hS.row with ⟨_,rfl⟩|⟨hd,g',G9,rfl,_,lA,_⟩
  ·simp [aX,Nat.pos_iff_ne_zero.1 hc]
  ·simp only [aX,Nat.pos_iff_ne_zero.1 hc,Nat.pos_iff_ne_zero.1 hd,if_false,Option.map_some,ne_eq,Option.some.injEq];rintro rfl;rw [h2] at lA;injection lA with lA
   injection lA with _ h _
   subst h;simp at cQ
def vy (lo:Nat) (r:Option (List Int)) (v:Value) (w:World) : Prop:=match r with
 | none=>v = .tuple #[.slice none 0 0,.int .i64 8]
 | some out => ∃ A c,v = .tuple #[.slice A out.length c,.int .i64 0]∧Own w lo 3 1 bm A out.length c out∧out.length≤17592186044416
theorem oY (n:Nat) : kk n []≤n:=Nat.le_trans (List.length_filter_le _ _) (by simp)
theorem uE (A:Option Addr) (n c:Nat) (l:List Int) (x most:Int) (w:World) (hl:Sl w 1 bm A n l) (hn:n*8≤140737488355328) :
 a9 Tryz.prog 184 [.slice A n c,.int .i64 x,.int .i64 most] w fun v w' => ∃ r,dn l most x [] r∧vy w.heap.size r v w':=by
 refine aC Tryz.func184 rfl Tryz.ntmps184 rfl ?_;have hw:=Ext.refl w;have Bh:n≤2305843009213693952:=by omega
 have hA:=hl.base;have lz:=hl.len;refine Wz ?_
 refine CW.loop (fun s:List Int×Int×Option Addr×Nat=>[(0,.slice A n c),(1,.int .i64 s.2.1),(2,.int .i64 most),(8,.slice s.2.2.1 s.1.length s.2.2.2)])
  (fun s w'=>s.1.length+kk n s.1≤n∧(∀ r,dn l most s.2.1 s.1 r→dn l most x [] r)∧Ext w w'∧Own w' w.heap.size 3 1 bm s.2.2.1 s.1.length s.2.2.2 s.1) (fun s=>kk n s.1) ([],x,none,0) ⟨rfl,rfl,rfl,rfl,trivial⟩
  ⟨by simpa using oY n,fun _ h=>h,hw,Own.er _ _ _ _ _ _⟩ ?_
 clear hw;rintro ⟨out,y,A1,c1⟩ w' ⟨hk,hF,hw,hO⟩
 simp only at hk hF hO ⊢;by_cases hy:y = -1
 ·refine Wz ?_;refine ae.eY rfl rfl rfl ⟨_,rfl,hw,some out,hF _ (by subst hy;exact .done _),A1,c1,rfl,hO,by omega⟩
 ·by_cases hm:most≤out.length
  ·refine Wz ?_;exact ae.eY rfl rfl rfl ⟨_,rfl,hw,none,hF _ (.bad hy (.inl hm)),rfl⟩
  ·by_cases hx : 0≤y∧y<n
   ·obtain ⟨k,rfl⟩:=Int.eq_ofNat_of_zero_le hx.1;have cc:k<n:=by omega
    by_cases ju:(k:Int)∈out
    ·repeat' (first|refine Wz ?_|(refine SW.call rfl rfl (ux _ _ _ _ _ _ Bh) ?_;intro v w1 ab hv;subst hv;replace hw:=Ext.trans hw ab;replace hO:=hO.ext ab;clear ab))
     refine SW.call rfl rfl (eA _ _ _ _ _ _ hO.sl (by omega)) fun v w1 ab hv => ?_
     rw [decide_eq_true ju] at hv;subst hv;replace hw:=Ext.trans hw ab;refine Wz ?_;exact ae.eY rfl rfl rfl ⟨_,rfl,hw,none,hF _ (.bad hy (.inr (.inr ju))),rfl⟩
    ·have hu:=qO cc ju;repeat' (first|refine Wz ?_|(refine SW.call rfl rfl (ux _ _ _ _ _ _ Bh) ?_;intro v w1 ab hv;subst hv;replace hw:=Ext.trans hw ab;replace hO:=hO.ext ab;clear ab))
     refine SW.call rfl rfl (eA _ _ _ _ _ _ hO.sl (by omega)) fun v w1 ab hv => ?_
     rw [decide_eq_false ju] at hv;subst hv;replace hw:=Ext.trans hw ab;replace hO:=hO.ext ab;refine Wz ?_;refine SW.bW rfl rfl rfl rfl rfl fun b w1 ab hb hB => ?_
     replace hw:=Ext.trans hw ab;replace hO:=hO.ext ab;refine SW.append hO (aU.kf (enc:=bm) hB) hw.size rfl rfl rfl (by omega) (by omega) fun A2 c2 w2 e8 hg => ?_
     replace hw:=aK hw hg (Nat.le_refl _) hO.aN;repeat' (first|refine Wz ?_|refine SW.st (ag hw rfl (hl.one cc rfl)) rfl ?_)
     refine ae.again (out++[(k:Int)],l[k]'(hl.lt cc),A2,c2) ⟨rfl,rfl,rfl,by simp;rfl,trivial⟩ hu ⟨by simp only [List.length_append,List.length_singleton];omega,fun r h=>hF r (.step (by omega) (hl.lt cc) ju h),hw,by simpa using e8⟩
   ·repeat' (first|refine Wz ?_|(refine SW.call rfl rfl (ux _ _ _ _ _ _ Bh) ?_;intro v w1 ab hv;subst hv;replace hw:=Ext.trans hw ab;replace hO:=hO.ext ab;clear ab))
    exact ae.eY rfl rfl rfl ⟨_,rfl,hw,none,hF _ (.bad hy (.inr (.inl (by omega)))),rfl⟩
def km (n:Nat) (out:List Int) : List Bool:=(List.range n).map fun i:Nat=>decide ((i:Int)∈out)
theorem vX (n:Nat) : km n []=List.replicate n false:=by
 apply List.ext_getElem (by simp [km]);intro i h1 h2;simp [km]
theorem vY {n k:Nat} {out:List Int}:(km n out).set k true=km n (out++[(k:Int)]):=by
 apply List.ext_getElem (by simp [km]);intro i h1 h2;rw [List.getElem_set];by_cases h:k=i
 ·subst h;simp [km]
 ·have : ¬ i=k:=fun e=>h e.symm
  simp [km,h,Int.natCast_inj,this]
theorem lF {w:World} {B:Option Addr} {n k:Nat} {out:List Int} (h:Sl w 1 vW B n (km n out)) (hk:k<n) : w.cell? ((B.getD default).add (k*1))=some (.bool (decide ((k:Int)∈out))):=by
 have:=h.one (u := .bool (decide ((k:Int)∈out))) hk (by simp [vW,km])
 exact this
theorem rN (A:Option Addr) (n c:Nat) (l:List Int) (x most:Int) (w:World) (hl:Sl w 1 bm A n l) (hn:n*8≤140737488355328) :
 a9 Tryz.prog 237 [.slice A n c,.int .i64 x,.int .i64 most] w fun v w' => ∃ r,dn l most x [] r∧vy w.heap.size r v w':=by
 refine aC Tryz.func237 rfl Tryz.ntmps237 rfl ?_;have hw:=Ext.refl w;have Bh:n≤2305843009213693952:=by omega
 have hA:=hl.base;have lz:=hl.len;refine Wz ?_;refine SW.make (enc:=vW) (k:=n) false rfl rfl rfl (by omega) (by omega) rfl fun B d w1 ab hS => ?_
 have gh:=hw.size;replace hw:=Ext.trans hw ab;rw [← vX n] at hS;replace hS:=Own.low hS gh;refine Wz ?_
 refine CW.loop (fun s:List Int×Int×Option Addr×Nat=>[(0,.slice A n c),(1,.int .i64 s.2.1),(2,.int .i64 most),(8,.slice B n d),(9,.slice s.2.2.1 s.1.length s.2.2.2)])
  (fun s w'=>s.1.length+kk n s.1≤n∧(∀ r,dn l most s.2.1 s.1 r→dn l most x [] r)∧Ext w w'∧Own w' w.heap.size 3 1 bm s.2.2.1 s.1.length s.2.2.2 s.1∧Own w' w.heap.size 4 1 vW B n d (km n s.1)) (fun s=>kk n s.1) ([],x,none,0) ⟨rfl,rfl,rfl,rfl,rfl,trivial⟩
  ⟨by simpa using oY n,fun _ h=>h,hw,Own.er _ _ _ _ _ _,hS⟩ ?_
 clear hw hS;rintro ⟨out,y,A1,c1⟩ w' ⟨hk,hF,hw,hO,hS⟩
 simp only at hk hF hO hS ⊢;by_cases hy:y = -1
 ·refine Wz ?_;refine ae.eY rfl rfl rfl ⟨_,rfl,hw,some out,hF _ (by subst hy;exact .done _),A1,c1,rfl,hO,by omega⟩
 ·by_cases hm:most≤out.length
  ·refine Wz ?_;exact ae.eY rfl rfl rfl ⟨_,rfl,hw,none,hF _ (.bad hy (.inl hm)),rfl⟩
  ·by_cases hx : 0≤y∧y<n
   ·obtain ⟨k,rfl⟩:=Int.eq_ofNat_of_zero_le hx.1;have cc:k<n:=by omega
    have IX:=hS.sl.base;by_cases ju:(k:Int)∈out
    ·have qP:=lF hS.sl cc;rw [decide_eq_true ju] at qP;repeat' (first|refine Wz ?_|refine SW.st (az rfl (lF hS.sl cc)) rfl ?_|(refine SW.call rfl rfl (mT _ _ _ _ _ _ Bh) ?_;intro v w1 ab hv;subst hv;replace hw:=Ext.trans hw ab;replace hO:=hO.ext ab;replace hS:=hS.ext ab;clear ab))
     exact ae.eY rfl rfl rfl ⟨_,rfl,hw,none,hF _ (.bad hy (.inr (.inr ju))),rfl⟩
    ·have hu:=qO cc ju;repeat' (first|refine Wz ?_|refine SW.st (az rfl (lF hS.sl cc)) rfl ?_|(refine SW.call rfl rfl (mT _ _ _ _ _ _ Bh) ?_;intro v w1 ab hv;subst hv;replace hw:=Ext.trans hw ab;replace hO:=hO.ext ab;replace hS:=hS.ext ab;clear ab))
     refine SW.jh k 0 true hS rfl rfl rfl cc (by omega) (by rw [add_zero]) rfl fun w2 Bi hg => ?_
     replace hw:=aK hw hg (Nat.le_refl _) hS.aN;replace hO:=hO.grown hg (hO.rM hS rfl);rw [vY] at Bi;refine Wz ?_;refine SW.bW rfl rfl rfl rfl rfl fun b w1 ab hb hB => ?_
     replace hw:=Ext.trans hw ab;replace hO:=hO.ext ab;replace Bi:=Bi.ext ab;refine SW.append hO (aU.kf (enc:=bm) hB) hw.size rfl rfl rfl (by omega) (by omega) fun A2 c2 w2 e8 hg => ?_
     replace hw:=aK hw hg (Nat.le_refl _) hO.aN;replace Bi:=Bi.grown hg (Bi.rM hO rfl);repeat' (first|refine Wz ?_|refine SW.st (ag hw rfl (hl.one cc rfl)) rfl ?_)
     refine ae.again (out++[(k:Int)],l[k]'(hl.lt cc),A2,c2) ⟨rfl,rfl,rfl,rfl,by simp;rfl,trivial⟩ hu ⟨by simp only [List.length_append,List.length_singleton];omega,fun r h=>hF r (.step (by omega) (hl.lt cc) ju h),hw,by simpa using e8,Bi⟩
   ·repeat' (first|refine Wz ?_|(refine SW.call rfl rfl (mT _ _ _ _ _ _ Bh) ?_;intro v w1 ab hv;subst hv;replace hw:=Ext.trans hw ab;replace hO:=hO.ext ab;replace hS:=hS.ext ab;clear ab))
    exact ae.eY rfl rfl rfl ⟨_,rfl,hw,none,hF _ (.bad hy (.inr (.inl (by omega)))),rfl⟩
def lV (a o:Int) (b:Block) : Bool:=decide (b.At=a) && decide (b.Order=o)
def ba (l:List Block) (a o:Int) : List Block:=l.filter fun b => !lV a o b
def dY:Nat→List Block→Int→Int→List Block×Int×Int
 | 0,l,a,o=>(l,a,o)
 | f+1,l,a,o=>if o<4 then (if l.any (lV (beside a o) o) then dY f (ba l (beside a o) o) (min a (beside a o)) (o+1) else (l,a,o)) else (l,a,o)
def bF (l:List Block) (a:Int) : Nat:=l.findIdx fun b=>decide (a≤b.At)
def aW {α:Type} (l:List α) (i:Nat) (b : α) : List α := l.take i++[b]++l.drop i
def dZ (l:List Block) (a o:Int) : Bool:=l.any fun x=>decide (x.At<a+pw o) && decide (a<x.At+pw x.Order)
def qQ (l:List Block) : Prop:=l.Pairwise fun x y=>x.At+pw x.Order≤y.At
structure vZ (f t:Int) (l:List Block) (a o:Int) : Prop where
 qQ:qQ l
 gd:∀ b∈l,dr f t b
 fit:dJ f t a o
 D7:∀ b∈l,b.At+pw b.Order≤a∨a+pw o≤b.At
theorem gz {l:List Block} (h:qQ l) {i j:Nat} (hj:j<l.length) (jN:i<j) : (l[i]'(by omega)).At+pw (l[i]'(by omega)).Order≤l[j].At:=by
 unfold qQ at h;rw [List.pairwise_iff_getElem] at h;exact h i j (by omega) hj jN
theorem oZ {z:ay} (h:cb z) : qQ z.ao:=by
 have key:∀ (d i:Nat) (hj:i+d+1<z.ao.length),(z.ao[i]'(by omega)).At+pw (z.ao[i]'(by omega)).Order≤z.ao[i+d+1].At:=by
  intro d;induction d with
  | zero=>intro i hj;exact (h.next i hj).1
  | succ d ih =>
    intro i hj;have h1:=ih i (by omega);have h2:=(h.next (i+d+1) (by omega)).1;have hb:=(h.gd (i+d+1) (by omega)).1;have:=cu hb.1 hb.2.1
    have e:z.ao[i+(d+1)+1]=z.ao[i+d+1+1]'(by omega):=rfl
    rw [e];omega
 unfold qQ;rw [List.pairwise_iff_getElem];intro i j hi hj jN;have:=key (j-i-1) i (by omega)
 have e:i+(j-i-1)+1=j:=by omega
 simp only [e] at this;exact this
theorem xX {f t:Int} {l:List Block} (h:qQ l) (hb:∀ b∈l,dr f t b) {x y:Block} (hx:x∈l) (hy:y∈l) : x=y∨x.At+pw x.Order≤y.At∨y.At+pw y.Order≤x.At:=by
 obtain ⟨i,hi,rfl⟩:=List.getElem_of_mem hx;obtain ⟨j,hj,rfl⟩:=List.getElem_of_mem hy;rcases Nat.lt_trichotomy i j with h1|h1|h1
 ·exact .inr (.inl (gz h hj h1))
 ·subst h1;exact .inl rfl
 ·exact .inr (.inr (gz h hi h1))
theorem Bj {f t:Int} {l:List Block} (h:qQ l) (hb:∀ b∈l,dr f t b) {i j:Nat} (hi:i<l.length) (hj:j<l.length) (e:l[i].At=l[j].At) : i=j:=by
 have p1:=hb _ (List.getElem_mem hi);have p2:=hb _ (List.getElem_mem hj);have q1:=cu p1.1.1 p1.1.2.1;have q2:=cu p2.1.1 p2.1.2.1;rcases Nat.lt_trichotomy i j with h1|h1|h1
 ·have:=gz h hj h1;omega
 ·exact h1
 ·have:=gz h hi h1;omega
theorem lG {a o:Int} (h : 0≤a) (h0 : 0≤o) (h4:o<4) (hm:a % pw o=0) : (min a (beside a o)) % pw (o+1)=0∧(beside a o=a+pw o∨beside a o=a-pw o)∧(beside a o) % pw o=0:=by
 rw [jK h0 (by omega)];unfold beside;have hp:=kh h0 (show o≤4 by omega);generalize pw o=q at *
 rcases hp with ⟨e,rfl⟩|⟨e,rfl⟩|⟨e,rfl⟩|⟨e,rfl⟩|⟨e,rfl⟩<;>split<;>omega
theorem eR {a o:Int} {b:Block}:lV a o b=true↔b.At=a∧b.Order=o:=by simp [lV]
theorem vZ.step {f t:Int} {l:List Block} {a o:Int} (h:vZ f t l a o) (h0 : 0≤f) (ho:o<4) (jk:l.any (lV (beside a o) o)=true) : vZ f t (ba l (beside a o) o) (min a (beside a o)) (o+1):=by
 obtain ⟨b,hb,hi⟩:=List.any_eq_true.1 jk;obtain ⟨e1,e2⟩:=eR.1 hi;obtain ⟨f1,f2,f3,f4,f5⟩:=h.fit;obtain ⟨g1,g2,g3,g4,g5⟩:=(h.gd b hb).1;obtain ⟨k1,k2,k3⟩:=lG (by omega) f1 ho f5;have hp:=jK f1 f2;have F3:=cu f1 f2;refine ⟨h.qQ.sublist List.filter_sublist,fun x hx=>h.gd x ((List.mem_filter.1 hx).1),⟨by omega,by omega,by omega,by omega,k1⟩,fun x hx => ?_⟩;have jG:=(List.mem_filter.1 hx).1
 have F4:lV (beside a o) o x=false:=by
  have:=(List.mem_filter.1 hx).2
  simpa using this
 have hd:=h.D7 x jG;have EG:=cu (h.gd x jG).1.1 (h.gd x jG).1.2.1;rcases xX h.qQ h.gd hb jG with e|e|e
 ·subst e;rw [hi] at F4;cases F4
 ·rw [hp];rw [e2] at e;omega
 ·rw [hp];omega
theorem sU {f t:Int} (h0 : 0≤f) : ∀ (k:Nat) {l:List Block} {a o:Int},vZ f t l a o→vZ f t (dY k l a o).1 (dY k l a o).2.1 (dY k l a o).2.2∧(dY k l a o).1.length≤l.length
 | 0,l,a,o,h=>⟨h,Nat.le_refl _⟩
 | k+1,l,a,o,h=>by
   simp only [dY];split
   ·rename_i ho;split
    ·rename_i jk;have ih:=sU h0 k (h.step h0 ho jk);exact ⟨ih.1,Nat.le_trans ih.2 (List.length_filter_le _ _)⟩
    ·exact ⟨h,Nat.le_refl _⟩
   ·exact ⟨h,Nat.le_refl _⟩
theorem vz {l:List Block} {a:Int} {i:Nat} (hi:i≤l.length) (h1:∀ (k:Nat) (h:k<l.length),k<i→l[k].At<a) (h2:∀ h:i<l.length,a≤l[i].At) : bF l a=i:=by
 unfold bF;by_cases h:i<l.length
 ·exact (List.findIdx_eq h).2 ⟨by simpa using h2 h,fun j hj=>by simpa using h1 j (by omega) hj⟩
 ·have e:i=l.length:=by omega
  subst e;rw [List.findIdx_eq_length];intro x hx;obtain ⟨k,hk,rfl⟩:=List.getElem_of_mem hx;simpa using h1 k hk hk
theorem Ao (l:List Block) (a:Int) : bF l a≤l.length:=List.findIdx_le_length
theorem o6 {l:List Block} {a:Int} {k:Nat} (hk:k<bF l a) : (l[k]'(Nat.lt_of_lt_of_le hk (Ao l a))).At<a:=by
 have:=List.not_of_lt_findIdx hk
 simpa using this
theorem Ap {l:List Block} {a:Int} (h:bF l a<l.length) : a≤(l[bF l a]).At:=by
 have:=List.findIdx_getElem (w:=h)
 exact of_decide_eq_true this
def mY (l:List Block) (a o:Int) : Bool:=if h:bF l a<l.length then decide ((l[bF l a]).At=a∧(l[bF l a]).Order=o) else false
theorem v3 {f t:Int} {l:List Block} (hu:qQ l) (hb:∀ b∈l,dr f t b) (a o:Int) : l.any (lV a o)=mY l a o:=by
 unfold mY;by_cases h:bF l a<l.length
 ·rw [dif_pos h];by_cases hh:(l[bF l a]).At=a∧(l[bF l a]).Order=o
  ·rw [decide_eq_true hh];exact List.any_eq_true.2 ⟨_,List.getElem_mem h,eR.2 hh⟩
  ·rw [decide_eq_false hh,List.any_eq_false];intro x hx hi;obtain ⟨e1,e2⟩:=eR.1 hi;obtain ⟨j,hj,rfl⟩:=List.getElem_of_mem hx;have h1:=Ap h;rcases Nat.lt_trichotomy j (bF l a) with dH|dH|dH
   ·have:=o6 dH;omega
   ·subst dH;exact hh ⟨e1,e2⟩
   ·have:=gz hu hj dH
    have hp:=hb _ (List.getElem_mem h);have:=cu hp.1.1 hp.1.2.1
    omega
 ·rw [dif_neg h,List.any_eq_false];intro x hx hi;obtain ⟨e1,e2⟩:=eR.1 hi;obtain ⟨j,hj,rfl⟩:=List.getElem_of_mem hx;have:=o6 (show j<bF l a by omega)
  omega
theorem qo {f t:Int} {l:List Block} (hu:qQ l) (hb:∀ b∈l,dr f t b) {a o:Int} {i:Nat} (hi:i<l.length) (h1:l[i].At=a) (h2:l[i].Order=o) : l.eraseIdx i=ba l a o:=by
 have cQ:∀ (j:Nat) (hj:j<l.length),j≠i→lV a o l[j]=false:=fun j hj iP=>by
  cases hh:lV a o l[j] with
  | false=>rfl
  | true =>
    obtain ⟨e1,e2⟩:=eR.1 hh;exact absurd (Bj hu hb hj hi (by omega)) iP
 have e:l=l.take i++l[i]::l.drop (i+1):=by simp
 have hL:∀ x∈l.take i,lV a o x=false:=fun x hx=>by
  obtain ⟨j,hj,rfl⟩:=List.getElem_of_mem hx;simp at hj;rw [List.getElem_take];exact cQ j (by omega) (by omega)
 have hR:∀ x∈l.drop (i+1),lV a o x=false:=fun x hx=>by
  obtain ⟨j,hj,rfl⟩:=List.getElem_of_mem hx;simp at hj;rw [List.getElem_drop];exact cQ _ (by omega) (by omega)
 have hm:lV a o l[i]=true:=eR.2 ⟨h1,h2⟩
 unfold ba;rw [List.eraseIdx_eq_take_drop_succ]
 conv=>rhs;rw [e]
 rw [List.filter_append,List.filter_cons];simp only [hm,Bool.not_true,Bool.false_eq_true,if_false];rw [List.filter_eq_self.2 (fun x hx=>by simp [hL x hx]),List.filter_eq_self.2 (fun x hx=>by simp [hR x hx])]
noncomputable def ec (z:ay) (a o:Int) : Int×ay :=
 if fa z then (if dJ z.aR z.To a o then (if dZ z.ao a o then (5,⟨0,0,[],[]⟩) else
  (0,⟨z.aR,z.To,aW (dY 5 z.ao a o).1 (bF (dY 5 z.ao a o).1 (dY 5 z.ao a o).2.1) ⟨(dY 5 z.ao a o).2.1,(dY 5 z.ao a o).2.2,z.Types.getD (((dY 5 z.ao a o).2.1-z.aR) / 8).toNat 0⟩,z.Types⟩)) else (1,⟨0,0,[],[]⟩)) else (8,⟨0,0,[],[]⟩)
theorem ml {f t:Int} {z:ay} {a o:Int} (hz:cb z) (hf:dJ z.aR z.To a o) (h:dZ z.ao a o=false) : vZ z.aR z.To z.ao a o:=by
 refine ⟨oZ hz,fun b hb => ?_,hf,fun b hb => ?_⟩
 ·obtain ⟨i,hi,rfl⟩:=List.getElem_of_mem hb;exact hz.gd i hi
 ·unfold dZ at h;rw [List.any_eq_false] at h;have:=h b hb
  simp at this;omega
theorem rO {z:ay} {a o:Int} (h:fa z=false) : ec z a o=(8,.zero):=by simp [ec,h,ay.zero]
theorem rP {z:ay} {a o:Int} (h:fa z=true) (hf : ¬ dJ z.aR z.To a o) : ec z a o=(1,.zero):=by simp [ec,h,hf,ay.zero]
theorem rQ {z:ay} {a o:Int} (h:fa z=true) (hf:dJ z.aR z.To a o) (ho:dZ z.ao a o=true) : ec z a o=(5,.zero):=by simp [ec,h,hf,ho,ay.zero]
theorem oq {z:ay} {a o:Int} (h:fa z=true) (hf:dJ z.aR z.To a o) (ho:dZ z.ao a o=false) {l:List Block} {a' o':Int} (hj:dY 5 z.ao a o=(l,a',o')) {t:Int} (ht:z.Types.getD ((a'-z.aR) / 8).toNat 0=t) :
 ec z a o=(0,⟨z.aR,z.To,aW l (bF l a') ⟨a',o',t⟩,z.Types⟩):=by simp [ec,h,hf,ho,hj,← ht]
theorem mm {z:ay} (h:cb z) : z.ao.length≤256∧z.Types.length≤32:=by
 have hu:=oZ h;have mg:=h.ok;unfold fX at mg
 have key:∀ (i:Nat) (hi:i<z.ao.length),(i:Int)≤(z.ao[i]).At:=by
  intro i;induction i with
  | zero =>
    intro hi;have:=(h.gd 0 hi).1
    unfold dJ at this;omega
  | succ i ih =>
    intro hi;have h1:=ih (by omega);have h2:=gz hu hi (Nat.lt_succ_self i);have h3:=(h.gd i (by omega)).1;have:=cu h3.1 h3.2.1
    omega
 refine ⟨?_,by have:=h.len;omega⟩;rcases Nat.eq_zero_or_pos z.ao.length with h0|h0
 ·omega
 ·have h1:=key (z.ao.length-1) (by omega);have h2:=(h.gd (z.ao.length-1) (by omega)).1;unfold dJ at h2;omega
theorem kS (z:ay) (a o:Int) : (ec z a o).2.ao.length≤257∧(ec z a o).2.Types.length≤32∧((ec z a o).1=0→(ec z a o).2.aR=z.aR∧(ec z a o).2.To=z.To∧(ec z a o).2.Types=z.Types):=by
 cases hq:fa z
 ·rw [rO hq];simp [ay.zero]
 ·have hz:=dz.1 hq;have hl:=mm hz;by_cases hf:dJ z.aR z.To a o
  ·cases ho:dZ z.ao a o
   ·have hJ:=ml (f:=0) (t:=0) hz hf ho;have hj:=sU (by have:=hz.ok;unfold fX at this;omega) 5 hJ;obtain ⟨⟨l,a',o'⟩,zM⟩ : ∃ u,dY 5 z.ao a o=u:=⟨_,rfl⟩;rw [zM] at hj;rw [oq hq hf ho zM rfl];have h3:=hj.2;simp only [aW,List.length_append,List.length_take,List.length_drop,List.length_singleton] at h3 ⊢;exact ⟨by omega,hl.2,fun _=>by simp⟩
   ·rw [rQ hq hf ho];simp [ay.zero]
  ·rw [rP hq hf];simp [ay.zero]
def marksOf (p:Nat→Bool) (k:Nat) : List Bool:=(List.range k).map p
theorem sV (p:Nat→Bool) (k i:Nat) (h:i<(marksOf p k).length) : (marksOf p k)[i]=p i:=by simp [marksOf]
theorem sW (p:Nat→Bool) (k i:Nat) (b:Bool) : (marksOf p k).set i b=marksOf (fun j=>if j=i then b else p j) k:=by
 apply List.ext_getElem (by simp [marksOf]);intro j h1 h2;rw [List.getElem_set];by_cases h:i=j
 ·subst h;simp [marksOf]
 ·have : ¬ j=i:=fun e=>h e.symm
  simp [marksOf,h,this]
theorem qp {p q:Nat→Bool} {k:Nat} (h:∀ i,i<k→p i=q i) : marksOf p k=marksOf q k:=by
 apply List.ext_getElem (by simp [marksOf]);intro j h1 h2;simp only [sV];exact h j (by simpa [marksOf] using h1)
def ot (b:Block) (i:Nat) : Bool:=decide (b.At≤(i:Int)) && decide ((i:Int)<b.At+pw b.Order)
def dI (bs:List Block) (i:Nat) : Bool:=bs.any fun b=>ot b i
def jv (bs:List Block) (b:Block) : Prop:=0≤b.At∧b.At+pw b.Order≤256∧dZ bs b.At b.Order=false
instance (bs:List Block) (b:Block) : Decidable (jv bs b):=inferInstanceAs (Decidable (_∧_))
def ig (s:Option (List Block)) (b:Block) : Option (List Block):=match s with
 | none=>none
 | some bs=>if jv bs b then some (bs++[b]) else none
def aY (s:Option (List Block)) (l:List Block) : Option (List Block):=l.foldl ig s
theorem ed:∀ l,aY none l=none
 | []=>rfl
 | b::l=>ed l
theorem a8 (s:Option (List Block)) (l m:List Block) : aY s (l++m)=aY (aY s l) m:=List.foldl_append
theorem ns (s:Option (List Block)) (l:List Block) (k:Nat) (h:k<l.length) : aY s (l.take (k+1))=ig (aY s (l.take k)) l[k]:=by
 rw [List.take_succ_eq_append_getElem h,a8];rfl
theorem jw {s:Option (List Block)} {b:Block} {bs:List Block} (h:ig s b=some bs) : ∃ cs,s=some cs∧jv cs b∧bs=cs++[b]:=by
 cases s with
 | none=>simp [ig] at h
 | some cs =>
   simp only [ig] at h;split at h
   ·rename_i hf;injection h with h;exact ⟨cs,rfl,hf,h.symm⟩
   ·cases h
def D8 (p:Nat→Bool) (a n:Int) : Prop:=0≤a∧a<256∧n≤256-a ∧ ∀ i:Nat,a≤(i:Int)→(i:Int)<a+n→p i=false
def qq (p:Nat→Bool) (a n:Int) (i:Nat) : Bool:=p i || (decide (a≤(i:Int)) && decide ((i:Int)<a+n))
theorem ou {bs:List Block} (hb:∀ b∈bs,0≤b.At∧1≤pw b.Order) {b:Block} (h1 : 1≤pw b.Order) : D8 (dI bs) b.At (pw b.Order)↔jv bs b:=by
 constructor
 ·rintro ⟨h2,h3,h4,h5⟩
  refine ⟨h2,by omega,?_⟩;unfold dZ;rw [List.any_eq_false];intro x hx hh;simp only [Bool.and_eq_true,decide_eq_true_eq] at hh;obtain ⟨k1,k2⟩:=hh;obtain ⟨q1,q2⟩:=hb x hx;have h6:=h5 (max x.At b.At).toNat (by omega) (by omega);unfold dI at h6;rw [List.any_eq_false] at h6;apply h6 x hx;simp only [ot,Bool.and_eq_true,decide_eq_true_eq];omega
 ·rintro ⟨h2,h3,h4⟩
  refine ⟨h2,by omega,by omega,fun i k1 k2 => ?_⟩;unfold dI;rw [List.any_eq_false];intro x hx hh;simp only [ot,Bool.and_eq_true,decide_eq_true_eq] at hh;unfold dZ at h4;rw [List.any_eq_false] at h4;apply h4 x hx;simp only [Bool.and_eq_true,decide_eq_true_eq];omega
theorem xY (bs:List Block) (b:Block) (i:Nat) : qq (dI bs) b.At (pw b.Order) i=dI (bs++[b]) i:=by
 simp [qq,dI,ot]
def kn (s:Option (List Block)) : Prop := ∀ bs,s=some bs → ∀ x∈bs,0≤x.At∧1≤pw x.Order
theorem qR:kn (some []):=fun bs h x hx=>by cases h;simp at hx
theorem v5 {s:Option (List Block)} {b:Block} (h:kn s) (hb : 1≤pw b.Order) : kn (ig s b):=fun bs sX x hx=>by
 obtain ⟨cs,rfl,hf,rfl⟩:=jw sX;rcases List.mem_append.1 hx with hx|hx
 ·exact h cs rfl x hx
 ·simp at hx;subst hx;exact ⟨hf.1,hb⟩
theorem fH {s:Option (List Block)}:∀ {l:List Block},kn s→(∀ b∈l,1≤pw b.Order)→kn (aY s l)
 | [],h,_=>h
 | b::l,h,hb=>fH (l:=l) (v5 h (hb b (by simp))) (fun x hx=>hb x (by simp [hx]))
def bz (p:Int) : Block:=⟨p,0,0⟩
def aT (l:List aJ) : List Block:=l.flatMap fun x=>x.aw.map bz
theorem ij:pw 0=1:=by decide
def bk (a b:aJ) : Prop:=a.dq<b.dq∨(a.dq=b.dq∧(a.ay<b.ay∨(a.ay=b.ay∧a.Ty<b.Ty)))
instance (a b:aJ) : Decidable (bk a b):=inferInstanceAs (Decidable (_∨_))
def ko (dc:Int) (l:aJ) : Prop:=(0≤l.dq∧l.dq<dc)∧(0≤l.ay∧l.ay≤1)∧(0≤l.Ty∧l.Ty≤2)∧(1≤l.aw.length∧l.aw.length≤8)
instance (c:Int) (l:aJ) : Decidable (ko c l):=inferInstanceAs (Decidable (_∧_))
structure iY (dc to:Int) (ls:List aJ) : Prop where
 head:∀ (i:Nat) (h:i<ls.length),ko dc ls[i]
 next:∀ (i:Nat) (h:i+1<ls.length),bk ls[i] ls[i+1]
 fL:∀ (i:Nat) (h:i<ls.length),∀ p∈(ls[i]).aw,(p<to↔(ls[i]).ay=0)
def o7 (b:Block) : Prop:=(0≤b.Order∧b.Order≤4)∧(0≤b.At∧b.At≤255)∧b.At % pw b.Order=0∧j3 b.Ty
structure kq (l:List Block) : Prop where
 each:∀ (i:Nat) (h:i<l.length),o7 l[i]
 next:∀ (i:Nat) (h:i+1<l.length),l[i].At<l[i+1].At
structure bq (h:Heap) : Prop where
 bU:∃ z0 z1,h.aI=[z0,z1]∧cb z0∧cb z1∧z0.aR=0∧z0.To=z1.aR∧z1.To=256∧iY h.bt z0.To h.ak∧(aY (some []) (z0.ao++z1.ao++aT h.ak++h.Live)).isSome=true
 di:∃ m0 m1,h.bE=[m0,m1]∧(0≤m0∧m0≤256)∧(0≤m1∧m1≤256)
 dc : 1≤h.bt∧h.bt≤4
 live:kq h.Live
noncomputable def gQ (h:Heap) : Bool := @decide (bq h) (Classical.propDecidable _)
theorem mn {h:Heap} (a:bq h) : gQ h=true:=by unfold gQ;exact @decide_eq_true _ (Classical.propDecidable _) a
theorem c9 {h:Heap} (a : ¬ bq h) : gQ h=false:=by unfold gQ;exact @decide_eq_false _ (Classical.propDecidable _) a
theorem iu {h:Heap}:gQ h=true↔bq h:=by
 by_cases a:bq h
 ·simp [mn a,a]
 ·simp [c9 a,a]
theorem iZ (l:List aJ) (k:Nat) (h:k<l.length) : aT (l.take (k+1))=aT (l.take k)++l[k].aw.map bz:=by
 unfold aT;rw [List.take_succ_eq_append_getElem h,List.flatMap_append];simp
theorem dR {s:Option (List Block)} {l m:List Block} (h:(aY s (l++m)).isSome=true) : (aY s l).isSome=true:=by
 rw [a8] at h;cases e:aY s l with
 | none=>rw [e,ed] at h;cases h
 | some x=>rfl
def Bk (l:List Block) : Prop:=l.Pairwise ji
theorem lH {y o:Int} (h0 : 0≤o) (h4:o<4) (hm:y % pw o=0) : beside (beside y o) o=y∧(beside y o=y+pw o∨beside y o=y-pw o):=by
 unfold beside;have hp:=kh h0 (show o≤4 by omega);generalize pw o=q at *
 rcases hp with ⟨e,rfl⟩|⟨e,rfl⟩|⟨e,rfl⟩|⟨e,rfl⟩|⟨e,rfl⟩<;>(refine ⟨?_,?_⟩<;>split<;>(try split)<;>omega)
theorem xZ {z:ay} (h:cb z) : Bk z.ao:=by
 have hu:=oZ h;unfold Bk;rw [List.pairwise_iff_getElem];intro i j hi hj jN;by_cases e:j=i+1
 ·subst e;exact h.next i hj
 ·refine ⟨gz hu hj jN,fun hh => ?_⟩;obtain ⟨h1,h2,h3⟩:=hh;have g1:=gz hu (show i+1<z.ao.length by omega) (Nat.lt_succ_self i);have g2:=gz hu hj (show i+1<j by omega);have b1:=(h.gd (i+1) (by omega)).1;have b2:=(h.gd j hj).1;have p1:=cu b1.1 b1.2.1;have p2:=(lH b2.1 h1 b2.2.2.2.2).2;have p3:=cu b2.1 b2.2.1;rw [h2] at g1;omega
theorem v7 {a o:Int} (h0 : 0≤o) (h4:o<4) (hm:a % pw o=0) (t1 t2 t3:Int) (i:Nat) : ot ⟨min a (beside a o),o+1,t1⟩ i=(ot ⟨a,o,t2⟩ i || ot ⟨beside a o,o,t3⟩ i):=by
 have h1:=(lH h0 h4 hm).2;have h2:=jK h0 (show o≤4 by omega);have h3:=cu h0 (show o≤4 by omega);rw [Bool.eq_iff_iff];simp only [ot,Bool.and_eq_true,Bool.or_eq_true,decide_eq_true_eq];rw [h2];omega
theorem sY {l:List Block} {a o:Int} (h:l.any (lV a o)=true) (i:Nat) : dI l i=(dI (ba l a o) i || ot ⟨a,o,0⟩ i):=by
 rw [Bool.eq_iff_iff];simp only [Bool.or_eq_true,dI,List.any_eq_true,ba,List.mem_filter];constructor
 ·rintro ⟨x,hx,hi⟩
  by_cases e:lV a o x=true
  ·obtain ⟨e1,e2⟩:=eR.1 e;right;rw [← hi,← e1,← e2];rfl
  ·left;exact ⟨x,⟨hx,by simp [e]⟩,hi⟩
 ·rintro (⟨x,⟨hx,_⟩,hi⟩|hi)
  ·exact ⟨x,hx,hi⟩
  ·obtain ⟨b,hb,hh⟩:=List.any_eq_true.1 h;obtain ⟨e1,e2⟩:=eR.1 hh;exact ⟨b,hb,by rw [← hi,← e1,← e2];rfl⟩
structure Joined (f t:Int) (l:List Block) (a o:Int) (l':List Block) (a' o':Int) : Prop where
 ok:vZ f t l' a' o'
 nx:Bk l'
 zo:∀ i,(dI l' i || ot ⟨a',o',0⟩ i)=(dI l i || ot ⟨a,o,0⟩ i)
 fin:o'<4→l'.any (lV (beside a' o') o')=false
theorem mo {f t:Int} (h0 : 0≤f) : ∀ (k:Nat) {l:List Block} {a o:Int},4-o<k→vZ f t l a o→Bk l→Joined f t l a o (dY k l a o).1 (dY k l a o).2.1 (dY k l a o).2.2
 | 0,l,a,o,hk,h,hn=>by have:=h.fit.2.1;omega
 | k+1,l,a,o,hk,h,hn=>by
   simp only [dY];split
   ·rename_i ho;split
    ·rename_i jk;have ih:=mo h0 k (by omega) (h.step h0 ho jk) (hn.sublist List.filter_sublist);refine ⟨ih.ok,ih.nx,fun i => ?_,ih.fin⟩;rw [ih.zo i,v7 h.fit.1 ho h.fit.2.2.2.2 0 0 0,sY jk i];rw [Bool.or_assoc,Bool.or_comm (ot _ i) (ot _ i)]
    ·rename_i jk;exact ⟨h,hn,fun _=>rfl,fun _=>by simpa using jk⟩
   ·rename_i ho;exact ⟨h,hn,fun _=>rfl,fun h=>absurd h ho⟩
theorem zN {f t:Int} {l0:List Block} {a0 o0:Int} {l:List Block} {a o:Int} (h:Joined f t l0 a0 o0 l a o) (u:Int) : Bk (aW l (bF l a) ⟨a,o,u⟩):=by
 have hk:=h.ok;have hp:=cu hk.fit.1 hk.fit.2.1
 have Bl:∀ x∈l.take (bF l a),ji x ⟨a,o,u⟩:=fun x hx=>by
  obtain ⟨j,hj,rfl⟩:=List.getElem_of_mem hx;simp only [List.length_take] at hj;rw [List.getElem_take];have h1:=o6 (l:=l) (a:=a) (k:=j) (by omega);have h2:=hk.D7 _ (List.getElem_mem (show j<l.length by omega));refine ⟨by simp only;omega,fun hh => ?_⟩;obtain ⟨g1,g2,g3⟩:=hh;have:=h.fin g1
  rw [List.any_eq_false] at this;exact this _ (List.getElem_mem (show j<l.length by omega)) (eR.2 ⟨g3,g2⟩)
 have CQ:∀ y∈l.drop (bF l a),ji ⟨a,o,u⟩ y:=fun y hy=>by
  obtain ⟨j,hj,rfl⟩:=List.getElem_of_mem hy;simp only [List.length_drop] at hj;rw [List.getElem_drop];have dH:bF l a<l.length:=by omega
  have h1:=Ap dH;have hm:=List.getElem_mem (show bF l a+j<l.length by omega);have h2:=hk.D7 _ hm;have hb:=(hk.gd _ hm).1;have IY:=cu hb.1 hb.2.1
  have h3:(l[bF l a]).At≤(l[bF l a+j]'(by omega)).At:=by
   rcases Nat.eq_zero_or_pos j with e|e
   ·subst e;simp
   ·have:=gz hk.qQ (show bF l a+j<l.length by omega) (show bF l a<bF l a+j by omega)
    have Cn:=(hk.gd _ (List.getElem_mem dH)).1;have:=cu Cn.1 Cn.2.1
    omega
  refine ⟨by simp only;omega,fun hh => ?_⟩;obtain ⟨g1,g2,g3⟩:=hh;simp only at g2 g3;have e:=(lH hb.1 g1 hb.2.2.2.2).1;rw [← g3,← g2] at e;have:=h.fin (by omega)
  rw [List.any_eq_false] at this;exact this _ hm (eR.2 ⟨e.symm,g2.symm⟩)
 have gH:(l.take (bF l a)++l.drop (bF l a)).Pairwise ji:=by rw [List.take_append_drop];exact h.nx
 rw [List.pairwise_append] at gH;unfold Bk aW;rw [List.append_assoc,List.pairwise_append];refine ⟨gH.1,?_,fun x hx y hy => ?_⟩
 ·rw [List.singleton_append,List.pairwise_cons];exact ⟨CQ,gH.2.1⟩
 ·rw [List.singleton_append,List.mem_cons] at hy;rcases hy with rfl|hy
  ·exact Bl x hx
  ·exact gH.2.2 x hx y hy
theorem v8 (l:List Block) (i:Nat) (b:Block) (k:Nat) : dI (aW l i b) k=(dI l k || ot b k):=by
 have:dI l k=(dI (l.take i) k || dI (l.drop i) k):=by
  unfold dI;rw [← List.any_append,List.take_append_drop]
 rw [this];simp only [dI,aW,List.any_append,List.any_cons,List.any_nil,Bool.or_false];cases (l.take i).any fun b=>ot b k<;>cases ot b k<;>simp
theorem v9 {l:List Block} {i:Nat} {b x:Block} (h:x∈aW l i b) : x=b∨x∈l:=by
 unfold aW at h;rw [List.mem_append,List.mem_append] at h;rcases h with (h|h)|h
 ·exact .inr (List.mem_of_mem_take h)
 ·exact .inl (by simpa using h)
 ·exact .inr (List.mem_of_mem_drop h)
structure Kept (z z':ay) (a o:Int) : Prop where
 may:cb z'
 from_:z'.aR=z.aR
 jF:z'.To=z.To
 types:z'.Types=z.Types
 zo:∀ i,dI z'.ao i=(dI z.ao i || ot ⟨a,o,0⟩ i)
theorem o8 {z:ay} {a o:Int} (hz:cb z) (hf:dJ z.aR z.To a o) (ho:dZ z.ao a o=false) : (ec z a o).1=0∧Kept z (ec z a o).2 a o:=by
 have h0 : 0≤z.aR:=hz.ok.1
 have hJ:=ml (f:=0) (t:=0) hz hf ho;have hj:=mo h0 5 (by have:=hf.1;omega) hJ (xZ hz);obtain ⟨⟨l,a',o'⟩,hq⟩ : ∃ u,dY 5 z.ao a o=u:=⟨_,rfl⟩;rw [hq] at hj;simp only at hj;obtain ⟨t,ht⟩ : ∃ t,z.Types.getD ((a'-z.aR) / 8).toNat 0=t:=⟨_,rfl⟩;rw [oq (me hz) hf ho hq ht]
 have EH:j3 t:=by
  subst ht;rw [List.getD_eq_getElem?_getD];cases e:z.Types[((a'-z.aR) / 8).toNat]? with
  | none=>exact ⟨by decide,by decide⟩
  | some v =>
    obtain ⟨h,rfl⟩:=List.getElem?_eq_some_iff.1 e;exact hz.types _ (List.getElem_mem h)
 have hn:=zN hj t;refine ⟨rfl,⟨hz.ok,hz.len,hz.types,fun i hi => ?_,fun i hi => ?_⟩,rfl,rfl,rfl,fun i => ?_⟩
 ·rcases v9 (List.getElem_mem hi) with e|e
  ·simp only at e ⊢;rw [e];exact ⟨hj.ok.fit,EH⟩
  ·exact hj.ok.gd _ e
 ·unfold Bk at hn;rw [List.pairwise_iff_getElem] at hn;exact hn i (i+1) (by simp only at hi;omega) hi (Nat.lt_succ_self i)
 ·rw [v8,← hj.zo i];rfl
noncomputable def dS (s:ay×ay) (b:Block) : ay×ay:=if b.At<s.1.To then ((ec s.1 b.At b.Order).2,s.2) else (s.1,(ec s.2 b.At b.Order).2)
noncomputable def cx (s:ay×ay) (l:List Block) : ay×ay:=l.foldl dS s
theorem iC (s:ay×ay) (l m:List Block) : cx s (l++m)=cx (cx s l) m:=List.foldl_append
structure mZ (s:ay×ay) (bs:List Block) : Prop where
 nW:cb s.1
 nX:cb s.2
 o9:s.1.aR=0
 xw:s.1.To=s.2.aR
 Bm:s.2.To=256
 zo:∀ i,(dI s.1.ao i || dI s.2.ao i)=dI bs i
theorem kr (l m:List Block) (i:Nat) : dI (l++m) i=(dI l i || dI m i):=by simp [dI]
theorem iv {z:ay} (h:cb z) : ∀ b∈z.ao,0≤b.At∧1≤pw b.Order:=fun b hb=>by
 obtain ⟨i,hi,rfl⟩:=List.getElem_of_mem hb;have h1:=(h.gd i hi).1;have h2:=h.ok.1;have:=cu h1.1 h1.2.1
 obtain ⟨_,_,h3,_,_⟩:=h1;omega
structure jZ (bs:List Block) (b:Block) : Prop where
 ord : 0≤b.Order∧b.Order≤4
 at_ : 0≤b.At∧b.At<256
 al:b.At % pw b.Order=0
 fits:jv bs b
 kZ:∀ x∈bs,0≤x.At∧1≤pw x.Order
theorem mZ.free {s:ay×ay} {bs:List Block} (h:mZ s bs) {b:Block} (hb:jZ bs b) : dZ s.1.ao b.At b.Order=false∧dZ s.2.ao b.At b.Order=false:=by
 have hp:=cu hb.ord.1 hb.ord.2;have hm:=(ou hb.kZ hp.1).2 hb.fits;obtain ⟨m1,m2,m3,m4⟩:=hm
 have key:∀ l:List Block,(∀ x∈l,0≤x.At∧1≤pw x.Order)→(∀ i,dI l i=true→dI bs i=true)→dZ l b.At b.Order=false:=fun l hl hc =>
  ((ou hl hp.1).1 ⟨m1,m2,m3,fun i h1 h2=>by
   cases e:dI l i with
   | false=>rfl
   | true=>have:=hc i e;rw [m4 i h1 h2] at this;cases this⟩).2.2
 exact ⟨key _ (iv h.nW) fun i hi=>by rw [← h.zo i,hi];rfl,key _ (iv h.nX) fun i hi=>by rw [← h.zo i,hi];simp⟩
theorem mZ.low {s:ay×ay} {bs:List Block} (h:mZ s bs) {b:Block} (hb:jZ bs b) (hl:b.At<s.1.To) : dJ s.1.aR s.1.To b.At b.Order:=⟨hb.ord.1,hb.ord.2,by rw [h.o9];exact hb.at_.1,hl,hb.al⟩
theorem mZ.EI {s:ay×ay} {bs:List Block} (h:mZ s bs) {b:Block} (hb:jZ bs b) (hl : ¬ b.At<s.1.To) : dJ s.2.aR s.2.To b.At b.Order:=⟨hb.ord.1,hb.ord.2,by rw [← h.xw];omega,by rw [h.Bm];exact hb.at_.2,hb.al⟩
theorem pa (b:Block) (i:Nat) : dI [b] i=ot b i:=by simp [dI]
theorem mZ.back {s:ay×ay} {bs:List Block} (h:mZ s bs) {b:Block} (hb:jZ bs b) : mZ (dS s b) (bs++[b])∧(dS s b).1.To=s.1.To:=by
 obtain ⟨o0,o1⟩:=h.free hb;unfold dS;by_cases hl:b.At<s.1.To
 ·rw [if_pos hl];obtain ⟨_,k⟩:=o8 h.nW (h.low hb hl) o0;refine ⟨⟨k.may,h.nX,by rw [← h.o9];exact k.from_,by rw [← h.xw];exact k.jF,h.Bm,fun i => ?_⟩,k.jF⟩;rw [kr,pa,← h.zo i];simp only;rw [k.zo i];have:ot ⟨b.At,b.Order,0⟩ i=ot b i:=rfl
  rw [this];cases dI s.1.ao i<;>cases dI s.2.ao i<;>cases ot b i<;>rfl
 ·rw [if_neg hl];obtain ⟨_,k⟩:=o8 h.nX (h.EI hb hl) o1;refine ⟨⟨h.nW,k.may,h.o9,by simp only;rw [k.from_];exact h.xw,by simp only;rw [k.jF];exact h.Bm,fun i => ?_⟩,rfl⟩;rw [kr,pa,← h.zo i];simp only;rw [k.zo i];have:ot ⟨b.At,b.Order,0⟩ i=ot b i:=rfl
  rw [this,Bool.or_assoc]
theorem ja:∀ {l s t:List Block},aY (some s) l=some t→t=s++l
 | [],s,t,h=>by simp [aY] at h;simp [h]
 | b::l,s,t,h=>by
   have e:aY (some s) (b::l)=aY (ig (some s) b) l:=rfl
   rw [e] at h;cases e2:ig (some s) b with
   | none=>rw [e2,ed] at h;cases h
   | some u =>
     rw [e2] at h;obtain ⟨cs,fK,_,rfl⟩:=jw e2;cases fK
     rw [ja h];simp
theorem mq {l m:List Block} {b:Block} (h:(aY (some []) (l++b::m)).isSome=true) : jv l b:=by
 have h1:(aY (some []) (l++[b])).isSome=true:=dR (m:=m) (by simpa using h)
 rw [a8] at h1;cases e:aY (some []) l with
 | none=>rw [e,ed] at h1;cases h1
 | some t =>
   have:=ja e
   rw [List.nil_append] at this;subst this;rw [e] at h1;cases e2:aY (some t) [b] with
   | none=>rw [e2] at h1;cases h1
   | some u =>
     have:ig (some t) b=some u:=e2
     obtain ⟨cs,fK,hf,_⟩:=jw this;cases fK
     exact hf
theorem sZ {l:List Block} (h:(aY (some []) l).isSome=true) (hb:∀ b∈l,1≤pw b.Order) : ∀ x∈l,0≤x.At∧1≤pw x.Order:=by
 have hg:=fH (l:=l) qR hb;obtain ⟨t,ht⟩:=Option.isSome_iff_exists.1 h;have e:=ja ht;rw [List.nil_append] at e;subst e;exact hg _ ht
structure nt (h:Heap) (z0 z1:ay) : Prop where
 bU:h.aI=[z0,z1]
 nW:cb z0
 nX:cb z1
 o9:z0.aR=0
 xw:z0.To=z1.aR
 Bm:z1.To=256
 all:(aY (some []) (z0.ao++z1.ao++aT h.ak)).isSome=true
theorem pb {l:List aJ}:∀ b∈aT l,b.Order=0:=fun b hb=>by
 unfold aT at hb;obtain ⟨x,_,hx⟩:=List.mem_flatMap.1 hb;obtain ⟨p,_,rfl⟩:=List.mem_map.1 hx
 rfl
theorem nt.start {h:Heap} {z0 z1:ay} (d:nt h z0 z1) : mZ (z0,z1) (z0.ao++z1.ao):=⟨d.nW,d.nX,d.o9,d.xw,d.Bm,fun i=>by rw [kr]⟩
theorem nt.pw {h:Heap} {z0 z1:ay} (d:nt h z0 z1) : ∀ b∈z0.ao++z1.ao++aT h.ak,1≤pw b.Order:=fun b hb=>by
 rcases List.mem_append.1 hb with hb|hb
 ·rcases List.mem_append.1 hb with hb|hb
  ·exact (iv d.nW b hb).2
  ·exact (iv d.nX b hb).2
 ·rw [pb b hb,ij];omega
theorem nt.next {h:Heap} {z0 z1:ay} (d:nt h z0 z1) {k:Nat} (hk:k<(aT h.ak).length) : jZ (z0.ao++z1.ao++(aT h.ak).take k) (aT h.ak)[k]:=by
 have gH:=d.all;have e:z0.ao++z1.ao++aT h.ak=(z0.ao++z1.ao++(aT h.ak).take k)++(aT h.ak)[k]::(aT h.ak).drop (k+1):=by simp
 rw [e] at gH;have hf:=mq gH;have ho:=pb _ (List.getElem_mem hk)
 have hg:=sZ (dR gH) (fun b hb=>d.pw b (by
  rcases List.mem_append.1 hb with hb|hb
  ·exact List.mem_append_left _ hb
  ·exact List.mem_append_right _ (List.mem_of_mem_take hb)))
 have hp:=ij;refine ⟨by rw [ho];decide,⟨hf.1,?_⟩,by rw [ho,hp];omega,hf,hg⟩;have:=hf.2.1
 rw [ho,hp] at this;omega
def lI (l:List aJ) (i:Nat) : Nat:=(aT (l.take i)).length
theorem x8 {l:List aJ} {i:Nat} (hi:i<l.length) : lI l (i+1)=lI l i+l[i].aw.length:=by
 unfold lI;rw [iZ _ _ hi];simp
theorem uF (l:List aJ) (i:Nat) : aT l=aT (l.take i)++aT (l.drop i):=by
 unfold aT;rw [← List.flatMap_append,List.take_append_drop]
theorem vA {l:List aJ} {i j:Nat} (hi:i<l.length) (hj:j<l[i].aw.length) : ∃ h:lI l i+j<(aT l).length,(aT l)[lI l i+j]=bz (l[i].aw[j]):=by
 have e:=uF l i;have e2:l.drop i=l[i]::l.drop (i+1):=by simp
 have e3:aT (l.drop i)=l[i].aw.map bz++aT (l.drop (i+1)):=by rw [e2];rfl
 have dH:lI l i+j<(aT l).length:=by rw [e,e3];simp [lI];omega
 refine ⟨dH,?_⟩
 have:(aT l)[lI l i+j]?=some (bz (l[i].aw[j])):=by
  rw [e,List.getElem?_append_right (by unfold lI;omega)];have:lI l i+j-(aT (l.take i)).length=j:=by unfold lI;omega
  rw [this,e3,List.getElem?_append_left (by simpa using hj)];simp [hj]
 rw [List.getElem?_eq_getElem dH] at this;exact Option.some.inj this
theorem zO (l:List aJ) : lI l l.length=(aT l).length:=by simp [lI]
def du (a b:aJ) : Prop:=a.dq=b.dq∧a.ay=b.ay∧a.Ty=b.Ty
instance (a b:aJ) : Decidable (du a b):=inferInstanceAs (Decidable (_∧_))
def zp (L:List aJ) : Prop:=L.Pairwise bk
theorem s6 {a b c:aJ} (h1:bk a b) (h2:bk b c) : bk a c:=by unfold bk at *;omega
theorem qS (a b:aJ) : bk a b∨du a b∨bk b a:=by unfold bk du;omega
theorem jx {a b:aJ} (h:bk a b) : ¬ du a b ∧ ¬ du b a ∧ ¬ bk b a:=by unfold bk du at *;omega
theorem rR {c t:Int} {L:List aJ} (h:iY c t L) : zp L:=by
 have key:∀ (d i:Nat) (hj:i+d+1<L.length),bk (L[i]'(by omega)) L[i+d+1]:=by
  intro d;induction d with
  | zero=>intro i hj;exact h.next i hj
  | succ d ih=>intro i hj;exact s6 (ih i (by omega)) (h.next (i+d+1) (by omega))
 unfold zp;rw [List.pairwise_iff_getElem];intro i j hi hj jN;have:=key (j-i-1) i (by omega)
 have e:i+(j-i-1)+1=j:=by omega
 simp only [e] at this;exact this
theorem zp.get {L:List aJ} (h:zp L) {i j:Nat} (hj:j<L.length) (jN:i<j) : bk (L[i]'(Nat.lt_trans jN hj)) L[j]:=by
 unfold zp at h;rw [List.pairwise_iff_getElem] at h;exact h i j (by omega) hj jN
def aQ (L:List aJ) (x:aJ) : Nat:=L.findIdx fun l => !decide (bk l x)
theorem ev (L:List aJ) (x:aJ) : aQ L x≤L.length:=List.findIdx_le_length
theorem pc {L:List aJ} {x:aJ} {k:Nat} (hk:k<aQ L x) : bk (L[k]'(Nat.lt_of_lt_of_le hk (ev L x))) x:=by
 have:=List.not_of_lt_findIdx hk
 simpa using this
theorem vB {L:List aJ} {x:aJ} (h:aQ L x<L.length) : ¬ bk (L[aQ L x]) x:=by
 have:=List.findIdx_getElem (w:=h)
 exact of_decide_eq_false (by rw [Bool.not_eq_true'] at this;exact this)
theorem kT {L:List aJ} {x:aJ} {i:Nat} (hi:i≤L.length) (h1:∀ (k:Nat) (h:k<L.length),k<i→bk L[k] x) (h2:∀ h:i<L.length,¬ bk L[i] x) : aQ L x=i:=by
 unfold aQ;by_cases h:i<L.length
 ·exact (List.findIdx_eq h).2 ⟨by simpa using h2 h,fun j hj=>by simpa using h1 j (by omega) hj⟩
 ·have e:i=L.length:=by omega
  subst e;rw [List.findIdx_eq_length];intro y hy;obtain ⟨k,hk,rfl⟩:=List.getElem_of_mem hy;simpa using h1 k hk hk
def ck (L:List aJ) (x:aJ) : Bool:=if h:aQ L x<L.length then decide (du L[aQ L x] x) else false
theorem ik {L:List aJ} {x:aJ} (h:ck L x=true) : ∃ hk:aQ L x<L.length,du L[aQ L x] x:=by
 unfold ck at h;split at h
 ·rename_i hk;exact ⟨hk,of_decide_eq_true h⟩
 ·cases h
theorem zP {L:List aJ} {x:aJ} (h:ck L x=false) (hk:aQ L x<L.length) : bk x L[aQ L x]:=by
 unfold ck at h;rw [dif_pos hk] at h;have h1:=of_decide_eq_false h;have h2:=vB hk;rcases qS L[aQ L x] x with e|e|e
 ·exact absurd e h2
 ·exact absurd e h1
 ·exact e
theorem Bn {L:List aJ} (hs:zp L) {x:aJ} {k:Nat} (hk:k<L.length) (h:du L[k] x) : aQ L x=k∧ck L x=true:=by
 have e:aQ L x=k:=kT (by omega) (fun j hj iB=>by have:=hs.get hk iB;unfold bk du at *;omega) (fun _=>by unfold bk du at *;omega)
 refine ⟨e,?_⟩;unfold ck;simp only [e,dif_pos hk];exact decide_eq_true h
theorem x9 {L:List aJ} {x:aJ} (h:∀ (k:Nat) (hk:k<L.length),¬ du L[k] x) : ck L x=false:=by
 cases e:ck L x with
 | false=>rfl
 | true=>obtain ⟨hk,h1⟩:=ik e;exact absurd h1 (h _ hk)
theorem mr {L:List aJ} {x y:aJ} (h:du x y) : aQ L x=aQ L y∧ck L x=ck L y:=by
 have e:(fun l => !decide (bk l x))=(fun l:aJ => !decide (bk l y)):=by
  funext l
  have:bk l x↔bk l y:=by unfold bk du at *;omega
  simp [this]
 have e1:aQ L x=aQ L y:=by unfold aQ;rw [e]
 refine ⟨e1,?_⟩;unfold ck;simp only [e1];split
 ·have:du L[aQ L y] x↔du L[aQ L y] y:=by unfold du at *;omega
  simp [this]
 ·rfl
def eW (L:List aJ) (x:aJ) : List aJ:=if ck L x then L.set (aQ L x) x else aW L (aQ L x) x
theorem pd {L:List aJ} {x:aJ} (h:ck L x=true) : eW L x=L.set (aQ L x) x:=by rw [eW,if_pos h]
theorem m6 {L:List aJ} {x:aJ} (h:ck L x=false) : eW L x=aW L (aQ L x) x:=by rw [eW,if_neg (by simp [h])]
def cm (L:List aJ) (x:aJ) : List Int:=if ck L x then (L.getD (aQ L x) x).aw else []
theorem iw {L:List aJ} {x:aJ} (h:ck L x=true) (hk:aQ L x<L.length) : cm L x=L[aQ L x].aw:=by
 rw [cm,if_pos h,List.getD_eq_getElem?_getD,List.getElem?_eq_getElem hk];rfl
theorem iy {L:List aJ} {x:aJ} (h:ck L x=false) : cm L x=[]:=by rw [cm,if_neg (by simp [h])]
theorem ew {α:Type} (l:List α) {i:Nat} (h:i≤l.length) (x : α) : (aW l i x).length=l.length+1:=by simp [aW];omega
theorem pe {α:Type} {l:List α} {i:Nat} (h:i≤l.length) {x : α} {k:Nat} (hk:k<i) : (aW l i x)[k]?=l[k]?:=by
 unfold aW;rw [List.append_assoc,List.getElem?_append_left (by simp;omega),List.getElem?_take_of_lt hk]
theorem jy {α:Type} {l:List α} {i:Nat} (h:i≤l.length) {x : α}:(aW l i x)[i]?=some x:=by
 unfold aW;rw [List.append_assoc,List.getElem?_append_right (by simp;omega)];have:i-(l.take i).length=0:=by simp;omega
 rw [this];rfl
theorem ms {α:Type} {l:List α} {i:Nat} (h:i≤l.length) {x : α} {k:Nat} (hk:i≤k) : (aW l i x)[k+1]?=l[k]?:=by
 unfold aW;rw [List.append_assoc,List.getElem?_append_right (by simp;omega)];have:k+1-(l.take i).length=(k-i)+1:=by simp;omega
 rw [this,List.singleton_append,List.getElem?_cons_succ,List.getElem?_drop];congr 1
 omega
theorem m7 {α:Type} {l:List α} {i:Nat} (h:i≤l.length) (x y : α) : (aW l i x).set i y=aW l i y:=by
 unfold aW;rw [List.append_assoc,List.append_assoc,List.set_append_right _ _ (by simp;omega)];have:i-(l.take i).length=0:=by simp;omega
 rw [this];rfl
theorem s7 {L:List aJ} {x:aJ}:(eW L x)[aQ L x]?=some x:=by
 cases h:ck L x
 ·rw [m6 h];exact jy (ev L x)
 ·obtain ⟨hk,_⟩:=ik h;rw [pd h,List.getElem?_set_self hk]
theorem ya {L:List aJ} {x:aJ}:aQ (eW L x) x=aQ L x∧ck (eW L x) x=true:=by
 have hg:=s7 (L:=L) (x:=x);obtain ⟨hk,hx⟩:=List.getElem?_eq_some_iff.1 hg
 have e:aQ (eW L x) x=aQ L x:=by
  refine kT (by omega) (fun j hj iB => ?_) (fun _ => ?_)
  ·have h0:=pc (L:=L) (x:=x) iB
   have e1:(eW L x)[j]?=L[j]?:=by
    cases h:ck L x
    ·rw [m6 h];exact pe (ev L x) iB
    ·rw [pd h,List.getElem?_set_ne (by omega)]
   rw [List.getElem?_eq_getElem hj,List.getElem?_eq_getElem (Nat.lt_of_lt_of_le iB (ev L x))] at e1;injection e1 with e1
   rw [e1];exact h0
  ·rw [hx];unfold bk;omega
 refine ⟨e,?_⟩;unfold ck;simp only [e,dif_pos hk,hx];exact decide_eq_true ⟨rfl,rfl,rfl⟩
theorem yb {L:List aJ} {x y:aJ} (h:du x y) : (eW L x).set (aQ L x) y=eW L y:=by
 obtain ⟨e1,e2⟩:=mr (L:=L) h;cases hh:ck L x
 ·rw [m6 hh,m6 (by rw [← e2];exact hh),m7 (ev L x),e1]
 ·rw [pd hh,pd (by rw [← e2];exact hh),List.set_set,e1]
def bD (L:List aJ) (x:aJ) (k:Nat) : List aJ:=if k≤aQ L x then L.take k else if ck L x then (L.set (aQ L x) x).take k else (aW L (aQ L x) x).take (k+1)
theorem ks {α:Type} {l:List α} {k:Nat} {x : α} (h:l[k]?=some x) : l.take (k+1)=l.take k++[x]:=by
 obtain ⟨hk,rfl⟩:=List.getElem?_eq_some_iff.1 h;exact List.take_succ_eq_append_getElem hk
theorem uG {L:List aJ} {x:aJ} {k:Nat} (hk:k<aQ L x) : bD L x (k+1)=bD L x k++[L[k]'(Nat.lt_of_lt_of_le hk (ev L x))]:=by
 have:=ev L x
 rw [bD,if_pos (by omega),bD,if_pos (by omega)];exact List.take_succ_eq_append_getElem (by omega)
theorem s8 {L:List aJ} {x:aJ} {k:Nat} (hk:k=aQ L x) (hh:ck L x=true) : bD L x (k+1)=bD L x k++[x]:=by
 obtain ⟨hl,_⟩:=ik hh;subst hk;rw [bD,if_neg (by omega),if_pos hh,bD,if_pos (Nat.le_refl _),ks (x:=x) (List.getElem?_set_self hl),List.take_set_of_le (Nat.le_refl _)]
theorem we {L:List aJ} {x:aJ} {k:Nat} (hk:k=aQ L x) (hl:k<L.length) (hh:ck L x=false) : bD L x (k+1)=bD L x k++[x]++[L[k]]:=by
 subst hk;have hle:=ev L x;rw [bD,if_neg (by omega),if_neg (by simp [hh]),bD,if_pos (Nat.le_refl _),ks (x:=L[aQ L x]) (by rw [ms hle (Nat.le_refl _),List.getElem?_eq_getElem hl]),ks (jy hle)];congr 2
 unfold aW;rw [List.append_assoc,List.take_append_of_le_length (by simp;omega),List.take_take,Nat.min_self]
theorem s9 {L:List aJ} {x:aJ} {k:Nat} (hk:aQ L x<k) (hl:k<L.length) : bD L x (k+1)=bD L x k++[L[k]]:=by
 have hle:=ev L x;rw [bD,if_neg (show ¬ k+1≤aQ L x by omega),bD,if_neg (show ¬ k≤aQ L x by omega)];cases hh:ck L x
 ·simp only [Bool.false_eq_true,if_false];exact ks (by rw [ms hle (by omega),List.getElem?_eq_getElem hl])
 ·simp only [if_true];exact ks (by rw [List.getElem?_set_ne (by omega),List.getElem?_eq_getElem hl])
theorem ta {L:List aJ} {x:aJ} (hk:aQ L x<L.length) : bD L x L.length=eW L x:=by
 rw [bD,if_neg (by omega),eW];split
 ·exact List.take_of_length_le (by simp)
 ·exact List.take_of_length_le (by rw [ew _ (ev L x)];omega)
theorem tc {L:List aJ} {x:aJ} (hk : ¬ aQ L x<L.length) : bD L x L.length++[x]=eW L x:=by
 have hle:=ev L x;have e:aQ L x=L.length:=by omega
 have hf:ck L x=false:=by unfold ck;rw [dif_neg hk]
 rw [bD,if_pos (by omega),m6 hf,e,aW];simp
end Go.Proofs.YtbidkghlpijecaaGreatDoor
