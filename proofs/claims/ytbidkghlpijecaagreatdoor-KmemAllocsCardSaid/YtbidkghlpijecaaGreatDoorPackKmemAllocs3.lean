/-
  Texts of the claim KmemAllocs, part 3: what its theorem leans on.
-/
import Derived.Test.YtbidkghlpijecaaGreatDoorPackKmemAllocs2
import Derived.Test.YtbidkghlpijecaaGreatDoorPackKmemAllocs1
set_option linter.unusedVariables false
set_option linter.unusedSimpArgs false
namespace Go.Proofs.YtbidkghlpijecaaGreatDoor
structure Block where
 At:Int
 Order:Int
 Ty:Int
 deriving DecidableEq
structure ar where
 aX:Int
 To:Int
 ag:List Block
 Types:List Int
 deriving DecidableEq
structure aC where
 dO:Int
 ar:Int
 Ty:Int
 ax:List Int
structure Heap where
 aQ:List ar
 bJ:List Int
 bY:Int
 av:List aC
 Live:List Block
structure Slab where
 At:Int
 ag:Int
 fT:Int
 deriving DecidableEq
open Go.RowKit
theorem bP (x lo hi:Int) (w:World) : bo Tryz.prog 48 [.int .i64 x,.int .i64 lo,.int .i64 hi] w fun v _=>v = .bool (decide (lo≤x∧x≤hi)):=by
 refine aI Tryz.func48 rfl Tryz.ntmps48 rfl ?_;repeat' (first|refine Wz ?_|refine SW.cV rfl rfl rfl (fun h => ?_) (fun h => ?_))
 all_goals refine ae.aO rfl rfl ⟨_,rfl,Ext.refl _,?_⟩
 all_goals simp [*]
theorem iA (A B:Option Addr) (n m c d:Nat) (xs ys:List Int) (w:World) (hx:Sl w 1 bd A n xs) (hy:Sl w 1 bd B m ys) (hn:n≤2305843009213693952) :
 bo Tryz.prog 53 [.slice A n c,.slice B m d] w fun v _=>v = .bool (decide (xs=ys)):=by
 refine aI Tryz.func53 rfl Tryz.ntmps53 rfl ?_;have hl:=hx.len;have yx:=hy.len;have hA:=hx.base;have hB:=hy.base;have hw:=Ext.refl w;repeat' (first|refine Wz ?_|(refine CW.jH rfl (fun h => ?_) (fun h => ?_)))
 ·refine ae.aO rfl rfl ⟨_,rfl,hw,?_⟩;have:xs≠ys:=fun e=>by subst e;omega
  simp [this]
 ·have ui:n=m:=by omega
  refine CW.loop (fun k:Nat=>[(0,.slice A n c),(1,.slice B m d),(5,.int .i64 (k:Int))])
   (fun k w'=>k≤n∧Ext w w' ∧ ∀ j (h1:j<xs.length) (h2:j<ys.length),j<k→xs[j]=ys[j]) (fun k=>n-k) 0 ⟨rfl,rfl,rfl,trivial⟩ ⟨by omega,hw,fun j _ _ h=>by omega⟩ ?_
  clear hw;rintro k w' ⟨hk,hw,Ey⟩
  by_cases cb:k<n
  ·repeat' (first|refine Wz ?_|(first|refine CW.jH rfl (fun h => ?_) (fun h => ?_)|(apply CW.aP mixed;(· kernel_rfl);rotate_left;intro w1 ab;replace hw:=Ext.trans hw ab;clear ab;rotate_right))|refine SW.st (ap hw rfl (hx.one cb rfl)) rfl ?_|refine SW.st (ap hw rfl (hy.one (ui ▸ cb) rfl)) rfl ?_|exact SW.bx rfl)
   ·refine ae.aO rfl rfl ⟨_,rfl,hw,?_⟩;have:xs≠ys:=fun e=>by subst e;exact h rfl
    simp [this]
   ·refine ae.again (k+1) ⟨rfl,rfl,rfl,trivial⟩ (by omega) ⟨by omega,hw,fun j h1 h2 hj => ?_⟩;by_cases lg:j=k
    ·subst lg;assumption
    ·exact Ey j h1 h2 (by omega)
  ·refine Wz ?_;refine ae.aO rfl rfl ⟨_,rfl,hw,?_⟩;have:xs=ys:=List.ext_getElem (by omega) fun j h1 h2=>Ey j h1 h2 (by omega)
   simp [this]
open Go.RowKit
theorem sq (A:Option Addr) (n c:Nat) (x k:Int) (w:World) (hn:n≤2305843009213693952) : bo Tryz.prog 161 [.slice A n c,.int .i64 x,.int .i64 k] w fun v _=>v = .bool (decide (0≤x∧0≤k∧k≤n∧x+k≤n)):=by
 refine aI Tryz.func161 rfl Tryz.ntmps161 rfl ?_;repeat' (first|refine Wz ?_|refine SW.cV rfl rfl rfl (fun h => ?_) (fun h => ?_))
 all_goals refine ae.aO rfl rfl ⟨_,rfl,Ext.refl _,?_⟩
 all_goals congr 1
 all_goals symm
 all_goals first|(refine decide_eq_true ?_;omega)|(refine decide_eq_false ?_;omega)|(rw [decide_eq_decide];omega)
theorem lj (A:Option Addr) (n c:Nat) (x k:Int) (w:World) (hn:n≤2305843009213693952) : bo Tryz.prog 249 [.slice A n c,.int .i64 x,.int .i64 k] w fun v _=>v = .bool (decide (0≤x∧0≤k∧k≤n∧x+k≤n)):=by
 refine aI Tryz.func249 rfl Tryz.ntmps249 rfl ?_;have hw:=Ext.refl w;repeat' (first|refine Wz ?_|refine SW.cV rfl rfl rfl (fun h => ?_) (fun h => ?_)|(refine SW.call rfl rfl (bP _ _ _ _) ?_;intro v w1 ab hv;subst hv;replace hw:=Ext.trans hw ab;clear ab))
 all_goals refine ae.aO rfl rfl ⟨_,rfl,hw,?_⟩
 all_goals congr 1
 all_goals symm
 all_goals first|(refine decide_eq_true ?_;omega)|(refine decide_eq_false ?_;omega)|(rw [decide_eq_decide];omega)
def pW (w:World) (e sz:Nat) {α:Type} (enc : α → List Value) (n:Nat) (l:List α) : Value→World→Prop:=fun v w' => ∃ A c,v = .slice A n c∧Own w' w.heap.size e sz enc A n c l
theorem gf (A:Option Addr) (n c:Nat) (l:List Int) (w:World) (hl:Sl w 1 bd A n l) (hn:n*8≤140737488355328) : bo Tryz.prog 39 [.slice A n c] w (pW w 3 1 bd n l):=by
 refine aI Tryz.func39 rfl Tryz.ntmps39 rfl ?_;have hw:=Ext.refl w;have hA:=hl.base;refine Wz ?_
 refine CW.loop (fun s:Nat×Option Addr×Nat=>[(0,.slice A n c),(3,.slice s.2.1 s.1 s.2.2),(4,.int .i64 (s.1:Int))])
  (fun s w'=>s.1≤n∧Ext w w'∧Own w' w.heap.size 3 1 bd s.2.1 s.1 s.2.2 (l.take s.1)) (fun s=>n-s.1) (0,none,0) ⟨rfl,rfl,rfl,trivial⟩ ⟨by omega,hw,by simpa using Own.eJ _ _ _ _ _ _⟩ ?_
 clear hw;rintro ⟨k,A1,c1⟩ w' ⟨hk,hw,hO⟩
 simp only at hk hO ⊢;by_cases cb:k<n
 ·repeat' (first|refine Wz ?_|refine SW.st (ap hw rfl (hl.one cb rfl)) rfl ?_)
  refine SW.bK rfl rfl rfl rfl rfl fun b w1 ab hb hB => ?_
  replace hw:=Ext.trans hw ab;replace hO:=hO.ext ab;refine SW.append hO (aJ.mo (enc:=bd) hB) hw.size rfl rfl rfl (by omega) (by omega) fun A2 c2 w2 fU hg => ?_
  replace hw:=aF hw hg (Nat.le_refl _) hO.aM;refine Wz ?_;refine ae.again (k+1,A2,c2) ⟨rfl,rfl,rfl,trivial⟩ (by simp only;omega) ⟨by simp only;omega,hw,?_⟩;rw [List.take_succ_eq_append_getElem (hl.lt cb)];exact fU
 ·refine Wz ?_;obtain rfl:k=n:=by omega
  refine ae.aO rfl rfl ⟨_,rfl,hw,A1,c1,rfl,?_⟩;rwa [List.take_of_length_le (by have:=hl.len;omega)] at hO
theorem eu (A:Option Addr) (n c:Nat) (l:List Int) (w:World) (hl:Sl w 1 bd A n l) (hn:n*8≤140737488355328) : bo Tryz.prog 82 [.slice A n c] w (pW w 3 1 bd n l):=by
 refine aI Tryz.func82 rfl Tryz.ntmps82 rfl ?_;have hw:=Ext.refl w;refine Wz ?_;refine SW.st (oW rfl rfl) rfl ?_;repeat' (first|refine Wz ?_|(refine CW.cond rfl (fun h => ?_) (fun h => ?_)))
 ·have EI:n=0:=by
   rcases Nat.eq_zero_or_pos n with h0|h0
   ·exact h0
   ·have:=hl.base h0;simp_all
  subst EI;have:l=[]:=List.eq_nil_of_length_eq_zero hl.len
  subst this;exact ae.aO rfl rfl ⟨_,rfl,hw,none,0,rfl,Own.eJ _ _ _ _ _ _⟩
 ·refine SW.vu rfl fun b w1 ab hb => ?_
  replace hw:=Ext.trans hw ab;refine Wz ?_;refine SW.rN (Nat.zero_add n) (List.nil_append l) (Own.eJ w1 w.heap.size _ _ bd (some ⟨b,0,none⟩)) (hl.ext hw) hw.size rfl rfl rfl (by omega) (by omega) fun A2 c2 w2 hO hg => ?_
  replace hw:=aF hw hg (Nat.le_refl _) (by simp [aU]);refine Wz ?_;exact ae.aO rfl rfl ⟨_,rfl,hw,A2,c2,rfl,hO⟩
open Go.RowKit
open Go.RowKit
open Go.RowKit
def aA (b:Block) : List Value:=[.int .i64 b.At,.int .i64 b.Order,.int .i64 b.Ty]
instance:fw aA 3:=⟨fun _=>rfl,fun r u hu=>by simp [aA] at hu;rcases hu with rfl|rfl|rfl<;>rfl⟩
def aY (b:Slab) : List Value:=[.int .i64 b.At,.int .i64 b.ag,.int .i64 b.fT]
instance:fw aY 3:=⟨fun _=>rfl,fun r u hu=>by simp [aY] at hu;rcases hu with rfl|rfl|rfl<;>rfl⟩
def Block.yB (r:Block) : List Int:=[r.At,r.Order,r.Ty]
theorem Block.Cx {r s:Block}:r.yB=s.yB↔r=s:=by cases r;cases s;simp [Block.yB]
theorem iB (A:Option Addr) (n c:Nat) (l:List Block) (w:World) (hl:Sl w 3 aA A n l) (hn:n*24≤140737488355328) : bo Tryz.prog 174 [.slice A n c] w (pW w 165 3 aA n l):=by
 refine aI Tryz.func174 rfl Tryz.ntmps174 rfl ?_;have hw:=Ext.refl w;refine Wz ?_;refine SW.st (oW rfl rfl) rfl ?_;repeat' (first|refine Wz ?_|(refine CW.cond rfl (fun h => ?_) (fun h => ?_)))
 ·have EI:n=0:=by
   rcases Nat.eq_zero_or_pos n with h0|h0
   ·exact h0
   ·have:=hl.base h0;simp_all
  subst EI;have:l=[]:=List.eq_nil_of_length_eq_zero hl.len
  subst this;exact ae.aO rfl rfl ⟨_,rfl,hw,none,0,rfl,Own.eJ _ _ _ _ _ _⟩
 ·refine SW.vu rfl fun b w1 ab hb => ?_
  replace hw:=Ext.trans hw ab;refine Wz ?_;refine SW.rN (Nat.zero_add n) (List.nil_append l) (Own.eJ w1 w.heap.size _ _ aA (some ⟨b,0,none⟩)) (hl.ext hw) hw.size rfl rfl rfl (by omega) (by omega) fun A2 c2 w2 hO hg => ?_
  replace hw:=aF hw hg (Nat.le_refl _) (by simp [aU]);refine Wz ?_;exact ae.aO rfl rfl ⟨_,rfl,hw,A2,c2,rfl,hO⟩
theorem lP (A:Option Addr) (n c:Nat) (l:List Block) (w:World) (hl:Sl w 3 aA A n l) (hn:n*24≤140737488355328) : bo Tryz.prog 86 [.slice A n c] w (pW w 165 3 aA n l):=by
 refine aI Tryz.func86 rfl Tryz.ntmps86 rfl ?_;have hw:=Ext.refl w;have hA:=hl.base;refine Wz ?_
 refine CW.loop (fun s:Nat×Option Addr×Nat=>[(0,.slice A n c),(3,.slice s.2.1 s.1 s.2.2),(4,.int .i64 (s.1:Int))])
  (fun s w'=>s.1≤n∧Ext w w'∧Own w' w.heap.size 165 3 aA s.2.1 s.1 s.2.2 (l.take s.1)) (fun s=>n-s.1) (0,none,0) ⟨rfl,rfl,rfl,trivial⟩ ⟨by omega,hw,by simpa using Own.eJ _ _ _ _ _ _⟩ ?_
 clear hw;rintro ⟨k,A1,c1⟩ w' ⟨hk,hw,hO⟩
 simp only at hk hO ⊢;by_cases cb:k<n
 ·repeat' (first|refine Wz ?_|refine SW.st (aH hw rfl rfl ((hl.all cb))) rfl ?_)
  refine SW.bK rfl rfl rfl rfl rfl fun b w1 ab hb hB => ?_
  replace hw:=Ext.trans hw ab;replace hO:=hO.ext ab;refine SW.append hO (aJ.mo (enc:=aA) hB) hw.size rfl rfl rfl (by omega) (by omega) fun A2 c2 w2 fU hg => ?_
  replace hw:=aF hw hg (Nat.le_refl _) hO.aM;refine Wz ?_;refine ae.again (k+1,A2,c2) ⟨rfl,rfl,rfl,trivial⟩ (by simp only;omega) ⟨by simp only;omega,hw,?_⟩;rw [List.take_succ_eq_append_getElem (hl.lt cb)];exact fU
 ·refine Wz ?_;obtain rfl:k=n:=by omega
  refine ae.aO rfl rfl ⟨_,rfl,hw,A1,c1,rfl,?_⟩;rwa [List.take_of_length_le (by have:=hl.len;omega)] at hO
theorem mN (A B:Option Addr) (n m c d:Nat) (xs ys:List Block) (w:World) (hx:Sl w 3 aA A n xs) (hy:Sl w 3 aA B m ys) (hn:n≤2305843009213693952) :
 bo Tryz.prog 129 [.slice A n c,.slice B m d] w fun v _=>v = .bool (decide (xs=ys)):=by
 refine aI Tryz.func129 rfl Tryz.ntmps129 rfl ?_;have hl:=hx.len;have yx:=hy.len;have hA:=hx.base;have hB:=hy.base;have hw:=Ext.refl w;repeat' (first|refine Wz ?_|(refine CW.jH rfl (fun h => ?_) (fun h => ?_)))
 ·refine ae.aO rfl rfl ⟨_,rfl,hw,?_⟩;have:xs≠ys:=fun e=>by subst e;omega
  simp [this]
 ·have ui:n=m:=by omega
  refine CW.loop (fun k:Nat=>[(0,.slice A n c),(1,.slice B m d),(5,.int .i64 (k:Int))])
   (fun k w'=>k≤n∧Ext w w' ∧ ∀ j (h1:j<xs.length) (h2:j<ys.length),j<k→xs[j]=ys[j]) (fun k=>n-k) 0 ⟨rfl,rfl,rfl,trivial⟩ ⟨by omega,hw,fun j _ _ h=>by omega⟩ ?_
  clear hw;rintro k w' ⟨hk,hw,Ey⟩
  by_cases cb:k<n
  ·repeat' (first|refine Wz ?_|(first|refine CW.jH rfl (fun h => ?_) (fun h => ?_)|(apply CW.aP mixed;(· kernel_rfl);rotate_left;intro w1 ab;replace hw:=Ext.trans hw ab;clear ab;rotate_right))|refine SW.st (aH hw rfl rfl ((hx.all cb))) rfl ?_|refine SW.st (aH hw rfl rfl ((hy.all (ui ▸ cb)))) rfl ?_|(refine SW.st (Cv (xs[k]'(hx.lt cb)).yB (ys[k]'(hy.lt (ui ▸ cb))).yB rfl rfl rfl rfl) rfl ?_)|exact SW.bx rfl)
   ·refine ae.aO rfl rfl ⟨_,rfl,hw,?_⟩;have:xs≠ys:=fun e=>by subst e;exact h rfl
    simp [this]
   ·refine ae.again (k+1) ⟨rfl,rfl,rfl,trivial⟩ (by omega) ⟨by omega,hw,fun j h1 h2 hj => ?_⟩;by_cases lg:j=k
    ·subst lg;exact Block.Cx.1 (by assumption)
    ·exact Ey j h1 h2 (by omega)
  ·refine Wz ?_;refine ae.aO rfl rfl ⟨_,rfl,hw,?_⟩
   have:xs=ys:=by
    apply List.ext_getElem (by omega);intro j h1 h2;exact Ey j h1 h2 (by omega)
   simp [this]
def pw (o:Int) : Int:=2 ^ o.toNat
theorem ev {o:Int} (h0 : 0≤o) (h4:o≤4) : (o=0∧pw o=1)∨(o=1∧pw o=2)∨(o=2∧pw o=4)∨(o=3∧pw o=8)∨(o=4∧pw o=16):=by
 have:o=0∨o=1∨o=2∨o=3∨o=4:=by omega
 rcases this with rfl|rfl|rfl|rfl|rfl<;>decide
theorem bE {o:Int} (h0 : 0≤o) (h4:o≤4) : 1≤pw o∧pw o≤16:=by rcases ev h0 h4 with h|h|h|h|h<;>omega
theorem jf {o:Int} (h0 : 0≤o) (h4:o≤4) : pw (o+1)=2*pw o:=by
 have:o=0∨o=1∨o=2∨o=3∨o=4:=by omega
 rcases this with rfl|rfl|rfl|rfl|rfl<;>decide
def beside (a o:Int) : Int:=if a % (2*pw o)=0 then a+pw o else a-pw o
theorem o7:∀ a<256,∀ o<4,a % 2 ^ o=0→((a ^^^ 2 ^ o:Nat) : Int)=if (a:Int) % (2*2 ^ o)=0 then (a:Int)+2 ^ o else (a:Int)-2 ^ o:=by decide +kernel
theorem yC {a:Nat} {o:Int} (ha:a<256) (h0 : 0≤o) (h4:o<4) (h:(a:Int) % pw o=0) : ((a ^^^ 2 ^ o.toNat:Nat) : Int)=beside a o:=by
 have:o=0∨o=1∨o=2∨o=3:=by omega
 rcases this with rfl|rfl|rfl|rfl
 ·exact o7 a ha 0 (by omega) (by simp only [pw] at h;omega)
 ·exact o7 a ha 1 (by omega) (by
   rw [show pw 1=2 by decide] at h;simp;omega)
 ·exact o7 a ha 2 (by omega) (by
   rw [show pw 2=4 by decide] at h;simp;omega)
 ·exact o7 a ha 3 (by omega) (by
   rw [show pw 3=8 by decide] at h;simp;omega)
def eX (f t a o:Int) : Prop:=0≤o∧o≤4∧f≤a∧a<t∧a % pw o=0
instance (f t a o:Int) : Decidable (eX f t a o):=inferInstanceAs (Decidable (_∧_))
def fp (t:Int) : Prop:=0≤t∧t≤2
instance (t:Int) : Decidable (fp t):=inferInstanceAs (Decidable (_∧_))
def gU (a b:Block) : Prop:=a.At+pw a.Order≤b.At ∧ ¬ (b.Order<4∧a.Order=b.Order∧a.At=beside b.At b.Order)
instance (a b:Block) : Decidable (gU a b):=inferInstanceAs (Decidable (_∧_))
def dE (f t:Int) (b:Block) : Prop:=eX f t b.At b.Order∧fp b.Ty
instance (f t:Int) (b:Block) : Decidable (dE f t b):=inferInstanceAs (Decidable (_∧_))
def jz (f t:Int) : Prop:=0≤f∧f≤t∧t≤256∧f % 16=0∧t % 16=0
instance (f t:Int) : Decidable (jz f t):=inferInstanceAs (Decidable (_∧_))
structure bU (z:ar) : Prop where
 ok:jz z.aX z.To
 len : 8*(z.Types.length:Int)=z.To-z.aX
 types:∀ t∈z.Types,fp t
 c8:∀ (i:Nat) (h:i<z.ag.length),dE z.aX z.To z.ag[i]
 next:∀ (i:Nat) (h:i+1<z.ag.length),gU z.ag[i] z.ag[i+1]
noncomputable def ed (z:ar) : Bool := @decide (bU z) (Classical.propDecidable _)
theorem rP {z:ar} (h:bU z) : ed z=true:=by unfold ed;exact @decide_eq_true _ (Classical.propDecidable _) h
theorem gg {z:ar} (h : ¬ bU z) : ed z=false:=by unfold ed;exact @decide_eq_false _ (Classical.propDecidable _) h
theorem dH {z:ar}:ed z=true↔bU z:=by
 by_cases h:bU z
 ·simp [rP h,h]
 ·simp [gg h,h]
theorem Cy {f t:Int} {a b:Block} (ha:dE f t a) (hb:dE f t b) (h:a.At+pw a.Order≤b.At) :
 (b.Order<4∧a.Order=b.Order∧a.At=beside b.At b.Order)↔(b.Order<4∧a.Order=b.Order∧a.At+pw b.Order=b.At∧a.At % pw (b.Order+1)=0):=by
 obtain ⟨⟨h1,h2,h3,h4,h5⟩,_⟩:=ha;obtain ⟨⟨g1,g2,g3,g4,g5⟩,_⟩:=hb;rw [jf g1 g2];unfold beside;constructor
 ·rintro ⟨e1,e2,e3⟩
  refine ⟨e1,e2,?_⟩;rw [e2] at h5 h;have hp:=ev g1 g2;generalize pw b.Order=q at *
  rcases hp with ⟨e,rfl⟩|⟨e,rfl⟩|⟨e,rfl⟩|⟨e,rfl⟩|⟨e,rfl⟩<;>split at e3<;>omega
 ·rintro ⟨e1,e2,e3,e4⟩
  refine ⟨e1,e2,?_⟩;rw [e2] at h5 h;have hp:=ev g1 g2;generalize pw b.Order=q at *
  rcases hp with ⟨e,rfl⟩|⟨e,rfl⟩|⟨e,rfl⟩|⟨e,rfl⟩|⟨e,rfl⟩<;>split<;>omega
def idxOf {α:Type} (p : α → Bool) (l:List α) : Int:=if l.any p then (l.findIdx p:Int) else -1
def dI (l:List Block) : Int:=(l.map fun b=>pw b.Order).sum
theorem lQ (l:List Block) (k:Nat) (h:k<l.length) : dI (l.take (k+1))=dI (l.take k)+pw l[k].Order:=by
 unfold dI;rw [List.take_succ_eq_append_getElem h,List.map_append,List.sum_append];simp
theorem jg {z:ar} (h:bU z) : ∀ k,k≤z.ag.length→0≤dI (z.ag.take k)∧dI (z.ag.take k)≤16*(k:Int)
 | 0,_=>by simp [dI]
 | k+1,hk=>by
   have ih:=jg h k (by omega);have hb:=(h.c8 k (by omega)).1;have:=bE hb.1 hb.2.1
   rw [lQ _ _ (by omega)];omega
theorem z6 {z:ar} {a:Int} (hz:bU z) (h1:z.aX≤a) (h2:a<z.To) : ∃ k:Nat,(a-z.aX) / 8=k∧k<z.Types.length:=by
 have:=hz.len
 exact ⟨((a-z.aX) / 8).toNat,by omega,by omega⟩
open Go.RowKit
structure fF where
 A:Option Addr
 n:Nat
 c:Nat
def fF.v (s:fF) : Value := .slice s.A s.n s.c
def fF.nil:fF:=⟨none,0,0⟩
structure cy where
 aX:Int
 To:Int
 ag:fF
 Types:fF
def bp (z:cy) : List Value:=[.int .i64 z.aX,.int .i64 z.To,z.ag.v,z.Types.v]
instance:fw bp 4:=⟨fun _=>rfl,fun r u hu=>by simp [bp,fF.v] at hu;rcases hu with rfl|rfl|rfl|rfl<;>rfl⟩
theorem cJ (r:cy) : ∀ v∈bp r,v.oneCell'=true:=fw.one (enc:=bp) r
structure uj (w:World) (r:cy) (z:ar) : Prop where
 from_:r.aX=z.aX
 j6:r.To=z.To
 free:Sl w 3 aA r.ag.A r.ag.n z.ag
 types:Sl w 1 bd r.Types.A r.Types.n z.Types
structure eY (w:World) (lo:Nat) (r:cy) (z:ar) : Prop where
 from_:r.aX=z.aX
 j6:r.To=z.To
 free:Own w lo 165 3 aA r.ag.A r.ag.n r.ag.c z.ag
 types:Own w lo 3 1 bd r.Types.A r.Types.n r.Types.c z.Types
theorem uj.ext {w w':World} {r:cy} {z:ar} (h:uj w r z) (hx:Ext w w') : uj w' r z:=⟨h.from_,h.j6,h.free.ext hx,h.types.ext hx⟩
theorem eY.ext {w w':World} {lo:Nat} {r:cy} {z:ar} (h:eY w lo r z) (hx:Ext w w') : eY w' lo r z:=⟨h.from_,h.j6,h.free.ext hx,h.types.ext hx⟩
theorem eY.low {w:World} {lo mm:Nat} {r:cy} {z:ar} (h:eY w lo r z) (hl:mm≤lo) : eY w mm r z:=⟨h.from_,h.j6,h.free.low hl,h.types.low hl⟩
theorem eY.rd {w:World} {lo:Nat} {r:cy} {z:ar} (h:eY w lo r z) : uj w r z:=⟨h.from_,h.j6,h.free.sl,h.types.sl⟩
theorem eY.c8 {w w':World} {lo b t:Nat} {r:cy} {z:ar} {cs:List Value} (h:eY w lo r z) (hB:aJ w b t cs) (hg:w.grownBy w' (some b)) (h1:Nat.beq t 165=false) (h2:Nat.beq t 3=false) : eY w' lo r z :=
 ⟨h.from_,h.j6,h.free.grown hg (.inr (h.free.dm hB h1)),h.types.grown hg (.inr (h.types.dm hB h2))⟩
def ar.zero:ar:=⟨0,0,[],[]⟩
def cy.zero:cy:=⟨0,0,.nil,.nil⟩
theorem eY.zero (w:World) (lo:Nat) : eY w lo .zero .zero:=⟨rfl,rfl,Own.eJ _ _ _ _ _ _,Own.eJ _ _ _ _ _ _⟩
theorem vz (r s:cy) (a b:ar) (w:World) (ha:uj w r a) (hb:uj w s b) (hn:r.ag.n≤2305843009213693952) (hm:r.Types.n≤2305843009213693952) :
 bo Tryz.prog 130 [.agg (bp r).toArray,.agg (bp s).toArray] w fun v _=>v = .bool (decide (a=b)):=by
 refine aI Tryz.func130 rfl Tryz.ntmps130 rfl ?_;have e1:=ha.from_;have e2:=ha.j6;have e3:=hb.from_;have e4:=hb.j6;refine CW.seq (CW.region (SW.box rfl rfl fun b1 w1 hw aB hB => ?_));refine SW.box rfl rfl fun b2 w2 cq aL yo => ?_
 replace hw:=Ext.trans hw cq;replace hB:=hB.ext cq;repeat' (first|refine Wz ?_|refine SW.cV rfl rfl rfl (fun h => ?_) (fun h => ?_)|((first|refine SW.call rfl rfl (mN _ _ _ _ _ _ _ _ _ (ha.free.ext hw) (hb.free.ext hw) hn) ?_|refine SW.call rfl rfl (iA _ _ _ _ _ _ _ _ _ (ha.types.ext hw) (hb.types.ext hw) hm) ?_);intro v w1 ab hv;subst hv;replace hw:=Ext.trans hw ab;replace hB:=hB.ext ab;replace yo:=yo.ext ab;clear ab))
 all_goals refine ae.aO rfl rfl ⟨_,rfl,hw,?_⟩
 all_goals obtain ⟨a1,a2,a3,a4⟩:=a
 all_goals obtain ⟨b1,b2,b3,b4⟩:=b
 all_goals simp_all
theorem pX (r:cy) (z:ar) (w:World) (hr:uj w r z) (hn:r.ag.n*24≤140737488355328) (hm:r.Types.n*8≤140737488355328) :
 bo Tryz.prog 175 [.agg (bp r).toArray] w fun v w' => ∃ s,v = .agg (bp s).toArray∧eY w' w.heap.size s z∧s.ag.n=r.ag.n∧s.Types.n=r.Types.n:=by
 refine aI Tryz.func175 rfl Tryz.ntmps175 rfl ?_;refine CW.seq (CW.region (SW.box rfl rfl fun b w1 hw hb hB => ?_));refine SW.alloc rfl fun b2 w2 cq aL yo => ?_
 have pY:w.heap.size≤b2:=Nat.le_trans hw.size aL
 have cG:b2≠b:=by have:=hB.lt;omega
 replace hw:=Ext.trans hw cq;replace hB:=hB.ext cq;have Ek:=hb;refine Wz ?_;refine CW.any 7 mixed (cj (by kernel_rfl)) rfl fun w1 ab aG => ?_
 replace hw:=Ext.trans hw ab;replace hB:=hB.ext ab;replace yo:=yo.ext ab;clear ab;refine Wa ?_;refine SA.one 2 rfl (by kernel_rfl) rfl ?_;refine SW.call rfl rfl (iB _ _ _ _ _ (hr.free.ext hw) hn) fun v w4 aj hv => ?_
 obtain ⟨X,c4,rfl,hX⟩:=hv;replace hX:=hX.low hw.size;replace hw:=Ext.trans hw aj;replace hB:=hB.ext aj;replace yo:=yo.ext aj;refine SW.nil (ae.sa aj ?_);refine Wa ?_;refine SA.one 5 rfl (by kernel_rfl) rfl ?_;refine SW.call rfl rfl (eu _ _ _ _ _ (hr.types.ext hw) hm) fun v w4 aj hv => ?_
 obtain ⟨Y,d4,rfl,hY⟩:=hv;replace hY:=hY.low hw.size;replace hX:=hX.ext aj;replace hw:=Ext.trans hw aj;replace hB:=hB.ext aj;replace yo:=yo.ext aj;refine SW.nil (ae.sa aj ?_);refine SA.done (by kernel_rfl) ?_;skip;refine SW.bA (i:=2) hB rfl rfl rfl rfl fun w5 rq hg => ?_
 replace hw:=hw.own Ek hg;replace hX:=hX.grown hg (.inr (hX.dm hB rfl));replace hY:=hY.grown hg (.inr (hY.dm hB rfl));replace yo:=yo.grown hg (by simpa using cG);refine Wz ?_;refine SW.bA (i:=3) rq rfl rfl rfl rfl fun w6 KC hg => ?_
 replace hw:=hw.own Ek hg;replace hX:=hX.grown hg (.inr (hX.dm rq rfl));replace hY:=hY.grown hg (.inr (hY.dm rq rfl));replace yo:=yo.grown hg (by simpa using cG);repeat' (first|refine Wz ?_|refine SW.st (aW rfl rfl ((fun _ _=>KC.cell))) rfl ?_)
 refine SW.ak yo rfl rfl rfl rfl (cJ ⟨r.aX,r.To,⟨X,r.ag.n,c4⟩,⟨Y,r.Types.n,d4⟩⟩) fun w7 bF hg => ?_
 replace hw:=hw.own pY hg;replace hX:=hX.grown hg (.inr (hX.dm yo rfl));replace hY:=hY.grown hg (.inr (hY.dm yo rfl));refine Wz ?_;exact ae.mr rfl rfl bF rfl ⟨_,rfl,hw,⟨r.aX,r.To,⟨X,r.ag.n,c4⟩,⟨Y,r.Types.n,d4⟩⟩,rfl,⟨hr.from_,hr.j6,hX,hY⟩,rfl,rfl⟩
def o8 (f t:Int) : Int×ar:=if jz f t then (0,⟨f,t,[],List.replicate ((t-f) / 8).toNat 1⟩) else (1,.zero)
def rQ (lo:Nat) (r:Int×ar) (v:Value) (w:World) : Prop := ∃ s:cy,v = .tuple #[.agg (bp s).toArray,.int .i64 r.1]∧eY w lo s r.2
theorem lR {f t:Int} (h : ¬ jz f t) : o8 f t=(1,.zero):=if_neg h
theorem lS {f t:Int} (h:jz f t) : o8 f t=(0,⟨f,t,[],List.replicate ((t-f) / 8).toNat 1⟩):=if_pos h
theorem mO {x:Int} (h : 0≤x) : x.tmod 16=x % 16:=Int.tmod_eq_emod_of_nonneg h
theorem EJ (k i:Nat) (h:i<k) : (List.replicate i (1:Int)++List.replicate (k-i) 0).set i 1=List.replicate (i+1) 1++List.replicate (k-(i+1)) 0:=by
 apply List.ext_getElem (by simp;omega);intro j h1 h2;rw [List.getElem_set];by_cases hj:i=j
 ·subst hj;simp
 ·simp only [hj,if_false,List.getElem_append,List.length_replicate,List.getElem_replicate];by_cases h3:j<i
  ·simp [h3,show j<i+1 by omega]
  ·simp [h3,show ¬ j<i+1 by omega]
theorem Cz (f t:Int) (w:World) (hf : -9223372036854775808≤f∧f≤9223372036854775807) (ht : -9223372036854775808≤t∧t≤9223372036854775807) : bo Tryz.prog 134 [.int .i64 f,.int .i64 t] w (rQ w.heap.size (o8 f t)):=by
 refine aI Tryz.func134 rfl Tryz.ntmps134 rfl ?_;refine CW.seq (CW.region (SW.alloc rfl fun b4 w1 hw mA bZ => ?_));have mP:=mA;by_cases jh:jz f t
 ·obtain ⟨h1,h2,h3,h4,h5⟩:=id jh;have m1:=mO h1;have m2:=mO (show 0≤t by omega);rw [lS jh];obtain ⟨k,hk⟩ : ∃ k:Nat,(t-f) / 8=k:=⟨((t-f) / 8).toNat,by omega⟩;refine Wz ?_;refine SW.make (enc:=bd) (k:=k) 0 rfl rfl (by omega) (by omega) (by omega) rfl fun A c w2 cq hO => ?_
  replace hO:=hO.low hw.size;(replace hw:=Ext.trans hw cq;replace bZ:=bZ.ext cq);refine Wz ?_;refine SW.alloc rfl fun b6 w1 ab eg aw => ?_
  have cu:w.heap.size≤b6:=Nat.le_trans hw.size eg
  have vA:b4≠b6:=by have:=bZ.lt;omega
  replace hw:=Ext.trans hw ab;replace bZ:=bZ.ext ab;replace hO:=hO.ext ab;refine SW.ak aw rfl rfl rfl rfl (cJ ⟨f,t,.nil,⟨A,k,c⟩⟩) fun w2 gq hg => ?_
  replace hw:=hw.own cu hg;replace hO:=hO.grown hg (.inr (hO.dm aw rfl));replace bZ:=bZ.grown hg (by simpa using vA);replace aw:=gq;clear gq ab hg eg;have hA:=hO.sl.base;refine Wz ?_
  refine CW.loop (fun i:Nat=>[(4,.pointer (some ⟨b4,0,none⟩)),(6,.pointer (some ⟨b6,0,none⟩)),(40,.int .i64 (k:Int)),(41,.int .i64 (i:Int))])
   (fun i w'=>i≤k∧Ext w w'∧aJ w' b4 139 (bp .zero)∧aJ w' b6 139 (bp ⟨f,t,.nil,⟨A,k,c⟩⟩)∧Own w' w.heap.size 3 1 bd A k c (List.replicate i 1++List.replicate (k-i) 0)) (fun i=>k-i) 0
   ⟨rfl,rfl,rfl,rfl,trivial⟩ ⟨by omega,hw,bZ,aw,by simpa using hO⟩ ?_
  clear hw bZ aw hO;rintro i w' ⟨hi,hw,bZ,aw,hO⟩
  have hA:=hO.sl.base;by_cases z7:i<k
  ·refine Wz ?_;refine SW.j4 i hO rfl rfl z7 fun w3 HT hg => ?_
   replace hw:=aF hw hg (Nat.le_refl _) hO.aM;replace bZ:=bZ.grown hg (fun e=>hO.dm bZ rfl e.symm);replace aw:=aw.grown hg (fun e=>hO.dm aw rfl e.symm);rw [EJ k i z7] at HT;refine Wz ?_;exact ae.again (i+1) ⟨rfl,rfl,rfl,rfl,trivial⟩ (by omega) ⟨by omega,hw,bZ,aw,HT⟩
  ·obtain rfl:i=k:=by omega
   simp only [Nat.sub_self,List.replicate_zero,List.append_nil] at hO;refine Wz ?_;refine SW.ak bZ rfl rfl rfl rfl (cJ ⟨f,t,.nil,⟨A,i,c⟩⟩) fun w5 bF hg => ?_
   replace hw:=hw.own mP hg;replace hO:=hO.grown hg (.inr (hO.dm bZ rfl));refine Wz ?_;refine ae.fI rfl rfl rfl bF rfl ⟨_,rfl,hw,⟨f,t,.nil,⟨A,i,c⟩⟩,rfl,rfl,rfl,Own.eJ _ _ _ _ _ _,?_⟩;simp only [hk,Int.toNat_natCast];exact hO
 ·rw [lR jh];unfold jz at jh;have m1:=fun h => @mO f h
  have m2:=fun h => @mO t h
  by_cases h1 : 0≤f
  ·have m1:=m1 h1;by_cases h2:f≤t
   ·have m2:=m2 (by omega);repeat' (first|refine Wz ?_|refine SW.cV rfl rfl rfl (fun h => ?_) (fun h => ?_)|refine SW.gQ rfl rfl rfl (fun h => ?_) (fun h => ?_))
    all_goals
     first
      | (exfalso;omega)
      | (refine SW.ak bZ rfl rfl rfl rfl (cJ .zero) fun w5 bF hg => ?_
         replace hw:=hw.own mP hg;refine Wz ?_;exact ae.fI rfl rfl rfl bF rfl ⟨_,rfl,hw,.zero,rfl,eY.zero _ _⟩)
   ·repeat' (first|refine Wz ?_|refine SW.cV rfl rfl rfl (fun h => ?_) (fun h => ?_))
    all_goals
     refine SW.ak bZ rfl rfl rfl rfl (cJ .zero) fun w5 bF hg => ?_
     replace hw:=hw.own mP hg;refine Wz ?_;exact ae.fI rfl rfl rfl bF rfl ⟨_,rfl,hw,.zero,rfl,eY.zero _ _⟩
  ·refine Wz ?_
   all_goals
    refine SW.ak bZ rfl rfl rfl rfl (cJ .zero) fun w5 bF hg => ?_
    replace hw:=hw.own mP hg;refine Wz ?_;exact ae.fI rfl rfl rfl bF rfl ⟨_,rfl,hw,.zero,rfl,eY.zero _ _⟩
open Go.RowKit
theorem wP (f t:Int) (w:World) (hf : -9223372036854775808≤f∧f≤9223372036854775807) (ht : -9223372036854775808≤t∧t≤9223372036854775807) : bo Tryz.prog 148 [.int .i64 f,.int .i64 t] w (rQ w.heap.size (o8 f t)):=by
 refine aI Tryz.func148 rfl Tryz.ntmps148 rfl ?_;refine CW.seq (CW.region (SW.alloc rfl fun b4 w1 hw mA bZ => ?_));have mP:=mA;by_cases jh:jz f t
 ·obtain ⟨h1,h2,h3,h4,h5⟩:=id jh;have m1:=mO h1;have m2:=mO (show 0≤t by omega);rw [lS jh];obtain ⟨k,hk⟩ : ∃ k:Nat,(t-f) / 8=k:=⟨((t-f) / 8).toNat,by omega⟩;repeat' (first|refine Wz ?_|(refine SW.call rfl rfl (bP _ _ _ _) ?_;intro v w1 ab hv;subst hv;replace hw:=Ext.trans hw ab;replace bZ:=bZ.ext ab;clear ab))
  refine SW.alloc rfl fun b6 w1 ab eg aw => ?_
  have cu:w.heap.size≤b6:=Nat.le_trans hw.size eg
  have vA:b4≠b6:=by have:=bZ.lt;omega
  replace hw:=Ext.trans hw ab;replace bZ:=bZ.ext ab;refine SW.ak aw rfl rfl rfl rfl (cJ ⟨f,t,.nil,.nil⟩) fun w2 gq hg => ?_
  replace hw:=hw.own cu hg;replace bZ:=bZ.grown hg (by simpa using vA);replace aw:=gq;clear gq ab hg eg;refine Wz ?_
  refine CW.loop (fun s:Nat×Option Addr×Nat=>[(1,.int .i64 t),(4,.pointer (some ⟨b4,0,none⟩)),(6,.pointer (some ⟨b6,0,none⟩)),(7,.int .i64 (f+8*(s.1:Int)))])
   (fun s w'=>s.1≤k∧Ext w w'∧aJ w' b4 139 (bp .zero)∧aJ w' b6 139 (bp ⟨f,t,.nil,⟨s.2.1,s.1,s.2.2⟩⟩)∧Own w' w.heap.size 3 1 bd s.2.1 s.1 s.2.2 (List.replicate s.1 1)) (fun s=>k-s.1) (0,none,0)
   ⟨rfl,rfl,rfl,by simp;rfl,trivial⟩ ⟨by omega,hw,bZ,aw,Own.eJ _ _ _ _ _ _⟩ ?_
  clear hw bZ aw;rintro ⟨i,A,c⟩ w' ⟨hi,hw,bZ,aw,hO⟩
  simp only at hi aw hO ⊢;by_cases z7:i<k
  ·refine Wz ?_;refine SW.bK rfl rfl rfl rfl rfl fun b w1 ab hb hB => ?_
   (replace hw:=Ext.trans hw ab;replace bZ:=bZ.ext ab;replace aw:=aw.ext ab;replace hO:=hO.ext ab);refine SW.append hO (aJ.mo (enc:=bd) (x:=1) hB) hw.size rfl rfl rfl (by omega) (by omega) fun A2 c2 w2 fU hg => ?_
   replace hw:=aF hw hg (Nat.le_refl _) hO.aM;replace bZ:=bZ.grown hg (fun e=>hO.dm bZ rfl e.symm);replace aw:=aw.grown hg (fun e=>hO.dm aw rfl e.symm);refine Wz ?_;refine SW.bA (i:=3) aw rfl rfl rfl rfl fun w5 gq hg => ?_
   replace hw:=hw.own cu hg;replace fU:=fU.grown hg (.inr (fU.dm aw rfl));replace bZ:=bZ.grown hg (by simpa using vA);refine Wz ?_;refine ae.again (i+1,A2,c2) ⟨rfl,rfl,rfl,by simp only [get];simp;omega,trivial⟩ (by simp only;omega) ⟨by simp only;omega,hw,bZ,gq,?_⟩;simp only [List.replicate_succ'];exact fU
  ·obtain rfl:i=k:=by omega
   refine Wz ?_;refine SW.ak bZ rfl rfl rfl rfl (cJ ⟨f,t,.nil,⟨A,i,c⟩⟩) fun w5 bF hg => ?_
   replace hw:=hw.own mP hg;replace hO:=hO.grown hg (.inr (hO.dm bZ rfl));refine Wz ?_;refine ae.fI rfl rfl rfl bF rfl ⟨_,rfl,hw,⟨f,t,.nil,⟨A,i,c⟩⟩,rfl,rfl,rfl,Own.eJ _ _ _ _ _ _,?_⟩;simp only [hk,Int.toNat_natCast];exact hO
 ·rw [lR jh];unfold jz at jh;have m1:=fun h => @mO f h
  have m2:=fun h => @mO t h
  by_cases h1 : 0≤f
  ·have m1:=m1 h1;by_cases h2:f≤t
   ·have m2:=m2 (by omega);repeat' (first|refine Wz ?_|refine SW.gQ rfl rfl rfl (fun h => ?_) (fun h => ?_)|(refine SW.call rfl rfl (bP _ _ _ _) ?_;intro v w1 ab hv;subst hv;replace hw:=Ext.trans hw ab;replace bZ:=bZ.ext ab;clear ab))
    all_goals
     first
      | (exfalso;omega)
      | (refine SW.ak bZ rfl rfl rfl rfl (cJ .zero) fun w5 bF hg => ?_
         replace hw:=hw.own mP hg;refine Wz ?_;exact ae.fI rfl rfl rfl bF rfl ⟨_,rfl,hw,.zero,rfl,eY.zero _ _⟩)
   ·repeat' (first|refine Wz ?_|refine SW.gQ rfl rfl rfl (fun h => ?_) (fun h => ?_)|(refine SW.call rfl rfl (bP _ _ _ _) ?_;intro v w1 ab hv;subst hv;replace hw:=Ext.trans hw ab;replace bZ:=bZ.ext ab;clear ab))
    all_goals
     refine SW.ak bZ rfl rfl rfl rfl (cJ .zero) fun w5 bF hg => ?_
     replace hw:=hw.own mP hg;refine Wz ?_;exact ae.fI rfl rfl rfl bF rfl ⟨_,rfl,hw,.zero,rfl,eY.zero _ _⟩
  ·repeat' (first|refine Wz ?_|(refine SW.call rfl rfl (bP _ _ _ _) ?_;intro v w1 ab hv;subst hv;replace hw:=Ext.trans hw ab;replace bZ:=bZ.ext ab;clear ab))
   all_goals
    refine SW.ak bZ rfl rfl rfl rfl (cJ .zero) fun w5 bF hg => ?_
    replace hw:=hw.own mP hg;refine Wz ?_;exact ae.fI rfl rfl rfl bF rfl ⟨_,rfl,hw,.zero,rfl,eY.zero _ _⟩
open Go.RowKit
section
variable {P:Program} {L:Env} {w:World} {d:Option Nat} {T:TypeId} {pos:String} {af:Array Edge} {g:Option (Nat×Bool)}
theorem Gv {t ty:TypeId} {x y:Operand} {i j:Int} (a b:Nat) (hx:bR L x=some (.int .i64 i)) (hy:bR L y=some (.int .i64 j)) (ha:i=(a:Int)) (hb:j=(b:Int)) (gh:a<9223372036854775808) (jJ:b<9223372036854775808) :
 St P ⟨d,.binOp .xor t x y ty,T,pos,af,g⟩ L w (.int .i64 ((a ^^^ b:Nat) : Int)) :=
 ⟨fun n A hA w' _=>by
  have e1:=hA.eval hx;have e2:=hA.eval hy;subst ha hb;generalize A.eval = ρ at *
  have de:a ^^^ b<2 ^ 63:=Nat.xor_lt_two_pow (by omega) (by omega)
  have e:(BitVec.ofInt 64 (a:Int) ^^^ BitVec.ofInt 64 (b:Int)).toNat=a ^^^ b:=by
   rw [BitVec.toNat_xor,BitVec.ofInt_natCast,BitVec.ofInt_natCast,BitVec.toNat_ofNat,BitVec.toNat_ofNat,Nat.mod_eq_of_lt (by omega),Nat.mod_eq_of_lt (by omega)]
  have aB:(Op.intBits .xor .i64 (a:Int) (b:Int)).run P w' = .ok (.int .i64 ((a ^^^ b:Nat) : Int)) w':=by
   have:Op.intBits .xor .i64 (a:Int) (b:Int)=(pure (.int .i64 (IntKind.i64.wrap ((BitVec.ofInt 64 (a:Int) ^^^ BitVec.ofInt 64 (b:Int)).toNat:Nat))) : Sem Value):=rfl
   rw [this,e,iw (by omega) (by omega)]
   rfl
  have aL:(binOp .xor t (.int .i64 (a:Int)) (.int .i64 (b:Int))).run P w' = .ok (.int .i64 ((a ^^^ b:Nat) : Int)) w':=by
   have:binOp .xor t (.int .i64 (a:Int)) (.int .i64 (b:Int))=Op.intBits .xor .i64 (a:Int) (b:Int):=by simp [binOp]
   rw [this,aB]
  simp [execOp,e1,e2,eqGuard,aL]⟩
theorem jX {t ty:TypeId} {x y:Operand} {i j:Int} (a o:Int) (hx:bR L x=some (.int .i64 i)) (hy:bR L y=some (.int .i64 j)) (hi:i=a) (hj:j=pw o) (h : 0≤a∧a<256∧0≤o∧o<4∧a % pw o=0) :
 St P ⟨d,.binOp .xor t x y ty,T,pos,af,g⟩ L w (.int .i64 (beside a o)):=by
 obtain ⟨h1,h2,h3,h4,h5⟩:=h;subst hi hj;obtain ⟨k,rfl⟩:=Int.eq_ofNat_of_zero_le h1;have hp:=bE h3 (by omega);have e:pw o=((2 ^ o.toNat:Nat) : Int):=by unfold pw;simp
 have de:(2 ^ o.toNat:Nat)<9223372036854775808:=by omega
 have:=Gv (P:=P) (t:=t) (ty:=ty) (w:=w) (d:=d) (T:=T) (pos:=pos) (af:=af) (g:=g) k (2 ^ o.toNat) hx hy rfl e (by omega) de
 rw [yC (by omega) h3 h4 h5] at this;exact this
end
theorem c9 (z:Int) (h : 0≤z∧z≤5) (w:World) : bo Tryz.prog 69 [.int .i64 z] w fun v _=>v = .int .i64 (pw z):=by
 refine aI Tryz.func69 rfl Tryz.ntmps69 rfl ?_;have hw:=Ext.refl w;obtain ⟨m,rfl⟩:=Int.eq_ofNat_of_zero_le h.1;refine Wz ?_;refine CW.loop (fun k:Nat=>[(0,.int .i64 ((m-k:Nat) : Int)),(3,.int .i64 (pw k))]) (fun k w'=>k≤m∧Ext w w') (fun k=>m-k) 0 ⟨by simp;rfl,rfl,trivial⟩ ⟨by omega,hw⟩ ?_;clear hw;rintro k w' ⟨hk,hw⟩
 by_cases J7:k<m
 ·have hp:=bE (o:=(k:Int)) (by omega) (by omega);have hs:=jf (o:=(k:Int)) (by omega) (by omega);refine Wz ?_;have e1:((m-k:Nat) : Int)-1=((m-(k+1) : Nat) : Int):=by omega
  have e2 : 2*pw (k:Int)=pw ((k+1:Nat) : Int):=by rw [← hs];rfl
  exact ae.again (k+1) ⟨congrArg (fun z=>some (Value.int .i64 z)) e1,congrArg (fun z=>some (Value.int .i64 z)) e2,trivial⟩ (by omega) ⟨by omega,hw⟩
 ·obtain rfl:k=m:=by omega
  refine Wz ?_;exact ae.aO rfl rfl ⟨_,rfl,hw,rfl⟩
theorem nB (r:cy) (b:Block) (w:World) (h0 : 0≤r.aX) : bo Tryz.prog 229 [.agg (bp r).toArray,.agg (aA b).toArray] w fun v _=>v = .bool (decide (eX r.aX r.To b.At b.Order)):=by
 refine aI Tryz.func229 rfl Tryz.ntmps229 rfl ?_;refine CW.seq (CW.region (SW.box rfl rfl fun b1 w1 hw aB h1 => ?_));refine SW.box rfl rfl fun b2 w2 cq aL h2 => ?_
 (replace hw:=Ext.trans hw cq;replace h1:=h1.ext cq);by_cases hf:eX r.aX r.To b.At b.Order
 ·obtain ⟨a1,a2,a3,a4,a5⟩:=id hf;have hp:=bE a1 a2;rw [decide_eq_true hf];have e:b.At.tmod (pw b.Order)=0:=by rw [Int.tmod_eq_emod_of_nonneg (by omega)];exact a5
  repeat' (first|refine Wz ?_|((apply CW.aP mixed;(· kernel_rfl);rotate_left;intro w1 ab;replace hw:=Ext.trans hw ab;replace h1:=h1.ext ab;replace h2:=h2.ext ab;clear ab;rotate_right))|(refine SW.st (eW (r:=pw b.Order) rfl rfl (by omega) (by omega) (by simp [pw]) (by omega) (by omega)) rfl ?_)|exact SW.bx rfl)
  exact ae.aO rfl rfl ⟨_,rfl,hw,by simp [e]⟩
 ·rw [decide_eq_false hf];by_cases a1 : 0≤b.Order
  ·by_cases a2:b.Order≤4
   ·by_cases a3:r.aX≤b.At
    ·by_cases a4:b.At<r.To
     ·have hp:=bE a1 a2
      have e:b.At.tmod (pw b.Order)≠0:=by
       rw [Int.tmod_eq_emod_of_nonneg (by omega)];exact fun a5=>hf ⟨a1,a2,a3,a4,a5⟩
      repeat' (first|refine Wz ?_|((apply CW.aP mixed;(· kernel_rfl);rotate_left;intro w1 ab;replace hw:=Ext.trans hw ab;replace h1:=h1.ext ab;replace h2:=h2.ext ab;clear ab;rotate_right))|(refine SW.st (eW (r:=pw b.Order) rfl rfl (by omega) (by omega) (by simp [pw]) (by omega) (by omega)) rfl ?_)|exact SW.bx rfl)
      exact ae.aO rfl rfl ⟨_,rfl,hw,by simp [e]⟩
     ·repeat' (first|refine Wz ?_|((apply CW.aP mixed;(· kernel_rfl);rotate_left;intro w1 ab;replace hw:=Ext.trans hw ab;replace h1:=h1.ext ab;replace h2:=h2.ext ab;clear ab;rotate_right))|exact SW.bx rfl)
      exact ae.aO rfl rfl ⟨_,rfl,hw,by simp [*]⟩
    ·repeat' (first|refine Wz ?_|((apply CW.aP mixed;(· kernel_rfl);rotate_left;intro w1 ab;replace hw:=Ext.trans hw ab;replace h1:=h1.ext ab;replace h2:=h2.ext ab;clear ab;rotate_right))|exact SW.bx rfl)
     exact ae.aO rfl rfl ⟨_,rfl,hw,by simp [*]⟩
   ·repeat' (first|refine Wz ?_|((apply CW.aP mixed;(· kernel_rfl);rotate_left;intro w1 ab;replace hw:=Ext.trans hw ab;replace h1:=h1.ext ab;replace h2:=h2.ext ab;clear ab;rotate_right))|exact SW.bx rfl)
    exact ae.aO rfl rfl ⟨_,rfl,hw,by simp [*]⟩
  ·repeat' (first|refine Wz ?_|((apply CW.aP mixed;(· kernel_rfl);rotate_left;intro w1 ab;replace hw:=Ext.trans hw ab;replace h1:=h1.ext ab;replace h2:=h2.ext ab;clear ab;rotate_right))|exact SW.bx rfl)
   exact ae.aO rfl rfl ⟨_,rfl,hw,by simp [*]⟩
theorem ll (b:Block) (w:World) (h : 0≤b.Order∧b.Order≤4) (ha : 0≤b.At∧b.At≤256) : bo Tryz.prog 230 [.agg (aA b).toArray] w fun v _=>v = .int .i64 (b.At+pw b.Order):=by
 refine aI Tryz.func230 rfl Tryz.ntmps230 rfl ?_;refine CW.seq (CW.region (SW.box rfl rfl fun b1 w1 hw aB h1 => ?_));have hp:=bE h.1 h.2;repeat' (first|refine Wz ?_|((apply CW.aP mixed;(· kernel_rfl);rotate_left;intro w1 ab;replace hw:=Ext.trans hw ab;replace h1:=h1.ext ab;clear ab;rotate_right))|(refine SW.st (eW (r:=pw b.Order) rfl rfl (by omega) (by omega) (by simp [pw]) (by omega) (by omega)) rfl ?_)|exact SW.bx rfl)
 exact ae.aO rfl rfl ⟨_,rfl,hw,rfl⟩
theorem o9 (r:cy) (a o:Int) (w:World) (h0 : 0≤r.aX∧r.aX≤256) (h1 : 0≤r.To∧r.To≤256) : bo Tryz.prog 211 [.agg (bp r).toArray,.int .i64 a,.int .i64 o] w fun v _=>v = .bool (decide (eX r.aX r.To a o)):=by
 refine aI Tryz.func211 rfl Tryz.ntmps211 rfl ?_;refine CW.seq (CW.region (SW.box rfl rfl fun b1 w1 hw aB hB => ?_));by_cases a1 : 0≤o∧o≤4
 ·by_cases a2:r.aX≤a∧a<r.To
  ·have hp:=bE a1.1 a1.2;have e:a.tmod (pw o)=a % pw o:=Int.tmod_eq_emod_of_nonneg (by omega)
   repeat' (first|refine Wz ?_|((first|refine SW.call rfl rfl (bP _ _ _ _) ?_|refine SW.call rfl rfl (c9 _ (by omega) _) ?_);intro v w1 ab hv;subst hv;replace hw:=Ext.trans hw ab;replace hB:=hB.ext ab;clear ab))
   all_goals try omega
   refine ae.aO rfl rfl ⟨_,rfl,hw,?_⟩;rw [e];simp [eX,a1.1,a1.2,a2.1,a2.2]
  ·repeat' (first|refine Wz ?_|(refine SW.call rfl rfl (bP _ _ _ _) ?_;intro v w1 ab hv;subst hv;replace hw:=Ext.trans hw ab;replace hB:=hB.ext ab;clear ab))
   all_goals try omega
   refine ae.aO rfl rfl ⟨_,rfl,hw,?_⟩;rw [decide_eq_false (fun h=>a2 ⟨h.2.2.1,h.2.2.2.1⟩)];try (simp;omega)
 ·repeat' (first|refine Wz ?_|(refine SW.call rfl rfl (bP _ _ _ _) ?_;intro v w1 ab hv;subst hv;replace hw:=Ext.trans hw ab;replace hB:=hB.ext ab;clear ab))
  all_goals try omega
  refine ae.aO rfl rfl ⟨_,rfl,hw,?_⟩;rw [decide_eq_false (fun h=>a1 ⟨h.1,h.2.1⟩)];try (simp;omega)
theorem ib {α:Type} {p : α → Bool} {l:List α} {k:Nat} (h:k<l.length) (hp:p l[k]=true) (hf:∀ j (hj:j<l.length),j<k→p l[j]=false) : idxOf p l=(k:Int):=by
 have e:l.findIdx p=k:=(List.findIdx_eq h).2 ⟨hp,fun j hj=>hf j (by omega) hj⟩
 have e2:l.any p=true:=List.any_eq_true.2 ⟨l[k],List.getElem_mem h,hp⟩
 simp [idxOf,e,e2]
theorem fq {α:Type} {p : α → Bool} {l:List α} (hf:∀ j (hj:j<l.length),p l[j]=false) : idxOf p l = -1∧l.any p=false:=by
 have e:l.any p=false:=by
  rw [List.any_eq_false];intro x hx;obtain ⟨j,hj,rfl⟩:=List.getElem_of_mem hx;simp [hf j hj]
 exact ⟨by simp [idxOf,e],e⟩
theorem iC {α:Type} (p : α → Bool) (l:List α) : decide (0≤idxOf p l)=l.any p:=by
 unfold idxOf;by_cases h:l.any p=true
 ·simp [h]
 ·simp [h]
theorem pZ (A:Option Addr) (n c:Nat) (l:List Int) (w:World) (hl:Sl w 1 bd A n l) (f:FuncId) (cap:List Value) [Body Tryz.prog f] (p:Int→Bool) (arg:Int→Value) (mQ:∀ x,arg x=(if 1=1 then (bd x)[0]?.getD undef else .agg (bd x).toArray))
 (hf:∀ x∈l,∀ w',Ext w w'→bo Tryz.prog f ([arg x]++cap) w' fun v _=>v = .bool (p x)) (hn:n≤9223372036854775807) :
 bo Tryz.prog 187 [.slice A n c,.func (.func f) #[] cap.toArray] w fun v _=>v = .int .i64 (idxOf p l):=by
 refine aI Tryz.func187 rfl Tryz.ntmps187 rfl ?_;have hw:=Ext.refl w;have hA:=hl.base;refine Wz ?_;refine CW.loop (fun k:Nat=>[(0,.slice A n c),(1,.func (.func f) #[] cap.toArray),(7,.int .i64 (n:Int)),(8,.int .i64 (k:Int))]) (fun k w'=>k≤n∧Ext w w' ∧ ∀ j (hj:j<l.length),j<k→p l[j]=false) (fun k=>n-k) 0 ⟨rfl,rfl,rfl,rfl,trivial⟩ ⟨by omega,hw,fun j _ h=>by omega⟩ ?_;clear hw;rintro k w' ⟨oR,hw,hI⟩
 by_cases hk:k<n
 ·have hx:=mQ (l[k]'(hl.lt hk));have pa:=hf (l[k]'(hl.lt hk)) (List.getElem_mem _);rw [hx] at pa;repeat' (first|refine Wz ?_|refine SW.st (ap hw rfl (hl.one hk rfl)) rfl ?_)
  refine SW.oY rfl rfl rfl (pa _ hw) fun v w1 ab hv => ?_
  subst hv;replace hw:=Ext.trans hw ab;cases hp:p (l[k]'(hl.lt hk))
  ·refine Wz ?_;refine ae.again (k+1) ⟨rfl,rfl,rfl,rfl,trivial⟩ (by omega) ⟨by omega,hw,fun j hj h => ?_⟩;by_cases lg:j=k
   ·subst lg;exact hp
   ·exact hI j hj (by omega)
  ·refine Wz ?_;exact ae.aO rfl rfl ⟨_,rfl,hw,by rw [ib (hl.lt hk) hp hI]⟩
 ·refine Wz ?_;exact ae.aO rfl rfl ⟨_,rfl,hw,by rw [(fq (fun j hj=>hI j hj (by have:=hl.len;omega))).1]⟩
theorem gu (A:Option Addr) (n c:Nat) (l:List Int) (w:World) (hl:Sl w 1 bd A n l) (f:FuncId) (cap:List Value) [Body Tryz.prog f] (p:Int→Bool) (arg:Int→Value) (mQ:∀ x,arg x=(if 1=1 then (bd x)[0]?.getD undef else .agg (bd x).toArray))
 (hf:∀ x∈l,∀ w',Ext w w'→bo Tryz.prog f ([arg x]++cap) w' fun v _=>v = .bool (p x)) (hn:n≤9223372036854775807) :
 bo Tryz.prog 96 [.slice A n c,.func (.func f) #[] cap.toArray] w fun v _=>v = .bool (l.any p):=by
 refine aI Tryz.func96 rfl Tryz.ntmps96 rfl ?_;have hw:=Ext.refl w;repeat' (first|refine Wz ?_|(refine SW.call rfl rfl (pZ _ _ _ _ _ (hl.ext hw) f cap p arg mQ (fun x hx w1 h1=>hf x hx w1 (Ext.trans hw h1)) hn) ?_;intro v w1 ab hv;subst hv;replace hw:=Ext.trans hw ab;clear ab))
 exact ae.aO rfl rfl ⟨_,rfl,hw,by rw [iC]⟩
theorem j7 (A:Option Addr) (n c:Nat) (l:List Block) (w:World) (hl:Sl w 3 aA A n l) (f:FuncId) (cap:List Value) [Body Tryz.prog f] (p:Block→Bool) (arg:Block→Value) (mQ:∀ x,arg x=(if 3=1 then (aA x)[0]?.getD undef else .agg (aA x).toArray))
 (hf:∀ x∈l,∀ w',Ext w w'→bo Tryz.prog f ([arg x]++cap) w' fun v _=>v = .bool (p x)) (hn:n≤9223372036854775807) :
 bo Tryz.prog 254 [.slice A n c,.func (.func f) #[] cap.toArray] w fun v _=>v = .int .i64 (idxOf p l):=by
 refine aI Tryz.func254 rfl Tryz.ntmps254 rfl ?_;have hw:=Ext.refl w;have hA:=hl.base;refine Wz ?_;refine CW.loop (fun k:Nat=>[(0,.slice A n c),(1,.func (.func f) #[] cap.toArray),(7,.int .i64 (n:Int)),(8,.int .i64 (k:Int))]) (fun k w'=>k≤n∧Ext w w' ∧ ∀ j (hj:j<l.length),j<k→p l[j]=false) (fun k=>n-k) 0 ⟨rfl,rfl,rfl,rfl,trivial⟩ ⟨by omega,hw,fun j _ h=>by omega⟩ ?_;clear hw;rintro k w' ⟨oR,hw,hI⟩
 by_cases hk:k<n
 ·have hx:=mQ (l[k]'(hl.lt hk));have pa:=hf (l[k]'(hl.lt hk)) (List.getElem_mem _);rw [hx] at pa;repeat' (first|refine Wz ?_|refine SW.st (aH hw rfl rfl ((hl.all hk))) rfl ?_)
  refine SW.oY rfl rfl rfl (pa _ hw) fun v w1 ab hv => ?_
  subst hv;replace hw:=Ext.trans hw ab;cases hp:p (l[k]'(hl.lt hk))
  ·refine Wz ?_;refine ae.again (k+1) ⟨rfl,rfl,rfl,rfl,trivial⟩ (by omega) ⟨by omega,hw,fun j hj h => ?_⟩;by_cases lg:j=k
   ·subst lg;exact hp
   ·exact hI j hj (by omega)
  ·refine Wz ?_;exact ae.aO rfl rfl ⟨_,rfl,hw,by rw [ib (hl.lt hk) hp hI]⟩
 ·refine Wz ?_;exact ae.aO rfl rfl ⟨_,rfl,hw,by rw [(fq (fun j hj=>hI j hj (by have:=hl.len;omega))).1]⟩
theorem mB (A:Option Addr) (n c:Nat) (l:List Block) (w:World) (hl:Sl w 3 aA A n l) (f:FuncId) (cap:List Value) [Body Tryz.prog f] (p:Block→Bool) (arg:Block→Value) (mQ:∀ x,arg x=(if 3=1 then (aA x)[0]?.getD undef else .agg (aA x).toArray))
 (hf:∀ x∈l,∀ w',Ext w w'→bo Tryz.prog f ([arg x]++cap) w' fun v _=>v = .bool (p x)) (hn:n≤9223372036854775807) :
 bo Tryz.prog 226 [.slice A n c,.func (.func f) #[] cap.toArray] w fun v _=>v = .bool (l.any p):=by
 refine aI Tryz.func226 rfl Tryz.ntmps226 rfl ?_;have hw:=Ext.refl w;repeat' (first|refine Wz ?_|(refine SW.call rfl rfl (j7 _ _ _ _ _ (hl.ext hw) f cap p arg mQ (fun x hx w1 h1=>hf x hx w1 (Ext.trans hw h1)) hn) ?_;intro v w1 ab hv;subst hv;replace hw:=Ext.trans hw ab;clear ab))
 exact ae.aO rfl rfl ⟨_,rfl,hw,by rw [iC]⟩
open Go.RowKit
def vB (t:Int) : Bool := !decide (fp t)
theorem yD {t:Int} (h:fp t) : vB t=false:=by simp [vB,h]
theorem yE {t:Int} (h : ¬ fp t) : vB t=true:=by simp [vB,h]
theorem sr (t:Int) (w:World) : bo Tryz.prog 228 ([.int .i64 t]++[]) w fun v _=>v = .bool (vB t):=by
 refine aI Tryz.func228 rfl Tryz.ntmps228 rfl ?_;have hw:=Ext.refl w;by_cases h1 : 0≤t
 ·by_cases h2:t≤2
  ·rw [yD ⟨h1,h2⟩];refine Wz ?_;all_goals exact ae.aO rfl rfl ⟨_,rfl,hw,by simp;try omega⟩
  ·rw [yE (fun h=>h2 h.2)];refine Wz ?_;all_goals exact ae.aO rfl rfl ⟨_,rfl,hw,by simp;try omega⟩
 ·rw [yE (fun h=>h1 h.1)];refine Wz ?_;all_goals exact ae.aO rfl rfl ⟨_,rfl,hw,by simp;try omega⟩
set_option maxHeartbeats 4000000 in
theorem j8 (r:cy) (z:ar) (w:World) (hr:uj w r z) (hf:r.ag.n≤2305843009213693952) (ht:r.Types.n≤2305843009213693952) (h1 : -9223372036854775808≤r.aX∧r.aX≤9223372036854775807) (h2 : -9223372036854775808≤r.To∧r.To≤9223372036854775807) :
 bo Tryz.prog 176 [.agg (bp r).toArray] w fun v _=>v = .int .i64 (if ed z then 0 else 8):=by
 refine aI Tryz.func176 rfl Tryz.ntmps176 rfl ?_;refine CW.seq (CW.region (SW.box rfl rfl fun b1 w1 hw gV aB => ?_));have eF:=hr.from_;have eT:=hr.j6;have CA:=hr.free.len;have HU:=hr.types.len;refine Wz ?_;refine SW.call rfl rfl (Cz r.aX r.To _ h1 h2) fun v w2 cq hv => ?_
 (replace hw:=Ext.trans hw cq;replace aB:=aB.ext cq);by_cases jh:jz r.aX r.To
 ·rw [lS jh] at hv;obtain ⟨s,rfl,hs⟩:=hv;obtain ⟨o1,o2,o3,o4,o5⟩:=id jh;have lf:∀ {p:Prop},(bU z→False)→p ∨ ¬ bU z:=fun h => .inr h
  by_cases IC : 8*(z.Types.length:Int)=z.To-z.aX
  ·refine Wz ?_;refine SW.alloc rfl fun b3 w1 ab bH aq => ?_
   have cw:w.heap.size≤b3:=Nat.le_trans hw.size bH
   have j9:b1≠b3:=by have:=aB.lt;omega
   replace hw:=Ext.trans hw ab;replace aB:=aB.ext ab;replace hs:=hs.ext ab;refine SW.ak aq rfl rfl rfl rfl (cJ _) fun w2 cK hg => ?_
   replace hw:=hw.own cw hg;replace hs:=hs.c8 aq hg rfl rfl;replace aB:=aB.grown hg (by simpa using j9);replace aq:=cK;clear cK ab hg bH
   have cO:∀ w',Ext w w'→bo Tryz.prog 96 [.slice r.Types.A r.Types.n r.Types.c,.func (.func 228) #[] ([] : List Value).toArray] w' fun v _=>v = .bool (z.Types.any vB):=fun w' h =>
    gu _ _ _ _ _ (hr.types.ext h) _ [] vB (fun x => .int .i64 x) (fun x=>rfl) (fun x _ w1 _=>sr x w1) (by omega)
   cases AI:z.Types.any vB
   ·rw [AI] at cO
    have nC:∀ t∈z.Types,fp t:=fun t CB=>by
     rw [List.any_eq_false] at AI;have:=AI t CB
     simp [vB] at this;exact this
    repeat' (first|refine Wz ?_|(refine SW.call rfl rfl (cO _ hw) ?_;intro v w1 ab hv;subst hv;replace hw:=Ext.trans hw ab;replace aB:=aB.ext ab;clear ab))
    refine CW.loop (fun k:Nat=>[(1,.pointer (some ⟨b1,0,none⟩)),(5,.func (.func 228) #[] #[]),(35,.slice r.ag.A r.ag.n r.ag.c),(36,.int .i64 (r.ag.n:Int)),(37,.int .i64 (k:Int))])
     (fun k w'=>k≤r.ag.n∧Ext w w'∧aJ w' b1 139 (bp r)∧(∀ (i:Nat) (h:i<z.ag.length),i<k→dE z.aX z.To z.ag[i])∧(∀ (i:Nat) (h:i+1<z.ag.length),i+1<k→gU z.ag[i] z.ag[i+1]))
     (fun k=>r.ag.n-k) 0 ⟨rfl,rfl,rfl,rfl,rfl,trivial⟩ ⟨by omega,hw,aB,fun i h hi=>by omega,fun i h hi=>by omega⟩ ?_
    clear hw aB aq cO hs;rintro k w' ⟨hk,hw,aB,hI,hN⟩
    have hA:=hr.free.base;by_cases cb:k<r.ag.n
    ·have dk:=hr.free.lt cb;repeat' (first|refine Wz ?_|refine SW.st (aH hw rfl rfl ((hr.free.all cb))) rfl ?_)
     refine SW.alloc rfl fun b7 w3 jW lm jY => ?_
     have rr:w.heap.size≤b7:=Nat.le_trans hw.size lm
     have cG:b1≠b7:=by have:=aB.lt;omega
     (replace hw:=Ext.trans hw jW;replace aB:=aB.ext jW);refine Wz ?_;refine SW.ak jY rfl rfl rfl rfl (fw.one (enc:=aA) _) fun w4 dJ hg => ?_
     replace hw:=hw.own rr hg;replace aB:=aB.grown hg (by simpa using cG);by_cases mR:dE z.aX z.To z.ag[k]
     ·obtain ⟨AJ,ru⟩:=id mR;obtain ⟨f1,f2,f3,f4,f5⟩:=id AJ;have hp:=bE f1 f2
      have cF:∀ w',Ext w w'→bo Tryz.prog 229 [.agg (bp r).toArray,.agg (aA z.ag[k]).toArray] w' fun v _=>v = .bool true:=fun w' _=>by
       have:=nB r z.ag[k] w' (by omega)
       rwa [eF,eT,decide_eq_true AJ] at this
      have cD:∀ w',bo Tryz.prog 228 ([.int .i64 (z.ag[k]).Ty]++[]) w' fun v _=>v = .bool false:=fun w'=>by
       have:=sr (z.ag[k]).Ty w'
       rwa [yD ru] at this
      by_cases p7:k=0
      ·subst p7;repeat' (first|refine Wz ?_|((apply CW.aP mixed;(· kernel_rfl);rotate_left;intro w1 ab;replace hw:=Ext.trans hw ab;replace aB:=aB.ext ab;replace dJ:=dJ.ext ab;clear ab;rotate_right))|refine SW.want rfl rfl ?_|refine SW.br rfl rfl (fun w1 ab=>(cF _ (Ext.trans hw ab))) ?_|(refine SW.ou rfl rfl rfl (fun w1 _=>cD w1) ?_)|exact SW.bx rfl)
       refine ae.again (0+1) ⟨rfl,rfl,rfl,rfl,rfl,trivial⟩ (by omega) ⟨by omega,hw,aB,fun i h hi => ?_,fun i h hi=>by omega⟩;obtain rfl:i=0:=by omega
       exact mR
      ·obtain ⟨j,rfl⟩ : ∃ j,k=j+1:=⟨k-1,by omega⟩;have hj:j<r.ag.n:=by omega
       have kV:=hr.free.lt hj;obtain ⟨⟨g1,g2,g3,g4,g5⟩,_⟩:=hI j kV (by omega);have cE:∀ w',bo Tryz.prog 230 [.agg (aA z.ag[j]).toArray] w' fun v _=>v = .int .i64 ((z.ag[j]).At+pw (z.ag[j]).Order):=fun w'=>ll _ _ ⟨g1,g2⟩ ⟨by omega,by omega⟩
       by_cases de:(z.ag[j]).At+pw (z.ag[j]).Order≤(z.ag[j+1]).At
       ·by_cases CC:(z.ag[j+1]).Order<4∧(z.ag[j]).Order=(z.ag[j+1]).Order∧(z.ag[j]).At=beside (z.ag[j+1]).At (z.ag[j+1]).Order
        ·obtain ⟨u1,u2,u3⟩:=id CC;repeat' (first|refine Wz ?_|((apply CW.aP mixed;(· kernel_rfl);rotate_left;intro w1 ab;replace hw:=Ext.trans hw ab;replace aB:=aB.ext ab;replace dJ:=dJ.ext ab;clear ab;rotate_right))|refine SW.st (bc (j) rfl rfl (by assumption) (by omega) (by omega)) rfl ?_|refine SW.st (aH hw rfl rfl ((hr.free.all hj))) rfl ?_|refine SW.st (ap hw rfl (hr.free.dA hj rfl)) rfl ?_|refine SW.br rfl rfl (fun w1 ab=>(cF _ (Ext.trans hw ab))) ?_|refine SW.br rfl rfl (fun w1 ab=>(cE _)) ?_|(refine SW.ou rfl rfl rfl (fun w1 _=>cD w1) ?_)|(refine SW.st (eW (r:=pw (z.ag[j+1]).Order) rfl rfl (by omega) (by omega) (by simp [pw]) (by omega) (by omega)) rfl ?_)|(refine SW.st (jX (z.ag[j+1]).At (z.ag[j+1]).Order rfl rfl rfl rfl ⟨by omega,by omega,f1,u1,f5⟩) rfl ?_)|exact SW.bx rfl)
         refine ae.aO rfl rfl ⟨_,rfl,hw,?_⟩;rw [gg (fun h=>(h.next j dk).2 CC)];rfl
        ·by_cases u1:(z.ag[j+1]).Order<4
         ·by_cases u2:(z.ag[j]).Order=(z.ag[j+1]).Order
          ·have u3 : ¬ (z.ag[j]).At=beside (z.ag[j+1]).At (z.ag[j+1]).Order:=fun u3=>CC ⟨u1,u2,u3⟩
           repeat' (first|refine Wz ?_|((apply CW.aP mixed;(· kernel_rfl);rotate_left;intro w1 ab;replace hw:=Ext.trans hw ab;replace aB:=aB.ext ab;replace dJ:=dJ.ext ab;clear ab;rotate_right))|refine SW.want rfl rfl ?_|refine SW.st (bc (j) rfl rfl (by assumption) (by omega) (by omega)) rfl ?_|refine SW.st (aH hw rfl rfl ((hr.free.all hj))) rfl ?_|refine SW.st (ap hw rfl (hr.free.dA hj rfl)) rfl ?_|refine SW.br rfl rfl (fun w1 ab=>(cF _ (Ext.trans hw ab))) ?_|refine SW.br rfl rfl (fun w1 ab=>(cE _)) ?_|(refine SW.ou rfl rfl rfl (fun w1 _=>cD w1) ?_)|(refine SW.st (eW (r:=pw (z.ag[j+1]).Order) rfl rfl (by omega) (by omega) (by simp [pw]) (by omega) (by omega)) rfl ?_)|(refine SW.st (jX (z.ag[j+1]).At (z.ag[j+1]).Order rfl rfl rfl rfl ⟨by omega,by omega,f1,u1,f5⟩) rfl ?_)|exact SW.bx rfl)
           refine ae.again (j+1+1) ⟨rfl,rfl,rfl,rfl,rfl,trivial⟩ (by omega) ⟨by omega,hw,aB,fun i h hi => ?_,fun i h hi => ?_⟩
           ·by_cases kW:i=j+1
            ·subst kW;exact mR
            ·exact hI i h (by omega)
           ·by_cases kW:i=j
            ·subst kW;exact ⟨de,CC⟩
            ·exact hN i h (by omega)
          ·repeat' (first|refine Wz ?_|((apply CW.aP mixed;(· kernel_rfl);rotate_left;intro w1 ab;replace hw:=Ext.trans hw ab;replace aB:=aB.ext ab;replace dJ:=dJ.ext ab;clear ab;rotate_right))|refine SW.want rfl rfl ?_|refine SW.st (bc (j) rfl rfl (by assumption) (by omega) (by omega)) rfl ?_|refine SW.st (aH hw rfl rfl ((hr.free.all hj))) rfl ?_|refine SW.st (ap hw rfl (hr.free.dA hj rfl)) rfl ?_|refine SW.br rfl rfl (fun w1 ab=>(cF _ (Ext.trans hw ab))) ?_|refine SW.br rfl rfl (fun w1 ab=>(cE _)) ?_|(refine SW.ou rfl rfl rfl (fun w1 _=>cD w1) ?_)|exact SW.bx rfl)
           refine ae.again (j+1+1) ⟨rfl,rfl,rfl,rfl,rfl,trivial⟩ (by omega) ⟨by omega,hw,aB,fun i h hi => ?_,fun i h hi => ?_⟩
           ·by_cases kW:i=j+1
            ·subst kW;exact mR
            ·exact hI i h (by omega)
           ·by_cases kW:i=j
            ·subst kW;exact ⟨de,CC⟩
            ·exact hN i h (by omega)
         ·repeat' (first|refine Wz ?_|((apply CW.aP mixed;(· kernel_rfl);rotate_left;intro w1 ab;replace hw:=Ext.trans hw ab;replace aB:=aB.ext ab;replace dJ:=dJ.ext ab;clear ab;rotate_right))|refine SW.want rfl rfl ?_|refine SW.st (bc (j) rfl rfl (by assumption) (by omega) (by omega)) rfl ?_|refine SW.st (aH hw rfl rfl ((hr.free.all hj))) rfl ?_|refine SW.br rfl rfl (fun w1 ab=>(cF _ (Ext.trans hw ab))) ?_|refine SW.br rfl rfl (fun w1 ab=>(cE _)) ?_|(refine SW.ou rfl rfl rfl (fun w1 _=>cD w1) ?_)|exact SW.bx rfl)
          refine ae.again (j+1+1) ⟨rfl,rfl,rfl,rfl,rfl,trivial⟩ (by omega) ⟨by omega,hw,aB,fun i h hi => ?_,fun i h hi => ?_⟩
          ·by_cases kW:i=j+1
           ·subst kW;exact mR
           ·exact hI i h (by omega)
          ·by_cases kW:i=j
           ·subst kW;exact ⟨de,CC⟩
           ·exact hN i h (by omega)
       ·repeat' (first|refine Wz ?_|((apply CW.aP mixed;(· kernel_rfl);rotate_left;intro w1 ab;replace hw:=Ext.trans hw ab;replace aB:=aB.ext ab;replace dJ:=dJ.ext ab;clear ab;rotate_right))|refine SW.want rfl rfl ?_|refine SW.st (bc (j) rfl rfl (by assumption) (by omega) (by omega)) rfl ?_|refine SW.st (aH hw rfl rfl ((hr.free.all hj))) rfl ?_|refine SW.br rfl rfl (fun w1 ab=>(cF _ (Ext.trans hw ab))) ?_|refine SW.br rfl rfl (fun w1 ab=>(cE _)) ?_|(refine SW.ou rfl rfl rfl (fun w1 _=>cD w1) ?_)|exact SW.bx rfl)
        refine ae.aO rfl rfl ⟨_,rfl,hw,?_⟩;rw [gg (fun h=>de (h.next j dk).1)];rfl
     ·have wQ:ed z=false:=gg (fun h=>mR (h.c8 k dk))
      by_cases AJ:eX z.aX z.To (z.ag[k]).At (z.ag[k]).Order
      ·have ru : ¬ fp (z.ag[k]).Ty:=fun h=>mR ⟨AJ,h⟩
       have cF:∀ w',Ext w w'→bo Tryz.prog 229 [.agg (bp r).toArray,.agg (aA z.ag[k]).toArray] w' fun v _=>v = .bool true:=fun w' _=>by
        have:=nB r z.ag[k] w' (by omega)
        rwa [eF,eT,decide_eq_true AJ] at this
       have cD:∀ w',bo Tryz.prog 228 ([.int .i64 (z.ag[k]).Ty]++[]) w' fun v _=>v = .bool true:=fun w'=>by
        have:=sr (z.ag[k]).Ty w'
        rwa [yE ru] at this
       repeat' (first|refine Wz ?_|((apply CW.aP mixed;(· kernel_rfl);rotate_left;intro w1 ab;replace hw:=Ext.trans hw ab;replace aB:=aB.ext ab;replace dJ:=dJ.ext ab;clear ab;rotate_right))|refine SW.want rfl rfl ?_|refine SW.br rfl rfl (fun w1 ab=>(cF _ (Ext.trans hw ab))) ?_|(refine SW.ou rfl rfl rfl (fun w1 _=>cD w1) ?_)|exact SW.bx rfl)
       exact ae.aO rfl rfl ⟨_,rfl,hw,by rw [wQ];rfl⟩
      ·have cF:∀ w',Ext w w'→bo Tryz.prog 229 [.agg (bp r).toArray,.agg (aA z.ag[k]).toArray] w' fun v _=>v = .bool false:=fun w' _=>by
        have:=nB r z.ag[k] w' (by omega)
        rwa [eF,eT,decide_eq_false AJ] at this
       repeat' (first|refine Wz ?_|((apply CW.aP mixed;(· kernel_rfl);rotate_left;intro w1 ab;replace hw:=Ext.trans hw ab;replace aB:=aB.ext ab;replace dJ:=dJ.ext ab;clear ab;rotate_right))|refine SW.skip rfl rfl rfl rfl ?_|refine SW.br rfl rfl (fun w1 ab=>(cF _ (Ext.trans hw ab))) ?_|exact SW.bx rfl)
       exact ae.aO rfl rfl ⟨_,rfl,hw,by rw [wQ];rfl⟩
    ·refine Wz ?_;refine ae.aO rfl rfl ⟨_,rfl,hw,?_⟩;rw [rP ⟨by rw [← eF,← eT];exact jh,IC,nC,fun i h=>hI i h (by omega),fun i h=>hN i h (by omega)⟩];rfl
   ·rw [AI] at cO;repeat' (first|refine Wz ?_|(refine SW.call rfl rfl (cO _ hw) ?_;intro v w1 ab hv;subst hv;replace hw:=Ext.trans hw ab;replace aB:=aB.ext ab;clear ab))
    refine ae.aO rfl rfl ⟨_,rfl,hw,?_⟩
    rw [gg (fun h=>by
     rw [List.any_eq_true] at AI;obtain ⟨t,h1,h2⟩:=AI;rw [yD (h.types t h1)] at h2;cases h2)];rfl
  ·refine Wz ?_;refine SW.alloc rfl fun b3 w1 ab bH aq => ?_
   have cw:w.heap.size≤b3:=Nat.le_trans hw.size bH
   have j9:b1≠b3:=by have:=aB.lt;omega
   replace hw:=Ext.trans hw ab;replace aB:=aB.ext ab;replace hs:=hs.ext ab;refine SW.ak aq rfl rfl rfl rfl (cJ _) fun w2 cK hg => ?_
   replace hw:=hw.own cw hg;replace hs:=hs.c8 aq hg rfl rfl;replace aB:=aB.grown hg (by simpa using j9);replace aq:=cK;clear cK ab hg bH;refine Wz ?_;refine ae.aO rfl rfl ⟨_,rfl,hw,?_⟩;rw [gg (fun h=>IC h.len)];rfl
 ·rw [lR jh] at hv;obtain ⟨s,rfl,hs⟩:=hv;refine Wz ?_;refine SW.alloc rfl fun b3 w1 ab bH aq => ?_
  have cw:w.heap.size≤b3:=Nat.le_trans hw.size bH
  have j9:b1≠b3:=by have:=aB.lt;omega
  replace hw:=Ext.trans hw ab;replace aB:=aB.ext ab;replace hs:=hs.ext ab;refine SW.ak aq rfl rfl rfl rfl (cJ _) fun w2 cK hg => ?_
  replace hw:=hw.own cw hg;replace hs:=hs.c8 aq hg rfl rfl;replace aB:=aB.grown hg (by simpa using j9);replace aq:=cK;clear cK ab hg bH;refine Wz ?_;refine ae.aO rfl rfl ⟨_,rfl,hw,?_⟩;rw [gg (fun h=>jh (by rw [eF,eT];exact h.ok))];rfl
end Go.Proofs.YtbidkghlpijecaaGreatDoor
