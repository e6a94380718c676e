/-
  Texts of the claim SlabBulks, part 3: what its theorem leans on.
-/
import Derived.Test.YtjimadiidbkohaaGreatDoorPackSlabBulks2
import Derived.Test.YtjimadiidbkohaaGreatDoorPackSlabBulks1
set_option linter.unusedVariables false
set_option linter.unusedSimpArgs false
namespace Go.Proofs.YtjimadiidbkohaaGreatDoor
open Go.RowKit
theorem bK (x lo hi:Int) (w:World) : bt Tryz.prog 20 [.int .i64 x,.int .i64 lo,.int .i64 hi] w fun v _=>v = .bool (decide (lo≤x∧x≤hi)):=by
 refine aM Tryz.func20 rfl Tryz.ntmps20 rfl ?_;repeat' (first|refine Wz ?_|refine SW.bZ rfl rfl rfl (fun h => ?_) (fun h => ?_))
 all_goals refine ae.aO rfl rfl ⟨_,rfl,Ext.refl _,?_⟩
 all_goals simp [*]
theorem gv (A B:Option Addr) (n m c d:Nat) (xs ys:List Int) (w:World) (hx:Sl w 1 bf A n xs) (hy:Sl w 1 bf B m ys) (hn:n≤2305843009213693952) :
 bt Tryz.prog 11 [.slice A n c,.slice B m d] w fun v _=>v = .bool (decide (xs=ys)):=by
 refine aM Tryz.func11 rfl Tryz.ntmps11 rfl ?_;have hl:=hx.len;have yr:=hy.len;have hA:=hx.base;have hB:=hy.base;have hw:=Ext.refl w;repeat' (first|refine Wz ?_|(refine CW.gC rfl (fun h => ?_) (fun h => ?_)))
 ·refine ae.aO rfl rfl ⟨_,rfl,hw,?_⟩;have:xs≠ys:=fun e=>by subst e;omega
  simp [this]
 ·have r6:n=m:=by omega
  refine CW.loop (fun k:Nat=>[(0,.slice A n c),(1,.slice B m d),(5,.int .i64 (k:Int))])
   (fun k w'=>k≤n∧Ext w w' ∧ ∀ j (h1:j<xs.length) (h2:j<ys.length),j<k→xs[j]=ys[j]) (fun k=>n-k) 0 ⟨rfl,rfl,rfl,trivial⟩ ⟨by omega,hw,fun j _ _ h=>by omega⟩ ?_
  clear hw;rintro k w' ⟨hk,hw,Ef⟩
  by_cases cb:k<n
  ·repeat' (first|refine Wz ?_|(first|refine CW.gC rfl (fun h => ?_) (fun h => ?_)|(apply CW.aP mixed;(· kernel_rfl);rotate_left;intro w1 ab;replace hw:=Ext.trans hw ab;clear ab;rotate_right))|refine SW.st (ao hw rfl (hx.one cb rfl)) rfl ?_|refine SW.st (ao hw rfl (hy.one (r6 ▸ cb) rfl)) rfl ?_|exact SW.bx rfl)
   ·refine ae.aO rfl rfl ⟨_,rfl,hw,?_⟩;have:xs≠ys:=fun e=>by subst e;exact h rfl
    simp [this]
   ·refine ae.again (k+1) ⟨rfl,rfl,rfl,trivial⟩ (by omega) ⟨by omega,hw,fun j h1 h2 hj => ?_⟩;by_cases kx:j=k
    ·subst kx;assumption
    ·exact Ef j h1 h2 (by omega)
  ·refine Wz ?_;refine ae.aO rfl rfl ⟨_,rfl,hw,?_⟩;have:xs=ys:=List.ext_getElem (by omega) fun j h1 h2=>Ef j h1 h2 (by omega)
   simp [this]
open Go.RowKit
theorem r7 (A:Option Addr) (n c:Nat) (x k:Int) (w:World) (hn:n≤2305843009213693952) : bt Tryz.prog 107 [.slice A n c,.int .i64 x,.int .i64 k] w fun v _=>v = .bool (decide (0≤x∧0≤k∧k≤n∧x+k≤n)):=by
 refine aM Tryz.func107 rfl Tryz.ntmps107 rfl ?_;repeat' (first|refine Wz ?_|refine SW.bZ rfl rfl rfl (fun h => ?_) (fun h => ?_))
 all_goals refine ae.aO rfl rfl ⟨_,rfl,Ext.refl _,?_⟩
 all_goals congr 1
 all_goals symm
 all_goals first|(refine decide_eq_true ?_;omega)|(refine decide_eq_false ?_;omega)|(rw [decide_eq_decide];omega)
theorem lp (A:Option Addr) (n c:Nat) (x k:Int) (w:World) (hn:n≤2305843009213693952) : bt Tryz.prog 58 [.slice A n c,.int .i64 x,.int .i64 k] w fun v _=>v = .bool (decide (0≤x∧0≤k∧k≤n∧x+k≤n)):=by
 refine aM Tryz.func58 rfl Tryz.ntmps58 rfl ?_;have hw:=Ext.refl w;repeat' (first|refine Wz ?_|refine SW.bZ rfl rfl rfl (fun h => ?_) (fun h => ?_)|(refine SW.call rfl rfl (bK _ _ _ _) ?_;intro v w1 ab hv;subst hv;replace hw:=Ext.trans hw ab;clear ab))
 all_goals refine ae.aO rfl rfl ⟨_,rfl,hw,?_⟩
 all_goals congr 1
 all_goals symm
 all_goals first|(refine decide_eq_true ?_;omega)|(refine decide_eq_false ?_;omega)|(rw [decide_eq_decide];omega)
def pO (w:World) (e sz:Nat) {α:Type} (enc : α → List Value) (n:Nat) (l:List α) : Value→World→Prop:=fun v w' => ∃ A c,v = .slice A n c∧Own w' w.heap.size e sz enc A n c l
theorem gw (A:Option Addr) (n c:Nat) (l:List Int) (w:World) (hl:Sl w 1 bf A n l) (hn:n*8≤140737488355328) : bt Tryz.prog 12 [.slice A n c] w (pO w 3 1 bf n l):=by
 refine aM Tryz.func12 rfl Tryz.ntmps12 rfl ?_;have hw:=Ext.refl w;have hA:=hl.base;refine Wz ?_
 refine CW.loop (fun s:Nat×Option Addr×Nat=>[(0,.slice A n c),(3,.slice s.2.1 s.1 s.2.2),(4,.int .i64 (s.1:Int))])
  (fun s w'=>s.1≤n∧Ext w w'∧Own w' w.heap.size 3 1 bf s.2.1 s.1 s.2.2 (l.take s.1)) (fun s=>n-s.1) (0,none,0) ⟨rfl,rfl,rfl,trivial⟩ ⟨by omega,hw,by simpa using Own.dS _ _ _ _ _ _⟩ ?_
 clear hw;rintro ⟨k,A1,c1⟩ w' ⟨hk,hw,hO⟩
 simp only at hk hO ⊢;by_cases cb:k<n
 ·repeat' (first|refine Wz ?_|refine SW.st (ao hw rfl (hl.one cb rfl)) rfl ?_)
  refine SW.bD rfl rfl rfl rfl rfl fun b w1 ab hb hB => ?_
  replace hw:=Ext.trans hw ab;replace hO:=hO.ext ab;refine SW.append hO (aI.lj (enc:=bf) hB) hw.size rfl rfl rfl (by omega) (by omega) fun A2 c2 w2 gi hg => ?_
  replace hw:=aF hw hg (Nat.le_refl _) hO.aL;refine Wz ?_;refine ae.again (k+1,A2,c2) ⟨rfl,rfl,rfl,trivial⟩ (by simp only;omega) ⟨by simp only;omega,hw,?_⟩;rw [List.take_succ_eq_append_getElem (hl.lt cb)];exact gi
 ·refine Wz ?_;obtain rfl:k=n:=by omega
  refine ae.aO rfl rfl ⟨_,rfl,hw,A1,c1,rfl,?_⟩;rwa [List.take_of_length_le (by have:=hl.len;omega)] at hO
theorem eA (A:Option Addr) (n c:Nat) (l:List Int) (w:World) (hl:Sl w 1 bf A n l) (hn:n*8≤140737488355328) : bt Tryz.prog 42 [.slice A n c] w (pO w 3 1 bf n l):=by
 refine aM Tryz.func42 rfl Tryz.ntmps42 rfl ?_;have hw:=Ext.refl w;refine Wz ?_;refine SW.st (oN rfl rfl) rfl ?_;repeat' (first|refine Wz ?_|(refine CW.cond rfl (fun h => ?_) (fun h => ?_)))
 ·have Eo:n=0:=by
   rcases Nat.eq_zero_or_pos n with h0|h0
   ·exact h0
   ·have:=hl.base h0;simp_all
  subst Eo;have:l=[]:=List.eq_nil_of_length_eq_zero hl.len
  subst this;exact ae.aO rfl rfl ⟨_,rfl,hw,none,0,rfl,Own.dS _ _ _ _ _ _⟩
 ·refine SW.vn rfl fun b w1 ab hb => ?_
  replace hw:=Ext.trans hw ab;refine Wz ?_;refine SW.ry (Nat.zero_add n) (List.nil_append l) (Own.dS w1 w.heap.size _ _ bf (some ⟨b,0,none⟩)) (hl.ext hw) hw.size rfl rfl rfl (by omega) (by omega) fun A2 c2 w2 hO hg => ?_
  replace hw:=aF hw hg (Nat.le_refl _) (by simp [aQ]);refine Wz ?_;exact ae.aO rfl rfl ⟨_,rfl,hw,A2,c2,rfl,hO⟩
open Go.RowKit
open Go.RowKit
open Go.RowKit
def az (b:Block) : List Value:=[.int .i64 b.At,.int .i64 b.Order,.int .i64 b.Ty]
instance:fO az 3:=⟨fun _=>rfl,fun r u hu=>by simp [az] at hu;rcases hu with rfl|rfl|rfl<;>rfl⟩
def a8 (b:Slab) : List Value:=[.int .i64 b.At,.int .i64 b.ag,.int .i64 b.dg]
instance:fO a8 3:=⟨fun _=>rfl,fun r u hu=>by simp [a8] at hu;rcases hu with rfl|rfl|rfl<;>rfl⟩
def Block.yw (r:Block) : List Int:=[r.At,r.Order,r.Ty]
theorem Block.Cl {r s:Block}:r.yw=s.yw↔r=s:=by cases r;cases s;simp [Block.yw]
theorem iK (A:Option Addr) (n c:Nat) (l:List Block) (w:World) (hl:Sl w 3 az A n l) (hn:n*24≤140737488355328) : bt Tryz.prog 71 [.slice A n c] w (pO w 77 3 az n l):=by
 refine aM Tryz.func71 rfl Tryz.ntmps71 rfl ?_;have hw:=Ext.refl w;refine Wz ?_;refine SW.st (oN rfl rfl) rfl ?_;repeat' (first|refine Wz ?_|(refine CW.cond rfl (fun h => ?_) (fun h => ?_)))
 ·have Eo:n=0:=by
   rcases Nat.eq_zero_or_pos n with h0|h0
   ·exact h0
   ·have:=hl.base h0;simp_all
  subst Eo;have:l=[]:=List.eq_nil_of_length_eq_zero hl.len
  subst this;exact ae.aO rfl rfl ⟨_,rfl,hw,none,0,rfl,Own.dS _ _ _ _ _ _⟩
 ·refine SW.vn rfl fun b w1 ab hb => ?_
  replace hw:=Ext.trans hw ab;refine Wz ?_;refine SW.ry (Nat.zero_add n) (List.nil_append l) (Own.dS w1 w.heap.size _ _ az (some ⟨b,0,none⟩)) (hl.ext hw) hw.size rfl rfl rfl (by omega) (by omega) fun A2 c2 w2 hO hg => ?_
  replace hw:=aF hw hg (Nat.le_refl _) (by simp [aQ]);refine Wz ?_;exact ae.aO rfl rfl ⟨_,rfl,hw,A2,c2,rfl,hO⟩
theorem lR (A:Option Addr) (n c:Nat) (l:List Block) (w:World) (hl:Sl w 3 az A n l) (hn:n*24≤140737488355328) : bt Tryz.prog 21 [.slice A n c] w (pO w 77 3 az n l):=by
 refine aM Tryz.func21 rfl Tryz.ntmps21 rfl ?_;have hw:=Ext.refl w;have hA:=hl.base;refine Wz ?_
 refine CW.loop (fun s:Nat×Option Addr×Nat=>[(0,.slice A n c),(3,.slice s.2.1 s.1 s.2.2),(4,.int .i64 (s.1:Int))])
  (fun s w'=>s.1≤n∧Ext w w'∧Own w' w.heap.size 77 3 az s.2.1 s.1 s.2.2 (l.take s.1)) (fun s=>n-s.1) (0,none,0) ⟨rfl,rfl,rfl,trivial⟩ ⟨by omega,hw,by simpa using Own.dS _ _ _ _ _ _⟩ ?_
 clear hw;rintro ⟨k,A1,c1⟩ w' ⟨hk,hw,hO⟩
 simp only at hk hO ⊢;by_cases cb:k<n
 ·repeat' (first|refine Wz ?_|refine SW.st (aH hw rfl rfl ((hl.all cb))) rfl ?_)
  refine SW.bD rfl rfl rfl rfl rfl fun b w1 ab hb hB => ?_
  replace hw:=Ext.trans hw ab;replace hO:=hO.ext ab;refine SW.append hO (aI.lj (enc:=az) hB) hw.size rfl rfl rfl (by omega) (by omega) fun A2 c2 w2 gi hg => ?_
  replace hw:=aF hw hg (Nat.le_refl _) hO.aL;refine Wz ?_;refine ae.again (k+1,A2,c2) ⟨rfl,rfl,rfl,trivial⟩ (by simp only;omega) ⟨by simp only;omega,hw,?_⟩;rw [List.take_succ_eq_append_getElem (hl.lt cb)];exact gi
 ·refine Wz ?_;obtain rfl:k=n:=by omega
  refine ae.aO rfl rfl ⟨_,rfl,hw,A1,c1,rfl,?_⟩;rwa [List.take_of_length_le (by have:=hl.len;omega)] at hO
theorem mK (A B:Option Addr) (n m c d:Nat) (xs ys:List Block) (w:World) (hx:Sl w 3 az A n xs) (hy:Sl w 3 az B m ys) (hn:n≤2305843009213693952) :
 bt Tryz.prog 32 [.slice A n c,.slice B m d] w fun v _=>v = .bool (decide (xs=ys)):=by
 refine aM Tryz.func32 rfl Tryz.ntmps32 rfl ?_;have hl:=hx.len;have yr:=hy.len;have hA:=hx.base;have hB:=hy.base;have hw:=Ext.refl w;repeat' (first|refine Wz ?_|(refine CW.gC rfl (fun h => ?_) (fun h => ?_)))
 ·refine ae.aO rfl rfl ⟨_,rfl,hw,?_⟩;have:xs≠ys:=fun e=>by subst e;omega
  simp [this]
 ·have r6:n=m:=by omega
  refine CW.loop (fun k:Nat=>[(0,.slice A n c),(1,.slice B m d),(5,.int .i64 (k:Int))])
   (fun k w'=>k≤n∧Ext w w' ∧ ∀ j (h1:j<xs.length) (h2:j<ys.length),j<k→xs[j]=ys[j]) (fun k=>n-k) 0 ⟨rfl,rfl,rfl,trivial⟩ ⟨by omega,hw,fun j _ _ h=>by omega⟩ ?_
  clear hw;rintro k w' ⟨hk,hw,Ef⟩
  by_cases cb:k<n
  ·repeat' (first|refine Wz ?_|(first|refine CW.gC rfl (fun h => ?_) (fun h => ?_)|(apply CW.aP mixed;(· kernel_rfl);rotate_left;intro w1 ab;replace hw:=Ext.trans hw ab;clear ab;rotate_right))|refine SW.st (aH hw rfl rfl ((hx.all cb))) rfl ?_|refine SW.st (aH hw rfl rfl ((hy.all (r6 ▸ cb)))) rfl ?_|(refine SW.st (Cj (xs[k]'(hx.lt cb)).yw (ys[k]'(hy.lt (r6 ▸ cb))).yw rfl rfl rfl rfl) rfl ?_)|exact SW.bx rfl)
   ·refine ae.aO rfl rfl ⟨_,rfl,hw,?_⟩;have:xs≠ys:=fun e=>by subst e;exact h rfl
    simp [this]
   ·refine ae.again (k+1) ⟨rfl,rfl,rfl,trivial⟩ (by omega) ⟨by omega,hw,fun j h1 h2 hj => ?_⟩;by_cases kx:j=k
    ·subst kx;exact Block.Cl.1 (by assumption)
    ·exact Ef j h1 h2 (by omega)
  ·refine Wz ?_;refine ae.aO rfl rfl ⟨_,rfl,hw,?_⟩
   have:xs=ys:=by
    apply List.ext_getElem (by omega);intro j h1 h2;exact Ef j h1 h2 (by omega)
   simp [this]
def pw (o:Int) : Int:=2 ^ o.toNat
theorem dZ {o:Int} (h0 : 0≤o) (h4:o≤4) : (o=0∧pw o=1)∨(o=1∧pw o=2)∨(o=2∧pw o=4)∨(o=3∧pw o=8)∨(o=4∧pw o=16):=by
 have:o=0∨o=1∨o=2∨o=3∨o=4:=by omega
 rcases this with rfl|rfl|rfl|rfl|rfl<;>decide
theorem bH {o:Int} (h0 : 0≤o) (h4:o≤4) : 1≤pw o∧pw o≤16:=by rcases dZ h0 h4 with h|h|h|h|h<;>omega
theorem jq {o:Int} (h0 : 0≤o) (h4:o≤4) : pw (o+1)=2*pw o:=by
 have:o=0∨o=1∨o=2∨o=3∨o=4:=by omega
 rcases this with rfl|rfl|rfl|rfl|rfl<;>decide
def beside (a o:Int) : Int:=if a % (2*pw o)=0 then a+pw o else a-pw o
theorem oS:∀ a<256,∀ o<4,a % 2 ^ o=0→((a ^^^ 2 ^ o:Nat) : Int)=if (a:Int) % (2*2 ^ o)=0 then (a:Int)+2 ^ o else (a:Int)-2 ^ o:=by decide +kernel
theorem yx {a:Nat} {o:Int} (ha:a<256) (h0 : 0≤o) (h4:o<4) (h:(a:Int) % pw o=0) : ((a ^^^ 2 ^ o.toNat:Nat) : Int)=beside a o:=by
 have:o=0∨o=1∨o=2∨o=3:=by omega
 rcases this with rfl|rfl|rfl|rfl
 ·exact oS a ha 0 (by omega) (by simp only [pw] at h;omega)
 ·exact oS a ha 1 (by omega) (by
   rw [show pw 1=2 by decide] at h;simp;omega)
 ·exact oS a ha 2 (by omega) (by
   rw [show pw 2=4 by decide] at h;simp;omega)
 ·exact oS a ha 3 (by omega) (by
   rw [show pw 3=8 by decide] at h;simp;omega)
def e8 (f t a o:Int) : Prop:=0≤o∧o≤4∧f≤a∧a<t∧a % pw o=0
instance (f t a o:Int) : Decidable (e8 f t a o):=inferInstanceAs (Decidable (_∧_))
def fy (t:Int) : Prop:=0≤t∧t≤2
instance (t:Int) : Decidable (fy t):=inferInstanceAs (Decidable (_∧_))
def ij (a b:Block) : Prop:=a.At+pw a.Order≤b.At ∧ ¬ (b.Order<4∧a.Order=b.Order∧a.At=beside b.At b.Order)
instance (a b:Block) : Decidable (ij a b):=inferInstanceAs (Decidable (_∧_))
def dG (f t:Int) (b:Block) : Prop:=e8 f t b.At b.Order∧fy b.Ty
instance (f t:Int) (b:Block) : Decidable (dG f t b):=inferInstanceAs (Decidable (_∧_))
def jH (f t:Int) : Prop:=0≤f∧f≤t∧t≤256∧f % 16=0∧t % 16=0
instance (f t:Int) : Decidable (jH f t):=inferInstanceAs (Decidable (_∧_))
structure bT (z:aq) : Prop where
 ok:jH z.aV z.To
 len : 8*(z.Types.length:Int)=z.To-z.aV
 types:∀ t∈z.Types,fy t
 cV:∀ (i:Nat) (h:i<z.ag.length),dG z.aV z.To z.ag[i]
 next:∀ (i:Nat) (h:i+1<z.ag.length),ij z.ag[i] z.ag[i+1]
noncomputable def ev (z:aq) : Bool := @decide (bT z) (Classical.propDecidable _)
theorem rA {z:aq} (h:bT z) : ev z=true:=by unfold ev;exact @decide_eq_true _ (Classical.propDecidable _) h
theorem gx {z:aq} (h : ¬ bT z) : ev z=false:=by unfold ev;exact @decide_eq_false _ (Classical.propDecidable _) h
theorem dw {z:aq}:ev z=true↔bT z:=by
 by_cases h:bT z
 ·simp [rA h,h]
 ·simp [gx h,h]
theorem Cm {f t:Int} {a b:Block} (ha:dG f t a) (hb:dG f t b) (h:a.At+pw a.Order≤b.At) :
 (b.Order<4∧a.Order=b.Order∧a.At=beside b.At b.Order)↔(b.Order<4∧a.Order=b.Order∧a.At+pw b.Order=b.At∧a.At % pw (b.Order+1)=0):=by
 obtain ⟨⟨h1,h2,h3,h4,h5⟩,_⟩:=ha;obtain ⟨⟨g1,g2,g3,g4,g5⟩,_⟩:=hb;rw [jq g1 g2];unfold beside;constructor
 ·rintro ⟨e1,e2,e3⟩
  refine ⟨e1,e2,?_⟩;rw [e2] at h5 h;have hp:=dZ g1 g2;generalize pw b.Order=q at *
  rcases hp with ⟨e,rfl⟩|⟨e,rfl⟩|⟨e,rfl⟩|⟨e,rfl⟩|⟨e,rfl⟩<;>split at e3<;>omega
 ·rintro ⟨e1,e2,e3,e4⟩
  refine ⟨e1,e2,?_⟩;rw [e2] at h5 h;have hp:=dZ g1 g2;generalize pw b.Order=q at *
  rcases hp with ⟨e,rfl⟩|⟨e,rfl⟩|⟨e,rfl⟩|⟨e,rfl⟩|⟨e,rfl⟩<;>split<;>omega
def idxOf {α:Type} (p : α → Bool) (l:List α) : Int:=if l.any p then (l.findIdx p:Int) else -1
def dK (l:List Block) : Int:=(l.map fun b=>pw b.Order).sum
theorem lS (l:List Block) (k:Nat) (h:k<l.length) : dK (l.take (k+1))=dK (l.take k)+pw l[k].Order:=by
 unfold dK;rw [List.take_succ_eq_append_getElem h,List.map_append,List.sum_append];simp
theorem jr {z:aq} (h:bT z) : ∀ k,k≤z.ag.length→0≤dK (z.ag.take k)∧dK (z.ag.take k)≤16*(k:Int)
 | 0,_=>by simp [dK]
 | k+1,hk=>by
   have ih:=jr h k (by omega);have hb:=(h.cV k (by omega)).1;have:=bH hb.1 hb.2.1
   rw [lS _ _ (by omega)];omega
theorem zV {z:aq} {a:Int} (hz:bT z) (h1:z.aV≤a) (h2:a<z.To) : ∃ k:Nat,(a-z.aV) / 8=k∧k<z.Types.length:=by
 have:=hz.len
 exact ⟨((a-z.aV) / 8).toNat,by omega,by omega⟩
open Go.RowKit
structure fR where
 A:Option Addr
 n:Nat
 c:Nat
def fR.v (s:fR) : Value := .slice s.A s.n s.c
def fR.nil:fR:=⟨none,0,0⟩
structure ct where
 aV:Int
 To:Int
 ag:fR
 Types:fR
def bo (z:ct) : List Value:=[.int .i64 z.aV,.int .i64 z.To,z.ag.v,z.Types.v]
instance:fO bo 4:=⟨fun _=>rfl,fun r u hu=>by simp [bo,fR.v] at hu;rcases hu with rfl|rfl|rfl|rfl<;>rfl⟩
theorem cw (r:ct) : ∀ v∈bo r,v.oneCell'=true:=fO.one (enc:=bo) r
structure tY (w:World) (r:ct) (z:aq) : Prop where
 from_:r.aV=z.aV
 ka:r.To=z.To
 free:Sl w 3 az r.ag.A r.ag.n z.ag
 types:Sl w 1 bf r.Types.A r.Types.n z.Types
structure fa (w:World) (lo:Nat) (r:ct) (z:aq) : Prop where
 from_:r.aV=z.aV
 ka:r.To=z.To
 free:Own w lo 77 3 az r.ag.A r.ag.n r.ag.c z.ag
 types:Own w lo 3 1 bf r.Types.A r.Types.n r.Types.c z.Types
theorem tY.ext {w w':World} {r:ct} {z:aq} (h:tY w r z) (hx:Ext w w') : tY w' r z:=⟨h.from_,h.ka,h.free.ext hx,h.types.ext hx⟩
theorem fa.ext {w w':World} {lo:Nat} {r:ct} {z:aq} (h:fa w lo r z) (hx:Ext w w') : fa w' lo r z:=⟨h.from_,h.ka,h.free.ext hx,h.types.ext hx⟩
theorem fa.low {w:World} {lo nw:Nat} {r:ct} {z:aq} (h:fa w lo r z) (hl:nw≤lo) : fa w nw r z:=⟨h.from_,h.ka,h.free.low hl,h.types.low hl⟩
theorem fa.rd {w:World} {lo:Nat} {r:ct} {z:aq} (h:fa w lo r z) : tY w r z:=⟨h.from_,h.ka,h.free.sl,h.types.sl⟩
theorem fa.cV {w w':World} {lo b t:Nat} {r:ct} {z:aq} {cs:List Value} (h:fa w lo r z) (hB:aI w b t cs) (hg:w.grownBy w' (some b)) (h1:Nat.beq t 77=false) (h2:Nat.beq t 3=false) : fa w' lo r z :=
 ⟨h.from_,h.ka,h.free.grown hg (.inr (h.free.dm hB h1)),h.types.grown hg (.inr (h.types.dm hB h2))⟩
def aq.zero:aq:=⟨0,0,[],[]⟩
def ct.zero:ct:=⟨0,0,.nil,.nil⟩
theorem fa.zero (w:World) (lo:Nat) : fa w lo .zero .zero:=⟨rfl,rfl,Own.dS _ _ _ _ _ _,Own.dS _ _ _ _ _ _⟩
theorem vt (r s:ct) (a b:aq) (w:World) (ha:tY w r a) (hb:tY w s b) (hn:r.ag.n≤2305843009213693952) (hm:r.Types.n≤2305843009213693952) :
 bt Tryz.prog 33 [.agg (bo r).toArray,.agg (bo s).toArray] w fun v _=>v = .bool (decide (a=b)):=by
 refine aM Tryz.func33 rfl Tryz.ntmps33 rfl ?_;have e1:=ha.from_;have e2:=ha.ka;have e3:=hb.from_;have e4:=hb.ka;refine CW.seq (CW.region (SW.box rfl rfl fun b1 w1 hw aB hB => ?_));refine SW.box rfl rfl fun b2 w2 cJ aK pI => ?_
 replace hw:=Ext.trans hw cJ;replace hB:=hB.ext cJ;repeat' (first|refine Wz ?_|refine SW.bZ rfl rfl rfl (fun h => ?_) (fun h => ?_)|((first|refine SW.call rfl rfl (mK _ _ _ _ _ _ _ _ _ (ha.free.ext hw) (hb.free.ext hw) hn) ?_|refine SW.call rfl rfl (gv _ _ _ _ _ _ _ _ _ (ha.types.ext hw) (hb.types.ext hw) hm) ?_);intro v w1 ab hv;subst hv;replace hw:=Ext.trans hw ab;replace hB:=hB.ext ab;replace pI:=pI.ext ab;clear ab))
 all_goals refine ae.aO rfl rfl ⟨_,rfl,hw,?_⟩
 all_goals obtain ⟨a1,a2,a3,a4⟩:=a
 all_goals obtain ⟨b1,b2,b3,b4⟩:=b
 all_goals simp_all
theorem pP (r:ct) (z:aq) (w:World) (hr:tY w r z) (hn:r.ag.n*24≤140737488355328) (hm:r.Types.n*8≤140737488355328) :
 bt Tryz.prog 72 [.agg (bo r).toArray] w fun v w' => ∃ s,v = .agg (bo s).toArray∧fa w' w.heap.size s z∧s.ag.n=r.ag.n∧s.Types.n=r.Types.n:=by
 refine aM Tryz.func72 rfl Tryz.ntmps72 rfl ?_;refine CW.seq (CW.region (SW.box rfl rfl fun b w1 hw hb hB => ?_));refine SW.alloc rfl fun b2 w2 cJ aK pI => ?_
 have pQ:w.heap.size≤b2:=Nat.le_trans hw.size aK
 have cG:b2≠b:=by have:=hB.lt;omega
 replace hw:=Ext.trans hw cJ;replace hB:=hB.ext cJ;have D6:=hb;refine Wz ?_;refine CW.any 7 mixed (cq (by kernel_rfl)) rfl fun w1 ab aG => ?_
 replace hw:=Ext.trans hw ab;replace hB:=hB.ext ab;replace pI:=pI.ext ab;clear ab;refine Wa ?_;refine SA.one 2 rfl (by kernel_rfl) rfl ?_;refine SW.call rfl rfl (iK _ _ _ _ _ (hr.free.ext hw) hn) fun v w4 aj hv => ?_
 obtain ⟨X,c4,rfl,hX⟩:=hv;replace hX:=hX.low hw.size;replace hw:=Ext.trans hw aj;replace hB:=hB.ext aj;replace pI:=pI.ext aj;refine SW.nil (ae.sa aj ?_);refine Wa ?_;refine SA.one 5 rfl (by kernel_rfl) rfl ?_;refine SW.call rfl rfl (eA _ _ _ _ _ (hr.types.ext hw) hm) fun v w4 aj hv => ?_
 obtain ⟨Y,d4,rfl,hY⟩:=hv;replace hY:=hY.low hw.size;replace hX:=hX.ext aj;replace hw:=Ext.trans hw aj;replace hB:=hB.ext aj;replace pI:=pI.ext aj;refine SW.nil (ae.sa aj ?_);refine SA.done (by kernel_rfl) ?_;skip;refine SW.bB (i:=2) hB rfl rfl rfl rfl fun w5 qZ hg => ?_
 replace hw:=hw.own D6 hg;replace hX:=hX.grown hg (.inr (hX.dm hB rfl));replace hY:=hY.grown hg (.inr (hY.dm hB rfl));replace pI:=pI.grown hg (by simpa using cG);refine Wz ?_;refine SW.bB (i:=3) qZ rfl rfl rfl rfl fun w6 J8 hg => ?_
 replace hw:=hw.own D6 hg;replace hX:=hX.grown hg (.inr (hX.dm qZ rfl));replace hY:=hY.grown hg (.inr (hY.dm qZ rfl));replace pI:=pI.grown hg (by simpa using cG);repeat' (first|refine Wz ?_|refine SW.st (aY rfl rfl ((fun _ _=>J8.cell))) rfl ?_)
 refine SW.ap pI rfl rfl rfl rfl (cw ⟨r.aV,r.To,⟨X,r.ag.n,c4⟩,⟨Y,r.Types.n,d4⟩⟩) fun w7 bL hg => ?_
 replace hw:=hw.own pQ hg;replace hX:=hX.grown hg (.inr (hX.dm pI rfl));replace hY:=hY.grown hg (.inr (hY.dm pI rfl));refine Wz ?_;exact ae.mn rfl rfl bL rfl ⟨_,rfl,hw,⟨r.aV,r.To,⟨X,r.ag.n,c4⟩,⟨Y,r.Types.n,d4⟩⟩,rfl,⟨hr.from_,hr.ka,hX,hY⟩,rfl,rfl⟩
def oT (f t:Int) : Int×aq:=if jH f t then (0,⟨f,t,[],List.replicate ((t-f) / 8).toNat 1⟩) else (1,.zero)
def rB (lo:Nat) (r:Int×aq) (v:Value) (w:World) : Prop := ∃ s:ct,v = .tuple #[.agg (bo s).toArray,.int .i64 r.1]∧fa w lo s r.2
theorem lT {f t:Int} (h : ¬ jH f t) : oT f t=(1,.zero):=if_neg h
theorem lU {f t:Int} (h:jH f t) : oT f t=(0,⟨f,t,[],List.replicate ((t-f) / 8).toNat 1⟩):=if_pos h
theorem mL {x:Int} (h : 0≤x) : x.tmod 16=x % 16:=Int.tmod_eq_emod_of_nonneg h
theorem Ep (k i:Nat) (h:i<k) : (List.replicate i (1:Int)++List.replicate (k-i) 0).set i 1=List.replicate (i+1) 1++List.replicate (k-(i+1)) 0:=by
 apply List.ext_getElem (by simp;omega);intro j h1 h2;rw [List.getElem_set];by_cases hj:i=j
 ·subst hj;simp
 ·simp only [hj,if_false,List.getElem_append,List.length_replicate,List.getElem_replicate];by_cases h3:j<i
  ·simp [h3,show j<i+1 by omega]
  ·simp [h3,show ¬ j<i+1 by omega]
theorem Cn (f t:Int) (w:World) (hf : -9223372036854775808≤f∧f≤9223372036854775807) (ht : -9223372036854775808≤t∧t≤9223372036854775807) : bt Tryz.prog 91 [.int .i64 f,.int .i64 t] w (rB w.heap.size (oT f t)):=by
 refine aM Tryz.func91 rfl Tryz.ntmps91 rfl ?_;refine CW.seq (CW.region (SW.alloc rfl fun b4 w1 hw my bY => ?_));have mM:=my;by_cases iT:jH f t
 ·obtain ⟨h1,h2,h3,h4,h5⟩:=id iT;have m1:=mL h1;have m2:=mL (show 0≤t by omega);rw [lU iT];obtain ⟨k,hk⟩ : ∃ k:Nat,(t-f) / 8=k:=⟨((t-f) / 8).toNat,by omega⟩;refine Wz ?_;refine SW.make (enc:=bf) (k:=k) 0 rfl rfl (by omega) (by omega) (by omega) rfl fun A c w2 cJ hO => ?_
  replace hO:=hO.low hw.size;(replace hw:=Ext.trans hw cJ;replace bY:=bY.ext cJ);refine Wz ?_;refine SW.alloc rfl fun b6 w1 ab fb ax => ?_
  have dr:w.heap.size≤b6:=Nat.le_trans hw.size fb
  have vu:b4≠b6:=by have:=bY.lt;omega
  replace hw:=Ext.trans hw ab;replace bY:=bY.ext ab;replace hO:=hO.ext ab;refine SW.ap ax rfl rfl rfl rfl (cw ⟨f,t,.nil,⟨A,k,c⟩⟩) fun w2 gH hg => ?_
  replace hw:=hw.own dr hg;replace hO:=hO.grown hg (.inr (hO.dm ax rfl));replace bY:=bY.grown hg (by simpa using vu);replace ax:=gH;clear gH ab hg fb;have hA:=hO.sl.base;refine Wz ?_
  refine CW.loop (fun i:Nat=>[(4,.pointer (some ⟨b4,0,none⟩)),(6,.pointer (some ⟨b6,0,none⟩)),(40,.int .i64 (k:Int)),(41,.int .i64 (i:Int))])
   (fun i w'=>i≤k∧Ext w w'∧aI w' b4 59 (bo .zero)∧aI w' b6 59 (bo ⟨f,t,.nil,⟨A,k,c⟩⟩)∧Own w' w.heap.size 3 1 bf A k c (List.replicate i 1++List.replicate (k-i) 0)) (fun i=>k-i) 0
   ⟨rfl,rfl,rfl,rfl,trivial⟩ ⟨by omega,hw,bY,ax,by simpa using hO⟩ ?_
  clear hw bY ax hO;rintro i w' ⟨hi,hw,bY,ax,hO⟩
  have hA:=hO.sl.base;by_cases zW:i<k
  ·refine Wz ?_;refine SW.j8 i hO rfl rfl zW fun w3 Hq hg => ?_
   replace hw:=aF hw hg (Nat.le_refl _) hO.aL;replace bY:=bY.grown hg (fun e=>hO.dm bY rfl e.symm);replace ax:=ax.grown hg (fun e=>hO.dm ax rfl e.symm);rw [Ep k i zW] at Hq;refine Wz ?_;exact ae.again (i+1) ⟨rfl,rfl,rfl,rfl,trivial⟩ (by omega) ⟨by omega,hw,bY,ax,Hq⟩
  ·obtain rfl:i=k:=by omega
   simp only [Nat.sub_self,List.replicate_zero,List.append_nil] at hO;refine Wz ?_;refine SW.ap bY rfl rfl rfl rfl (cw ⟨f,t,.nil,⟨A,i,c⟩⟩) fun w5 bL hg => ?_
   replace hw:=hw.own mM hg;replace hO:=hO.grown hg (.inr (hO.dm bY rfl));refine Wz ?_;refine ae.fU rfl rfl rfl bL rfl ⟨_,rfl,hw,⟨f,t,.nil,⟨A,i,c⟩⟩,rfl,rfl,rfl,Own.dS _ _ _ _ _ _,?_⟩;simp only [hk,Int.toNat_natCast];exact hO
 ·rw [lT iT];unfold jH at iT;have m1:=fun h => @mL f h
  have m2:=fun h => @mL t h
  by_cases h1 : 0≤f
  ·have m1:=m1 h1;by_cases h2:f≤t
   ·have m2:=m2 (by omega);repeat' (first|refine Wz ?_|refine SW.bZ rfl rfl rfl (fun h => ?_) (fun h => ?_)|refine SW.eG rfl rfl rfl (fun h => ?_) (fun h => ?_))
    all_goals
     first
      | (exfalso;omega)
      | (refine SW.ap bY rfl rfl rfl rfl (cw .zero) fun w5 bL hg => ?_
         replace hw:=hw.own mM hg;refine Wz ?_;exact ae.fU rfl rfl rfl bL rfl ⟨_,rfl,hw,.zero,rfl,fa.zero _ _⟩)
   ·repeat' (first|refine Wz ?_|refine SW.bZ rfl rfl rfl (fun h => ?_) (fun h => ?_))
    all_goals
     refine SW.ap bY rfl rfl rfl rfl (cw .zero) fun w5 bL hg => ?_
     replace hw:=hw.own mM hg;refine Wz ?_;exact ae.fU rfl rfl rfl bL rfl ⟨_,rfl,hw,.zero,rfl,fa.zero _ _⟩
  ·refine Wz ?_
   all_goals
    refine SW.ap bY rfl rfl rfl rfl (cw .zero) fun w5 bL hg => ?_
    replace hw:=hw.own mM hg;refine Wz ?_;exact ae.fU rfl rfl rfl bL rfl ⟨_,rfl,hw,.zero,rfl,fa.zero _ _⟩
open Go.RowKit
theorem wP (f t:Int) (w:World) (hf : -9223372036854775808≤f∧f≤9223372036854775807) (ht : -9223372036854775808≤t∧t≤9223372036854775807) : bt Tryz.prog 110 [.int .i64 f,.int .i64 t] w (rB w.heap.size (oT f t)):=by
 refine aM Tryz.func110 rfl Tryz.ntmps110 rfl ?_;refine CW.seq (CW.region (SW.alloc rfl fun b4 w1 hw my bY => ?_));have mM:=my;by_cases iT:jH f t
 ·obtain ⟨h1,h2,h3,h4,h5⟩:=id iT;have m1:=mL h1;have m2:=mL (show 0≤t by omega);rw [lU iT];obtain ⟨k,hk⟩ : ∃ k:Nat,(t-f) / 8=k:=⟨((t-f) / 8).toNat,by omega⟩;repeat' (first|refine Wz ?_|(refine SW.call rfl rfl (bK _ _ _ _) ?_;intro v w1 ab hv;subst hv;replace hw:=Ext.trans hw ab;replace bY:=bY.ext ab;clear ab))
  refine SW.alloc rfl fun b6 w1 ab fb ax => ?_
  have dr:w.heap.size≤b6:=Nat.le_trans hw.size fb
  have vu:b4≠b6:=by have:=bY.lt;omega
  replace hw:=Ext.trans hw ab;replace bY:=bY.ext ab;refine SW.ap ax rfl rfl rfl rfl (cw ⟨f,t,.nil,.nil⟩) fun w2 gH hg => ?_
  replace hw:=hw.own dr hg;replace bY:=bY.grown hg (by simpa using vu);replace ax:=gH;clear gH ab hg fb;refine Wz ?_
  refine CW.loop (fun s:Nat×Option Addr×Nat=>[(1,.int .i64 t),(4,.pointer (some ⟨b4,0,none⟩)),(6,.pointer (some ⟨b6,0,none⟩)),(7,.int .i64 (f+8*(s.1:Int)))])
   (fun s w'=>s.1≤k∧Ext w w'∧aI w' b4 59 (bo .zero)∧aI w' b6 59 (bo ⟨f,t,.nil,⟨s.2.1,s.1,s.2.2⟩⟩)∧Own w' w.heap.size 3 1 bf s.2.1 s.1 s.2.2 (List.replicate s.1 1)) (fun s=>k-s.1) (0,none,0)
   ⟨rfl,rfl,rfl,by simp;rfl,trivial⟩ ⟨by omega,hw,bY,ax,Own.dS _ _ _ _ _ _⟩ ?_
  clear hw bY ax;rintro ⟨i,A,c⟩ w' ⟨hi,hw,bY,ax,hO⟩
  simp only at hi ax hO ⊢;by_cases zW:i<k
  ·refine Wz ?_;refine SW.bD rfl rfl rfl rfl rfl fun b w1 ab hb hB => ?_
   (replace hw:=Ext.trans hw ab;replace bY:=bY.ext ab;replace ax:=ax.ext ab;replace hO:=hO.ext ab);refine SW.append hO (aI.lj (enc:=bf) (x:=1) hB) hw.size rfl rfl rfl (by omega) (by omega) fun A2 c2 w2 gi hg => ?_
   replace hw:=aF hw hg (Nat.le_refl _) hO.aL;replace bY:=bY.grown hg (fun e=>hO.dm bY rfl e.symm);replace ax:=ax.grown hg (fun e=>hO.dm ax rfl e.symm);refine Wz ?_;refine SW.bB (i:=3) ax rfl rfl rfl rfl fun w5 gH hg => ?_
   replace hw:=hw.own dr hg;replace gi:=gi.grown hg (.inr (gi.dm ax rfl));replace bY:=bY.grown hg (by simpa using vu);refine Wz ?_;refine ae.again (i+1,A2,c2) ⟨rfl,rfl,rfl,by simp only [get];simp;omega,trivial⟩ (by simp only;omega) ⟨by simp only;omega,hw,bY,gH,?_⟩;simp only [List.replicate_succ'];exact gi
  ·obtain rfl:i=k:=by omega
   refine Wz ?_;refine SW.ap bY rfl rfl rfl rfl (cw ⟨f,t,.nil,⟨A,i,c⟩⟩) fun w5 bL hg => ?_
   replace hw:=hw.own mM hg;replace hO:=hO.grown hg (.inr (hO.dm bY rfl));refine Wz ?_;refine ae.fU rfl rfl rfl bL rfl ⟨_,rfl,hw,⟨f,t,.nil,⟨A,i,c⟩⟩,rfl,rfl,rfl,Own.dS _ _ _ _ _ _,?_⟩;simp only [hk,Int.toNat_natCast];exact hO
 ·rw [lT iT];unfold jH at iT;have m1:=fun h => @mL f h
  have m2:=fun h => @mL t h
  by_cases h1 : 0≤f
  ·have m1:=m1 h1;by_cases h2:f≤t
   ·have m2:=m2 (by omega);repeat' (first|refine Wz ?_|refine SW.eG rfl rfl rfl (fun h => ?_) (fun h => ?_)|(refine SW.call rfl rfl (bK _ _ _ _) ?_;intro v w1 ab hv;subst hv;replace hw:=Ext.trans hw ab;replace bY:=bY.ext ab;clear ab))
    all_goals
     first
      | (exfalso;omega)
      | (refine SW.ap bY rfl rfl rfl rfl (cw .zero) fun w5 bL hg => ?_
         replace hw:=hw.own mM hg;refine Wz ?_;exact ae.fU rfl rfl rfl bL rfl ⟨_,rfl,hw,.zero,rfl,fa.zero _ _⟩)
   ·repeat' (first|refine Wz ?_|refine SW.eG rfl rfl rfl (fun h => ?_) (fun h => ?_)|(refine SW.call rfl rfl (bK _ _ _ _) ?_;intro v w1 ab hv;subst hv;replace hw:=Ext.trans hw ab;replace bY:=bY.ext ab;clear ab))
    all_goals
     refine SW.ap bY rfl rfl rfl rfl (cw .zero) fun w5 bL hg => ?_
     replace hw:=hw.own mM hg;refine Wz ?_;exact ae.fU rfl rfl rfl bL rfl ⟨_,rfl,hw,.zero,rfl,fa.zero _ _⟩
  ·repeat' (first|refine Wz ?_|(refine SW.call rfl rfl (bK _ _ _ _) ?_;intro v w1 ab hv;subst hv;replace hw:=Ext.trans hw ab;replace bY:=bY.ext ab;clear ab))
   all_goals
    refine SW.ap bY rfl rfl rfl rfl (cw .zero) fun w5 bL hg => ?_
    replace hw:=hw.own mM hg;refine Wz ?_;exact ae.fU rfl rfl rfl bL rfl ⟨_,rfl,hw,.zero,rfl,fa.zero _ _⟩
open Go.RowKit
section
variable {P:Program} {L:Env} {w:World} {d:Option Nat} {T:TypeId} {pos:String} {af:Array Edge} {g:Option (Nat×Bool)}
theorem F9 {t ty:TypeId} {x y:Operand} {i j:Int} (a b:Nat) (hx:cd L x=some (.int .i64 i)) (hy:cd L y=some (.int .i64 j)) (ha:i=(a:Int)) (hb:j=(b:Int)) (iB:a<9223372036854775808) (jR:b<9223372036854775808) :
 St P ⟨d,.binOp .xor t x y ty,T,pos,af,g⟩ L w (.int .i64 ((a ^^^ b:Nat) : Int)) :=
 ⟨fun n A hA w' _=>by
  have e1:=hA.eval hx;have e2:=hA.eval hy;subst ha hb;generalize A.eval = ρ at *
  have c8:a ^^^ b<2 ^ 63:=Nat.xor_lt_two_pow (by omega) (by omega)
  have e:(BitVec.ofInt 64 (a:Int) ^^^ BitVec.ofInt 64 (b:Int)).toNat=a ^^^ b:=by
   rw [BitVec.toNat_xor,BitVec.ofInt_natCast,BitVec.ofInt_natCast,BitVec.toNat_ofNat,BitVec.toNat_ofNat,Nat.mod_eq_of_lt (by omega),Nat.mod_eq_of_lt (by omega)]
  have aB:(Op.intBits .xor .i64 (a:Int) (b:Int)).run P w' = .ok (.int .i64 ((a ^^^ b:Nat) : Int)) w':=by
   have:Op.intBits .xor .i64 (a:Int) (b:Int)=(pure (.int .i64 (IntKind.i64.wrap ((BitVec.ofInt 64 (a:Int) ^^^ BitVec.ofInt 64 (b:Int)).toNat:Nat))) : Sem Value):=rfl
   rw [this,e,iH (by omega) (by omega)]
   rfl
  have aK:(binOp .xor t (.int .i64 (a:Int)) (.int .i64 (b:Int))).run P w' = .ok (.int .i64 ((a ^^^ b:Nat) : Int)) w':=by
   have:binOp .xor t (.int .i64 (a:Int)) (.int .i64 (b:Int))=Op.intBits .xor .i64 (a:Int) (b:Int):=by simp [binOp]
   rw [this,aB]
  simp [execOp,e1,e2,eqGuard,aK]⟩
theorem j3 {t ty:TypeId} {x y:Operand} {i j:Int} (a o:Int) (hx:cd L x=some (.int .i64 i)) (hy:cd L y=some (.int .i64 j)) (hi:i=a) (hj:j=pw o) (h : 0≤a∧a<256∧0≤o∧o<4∧a % pw o=0) :
 St P ⟨d,.binOp .xor t x y ty,T,pos,af,g⟩ L w (.int .i64 (beside a o)):=by
 obtain ⟨h1,h2,h3,h4,h5⟩:=h;subst hi hj;obtain ⟨k,rfl⟩:=Int.eq_ofNat_of_zero_le h1;have hp:=bH h3 (by omega);have e:pw o=((2 ^ o.toNat:Nat) : Int):=by unfold pw;simp
 have c8:(2 ^ o.toNat:Nat)<9223372036854775808:=by omega
 have:=F9 (P:=P) (t:=t) (ty:=ty) (w:=w) (d:=d) (T:=T) (pos:=pos) (af:=af) (g:=g) k (2 ^ o.toNat) hx hy rfl e (by omega) c8
 rw [yx (by omega) h3 h4 h5] at this;exact this
end
theorem dh (z:Int) (h : 0≤z∧z≤5) (w:World) : bt Tryz.prog 81 [.int .i64 z] w fun v _=>v = .int .i64 (pw z):=by
 refine aM Tryz.func81 rfl Tryz.ntmps81 rfl ?_;have hw:=Ext.refl w;obtain ⟨m,rfl⟩:=Int.eq_ofNat_of_zero_le h.1;refine Wz ?_;refine CW.loop (fun k:Nat=>[(0,.int .i64 ((m-k:Nat) : Int)),(3,.int .i64 (pw k))]) (fun k w'=>k≤m∧Ext w w') (fun k=>m-k) 0 ⟨by simp;rfl,rfl,trivial⟩ ⟨by omega,hw⟩ ?_;clear hw;rintro k w' ⟨hk,hw⟩
 by_cases Hr:k<m
 ·have hp:=bH (o:=(k:Int)) (by omega) (by omega);have hs:=jq (o:=(k:Int)) (by omega) (by omega);refine Wz ?_;have e1:((m-k:Nat) : Int)-1=((m-(k+1) : Nat) : Int):=by omega
  have e2 : 2*pw (k:Int)=pw ((k+1:Nat) : Int):=by rw [← hs];rfl
  exact ae.again (k+1) ⟨congrArg (fun z=>some (Value.int .i64 z)) e1,congrArg (fun z=>some (Value.int .i64 z)) e2,trivial⟩ (by omega) ⟨by omega,hw⟩
 ·obtain rfl:k=m:=by omega
  refine Wz ?_;exact ae.aO rfl rfl ⟨_,rfl,hw,rfl⟩
theorem ny (r:ct) (b:Block) (w:World) (h0 : 0≤r.aV) : bt Tryz.prog 93 [.agg (bo r).toArray,.agg (az b).toArray] w fun v _=>v = .bool (decide (e8 r.aV r.To b.At b.Order)):=by
 refine aM Tryz.func93 rfl Tryz.ntmps93 rfl ?_;refine CW.seq (CW.region (SW.box rfl rfl fun b1 w1 hw aB h1 => ?_));refine SW.box rfl rfl fun b2 w2 cJ aK h2 => ?_
 (replace hw:=Ext.trans hw cJ;replace h1:=h1.ext cJ);by_cases hf:e8 r.aV r.To b.At b.Order
 ·obtain ⟨a1,a2,a3,a4,a5⟩:=id hf;have hp:=bH a1 a2;rw [decide_eq_true hf];have e:b.At.tmod (pw b.Order)=0:=by rw [Int.tmod_eq_emod_of_nonneg (by omega)];exact a5
  repeat' (first|refine Wz ?_|((apply CW.aP mixed;(· kernel_rfl);rotate_left;intro w1 ab;replace hw:=Ext.trans hw ab;replace h1:=h1.ext ab;replace h2:=h2.ext ab;clear ab;rotate_right))|(refine SW.st (fQ (r:=pw b.Order) rfl rfl (by omega) (by omega) (by simp [pw]) (by omega) (by omega)) rfl ?_)|exact SW.bx rfl)
  exact ae.aO rfl rfl ⟨_,rfl,hw,by simp [e]⟩
 ·rw [decide_eq_false hf];by_cases a1 : 0≤b.Order
  ·by_cases a2:b.Order≤4
   ·by_cases a3:r.aV≤b.At
    ·by_cases a4:b.At<r.To
     ·have hp:=bH a1 a2
      have e:b.At.tmod (pw b.Order)≠0:=by
       rw [Int.tmod_eq_emod_of_nonneg (by omega)];exact fun a5=>hf ⟨a1,a2,a3,a4,a5⟩
      repeat' (first|refine Wz ?_|((apply CW.aP mixed;(· kernel_rfl);rotate_left;intro w1 ab;replace hw:=Ext.trans hw ab;replace h1:=h1.ext ab;replace h2:=h2.ext ab;clear ab;rotate_right))|(refine SW.st (fQ (r:=pw b.Order) rfl rfl (by omega) (by omega) (by simp [pw]) (by omega) (by omega)) rfl ?_)|exact SW.bx rfl)
      exact ae.aO rfl rfl ⟨_,rfl,hw,by simp [e]⟩
     ·repeat' (first|refine Wz ?_|((apply CW.aP mixed;(· kernel_rfl);rotate_left;intro w1 ab;replace hw:=Ext.trans hw ab;replace h1:=h1.ext ab;replace h2:=h2.ext ab;clear ab;rotate_right))|exact SW.bx rfl)
      exact ae.aO rfl rfl ⟨_,rfl,hw,by simp [*]⟩
    ·repeat' (first|refine Wz ?_|((apply CW.aP mixed;(· kernel_rfl);rotate_left;intro w1 ab;replace hw:=Ext.trans hw ab;replace h1:=h1.ext ab;replace h2:=h2.ext ab;clear ab;rotate_right))|exact SW.bx rfl)
     exact ae.aO rfl rfl ⟨_,rfl,hw,by simp [*]⟩
   ·repeat' (first|refine Wz ?_|((apply CW.aP mixed;(· kernel_rfl);rotate_left;intro w1 ab;replace hw:=Ext.trans hw ab;replace h1:=h1.ext ab;replace h2:=h2.ext ab;clear ab;rotate_right))|exact SW.bx rfl)
    exact ae.aO rfl rfl ⟨_,rfl,hw,by simp [*]⟩
  ·repeat' (first|refine Wz ?_|((apply CW.aP mixed;(· kernel_rfl);rotate_left;intro w1 ab;replace hw:=Ext.trans hw ab;replace h1:=h1.ext ab;replace h2:=h2.ext ab;clear ab;rotate_right))|exact SW.bx rfl)
   exact ae.aO rfl rfl ⟨_,rfl,hw,by simp [*]⟩
theorem lq (b:Block) (w:World) (h : 0≤b.Order∧b.Order≤4) (ha : 0≤b.At∧b.At≤256) : bt Tryz.prog 94 [.agg (az b).toArray] w fun v _=>v = .int .i64 (b.At+pw b.Order):=by
 refine aM Tryz.func94 rfl Tryz.ntmps94 rfl ?_;refine CW.seq (CW.region (SW.box rfl rfl fun b1 w1 hw aB h1 => ?_));have hp:=bH h.1 h.2;repeat' (first|refine Wz ?_|((apply CW.aP mixed;(· kernel_rfl);rotate_left;intro w1 ab;replace hw:=Ext.trans hw ab;replace h1:=h1.ext ab;clear ab;rotate_right))|(refine SW.st (fQ (r:=pw b.Order) rfl rfl (by omega) (by omega) (by simp [pw]) (by omega) (by omega)) rfl ?_)|exact SW.bx rfl)
 exact ae.aO rfl rfl ⟨_,rfl,hw,rfl⟩
theorem oU (r:ct) (a o:Int) (w:World) (h0 : 0≤r.aV∧r.aV≤256) (h1 : 0≤r.To∧r.To≤256) : bt Tryz.prog 111 [.agg (bo r).toArray,.int .i64 a,.int .i64 o] w fun v _=>v = .bool (decide (e8 r.aV r.To a o)):=by
 refine aM Tryz.func111 rfl Tryz.ntmps111 rfl ?_;refine CW.seq (CW.region (SW.box rfl rfl fun b1 w1 hw aB hB => ?_));by_cases a1 : 0≤o∧o≤4
 ·by_cases a2:r.aV≤a∧a<r.To
  ·have hp:=bH a1.1 a1.2;have e:a.tmod (pw o)=a % pw o:=Int.tmod_eq_emod_of_nonneg (by omega)
   repeat' (first|refine Wz ?_|((first|refine SW.call rfl rfl (bK _ _ _ _) ?_|refine SW.call rfl rfl (dh _ (by omega) _) ?_);intro v w1 ab hv;subst hv;replace hw:=Ext.trans hw ab;replace hB:=hB.ext ab;clear ab))
   all_goals try omega
   refine ae.aO rfl rfl ⟨_,rfl,hw,?_⟩;rw [e];simp [e8,a1.1,a1.2,a2.1,a2.2]
  ·repeat' (first|refine Wz ?_|(refine SW.call rfl rfl (bK _ _ _ _) ?_;intro v w1 ab hv;subst hv;replace hw:=Ext.trans hw ab;replace hB:=hB.ext ab;clear ab))
   all_goals try omega
   refine ae.aO rfl rfl ⟨_,rfl,hw,?_⟩;rw [decide_eq_false (fun h=>a2 ⟨h.2.2.1,h.2.2.2.1⟩)];try (simp;omega)
 ·repeat' (first|refine Wz ?_|(refine SW.call rfl rfl (bK _ _ _ _) ?_;intro v w1 ab hv;subst hv;replace hw:=Ext.trans hw ab;replace hB:=hB.ext ab;clear ab))
  all_goals try omega
  refine ae.aO rfl rfl ⟨_,rfl,hw,?_⟩;rw [decide_eq_false (fun h=>a1 ⟨h.1,h.2.1⟩)];try (simp;omega)
theorem iw {α:Type} {p : α → Bool} {l:List α} {k:Nat} (h:k<l.length) (hp:p l[k]=true) (hf:∀ j (hj:j<l.length),j<k→p l[j]=false) : idxOf p l=(k:Int):=by
 have e:l.findIdx p=k:=(List.findIdx_eq h).2 ⟨hp,fun j hj=>hf j (by omega) hj⟩
 have e2:l.any p=true:=List.any_eq_true.2 ⟨l[k],List.getElem_mem h,hp⟩
 simp [idxOf,e,e2]
theorem fA {α:Type} {p : α → Bool} {l:List α} (hf:∀ j (hj:j<l.length),p l[j]=false) : idxOf p l = -1∧l.any p=false:=by
 have e:l.any p=false:=by
  rw [List.any_eq_false];intro x hx;obtain ⟨j,hj,rfl⟩:=List.getElem_of_mem hx;simp [hf j hj]
 exact ⟨by simp [idxOf,e],e⟩
theorem iL {α:Type} (p : α → Bool) (l:List α) : decide (0≤idxOf p l)=l.any p:=by
 unfold idxOf;by_cases h:l.any p=true
 ·simp [h]
 ·simp [h]
theorem pR (A:Option Addr) (n c:Nat) (l:List Int) (w:World) (hl:Sl w 1 bf A n l) (f:FuncId) (cap:List Value) [Body Tryz.prog f] (p:Int→Bool) (arg:Int→Value) (mN:∀ x,arg x=(if 1=1 then (bf x)[0]?.getD undef else .agg (bf x).toArray))
 (hf:∀ x∈l,∀ w',Ext w w'→bt Tryz.prog f ([arg x]++cap) w' fun v _=>v = .bool (p x)) (hn:n≤9223372036854775807) :
 bt Tryz.prog 95 [.slice A n c,.func (.func f) #[] cap.toArray] w fun v _=>v = .int .i64 (idxOf p l):=by
 refine aM Tryz.func95 rfl Tryz.ntmps95 rfl ?_;have hw:=Ext.refl w;have hA:=hl.base;refine Wz ?_;refine CW.loop (fun k:Nat=>[(0,.slice A n c),(1,.func (.func f) #[] cap.toArray),(7,.int .i64 (n:Int)),(8,.int .i64 (k:Int))]) (fun k w'=>k≤n∧Ext w w' ∧ ∀ j (hj:j<l.length),j<k→p l[j]=false) (fun k=>n-k) 0 ⟨rfl,rfl,rfl,rfl,trivial⟩ ⟨by omega,hw,fun j _ h=>by omega⟩ ?_;clear hw;rintro k w' ⟨oV,hw,hI⟩
 by_cases hk:k<n
 ·have hx:=mN (l[k]'(hl.lt hk));have oW:=hf (l[k]'(hl.lt hk)) (List.getElem_mem _);rw [hx] at oW;repeat' (first|refine Wz ?_|refine SW.st (ao hw rfl (hl.one hk rfl)) rfl ?_)
  refine SW.oP rfl rfl rfl (oW _ hw) fun v w1 ab hv => ?_
  subst hv;replace hw:=Ext.trans hw ab;cases hp:p (l[k]'(hl.lt hk))
  ·refine Wz ?_;refine ae.again (k+1) ⟨rfl,rfl,rfl,rfl,trivial⟩ (by omega) ⟨by omega,hw,fun j hj h => ?_⟩;by_cases kx:j=k
   ·subst kx;exact hp
   ·exact hI j hj (by omega)
  ·refine Wz ?_;exact ae.aO rfl rfl ⟨_,rfl,hw,by rw [iw (hl.lt hk) hp hI]⟩
 ·refine Wz ?_;exact ae.aO rfl rfl ⟨_,rfl,hw,by rw [(fA (fun j hj=>hI j hj (by have:=hl.len;omega))).1]⟩
theorem gI (A:Option Addr) (n c:Nat) (l:List Int) (w:World) (hl:Sl w 1 bf A n l) (f:FuncId) (cap:List Value) [Body Tryz.prog f] (p:Int→Bool) (arg:Int→Value) (mN:∀ x,arg x=(if 1=1 then (bf x)[0]?.getD undef else .agg (bf x).toArray))
 (hf:∀ x∈l,∀ w',Ext w w'→bt Tryz.prog f ([arg x]++cap) w' fun v _=>v = .bool (p x)) (hn:n≤9223372036854775807) :
 bt Tryz.prog 60 [.slice A n c,.func (.func f) #[] cap.toArray] w fun v _=>v = .bool (l.any p):=by
 refine aM Tryz.func60 rfl Tryz.ntmps60 rfl ?_;have hw:=Ext.refl w;repeat' (first|refine Wz ?_|(refine SW.call rfl rfl (pR _ _ _ _ _ (hl.ext hw) f cap p arg mN (fun x hx w1 h1=>hf x hx w1 (Ext.trans hw h1)) hn) ?_;intro v w1 ab hv;subst hv;replace hw:=Ext.trans hw ab;clear ab))
 exact ae.aO rfl rfl ⟨_,rfl,hw,by rw [iL]⟩
theorem kb (A:Option Addr) (n c:Nat) (l:List Block) (w:World) (hl:Sl w 3 az A n l) (f:FuncId) (cap:List Value) [Body Tryz.prog f] (p:Block→Bool) (arg:Block→Value) (mN:∀ x,arg x=(if 3=1 then (az x)[0]?.getD undef else .agg (az x).toArray))
 (hf:∀ x∈l,∀ w',Ext w w'→bt Tryz.prog f ([arg x]++cap) w' fun v _=>v = .bool (p x)) (hn:n≤9223372036854775807) :
 bt Tryz.prog 147 [.slice A n c,.func (.func f) #[] cap.toArray] w fun v _=>v = .int .i64 (idxOf p l):=by
 refine aM Tryz.func147 rfl Tryz.ntmps147 rfl ?_;have hw:=Ext.refl w;have hA:=hl.base;refine Wz ?_;refine CW.loop (fun k:Nat=>[(0,.slice A n c),(1,.func (.func f) #[] cap.toArray),(7,.int .i64 (n:Int)),(8,.int .i64 (k:Int))]) (fun k w'=>k≤n∧Ext w w' ∧ ∀ j (hj:j<l.length),j<k→p l[j]=false) (fun k=>n-k) 0 ⟨rfl,rfl,rfl,rfl,trivial⟩ ⟨by omega,hw,fun j _ h=>by omega⟩ ?_;clear hw;rintro k w' ⟨oV,hw,hI⟩
 by_cases hk:k<n
 ·have hx:=mN (l[k]'(hl.lt hk));have oW:=hf (l[k]'(hl.lt hk)) (List.getElem_mem _);rw [hx] at oW;repeat' (first|refine Wz ?_|refine SW.st (aH hw rfl rfl ((hl.all hk))) rfl ?_)
  refine SW.oP rfl rfl rfl (oW _ hw) fun v w1 ab hv => ?_
  subst hv;replace hw:=Ext.trans hw ab;cases hp:p (l[k]'(hl.lt hk))
  ·refine Wz ?_;refine ae.again (k+1) ⟨rfl,rfl,rfl,rfl,trivial⟩ (by omega) ⟨by omega,hw,fun j hj h => ?_⟩;by_cases kx:j=k
   ·subst kx;exact hp
   ·exact hI j hj (by omega)
  ·refine Wz ?_;exact ae.aO rfl rfl ⟨_,rfl,hw,by rw [iw (hl.lt hk) hp hI]⟩
 ·refine Wz ?_;exact ae.aO rfl rfl ⟨_,rfl,hw,by rw [(fA (fun j hj=>hI j hj (by have:=hl.len;omega))).1]⟩
theorem mA (A:Option Addr) (n c:Nat) (l:List Block) (w:World) (hl:Sl w 3 az A n l) (f:FuncId) (cap:List Value) [Body Tryz.prog f] (p:Block→Bool) (arg:Block→Value) (mN:∀ x,arg x=(if 3=1 then (az x)[0]?.getD undef else .agg (az x).toArray))
 (hf:∀ x∈l,∀ w',Ext w w'→bt Tryz.prog f ([arg x]++cap) w' fun v _=>v = .bool (p x)) (hn:n≤9223372036854775807) :
 bt Tryz.prog 142 [.slice A n c,.func (.func f) #[] cap.toArray] w fun v _=>v = .bool (l.any p):=by
 refine aM Tryz.func142 rfl Tryz.ntmps142 rfl ?_;have hw:=Ext.refl w;repeat' (first|refine Wz ?_|(refine SW.call rfl rfl (kb _ _ _ _ _ (hl.ext hw) f cap p arg mN (fun x hx w1 h1=>hf x hx w1 (Ext.trans hw h1)) hn) ?_;intro v w1 ab hv;subst hv;replace hw:=Ext.trans hw ab;clear ab))
 exact ae.aO rfl rfl ⟨_,rfl,hw,by rw [iL]⟩
open Go.RowKit
def vv (t:Int) : Bool := !decide (fy t)
theorem yy {t:Int} (h:fy t) : vv t=false:=by simp [vv,h]
theorem yA {t:Int} (h : ¬ fy t) : vv t=true:=by simp [vv,h]
theorem r8 (t:Int) (w:World) : bt Tryz.prog 92 ([.int .i64 t]++[]) w fun v _=>v = .bool (vv t):=by
 refine aM Tryz.func92 rfl Tryz.ntmps92 rfl ?_;have hw:=Ext.refl w;by_cases h1 : 0≤t
 ·by_cases h2:t≤2
  ·rw [yy ⟨h1,h2⟩];refine Wz ?_;all_goals exact ae.aO rfl rfl ⟨_,rfl,hw,by simp;try omega⟩
  ·rw [yA (fun h=>h2 h.2)];refine Wz ?_;all_goals exact ae.aO rfl rfl ⟨_,rfl,hw,by simp;try omega⟩
 ·rw [yA (fun h=>h1 h.1)];refine Wz ?_;all_goals exact ae.aO rfl rfl ⟨_,rfl,hw,by simp;try omega⟩
set_option maxHeartbeats 4000000 in
theorem kd (r:ct) (z:aq) (w:World) (hr:tY w r z) (hf:r.ag.n≤2305843009213693952) (ht:r.Types.n≤2305843009213693952) (h1 : -9223372036854775808≤r.aV∧r.aV≤9223372036854775807) (h2 : -9223372036854775808≤r.To∧r.To≤9223372036854775807) :
 bt Tryz.prog 59 [.agg (bo r).toArray] w fun v _=>v = .int .i64 (if ev z then 0 else 8):=by
 refine aM Tryz.func59 rfl Tryz.ntmps59 rfl ?_;refine CW.seq (CW.region (SW.box rfl rfl fun b1 w1 hw ik aB => ?_));have eF:=hr.from_;have eT:=hr.ka;have Co:=hr.free.len;have Hs:=hr.types.len;refine Wz ?_;refine SW.call rfl rfl (Cn r.aV r.To _ h1 h2) fun v w2 cJ hv => ?_
 (replace hw:=Ext.trans hw cJ;replace aB:=aB.ext cJ);by_cases iT:jH r.aV r.To
 ·rw [lU iT] at hv;obtain ⟨s,rfl,hs⟩:=hv;obtain ⟨o1,o2,o3,o4,o5⟩:=id iT;have ll:∀ {p:Prop},(bT z→False)→p ∨ ¬ bT z:=fun h => .inr h
  by_cases H4 : 8*(z.Types.length:Int)=z.To-z.aV
  ·refine Wz ?_;refine SW.alloc rfl fun b3 w1 ab bM ar => ?_
   have cr:w.heap.size≤b3:=Nat.le_trans hw.size bM
   have ke:b1≠b3:=by have:=aB.lt;omega
   replace hw:=Ext.trans hw ab;replace aB:=aB.ext ab;replace hs:=hs.ext ab;refine SW.ap ar rfl rfl rfl rfl (cw _) fun w2 cU hg => ?_
   replace hw:=hw.own cr hg;replace hs:=hs.cV ar hg rfl rfl;replace aB:=aB.grown hg (by simpa using ke);replace ar:=cU;clear cU ab hg bM
   have cO:∀ w',Ext w w'→bt Tryz.prog 60 [.slice r.Types.A r.Types.n r.Types.c,.func (.func 92) #[] ([] : List Value).toArray] w' fun v _=>v = .bool (z.Types.any vv):=fun w' h =>
    gI _ _ _ _ _ (hr.types.ext h) _ [] vv (fun x => .int .i64 x) (fun x=>rfl) (fun x _ w1 _=>r8 x w1) (by omega)
   cases AB:z.Types.any vv
   ·rw [AB] at cO
    have nz:∀ t∈z.Types,fy t:=fun t Cp=>by
     rw [List.any_eq_false] at AB;have:=AB t Cp
     simp [vv] at this;exact this
    repeat' (first|refine Wz ?_|(refine SW.call rfl rfl (cO _ hw) ?_;intro v w1 ab hv;subst hv;replace hw:=Ext.trans hw ab;replace aB:=aB.ext ab;clear ab))
    refine CW.loop (fun k:Nat=>[(1,.pointer (some ⟨b1,0,none⟩)),(5,.func (.func 92) #[] #[]),(35,.slice r.ag.A r.ag.n r.ag.c),(36,.int .i64 (r.ag.n:Int)),(37,.int .i64 (k:Int))])
     (fun k w'=>k≤r.ag.n∧Ext w w'∧aI w' b1 59 (bo r)∧(∀ (i:Nat) (h:i<z.ag.length),i<k→dG z.aV z.To z.ag[i])∧(∀ (i:Nat) (h:i+1<z.ag.length),i+1<k→ij z.ag[i] z.ag[i+1]))
     (fun k=>r.ag.n-k) 0 ⟨rfl,rfl,rfl,rfl,rfl,trivial⟩ ⟨by omega,hw,aB,fun i h hi=>by omega,fun i h hi=>by omega⟩ ?_
    clear hw aB ar cO hs;rintro k w' ⟨hk,hw,aB,hI,hN⟩
    have hA:=hr.free.base;by_cases cb:k<r.ag.n
    ·have di:=hr.free.lt cb;repeat' (first|refine Wz ?_|refine SW.st (aH hw rfl rfl ((hr.free.all cb))) rfl ?_)
     refine SW.alloc rfl fun b7 w3 j2 lu j4 => ?_
     have q9:w.heap.size≤b7:=Nat.le_trans hw.size lu
     have cG:b1≠b7:=by have:=aB.lt;omega
     (replace hw:=Ext.trans hw j2;replace aB:=aB.ext j2);refine Wz ?_;refine SW.ap j4 rfl rfl rfl rfl (fO.one (enc:=az) _) fun w4 dL hg => ?_
     replace hw:=hw.own q9 hg;replace aB:=aB.grown hg (by simpa using cG);by_cases mO:dG z.aV z.To z.ag[k]
     ·obtain ⟨AD,ra⟩:=id mO;obtain ⟨f1,f2,f3,f4,f5⟩:=id AD;have hp:=bH f1 f2
      have cF:∀ w',Ext w w'→bt Tryz.prog 93 [.agg (bo r).toArray,.agg (az z.ag[k]).toArray] w' fun v _=>v = .bool true:=fun w' _=>by
       have:=ny r z.ag[k] w' (by omega)
       rwa [eF,eT,decide_eq_true AD] at this
      have cD:∀ w',bt Tryz.prog 92 ([.int .i64 (z.ag[k]).Ty]++[]) w' fun v _=>v = .bool false:=fun w'=>by
       have:=r8 (z.ag[k]).Ty w'
       rwa [yy ra] at this
      by_cases pS:k=0
      ·subst pS;repeat' (first|refine Wz ?_|((apply CW.aP mixed;(· kernel_rfl);rotate_left;intro w1 ab;replace hw:=Ext.trans hw ab;replace aB:=aB.ext ab;replace dL:=dL.ext ab;clear ab;rotate_right))|refine SW.want rfl rfl ?_|refine SW.bq rfl rfl (fun w1 ab=>(cF _ (Ext.trans hw ab))) ?_|(refine SW.oe rfl rfl rfl (fun w1 _=>cD w1) ?_)|exact SW.bx rfl)
       refine ae.again (0+1) ⟨rfl,rfl,rfl,rfl,rfl,trivial⟩ (by omega) ⟨by omega,hw,aB,fun i h hi => ?_,fun i h hi=>by omega⟩;obtain rfl:i=0:=by omega
       exact mO
      ·obtain ⟨j,rfl⟩ : ∃ j,k=j+1:=⟨k-1,by omega⟩;have hj:j<r.ag.n:=by omega
       have kW:=hr.free.lt hj;obtain ⟨⟨g1,g2,g3,g4,g5⟩,_⟩:=hI j kW (by omega);have cE:∀ w',bt Tryz.prog 94 [.agg (az z.ag[j]).toArray] w' fun v _=>v = .int .i64 ((z.ag[j]).At+pw (z.ag[j]).Order):=fun w'=>lq _ _ ⟨g1,g2⟩ ⟨by omega,by omega⟩
       by_cases c8:(z.ag[j]).At+pw (z.ag[j]).Order≤(z.ag[j+1]).At
       ·by_cases Cq:(z.ag[j+1]).Order<4∧(z.ag[j]).Order=(z.ag[j+1]).Order∧(z.ag[j]).At=beside (z.ag[j+1]).At (z.ag[j+1]).Order
        ·obtain ⟨u1,u2,u3⟩:=id Cq;repeat' (first|refine Wz ?_|((apply CW.aP mixed;(· kernel_rfl);rotate_left;intro w1 ab;replace hw:=Ext.trans hw ab;replace aB:=aB.ext ab;replace dL:=dL.ext ab;clear ab;rotate_right))|refine SW.st (aZ (j) rfl rfl (by assumption) (by omega) (by omega)) rfl ?_|refine SW.st (aH hw rfl rfl ((hr.free.all hj))) rfl ?_|refine SW.st (ao hw rfl (hr.free.dA hj rfl)) rfl ?_|refine SW.bq rfl rfl (fun w1 ab=>(cF _ (Ext.trans hw ab))) ?_|refine SW.bq rfl rfl (fun w1 ab=>(cE _)) ?_|(refine SW.oe rfl rfl rfl (fun w1 _=>cD w1) ?_)|(refine SW.st (fQ (r:=pw (z.ag[j+1]).Order) rfl rfl (by omega) (by omega) (by simp [pw]) (by omega) (by omega)) rfl ?_)|(refine SW.st (j3 (z.ag[j+1]).At (z.ag[j+1]).Order rfl rfl rfl rfl ⟨by omega,by omega,f1,u1,f5⟩) rfl ?_)|exact SW.bx rfl)
         refine ae.aO rfl rfl ⟨_,rfl,hw,?_⟩;rw [gx (fun h=>(h.next j di).2 Cq)];rfl
        ·by_cases u1:(z.ag[j+1]).Order<4
         ·by_cases u2:(z.ag[j]).Order=(z.ag[j+1]).Order
          ·have u3 : ¬ (z.ag[j]).At=beside (z.ag[j+1]).At (z.ag[j+1]).Order:=fun u3=>Cq ⟨u1,u2,u3⟩
           repeat' (first|refine Wz ?_|((apply CW.aP mixed;(· kernel_rfl);rotate_left;intro w1 ab;replace hw:=Ext.trans hw ab;replace aB:=aB.ext ab;replace dL:=dL.ext ab;clear ab;rotate_right))|refine SW.want rfl rfl ?_|refine SW.st (aZ (j) rfl rfl (by assumption) (by omega) (by omega)) rfl ?_|refine SW.st (aH hw rfl rfl ((hr.free.all hj))) rfl ?_|refine SW.st (ao hw rfl (hr.free.dA hj rfl)) rfl ?_|refine SW.bq rfl rfl (fun w1 ab=>(cF _ (Ext.trans hw ab))) ?_|refine SW.bq rfl rfl (fun w1 ab=>(cE _)) ?_|(refine SW.oe rfl rfl rfl (fun w1 _=>cD w1) ?_)|(refine SW.st (fQ (r:=pw (z.ag[j+1]).Order) rfl rfl (by omega) (by omega) (by simp [pw]) (by omega) (by omega)) rfl ?_)|(refine SW.st (j3 (z.ag[j+1]).At (z.ag[j+1]).Order rfl rfl rfl rfl ⟨by omega,by omega,f1,u1,f5⟩) rfl ?_)|exact SW.bx rfl)
           refine ae.again (j+1+1) ⟨rfl,rfl,rfl,rfl,rfl,trivial⟩ (by omega) ⟨by omega,hw,aB,fun i h hi => ?_,fun i h hi => ?_⟩
           ·by_cases kX:i=j+1
            ·subst kX;exact mO
            ·exact hI i h (by omega)
           ·by_cases kX:i=j
            ·subst kX;exact ⟨c8,Cq⟩
            ·exact hN i h (by omega)
          ·repeat' (first|refine Wz ?_|((apply CW.aP mixed;(· kernel_rfl);rotate_left;intro w1 ab;replace hw:=Ext.trans hw ab;replace aB:=aB.ext ab;replace dL:=dL.ext ab;clear ab;rotate_right))|refine SW.want rfl rfl ?_|refine SW.st (aZ (j) rfl rfl (by assumption) (by omega) (by omega)) rfl ?_|refine SW.st (aH hw rfl rfl ((hr.free.all hj))) rfl ?_|refine SW.st (ao hw rfl (hr.free.dA hj rfl)) rfl ?_|refine SW.bq rfl rfl (fun w1 ab=>(cF _ (Ext.trans hw ab))) ?_|refine SW.bq rfl rfl (fun w1 ab=>(cE _)) ?_|(refine SW.oe rfl rfl rfl (fun w1 _=>cD w1) ?_)|exact SW.bx rfl)
           refine ae.again (j+1+1) ⟨rfl,rfl,rfl,rfl,rfl,trivial⟩ (by omega) ⟨by omega,hw,aB,fun i h hi => ?_,fun i h hi => ?_⟩
           ·by_cases kX:i=j+1
            ·subst kX;exact mO
            ·exact hI i h (by omega)
           ·by_cases kX:i=j
            ·subst kX;exact ⟨c8,Cq⟩
            ·exact hN i h (by omega)
         ·repeat' (first|refine Wz ?_|((apply CW.aP mixed;(· kernel_rfl);rotate_left;intro w1 ab;replace hw:=Ext.trans hw ab;replace aB:=aB.ext ab;replace dL:=dL.ext ab;clear ab;rotate_right))|refine SW.want rfl rfl ?_|refine SW.st (aZ (j) rfl rfl (by assumption) (by omega) (by omega)) rfl ?_|refine SW.st (aH hw rfl rfl ((hr.free.all hj))) rfl ?_|refine SW.bq rfl rfl (fun w1 ab=>(cF _ (Ext.trans hw ab))) ?_|refine SW.bq rfl rfl (fun w1 ab=>(cE _)) ?_|(refine SW.oe rfl rfl rfl (fun w1 _=>cD w1) ?_)|exact SW.bx rfl)
          refine ae.again (j+1+1) ⟨rfl,rfl,rfl,rfl,rfl,trivial⟩ (by omega) ⟨by omega,hw,aB,fun i h hi => ?_,fun i h hi => ?_⟩
          ·by_cases kX:i=j+1
           ·subst kX;exact mO
           ·exact hI i h (by omega)
          ·by_cases kX:i=j
           ·subst kX;exact ⟨c8,Cq⟩
           ·exact hN i h (by omega)
       ·repeat' (first|refine Wz ?_|((apply CW.aP mixed;(· kernel_rfl);rotate_left;intro w1 ab;replace hw:=Ext.trans hw ab;replace aB:=aB.ext ab;replace dL:=dL.ext ab;clear ab;rotate_right))|refine SW.want rfl rfl ?_|refine SW.st (aZ (j) rfl rfl (by assumption) (by omega) (by omega)) rfl ?_|refine SW.st (aH hw rfl rfl ((hr.free.all hj))) rfl ?_|refine SW.bq rfl rfl (fun w1 ab=>(cF _ (Ext.trans hw ab))) ?_|refine SW.bq rfl rfl (fun w1 ab=>(cE _)) ?_|(refine SW.oe rfl rfl rfl (fun w1 _=>cD w1) ?_)|exact SW.bx rfl)
        refine ae.aO rfl rfl ⟨_,rfl,hw,?_⟩;rw [gx (fun h=>c8 (h.next j di).1)];rfl
     ·have wQ:ev z=false:=gx (fun h=>mO (h.cV k di))
      by_cases AD:e8 z.aV z.To (z.ag[k]).At (z.ag[k]).Order
      ·have ra : ¬ fy (z.ag[k]).Ty:=fun h=>mO ⟨AD,h⟩
       have cF:∀ w',Ext w w'→bt Tryz.prog 93 [.agg (bo r).toArray,.agg (az z.ag[k]).toArray] w' fun v _=>v = .bool true:=fun w' _=>by
        have:=ny r z.ag[k] w' (by omega)
        rwa [eF,eT,decide_eq_true AD] at this
       have cD:∀ w',bt Tryz.prog 92 ([.int .i64 (z.ag[k]).Ty]++[]) w' fun v _=>v = .bool true:=fun w'=>by
        have:=r8 (z.ag[k]).Ty w'
        rwa [yA ra] at this
       repeat' (first|refine Wz ?_|((apply CW.aP mixed;(· kernel_rfl);rotate_left;intro w1 ab;replace hw:=Ext.trans hw ab;replace aB:=aB.ext ab;replace dL:=dL.ext ab;clear ab;rotate_right))|refine SW.want rfl rfl ?_|refine SW.bq rfl rfl (fun w1 ab=>(cF _ (Ext.trans hw ab))) ?_|(refine SW.oe rfl rfl rfl (fun w1 _=>cD w1) ?_)|exact SW.bx rfl)
       exact ae.aO rfl rfl ⟨_,rfl,hw,by rw [wQ];rfl⟩
      ·have cF:∀ w',Ext w w'→bt Tryz.prog 93 [.agg (bo r).toArray,.agg (az z.ag[k]).toArray] w' fun v _=>v = .bool false:=fun w' _=>by
        have:=ny r z.ag[k] w' (by omega)
        rwa [eF,eT,decide_eq_false AD] at this
       repeat' (first|refine Wz ?_|((apply CW.aP mixed;(· kernel_rfl);rotate_left;intro w1 ab;replace hw:=Ext.trans hw ab;replace aB:=aB.ext ab;replace dL:=dL.ext ab;clear ab;rotate_right))|refine SW.skip rfl rfl rfl rfl ?_|refine SW.bq rfl rfl (fun w1 ab=>(cF _ (Ext.trans hw ab))) ?_|exact SW.bx rfl)
       exact ae.aO rfl rfl ⟨_,rfl,hw,by rw [wQ];rfl⟩
    ·refine Wz ?_;refine ae.aO rfl rfl ⟨_,rfl,hw,?_⟩;rw [rA ⟨by rw [← eF,← eT];exact iT,H4,nz,fun i h=>hI i h (by omega),fun i h=>hN i h (by omega)⟩];rfl
   ·rw [AB] at cO;repeat' (first|refine Wz ?_|(refine SW.call rfl rfl (cO _ hw) ?_;intro v w1 ab hv;subst hv;replace hw:=Ext.trans hw ab;replace aB:=aB.ext ab;clear ab))
    refine ae.aO rfl rfl ⟨_,rfl,hw,?_⟩
    rw [gx (fun h=>by
     rw [List.any_eq_true] at AB;obtain ⟨t,h1,h2⟩:=AB;rw [yy (h.types t h1)] at h2;cases h2)];rfl
  ·refine Wz ?_;refine SW.alloc rfl fun b3 w1 ab bM ar => ?_
   have cr:w.heap.size≤b3:=Nat.le_trans hw.size bM
   have ke:b1≠b3:=by have:=aB.lt;omega
   replace hw:=Ext.trans hw ab;replace aB:=aB.ext ab;replace hs:=hs.ext ab;refine SW.ap ar rfl rfl rfl rfl (cw _) fun w2 cU hg => ?_
   replace hw:=hw.own cr hg;replace hs:=hs.cV ar hg rfl rfl;replace aB:=aB.grown hg (by simpa using ke);replace ar:=cU;clear cU ab hg bM;refine Wz ?_;refine ae.aO rfl rfl ⟨_,rfl,hw,?_⟩;rw [gx (fun h=>H4 h.len)];rfl
 ·rw [lT iT] at hv;obtain ⟨s,rfl,hs⟩:=hv;refine Wz ?_;refine SW.alloc rfl fun b3 w1 ab bM ar => ?_
  have cr:w.heap.size≤b3:=Nat.le_trans hw.size bM
  have ke:b1≠b3:=by have:=aB.lt;omega
  replace hw:=Ext.trans hw ab;replace aB:=aB.ext ab;replace hs:=hs.ext ab;refine SW.ap ar rfl rfl rfl rfl (cw _) fun w2 cU hg => ?_
  replace hw:=hw.own cr hg;replace hs:=hs.cV ar hg rfl rfl;replace aB:=aB.grown hg (by simpa using ke);replace ar:=cU;clear cU ab hg bM;refine Wz ?_;refine ae.aO rfl rfl ⟨_,rfl,hw,?_⟩;rw [gx (fun h=>iT (by rw [eF,eT];exact h.ok))];rfl
end Go.Proofs.YtjimadiidbkohaaGreatDoor
