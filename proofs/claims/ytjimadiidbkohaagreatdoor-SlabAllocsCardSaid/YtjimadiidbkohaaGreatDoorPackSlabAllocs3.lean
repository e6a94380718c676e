/-
  Texts of the claim SlabAllocs, part 3: what its theorem leans on.
-/
import Derived.Test.YtjimadiidbkohaaGreatDoorPackSlabAllocs2
import Derived.Test.YtjimadiidbkohaaGreatDoorPackSlabAllocs1
set_option linter.unusedVariables false
set_option linter.unusedSimpArgs false
namespace Go.Proofs.YtjimadiidbkohaaGreatDoor
open Go.RowKit
theorem bM (x lo hi:Int) (w:World) : bt Tryz.prog 20 [.int .i64 x,.int .i64 lo,.int .i64 hi] w fun v _=>v = .bool (decide (lo≤x∧x≤hi)):=by
 refine aL Tryz.func20 rfl Tryz.ntmps20 rfl ?_;repeat' (first|refine Wz ?_|refine SW.cb rfl rfl rfl (fun h => ?_) (fun h => ?_))
 all_goals refine ae.aN rfl rfl ⟨_,rfl,Ext.refl _,?_⟩
 all_goals simp [*]
theorem iw (A B:Option Addr) (n m c d:Nat) (xs ys:List Int) (w:World) (hx:Sl w 1 bh A n xs) (hy:Sl w 1 bh B m ys) (hn:n≤2305843009213693952) :
 bt Tryz.prog 11 [.slice A n c,.slice B m d] w fun v _=>v = .bool (decide (xs=ys)):=by
 refine aL Tryz.func11 rfl Tryz.ntmps11 rfl ?_;have hl:=hx.len;have xR:=hy.len;have hA:=hx.base;have hB:=hy.base;have hw:=Ext.refl w;repeat' (first|refine Wz ?_|(refine CW.gj rfl (fun h => ?_) (fun h => ?_)))
 ·refine ae.aN rfl rfl ⟨_,rfl,hw,?_⟩;have:xs≠ys:=fun e=>by subst e;omega
  simp [this]
 ·have tM:n=m:=by omega
  refine CW.loop (fun k:Nat=>[(0,.slice A n c),(1,.slice B m d),(5,.int .i64 (k:Int))])
   (fun k w'=>k≤n∧Ext w w' ∧ ∀ j (h1:j<xs.length) (h2:j<ys.length),j<k→xs[j]=ys[j]) (fun k=>n-k) 0 ⟨rfl,rfl,rfl,trivial⟩ ⟨by omega,hw,fun j _ _ h=>by omega⟩ ?_
  clear hw;rintro k w' ⟨hk,hw,DN⟩
  by_cases bY:k<n
  ·repeat' (first|refine Wz ?_|(first|refine CW.gj rfl (fun h => ?_) (fun h => ?_)|(apply CW.aO mixed;(· kernel_rfl);rotate_left;intro w1 ab;replace hw:=Ext.trans hw ab;clear ab;rotate_right))|refine SW.st (ao hw rfl (hx.one bY rfl)) rfl ?_|refine SW.st (ao hw rfl (hy.one (tM ▸ bY) rfl)) rfl ?_|exact SW.bx rfl)
   ·refine ae.aN rfl rfl ⟨_,rfl,hw,?_⟩;have:xs≠ys:=fun e=>by subst e;exact h rfl
    simp [this]
   ·refine ae.again (k+1) ⟨rfl,rfl,rfl,trivial⟩ (by omega) ⟨by omega,hw,fun j h1 h2 hj => ?_⟩;by_cases k7:j=k
    ·subst k7;assumption
    ·exact DN j h1 h2 (by omega)
  ·refine Wz ?_;refine ae.aN rfl rfl ⟨_,rfl,hw,?_⟩;have:xs=ys:=List.ext_getElem (by omega) fun j h1 h2=>DN j h1 h2 (by omega)
   simp [this]
open Go.RowKit
theorem rU (A:Option Addr) (n c:Nat) (x k:Int) (w:World) (hn:n≤2305843009213693952) : bt Tryz.prog 107 [.slice A n c,.int .i64 x,.int .i64 k] w fun v _=>v = .bool (decide (0≤x∧0≤k∧k≤n∧x+k≤n)):=by
 refine aL Tryz.func107 rfl Tryz.ntmps107 rfl ?_;repeat' (first|refine Wz ?_|refine SW.cb rfl rfl rfl (fun h => ?_) (fun h => ?_))
 all_goals refine ae.aN rfl rfl ⟨_,rfl,Ext.refl _,?_⟩
 all_goals congr 1
 all_goals symm
 all_goals first|(refine decide_eq_true ?_;omega)|(refine decide_eq_false ?_;omega)|(rw [decide_eq_decide];omega)
theorem k9 (A:Option Addr) (n c:Nat) (x k:Int) (w:World) (hn:n≤2305843009213693952) : bt Tryz.prog 58 [.slice A n c,.int .i64 x,.int .i64 k] w fun v _=>v = .bool (decide (0≤x∧0≤k∧k≤n∧x+k≤n)):=by
 refine aL Tryz.func58 rfl Tryz.ntmps58 rfl ?_;have hw:=Ext.refl w;repeat' (first|refine Wz ?_|refine SW.cb rfl rfl rfl (fun h => ?_) (fun h => ?_)|(refine SW.call rfl rfl (bM _ _ _ _) ?_;intro v w1 ab hv;subst hv;replace hw:=Ext.trans hw ab;clear ab))
 all_goals refine ae.aN rfl rfl ⟨_,rfl,hw,?_⟩
 all_goals congr 1
 all_goals symm
 all_goals first|(refine decide_eq_true ?_;omega)|(refine decide_eq_false ?_;omega)|(rw [decide_eq_decide];omega)
def pF (w:World) (e sz:Nat) {α:Type} (enc : α → List Value) (n:Nat) (l:List α) : Value→World→Prop:=fun v w' => ∃ A c,v = .slice A n c∧Own w' w.heap.size e sz enc A n c l
theorem gd (A:Option Addr) (n c:Nat) (l:List Int) (w:World) (hl:Sl w 1 bh A n l) (hn:n*8≤140737488355328) : bt Tryz.prog 12 [.slice A n c] w (pF w 3 1 bh n l):=by
 refine aL Tryz.func12 rfl Tryz.ntmps12 rfl ?_;have hw:=Ext.refl w;have hA:=hl.base;refine Wz ?_
 refine CW.loop (fun s:Nat×Option Addr×Nat=>[(0,.slice A n c),(3,.slice s.2.1 s.1 s.2.2),(4,.int .i64 (s.1:Int))])
  (fun s w'=>s.1≤n∧Ext w w'∧Own w' w.heap.size 3 1 bh s.2.1 s.1 s.2.2 (l.take s.1)) (fun s=>n-s.1) (0,none,0) ⟨rfl,rfl,rfl,trivial⟩ ⟨by omega,hw,by simpa using Own.eR _ _ _ _ _ _⟩ ?_
 clear hw;rintro ⟨k,A1,c1⟩ w' ⟨hk,hw,hO⟩
 simp only at hk hO ⊢;by_cases bY:k<n
 ·repeat' (first|refine Wz ?_|refine SW.st (ao hw rfl (hl.one bY rfl)) rfl ?_)
  refine SW.bJ rfl rfl rfl rfl rfl fun b w1 ab hb hB => ?_
  replace hw:=Ext.trans hw ab;replace hO:=hO.ext ab;refine SW.append hO (aJ.mb (enc:=bh) hB) hw.size rfl rfl rfl (by omega) (by omega) fun A2 c2 w2 fT hg => ?_
  replace hw:=aE hw hg (Nat.le_refl _) hO.aM;refine Wz ?_;refine ae.again (k+1,A2,c2) ⟨rfl,rfl,rfl,trivial⟩ (by simp only;omega) ⟨by simp only;omega,hw,?_⟩;rw [List.take_succ_eq_append_getElem (hl.lt bY)];exact fT
 ·refine Wz ?_;obtain rfl:k=n:=by omega
  refine ae.aN rfl rfl ⟨_,rfl,hw,A1,c1,rfl,?_⟩;rwa [List.take_of_length_le (by have:=hl.len;omega)] at hO
theorem ef (A:Option Addr) (n c:Nat) (l:List Int) (w:World) (hl:Sl w 1 bh A n l) (hn:n*8≤140737488355328) : bt Tryz.prog 42 [.slice A n c] w (pF w 3 1 bh n l):=by
 refine aL Tryz.func42 rfl Tryz.ntmps42 rfl ?_;have hw:=Ext.refl w;refine Wz ?_;refine SW.st (oG rfl rfl) rfl ?_;repeat' (first|refine Wz ?_|(refine CW.cond rfl (fun h => ?_) (fun h => ?_)))
 ·have DW:n=0:=by
   rcases Nat.eq_zero_or_pos n with h0|h0
   ·exact h0
   ·have:=hl.base h0;simp_all
  subst DW;have:l=[]:=List.eq_nil_of_length_eq_zero hl.len
  subst this;exact ae.aN rfl rfl ⟨_,rfl,hw,none,0,rfl,Own.eR _ _ _ _ _ _⟩
 ·refine SW.uZ rfl fun b w1 ab hb => ?_
  replace hw:=Ext.trans hw ab;refine Wz ?_;refine SW.rm (Nat.zero_add n) (List.nil_append l) (Own.eR w1 w.heap.size _ _ bh (some ⟨b,0,none⟩)) (hl.ext hw) hw.size rfl rfl rfl (by omega) (by omega) fun A2 c2 w2 hO hg => ?_
  replace hw:=aE hw hg (Nat.le_refl _) (by simp [aT]);refine Wz ?_;exact ae.aN rfl rfl ⟨_,rfl,hw,A2,c2,rfl,hO⟩
open Go.RowKit
open Go.RowKit
open Go.RowKit
def az (b:Block) : List Value:=[.int .i64 b.At,.int .i64 b.Order,.int .i64 b.Ty]
instance:fB az 3:=⟨fun _=>rfl,fun r u hu=>by simp [az] at hu;rcases hu with rfl|rfl|rfl<;>rfl⟩
def aZ (b:Slab) : List Value:=[.int .i64 b.At,.int .i64 b.ag,.int .i64 b.fR]
instance:fB aZ 3:=⟨fun _=>rfl,fun r u hu=>by simp [aZ] at hu;rcases hu with rfl|rfl|rfl<;>rfl⟩
def Block.xU (r:Block) : List Int:=[r.At,r.Order,r.Ty]
theorem Block.BS {r s:Block}:r.xU=s.xU↔r=s:=by cases r;cases s;simp [Block.xU]
theorem iy (A:Option Addr) (n c:Nat) (l:List Block) (w:World) (hl:Sl w 3 az A n l) (hn:n*24≤140737488355328) : bt Tryz.prog 71 [.slice A n c] w (pF w 77 3 az n l):=by
 refine aL Tryz.func71 rfl Tryz.ntmps71 rfl ?_;have hw:=Ext.refl w;refine Wz ?_;refine SW.st (oG rfl rfl) rfl ?_;repeat' (first|refine Wz ?_|(refine CW.cond rfl (fun h => ?_) (fun h => ?_)))
 ·have DW:n=0:=by
   rcases Nat.eq_zero_or_pos n with h0|h0
   ·exact h0
   ·have:=hl.base h0;simp_all
  subst DW;have:l=[]:=List.eq_nil_of_length_eq_zero hl.len
  subst this;exact ae.aN rfl rfl ⟨_,rfl,hw,none,0,rfl,Own.eR _ _ _ _ _ _⟩
 ·refine SW.uZ rfl fun b w1 ab hb => ?_
  replace hw:=Ext.trans hw ab;refine Wz ?_;refine SW.rm (Nat.zero_add n) (List.nil_append l) (Own.eR w1 w.heap.size _ _ az (some ⟨b,0,none⟩)) (hl.ext hw) hw.size rfl rfl rfl (by omega) (by omega) fun A2 c2 w2 hO hg => ?_
  replace hw:=aE hw hg (Nat.le_refl _) (by simp [aT]);refine Wz ?_;exact ae.aN rfl rfl ⟨_,rfl,hw,A2,c2,rfl,hO⟩
theorem lG (A:Option Addr) (n c:Nat) (l:List Block) (w:World) (hl:Sl w 3 az A n l) (hn:n*24≤140737488355328) : bt Tryz.prog 21 [.slice A n c] w (pF w 77 3 az n l):=by
 refine aL Tryz.func21 rfl Tryz.ntmps21 rfl ?_;have hw:=Ext.refl w;have hA:=hl.base;refine Wz ?_
 refine CW.loop (fun s:Nat×Option Addr×Nat=>[(0,.slice A n c),(3,.slice s.2.1 s.1 s.2.2),(4,.int .i64 (s.1:Int))])
  (fun s w'=>s.1≤n∧Ext w w'∧Own w' w.heap.size 77 3 az s.2.1 s.1 s.2.2 (l.take s.1)) (fun s=>n-s.1) (0,none,0) ⟨rfl,rfl,rfl,trivial⟩ ⟨by omega,hw,by simpa using Own.eR _ _ _ _ _ _⟩ ?_
 clear hw;rintro ⟨k,A1,c1⟩ w' ⟨hk,hw,hO⟩
 simp only at hk hO ⊢;by_cases bY:k<n
 ·repeat' (first|refine Wz ?_|refine SW.st (aH hw rfl rfl ((hl.all bY))) rfl ?_)
  refine SW.bJ rfl rfl rfl rfl rfl fun b w1 ab hb hB => ?_
  replace hw:=Ext.trans hw ab;replace hO:=hO.ext ab;refine SW.append hO (aJ.mb (enc:=az) hB) hw.size rfl rfl rfl (by omega) (by omega) fun A2 c2 w2 fT hg => ?_
  replace hw:=aE hw hg (Nat.le_refl _) hO.aM;refine Wz ?_;refine ae.again (k+1,A2,c2) ⟨rfl,rfl,rfl,trivial⟩ (by simp only;omega) ⟨by simp only;omega,hw,?_⟩;rw [List.take_succ_eq_append_getElem (hl.lt bY)];exact fT
 ·refine Wz ?_;obtain rfl:k=n:=by omega
  refine ae.aN rfl rfl ⟨_,rfl,hw,A1,c1,rfl,?_⟩;rwa [List.take_of_length_le (by have:=hl.len;omega)] at hO
theorem mC (A B:Option Addr) (n m c d:Nat) (xs ys:List Block) (w:World) (hx:Sl w 3 az A n xs) (hy:Sl w 3 az B m ys) (hn:n≤2305843009213693952) :
 bt Tryz.prog 32 [.slice A n c,.slice B m d] w fun v _=>v = .bool (decide (xs=ys)):=by
 refine aL Tryz.func32 rfl Tryz.ntmps32 rfl ?_;have hl:=hx.len;have xR:=hy.len;have hA:=hx.base;have hB:=hy.base;have hw:=Ext.refl w;repeat' (first|refine Wz ?_|(refine CW.gj rfl (fun h => ?_) (fun h => ?_)))
 ·refine ae.aN rfl rfl ⟨_,rfl,hw,?_⟩;have:xs≠ys:=fun e=>by subst e;omega
  simp [this]
 ·have tM:n=m:=by omega
  refine CW.loop (fun k:Nat=>[(0,.slice A n c),(1,.slice B m d),(5,.int .i64 (k:Int))])
   (fun k w'=>k≤n∧Ext w w' ∧ ∀ j (h1:j<xs.length) (h2:j<ys.length),j<k→xs[j]=ys[j]) (fun k=>n-k) 0 ⟨rfl,rfl,rfl,trivial⟩ ⟨by omega,hw,fun j _ _ h=>by omega⟩ ?_
  clear hw;rintro k w' ⟨hk,hw,DN⟩
  by_cases bY:k<n
  ·repeat' (first|refine Wz ?_|(first|refine CW.gj rfl (fun h => ?_) (fun h => ?_)|(apply CW.aO mixed;(· kernel_rfl);rotate_left;intro w1 ab;replace hw:=Ext.trans hw ab;clear ab;rotate_right))|refine SW.st (aH hw rfl rfl ((hx.all bY))) rfl ?_|refine SW.st (aH hw rfl rfl ((hy.all (tM ▸ bY)))) rfl ?_|(refine SW.st (BQ (xs[k]'(hx.lt bY)).xU (ys[k]'(hy.lt (tM ▸ bY))).xU rfl rfl rfl rfl) rfl ?_)|exact SW.bx rfl)
   ·refine ae.aN rfl rfl ⟨_,rfl,hw,?_⟩;have:xs≠ys:=fun e=>by subst e;exact h rfl
    simp [this]
   ·refine ae.again (k+1) ⟨rfl,rfl,rfl,trivial⟩ (by omega) ⟨by omega,hw,fun j h1 h2 hj => ?_⟩;by_cases k7:j=k
    ·subst k7;exact Block.BS.1 (by assumption)
    ·exact DN j h1 h2 (by omega)
  ·refine Wz ?_;refine ae.aN rfl rfl ⟨_,rfl,hw,?_⟩
   have:xs=ys:=by
    apply List.ext_getElem (by omega);intro j h1 h2;exact DN j h1 h2 (by omega)
   simp [this]
def pw (o:Int) : Int:=2 ^ o.toNat
theorem eg {o:Int} (h0 : 0≤o) (h4:o≤4) : (o=0∧pw o=1)∨(o=1∧pw o=2)∨(o=2∧pw o=4)∨(o=3∧pw o=8)∨(o=4∧pw o=16):=by
 have:o=0∨o=1∨o=2∨o=3∨o=4:=by omega
 rcases this with rfl|rfl|rfl|rfl|rfl<;>decide
theorem bG {o:Int} (h0 : 0≤o) (h4:o≤4) : 1≤pw o∧pw o≤16:=by rcases eg h0 h4 with h|h|h|h|h<;>omega
theorem ja {o:Int} (h0 : 0≤o) (h4:o≤4) : pw (o+1)=2*pw o:=by
 have:o=0∨o=1∨o=2∨o=3∨o=4:=by omega
 rcases this with rfl|rfl|rfl|rfl|rfl<;>decide
def beside (a o:Int) : Int:=if a % (2*pw o)=0 then a+pw o else a-pw o
theorem oL:∀ a<256,∀ o<4,a % 2 ^ o=0→((a ^^^ 2 ^ o:Nat) : Int)=if (a:Int) % (2*2 ^ o)=0 then (a:Int)+2 ^ o else (a:Int)-2 ^ o:=by decide +kernel
theorem xV {a:Nat} {o:Int} (ha:a<256) (h0 : 0≤o) (h4:o<4) (h:(a:Int) % pw o=0) : ((a ^^^ 2 ^ o.toNat:Nat) : Int)=beside a o:=by
 have:o=0∨o=1∨o=2∨o=3:=by omega
 rcases this with rfl|rfl|rfl|rfl
 ·exact oL a ha 0 (by omega) (by simp only [pw] at h;omega)
 ·exact oL a ha 1 (by omega) (by
   rw [show pw 1=2 by decide] at h;simp;omega)
 ·exact oL a ha 2 (by omega) (by
   rw [show pw 2=4 by decide] at h;simp;omega)
 ·exact oL a ha 3 (by omega) (by
   rw [show pw 3=8 by decide] at h;simp;omega)
def eU (f t a o:Int) : Prop:=0≤o∧o≤4∧f≤a∧a<t∧a % pw o=0
instance (f t a o:Int) : Decidable (eU f t a o):=inferInstanceAs (Decidable (_∧_))
def fi (t:Int) : Prop:=0≤t∧t≤2
instance (t:Int) : Decidable (fi t):=inferInstanceAs (Decidable (_∧_))
def gI (a b:Block) : Prop:=a.At+pw a.Order≤b.At ∧ ¬ (b.Order<4∧a.Order=b.Order∧a.At=beside b.At b.Order)
instance (a b:Block) : Decidable (gI a b):=inferInstanceAs (Decidable (_∧_))
def dB (f t:Int) (b:Block) : Prop:=eU f t b.At b.Order∧fi b.Ty
instance (f t:Int) (b:Block) : Decidable (dB f t b):=inferInstanceAs (Decidable (_∧_))
def jt (f t:Int) : Prop:=0≤f∧f≤t∧t≤256∧f % 16=0∧t % 16=0
instance (f t:Int) : Decidable (jt f t):=inferInstanceAs (Decidable (_∧_))
structure bR (z:aq) : Prop where
 ok:jt z.aW z.To
 len : 8*(z.Types.length:Int)=z.To-z.aW
 types:∀ t∈z.Types,fi t
 cU:∀ (i:Nat) (h:i<z.ag.length),dB z.aW z.To z.ag[i]
 next:∀ (i:Nat) (h:i+1<z.ag.length),gI z.ag[i] z.ag[i+1]
noncomputable def dZ (z:aq) : Bool := @decide (bR z) (Classical.propDecidable _)
theorem rp {z:aq} (h:bR z) : dZ z=true:=by unfold dZ;exact @decide_eq_true _ (Classical.propDecidable _) h
theorem gf {z:aq} (h : ¬ bR z) : dZ z=false:=by unfold dZ;exact @decide_eq_false _ (Classical.propDecidable _) h
theorem dC {z:aq}:dZ z=true↔bR z:=by
 by_cases h:bR z
 ·simp [rp h,h]
 ·simp [gf h,h]
theorem BU {f t:Int} {a b:Block} (ha:dB f t a) (hb:dB f t b) (h:a.At+pw a.Order≤b.At) :
 (b.Order<4∧a.Order=b.Order∧a.At=beside b.At b.Order)↔(b.Order<4∧a.Order=b.Order∧a.At+pw b.Order=b.At∧a.At % pw (b.Order+1)=0):=by
 obtain ⟨⟨h1,h2,h3,h4,h5⟩,_⟩:=ha;obtain ⟨⟨g1,g2,g3,g4,g5⟩,_⟩:=hb;rw [ja g1 g2];unfold beside;constructor
 ·rintro ⟨e1,e2,e3⟩
  refine ⟨e1,e2,?_⟩;rw [e2] at h5 h;have hp:=eg g1 g2;generalize pw b.Order=q at *
  rcases hp with ⟨e,rfl⟩|⟨e,rfl⟩|⟨e,rfl⟩|⟨e,rfl⟩|⟨e,rfl⟩<;>split at e3<;>omega
 ·rintro ⟨e1,e2,e3,e4⟩
  refine ⟨e1,e2,?_⟩;rw [e2] at h5 h;have hp:=eg g1 g2;generalize pw b.Order=q at *
  rcases hp with ⟨e,rfl⟩|⟨e,rfl⟩|⟨e,rfl⟩|⟨e,rfl⟩|⟨e,rfl⟩<;>split<;>omega
def idxOf {α:Type} (p : α → Bool) (l:List α) : Int:=if l.any p then (l.findIdx p:Int) else -1
def dE (l:List Block) : Int:=(l.map fun b=>pw b.Order).sum
theorem lH (l:List Block) (k:Nat) (h:k<l.length) : dE (l.take (k+1))=dE (l.take k)+pw l[k].Order:=by
 unfold dE;rw [List.take_succ_eq_append_getElem h,List.map_append,List.sum_append];simp
theorem jb {z:aq} (h:bR z) : ∀ k,k≤z.ag.length→0≤dE (z.ag.take k)∧dE (z.ag.take k)≤16*(k:Int)
 | 0,_=>by simp [dE]
 | k+1,hk=>by
   have ih:=jb h k (by omega);have hb:=(h.cU k (by omega)).1;have:=bG hb.1 hb.2.1
   rw [lH _ _ (by omega)];omega
theorem zu {z:aq} {a:Int} (hz:bR z) (h1:z.aW≤a) (h2:a<z.To) : ∃ k:Nat,(a-z.aW) / 8=k∧k<z.Types.length:=by
 have:=hz.len
 exact ⟨((a-z.aW) / 8).toNat,by omega,by omega⟩
open Go.RowKit
structure fE where
 A:Option Addr
 n:Nat
 c:Nat
def fE.v (s:fE) : Value := .slice s.A s.n s.c
def fE.nil:fE:=⟨none,0,0⟩
structure cq where
 aW:Int
 To:Int
 ag:fE
 Types:fE
def bo (z:cq) : List Value:=[.int .i64 z.aW,.int .i64 z.To,z.ag.v,z.Types.v]
instance:fB bo 4:=⟨fun _=>rfl,fun r u hu=>by simp [bo,fE.v] at hu;rcases hu with rfl|rfl|rfl|rfl<;>rfl⟩
theorem ct (r:cq) : ∀ v∈bo r,v.oneCell'=true:=fB.one (enc:=bo) r
structure tN (w:World) (r:cq) (z:aq) : Prop where
 from_:r.aW=z.aW
 jZ:r.To=z.To
 free:Sl w 3 az r.ag.A r.ag.n z.ag
 types:Sl w 1 bh r.Types.A r.Types.n z.Types
structure eV (w:World) (lo:Nat) (r:cq) (z:aq) : Prop where
 from_:r.aW=z.aW
 jZ:r.To=z.To
 free:Own w lo 77 3 az r.ag.A r.ag.n r.ag.c z.ag
 types:Own w lo 3 1 bh r.Types.A r.Types.n r.Types.c z.Types
theorem tN.ext {w w':World} {r:cq} {z:aq} (h:tN w r z) (hx:Ext w w') : tN w' r z:=⟨h.from_,h.jZ,h.free.ext hx,h.types.ext hx⟩
theorem eV.ext {w w':World} {lo:Nat} {r:cq} {z:aq} (h:eV w lo r z) (hx:Ext w w') : eV w' lo r z:=⟨h.from_,h.jZ,h.free.ext hx,h.types.ext hx⟩
theorem eV.low {w:World} {lo nj:Nat} {r:cq} {z:aq} (h:eV w lo r z) (hl:nj≤lo) : eV w nj r z:=⟨h.from_,h.jZ,h.free.low hl,h.types.low hl⟩
theorem eV.rd {w:World} {lo:Nat} {r:cq} {z:aq} (h:eV w lo r z) : tN w r z:=⟨h.from_,h.jZ,h.free.sl,h.types.sl⟩
theorem eV.cU {w w':World} {lo b t:Nat} {r:cq} {z:aq} {cs:List Value} (h:eV w lo r z) (hB:aJ w b t cs) (hg:w.grownBy w' (some b)) (h1:Nat.beq t 77=false) (h2:Nat.beq t 3=false) : eV w' lo r z :=
 ⟨h.from_,h.jZ,h.free.grown hg (.inr (h.free.dh hB h1)),h.types.grown hg (.inr (h.types.dh hB h2))⟩
def aq.zero:aq:=⟨0,0,[],[]⟩
def cq.zero:cq:=⟨0,0,.nil,.nil⟩
theorem eV.zero (w:World) (lo:Nat) : eV w lo .zero .zero:=⟨rfl,rfl,Own.eR _ _ _ _ _ _,Own.eR _ _ _ _ _ _⟩
theorem va (r s:cq) (a b:aq) (w:World) (ha:tN w r a) (hb:tN w s b) (hn:r.ag.n≤2305843009213693952) (hm:r.Types.n≤2305843009213693952) :
 bt Tryz.prog 33 [.agg (bo r).toArray,.agg (bo s).toArray] w fun v _=>v = .bool (decide (a=b)):=by
 refine aL Tryz.func33 rfl Tryz.ntmps33 rfl ?_;have e1:=ha.from_;have e2:=ha.jZ;have e3:=hb.from_;have e4:=hb.jZ;refine CW.seq (CW.region (SW.box rfl rfl fun b1 w1 hw aA hB => ?_));refine SW.box rfl rfl fun b2 w2 cw aK xM => ?_
 replace hw:=Ext.trans hw cw;replace hB:=hB.ext cw;repeat' (first|refine Wz ?_|refine SW.cb rfl rfl rfl (fun h => ?_) (fun h => ?_)|((first|refine SW.call rfl rfl (mC _ _ _ _ _ _ _ _ _ (ha.free.ext hw) (hb.free.ext hw) hn) ?_|refine SW.call rfl rfl (iw _ _ _ _ _ _ _ _ _ (ha.types.ext hw) (hb.types.ext hw) hm) ?_);intro v w1 ab hv;subst hv;replace hw:=Ext.trans hw ab;replace hB:=hB.ext ab;replace xM:=xM.ext ab;clear ab))
 all_goals refine ae.aN rfl rfl ⟨_,rfl,hw,?_⟩
 all_goals obtain ⟨a1,a2,a3,a4⟩:=a
 all_goals obtain ⟨b1,b2,b3,b4⟩:=b
 all_goals simp_all
theorem pG (r:cq) (z:aq) (w:World) (hr:tN w r z) (hn:r.ag.n*24≤140737488355328) (hm:r.Types.n*8≤140737488355328) :
 bt Tryz.prog 72 [.agg (bo r).toArray] w fun v w' => ∃ s,v = .agg (bo s).toArray∧eV w' w.heap.size s z∧s.ag.n=r.ag.n∧s.Types.n=r.Types.n:=by
 refine aL Tryz.func72 rfl Tryz.ntmps72 rfl ?_;refine CW.seq (CW.region (SW.box rfl rfl fun b w1 hw hb hB => ?_));refine SW.alloc rfl fun b2 w2 cw aK xM => ?_
 have pH:w.heap.size≤b2:=Nat.le_trans hw.size aK
 have cG:b2≠b:=by have:=hB.lt;omega
 replace hw:=Ext.trans hw cw;replace hB:=hB.ext cw;have DA:=hb;refine Wz ?_;refine CW.any 7 mixed (cl (by kernel_rfl)) rfl fun w1 ab aG => ?_
 replace hw:=Ext.trans hw ab;replace hB:=hB.ext ab;replace xM:=xM.ext ab;clear ab;refine Wa ?_;refine SA.one 2 rfl (by kernel_rfl) rfl ?_;refine SW.call rfl rfl (iy _ _ _ _ _ (hr.free.ext hw) hn) fun v w4 aj hv => ?_
 obtain ⟨X,c4,rfl,hX⟩:=hv;replace hX:=hX.low hw.size;replace hw:=Ext.trans hw aj;replace hB:=hB.ext aj;replace xM:=xM.ext aj;refine SW.nil (ae.sa aj ?_);refine Wa ?_;refine SA.one 5 rfl (by kernel_rfl) rfl ?_;refine SW.call rfl rfl (ef _ _ _ _ _ (hr.types.ext hw) hm) fun v w4 aj hv => ?_
 obtain ⟨Y,d4,rfl,hY⟩:=hv;replace hY:=hY.low hw.size;replace hX:=hX.ext aj;replace hw:=Ext.trans hw aj;replace hB:=hB.ext aj;replace xM:=xM.ext aj;refine SW.nil (ae.sa aj ?_);refine SA.done (by kernel_rfl) ?_;skip;refine SW.bB (i:=2) hB rfl rfl rfl rfl fun w5 qR hg => ?_
 replace hw:=hw.own DA hg;replace hX:=hX.grown hg (.inr (hX.dh hB rfl));replace hY:=hY.grown hg (.inr (hY.dh hB rfl));replace xM:=xM.grown hg (by simpa using cG);refine Wz ?_;refine SW.bB (i:=3) qR rfl rfl rfl rfl fun w6 JI hg => ?_
 replace hw:=hw.own DA hg;replace hX:=hX.grown hg (.inr (hX.dh qR rfl));replace hY:=hY.grown hg (.inr (hY.dh qR rfl));replace xM:=xM.grown hg (by simpa using cG);repeat' (first|refine Wz ?_|refine SW.st (aX rfl rfl ((fun _ _=>JI.cell))) rfl ?_)
 refine SW.ap xM rfl rfl rfl rfl (ct ⟨r.aW,r.To,⟨X,r.ag.n,c4⟩,⟨Y,r.Types.n,d4⟩⟩) fun w7 bP hg => ?_
 replace hw:=hw.own pH hg;replace hX:=hX.grown hg (.inr (hX.dh xM rfl));replace hY:=hY.grown hg (.inr (hY.dh xM rfl));refine Wz ?_;exact ae.me rfl rfl bP rfl ⟨_,rfl,hw,⟨r.aW,r.To,⟨X,r.ag.n,c4⟩,⟨Y,r.Types.n,d4⟩⟩,rfl,⟨hr.from_,hr.jZ,hX,hY⟩,rfl,rfl⟩
def oM (f t:Int) : Int×aq:=if jt f t then (0,⟨f,t,[],List.replicate ((t-f) / 8).toNat 1⟩) else (1,.zero)
def rq (lo:Nat) (r:Int×aq) (v:Value) (w:World) : Prop := ∃ s:cq,v = .tuple #[.agg (bo s).toArray,.int .i64 r.1]∧eV w lo s r.2
theorem lI {f t:Int} (h : ¬ jt f t) : oM f t=(1,.zero):=if_neg h
theorem lJ {f t:Int} (h:jt f t) : oM f t=(0,⟨f,t,[],List.replicate ((t-f) / 8).toNat 1⟩):=if_pos h
theorem mD {x:Int} (h : 0≤x) : x.tmod 16=x % 16:=Int.tmod_eq_emod_of_nonneg h
theorem DX (k i:Nat) (h:i<k) : (List.replicate i (1:Int)++List.replicate (k-i) 0).set i 1=List.replicate (i+1) 1++List.replicate (k-(i+1)) 0:=by
 apply List.ext_getElem (by simp;omega);intro j h1 h2;rw [List.getElem_set];by_cases hj:i=j
 ·subst hj;simp
 ·simp only [hj,if_false,List.getElem_append,List.length_replicate,List.getElem_replicate];by_cases h3:j<i
  ·simp [h3,show j<i+1 by omega]
  ·simp [h3,show ¬ j<i+1 by omega]
theorem BV (f t:Int) (w:World) (hf : -9223372036854775808≤f∧f≤9223372036854775807) (ht : -9223372036854775808≤t∧t≤9223372036854775807) : bt Tryz.prog 91 [.int .i64 f,.int .i64 t] w (rq w.heap.size (oM f t)):=by
 refine aL Tryz.func91 rfl Tryz.ntmps91 rfl ?_;refine CW.seq (CW.region (SW.alloc rfl fun b4 w1 hw ml bX => ?_));have mE:=ml;by_cases jc:jt f t
 ·obtain ⟨h1,h2,h3,h4,h5⟩:=id jc;have m1:=mD h1;have m2:=mD (show 0≤t by omega);rw [lJ jc];obtain ⟨k,hk⟩ : ∃ k:Nat,(t-f) / 8=k:=⟨((t-f) / 8).toNat,by omega⟩;refine Wz ?_;refine SW.make (enc:=bh) (k:=k) 0 rfl rfl (by omega) (by omega) (by omega) rfl fun A c w2 cw hO => ?_
  replace hO:=hO.low hw.size;(replace hw:=Ext.trans hw cw;replace bX:=bX.ext cw);refine Wz ?_;refine SW.alloc rfl fun b6 w1 ab eW ax => ?_
  have di:w.heap.size≤b6:=Nat.le_trans hw.size eW
  have vc:b4≠b6:=by have:=bX.lt;omega
  replace hw:=Ext.trans hw ab;replace bX:=bX.ext ab;replace hO:=hO.ext ab;refine SW.ap ax rfl rfl rfl rfl (ct ⟨f,t,.nil,⟨A,k,c⟩⟩) fun w2 gp hg => ?_
  replace hw:=hw.own di hg;replace hO:=hO.grown hg (.inr (hO.dh ax rfl));replace bX:=bX.grown hg (by simpa using vc);replace ax:=gp;clear gp ab hg eW;have hA:=hO.sl.base;refine Wz ?_
  refine CW.loop (fun i:Nat=>[(4,.pointer (some ⟨b4,0,none⟩)),(6,.pointer (some ⟨b6,0,none⟩)),(40,.int .i64 (k:Int)),(41,.int .i64 (i:Int))])
   (fun i w'=>i≤k∧Ext w w'∧aJ w' b4 59 (bo .zero)∧aJ w' b6 59 (bo ⟨f,t,.nil,⟨A,k,c⟩⟩)∧Own w' w.heap.size 3 1 bh A k c (List.replicate i 1++List.replicate (k-i) 0)) (fun i=>k-i) 0
   ⟨rfl,rfl,rfl,rfl,trivial⟩ ⟨by omega,hw,bX,ax,by simpa using hO⟩ ?_
  clear hw bX ax hO;rintro i w' ⟨hi,hw,bX,ax,hO⟩
  have hA:=hO.sl.base;by_cases zv:i<k
  ·refine Wz ?_;refine SW.jX i hO rfl rfl zv fun w3 G4 hg => ?_
   replace hw:=aE hw hg (Nat.le_refl _) hO.aM;replace bX:=bX.grown hg (fun e=>hO.dh bX rfl e.symm);replace ax:=ax.grown hg (fun e=>hO.dh ax rfl e.symm);rw [DX k i zv] at G4;refine Wz ?_;exact ae.again (i+1) ⟨rfl,rfl,rfl,rfl,trivial⟩ (by omega) ⟨by omega,hw,bX,ax,G4⟩
  ·obtain rfl:i=k:=by omega
   simp only [Nat.sub_self,List.replicate_zero,List.append_nil] at hO;refine Wz ?_;refine SW.ap bX rfl rfl rfl rfl (ct ⟨f,t,.nil,⟨A,i,c⟩⟩) fun w5 bP hg => ?_
   replace hw:=hw.own mE hg;replace hO:=hO.grown hg (.inr (hO.dh bX rfl));refine Wz ?_;refine ae.fH rfl rfl rfl bP rfl ⟨_,rfl,hw,⟨f,t,.nil,⟨A,i,c⟩⟩,rfl,rfl,rfl,Own.eR _ _ _ _ _ _,?_⟩;simp only [hk,Int.toNat_natCast];exact hO
 ·rw [lI jc];unfold jt at jc;have m1:=fun h => @mD f h
  have m2:=fun h => @mD t h
  by_cases h1 : 0≤f
  ·have m1:=m1 h1;by_cases h2:f≤t
   ·have m2:=m2 (by omega);repeat' (first|refine Wz ?_|refine SW.cb rfl rfl rfl (fun h => ?_) (fun h => ?_)|refine SW.ew rfl rfl rfl (fun h => ?_) (fun h => ?_))
    all_goals
     first
      | (exfalso;omega)
      | (refine SW.ap bX rfl rfl rfl rfl (ct .zero) fun w5 bP hg => ?_
         replace hw:=hw.own mE hg;refine Wz ?_;exact ae.fH rfl rfl rfl bP rfl ⟨_,rfl,hw,.zero,rfl,eV.zero _ _⟩)
   ·repeat' (first|refine Wz ?_|refine SW.cb rfl rfl rfl (fun h => ?_) (fun h => ?_))
    all_goals
     refine SW.ap bX rfl rfl rfl rfl (ct .zero) fun w5 bP hg => ?_
     replace hw:=hw.own mE hg;refine Wz ?_;exact ae.fH rfl rfl rfl bP rfl ⟨_,rfl,hw,.zero,rfl,eV.zero _ _⟩
  ·refine Wz ?_
   all_goals
    refine SW.ap bX rfl rfl rfl rfl (ct .zero) fun w5 bP hg => ?_
    replace hw:=hw.own mE hg;refine Wz ?_;exact ae.fH rfl rfl rfl bP rfl ⟨_,rfl,hw,.zero,rfl,eV.zero _ _⟩
open Go.RowKit
theorem wm (f t:Int) (w:World) (hf : -9223372036854775808≤f∧f≤9223372036854775807) (ht : -9223372036854775808≤t∧t≤9223372036854775807) : bt Tryz.prog 110 [.int .i64 f,.int .i64 t] w (rq w.heap.size (oM f t)):=by
 refine aL Tryz.func110 rfl Tryz.ntmps110 rfl ?_;refine CW.seq (CW.region (SW.alloc rfl fun b4 w1 hw ml bX => ?_));have mE:=ml;by_cases jc:jt f t
 ·obtain ⟨h1,h2,h3,h4,h5⟩:=id jc;have m1:=mD h1;have m2:=mD (show 0≤t by omega);rw [lJ jc];obtain ⟨k,hk⟩ : ∃ k:Nat,(t-f) / 8=k:=⟨((t-f) / 8).toNat,by omega⟩;repeat' (first|refine Wz ?_|(refine SW.call rfl rfl (bM _ _ _ _) ?_;intro v w1 ab hv;subst hv;replace hw:=Ext.trans hw ab;replace bX:=bX.ext ab;clear ab))
  refine SW.alloc rfl fun b6 w1 ab eW ax => ?_
  have di:w.heap.size≤b6:=Nat.le_trans hw.size eW
  have vc:b4≠b6:=by have:=bX.lt;omega
  replace hw:=Ext.trans hw ab;replace bX:=bX.ext ab;refine SW.ap ax rfl rfl rfl rfl (ct ⟨f,t,.nil,.nil⟩) fun w2 gp hg => ?_
  replace hw:=hw.own di hg;replace bX:=bX.grown hg (by simpa using vc);replace ax:=gp;clear gp ab hg eW;refine Wz ?_
  refine CW.loop (fun s:Nat×Option Addr×Nat=>[(1,.int .i64 t),(4,.pointer (some ⟨b4,0,none⟩)),(6,.pointer (some ⟨b6,0,none⟩)),(7,.int .i64 (f+8*(s.1:Int)))])
   (fun s w'=>s.1≤k∧Ext w w'∧aJ w' b4 59 (bo .zero)∧aJ w' b6 59 (bo ⟨f,t,.nil,⟨s.2.1,s.1,s.2.2⟩⟩)∧Own w' w.heap.size 3 1 bh s.2.1 s.1 s.2.2 (List.replicate s.1 1)) (fun s=>k-s.1) (0,none,0)
   ⟨rfl,rfl,rfl,by simp;rfl,trivial⟩ ⟨by omega,hw,bX,ax,Own.eR _ _ _ _ _ _⟩ ?_
  clear hw bX ax;rintro ⟨i,A,c⟩ w' ⟨hi,hw,bX,ax,hO⟩
  simp only at hi ax hO ⊢;by_cases zv:i<k
  ·refine Wz ?_;refine SW.bJ rfl rfl rfl rfl rfl fun b w1 ab hb hB => ?_
   (replace hw:=Ext.trans hw ab;replace bX:=bX.ext ab;replace ax:=ax.ext ab;replace hO:=hO.ext ab);refine SW.append hO (aJ.mb (enc:=bh) (x:=1) hB) hw.size rfl rfl rfl (by omega) (by omega) fun A2 c2 w2 fT hg => ?_
   replace hw:=aE hw hg (Nat.le_refl _) hO.aM;replace bX:=bX.grown hg (fun e=>hO.dh bX rfl e.symm);replace ax:=ax.grown hg (fun e=>hO.dh ax rfl e.symm);refine Wz ?_;refine SW.bB (i:=3) ax rfl rfl rfl rfl fun w5 gp hg => ?_
   replace hw:=hw.own di hg;replace fT:=fT.grown hg (.inr (fT.dh ax rfl));replace bX:=bX.grown hg (by simpa using vc);refine Wz ?_;refine ae.again (i+1,A2,c2) ⟨rfl,rfl,rfl,by simp only [get];simp;omega,trivial⟩ (by simp only;omega) ⟨by simp only;omega,hw,bX,gp,?_⟩;simp only [List.replicate_succ'];exact fT
  ·obtain rfl:i=k:=by omega
   refine Wz ?_;refine SW.ap bX rfl rfl rfl rfl (ct ⟨f,t,.nil,⟨A,i,c⟩⟩) fun w5 bP hg => ?_
   replace hw:=hw.own mE hg;replace hO:=hO.grown hg (.inr (hO.dh bX rfl));refine Wz ?_;refine ae.fH rfl rfl rfl bP rfl ⟨_,rfl,hw,⟨f,t,.nil,⟨A,i,c⟩⟩,rfl,rfl,rfl,Own.eR _ _ _ _ _ _,?_⟩;simp only [hk,Int.toNat_natCast];exact hO
 ·rw [lI jc];unfold jt at jc;have m1:=fun h => @mD f h
  have m2:=fun h => @mD t h
  by_cases h1 : 0≤f
  ·have m1:=m1 h1;by_cases h2:f≤t
   ·have m2:=m2 (by omega);repeat' (first|refine Wz ?_|refine SW.ew rfl rfl rfl (fun h => ?_) (fun h => ?_)|(refine SW.call rfl rfl (bM _ _ _ _) ?_;intro v w1 ab hv;subst hv;replace hw:=Ext.trans hw ab;replace bX:=bX.ext ab;clear ab))
    all_goals
     first
      | (exfalso;omega)
      | (refine SW.ap bX rfl rfl rfl rfl (ct .zero) fun w5 bP hg => ?_
         replace hw:=hw.own mE hg;refine Wz ?_;exact ae.fH rfl rfl rfl bP rfl ⟨_,rfl,hw,.zero,rfl,eV.zero _ _⟩)
   ·repeat' (first|refine Wz ?_|refine SW.ew rfl rfl rfl (fun h => ?_) (fun h => ?_)|(refine SW.call rfl rfl (bM _ _ _ _) ?_;intro v w1 ab hv;subst hv;replace hw:=Ext.trans hw ab;replace bX:=bX.ext ab;clear ab))
    all_goals
     refine SW.ap bX rfl rfl rfl rfl (ct .zero) fun w5 bP hg => ?_
     replace hw:=hw.own mE hg;refine Wz ?_;exact ae.fH rfl rfl rfl bP rfl ⟨_,rfl,hw,.zero,rfl,eV.zero _ _⟩
  ·repeat' (first|refine Wz ?_|(refine SW.call rfl rfl (bM _ _ _ _) ?_;intro v w1 ab hv;subst hv;replace hw:=Ext.trans hw ab;replace bX:=bX.ext ab;clear ab))
   all_goals
    refine SW.ap bX rfl rfl rfl rfl (ct .zero) fun w5 bP hg => ?_
    replace hw:=hw.own mE hg;refine Wz ?_;exact ae.fH rfl rfl rfl bP rfl ⟨_,rfl,hw,.zero,rfl,eV.zero _ _⟩
open Go.RowKit
section
variable {P:Program} {L:Env} {w:World} {d:Option Nat} {T:TypeId} {pos:String} {af:Array Edge} {g:Option (Nat×Bool)}
theorem FK {t ty:TypeId} {x y:Operand} {i j:Int} (a b:Nat) (hx:ca L x=some (.int .i64 i)) (hy:ca L y=some (.int .i64 j)) (ha:i=(a:Int)) (hb:j=(b:Int)) (ie:a<9223372036854775808) (jE:b<9223372036854775808) :
 St P ⟨d,.binOp .xor t x y ty,T,pos,af,g⟩ L w (.int .i64 ((a ^^^ b:Nat) : Int)) :=
 ⟨fun n A hA w' _=>by
  have e1:=hA.eval hx;have e2:=hA.eval hy;subst ha hb;generalize A.eval = ρ at *
  have c9:a ^^^ b<2 ^ 63:=Nat.xor_lt_two_pow (by omega) (by omega)
  have e:(BitVec.ofInt 64 (a:Int) ^^^ BitVec.ofInt 64 (b:Int)).toNat=a ^^^ b:=by
   rw [BitVec.toNat_xor,BitVec.ofInt_natCast,BitVec.ofInt_natCast,BitVec.toNat_ofNat,BitVec.toNat_ofNat,Nat.mod_eq_of_lt (by omega),Nat.mod_eq_of_lt (by omega)]
  have aA:(Op.intBits .xor .i64 (a:Int) (b:Int)).run P w' = .ok (.int .i64 ((a ^^^ b:Nat) : Int)) w':=by
   have:Op.intBits .xor .i64 (a:Int) (b:Int)=(pure (.int .i64 (IntKind.i64.wrap ((BitVec.ofInt 64 (a:Int) ^^^ BitVec.ofInt 64 (b:Int)).toNat:Nat))) : Sem Value):=rfl
   rw [this,e,ir (by omega) (by omega)]
   rfl
  have aK:(binOp .xor t (.int .i64 (a:Int)) (.int .i64 (b:Int))).run P w' = .ok (.int .i64 ((a ^^^ b:Nat) : Int)) w':=by
   have:binOp .xor t (.int .i64 (a:Int)) (.int .i64 (b:Int))=Op.intBits .xor .i64 (a:Int) (b:Int):=by simp [binOp]
   rw [this,aA]
  simp [execOp,e1,e2,eqGuard,aK]⟩
theorem jR {t ty:TypeId} {x y:Operand} {i j:Int} (a o:Int) (hx:ca L x=some (.int .i64 i)) (hy:ca L y=some (.int .i64 j)) (hi:i=a) (hj:j=pw o) (h : 0≤a∧a<256∧0≤o∧o<4∧a % pw o=0) :
 St P ⟨d,.binOp .xor t x y ty,T,pos,af,g⟩ L w (.int .i64 (beside a o)):=by
 obtain ⟨h1,h2,h3,h4,h5⟩:=h;subst hi hj;obtain ⟨k,rfl⟩:=Int.eq_ofNat_of_zero_le h1;have hp:=bG h3 (by omega);have e:pw o=((2 ^ o.toNat:Nat) : Int):=by unfold pw;simp
 have c9:(2 ^ o.toNat:Nat)<9223372036854775808:=by omega
 have:=FK (P:=P) (t:=t) (ty:=ty) (w:=w) (d:=d) (T:=T) (pos:=pos) (af:=af) (g:=g) k (2 ^ o.toNat) hx hy rfl e (by omega) c9
 rw [xV (by omega) h3 h4 h5] at this;exact this
end
theorem dc (z:Int) (h : 0≤z∧z≤5) (w:World) : bt Tryz.prog 81 [.int .i64 z] w fun v _=>v = .int .i64 (pw z):=by
 refine aL Tryz.func81 rfl Tryz.ntmps81 rfl ?_;have hw:=Ext.refl w;obtain ⟨m,rfl⟩:=Int.eq_ofNat_of_zero_le h.1;refine Wz ?_;refine CW.loop (fun k:Nat=>[(0,.int .i64 ((m-k:Nat) : Int)),(3,.int .i64 (pw k))]) (fun k w'=>k≤m∧Ext w w') (fun k=>m-k) 0 ⟨by simp;rfl,rfl,trivial⟩ ⟨by omega,hw⟩ ?_;clear hw;rintro k w' ⟨hk,hw⟩
 by_cases Jd:k<m
 ·have hp:=bG (o:=(k:Int)) (by omega) (by omega);have hs:=ja (o:=(k:Int)) (by omega) (by omega);refine Wz ?_;have e1:((m-k:Nat) : Int)-1=((m-(k+1) : Nat) : Int):=by omega
  have e2 : 2*pw (k:Int)=pw ((k+1:Nat) : Int):=by rw [← hs];rfl
  exact ae.again (k+1) ⟨congrArg (fun z=>some (Value.int .i64 z)) e1,congrArg (fun z=>some (Value.int .i64 z)) e2,trivial⟩ (by omega) ⟨by omega,hw⟩
 ·obtain rfl:k=m:=by omega
  refine Wz ?_;exact ae.aN rfl rfl ⟨_,rfl,hw,rfl⟩
theorem nk (r:cq) (b:Block) (w:World) (h0 : 0≤r.aW) : bt Tryz.prog 93 [.agg (bo r).toArray,.agg (az b).toArray] w fun v _=>v = .bool (decide (eU r.aW r.To b.At b.Order)):=by
 refine aL Tryz.func93 rfl Tryz.ntmps93 rfl ?_;refine CW.seq (CW.region (SW.box rfl rfl fun b1 w1 hw aA h1 => ?_));refine SW.box rfl rfl fun b2 w2 cw aK h2 => ?_
 (replace hw:=Ext.trans hw cw;replace h1:=h1.ext cw);by_cases hf:eU r.aW r.To b.At b.Order
 ·obtain ⟨a1,a2,a3,a4,a5⟩:=id hf;have hp:=bG a1 a2;rw [decide_eq_true hf];have e:b.At.tmod (pw b.Order)=0:=by rw [Int.tmod_eq_emod_of_nonneg (by omega)];exact a5
  repeat' (first|refine Wz ?_|((apply CW.aO mixed;(· kernel_rfl);rotate_left;intro w1 ab;replace hw:=Ext.trans hw ab;replace h1:=h1.ext ab;replace h2:=h2.ext ab;clear ab;rotate_right))|(refine SW.st (fD (r:=pw b.Order) rfl rfl (by omega) (by omega) (by simp [pw]) (by omega) (by omega)) rfl ?_)|exact SW.bx rfl)
  exact ae.aN rfl rfl ⟨_,rfl,hw,by simp [e]⟩
 ·rw [decide_eq_false hf];by_cases a1 : 0≤b.Order
  ·by_cases a2:b.Order≤4
   ·by_cases a3:r.aW≤b.At
    ·by_cases a4:b.At<r.To
     ·have hp:=bG a1 a2
      have e:b.At.tmod (pw b.Order)≠0:=by
       rw [Int.tmod_eq_emod_of_nonneg (by omega)];exact fun a5=>hf ⟨a1,a2,a3,a4,a5⟩
      repeat' (first|refine Wz ?_|((apply CW.aO mixed;(· kernel_rfl);rotate_left;intro w1 ab;replace hw:=Ext.trans hw ab;replace h1:=h1.ext ab;replace h2:=h2.ext ab;clear ab;rotate_right))|(refine SW.st (fD (r:=pw b.Order) rfl rfl (by omega) (by omega) (by simp [pw]) (by omega) (by omega)) rfl ?_)|exact SW.bx rfl)
      exact ae.aN rfl rfl ⟨_,rfl,hw,by simp [e]⟩
     ·repeat' (first|refine Wz ?_|((apply CW.aO mixed;(· kernel_rfl);rotate_left;intro w1 ab;replace hw:=Ext.trans hw ab;replace h1:=h1.ext ab;replace h2:=h2.ext ab;clear ab;rotate_right))|exact SW.bx rfl)
      exact ae.aN rfl rfl ⟨_,rfl,hw,by simp [*]⟩
    ·repeat' (first|refine Wz ?_|((apply CW.aO mixed;(· kernel_rfl);rotate_left;intro w1 ab;replace hw:=Ext.trans hw ab;replace h1:=h1.ext ab;replace h2:=h2.ext ab;clear ab;rotate_right))|exact SW.bx rfl)
     exact ae.aN rfl rfl ⟨_,rfl,hw,by simp [*]⟩
   ·repeat' (first|refine Wz ?_|((apply CW.aO mixed;(· kernel_rfl);rotate_left;intro w1 ab;replace hw:=Ext.trans hw ab;replace h1:=h1.ext ab;replace h2:=h2.ext ab;clear ab;rotate_right))|exact SW.bx rfl)
    exact ae.aN rfl rfl ⟨_,rfl,hw,by simp [*]⟩
  ·repeat' (first|refine Wz ?_|((apply CW.aO mixed;(· kernel_rfl);rotate_left;intro w1 ab;replace hw:=Ext.trans hw ab;replace h1:=h1.ext ab;replace h2:=h2.ext ab;clear ab;rotate_right))|exact SW.bx rfl)
   exact ae.aN rfl rfl ⟨_,rfl,hw,by simp [*]⟩
theorem la (b:Block) (w:World) (h : 0≤b.Order∧b.Order≤4) (ha : 0≤b.At∧b.At≤256) : bt Tryz.prog 94 [.agg (az b).toArray] w fun v _=>v = .int .i64 (b.At+pw b.Order):=by
 refine aL Tryz.func94 rfl Tryz.ntmps94 rfl ?_;refine CW.seq (CW.region (SW.box rfl rfl fun b1 w1 hw aA h1 => ?_));have hp:=bG h.1 h.2;repeat' (first|refine Wz ?_|((apply CW.aO mixed;(· kernel_rfl);rotate_left;intro w1 ab;replace hw:=Ext.trans hw ab;replace h1:=h1.ext ab;clear ab;rotate_right))|(refine SW.st (fD (r:=pw b.Order) rfl rfl (by omega) (by omega) (by simp [pw]) (by omega) (by omega)) rfl ?_)|exact SW.bx rfl)
 exact ae.aN rfl rfl ⟨_,rfl,hw,rfl⟩
theorem oN (r:cq) (a o:Int) (w:World) (h0 : 0≤r.aW∧r.aW≤256) (h1 : 0≤r.To∧r.To≤256) : bt Tryz.prog 111 [.agg (bo r).toArray,.int .i64 a,.int .i64 o] w fun v _=>v = .bool (decide (eU r.aW r.To a o)):=by
 refine aL Tryz.func111 rfl Tryz.ntmps111 rfl ?_;refine CW.seq (CW.region (SW.box rfl rfl fun b1 w1 hw aA hB => ?_));by_cases a1 : 0≤o∧o≤4
 ·by_cases a2:r.aW≤a∧a<r.To
  ·have hp:=bG a1.1 a1.2;have e:a.tmod (pw o)=a % pw o:=Int.tmod_eq_emod_of_nonneg (by omega)
   repeat' (first|refine Wz ?_|((first|refine SW.call rfl rfl (bM _ _ _ _) ?_|refine SW.call rfl rfl (dc _ (by omega) _) ?_);intro v w1 ab hv;subst hv;replace hw:=Ext.trans hw ab;replace hB:=hB.ext ab;clear ab))
   all_goals try omega
   refine ae.aN rfl rfl ⟨_,rfl,hw,?_⟩;rw [e];simp [eU,a1.1,a1.2,a2.1,a2.2]
  ·repeat' (first|refine Wz ?_|(refine SW.call rfl rfl (bM _ _ _ _) ?_;intro v w1 ab hv;subst hv;replace hw:=Ext.trans hw ab;replace hB:=hB.ext ab;clear ab))
   all_goals try omega
   refine ae.aN rfl rfl ⟨_,rfl,hw,?_⟩;rw [decide_eq_false (fun h=>a2 ⟨h.2.2.1,h.2.2.2.1⟩)];try (simp;omega)
 ·repeat' (first|refine Wz ?_|(refine SW.call rfl rfl (bM _ _ _ _) ?_;intro v w1 ab hv;subst hv;replace hw:=Ext.trans hw ab;replace hB:=hB.ext ab;clear ab))
  all_goals try omega
  refine ae.aN rfl rfl ⟨_,rfl,hw,?_⟩;rw [decide_eq_false (fun h=>a1 ⟨h.1,h.2.1⟩)];try (simp;omega)
theorem gX {α:Type} {p : α → Bool} {l:List α} {k:Nat} (h:k<l.length) (hp:p l[k]=true) (hf:∀ j (hj:j<l.length),j<k→p l[j]=false) : idxOf p l=(k:Int):=by
 have e:l.findIdx p=k:=(List.findIdx_eq h).2 ⟨hp,fun j hj=>hf j (by omega) hj⟩
 have e2:l.any p=true:=List.any_eq_true.2 ⟨l[k],List.getElem_mem h,hp⟩
 simp [idxOf,e,e2]
theorem fj {α:Type} {p : α → Bool} {l:List α} (hf:∀ j (hj:j<l.length),p l[j]=false) : idxOf p l = -1∧l.any p=false:=by
 have e:l.any p=false:=by
  rw [List.any_eq_false];intro x hx;obtain ⟨j,hj,rfl⟩:=List.getElem_of_mem hx;simp [hf j hj]
 exact ⟨by simp [idxOf,e],e⟩
theorem iz {α:Type} (p : α → Bool) (l:List α) : decide (0≤idxOf p l)=l.any p:=by
 unfold idxOf;by_cases h:l.any p=true
 ·simp [h]
 ·simp [h]
theorem pI (A:Option Addr) (n c:Nat) (l:List Int) (w:World) (hl:Sl w 1 bh A n l) (f:FuncId) (cap:List Value) [Body Tryz.prog f] (p:Int→Bool) (arg:Int→Value) (mF:∀ x,arg x=(if 1=1 then (bh x)[0]?.getD undef else .agg (bh x).toArray))
 (hf:∀ x∈l,∀ w',Ext w w'→bt Tryz.prog f ([arg x]++cap) w' fun v _=>v = .bool (p x)) (hn:n≤9223372036854775807) :
 bt Tryz.prog 95 [.slice A n c,.func (.func f) #[] cap.toArray] w fun v _=>v = .int .i64 (idxOf p l):=by
 refine aL Tryz.func95 rfl Tryz.ntmps95 rfl ?_;have hw:=Ext.refl w;have hA:=hl.base;refine Wz ?_;refine CW.loop (fun k:Nat=>[(0,.slice A n c),(1,.func (.func f) #[] cap.toArray),(7,.int .i64 (n:Int)),(8,.int .i64 (k:Int))]) (fun k w'=>k≤n∧Ext w w' ∧ ∀ j (hj:j<l.length),j<k→p l[j]=false) (fun k=>n-k) 0 ⟨rfl,rfl,rfl,rfl,trivial⟩ ⟨by omega,hw,fun j _ h=>by omega⟩ ?_;clear hw;rintro k w' ⟨oO,hw,hI⟩
 by_cases hk:k<n
 ·have hx:=mF (l[k]'(hl.lt hk));have oP:=hf (l[k]'(hl.lt hk)) (List.getElem_mem _);rw [hx] at oP;repeat' (first|refine Wz ?_|refine SW.st (ao hw rfl (hl.one hk rfl)) rfl ?_)
  refine SW.oI rfl rfl rfl (oP _ hw) fun v w1 ab hv => ?_
  subst hv;replace hw:=Ext.trans hw ab;cases hp:p (l[k]'(hl.lt hk))
  ·refine Wz ?_;refine ae.again (k+1) ⟨rfl,rfl,rfl,rfl,trivial⟩ (by omega) ⟨by omega,hw,fun j hj h => ?_⟩;by_cases k7:j=k
   ·subst k7;exact hp
   ·exact hI j hj (by omega)
  ·refine Wz ?_;exact ae.aN rfl rfl ⟨_,rfl,hw,by rw [gX (hl.lt hk) hp hI]⟩
 ·refine Wz ?_;exact ae.aN rfl rfl ⟨_,rfl,hw,by rw [(fj (fun j hj=>hI j hj (by have:=hl.len;omega))).1]⟩
theorem gq (A:Option Addr) (n c:Nat) (l:List Int) (w:World) (hl:Sl w 1 bh A n l) (f:FuncId) (cap:List Value) [Body Tryz.prog f] (p:Int→Bool) (arg:Int→Value) (mF:∀ x,arg x=(if 1=1 then (bh x)[0]?.getD undef else .agg (bh x).toArray))
 (hf:∀ x∈l,∀ w',Ext w w'→bt Tryz.prog f ([arg x]++cap) w' fun v _=>v = .bool (p x)) (hn:n≤9223372036854775807) :
 bt Tryz.prog 60 [.slice A n c,.func (.func f) #[] cap.toArray] w fun v _=>v = .bool (l.any p):=by
 refine aL Tryz.func60 rfl Tryz.ntmps60 rfl ?_;have hw:=Ext.refl w;repeat' (first|refine Wz ?_|(refine SW.call rfl rfl (pI _ _ _ _ _ (hl.ext hw) f cap p arg mF (fun x hx w1 h1=>hf x hx w1 (Ext.trans hw h1)) hn) ?_;intro v w1 ab hv;subst hv;replace hw:=Ext.trans hw ab;clear ab))
 exact ae.aN rfl rfl ⟨_,rfl,hw,by rw [iz]⟩
theorem j0 (A:Option Addr) (n c:Nat) (l:List Block) (w:World) (hl:Sl w 3 az A n l) (f:FuncId) (cap:List Value) [Body Tryz.prog f] (p:Block→Bool) (arg:Block→Value) (mF:∀ x,arg x=(if 3=1 then (az x)[0]?.getD undef else .agg (az x).toArray))
 (hf:∀ x∈l,∀ w',Ext w w'→bt Tryz.prog f ([arg x]++cap) w' fun v _=>v = .bool (p x)) (hn:n≤9223372036854775807) :
 bt Tryz.prog 147 [.slice A n c,.func (.func f) #[] cap.toArray] w fun v _=>v = .int .i64 (idxOf p l):=by
 refine aL Tryz.func147 rfl Tryz.ntmps147 rfl ?_;have hw:=Ext.refl w;have hA:=hl.base;refine Wz ?_;refine CW.loop (fun k:Nat=>[(0,.slice A n c),(1,.func (.func f) #[] cap.toArray),(7,.int .i64 (n:Int)),(8,.int .i64 (k:Int))]) (fun k w'=>k≤n∧Ext w w' ∧ ∀ j (hj:j<l.length),j<k→p l[j]=false) (fun k=>n-k) 0 ⟨rfl,rfl,rfl,rfl,trivial⟩ ⟨by omega,hw,fun j _ h=>by omega⟩ ?_;clear hw;rintro k w' ⟨oO,hw,hI⟩
 by_cases hk:k<n
 ·have hx:=mF (l[k]'(hl.lt hk));have oP:=hf (l[k]'(hl.lt hk)) (List.getElem_mem _);rw [hx] at oP;repeat' (first|refine Wz ?_|refine SW.st (aH hw rfl rfl ((hl.all hk))) rfl ?_)
  refine SW.oI rfl rfl rfl (oP _ hw) fun v w1 ab hv => ?_
  subst hv;replace hw:=Ext.trans hw ab;cases hp:p (l[k]'(hl.lt hk))
  ·refine Wz ?_;refine ae.again (k+1) ⟨rfl,rfl,rfl,rfl,trivial⟩ (by omega) ⟨by omega,hw,fun j hj h => ?_⟩;by_cases k7:j=k
   ·subst k7;exact hp
   ·exact hI j hj (by omega)
  ·refine Wz ?_;exact ae.aN rfl rfl ⟨_,rfl,hw,by rw [gX (hl.lt hk) hp hI]⟩
 ·refine Wz ?_;exact ae.aN rfl rfl ⟨_,rfl,hw,by rw [(fj (fun j hj=>hI j hj (by have:=hl.len;omega))).1]⟩
theorem mm (A:Option Addr) (n c:Nat) (l:List Block) (w:World) (hl:Sl w 3 az A n l) (f:FuncId) (cap:List Value) [Body Tryz.prog f] (p:Block→Bool) (arg:Block→Value) (mF:∀ x,arg x=(if 3=1 then (az x)[0]?.getD undef else .agg (az x).toArray))
 (hf:∀ x∈l,∀ w',Ext w w'→bt Tryz.prog f ([arg x]++cap) w' fun v _=>v = .bool (p x)) (hn:n≤9223372036854775807) :
 bt Tryz.prog 142 [.slice A n c,.func (.func f) #[] cap.toArray] w fun v _=>v = .bool (l.any p):=by
 refine aL Tryz.func142 rfl Tryz.ntmps142 rfl ?_;have hw:=Ext.refl w;repeat' (first|refine Wz ?_|(refine SW.call rfl rfl (j0 _ _ _ _ _ (hl.ext hw) f cap p arg mF (fun x hx w1 h1=>hf x hx w1 (Ext.trans hw h1)) hn) ?_;intro v w1 ab hv;subst hv;replace hw:=Ext.trans hw ab;clear ab))
 exact ae.aN rfl rfl ⟨_,rfl,hw,by rw [iz]⟩
open Go.RowKit
def vd (t:Int) : Bool := !decide (fi t)
theorem xW {t:Int} (h:fi t) : vd t=false:=by simp [vd,h]
theorem xX {t:Int} (h : ¬ fi t) : vd t=true:=by simp [vd,h]
theorem rV (t:Int) (w:World) : bt Tryz.prog 92 ([.int .i64 t]++[]) w fun v _=>v = .bool (vd t):=by
 refine aL Tryz.func92 rfl Tryz.ntmps92 rfl ?_;have hw:=Ext.refl w;by_cases h1 : 0≤t
 ·by_cases h2:t≤2
  ·rw [xW ⟨h1,h2⟩];refine Wz ?_;all_goals exact ae.aN rfl rfl ⟨_,rfl,hw,by simp;try omega⟩
  ·rw [xX (fun h=>h2 h.2)];refine Wz ?_;all_goals exact ae.aN rfl rfl ⟨_,rfl,hw,by simp;try omega⟩
 ·rw [xX (fun h=>h1 h.1)];refine Wz ?_;all_goals exact ae.aN rfl rfl ⟨_,rfl,hw,by simp;try omega⟩
set_option maxHeartbeats 4000000 in
theorem j1 (r:cq) (z:aq) (w:World) (hr:tN w r z) (hf:r.ag.n≤2305843009213693952) (ht:r.Types.n≤2305843009213693952) (h1 : -9223372036854775808≤r.aW∧r.aW≤9223372036854775807) (h2 : -9223372036854775808≤r.To∧r.To≤9223372036854775807) :
 bt Tryz.prog 59 [.agg (bo r).toArray] w fun v _=>v = .int .i64 (if dZ z then 0 else 8):=by
 refine aL Tryz.func59 rfl Tryz.ntmps59 rfl ?_;refine CW.seq (CW.region (SW.box rfl rfl fun b1 w1 hw gK aA => ?_));have eF:=hr.from_;have eT:=hr.jZ;have BW:=hr.free.len;have G5:=hr.types.len;refine Wz ?_;refine SW.call rfl rfl (BV r.aW r.To _ h1 h2) fun v w2 cw hv => ?_
 (replace hw:=Ext.trans hw cw;replace aA:=aA.ext cw);by_cases jc:jt r.aW r.To
 ·rw [lJ jc] at hv;obtain ⟨s,rfl,hs⟩:=hv;obtain ⟨o1,o2,o3,o4,o5⟩:=id jc;have k6:∀ {p:Prop},(bR z→False)→p ∨ ¬ bR z:=fun h => .inr h
  by_cases HC : 8*(z.Types.length:Int)=z.To-z.aW
  ·refine Wz ?_;refine SW.alloc rfl fun b3 w1 ab bK ar => ?_
   have cn:w.heap.size≤b3:=Nat.le_trans hw.size bK
   have j2:b1≠b3:=by have:=aA.lt;omega
   replace hw:=Ext.trans hw ab;replace aA:=aA.ext ab;replace hs:=hs.ext ab;refine SW.ap ar rfl rfl rfl rfl (ct _) fun w2 cS hg => ?_
   replace hw:=hw.own cn hg;replace hs:=hs.cU ar hg rfl rfl;replace aA:=aA.grown hg (by simpa using j2);replace ar:=cS;clear cS ab hg bK
   have cO:∀ w',Ext w w'→bt Tryz.prog 60 [.slice r.Types.A r.Types.n r.Types.c,.func (.func 92) #[] ([] : List Value).toArray] w' fun v _=>v = .bool (z.Types.any vd):=fun w' h =>
    gq _ _ _ _ _ (hr.types.ext h) _ [] vd (fun x => .int .i64 x) (fun x=>rfl) (fun x _ w1 _=>rV x w1) (by omega)
   cases Aa:z.Types.any vd
   ·rw [Aa] at cO
    have nn:∀ t∈z.Types,fi t:=fun t BX=>by
     rw [List.any_eq_false] at Aa;have:=Aa t BX
     simp [vd] at this;exact this
    repeat' (first|refine Wz ?_|(refine SW.call rfl rfl (cO _ hw) ?_;intro v w1 ab hv;subst hv;replace hw:=Ext.trans hw ab;replace aA:=aA.ext ab;clear ab))
    refine CW.loop (fun k:Nat=>[(1,.pointer (some ⟨b1,0,none⟩)),(5,.func (.func 92) #[] #[]),(35,.slice r.ag.A r.ag.n r.ag.c),(36,.int .i64 (r.ag.n:Int)),(37,.int .i64 (k:Int))])
     (fun k w'=>k≤r.ag.n∧Ext w w'∧aJ w' b1 59 (bo r)∧(∀ (i:Nat) (h:i<z.ag.length),i<k→dB z.aW z.To z.ag[i])∧(∀ (i:Nat) (h:i+1<z.ag.length),i+1<k→gI z.ag[i] z.ag[i+1]))
     (fun k=>r.ag.n-k) 0 ⟨rfl,rfl,rfl,rfl,rfl,trivial⟩ ⟨by omega,hw,aA,fun i h hi=>by omega,fun i h hi=>by omega⟩ ?_
    clear hw aA ar cO hs;rintro k w' ⟨hk,hw,aA,hI,hN⟩
    have hA:=hr.free.base;by_cases bY:k<r.ag.n
    ·have de:=hr.free.lt bY;repeat' (first|refine Wz ?_|refine SW.st (aH hw rfl rfl ((hr.free.all bY))) rfl ?_)
     refine SW.alloc rfl fun b7 w3 jQ lc jS => ?_
     have qS:w.heap.size≤b7:=Nat.le_trans hw.size lc
     have cG:b1≠b7:=by have:=aA.lt;omega
     (replace hw:=Ext.trans hw jQ;replace aA:=aA.ext jQ);refine Wz ?_;refine SW.ap jS rfl rfl rfl rfl (fB.one (enc:=az) _) fun w4 dF hg => ?_
     replace hw:=hw.own qS hg;replace aA:=aA.grown hg (by simpa using cG);by_cases mG:dB z.aW z.To z.ag[k]
     ·obtain ⟨Ab,qT⟩:=id mG;obtain ⟨f1,f2,f3,f4,f5⟩:=id Ab;have hp:=bG f1 f2
      have cF:∀ w',Ext w w'→bt Tryz.prog 93 [.agg (bo r).toArray,.agg (az z.ag[k]).toArray] w' fun v _=>v = .bool true:=fun w' _=>by
       have:=nk r z.ag[k] w' (by omega)
       rwa [eF,eT,decide_eq_true Ab] at this
      have cD:∀ w',bt Tryz.prog 92 ([.int .i64 (z.ag[k]).Ty]++[]) w' fun v _=>v = .bool false:=fun w'=>by
       have:=rV (z.ag[k]).Ty w'
       rwa [xW qT] at this
      by_cases pJ:k=0
      ·subst pJ;repeat' (first|refine Wz ?_|((apply CW.aO mixed;(· kernel_rfl);rotate_left;intro w1 ab;replace hw:=Ext.trans hw ab;replace aA:=aA.ext ab;replace dF:=dF.ext ab;clear ab;rotate_right))|refine SW.want rfl rfl ?_|refine SW.bq rfl rfl (fun w1 ab=>(cF _ (Ext.trans hw ab))) ?_|(refine SW.n6 rfl rfl rfl (fun w1 _=>cD w1) ?_)|exact SW.bx rfl)
       refine ae.again (0+1) ⟨rfl,rfl,rfl,rfl,rfl,trivial⟩ (by omega) ⟨by omega,hw,aA,fun i h hi => ?_,fun i h hi=>by omega⟩;obtain rfl:i=0:=by omega
       exact mG
      ·obtain ⟨j,rfl⟩ : ∃ j,k=j+1:=⟨k-1,by omega⟩;have hj:j<r.ag.n:=by omega
       have kO:=hr.free.lt hj;obtain ⟨⟨g1,g2,g3,g4,g5⟩,_⟩:=hI j kO (by omega);have cE:∀ w',bt Tryz.prog 94 [.agg (az z.ag[j]).toArray] w' fun v _=>v = .int .i64 ((z.ag[j]).At+pw (z.ag[j]).Order):=fun w'=>la _ _ ⟨g1,g2⟩ ⟨by omega,by omega⟩
       by_cases c9:(z.ag[j]).At+pw (z.ag[j]).Order≤(z.ag[j+1]).At
       ·by_cases BY:(z.ag[j+1]).Order<4∧(z.ag[j]).Order=(z.ag[j+1]).Order∧(z.ag[j]).At=beside (z.ag[j+1]).At (z.ag[j+1]).Order
        ·obtain ⟨u1,u2,u3⟩:=id BY;repeat' (first|refine Wz ?_|((apply CW.aO mixed;(· kernel_rfl);rotate_left;intro w1 ab;replace hw:=Ext.trans hw ab;replace aA:=aA.ext ab;replace dF:=dF.ext ab;clear ab;rotate_right))|refine SW.st (aY (j) rfl rfl (by assumption) (by omega) (by omega)) rfl ?_|refine SW.st (aH hw rfl rfl ((hr.free.all hj))) rfl ?_|refine SW.st (ao hw rfl (hr.free.dv hj rfl)) rfl ?_|refine SW.bq rfl rfl (fun w1 ab=>(cF _ (Ext.trans hw ab))) ?_|refine SW.bq rfl rfl (fun w1 ab=>(cE _)) ?_|(refine SW.n6 rfl rfl rfl (fun w1 _=>cD w1) ?_)|(refine SW.st (fD (r:=pw (z.ag[j+1]).Order) rfl rfl (by omega) (by omega) (by simp [pw]) (by omega) (by omega)) rfl ?_)|(refine SW.st (jR (z.ag[j+1]).At (z.ag[j+1]).Order rfl rfl rfl rfl ⟨by omega,by omega,f1,u1,f5⟩) rfl ?_)|exact SW.bx rfl)
         refine ae.aN rfl rfl ⟨_,rfl,hw,?_⟩;rw [gf (fun h=>(h.next j de).2 BY)];rfl
        ·by_cases u1:(z.ag[j+1]).Order<4
         ·by_cases u2:(z.ag[j]).Order=(z.ag[j+1]).Order
          ·have u3 : ¬ (z.ag[j]).At=beside (z.ag[j+1]).At (z.ag[j+1]).Order:=fun u3=>BY ⟨u1,u2,u3⟩
           repeat' (first|refine Wz ?_|((apply CW.aO mixed;(· kernel_rfl);rotate_left;intro w1 ab;replace hw:=Ext.trans hw ab;replace aA:=aA.ext ab;replace dF:=dF.ext ab;clear ab;rotate_right))|refine SW.want rfl rfl ?_|refine SW.st (aY (j) rfl rfl (by assumption) (by omega) (by omega)) rfl ?_|refine SW.st (aH hw rfl rfl ((hr.free.all hj))) rfl ?_|refine SW.st (ao hw rfl (hr.free.dv hj rfl)) rfl ?_|refine SW.bq rfl rfl (fun w1 ab=>(cF _ (Ext.trans hw ab))) ?_|refine SW.bq rfl rfl (fun w1 ab=>(cE _)) ?_|(refine SW.n6 rfl rfl rfl (fun w1 _=>cD w1) ?_)|(refine SW.st (fD (r:=pw (z.ag[j+1]).Order) rfl rfl (by omega) (by omega) (by simp [pw]) (by omega) (by omega)) rfl ?_)|(refine SW.st (jR (z.ag[j+1]).At (z.ag[j+1]).Order rfl rfl rfl rfl ⟨by omega,by omega,f1,u1,f5⟩) rfl ?_)|exact SW.bx rfl)
           refine ae.again (j+1+1) ⟨rfl,rfl,rfl,rfl,rfl,trivial⟩ (by omega) ⟨by omega,hw,aA,fun i h hi => ?_,fun i h hi => ?_⟩
           ·by_cases kP:i=j+1
            ·subst kP;exact mG
            ·exact hI i h (by omega)
           ·by_cases kP:i=j
            ·subst kP;exact ⟨c9,BY⟩
            ·exact hN i h (by omega)
          ·repeat' (first|refine Wz ?_|((apply CW.aO mixed;(· kernel_rfl);rotate_left;intro w1 ab;replace hw:=Ext.trans hw ab;replace aA:=aA.ext ab;replace dF:=dF.ext ab;clear ab;rotate_right))|refine SW.want rfl rfl ?_|refine SW.st (aY (j) rfl rfl (by assumption) (by omega) (by omega)) rfl ?_|refine SW.st (aH hw rfl rfl ((hr.free.all hj))) rfl ?_|refine SW.st (ao hw rfl (hr.free.dv hj rfl)) rfl ?_|refine SW.bq rfl rfl (fun w1 ab=>(cF _ (Ext.trans hw ab))) ?_|refine SW.bq rfl rfl (fun w1 ab=>(cE _)) ?_|(refine SW.n6 rfl rfl rfl (fun w1 _=>cD w1) ?_)|exact SW.bx rfl)
           refine ae.again (j+1+1) ⟨rfl,rfl,rfl,rfl,rfl,trivial⟩ (by omega) ⟨by omega,hw,aA,fun i h hi => ?_,fun i h hi => ?_⟩
           ·by_cases kP:i=j+1
            ·subst kP;exact mG
            ·exact hI i h (by omega)
           ·by_cases kP:i=j
            ·subst kP;exact ⟨c9,BY⟩
            ·exact hN i h (by omega)
         ·repeat' (first|refine Wz ?_|((apply CW.aO mixed;(· kernel_rfl);rotate_left;intro w1 ab;replace hw:=Ext.trans hw ab;replace aA:=aA.ext ab;replace dF:=dF.ext ab;clear ab;rotate_right))|refine SW.want rfl rfl ?_|refine SW.st (aY (j) rfl rfl (by assumption) (by omega) (by omega)) rfl ?_|refine SW.st (aH hw rfl rfl ((hr.free.all hj))) rfl ?_|refine SW.bq rfl rfl (fun w1 ab=>(cF _ (Ext.trans hw ab))) ?_|refine SW.bq rfl rfl (fun w1 ab=>(cE _)) ?_|(refine SW.n6 rfl rfl rfl (fun w1 _=>cD w1) ?_)|exact SW.bx rfl)
          refine ae.again (j+1+1) ⟨rfl,rfl,rfl,rfl,rfl,trivial⟩ (by omega) ⟨by omega,hw,aA,fun i h hi => ?_,fun i h hi => ?_⟩
          ·by_cases kP:i=j+1
           ·subst kP;exact mG
           ·exact hI i h (by omega)
          ·by_cases kP:i=j
           ·subst kP;exact ⟨c9,BY⟩
           ·exact hN i h (by omega)
       ·repeat' (first|refine Wz ?_|((apply CW.aO mixed;(· kernel_rfl);rotate_left;intro w1 ab;replace hw:=Ext.trans hw ab;replace aA:=aA.ext ab;replace dF:=dF.ext ab;clear ab;rotate_right))|refine SW.want rfl rfl ?_|refine SW.st (aY (j) rfl rfl (by assumption) (by omega) (by omega)) rfl ?_|refine SW.st (aH hw rfl rfl ((hr.free.all hj))) rfl ?_|refine SW.bq rfl rfl (fun w1 ab=>(cF _ (Ext.trans hw ab))) ?_|refine SW.bq rfl rfl (fun w1 ab=>(cE _)) ?_|(refine SW.n6 rfl rfl rfl (fun w1 _=>cD w1) ?_)|exact SW.bx rfl)
        refine ae.aN rfl rfl ⟨_,rfl,hw,?_⟩;rw [gf (fun h=>c9 (h.next j de).1)];rfl
     ·have wo:dZ z=false:=gf (fun h=>mG (h.cU k de))
      by_cases Ab:eU z.aW z.To (z.ag[k]).At (z.ag[k]).Order
      ·have qT : ¬ fi (z.ag[k]).Ty:=fun h=>mG ⟨Ab,h⟩
       have cF:∀ w',Ext w w'→bt Tryz.prog 93 [.agg (bo r).toArray,.agg (az z.ag[k]).toArray] w' fun v _=>v = .bool true:=fun w' _=>by
        have:=nk r z.ag[k] w' (by omega)
        rwa [eF,eT,decide_eq_true Ab] at this
       have cD:∀ w',bt Tryz.prog 92 ([.int .i64 (z.ag[k]).Ty]++[]) w' fun v _=>v = .bool true:=fun w'=>by
        have:=rV (z.ag[k]).Ty w'
        rwa [xX qT] at this
       repeat' (first|refine Wz ?_|((apply CW.aO mixed;(· kernel_rfl);rotate_left;intro w1 ab;replace hw:=Ext.trans hw ab;replace aA:=aA.ext ab;replace dF:=dF.ext ab;clear ab;rotate_right))|refine SW.want rfl rfl ?_|refine SW.bq rfl rfl (fun w1 ab=>(cF _ (Ext.trans hw ab))) ?_|(refine SW.n6 rfl rfl rfl (fun w1 _=>cD w1) ?_)|exact SW.bx rfl)
       exact ae.aN rfl rfl ⟨_,rfl,hw,by rw [wo];rfl⟩
      ·have cF:∀ w',Ext w w'→bt Tryz.prog 93 [.agg (bo r).toArray,.agg (az z.ag[k]).toArray] w' fun v _=>v = .bool false:=fun w' _=>by
        have:=nk r z.ag[k] w' (by omega)
        rwa [eF,eT,decide_eq_false Ab] at this
       repeat' (first|refine Wz ?_|((apply CW.aO mixed;(· kernel_rfl);rotate_left;intro w1 ab;replace hw:=Ext.trans hw ab;replace aA:=aA.ext ab;replace dF:=dF.ext ab;clear ab;rotate_right))|refine SW.skip rfl rfl rfl rfl ?_|refine SW.bq rfl rfl (fun w1 ab=>(cF _ (Ext.trans hw ab))) ?_|exact SW.bx rfl)
       exact ae.aN rfl rfl ⟨_,rfl,hw,by rw [wo];rfl⟩
    ·refine Wz ?_;refine ae.aN rfl rfl ⟨_,rfl,hw,?_⟩;rw [rp ⟨by rw [← eF,← eT];exact jc,HC,nn,fun i h=>hI i h (by omega),fun i h=>hN i h (by omega)⟩];rfl
   ·rw [Aa] at cO;repeat' (first|refine Wz ?_|(refine SW.call rfl rfl (cO _ hw) ?_;intro v w1 ab hv;subst hv;replace hw:=Ext.trans hw ab;replace aA:=aA.ext ab;clear ab))
    refine ae.aN rfl rfl ⟨_,rfl,hw,?_⟩
    rw [gf (fun h=>by
     rw [List.any_eq_true] at Aa;obtain ⟨t,h1,h2⟩:=Aa;rw [xW (h.types t h1)] at h2;cases h2)];rfl
  ·refine Wz ?_;refine SW.alloc rfl fun b3 w1 ab bK ar => ?_
   have cn:w.heap.size≤b3:=Nat.le_trans hw.size bK
   have j2:b1≠b3:=by have:=aA.lt;omega
   replace hw:=Ext.trans hw ab;replace aA:=aA.ext ab;replace hs:=hs.ext ab;refine SW.ap ar rfl rfl rfl rfl (ct _) fun w2 cS hg => ?_
   replace hw:=hw.own cn hg;replace hs:=hs.cU ar hg rfl rfl;replace aA:=aA.grown hg (by simpa using j2);replace ar:=cS;clear cS ab hg bK;refine Wz ?_;refine ae.aN rfl rfl ⟨_,rfl,hw,?_⟩;rw [gf (fun h=>HC h.len)];rfl
 ·rw [lI jc] at hv;obtain ⟨s,rfl,hs⟩:=hv;refine Wz ?_;refine SW.alloc rfl fun b3 w1 ab bK ar => ?_
  have cn:w.heap.size≤b3:=Nat.le_trans hw.size bK
  have j2:b1≠b3:=by have:=aA.lt;omega
  replace hw:=Ext.trans hw ab;replace aA:=aA.ext ab;replace hs:=hs.ext ab;refine SW.ap ar rfl rfl rfl rfl (ct _) fun w2 cS hg => ?_
  replace hw:=hw.own cn hg;replace hs:=hs.cU ar hg rfl rfl;replace aA:=aA.grown hg (by simpa using j2);replace ar:=cS;clear cS ab hg bK;refine Wz ?_;refine ae.aN rfl rfl ⟨_,rfl,hw,?_⟩;rw [gf (fun h=>jc (by rw [eF,eT];exact h.ok))];rfl
end Go.Proofs.YtjimadiidbkohaaGreatDoor
