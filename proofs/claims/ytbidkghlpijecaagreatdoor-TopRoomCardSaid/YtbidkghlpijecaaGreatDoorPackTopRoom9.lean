/-
  Texts of the claim TopRoom, part 9: what its theorem leans on.
-/
import Derived.Test.YtbidkghlpijecaaGreatDoorPackTopRoom8
import Derived.Test.YtbidkghlpijecaaGreatDoorPackTopRoom6
import Derived.Test.YtbidkghlpijecaaGreatDoorPackTopRoom5
import Derived.Test.YtbidkghlpijecaaGreatDoorPackTopRoom2
set_option linter.unusedVariables false
set_option linter.unusedSimpArgs false
namespace Go.Proofs.YtbidkghlpijecaaGreatDoor
def dS (a b:ap) : Prop:=a.eI=b.eI∧a.ab=b.ab∧a.Ty=b.Ty
instance (a b:ap) : Decidable (dS a b):=inferInstanceAs (Decidable (_∧_))
def wc (L:List ap) : Prop:=L.Pairwise bD
theorem qJ {a b c:ap} (h1:bD a b) (h2:bD b c) : bD a c:=by unfold bD at *;omega
theorem uP (a b:ap) : bD a b∨dS a b∨bD b a:=by unfold bD dS;omega
theorem BS {a b:ap} (h:bD a b) : ¬ dS a b ∧ ¬ dS b a ∧ ¬ bD b a:=by unfold bD dS at *;omega
theorem we {c t:Int} {L:List ap} (h:js c t L) : wc L:=by
 have key:∀ (d i:Nat) (hj:i+d+1<L.length),bD (L[i]'(by omega)) L[i+d+1]:=by
  intro d;induction d with
  | zero=>intro i hj;exact h.next i hj
  | succ d ih=>intro i hj;exact qJ (ih i (by omega)) (h.next (i+d+1) (by omega))
 unfold wc;rw [List.pairwise_iff_getElem];intro i j hi hj j1;have:=key (j-i-1) i (by omega)
 have e:i+(j-i-1)+1=j:=by omega
 simp only [e] at this;exact this
theorem wc.get {L:List ap} (h:wc L) {i j:Nat} (hj:j<L.length) (j1:i<j) : bD (L[i]'(Nat.lt_trans j1 hj)) L[j]:=by
 unfold wc at h;rw [List.pairwise_iff_getElem] at h;exact h i j (by omega) hj j1
def aO (L:List ap) (x:ap) : Nat:=L.findIdx fun l => !decide (bD l x)
theorem jw (L:List ap) (x:ap) : aO L x≤L.length:=List.findIdx_le_length
theorem sJ {L:List ap} {x:ap} {k:Nat} (hk:k<aO L x) : bD (L[k]'(Nat.lt_of_lt_of_le hk (jw L x))) x:=by
 have:=List.not_of_lt_findIdx hk
 simpa using this
theorem FQ {L:List ap} {x:ap} (h:aO L x<L.length) : ¬ bD (L[aO L x]) x:=by
 have:=List.findIdx_getElem (w:=h)
 exact of_decide_eq_false (by rw [Bool.not_eq_true'] at this;exact this)
theorem nt {L:List ap} {x:ap} {i:Nat} (hi:i≤L.length) (h1:∀ (k:Nat) (h:k<L.length),k<i→bD L[k] x) (h2:∀ h:i<L.length,¬ bD L[i] x) : aO L x=i:=by
 unfold aO;by_cases h:i<L.length
 ·exact (List.findIdx_eq h).2 ⟨by simpa using h2 h,fun j hj=>by simpa using h1 j (by omega) hj⟩
 ·have e:i=L.length:=by omega
  subst e;rw [List.findIdx_eq_length];intro y hy;obtain ⟨k,hk,rfl⟩:=List.getElem_of_mem hy;simpa using h1 k hk hk
def bC (L:List ap) (x:ap) : Bool:=if h:aO L x<L.length then decide (dS L[aO L x] x) else false
theorem fK {L:List ap} {x:ap} (h:bC L x=true) : ∃ hk:aO L x<L.length,dS L[aO L x] x:=by
 unfold bC at h;split at h
 ·rename_i hk;exact ⟨hk,of_decide_eq_true h⟩
 ·cases h
theorem FR {L:List ap} {x:ap} (h:bC L x=false) (hk:aO L x<L.length) : bD x L[aO L x]:=by
 unfold bC at h;rw [dif_pos hk] at h;have h1:=of_decide_eq_false h;have h2:=FQ hk;rcases uP L[aO L x] x with e|e|e
 ·exact absurd e h2
 ·exact absurd e h1
 ·exact e
theorem DP {L:List ap} (hs:wc L) {x:ap} {k:Nat} (hk:k<L.length) (h:dS L[k] x) : aO L x=k∧bC L x=true:=by
 have e:aO L x=k:=nt (by omega) (fun j hj kB=>by have:=hs.get hk kB;unfold bD dS at *;omega) (fun _=>by unfold bD dS at *;omega)
 refine ⟨e,?_⟩;unfold bC;simp only [e,dif_pos hk];exact decide_eq_true h
theorem gx {L:List ap} {x y:ap} (h:dS x y) : aO L x=aO L y∧bC L x=bC L y:=by
 have e:(fun l => !decide (bD l x))=(fun l:ap => !decide (bD l y)):=by
  funext l
  have:bD l x↔bD l y:=by unfold bD dS at *;omega
  simp [this]
 have e1:aO L x=aO L y:=by unfold aO;rw [e]
 refine ⟨e1,?_⟩;unfold bC;simp only [e1];split
 ·have:dS L[aO L y] x↔dS L[aO L y] y:=by unfold dS at *;omega
  simp [this]
 ·rfl
def eU (L:List ap) (x:ap) : List ap:=if bC L x then L.set (aO L x) x else aH L (aO L x) x
theorem mQ {L:List ap} {x:ap} (h:bC L x=true) : eU L x=L.set (aO L x) x:=by rw [eU,if_pos h]
theorem lC {L:List ap} {x:ap} (h:bC L x=false) : eU L x=aH L (aO L x) x:=by rw [eU,if_neg (by simp [h])]
def bA (L:List ap) (x:ap) : List Int:=if bC L x then (L.getD (aO L x) x).an else []
theorem dY {L:List ap} {x:ap} (h:bC L x=true) (hk:aO L x<L.length) : bA L x=L[aO L x].an:=by
 rw [bA,if_pos h,List.getD_eq_getElem?_getD,List.getElem?_eq_getElem hk];rfl
theorem iE {L:List ap} {x:ap} (h:bC L x=false) : bA L x=[]:=by rw [bA,if_neg (by simp [h])]
theorem dC {α:Type} (l:List α) {i:Nat} (h:i≤l.length) (x : α) : (aH l i x).length=l.length+1:=by simp [aH];omega
theorem sK {α:Type} {l:List α} {i:Nat} (h:i≤l.length) {x : α} {k:Nat} (hk:k<i) : (aH l i x)[k]?=l[k]?:=by
 unfold aH;rw [List.append_assoc,List.getElem?_append_left (by simp;omega),List.getElem?_take_of_lt hk]
theorem mR {α:Type} {l:List α} {i:Nat} (h:i≤l.length) {x : α}:(aH l i x)[i]?=some x:=by
 unfold aH;rw [List.append_assoc,List.getElem?_append_right (by simp;omega)];have:i-(l.take i).length=0:=by simp;omega
 rw [this];rfl
theorem xD {α:Type} {l:List α} {i:Nat} (h:i≤l.length) {x : α} {k:Nat} (hk:i≤k) : (aH l i x)[k+1]?=l[k]?:=by
 unfold aH;rw [List.append_assoc,List.getElem?_append_right (by simp;omega)];have:k+1-(l.take i).length=(k-i)+1:=by simp;omega
 rw [this,List.singleton_append,List.getElem?_cons_succ,List.getElem?_drop];congr 1
 omega
theorem pX {α:Type} {l:List α} {i:Nat} (h:i≤l.length) (x y : α) : (aH l i x).set i y=aH l i y:=by
 unfold aH;rw [List.append_assoc,List.append_assoc,List.set_append_right _ _ (by simp;omega)];have:i-(l.take i).length=0:=by simp;omega
 rw [this];rfl
theorem sL {L:List ap} {x:ap}:(eU L x)[aO L x]?=some x:=by
 cases h:bC L x
 ·rw [lC h];exact mR (jw L x)
 ·obtain ⟨hk,_⟩:=fK h;rw [mQ h,List.getElem?_set_self hk]
theorem xE {L:List ap} {x:ap}:aO (eU L x) x=aO L x∧bC (eU L x) x=true:=by
 have hg:=sL (L:=L) (x:=x);obtain ⟨hk,hx⟩:=List.getElem?_eq_some_iff.1 hg
 have e:aO (eU L x) x=aO L x:=by
  refine nt (by omega) (fun j hj kB => ?_) (fun _ => ?_)
  ·have h0:=sJ (L:=L) (x:=x) kB
   have e1:(eU L x)[j]?=L[j]?:=by
    cases h:bC L x
    ·rw [lC h];exact sK (jw L x) kB
    ·rw [mQ h,List.getElem?_set_ne (by omega)]
   rw [List.getElem?_eq_getElem hj,List.getElem?_eq_getElem (Nat.lt_of_lt_of_le kB (jw L x))] at e1;injection e1 with e1
   rw [e1];exact h0
  ·rw [hx];unfold bD;omega
 refine ⟨e,?_⟩;unfold bC;simp only [e,dif_pos hk,hx];exact decide_eq_true ⟨rfl,rfl,rfl⟩
theorem xF {L:List ap} {x y:ap} (h:dS x y) : (eU L x).set (aO L x) y=eU L y:=by
 obtain ⟨e1,e2⟩:=gx (L:=L) h;cases hh:bC L x
 ·rw [lC hh,lC (by rw [← e2];exact hh),pX (jw L x),e1]
 ·rw [mQ hh,mQ (by rw [← e2];exact hh),List.set_set,e1]
open Go.RowKit
def Marks (w:World) (b N:Nat) : Option (List Block)→Prop
 | some bs=>aT w b 224 (eM (cy bs) N false)
 | none => ∃ p,aT w b 224 (eM p N true)
theorem Marks.ext {w w':World} {b N:Nat} {s:Option (List Block)} (h:Marks w b N s) (hx:Ext w w') : Marks w' b N s:=by
 cases s with
 | none=>obtain ⟨p,h⟩:=h;exact ⟨p,aT.ext h hx⟩
 | some bs=>exact aT.ext h hx
theorem Marks.bad {w:World} {b N:Nat} {s:Option (List Block)} (h:Marks w b N s) (hN:N=256) : w.cell? ((⟨b,0,none⟩ : Addr).add 256)=some (.bool s.isNone):=by
 subst hN;cases s with
 | none=>obtain ⟨p,h⟩:=h;exact aT.cell h (sx _ _ _)
 | some bs=>exact aT.cell h (sx _ _ _)
theorem Marks.gr {w w':World} {b N:Nat} {s:Option (List Block)} (h:Marks w b N s) (hg:w.grownBy w' (some b)) : tZ w w' 224:=by
 cases s with
 | none=>obtain ⟨p,h⟩:=h;exact aT.gr h hg
 | some bs=>exact aT.gr h hg
theorem pY (b:Nat) (s:Option (List Block)) (x:Block) (N:Nat) (hN:N=256) (w:World) (hM:Marks w b N s) (hs:mI s) (hp : 1≤pw x.Order∧pw x.Order≤16) :
 jr Tryz.prog 178 [.pointer (some ⟨b,0,none⟩),.int .i64 x.At,.int .i64 (pw x.Order)] w fun v w'=>Marks w' b N (iv s x)∧w.grownBy w' (some b):=by
 cases s with
 | none =>
   obtain ⟨p,hB⟩:=hM;refine ⟨Calls.mono (xo b p true N hN x.At (pw x.Order) w hB ⟨by omega,hp.2⟩).out ?_⟩;rintro e w' ⟨v,he,p',BF,q9,hg,h⟩
   refine ⟨v,he,?_,hg⟩;have:BF=true:=by rcases h with ⟨_,h,_⟩|⟨_,h⟩<;>exact h
   subst this;exact ⟨p',q9⟩
 | some bs =>
   refine ⟨Calls.mono (xo b (cy bs) false N hN x.At (pw x.Order) w hM ⟨by omega,hp.2⟩).out ?_⟩;rintro e w' ⟨v,he,p',BF,q9,hg,h⟩
   refine ⟨v,he,?_,hg⟩;have Dt:=lq (hs bs rfl) (b:=x) hp.1;rcases h with ⟨h1,rfl,rfl⟩|⟨h1,rfl⟩
   ·have:iv (some bs) x=some (bs++[x]):=by simp [iv,Dt.1 h1]
    rw [this];show aT w' b _ _
    rw [← lu (fun i _=>Du bs x i)];exact q9
   ·have:iv (some bs) x=none:=by
     simp only [iv];rw [if_neg (fun hf=>h1 (Dt.2 hf))]
    rw [this];exact ⟨p',q9⟩
theorem pZ (r s:bO) (a b:ap) (w:World) (ha:r.eI=a.eI∧r.ab=a.ab∧r.Ty=a.Ty) (hb:s.eI=b.eI∧s.ab=b.ab∧s.Ty=b.Ty) :
 bl Tryz.prog 194 [.agg (bi r).toArray,.agg (bi s).toArray] w fun v _=>v = .bool (decide (bD a b)):=by
 refine aD Tryz.func194 rfl Tryz.ntmps194 rfl ?_;refine CW.seq (CW.region (SW.box rfl rfl fun b2 w1 hw jg aC => ?_));refine SW.box rfl rfl fun b3 w2 bo bL aq => ?_
 (replace hw:=Ext.trans hw bo;replace aC:=aC.ext bo);obtain ⟨a1,a2,a3⟩:=ha;obtain ⟨b1,Px,Py⟩:=hb;have key:bD a b↔(r.eI<s.eI∨(r.eI=s.eI∧(r.ab<s.ab∨(r.ab=s.ab∧r.Ty<s.Ty)))):=by unfold bD;rw [a1,a2,a3,b1,Px,Py]
 by_cases h1:r.eI<s.eI
 ·rw [decide_eq_true (key.2 (by omega))];refine Wz ?_;all_goals first|(exfalso;omega)|exact ae.aI rfl rfl ⟨_,rfl,hw,by simp [h1]⟩
 ·by_cases h2:r.eI=s.eI
  ·by_cases h3:r.ab<s.ab
   ·rw [decide_eq_true (key.2 (by omega))];refine Wz ?_;all_goals first|(exfalso;omega)|exact ae.aI rfl rfl ⟨_,rfl,hw,by simp [h3]⟩
   ·by_cases h4:r.ab=s.ab
    ·by_cases h5:r.Ty<s.Ty
     ·rw [decide_eq_true (key.2 (by omega))];refine Wz ?_;all_goals first|(exfalso;omega)|exact ae.aI rfl rfl ⟨_,rfl,hw,by simp [h5]⟩
     ·rw [decide_eq_false (fun h=>by have:=key.1 h;omega)];refine Wz ?_;all_goals first|(exfalso;omega)|exact ae.aI rfl rfl ⟨_,rfl,hw,by simp [h5]⟩
    ·rw [decide_eq_false (fun h=>by have:=key.1 h;omega)];refine Wz ?_;all_goals first|(exfalso;omega)|exact ae.aI rfl rfl ⟨_,rfl,hw,by simp [h3]⟩
  ·rw [decide_eq_false (fun h=>by have:=key.1 h;omega)];refine Wz ?_;all_goals first|(exfalso;omega)|exact ae.aI rfl rfl ⟨_,rfl,hw,by simp [h1]⟩
structure uk (w:World) (r:gb) (h:Heap) (r0 r1:bU) (z0 z1:ab) : Prop where
 rd:AM w r h
 eq:h.aL=[z0,z1]
 n:r.aL.n=2
 row:Sl w 4 bG r.aL.A r.aL.n [r0,r1]
 z0:yU w r0 z0
 z1:yU w r1 z1
theorem uk.ext {w w':World} {r:gb} {h:Heap} {r0 r1:bU} {z0 z1:ab} (a:uk w r h r0 r1 z0 z1) (hx:Ext w w') : uk w' r h r0 r1 z0 z1 :=
 ⟨a.rd.ext hx,a.eq,a.n,a.row.ext hx,a.z0.ext hx,a.z1.ext hx⟩
theorem uk.c0 {w:World} {r:gb} {h:Heap} {r0 r1:bU} {z0 z1:ab} (a:uk w r h r0 r1 z0 z1) (j:Nat) (u:Value) (hu:(bG r0)[j]?=some u) : w.cell? (((r.aL.A.getD default).add (0*4)).add j)=some u:=a.row.cell 0 (by simp) j u hu
theorem uk.c1 {w:World} {r:gb} {h:Heap} {r0 r1:bU} {z0 z1:ab} (a:uk w r h r0 r1 z0 z1) (j:Nat) (u:Value) (hu:(bG r1)[j]?=some u) : w.cell? (((r.aL.A.getD default).add (1*4)).add j)=some u:=a.row.cell 1 (by simp) j u hu
theorem sM {α:Type} {l:List α} (h:l.length=2) : ∃ a b,l=[a,b]:=by
 match l,h with
 | [a,b],_=>exact ⟨a,b,rfl⟩
theorem AM.two {w:World} {r:gb} {h:Heap} (a:AM w r h) (hl:h.aL.length=2) : ∃ r0 r1 z0 z1,uk w r h r0 r1 z0 z1:=by
 obtain ⟨zs,hz⟩:=a.bz;obtain ⟨z0,z1,e1⟩:=sM hl;have l0:=hz.each.len;obtain ⟨r0,r1,e2⟩:=sM (show zs.length=2 by omega);subst e2;have l1:=hz.row.len;have h0:=hz.each.get 0 (by simp) (by omega);have h1:=hz.each.get 1 (by simp) (by omega);simp only [e1] at h0 h1;exact ⟨r0,r1,z0,z1,a,e1,by simpa using l1.symm,hz.row,h0,h1⟩
theorem BU (r:gb) (h:Heap) (r0 r1:bU) (z0 z1:ab) (x:Int) (w:World) (hr:uk w r h r0 r1 z0 z1) :
 bl Tryz.prog 110 [.agg (bW r).toArray,.int .i64 x] w fun v _=>v = .int .i64 (if x<z0.To then 0 else 1):=by
 refine aD Tryz.func110 rfl Tryz.ntmps110 rfl ?_;refine CW.seq (CW.region (SW.box rfl rfl fun b2 w1 hw jg aC => ?_));have hn:=hr.n;have hA:=hr.row.base;have e1:=hr.z0.jA;by_cases hx:x<z0.To
 ·rw [if_pos hx];repeat' (first|refine Wz ?_|refine SW.st (bc (0) rfl rfl (by assumption) (by omega) (by omega)) rfl ?_|refine SW.st (aM hw rfl (hr.c0 1 _ rfl)) rfl ?_)
  exact ae.aI rfl rfl ⟨_,rfl,hw,rfl⟩
 ·rw [if_neg hx];repeat' (first|refine Wz ?_|refine SW.st (bc (0) rfl rfl (by assumption) (by omega) (by omega)) rfl ?_|refine SW.st (aM hw rfl (hr.c0 1 _ rfl)) rfl ?_)
  exact ae.aI rfl rfl ⟨_,rfl,hw,rfl⟩
open Go.RowKit
structure GB (w w':World) (b:Nat) : Prop where
 g:w.grownBy w' (some b)
theorem GB.refl (w:World) (b:Nat) : GB w w b:=⟨World.grownBy.refl _ _⟩
theorem GB.ext {w w1 w2:World} {b:Nat} (h:GB w w1 b) (hx:Ext w1 w2) : GB w w2 b:=⟨bR h.g (hx.gr (some b)) (.inl rfl)⟩
theorem GB.step {w w1 w2:World} {b:Nat} (h:GB w w1 b) (hg:w1.grownBy w2 (some b)) : GB w w2 b:=⟨bR h.g hg (.inl rfl)⟩
theorem BV (b:Nat) (s:Option (List Block)) (p:Int) (N:Nat) (hN:N=256) (w:World) (hM:Marks w b N s) (hs:mI s) :
 jr Tryz.prog 178 [.pointer (some ⟨b,0,none⟩),.int .i64 p,.int .i64 1] w fun v w'=>Marks w' b N (iv s (bj p))∧w.grownBy w' (some b):=by
 have h:=pY b s (bj p) N hN w hM hs (by simp [bj,fp]);simp only [bj,fp] at h ⊢;exact h
def DQ (w wE:World) (b N:Nat) (s:Option (List Block)) (h:Heap) (to:Int) (v:Value) (w':World) : Prop :=
 Ext w w'∧wE.grownBy w' (some b)∧((v = .bool true∧js h.bt to h.aj∧Marks w' b N (aR s (aF h.aj)))∨(v = .bool false ∧ ¬ (js h.bt to h.aj∧(aR s (aF h.aj)).isSome=true)))
structure xG (cpus to:Int) (ls:List ap) (k:Nat) : Prop where
 head:∀ (i:Nat) (h:i<ls.length),i<k→ic cpus ls[i]
 next:∀ (i:Nat) (h:i+1<ls.length),i+1<k→bD ls[i] ls[i+1]
 gj:∀ (i:Nat) (h:i<ls.length),i<k → ∀ p∈(ls[i]).an,(p<to↔(ls[i]).ab=0)
theorem xG.nil (cpus to:Int) (ls:List ap) : xG cpus to ls 0:=⟨fun i _ h=>by omega,fun i _ h=>by omega,fun i _ h=>by omega⟩
theorem xG.all {cpus to:Int} {ls:List ap} {k:Nat} (h:xG cpus to ls k) (hk:ls.length≤k) : js cpus to ls:=⟨fun i hi=>h.head i hi (by omega),fun i hi=>h.next i hi (by omega),fun i hi=>h.gj i hi (by omega)⟩
theorem xG.snoc {cpus to:Int} {ls:List ap} {k:Nat} (h:xG cpus to ls k) (hk:k<ls.length) (h1:ic cpus ls[k]) (h2:∀ (h : 0<k),bD ls[k-1] ls[k]) (h3:∀ p∈(ls[k]).an,(p<to↔(ls[k]).ab=0)) : xG cpus to ls (k+1):=by
 refine ⟨fun i hi uD => ?_,fun i hi uD => ?_,fun i hi uD => ?_⟩
 ·by_cases e:i=k
  ·subst e;exact h1
  ·exact h.head i hi (by omega)
 ·by_cases e:i+1=k
  ·subst e;exact h2 (by omega)
  ·exact h.next i hi (by omega)
 ·by_cases e:i=k
  ·subst e;exact h3
  ·exact h.gj i hi (by omega)
theorem xH {s:Option (List Block)} {ls:List ap} {k j:Nat} (hk:k<ls.length) (hj:j≤(ls[k]).an.length) (h:aR (aR s (aF (ls.take k))) (((ls[k]).an.take j).map bj)=none) : aR s (aF ls)=none:=by
 rw [← bQ] at h
 have e:aF ls=(aF (ls.take k)++((ls[k]).an.take j).map bj)++(((ls[k]).an.drop j).map bj++aF (ls.drop (k+1))):=by
  have e1:ls=ls.take (k+1)++ls.drop (k+1):=by simp
  have e2:((ls[k]).an.take j).map bj++((ls[k]).an.drop j).map bj=(ls[k]).an.map bj:=by rw [← List.map_append,List.take_append_drop]
  have e3:aF ls=aF (ls.take (k+1))++aF (ls.drop (k+1)):=by unfold aF;rw [← List.flatMap_append,← e1]
  rw [e3,mJ _ _ hk,← e2];simp only [List.append_assoc]
 rw [e,bQ,h,e8]
set_option maxHeartbeats 8000000 in
theorem BW (r:gb) (h:Heap) (r0 r1:bU) (z0 z1:ab) (b N:Nat) (hN:N=256) (s:Option (List Block)) (w wE:World) (hw:Ext w wE) (wP:w.heap.size≤b) (hr:uk w r h r0 r1 z0 z1) (hM:Marks wE b N s) (HZ:mI s) (yV:r.aj.n≤1000000000000000000) :
 jr Tryz.prog 179 [.agg (bW r).toArray,.pointer (some ⟨b,0,none⟩)] wE (DQ w wE b N s h z0.To):=by
 refine eG Tryz.func179 rfl Tryz.ntmps179 rfl ?_;have hE:=GB.refl wE b;refine CW.seq (CW.region (SW.box rfl rfl fun b2 w2 bo jg aC => ?_));(replace hw:=Ext.trans hw bo;replace hM:=hM.ext bo;replace hE:=hE.ext bo);obtain ⟨ls,hl⟩:=hr.rd.lists;have CV:=hr.rd.cpus;obtain ⟨oB,Mq⟩:=hl.len;have hA:=hl.row.base;refine Wz ?_
 refine CW.loop (fun k:Nat=>[(1,.pointer (some ⟨b,0,none⟩)),(2,.pointer (some ⟨b2,0,none⟩)),(10,.slice r.aj.A r.aj.n r.aj.c),(11,.int .i64 (r.aj.n:Int)),(12,.int .i64 (k:Int))])
  (fun k w'=>k≤r.aj.n∧Ext w w'∧GB wE w' b∧aT w' b2 41 (bW r)∧Marks w' b N (aR s (aF (h.aj.take k)))∧xG h.bt z0.To h.aj k) (fun k=>r.aj.n-k) 0
  ⟨rfl,rfl,rfl,rfl,rfl,trivial⟩ ⟨by omega,hw,hE,aC,hM,.nil _ _ _⟩ ?_
 clear hw hE aC hM bo;rintro k w' ⟨hk,hw,hE,aC,hM,hP⟩
 by_cases ey:k<r.aj.n
 ·have eV:k<ls.length:=by omega
  have FT:k<h.aj.length:=by omega
  have FU:=hl.each.get k eV FT;have Pz:=FU.cpu;have PA:=FU.gj;have dg:=FU.ty;have RC:=FU.cb.len;have RD:=FU.cb.base;have re:=FU.cb;have fQ:=hl.row.all ey;have jL:=hl.row.all (i:=k-1) (show k-1<r.aj.n by omega)
  have PB:mI (aR s (aF (h.aj.take k))):=gU HZ fun x hx=>by
   unfold aF at hx;obtain ⟨y,_,hy⟩:=List.mem_flatMap.1 hx;obtain ⟨p,_,rfl⟩:=List.mem_map.1 hy;simp [bj,fp]
  repeat' (first|refine Wz ?_|refine SW.st (aN hw rfl rfl ((fQ))) rfl ?_)
  refine SW.alloc rfl fun b6 w1 aa fk az => ?_
  refine Wz ?_;refine SW.ah az rfl rfl rfl rfl (fu.one (enc:=bi) _) fun w2 de hg => ?_
  have ao:=aa.own fk hg;have dU:w.heap.size≤b6:=Nat.le_trans hw.size fk
  replace hw:=Ext.trans hw ao;replace aC:=aC.ext ao;replace hM:=hM.ext ao;replace hE:=hE.ext ao;replace az:=de;clear de aa hg ao;refine Wz ?_;by_cases GR:ic r.bt h.aj[k]
  ·obtain ⟨e1,e2,e3,e4⟩:=id GR;obtain ⟨q,hq⟩ : ∃ q,decide (bD (h.aj[k-1]'(by omega)) h.aj[k])=q:=⟨_,rfl⟩;have H4:=hl.each.get (k-1) (by omega) (by omega)
   have cL:∀ w',bl Tryz.prog 194 [.agg (bi (ls[k-1]'(by omega))).toArray,.agg (bi ls[k]).toArray] w' fun v _=>v = .bool q:=fun w'=>by
    have:=pZ (ls[k-1]'(by omega)) ls[k] (h.aj[k-1]'(by omega)) h.aj[k] w' ⟨H4.cpu,H4.gj,H4.ty⟩ ⟨Pz,PA,dg⟩
    rwa [hq] at this
   have uQ:k=0∨(0<k∧q=true)∨(0<k∧q=false):=by cases q<;>simp<;>omega
   rw [or_comm,or_assoc] at uQ;rcases uQ with ⟨tY,rfl⟩|⟨tY,rfl⟩|tY
   rotate_left
   ·repeat' (first|refine Wz ?_|(first|refine CW.eX rfl ?_|(apply CW.bg mixed;(· kernel_rfl);rotate_left;intro w1 aa;replace hw:=Ext.trans hw aa;replace aC:=aC.ext aa;replace az:=az.ext aa;replace hM:=hM.ext aa;replace hE:=hE.ext aa;clear aa;rotate_right))|refine SW.st (bc (k-1) rfl rfl (by assumption) (by omega) (by omega)) rfl ?_|refine SW.st (aN hw rfl rfl ((jL))) rfl ?_|refine SW.cI rfl rfl (fun w1 aa=>(cL _)) ?_|exact SW.du rfl)
    exact ae.aI rfl rfl ⟨_,rfl,hw,hE.g,.inr ⟨rfl,fun hh=>by
     have:=hh.1.next (k-1) (by omega)
     simp only [show k-1+1=k by omega] at this;exact of_decide_eq_false hq this⟩⟩
   all_goals
    have PC:∀ (h0 : 0<k),bD (h.aj[k-1]'(by omega)) h.aj[k]:=fun h0=>by first|exact of_decide_eq_true hq|omega
    repeat' (first|refine Wz ?_|(first|refine CW.eY rfl ?_|(apply CW.bg mixed;(· kernel_rfl);rotate_left;intro w1 aa;replace hw:=Ext.trans hw aa;replace aC:=aC.ext aa;replace az:=az.ext aa;replace hM:=hM.ext aa;replace hE:=hE.ext aa;clear aa;rotate_right))|refine SW.st (bc (k-1) rfl rfl (by assumption) (by omega) (by omega)) rfl ?_|refine SW.st (aN hw rfl rfl ((jL))) rfl ?_|refine SW.cI rfl rfl (fun w1 aa=>(cL _)) ?_|exact SW.du rfl)
    clear cL hq fQ jL
    refine CW.loop (fun j:Nat=>[(1,.pointer (some ⟨b,0,none⟩)),(2,.pointer (some ⟨b2,0,none⟩)),(6,.pointer (some ⟨b6,0,none⟩)),(10,.slice r.aj.A r.aj.n r.aj.c),(11,.int .i64 (r.aj.n:Int)),(12,.int .i64 (k:Int)),(75,.slice ls[k].an.A ls[k].an.n ls[k].an.c),(76,.int .i64 (ls[k].an.n:Int)),(77,.int .i64 (j:Int))])
     (fun j w'=>j≤ls[k].an.n∧Ext w w'∧GB wE w' b∧aT w' b2 41 (bW r)∧aT w' b6 142 (bi ls[k])∧Marks w' b N (aR (aR s (aF (h.aj.take k))) ((h.aj[k].an.take j).map bj)) ∧ ∀ (i:Nat) (hi:i<h.aj[k].an.length),i<j→(h.aj[k].an[i]<z0.To↔h.aj[k].ab=0)) (fun j=>ls[k].an.n-j) 0
     ⟨rfl,rfl,rfl,rfl,rfl,rfl,rfl,rfl,rfl,trivial⟩ ⟨by omega,hw,hE,aC,az,hM,fun i _ h=>by omega⟩ ?_
    clear hw hE aC az hM fk dU;rintro j w' ⟨hj,hw,hE,aC,az,hM,hZ⟩
    by_cases mm:j<ls[k].an.n
    ·have nQ:j<h.aj[k].an.length:=by omega
     repeat' (first|refine Wz ?_|refine SW.st (aM hw rfl (re.one mm rfl)) rfl ?_)
     refine SW.dy rfl rfl (BV b _ h.aj[k].an[j] N hN _ hM (gU PB fun x hx=>by
      obtain ⟨p,_,rfl⟩:=List.mem_map.1 hx;simp [bj,fp])) fun v w5 hv => ?_
     obtain ⟨oY,y3⟩:=hv;have hG:=hM.gr y3;replace hw:=hw.own wP y3;replace hE:=hE.step y3;(replace aC:=aC.au hG rfl;replace az:=az.au hG rfl)
     have e5:iv (aR (aR s (aF (h.aj.take k))) ((h.aj[k].an.take j).map bj)) (bj h.aj[k].an[j])=aR (aR s (aF (h.aj.take k))) ((h.aj[k].an.take (j+1)).map bj):=by
      rw [List.take_succ_eq_append_getElem nQ,List.map_append,bQ];rfl
     rw [e5] at oY;have oM:=oY.bad hN;generalize hp:h.aj[k].an[j]=p
     obtain ⟨y,hy⟩ : ∃ y,(if p<z0.To then (0:Int) else 1)=y:=⟨_,rfl⟩
     have cZ:∀ w',Ext w w'→bl Tryz.prog 110 [.agg (bW r).toArray,.int .i64 p] w' fun v _=>v = .int .i64 y:=fun w' hx=>by
      have:=BU r h r0 r1 z0 z1 p w' (hr.ext hx)
      rwa [hy] at this
     cases hs:aR (aR s (aF (h.aj.take k))) ((h.aj[k].an.take (j+1)).map bj) with
     | none =>
       rw [hs] at oM;repeat' (first|refine Wz ?_|((apply CW.bg mixed;(· kernel_rfl);rotate_left;intro w1 aa;replace hw:=Ext.trans hw aa;replace aC:=aC.ext aa;replace az:=az.ext aa;replace oY:=oY.ext aa;replace hE:=hE.ext aa;clear aa;rotate_right))|refine SW.skip rfl rfl rfl rfl ?_|refine SW.st (ax rfl oM) rfl ?_|exact SW.du rfl)
       exact ae.aI rfl rfl ⟨_,rfl,hw,hE.g,.inr ⟨rfl,fun hh=>by
        have:=hh.2
        rw [xH FT (by omega) hs] at this;cases this⟩⟩
     | some bs =>
       rw [hs] at oM;by_cases hz:y=ls[k].ab
       ·repeat' (first|refine Wz ?_|((apply CW.bg mixed;(· kernel_rfl);rotate_left;intro w1 aa;replace hw:=Ext.trans hw aa;replace aC:=aC.ext aa;replace az:=az.ext aa;replace oY:=oY.ext aa;replace hE:=hE.ext aa;clear aa;rotate_right))|refine SW.want rfl rfl ?_|refine SW.st (ax rfl oM) rfl ?_|refine SW.cI rfl rfl (fun w1 aa=>(cZ _ (Ext.trans hw aa))) ?_|exact SW.du rfl)
        refine ae.again (j+1) ⟨rfl,rfl,rfl,rfl,rfl,rfl,rfl,rfl,rfl,trivial⟩ (by omega) ⟨by omega,hw,hE,aC,az,oY,fun i hi j1 => ?_⟩;by_cases e:i=j
        ·subst e;rw [hp];split at hy<;>constructor<;>intro _<;>omega
        ·exact hZ i hi (by omega)
       ·repeat' (first|refine Wz ?_|((apply CW.bg mixed;(· kernel_rfl);rotate_left;intro w1 aa;replace hw:=Ext.trans hw aa;replace aC:=aC.ext aa;replace az:=az.ext aa;replace oY:=oY.ext aa;replace hE:=hE.ext aa;clear aa;rotate_right))|refine SW.want rfl rfl ?_|refine SW.st (ax rfl oM) rfl ?_|refine SW.cI rfl rfl (fun w1 aa=>(cZ _ (Ext.trans hw aa))) ?_|exact SW.du rfl)
        exact ae.aI rfl rfl ⟨_,rfl,hw,hE.g,.inr ⟨rfl,fun hh=>by
         have:=hh.1.gj k FT p (by rw [← hp];exact List.getElem_mem _)
         split at hy<;>omega⟩⟩
    ·obtain rfl:j=ls[k].an.n:=by omega
     rw [List.take_of_length_le (l:=h.aj[k].an) (by omega),← bQ,← mJ _ _ FT] at hM;refine Wz ?_;refine ae.again (k+1) ⟨rfl,rfl,rfl,rfl,rfl,trivial⟩ (by omega) ⟨by omega,hw,hE,aC,hM,hP.snoc FT (by rwa [← CV]) PC fun p hp => ?_⟩;obtain ⟨i,hi,rfl⟩:=List.getElem_of_mem hp;exact hZ i hi (by omega)
  ·have nD : ¬ js h.bt z0.To h.aj:=fun hh=>GR (by have:=hh.head k FT;rwa [← CV] at this)
   have PD : ¬ (((0≤ls[k].eI∧ls[k].eI<r.bt)∧(0≤ls[k].ab∧ls[k].ab≤1)∧(0≤ls[k].Ty∧ls[k].Ty≤2)∧(1≤ls[k].an.n∧ls[k].an.n≤8))):=fun hh=>GR (by unfold ic;omega)
   have nj:ls[k].eI<0∨(0≤ls[k].eI∧(r.bt≤ls[k].eI∨(ls[k].eI<r.bt∧(ls[k].ab<0∨(0≤ls[k].ab∧(1<ls[k].ab∨(ls[k].ab≤1∧(ls[k].Ty<0∨(0≤ls[k].Ty∧(3≤ls[k].Ty∨(ls[k].Ty<3∧(ls[k].an.n=0∨(0<ls[k].an.n∧8<ls[k].an.n))))))))))))):=by omega
   rcases nj with d|⟨d1,d|⟨d2,d|⟨d3,d|⟨d4,d|⟨d5,d|⟨d6,d|⟨d7,d⟩⟩⟩⟩⟩⟩⟩
   repeat' (first|refine Wz ?_|((apply CW.bg mixed;(· kernel_rfl);rotate_left;intro w1 aa;replace hw:=Ext.trans hw aa;replace aC:=aC.ext aa;replace az:=az.ext aa;replace hM:=hM.ext aa;replace hE:=hE.ext aa;clear aa;rotate_right))|exact SW.du rfl)
   all_goals exact ae.aI rfl rfl ⟨_,rfl,hw,hE.g,.inr ⟨rfl,fun hh=>nD hh.1⟩⟩
 ·obtain rfl:k=r.aj.n:=by omega
  rw [List.take_of_length_le (l:=h.aj) (by omega)] at hM;refine Wz ?_;exact ae.aI rfl rfl ⟨_,rfl,hw,hE.g,.inl ⟨rfl,hP.all (by omega),hM⟩⟩
open Go.RowKit
theorem qK {l:List Block}:∀ {s:Option (List Block)},(aR s l).isSome=true → ∀ b∈l,0≤b.At∧b.At+pw b.Order≤256:=by
 induction l with
 | nil=>intro s _ b hb;simp at hb
 | cons x l ih =>
   intro s h b hb;have h':(aR (iv s x) l).isSome=true:=h
   rcases List.mem_cons.1 hb with rfl|hb
   ·cases e:iv s b with
    | none=>rw [e,e8] at h';cases h'
    | some bs=>obtain ⟨cs,_,hf,_⟩:=kI e;exact ⟨hf.1,hf.2.1⟩
   ·exact ih h' b hb
def AX (b:Block) : Prop:=(0≤b.Order∧b.Order≤4)∧0≤b.At∧b.At % pw b.Order=0∧fR b.Ty
structure wg (l:List Block) (k:Nat) : Prop where
 each:∀ (i:Nat) (h:i<l.length),i<k→AX l[i]
 next:∀ (i:Nat) (h:i+1<l.length),i+1<k→l[i].At<l[i+1].At
theorem wg.nil (l:List Block) : wg l 0:=⟨fun i _ h=>by omega,fun i _ h=>by omega⟩
theorem wg.snoc {l:List Block} {k:Nat} (h:wg l k) (hk:k<l.length) (h1:AX l[k]) (h2:∀ (h : 0<k),l[k-1].At<l[k].At) : wg l (k+1):=by
 refine ⟨fun i hi uD => ?_,fun i hi uD => ?_⟩
 ·by_cases e:i=k
  ·subst e;exact h1
  ·exact h.each i hi (by omega)
 ·by_cases e:i+1=k
  ·subst e;exact h2 (by omega)
  ·exact h.next i hi (by omega)
theorem wg.ok {l:List Block} {k:Nat} {s:Option (List Block)} (h:wg l k) (hk:l.length≤k) (hf:(aR s l).isSome=true) : dW l:=by
 refine ⟨fun i hi => ?_,fun i hi=>h.next i hi (by omega)⟩;obtain ⟨h1,h2,h3,h4⟩:=h.each i hi (by omega);have h5:=qK hf _ (List.getElem_mem hi);have h6:=bM h1.1 h1.2;exact ⟨h1,⟨h2,by omega⟩,h3,h4⟩
def xI (n:Int) : Bool:=decide (n<0) || decide (256<n)
theorem DR (x:Int) (w:World) : bl Tryz.prog 177 ([.int .i64 x]++[]) w fun v _=>v = .bool (xI x):=by
 refine aD Tryz.func177 rfl Tryz.ntmps177 rfl ?_;have hw:=Ext.refl w;have nj:x<0∨(0≤x∧(256<x∨x≤256)):=by omega
 rcases nj with d|⟨d1,d|d⟩
 repeat' (first|refine Wz ?_|fail);all_goals exact ae.aI rfl rfl ⟨_,rfl,hw,by unfold xI;simp;omega⟩
open Go.RowKit
def kM (z:ab) : Prop:=(-9223372036854775808≤z.aw∧z.aw≤9223372036854775807)∧(-9223372036854775808≤z.To∧z.To≤9223372036854775807)
def sN (h:Heap) : Prop:=h.aL.length=2∧h.bT.length=2∧1≤h.bt∧h.bt≤4
instance (h:Heap) : Decidable (sN h):=inferInstanceAs (Decidable (_∧_))
theorem aW.Mr {h:Heap} (a:aW h) : sN h:=by
 obtain ⟨z0,z1,e,_⟩:=a.bz;obtain ⟨m0,m1,e',_⟩:=a.cT;exact ⟨by rw [e];rfl,by rw [e'];rfl,a.cpus⟩
structure wh (h:Heap) (z0 z1:ab) : Prop where
 one:aU z0
 two:aU z1
 from_:z0.aw=0
 v9:z0.To=z1.aw
 jA:z1.To=256
 cT:h.bT.any xI=false
theorem aW.front {h:Heap} {z0 z1:ab} (a:aW h) (e:h.aL=[z0,z1]) : wh h z0 z1:=by
 obtain ⟨y0,y1,e',a1,a2,a3,a4,a5,_⟩:=a.bz;rw [e] at e';simp only [List.cons.injEq,and_true] at e';obtain ⟨rfl,rfl⟩:=e';obtain ⟨m0,m1,e',b1,b2⟩:=a.cT;exact ⟨a1,a2,a3,a4,a5,by rw [e'];simp [xI];omega⟩
def lD (h:Heap) (z0 z1:ab) : Option (List Block):=aR (some []) (z0.ag++z1.ag)
theorem aW.rest {h:Heap} {z0 z1:ab} (a:aW h) (e:h.aL=[z0,z1]) : js h.bt z0.To h.aj∧dW h.Live∧(aR (aR (lD h z0 z1) (aF h.aj)) h.Live).isSome=true:=by
 obtain ⟨y0,y1,e',a1,a2,a3,a4,a5,a6,a7⟩:=a.bz;rw [e] at e';simp only [List.cons.injEq,and_true] at e';obtain ⟨rfl,rfl⟩:=e';refine ⟨a6,a.live,?_⟩;rw [bQ,bQ] at a7;exact a7
theorem aW.of {h:Heap} {z0 z1:ab} (e:h.aL=[z0,z1]) (hd:sN h) (hf:wh h z0 z1) (h1:js h.bt z0.To h.aj) (h2:dW h.Live) (h3:(aR (aR (lD h z0 z1) (aF h.aj)) h.Live).isSome=true) : aW h:=by
 refine ⟨⟨z0,z1,e,hf.one,hf.two,hf.from_,hf.v9,hf.jA,h1,?_⟩,?_,hd.2.2,h2⟩
 ·rw [bQ,bQ];exact h3
 ·obtain ⟨m0,m1,em⟩:=sM hd.2.1;have:=hf.cT
  rw [em] at this;simp [xI] at this;exact ⟨m0,m1,em,by omega,by omega⟩
set_option maxHeartbeats 8000000 in
theorem lE (r:gb) (h:Heap) (w:World) (hr:AM w r h) (hs:h.small) (Fg:∀ z∈h.aL,kM z) :
 bl Tryz.prog 88 [.agg (bW r).toArray] w fun v _=>v = .int .i64 (if fa h then 0 else 8):=by
 refine aD Tryz.func88 rfl Tryz.ntmps88 rfl ?_;refine CW.seq (CW.region (SW.box rfl rfl fun b1 w1 hw gX aB => ?_));have CV:=hr.cpus;have Jb:=hr.cT.len;obtain ⟨PE,wi⟩:=hr.bz;obtain ⟨Ms,zp⟩:=wi.len;clear wi Ms PE;by_cases hd:sN h
 ·obtain ⟨d1,d2,d3⟩:=id hd;obtain ⟨r0,r1,z0,z1,sO⟩:=hr.two d1;have ul:=sO.eq;have hA:=sO.row.base;have J0:=Fg z0 (by rw [ul];simp);have nH:=Fg z1 (by rw [ul];simp);have s0:=hs.free z0 (by rw [ul];simp);have s1:=hs.free z1 (by rw [ul];simp);have RE:=sO.z0.from_;have PF:=sO.z0.jA;have RF:=sO.z1.from_;have RG:=sO.z1.jA;have l0:=sO.z0.free.len;have l1:=sO.z1.free.len;have t0:=sO.z0.types.len;have t1:=sO.z1.types.len;unfold kM at J0 nH;obtain ⟨q0,Mt⟩ : ∃ q,df z0=q:=⟨_,rfl⟩;obtain ⟨q1,H7⟩ : ∃ q,df z1=q:=⟨_,rfl⟩
  have c0:∀ w',Ext w w'→bl Tryz.prog 176 [.agg (bG r0).toArray] w' fun v _=>v = .int .i64 (if q0 then 0 else 8):=fun w' hx=>by
   have:=gK r0 z0 w' (sO.z0.ext hx) (by omega) (by omega) (by omega) (by omega)
   rwa [Mt] at this
  have c1:∀ w',Ext w w'→bl Tryz.prog 176 [.agg (bG r1).toArray] w' fun v _=>v = .int .i64 (if q1 then 0 else 8):=fun w' hx=>by
   have:=gK r1 z1 w' (sO.z1.ext hx) (by omega) (by omega) (by omega) (by omega)
   rwa [H7] at this
  have Jd:(q0=true∧q1=true)∨(q0=false)∨(q0=true∧q1=false):=by cases q0<;>cases q1<;>simp
  rcases Jd with ⟨rfl,rfl⟩|rfl|⟨rfl,rfl⟩
  all_goals simp only [if_true,Bool.false_eq_true,if_false] at c0 c1
  repeat' (first|refine Wz ?_|refine SW.st (bc (0) rfl rfl (by assumption) (by omega) (by omega)) rfl ?_|refine SW.st (bc (1) rfl rfl (by assumption) (by omega) (by omega)) rfl ?_|refine SW.st (aN hw rfl rfl ((sO.c0))) rfl ?_|refine SW.st (aN hw rfl rfl ((sO.c1))) rfl ?_|((first|refine SW.call rfl rfl (c0 _ hw) ?_|refine SW.call rfl rfl (c1 _ hw) ?_);intro v w1 aa hv;subst hv;replace hw:=Ext.trans hw aa;replace aB:=aB.ext aa;clear aa))
  rotate_left
  ·exact ae.aI rfl rfl ⟨_,rfl,hw,by rw [jt (fun hh=>by have:=dc.2 (hh.front ul).one;rw [Mt] at this;cases this)];rfl⟩
  ·exact ae.aI rfl rfl ⟨_,rfl,hw,by rw [jt (fun hh=>by have:=dc.2 (hh.front ul).two;rw [H7] at this;cases this)];rfl⟩
  clear c0 c1;have H9:=dc.1 Mt;have uE:=dc.1 H7
  have cO:∀ w',Ext w w'→bl Tryz.prog 96 [.slice r.bT.A r.bT.n r.bT.c,.func (.func 177) #[] ([] : List Value).toArray] w' fun v _=>v = .bool (h.bT.any xI):=fun w' h =>
   gi _ _ _ _ _ (hr.cT.ext h) _ [] xI (fun x => .int .i64 x) (fun x=>rfl) (fun x _ w1 _=>DR x w1) (by omega)
  obtain ⟨qm,Mu⟩ : ∃ q,h.bT.any xI=q:=⟨_,rfl⟩;rw [Mu] at cO;have nj:(r0.aw=0∧r0.To=r1.aw∧r1.To=256∧qm=false)∨r0.aw≠0∨(r0.aw=0∧r0.To≠r1.aw)∨(r0.aw=0∧r0.To=r1.aw∧r1.To≠256)∨(r0.aw=0∧r0.To=r1.aw∧r1.To=256∧qm=true):=by cases qm<;>simp<;>omega
  rcases nj with ⟨d1,d2,d3,rfl⟩|d|⟨d1,d⟩|⟨d1,d2,d⟩|⟨d1,d2,d3,rfl⟩
  repeat' (first|refine Wz ?_|((apply CW.bg mixed;(· kernel_rfl);rotate_left;intro w1 aa;replace hw:=Ext.trans hw aa;replace aB:=aB.ext aa;clear aa;rotate_right))|refine SW.st (bc (0) rfl rfl (by assumption) (by omega) (by omega)) rfl ?_|refine SW.st (bc (1) rfl rfl (by assumption) (by omega) (by omega)) rfl ?_|refine SW.st (aM hw rfl (sO.c0 0 _ rfl)) rfl ?_|refine SW.st (aM hw rfl (sO.c0 1 _ rfl)) rfl ?_|refine SW.st (aM hw rfl (sO.c1 0 _ rfl)) rfl ?_|refine SW.st (aM hw rfl (sO.c1 1 _ rfl)) rfl ?_|refine SW.cI rfl rfl (fun w1 aa=>(cO _ (Ext.trans hw aa))) ?_|exact SW.du rfl)
  rotate_left
  iterate 3 exact ae.aI rfl rfl ⟨_,rfl,hw,by rw [jt (fun hh=>by have:=hh.front ul;have:=this.from_;have:=(hh.front ul).v9;have:=(hh.front ul).jA;omega)];rfl⟩
  ·exact ae.aI rfl rfl ⟨_,rfl,hw,by rw [jt (fun hh=>by have:=(hh.front ul).cT;rw [Mu] at this;cases this)];rfl⟩
  have PG:wh h z0 z1:=⟨H9,uE,by omega,by omega,by omega,Mu⟩
  clear cO;have hn:=sO.n
  have my:∀ z∈h.aL,∀ b∈z.ag,0≤b.Order∧b.Order≤4:=fun z hz b hb=>by
   obtain ⟨i,hi,rfl⟩:=List.getElem_of_mem hb;rw [ul] at hz;simp only [List.mem_cons,List.not_mem_nil,or_false] at hz;rcases hz with rfl|rfl
   ·exact ⟨(H9.cU i hi).1.1,(H9.cU i hi).1.2.1⟩
   ·exact ⟨(uE.cU i hi).1.1,(uE.cU i hi).1.2.1⟩
  have N2:∀ k,mI (aR (some []) ((h.aL.take k).flatMap ab.ag)):=fun k=>gU uI fun x hx=>by
   obtain ⟨z,hz,hx⟩:=List.mem_flatMap.1 hx;have:=my z (List.mem_of_mem_take hz) x hx
   exact (bM this.1 this.2).1
  refine SW.box rfl rfl fun b3 w2 bo bL aq => ?_
  have cJ:w.heap.size≤b3:=Nat.le_trans hw.size bL
  have hM:Marks w2 b3 256 (some []):=by
   refine Eq.mp (congrArg (fun c=>aT w2 b3 224 c) ?_) aq;kernel_rfl
  clear aq;(replace hw:=Ext.trans hw bo;replace aB:=aB.ext bo);repeat' (first|refine Wz ?_|fail)
  refine CW.loop (fun k:Nat=>[(1,.pointer (some ⟨b1,0,none⟩)),(3,.pointer (some ⟨b3,0,none⟩)),(81,.slice r.aL.A r.aL.n r.aL.c),(82,.int .i64 (r.aL.n:Int)),(83,.int .i64 (k:Int))])
   (fun k w'=>k≤2∧Ext w w'∧aT w' b1 41 (bW r)∧Marks w' b3 256 (aR (some []) ((h.aL.take k).flatMap ab.ag))) (fun k=>2-k) 0
   ⟨rfl,rfl,rfl,rfl,rfl,trivial⟩ ⟨by omega,hw,aB,hM⟩ ?_
  clear hw aB hM bo;rintro k w' ⟨hk,hw,aB,hM⟩
  by_cases N3:k<2
  ·have PH:k<h.aL.length:=by omega
   have fQ:=sO.row.all (i:=k) (by omega)
   have J2:yU w ([r0,r1][k]'(by simpa using N3)) h.aL[k]:=by
    simp only [ul];have:k=0∨k=1:=by omega
    rcases this with rfl|rfl
    ·exact sO.z0
    ·exact sO.z1
   generalize RH:([r0,r1][k]'(by simpa using N3))=rk at fQ J2
   have qD:=my h.aL[k] (List.getElem_mem _);have Mf:=hs.free h.aL[k] (List.getElem_mem _)
   have DS:(h.aL.take (k+1)).flatMap ab.ag=(h.aL.take k).flatMap ab.ag++h.aL[k].ag:=by
    rw [List.take_succ_eq_append_getElem PH,List.flatMap_append];simp
   generalize h.aL[k]=zk at J2 qD Mf DS
   have RI:=J2.free.base;have DL:=J2.free.len;repeat' (first|refine Wz ?_|refine SW.st (aN hw rfl rfl ((fQ))) rfl ?_)
   refine SW.alloc rfl fun b5 w1 aa ig bw => ?_
   skip;refine SW.ah bw rfl rfl rfl rfl (cx _) fun w2 eQ hg => ?_
   have ao:=aa.own ig hg;have j2:w.heap.size≤b5:=Nat.le_trans hw.size ig
   replace hw:=Ext.trans hw ao;replace aB:=aB.ext ao;replace hM:=hM.ext ao;replace bw:=eQ;clear eQ aa hg ao;repeat' (first|refine Wz ?_|fail)
   refine CW.loop (fun j:Nat=>[(1,.pointer (some ⟨b1,0,none⟩)),(3,.pointer (some ⟨b3,0,none⟩)),(81,.slice r.aL.A r.aL.n r.aL.c),(82,.int .i64 (r.aL.n:Int)),(83,.int .i64 (k:Int)),(88,.slice rk.ag.A rk.ag.n rk.ag.c),(89,.int .i64 (rk.ag.n:Int)),(90,.int .i64 (j:Int))])
    (fun j w'=>j≤rk.ag.n∧Ext w w'∧aT w' b1 41 (bW r)∧Marks w' b3 256 (aR (aR (some []) ((h.aL.take k).flatMap ab.ag)) (zk.ag.take j))) (fun j=>rk.ag.n-j) 0
    ⟨rfl,rfl,rfl,rfl,rfl,rfl,rfl,rfl,trivial⟩ ⟨by omega,hw,aB,hM⟩ ?_
   clear hw aB hM bw ig j2;rintro j w' ⟨hj,hw,aB,hM⟩
   by_cases mm:j<rk.ag.n
   ·have nQ:j<zk.ag.length:=by omega
    obtain ⟨o1,o2⟩:=qD zk.ag[j] (List.getElem_mem _);have hp:=bM o1 o2;repeat' (first|refine Wz ?_|refine SW.st (aN hw rfl rfl ((J2.free.all mm))) rfl ?_)
    refine SW.alloc rfl fun b7 w1 aa iP bP => ?_
    skip;refine SW.ah bP rfl rfl rfl rfl (fu.one (enc:=aA) _) fun w2 bu hg => ?_
    have ao:=aa.own iP hg;have jq:w.heap.size≤b7:=Nat.le_trans hw.size iP
    replace hw:=Ext.trans hw ao;replace aB:=aB.ext ao;replace hM:=hM.ext ao;replace bP:=bu;clear bu aa hg ao;repeat' (first|refine Wz ?_|fail);refine CW.any 6 mixed (dq (by kernel_rfl)) rfl fun w1 aa bm => ?_
    replace hw:=Ext.trans hw aa;replace aB:=aB.ext aa;replace hM:=hM.ext aa;replace bP:=bP.ext aa;clear aa;refine Wa ?_;refine SA.take 5 bm rfl (by kernel_rfl) (by kernel_rfl) rfl ?_;repeat ((refine SW.st (fE (r:=pw zk.ag[j].Order) rfl rfl (by omega) (by omega) (by simp [pw]) (by omega) (by omega)) rfl ?_))
    refine SW.ar ?_;refine SA.done (by kernel_rfl) ?_;refine SW.dy rfl rfl (pY b3 _ zk.ag[j] 256 rfl _ hM (gU (N2 k) fun x hx=>by have:=qD x (List.mem_of_mem_take hx);exact (bM this.1 this.2).1) ⟨by omega,by omega⟩) fun v w5 hv => ?_
    obtain ⟨oY,y3⟩:=hv;have hG:=hM.gr y3;replace hw:=hw.own cJ y3;(replace aB:=aB.au hG rfl);rw [← qG _ _ _ nQ] at oY;repeat' (first|refine Wz ?_|fail);exact ae.again (j+1) ⟨rfl,rfl,rfl,rfl,rfl,rfl,rfl,rfl,trivial⟩ (by omega) ⟨by omega,hw,aB,oY⟩
   ·obtain rfl:j=rk.ag.n:=by omega
    rw [List.take_of_length_le (l:=zk.ag) (by omega),← bQ,← DS] at hM;repeat' (first|refine Wz ?_|fail);exact ae.again (k+1) ⟨rfl,rfl,rfl,rfl,rfl,trivial⟩ (by omega) ⟨by omega,hw,aB,hM⟩
  ·obtain rfl:k=2:=by omega
   have Mv:=N2 2;have PI:aR (some []) ((h.aL.take 2).flatMap ab.ag)=lD h z0 z1:=by rw [ul];simp [lD]
   rw [PI] at hM Mv;repeat' (first|refine Wz ?_|fail);obtain ⟨ls,Je⟩:=hr.lists;have nP:=Je.len.2;have RJ:=hs.lists;clear Je ls;refine SW.dy rfl rfl (BW r h r0 r1 z0 z1 b3 256 rfl (lD h z0 z1) w _ hw cJ sO hM Mv (by omega)) fun v w5 hv => ?_
   obtain ⟨qL,y3,DT⟩:=hv;have hG:=hM.gr y3;replace hw:=qL;(replace aB:=aB.au hG rfl);clear hM qL y3 hG;rcases DT with ⟨rfl,hL,hM⟩|⟨rfl,nD⟩
   rotate_left
   ·repeat' (first|refine Wz ?_|(refine CW.eX rfl ?_))
    exact ae.aI rfl rfl ⟨_,rfl,hw,by rw [jt (fun hh=>nD ⟨(hh.rest ul).1,fT (m:=h.Live) (by rw [bQ];exact (hh.rest ul).2.2)⟩)];rfl⟩
   have N4:mI (aR (lD h z0 z1) (aF h.aj)):=gU Mv fun x hx=>by
    unfold aF at hx;obtain ⟨y,_,hy⟩:=List.mem_flatMap.1 hx;obtain ⟨p,_,rfl⟩:=List.mem_map.1 hy;simp [bj,fp]
   have GS:aW h→(aR (aR (lD h z0 z1) (aF h.aj)) h.Live).isSome=true:=fun hh=>(hh.rest ul).2.2
   have N5:dW h.Live→(aR (aR (lD h z0 z1) (aF h.aj)) h.Live).isSome=true→aW h:=fun a b=>aW.of ul hd PG hL a b
   generalize aR (lD h z0 z1) (aF h.aj)=S at hM N4 GS N5
   have GU:=hr.live;have Jc:=hr.live.len;have PJ:=hr.live.base;have RK:=hs.live;repeat' (first|refine Wz ?_|fail)
   refine CW.loop (fun k:Nat=>[(1,.pointer (some ⟨b1,0,none⟩)),(3,.pointer (some ⟨b3,0,none⟩)),(108,.slice r.Live.A r.Live.n r.Live.c),(109,.int .i64 (r.Live.n:Int)),(110,.int .i64 (k:Int))])
    (fun k w'=>k≤r.Live.n∧Ext w w'∧aT w' b1 41 (bW r)∧Marks w' b3 256 (aR S (h.Live.take k))∧wg h.Live k) (fun k=>r.Live.n-k) 0
    ⟨rfl,rfl,rfl,rfl,rfl,trivial⟩ ⟨by omega,hw,aB,hM,.nil _⟩ ?_
   clear hw aB hM;rintro k w' ⟨hk,hw,aB,hM,hP⟩
   by_cases ey:k<r.Live.n
   ·have eV:k<h.Live.length:=by omega
    have DU:k-1<r.Live.n:=by omega
    have FV:aW h→pU h.Live[k]∧(0<k→(h.Live[k-1]'(by omega)).At<h.Live[k].At):=fun hh=>⟨hh.live.each k eV,fun h0=>by
     have:=hh.live.next (k-1) (by omega)
     simpa only [show k-1+1=k by omega] using this⟩
    have GV:=GU.qV DU (j:=0) rfl;repeat' (first|refine Wz ?_|refine SW.st (aN hw rfl rfl ((GU.all ey))) rfl ?_)
    refine SW.alloc rfl fun b9 w1 aa oQ dp => ?_
    repeat' (first|refine Wz ?_|fail);refine SW.ah dp rfl rfl rfl rfl (fu.one (enc:=aA) _) fun w2 jh hg => ?_
    have ao:=aa.own oQ hg;have uf:w.heap.size≤b9:=Nat.le_trans hw.size oQ
    replace hw:=Ext.trans hw ao;replace aB:=aB.ext ao;replace hM:=hM.ext ao;replace dp:=jh;clear jh aa hg ao;repeat' (first|refine Wz ?_|fail);have Jf:AX h.Live[k]→(0<k→(h.Live[k-1]'(by omega)).At<h.Live[k].At)→wg h.Live (k+1):=fun a b=>hP.snoc eV a fun h0=>b h0
    have DS:=qG S h.Live k eV;generalize Mw:h.Live[k]=bb at dp FV Jf DS
    generalize NP:(h.Live[k-1]'(by omega)).At=pv at FV Jf GV
    simp only [AX,pU,fR] at FV Jf
    have hp:bb.Order<0∨4<bb.Order∨(1≤pw bb.Order∧pw bb.Order≤16):=by
     by_cases h1 : 0≤bb.Order
     ·by_cases h2:bb.Order≤4
      ·exact .inr (.inr (bM h1 h2))
      ·omega
     ·omega
    have em:bb.At<0∨bb.At.tmod (pw bb.Order)=bb.At % pw bb.Order:=by
     by_cases h1 : 0≤bb.At
     ·exact .inr (Int.tmod_eq_emod_of_nonneg h1)
     ·omega
    have nj:bb.Order<0∨(0≤bb.Order∧(4<bb.Order∨(bb.Order≤4∧(bb.At<0∨(0≤bb.At∧(bb.At.tmod (pw bb.Order)≠0∨(bb.At.tmod (pw bb.Order)=0∧(bb.Ty<0∨(0≤bb.Ty∧(3≤bb.Ty∨(bb.Ty<3∧((0<k∧bb.At≤pv)∨k=0∨(0<k∧pv<bb.At)))))))))))) ):=by omega
    rcases nj with d|⟨d1,d|⟨d2,d|⟨d3,d|⟨d4,d|⟨d5,d|⟨d6,⟨tY,d⟩|tY|⟨tY,d⟩⟩⟩⟩⟩⟩⟩
    all_goals (apply CW.bg mixed;(· kernel_rfl);rotate_left;intro w1 aa;replace hw:=Ext.trans hw aa;replace aB:=aB.ext aa;replace dp:=dp.ext aa;replace hM:=hM.ext aa;clear aa;rotate_right)
    repeat' (first|refine Wz ?_|refine SW.st (bc (k-1) rfl rfl (by assumption) (by omega) (by omega)) rfl ?_|refine SW.st (aM hw rfl GV) rfl ?_|(refine SW.st (fE (r:=pw bb.Order) rfl rfl (by omega) (by omega) (by simp [pw]) (by omega) (by omega)) rfl ?_)|exact SW.du rfl)
    iterate 7 exact ae.aI rfl rfl ⟨_,rfl,hw,by rw [jt (fun hh=>by have:=FV hh;omega)];rfl⟩
    all_goals
     replace Jf:=Jf ⟨⟨d1,d2⟩,d3,by omega,by omega⟩ (fun h0=>by omega);refine CW.any 6 mixed (dq (by kernel_rfl)) rfl fun w1 aa bm => ?_
     replace hw:=Ext.trans hw aa;replace aB:=aB.ext aa;replace hM:=hM.ext aa;replace dp:=dp.ext aa;clear aa;refine Wa ?_;refine SA.take 5 bm rfl (by kernel_rfl) (by kernel_rfl) rfl ?_;repeat ((refine SW.st (fE (r:=pw bb.Order) rfl rfl (by omega) (by omega) (by simp [pw]) (by omega) (by omega)) rfl ?_))
     refine SW.ar ?_;refine SA.done (by kernel_rfl) ?_
     refine SW.dy rfl rfl (pY b3 _ bb 256 rfl _ hM (gU N4 fun x hx=>by
      obtain ⟨i,hi,rfl⟩:=List.getElem_of_mem hx;rw [List.getElem_take];have:=(hP.each i (by simp at hi;omega) (by simp at hi;omega)).1
      exact (bM this.1 this.2).1) ⟨by omega,by omega⟩) fun v w5 hv => ?_
     obtain ⟨oY,y3⟩:=hv;have hG:=hM.gr y3;replace hw:=hw.own cJ y3;(replace aB:=aB.au hG rfl);rw [← DS] at oY;repeat' (first|refine Wz ?_|fail);exact ae.again (k+1) ⟨rfl,rfl,rfl,rfl,rfl,trivial⟩ (by omega) ⟨by omega,hw,aB,oY,Jf⟩
   ·obtain rfl:k=r.Live.n:=by omega
    rw [List.take_of_length_le (by omega)] at hM;have oM:=hM.bad rfl;cases hS:aR S h.Live with
    | none =>
      rw [hS] at oM;repeat' (first|refine Wz ?_|(refine CW.eX rfl ?_)|refine SW.st (ax rfl oM) rfl ?_)
      exact ae.aI rfl rfl ⟨_,rfl,hw,by rw [jt (fun hh=>by have:=GS hh;rw [hS] at this;cases this)];rfl⟩
    | some bs =>
      rw [hS] at oM;repeat' (first|refine Wz ?_|(refine CW.eY rfl ?_)|refine SW.st (ax rfl oM) rfl ?_)
      exact ae.aI rfl rfl ⟨_,rfl,hw,by rw [vT (N5 (hP.ok (s:=S) (by omega) (by rw [hS];rfl)) (by rw [hS];rfl))];rfl⟩
 ·rw [jt (fun hh=>hd hh.Mr)];have nj:r.aL.n≠2∨(r.aL.n=2∧(r.bT.n≠2∨(r.bT.n=2∧(r.bt<1∨(1≤r.bt∧4<r.bt))))):=by unfold sN at hd;omega
  rcases nj with d|⟨d1,d|⟨d2,d|⟨d3,d⟩⟩⟩
  repeat' (first|refine Wz ?_|fail);all_goals exact ae.aI rfl rfl ⟨_,rfl,hw,rfl⟩
open Go.RowKit
theorem uR {α:Type} {p q : α → Bool}:∀ {l:List α},(∀ x∈l,p x=true→q x=true)→(∃ x∈l,p x=false∧q x=true)→l.countP p<l.countP q
 | [],_,h=>by obtain ⟨x,hx,_⟩:=h;simp at hx
 | a::l,h1,h2=>by
   rw [List.countP_cons,List.countP_cons];have hle:l.countP p≤l.countP q:=List.countP_mono_left (fun x hx=>h1 x (by simp [hx]))
   obtain ⟨x,hx,hp,hq⟩:=h2;rcases List.mem_cons.1 hx with rfl|hx
   ·simp [hp,hq];omega
   ·have ih:=uR (l:=l) (fun y hy=>h1 y (by simp [hy])) ⟨x,hx,hp,hq⟩;have:=h1 a (by simp)
    cases Mx:p a<;>cases PK:q a<;>simp [Mx,PK] at this ⊢<;>omega
theorem sP:∀ {l:List Block} {cs bs:List Block},(∀ b∈l,1≤pw b.Order)→aR (some cs) l=some bs→cs.length≤(List.range 256).countP (cy cs)→(∀ x∈cs,0≤x.At∧1≤pw x.Order)→bs.length≤(List.range 256).countP (cy bs)
 | [],cs,bs,_,h,hc,_=>by injection h with h;subst h;exact hc
 | b::l,cs,bs,hp,h,hc,hg=>by
   have h':aR (iv (some cs) b) l=some bs:=h
   cases e:iv (some cs) b with
   | none=>rw [e,e8] at h';cases h'
   | some ds =>
     rw [e] at h';obtain ⟨Fh,e1,hf,rfl⟩:=kI e;injection e1 with e1
     subst e1;have h1:=hp b (by simp);have iO:=(lq hg h1).2 hf;refine sP (fun x hx=>hp x (by simp [hx])) h' ?_ (fun x hx => ?_)
     ·have:=uR (p:=cy cs) (q:=cy (cs++[b])) (l:=List.range 256) (fun x _ hx=>by simp only [cy,List.any_append,Bool.or_eq_true] at hx ⊢;exact .inl hx)
       ⟨b.At.toNat,by simp;have:=hf.1;have:=hf.2.1;omega,iO.2.2.2 _ (by have:=hf.1;omega) (by have:=hf.1;omega),by
        simp only [cy,List.any_append,Bool.or_eq_true];right;have:=hf.1
        simp [kk];omega⟩
      simp;omega
     ·rcases List.mem_append.1 hx with hx|hx
      ·exact hg x hx
      ·simp at hx;subst hx;exact ⟨hf.1,h1⟩
theorem zA {l bs:List Block} (hp:∀ b∈l,1≤pw b.Order) (h:aR (some []) l=some bs) : bs.length≤256:=by
 have:=sP hp h (by simp) (fun x hx=>by simp at hx)
 have h2:(List.range 256).countP (cy bs)≤(List.range 256).length:=List.countP_le_length
 simp at h2;omega
section
variable {P:Program} {n:Nat} {ops:Array Oper} {Q:Exit→Act→World→Prop} {rest:List Oper} {L:Env} {w:World}
end
theorem im {l:List Block} (h:dW l) : l.Pairwise fun x y=>x.At<y.At:=by
 have key:∀ (d i:Nat) (hj:i+d+1<l.length),(l[i]'(by omega)).At<l[i+d+1].At:=by
  intro d;induction d with
  | zero=>intro i hj;exact h.next i hj
  | succ d ih=>intro i hj;exact Int.lt_trans (ih i (by omega)) (h.next (i+d+1) (by omega))
 rw [List.pairwise_iff_getElem];intro i j hi hj j1;have:=key (j-i-1) i (by omega)
 have e:i+(j-i-1)+1=j:=by omega
 simp only [e] at this;exact this
theorem jM {l:List Block} {a:Int} (h:bf l a=true) : ∃ hk:aZ l a<l.length,l[aZ l a].At=a:=by
 unfold bf at h;split at h
 ·rename_i hk;exact ⟨hk,of_decide_eq_true h⟩
 ·cases h
theorem om {l:List Block} (hu:l.Pairwise fun x y=>x.At<y.At) {a:Int} {k:Nat} (hk:k<l.length) (h:l[k].At=a) : aZ l a=k∧bf l a=true:=by
 rw [List.pairwise_iff_getElem] at hu;have e:aZ l a=k:=AJ (by omega) (fun j hj kB=>by have:=hu j k hj hk kB;omega) (fun _=>by omega)
 refine ⟨e,?_⟩;unfold bf;simp only [e,dif_pos hk];exact decide_eq_true h
theorem zB {l:List Block} {a:Int} (h:∀ (k:Nat) (hk:k<l.length),l[k].At≠a) : bf l a=false:=by
 unfold bf;split
 ·rename_i hk;exact decide_eq_false (h _ hk)
 ·rfl
theorem DV {l:List Block} (hu:l.Pairwise fun x y=>x.At<y.At) {k:Nat} (hk:k<l.length) {a o:Int} (ha:l[k].At=a) (ho:l[k].Order=o) : l.eraseIdx k=gC l a o:=by
 rw [List.pairwise_iff_getElem] at hu
 have cr:∀ (j:Nat) (hj:j<l.length),j≠k→sq a o l[j]=false:=fun j hj kB=>by
  cases hh:sq a o l[j] with
  | false=>rfl
  | true =>
    obtain ⟨e1,e2⟩:=fJ.1 hh;rcases Nat.lt_trichotomy j k with h1|h1|h1
    ·have:=hu j k hj hk h1;omega
    ·exact absurd h1 kB
    ·have:=hu k j hk hj h1;omega
 have e:l=l.take k++l[k]::l.drop (k+1):=by simp
 have hL:∀ x∈l.take k,sq a o x=false:=fun x hx=>by
  obtain ⟨j,hj,rfl⟩:=List.getElem_of_mem hx;simp at hj;rw [List.getElem_take];exact cr j (by omega) (by omega)
 have hR:∀ x∈l.drop (k+1),sq a o x=false:=fun x hx=>by
  obtain ⟨j,hj,rfl⟩:=List.getElem_of_mem hx;simp at hj;rw [List.getElem_drop];exact cr _ (by omega) (by omega)
 have hm:sq a o l[k]=true:=fJ.2 ⟨ha,ho⟩
 unfold gC;rw [List.eraseIdx_eq_take_drop_succ]
 conv=>rhs;rw [e]
 rw [List.filter_append,List.filter_cons];simp only [hm,Bool.not_true,Bool.false_eq_true,if_false];rw [List.filter_eq_self.2 (fun x hx=>by simp [hL x hx]),List.filter_eq_self.2 (fun x hx=>by simp [hR x hx])]
noncomputable def oZ (z:ab) (a:Int) : Int:=z.Types.getD ((a-z.aw) / 8).toNat 0
noncomputable def keyOf (z0 z1:ab) (cpu a:Int) : ap:=⟨cpu,if a<z0.To then 0 else 1,if a<z0.To then oZ z0 a else oZ z1 a,[]⟩
def jn (x:ap) (pg:List Int) : ap:=⟨x.eI,x.ab,x.Ty,pg⟩
noncomputable def jN (h:Heap) (z0 z1:ab) (b:Block) (lv:List Block) : Heap:=⟨[(ee (z0,z1) b).1,(ee (z0,z1) b).2],h.bT,h.bt,h.aj,lv⟩
noncomputable def fU (h:Heap) (z0 z1:ab) (x:ap) (pg:List Int) (lv:List Block) : Heap :=
 if 8<pg.length then ⟨[(bh (z0,z1) ((pg.take 4).map bj)).1,(bh (z0,z1) ((pg.take 4).map bj)).2],h.bT,h.bt,eU h.aj (jn x (pg.drop 4)),lv⟩ else ⟨[z0,z1],h.bT,h.bt,eU h.aj (jn x pg),lv⟩
noncomputable def iF (h:Heap) (cpu a:Int) : Heap:=match h.aL with
 | [z0,z1]=>if 0<(h.Live.getD (aZ h.Live a) ⟨0,0,0⟩).Order then jN h z0 z1 (h.Live.getD (aZ h.Live a) ⟨0,0,0⟩) (h.Live.eraseIdx (aZ h.Live a)) else fU h z0 z1 (keyOf z0 z1 cpu a) (bA h.aj (keyOf z0 z1 cpu a)++[a]) (h.Live.eraseIdx (aZ h.Live a))
 | _=>⟨[],[],0,[],[]⟩
noncomputable def iW (h:Heap) (cpu a:Int) : Int×Heap :=
 if fa h then (if 0≤cpu∧cpu<h.bt then (if bf h.Live a then (0,iF h cpu a) else (4,⟨[],[],0,[],[]⟩)) else (1,⟨[],[],0,[],[]⟩)) else (8,⟨[],[],0,[],[]⟩)
theorem AY {h:Heap} {cpu a:Int} (hb:fa h=false) : iW h cpu a=(8,⟨[],[],0,[],[]⟩):=by simp [iW,hb]
theorem wj {h:Heap} {cpu a:Int} (hb:fa h=true) (hc : ¬ (0≤cpu∧cpu<h.bt)) : iW h cpu a=(1,⟨[],[],0,[],[]⟩):=by simp only [iW,hb,if_true,if_neg hc]
theorem AZ {h:Heap} {cpu a:Int} (hb:fa h=true) (hc : 0≤cpu∧cpu<h.bt) (hf:bf h.Live a=false) : iW h cpu a=(4,⟨[],[],0,[],[]⟩):=by simp only [iW,hb,if_true,if_pos hc,hf,Bool.false_eq_true,if_false]
theorem o6 {h:Heap} {cpu a:Int} (hb:fa h=true) (hc : 0≤cpu∧cpu<h.bt) (hf:bf h.Live a=true) : iW h cpu a=(0,iF h cpu a):=by simp only [iW,hb,if_true,if_pos hc,hf]
theorem jO {h:Heap} {z0 z1:ab} {cpu a:Int} (hz:h.aL=[z0,z1]) {k:Nat} (hk:k<h.Live.length) (e:aZ h.Live a=k) (ho : 0<h.Live[k].Order) : iF h cpu a=jN h z0 z1 h.Live[k] (h.Live.eraseIdx k):=by
 have:h.Live.getD k ⟨0,0,0⟩=h.Live[k]:=by rw [List.getD_eq_getElem?_getD,List.getElem?_eq_getElem hk];rfl
 simp only [iF,hz,e,this,if_pos ho]
theorem jP {h:Heap} {z0 z1:ab} {cpu a:Int} (hz:h.aL=[z0,z1]) {k:Nat} (hk:k<h.Live.length) (e:aZ h.Live a=k) (ho : ¬ 0<h.Live[k].Order) : iF h cpu a=fU h z0 z1 (keyOf z0 z1 cpu a) (bA h.aj (keyOf z0 z1 cpu a)++[a]) (h.Live.eraseIdx k):=by
 have:h.Live.getD k ⟨0,0,0⟩=h.Live[k]:=by rw [List.getD_eq_getElem?_getD,List.getElem?_eq_getElem hk];rfl
 simp only [iF,hz,e,this,if_neg ho]
structure fe (h:Heap) (z0 z1:ab) : Prop where
 d:jK h z0 z1
 jQ:wc h.aj
 live:dW h.Live
 lists:∀ l∈h.aj,1≤l.an.length∧l.an.length≤8
 all:(aR (some []) (z0.ag++z1.ag++aF h.aj++h.Live)).isSome=true
 cpus : 1≤h.bt∧h.bt≤4
 count:h.aj.length≤256
theorem uS {l m:List Block} {a o:Int} (h:∀ x∈l,x∈m) (ho:eK m a o=false) : eK l a o=false:=by
 unfold eK at *;rw [List.any_eq_false] at *;exact fun x hx=>ho x (h x hx)
theorem kK.sub {l m:List Block} {b:Block} (h:kK m b) (hs:∀ x∈l,x∈m) : kK l b:=⟨h.ord,h.at_,h.al,⟨h.fits.1,h.fits.2.1,uS hs h.fits.2.2⟩,fun x hx=>h.J1 x (hs x hx)⟩
theorem fe.next {h:Heap} {z0 z1:ab} (f:fe h z0 z1) {k:Nat} (hk:k<h.Live.length) : kK (z0.ag++z1.ag) h.Live[k]:=by
 have eH:=f.all;have e:z0.ag++z1.ag++aF h.aj++h.Live=(z0.ag++z1.ag++aF h.aj++h.Live.take k)++h.Live[k]::h.Live.drop (k+1):=by simp
 rw [e] at eH;have hf:=lB eH;have hl:=f.live.each k hk;have hs:∀ x∈z0.ag++z1.ag,x∈z0.ag++z1.ag++aF h.aj++h.Live.take k:=fun x hx=>List.mem_append_left _ (List.mem_append_left _ hx)
 obtain ⟨l1,l2,l3,l4⟩:=hl;refine ⟨l1,by omega,l3,⟨hf.1,hf.2.1,uS hs hf.2.2⟩,fun x hx => ?_⟩;rcases List.mem_append.1 hx with hx|hx
 ·exact gV f.d.gZ x hx
 ·exact gV f.d.gL x hx
theorem fe.zC {h:Heap} {z0 z1:ab} (f:fe h z0 z1) {i j:Nat} (hi:i<h.aj.length) (hj:j<h.aj[i].an.length) : kK (z0.ag++z1.ag++(h.aj[i].an.take j).map bj) (bj h.aj[i].an[j]):=by
 obtain ⟨hK,J3⟩:=rI hi hj;have hN:=f.d.next hK;rw [J3] at hN;refine hN.sub fun x hx => ?_
 rcases List.mem_append.1 hx with hx|hx
 ·exact List.mem_append_left _ hx
 ·refine List.mem_append_right _ ?_;obtain ⟨p,hp,rfl⟩:=List.mem_map.1 hx;obtain ⟨m,hm,rfl⟩:=List.getElem_of_mem hp;simp only [List.length_take] at hm;rw [List.getElem_take];obtain ⟨hM,PL⟩:=rI hi (show m<h.aj[i].an.length by omega);rw [← PL];exact List.mem_take_iff_getElem.2 ⟨gm h.aj i+m,by omega,rfl⟩
theorem fe.inv {h:Heap} {z0 z1:ab} (f:fe h z0 z1) {i:Nat} (hi:i<h.aj.length) : ∀ j,j≤h.aj[i].an.length→lA (bh (z0,z1) ((h.aj[i].an.take j).map bj)) (z0.ag++z1.ag++(h.aj[i].an.take j).map bj)
 | 0,_=>by simpa [bh] using f.d.start
 | j+1,hj=>by
   have ih:=(f.inv hi j (by omega)).back (f.zC hi (show j<_ by omega))
   have e:(h.aj[i].an.take (j+1)).map bj=(h.aj[i].an.take j).map bj++[bj h.aj[i].an[j]]:=by
    rw [List.take_succ_eq_append_getElem (by omega),List.map_append];rfl
   rw [e,← List.append_assoc,jJ];exact ih.1
theorem dm {h:Heap} (hm:aW h) : ∃ z0 z1,fe h z0 z1:=by
 obtain ⟨z0,z1,h1,h2,h3,h4,h5,h6,h7,h8⟩:=hm.bz;have hd:jK h z0 z1:=⟨h1,h2,h3,h4,h5,h6,fT h8⟩
 have hl:∀ l∈h.aj,1≤l.an.length∧l.an.length≤8:=fun l hl=>by
  obtain ⟨i,hi,rfl⟩:=List.getElem_of_mem hl;exact (h7.head i hi).2.2.2
 refine ⟨z0,z1,hd,we h7,hm.live,hl,h8,hm.cpus,?_⟩
 have key:∀ k,k≤h.aj.length→k≤gm h.aj k:=by
  intro k;induction k with
  | zero=>intro _;omega
  | succ k ih =>
    intro hk;have:=ih (by omega)
    have:=(hl _ (List.getElem_mem (show k<h.aj.length by omega))).1
    rw [sI (show k<h.aj.length by omega)];omega
 have hc:=key _ (Nat.le_refl _);rw [wa] at hc
 have hb:(aF h.aj).length≤256:=by
  obtain ⟨bs,JP⟩:=Option.isSome_iff_exists.1 hd.all;have h9:=zA hd.pw JP;have e:=kd JP;rw [List.nil_append] at e;subst e;simp only [List.length_append] at h9;omega
 omega
theorem Ia {x y:Int} (h1 : 0≤x) (h2:x≤64) (h3 : 0≤y) (h4:y≤64) : 0≤x*y∧x*y≤4096 :=
 ⟨Int.mul_nonneg h1 h3,by have:=Int.mul_le_mul h2 h4 h3 (by omega:(0:Int)≤64);omega⟩
def xJ (size qI t a:Int) : Bool:=decide (0≤a-t*16) && decide (a-t*16<qI*size) && decide ((a-t*16) % size=0)
def o7 (ws:List Int) (size qI:Int) (x:Slab) (out:List Int) : Prop:=gd ws qI x.si [] (some out)∧(out.length:Int)=x.ag ∧ ∀ a∈out,xJ size qI x.At a=true
theorem gd.mem {l:List Int} {most x:Int} {acc:List Int} {r:Option (List Int)} (h:gd l most x acc r) : (∀ a∈acc,0≤a∧a<(l.length:Int)) → ∀ out,r=some out → ∀ a∈out,0≤a∧a<(l.length:Int):=by
 induction h with
 | done out=>intro ha o e;cases e;exact ha
 | bad=>intro _ _ e;cases e
 | @step k out r h1 hk h3 h ih =>
   intro ha o e;refine ih (fun a hm => ?_) o e;rcases List.mem_append.1 hm with hm|hm
   ·exact ha a hm
   ·simp at hm;subst hm;exact ⟨by omega,by omega⟩
def rf (l:List Block) (a:Int) : Int:=if bf l a then (l.getD (aZ l a) ⟨0,0,0⟩).Order else -1
theorem DW {l:List Block} {a:Int} (h:bf l a=true) (hk:aZ l a<l.length) : rf l a=l[aZ l a].Order:=by
 unfold rf;rw [if_pos h];simp [List.getD,hk]
theorem zD {l:List Block} {a:Int} (h:bf l a=false) : rf l a = -1:=by
 unfold rf;rw [h]
 rfl
structure o8 (s:ak) (c:aV) (i:Nat) (h:i<c.aK.length) : Prop where
 live:rf s.Heap.Live c.aK[i].At=c.Order
 next : 0<i→(c.aK[i-1]'(by omega)).At<c.aK[i].At
 chain:∃ out,o7 s.Words c.aY c.jm c.aK[i] out
def Fi (t:Int) (x:Slab) : Bool:=decide (x.At=t)
def DX (c:aV) (i:Nat) (h:i<c.a8.length) : Prop:=c.a8[i] = -1∨(c.a8[i]∉c.a8.take i∧c.aK.any (Fi c.a8[i])=true)
structure iX (s:ak) (c:aV) : Prop where
 lay:dj c.aY=(c.Order,c.jm,0)
 names : 0<c.Names.length
 dh:(c.a8.length:Int)=s.Heap.bt
 bK:∀ (i:Nat) (h:i<c.aK.length),o8 s c i h
 J4:∀ (i:Nat) (h:i<c.a8.length),DX c i h
noncomputable def kn (s:ak) (c:aV) : Bool := @decide (iX s c) (Classical.propDecidable _)
theorem sQ {s:ak} {c:aV} (a:iX s c) : kn s c=true:=by unfold kn;exact @decide_eq_true _ (Classical.propDecidable _) a
theorem jR {s:ak} {c:aV} (a : ¬ iX s c) : kn s c=false:=by unfold kn;exact @decide_eq_false _ (Classical.propDecidable _) a
theorem zE {s:ak} {c:aV}:kn s c=true↔iX s c:=by
 by_cases a:iX s c
 ·simp [sQ a,a]
 ·simp [jR a,a]
theorem oo {x o n:Int} (h:dj x=(o,n,0)) : (1≤x∧x≤64)∧(0≤o∧o≤2)∧(1≤n∧n≤64):=by
 unfold dj at h;split at h
 ·rename_i hx;have k1 : 64 / x≤64:=Int.ediv_le_self _ (by omega)
  have k2 : 1≤64 / x:=by rw [Int.le_ediv_iff_mul_le (by omega)];omega
  have k3 : 16 / x≤16:=Int.ediv_le_self _ (by omega)
  have k4 : 32 / x≤32:=Int.ediv_le_self _ (by omega)
  split at h
  ·simp only [Prod.mk.injEq] at h;omega
  ·split at h
   ·simp only [Prod.mk.injEq] at h;omega
   ·simp only [Prod.mk.injEq] at h;omega
 ·simp only [Prod.mk.injEq] at h;omega
def db (cs:List aV) : List ByteArray:=cs.flatMap fun c=>c.Names
def dv (cs:List aV) : List Int:=cs.flatMap fun c=>c.aK.map fun x=>x.At
structure rJ (acc l:List ByteArray) : Prop where
 each:∀ (k:Nat) (h:k<l.length),eR l[k]=true∧l[k]∉acc++l.take k∧(0<k→dF (l[k-1]'(by omega)) l[k]=true)
def FW (acc:List Int) (l:List Slab) : Prop := ∀ (k:Nat) (h:k<l.length),l[k].At∉acc++(l.take k).map fun x=>x.At
structure nu (s:ak) (i:Nat) (h:i<s.ai.length) : Prop where
 may:iX s s.ai[i]
 size:∀ (j:Nat) (hj:j<i),(s.ai[j]'(by omega)).aY≠s.ai[i].aY
 names:rJ (db (s.ai.take i)) s.ai[i].Names
 bK:FW (dv (s.ai.take i)) s.ai[i].aK
structure gf (s:ak) : Prop where
 words:s.Words.length=4096
 heap:aW s.Heap
 most:s.ai.length≤20
 each:∀ (i:Nat) (h:i<s.ai.length),nu s i h
noncomputable def fA (s:ak) : Bool := @decide (gf s) (Classical.propDecidable _)
theorem zF {s:ak} (a:gf s) : fA s=true:=by unfold fA;exact @decide_eq_true _ (Classical.propDecidable _) a
theorem p7 {s:ak} (a : ¬ gf s) : fA s=false:=by unfold fA;exact @decide_eq_false _ (Classical.propDecidable _) a
theorem sR {s:ak}:fA s=true↔gf s:=by
 by_cases a:gf s
 ·simp [zF a,a]
 ·simp [p7 a,a]
theorem lW (cs:List aV) (i:Nat) (h:i<cs.length) : db (cs.take (i+1))=db (cs.take i)++cs[i].Names:=by
 unfold db;rw [List.take_succ_eq_append_getElem h,List.flatMap_append];simp
theorem lX (cs:List aV) (i:Nat) (h:i<cs.length) : dv (cs.take (i+1))=dv (cs.take i)++cs[i].aK.map fun x=>x.At:=by
 unfold dv;rw [List.take_succ_eq_append_getElem h,List.flatMap_append];simp
end Go.Proofs.YtbidkghlpijecaaGreatDoor
