/-
  Texts of the claim KmemAllocs, part 9: what its theorem leans on.
-/
import Derived.Test.YtbidkghlpijecaaGreatDoorPackKmemAllocs8
import Derived.Test.YtbidkghlpijecaaGreatDoorPackKmemAllocs6
import Derived.Test.YtbidkghlpijecaaGreatDoorPackKmemAllocs4
import Derived.Test.YtbidkghlpijecaaGreatDoorPackKmemAllocs2
import Derived.Test.YtbidkghlpijecaaGreatDoorPackKmemAllocs5
set_option linter.unusedVariables false
set_option linter.unusedSimpArgs false
namespace Go.Proofs.YtbidkghlpijecaaGreatDoor
def dl (a b:aC) : Prop:=a.dO=b.dO∧a.ar=b.ar∧a.Ty=b.Ty
instance (a b:aC) : Decidable (dl a b):=inferInstanceAs (Decidable (_∧_))
def rT (L:List aC) : Prop:=L.Pairwise bz
theorem qT {a b c:aC} (h1:bz a b) (h2:bz b c) : bz a c:=by unfold bz at *;omega
theorem uX (a b:aC) : bz a b∨dl a b∨bz b a:=by unfold bz dl;omega
theorem j0 {a b:aC} (h:bz a b) : ¬ dl a b ∧ ¬ dl b a ∧ ¬ bz b a:=by unfold bz dl at *;omega
theorem vU {c t:Int} {L:List aC} (h:kG c t L) : rT L:=by
 have key:∀ (d i:Nat) (hj:i+d+1<L.length),bz (L[i]'(by omega)) L[i+d+1]:=by
  intro d;induction d with
  | zero=>intro i hj;exact h.next i hj
  | succ d ih=>intro i hj;exact qT (ih i (by omega)) (h.next (i+d+1) (by omega))
 unfold rT;rw [List.pairwise_iff_getElem];intro i j hi hj kW;have:=key (j-i-1) i (by omega)
 have e:i+(j-i-1)+1=j:=by omega
 simp only [e] at this;exact this
theorem rT.get {L:List aC} (h:rT L) {i j:Nat} (hj:j<L.length) (kW:i<j) : bz (L[i]'(Nat.lt_trans kW hj)) L[j]:=by
 unfold rT at h;rw [List.pairwise_iff_getElem] at h;exact h i j (by omega) hj kW
def aZ (L:List aC) (x:aC) : Nat:=L.findIdx fun l => !decide (bz l x)
theorem fK (L:List aC) (x:aC) : aZ L x≤L.length:=List.findIdx_le_length
theorem l7 {L:List aC} {x:aC} {k:Nat} (hk:k<aZ L x) : bz (L[k]'(Nat.lt_of_lt_of_le hk (fK L x))) x:=by
 have:=List.not_of_lt_findIdx hk
 simpa using this
theorem Aq {L:List aC} {x:aC} (h:aZ L x<L.length) : ¬ bz (L[aZ L x]) x:=by
 have:=List.findIdx_getElem (w:=h)
 exact of_decide_eq_false (by rw [Bool.not_eq_true'] at this;exact this)
theorem nG {L:List aC} {x:aC} {i:Nat} (hi:i≤L.length) (h1:∀ (k:Nat) (h:k<L.length),k<i→bz L[k] x) (h2:∀ h:i<L.length,¬ bz L[i] x) : aZ L x=i:=by
 unfold aZ;by_cases h:i<L.length
 ·exact (List.findIdx_eq h).2 ⟨by simpa using h2 h,fun j hj=>by simpa using h1 j (by omega) hj⟩
 ·have e:i=L.length:=by omega
  subst e;rw [List.findIdx_eq_length];intro y hy;obtain ⟨k,hk,rfl⟩:=List.getElem_of_mem hy;simpa using h1 k hk hk
def bV (L:List aC) (x:aC) : Bool:=if h:aZ L x<L.length then decide (dl L[aZ L x] x) else false
theorem jk {L:List aC} {x:aC} (h:bV L x=true) : ∃ hk:aZ L x<L.length,dl L[aZ L x] x:=by
 unfold bV at h;split at h
 ·rename_i hk;exact ⟨hk,of_decide_eq_true h⟩
 ·cases h
theorem Ar {L:List aC} {x:aC} (h:bV L x=false) (hk:aZ L x<L.length) : bz x L[aZ L x]:=by
 unfold bV at h;rw [dif_pos hk] at h;have h1:=of_decide_eq_false h;have h2:=Aq hk;rcases uX L[aZ L x] x with e|e|e
 ·exact absurd e h2
 ·exact absurd e h1
 ·exact e
theorem C2 {L:List aC} (hs:rT L) {x:aC} {k:Nat} (hk:k<L.length) (h:dl L[k] x) : aZ L x=k∧bV L x=true:=by
 have e:aZ L x=k:=nG (by omega) (fun j hj lg=>by have:=hs.get hk lg;unfold bz dl at *;omega) (fun _=>by unfold bz dl at *;omega)
 refine ⟨e,?_⟩;unfold bV;simp only [e,dif_pos hk];exact decide_eq_true h
theorem C3 {L:List aC} {x:aC} (h:∀ (k:Nat) (hk:k<L.length),¬ dl L[k] x) : bV L x=false:=by
 cases e:bV L x with
 | false=>rfl
 | true=>obtain ⟨hk,h1⟩:=jk e;exact absurd h1 (h _ hk)
theorem ju {L:List aC} {x y:aC} (h:dl x y) : aZ L x=aZ L y∧bV L x=bV L y:=by
 have e:(fun l => !decide (bz l x))=(fun l:aC => !decide (bz l y)):=by
  funext l
  have:bz l x↔bz l y:=by unfold bz dl at *;omega
  simp [this]
 have e1:aZ L x=aZ L y:=by unfold aZ;rw [e]
 refine ⟨e1,?_⟩;unfold bV;simp only [e1];split
 ·have:dl L[aZ L y] x↔dl L[aZ L y] y:=by unfold dl at *;omega
  simp [this]
 ·rfl
def jB (L:List aC) (x:aC) : List aC:=if bV L x then L.set (aZ L x) x else aV L (aZ L x) x
theorem oE {L:List aC} {x:aC} (h:bV L x=true) : jB L x=L.set (aZ L x) x:=by rw [jB,if_pos h]
theorem oF {L:List aC} {x:aC} (h:bV L x=false) : jB L x=aV L (aZ L x) x:=by rw [jB,if_neg (by simp [h])]
def dD (L:List aC) (x:aC) : List Int:=if bV L x then (L.getD (aZ L x) x).ax else []
theorem iX {L:List aC} {x:aC} (h:bV L x=true) (hk:aZ L x<L.length) : dD L x=L[aZ L x].ax:=by
 rw [dD,if_pos h,List.getD_eq_getElem?_getD,List.getElem?_eq_getElem hk];rfl
theorem lB {L:List aC} {x:aC} (h:bV L x=false) : dD L x=[]:=by rw [dD,if_neg (by simp [h])]
theorem du {α:Type} (l:List α) {i:Nat} (h:i≤l.length) (x : α) : (aV l i x).length=l.length+1:=by simp [aV];omega
theorem sV {α:Type} {l:List α} {i:Nat} (h:i≤l.length) {x : α} {k:Nat} (hk:k<i) : (aV l i x)[k]?=l[k]?:=by
 unfold aV;rw [List.append_assoc,List.getElem?_append_left (by simp;omega),List.getElem?_take_of_lt hk]
theorem kd {α:Type} {l:List α} {i:Nat} (h:i≤l.length) {x : α}:(aV l i x)[i]?=some x:=by
 unfold aV;rw [List.append_assoc,List.getElem?_append_right (by simp;omega)];have:i-(l.take i).length=0:=by simp;omega
 rw [this];rfl
theorem pu {α:Type} {l:List α} {i:Nat} (h:i≤l.length) {x : α} {k:Nat} (hk:i≤k) : (aV l i x)[k+1]?=l[k]?:=by
 unfold aV;rw [List.append_assoc,List.getElem?_append_right (by simp;omega)];have:k+1-(l.take i).length=(k-i)+1:=by simp;omega
 rw [this,List.singleton_append,List.getElem?_cons_succ,List.getElem?_drop];congr 1
 omega
theorem qp {α:Type} {l:List α} {i:Nat} (h:i≤l.length) (x y : α) : (aV l i x).set i y=aV l i y:=by
 unfold aV;rw [List.append_assoc,List.append_assoc,List.set_append_right _ _ (by simp;omega)];have:i-(l.take i).length=0:=by simp;omega
 rw [this];rfl
theorem xr {L:List aC} {x:aC}:(jB L x)[aZ L x]?=some x:=by
 cases h:bV L x
 ·rw [oF h];exact kd (fK L x)
 ·obtain ⟨hk,_⟩:=jk h;rw [oE h,List.getElem?_set_self hk]
theorem C4 {L:List aC} {x:aC}:aZ (jB L x) x=aZ L x∧bV (jB L x) x=true:=by
 have hg:=xr (L:=L) (x:=x);obtain ⟨hk,hx⟩:=List.getElem?_eq_some_iff.1 hg
 have e:aZ (jB L x) x=aZ L x:=by
  refine nG (by omega) (fun j hj lg => ?_) (fun _ => ?_)
  ·have h0:=l7 (L:=L) (x:=x) lg
   have e1:(jB L x)[j]?=L[j]?:=by
    cases h:bV L x
    ·rw [oF h];exact sV (fK L x) lg
    ·rw [oE h,List.getElem?_set_ne (by omega)]
   rw [List.getElem?_eq_getElem hj,List.getElem?_eq_getElem (Nat.lt_of_lt_of_le lg (fK L x))] at e1;injection e1 with e1
   rw [e1];exact h0
  ·rw [hx];unfold bz;omega
 refine ⟨e,?_⟩;unfold bV;simp only [e,dif_pos hk,hx];exact decide_eq_true ⟨rfl,rfl,rfl⟩
theorem C5 {L:List aC} {x y:aC} (h:dl x y) : (jB L x).set (aZ L x) y=jB L y:=by
 obtain ⟨e1,e2⟩:=ju (L:=L) h;cases hh:bV L x
 ·rw [oF hh,oF (by rw [← e2];exact hh),qp (fK L x),e1]
 ·rw [oE hh,oE (by rw [← e2];exact hh),List.set_set,e1]
def bX (L:List aC) (x:aC) (k:Nat) : List aC:=if k≤aZ L x then L.take k else if bV L x then (L.set (aZ L x) x).take k else (aV L (aZ L x) x).take (k+1)
theorem nf {α:Type} {l:List α} {k:Nat} {x : α} (h:l[k]?=some x) : l.take (k+1)=l.take k++[x]:=by
 obtain ⟨hk,rfl⟩:=List.getElem?_eq_some_iff.1 h;exact List.take_succ_eq_append_getElem hk
theorem yW {L:List aC} {x:aC} {k:Nat} (hk:k<aZ L x) : bX L x (k+1)=bX L x k++[L[k]'(Nat.lt_of_lt_of_le hk (fK L x))]:=by
 have:=fK L x
 rw [bX,if_pos (by omega),bX,if_pos (by omega)];exact List.take_succ_eq_append_getElem (by omega)
theorem xt {L:List aC} {x:aC} {k:Nat} (hk:k=aZ L x) (hh:bV L x=true) : bX L x (k+1)=bX L x k++[x]:=by
 obtain ⟨hl,_⟩:=jk hh;subst hk;rw [bX,if_neg (by omega),if_pos hh,bX,if_pos (Nat.le_refl _),nf (x:=x) (List.getElem?_set_self hl),List.take_set_of_le (Nat.le_refl _)]
theorem Bd {L:List aC} {x:aC} {k:Nat} (hk:k=aZ L x) (hl:k<L.length) (hh:bV L x=false) : bX L x (k+1)=bX L x k++[x]++[L[k]]:=by
 subst hk;have hle:=fK L x;rw [bX,if_neg (by omega),if_neg (by simp [hh]),bX,if_pos (Nat.le_refl _),nf (x:=L[aZ L x]) (by rw [pu hle (Nat.le_refl _),List.getElem?_eq_getElem hl]),nf (kd hle)];congr 2
 unfold aV;rw [List.append_assoc,List.take_append_of_le_length (by simp;omega),List.take_take,Nat.min_self]
theorem xu {L:List aC} {x:aC} {k:Nat} (hk:aZ L x<k) (hl:k<L.length) : bX L x (k+1)=bX L x k++[L[k]]:=by
 have hle:=fK L x;rw [bX,if_neg (show ¬ k+1≤aZ L x by omega),bX,if_neg (show ¬ k≤aZ L x by omega)];cases hh:bV L x
 ·simp only [Bool.false_eq_true,if_false];exact nf (by rw [pu hle (by omega),List.getElem?_eq_getElem hl])
 ·simp only [if_true];exact nf (by rw [List.getElem?_set_ne (by omega),List.getElem?_eq_getElem hl])
theorem xv {L:List aC} {x:aC} (hk:aZ L x<L.length) : bX L x L.length=jB L x:=by
 rw [bX,if_neg (by omega),jB];split
 ·exact List.take_of_length_le (by simp)
 ·exact List.take_of_length_le (by rw [du _ (fK L x)];omega)
theorem xw {L:List aC} {x:aC} (hk : ¬ aZ L x<L.length) : bX L x L.length++[x]=jB L x:=by
 have hle:=fK L x;have e:aZ L x=L.length:=by omega
 have hf:bV L x=false:=by unfold bV;rw [dif_neg hk]
 rw [bX,if_pos (by omega),oF hf,e,aV];simp
open Go.RowKit
def Marks (w:World) (b N:Nat) : Option (List Block)→Prop
 | some bs=>aJ w b 224 (fb (dP bs) N false)
 | none => ∃ p,aJ w b 224 (fb p N true)
theorem Marks.ext {w w':World} {b N:Nat} {s:Option (List Block)} (h:Marks w b N s) (hx:Ext w w') : Marks w' b N s:=by
 cases s with
 | none=>obtain ⟨p,h⟩:=h;exact ⟨p,aJ.ext h hx⟩
 | some bs=>exact aJ.ext h hx
theorem Marks.bad {w:World} {b N:Nat} {s:Option (List Block)} (h:Marks w b N s) (hN:N=256) : w.cell? ((⟨b,0,none⟩ : Addr).add 256)=some (.bool s.isNone):=by
 subst hN;cases s with
 | none=>obtain ⟨p,h⟩:=h;exact aJ.cell h (sA _ _ _)
 | some bs=>exact aJ.cell h (sA _ _ _)
theorem Marks.gr {w w':World} {b N:Nat} {s:Option (List Block)} (h:Marks w b N s) (hg:w.grownBy w' (some b)) : oa w w' 224:=by
 cases s with
 | none=>obtain ⟨p,h⟩:=h;exact aJ.gr h hg
 | some bs=>exact aJ.gr h hg
theorem qq (b:Nat) (s:Option (List Block)) (x:Block) (N:Nat) (hN:N=256) (w:World) (hM:Marks w b N s) (hs:mU s) (hp : 1≤pw x.Order∧pw x.Order≤16) :
 gX Tryz.prog 178 [.pointer (some ⟨b,0,none⟩),.int .i64 x.At,.int .i64 (pw x.Order)] w fun v w'=>Marks w' b N (jP s x)∧w.grownBy w' (some b):=by
 cases s with
 | none =>
   obtain ⟨p,hB⟩:=hM;refine ⟨Calls.mono (wY b p true N hN x.At (pw x.Order) w hB ⟨by omega,hp.2⟩).out ?_⟩;rintro e w' ⟨v,he,p',AR,rq,hg,h⟩
   refine ⟨v,he,?_,hg⟩;have:AR=true:=by rcases h with ⟨_,h,_⟩|⟨_,h⟩<;>exact h
   subst this;exact ⟨p',rq⟩
 | some bs =>
   refine ⟨Calls.mono (wY b (dP bs) false N hN x.At (pw x.Order) w hM ⟨by omega,hp.2⟩).out ?_⟩;rintro e w' ⟨v,he,p',AR,rq,hg,h⟩
   refine ⟨v,he,?_,hg⟩;have IV:=rR (hs bs rfl) (b:=x) hp.1;rcases h with ⟨h1,rfl,rfl⟩|⟨h1,rfl⟩
   ·have:jP (some bs) x=some (bs++[x]):=by simp [jP,IV.1 h1]
    rw [this];show aJ w' b _ _
    rw [← lV (fun i _=>CN bs x i)];exact rq
   ·have:jP (some bs) x=none:=by
     simp only [jP];rw [if_neg (fun hf=>h1 (IV.2 hf))]
    rw [this];exact ⟨p',rq⟩
theorem qs (r s:bM) (a b:aC) (w:World) (ha:r.dO=a.dO∧r.ar=a.ar∧r.Ty=a.Ty) (hb:s.dO=b.dO∧s.ar=b.ar∧s.Ty=b.Ty) :
 bo Tryz.prog 194 [.agg (bq r).toArray,.agg (bq s).toArray] w fun v _=>v = .bool (decide (bz a b)):=by
 refine aI Tryz.func194 rfl Tryz.ntmps194 rfl ?_;refine CW.seq (CW.region (SW.box rfl rfl fun b2 w1 hw g7 aL => ?_));refine SW.box rfl rfl fun b3 w2 cq bH aq => ?_
 (replace hw:=Ext.trans hw cq;replace aL:=aL.ext cq);obtain ⟨a1,a2,a3⟩:=ha;obtain ⟨b1,KV,KW⟩:=hb;have key:bz a b↔(r.dO<s.dO∨(r.dO=s.dO∧(r.ar<s.ar∨(r.ar=s.ar∧r.Ty<s.Ty)))):=by unfold bz;rw [a1,a2,a3,b1,KV,KW]
 by_cases h1:r.dO<s.dO
 ·rw [decide_eq_true (key.2 (by omega))];refine Wz ?_;all_goals first|(exfalso;omega)|exact ae.aO rfl rfl ⟨_,rfl,hw,by simp [h1]⟩
 ·by_cases h2:r.dO=s.dO
  ·by_cases h3:r.ar<s.ar
   ·rw [decide_eq_true (key.2 (by omega))];refine Wz ?_;all_goals first|(exfalso;omega)|exact ae.aO rfl rfl ⟨_,rfl,hw,by simp [h3]⟩
   ·by_cases h4:r.ar=s.ar
    ·by_cases h5:r.Ty<s.Ty
     ·rw [decide_eq_true (key.2 (by omega))];refine Wz ?_;all_goals first|(exfalso;omega)|exact ae.aO rfl rfl ⟨_,rfl,hw,by simp [h5]⟩
     ·rw [decide_eq_false (fun h=>by have:=key.1 h;omega)];refine Wz ?_;all_goals first|(exfalso;omega)|exact ae.aO rfl rfl ⟨_,rfl,hw,by simp [h5]⟩
    ·rw [decide_eq_false (fun h=>by have:=key.1 h;omega)];refine Wz ?_;all_goals first|(exfalso;omega)|exact ae.aO rfl rfl ⟨_,rfl,hw,by simp [h3]⟩
  ·rw [decide_eq_false (fun h=>by have:=key.1 h;omega)];refine Wz ?_;all_goals first|(exfalso;omega)|exact ae.aO rfl rfl ⟨_,rfl,hw,by simp [h1]⟩
theorem sW (r s:bM) (a b:aC) (w:World) (ha:r.dO=a.dO∧r.ar=a.ar∧r.Ty=a.Ty) (hb:s.dO=b.dO∧s.ar=b.ar∧s.Ty=b.Ty) :
 bo Tryz.prog 198 [.agg (bq r).toArray,.agg (bq s).toArray] w fun v _=>v = .bool (decide (bz a b)):=by
 refine aI Tryz.func198 rfl Tryz.ntmps198 rfl ?_;refine CW.seq (CW.region (SW.box rfl rfl fun b2 w1 hw g7 aL => ?_));refine SW.box rfl rfl fun b3 w2 cq bH aq => ?_
 (replace hw:=Ext.trans hw cq;replace aL:=aL.ext cq);obtain ⟨a1,a2,a3⟩:=ha;obtain ⟨b1,KV,KW⟩:=hb;have key:bz a b↔(r.dO<s.dO∨(r.dO=s.dO∧(r.ar<s.ar∨(r.ar=s.ar∧r.Ty<s.Ty)))):=by unfold bz;rw [a1,a2,a3,b1,KV,KW]
 by_cases h1:r.dO<s.dO
 ·rw [decide_eq_true (key.2 (by omega))];refine Wz ?_;all_goals first|(exfalso;omega)|exact ae.aO rfl rfl ⟨_,rfl,hw,by simp [h1]⟩
 ·by_cases h2:r.dO=s.dO
  ·by_cases h3:r.ar<s.ar
   ·rw [decide_eq_true (key.2 (by omega))];refine Wz ?_;all_goals first|(exfalso;omega)|exact ae.aO rfl rfl ⟨_,rfl,hw,by simp [h3]⟩
   ·by_cases h4:r.ar=s.ar
    ·by_cases h5:r.Ty<s.Ty
     ·rw [decide_eq_true (key.2 (by omega))];refine Wz ?_;all_goals first|(exfalso;omega)|exact ae.aO rfl rfl ⟨_,rfl,hw,by simp [h5]⟩
     ·rw [decide_eq_false (fun h=>by have:=key.1 h;omega)];refine Wz ?_;all_goals first|(exfalso;omega)|exact ae.aO rfl rfl ⟨_,rfl,hw,by simp [h5]⟩
    ·rw [decide_eq_false (fun h=>by have:=key.1 h;omega)];refine Wz ?_;all_goals first|(exfalso;omega)|exact ae.aO rfl rfl ⟨_,rfl,hw,by simp [h3]⟩
  ·rw [decide_eq_false (fun h=>by have:=key.1 h;omega)];refine Wz ?_;all_goals first|(exfalso;omega)|exact ae.aO rfl rfl ⟨_,rfl,hw,by simp [h1]⟩
structure uu (w:World) (r:eB) (h:Heap) (r0 r1:cy) (z0 z1:ar) : Prop where
 rd:wI w r h
 eq:h.aQ=[z0,z1]
 n:r.aQ.n=2
 row:Sl w 4 bp r.aQ.A r.aQ.n [r0,r1]
 z0:uj w r0 z0
 z1:uj w r1 z1
theorem uu.ext {w w':World} {r:eB} {h:Heap} {r0 r1:cy} {z0 z1:ar} (a:uu w r h r0 r1 z0 z1) (hx:Ext w w') : uu w' r h r0 r1 z0 z1 :=
 ⟨a.rd.ext hx,a.eq,a.n,a.row.ext hx,a.z0.ext hx,a.z1.ext hx⟩
theorem uu.c0 {w:World} {r:eB} {h:Heap} {r0 r1:cy} {z0 z1:ar} (a:uu w r h r0 r1 z0 z1) (j:Nat) (u:Value) (hu:(bp r0)[j]?=some u) : w.cell? (((r.aQ.A.getD default).add (0*4)).add j)=some u:=a.row.cell 0 (by simp) j u hu
theorem uu.c1 {w:World} {r:eB} {h:Heap} {r0 r1:cy} {z0 z1:ar} (a:uu w r h r0 r1 z0 z1) (j:Nat) (u:Value) (hu:(bp r1)[j]?=some u) : w.cell? (((r.aQ.A.getD default).add (1*4)).add j)=some u:=a.row.cell 1 (by simp) j u hu
theorem qt {α:Type} {l:List α} (h:l.length=2) : ∃ a b,l=[a,b]:=by
 match l,h with
 | [a,b],_=>exact ⟨a,b,rfl⟩
theorem wI.two {w:World} {r:eB} {h:Heap} (a:wI w r h) (hl:h.aQ.length=2) : ∃ r0 r1 z0 z1,uu w r h r0 r1 z0 z1:=by
 obtain ⟨zs,hz⟩:=a.cQ;obtain ⟨z0,z1,e1⟩:=qt hl;have l0:=hz.each.len;obtain ⟨r0,r1,e2⟩:=qt (show zs.length=2 by omega);subst e2;have l1:=hz.row.len;have h0:=hz.each.get 0 (by simp) (by omega);have h1:=hz.each.get 1 (by simp) (by omega);simp only [e1] at h0 h1;exact ⟨r0,r1,z0,z1,a,e1,by simpa using l1.symm,hz.row,h0,h1⟩
theorem Be (r:eB) (h:Heap) (r0 r1:cy) (z0 z1:ar) (x:Int) (w:World) (hr:uu w r h r0 r1 z0 z1) :
 bo Tryz.prog 110 [.agg (bm r).toArray,.int .i64 x] w fun v _=>v = .int .i64 (if x<z0.To then 0 else 1):=by
 refine aI Tryz.func110 rfl Tryz.ntmps110 rfl ?_;refine CW.seq (CW.region (SW.box rfl rfl fun b2 w1 hw g7 aL => ?_));have hn:=hr.n;have hA:=hr.row.base;have e1:=hr.z0.j6;by_cases hx:x<z0.To
 ·rw [if_pos hx];repeat' (first|refine Wz ?_|refine SW.st (bc (0) rfl rfl (by assumption) (by omega) (by omega)) rfl ?_|refine SW.st (ap hw rfl (hr.c0 1 _ rfl)) rfl ?_)
  exact ae.aO rfl rfl ⟨_,rfl,hw,rfl⟩
 ·rw [if_neg hx];repeat' (first|refine Wz ?_|refine SW.st (bc (0) rfl rfl (by assumption) (by omega) (by omega)) rfl ?_|refine SW.st (ap hw rfl (hr.c0 1 _ rfl)) rfl ?_)
  exact ae.aO rfl rfl ⟨_,rfl,hw,rfl⟩
open Go.RowKit
structure GB (w w':World) (b:Nat) : Prop where
 g:w.grownBy w' (some b)
theorem GB.refl (w:World) (b:Nat) : GB w w b:=⟨World.grownBy.refl _ _⟩
theorem GB.ext {w w1 w2:World} {b:Nat} (h:GB w w1 b) (hx:Ext w1 w2) : GB w w2 b:=⟨bQ h.g (hx.gr (some b)) (.inl rfl)⟩
theorem GB.step {w w1 w2:World} {b:Nat} (h:GB w w1 b) (hg:w1.grownBy w2 (some b)) : GB w w2 b:=⟨bQ h.g hg (.inl rfl)⟩
theorem Bf (b:Nat) (s:Option (List Block)) (p:Int) (N:Nat) (hN:N=256) (w:World) (hM:Marks w b N s) (hs:mU s) :
 gX Tryz.prog 178 [.pointer (some ⟨b,0,none⟩),.int .i64 p,.int .i64 1] w fun v w'=>Marks w' b N (jP s (db p))∧w.grownBy w' (some b):=by
 have h:=qq b s (db p) N hN w hM hs (by simp [db,jQ]);simp only [db,jQ] at h ⊢;exact h
def C6 (w wE:World) (b N:Nat) (s:Option (List Block)) (h:Heap) (to:Int) (v:Value) (w':World) : Prop :=
 Ext w w'∧wE.grownBy w' (some b)∧((v = .bool true∧kG h.bY to h.av∧Marks w' b N (bi s (aT h.av)))∨(v = .bool false ∧ ¬ (kG h.bY to h.av∧(bi s (aT h.av)).isSome=true)))
structure vV (dY to:Int) (ls:List aC) (k:Nat) : Prop where
 head:∀ (i:Nat) (h:i<ls.length),i<k→mV dY ls[i]
 next:∀ (i:Nat) (h:i+1<ls.length),i+1<k→bz ls[i] ls[i+1]
 fu:∀ (i:Nat) (h:i<ls.length),i<k → ∀ p∈(ls[i]).ax,(p<to↔(ls[i]).ar=0)
theorem vV.nil (dY to:Int) (ls:List aC) : vV dY to ls 0:=⟨fun i _ h=>by omega,fun i _ h=>by omega,fun i _ h=>by omega⟩
theorem vV.all {dY to:Int} {ls:List aC} {k:Nat} (h:vV dY to ls k) (hk:ls.length≤k) : kG dY to ls:=⟨fun i hi=>h.head i hi (by omega),fun i hi=>h.next i hi (by omega),fun i hi=>h.fu i hi (by omega)⟩
theorem vV.snoc {dY to:Int} {ls:List aC} {k:Nat} (h:vV dY to ls k) (hk:k<ls.length) (h1:mV dY ls[k]) (h2:∀ (h : 0<k),bz ls[k-1] ls[k]) (h3:∀ p∈(ls[k]).ax,(p<to↔(ls[k]).ar=0)) : vV dY to ls (k+1):=by
 refine ⟨fun i hi z7 => ?_,fun i hi z7 => ?_,fun i hi z7 => ?_⟩
 ·by_cases e:i=k
  ·subst e;exact h1
  ·exact h.head i hi (by omega)
 ·by_cases e:i+1=k
  ·subst e;exact h2 (by omega)
  ·exact h.next i hi (by omega)
 ·by_cases e:i=k
  ·subst e;exact h3
  ·exact h.fu i hi (by omega)
theorem qU {s:Option (List Block)} {ls:List aC} {k j:Nat} (hk:k<ls.length) (hj:j≤(ls[k]).ax.length) (h:bi (bi s (aT (ls.take k))) (((ls[k]).ax.take j).map db)=none) : bi s (aT ls)=none:=by
 rw [← bt] at h
 have e:aT ls=(aT (ls.take k)++((ls[k]).ax.take j).map db)++(((ls[k]).ax.drop j).map db++aT (ls.drop (k+1))):=by
  have e1:ls=ls.take (k+1)++ls.drop (k+1):=by simp
  have e2:((ls[k]).ax.take j).map db++((ls[k]).ax.drop j).map db=(ls[k]).ax.map db:=by rw [← List.map_append,List.take_append_drop]
  have e3:aT ls=aT (ls.take (k+1))++aT (ls.drop (k+1)):=by unfold aT;rw [← List.flatMap_append,← e1]
  rw [e3,kH _ _ hk,← e2];simp only [List.append_assoc]
 rw [e,bt,h,fg]
set_option maxHeartbeats 8000000 in
theorem Bg (r:eB) (h:Heap) (r0 r1:cy) (z0 z1:ar) (b N:Nat) (hN:N=256) (s:Option (List Block)) (w wE:World) (hw:Ext w wE) (Ek:w.heap.size≤b) (hr:uu w r h r0 r1 z0 z1) (hM:Marks wE b N s) (NM:mU s) (G1:r.av.n≤1000000000000000000) :
 gX Tryz.prog 179 [.agg (bm r).toArray,.pointer (some ⟨b,0,none⟩)] wE (C6 w wE b N s h z0.To):=by
 refine dB Tryz.func179 rfl Tryz.ntmps179 rfl ?_;have hE:=GB.refl wE b;refine CW.seq (CW.region (SW.box rfl rfl fun b2 w2 cq g7 aL => ?_));(replace hw:=Ext.trans hw cq;replace hM:=hM.ext cq;replace hE:=hE.ext cq);obtain ⟨ls,hl⟩:=hr.rd.lists;have CS:=hr.rd.dY;obtain ⟨wV,Mw⟩:=hl.len;have hA:=hl.row.base;refine Wz ?_
 refine CW.loop (fun k:Nat=>[(1,.pointer (some ⟨b,0,none⟩)),(2,.pointer (some ⟨b2,0,none⟩)),(10,.slice r.av.A r.av.n r.av.c),(11,.int .i64 (r.av.n:Int)),(12,.int .i64 (k:Int))])
  (fun k w'=>k≤r.av.n∧Ext w w'∧GB wE w' b∧aJ w' b2 41 (bm r)∧Marks w' b N (bi s (aT (h.av.take k)))∧vV h.bY z0.To h.av k) (fun k=>r.av.n-k) 0
  ⟨rfl,rfl,rfl,rfl,rfl,trivial⟩ ⟨by omega,hw,hE,aL,hM,.nil _ _ _⟩ ?_
 clear hw hE aL hM cq;rintro k w' ⟨hk,hw,hE,aL,hM,hP⟩
 by_cases cb:k<r.av.n
 ·have dk:k<ls.length:=by omega
  have qV:k<h.av.length:=by omega
  have Bh:=hl.each.get k dk qV;have KX:=Bh.cpu;have KY:=Bh.fu;have de:=Bh.ty;have NN:=Bh.bL.len;have NO:=Bh.bL.base;have As:=Bh.bL;have dw:=hl.row.all cb;have fL:=hl.row.all (i:=k-1) (show k-1<r.av.n by omega)
  have NP:mU (bi s (aT (h.av.take k))):=ie NM fun x hx=>by
   unfold aT at hx;obtain ⟨y,_,hy⟩:=List.mem_flatMap.1 hx;obtain ⟨p,_,rfl⟩:=List.mem_map.1 hy;simp [db,jQ]
  repeat' (first|refine Wz ?_|refine SW.st (aH hw rfl rfl ((dw))) rfl ?_)
  refine SW.alloc rfl fun b6 w1 ab eg aw => ?_
  refine Wz ?_;refine SW.ak aw rfl rfl rfl rfl (fw.one (enc:=bq) _) fun w2 gq hg => ?_
  have aj:=ab.own eg hg;have cu:w.heap.size≤b6:=Nat.le_trans hw.size eg
  replace hw:=Ext.trans hw aj;replace aL:=aL.ext aj;replace hM:=hM.ext aj;replace hE:=hE.ext aj;replace aw:=gq;clear gq ab hg aj;refine Wz ?_;by_cases yu:mV r.bY h.av[k]
  ·obtain ⟨e1,e2,e3,e4⟩:=id yu;obtain ⟨q,hq⟩ : ∃ q,decide (bz (h.av[k-1]'(by omega)) h.av[k])=q:=⟨_,rfl⟩;have yX:=hl.each.get (k-1) (by omega) (by omega)
   have cL:∀ w',bo Tryz.prog 194 [.agg (bq (ls[k-1]'(by omega))).toArray,.agg (bq ls[k]).toArray] w' fun v _=>v = .bool q:=fun w'=>by
    have:=qs (ls[k-1]'(by omega)) ls[k] (h.av[k-1]'(by omega)) h.av[k] w' ⟨yX.cpu,yX.fu,yX.ty⟩ ⟨KX,KY,de⟩
    rwa [hq] at this
   have cU:k=0∨(0<k∧q=true)∨(0<k∧q=false):=by cases q<;>simp<;>omega
   rw [or_comm,or_assoc] at cU;rcases cU with ⟨p7,rfl⟩|⟨p7,rfl⟩|p7
   rotate_left
   ·repeat' (first|refine Wz ?_|(first|refine CW.bO rfl ?_|(apply CW.aP mixed;(· kernel_rfl);rotate_left;intro w1 ab;replace hw:=Ext.trans hw ab;replace aL:=aL.ext ab;replace aw:=aw.ext ab;replace hM:=hM.ext ab;replace hE:=hE.ext ab;clear ab;rotate_right))|refine SW.st (bc (k-1) rfl rfl (by assumption) (by omega) (by omega)) rfl ?_|refine SW.st (aH hw rfl rfl ((fL))) rfl ?_|refine SW.br rfl rfl (fun w1 ab=>(cL _)) ?_|exact SW.bx rfl)
    exact ae.aO rfl rfl ⟨_,rfl,hw,hE.g,.inr ⟨rfl,fun hh=>by
     have:=hh.1.next (k-1) (by omega)
     simp only [show k-1+1=k by omega] at this;exact of_decide_eq_false hq this⟩⟩
   all_goals
    have KZ:∀ (h0 : 0<k),bz (h.av[k-1]'(by omega)) h.av[k]:=fun h0=>by first|exact of_decide_eq_true hq|omega
    repeat' (first|refine Wz ?_|(first|refine CW.bB rfl ?_|(apply CW.aP mixed;(· kernel_rfl);rotate_left;intro w1 ab;replace hw:=Ext.trans hw ab;replace aL:=aL.ext ab;replace aw:=aw.ext ab;replace hM:=hM.ext ab;replace hE:=hE.ext ab;clear ab;rotate_right))|refine SW.st (bc (k-1) rfl rfl (by assumption) (by omega) (by omega)) rfl ?_|refine SW.st (aH hw rfl rfl ((fL))) rfl ?_|refine SW.br rfl rfl (fun w1 ab=>(cL _)) ?_|exact SW.bx rfl)
    clear cL hq dw fL
    refine CW.loop (fun j:Nat=>[(1,.pointer (some ⟨b,0,none⟩)),(2,.pointer (some ⟨b2,0,none⟩)),(6,.pointer (some ⟨b6,0,none⟩)),(10,.slice r.av.A r.av.n r.av.c),(11,.int .i64 (r.av.n:Int)),(12,.int .i64 (k:Int)),(75,.slice ls[k].ax.A ls[k].ax.n ls[k].ax.c),(76,.int .i64 (ls[k].ax.n:Int)),(77,.int .i64 (j:Int))])
     (fun j w'=>j≤ls[k].ax.n∧Ext w w'∧GB wE w' b∧aJ w' b2 41 (bm r)∧aJ w' b6 142 (bq ls[k])∧Marks w' b N (bi (bi s (aT (h.av.take k))) ((h.av[k].ax.take j).map db)) ∧ ∀ (i:Nat) (hi:i<h.av[k].ax.length),i<j→(h.av[k].ax[i]<z0.To↔h.av[k].ar=0)) (fun j=>ls[k].ax.n-j) 0
     ⟨rfl,rfl,rfl,rfl,rfl,rfl,rfl,rfl,rfl,trivial⟩ ⟨by omega,hw,hE,aL,aw,hM,fun i _ h=>by omega⟩ ?_
    clear hw hE aL aw hM eg cu;rintro j w' ⟨hj,hw,hE,aL,aw,hM,hZ⟩
    by_cases je:j<ls[k].ax.n
    ·have kV:j<h.av[k].ax.length:=by omega
     repeat' (first|refine Wz ?_|refine SW.st (ap hw rfl (As.one je rfl)) rfl ?_)
     refine SW.da rfl rfl (Bf b _ h.av[k].ax[j] N hN _ hM (ie NP fun x hx=>by
      obtain ⟨p,_,rfl⟩:=List.mem_map.1 hx;simp [db,jQ])) fun v w5 hv => ?_
     obtain ⟨yY,yA⟩:=hv;have hG:=hM.gr yA;replace hw:=hw.own Ek yA;replace hE:=hE.step yA;(replace aL:=aL.ay hG rfl;replace aw:=aw.ay hG rfl)
     have e5:jP (bi (bi s (aT (h.av.take k))) ((h.av[k].ax.take j).map db)) (db h.av[k].ax[j])=bi (bi s (aT (h.av.take k))) ((h.av[k].ax.take (j+1)).map db):=by
      rw [List.take_succ_eq_append_getElem kV,List.map_append,bt];rfl
     rw [e5] at yY;have nP:=yY.bad hN;generalize hp:h.av[k].ax[j]=p
     obtain ⟨y,hy⟩ : ∃ y,(if p<z0.To then (0:Int) else 1)=y:=⟨_,rfl⟩
     have cZ:∀ w',Ext w w'→bo Tryz.prog 110 [.agg (bm r).toArray,.int .i64 p] w' fun v _=>v = .int .i64 y:=fun w' hx=>by
      have:=Be r h r0 r1 z0 z1 p w' (hr.ext hx)
      rwa [hy] at this
     cases hs:bi (bi s (aT (h.av.take k))) ((h.av[k].ax.take (j+1)).map db) with
     | none =>
       rw [hs] at nP;repeat' (first|refine Wz ?_|((apply CW.aP mixed;(· kernel_rfl);rotate_left;intro w1 ab;replace hw:=Ext.trans hw ab;replace aL:=aL.ext ab;replace aw:=aw.ext ab;replace yY:=yY.ext ab;replace hE:=hE.ext ab;clear ab;rotate_right))|refine SW.skip rfl rfl rfl rfl ?_|refine SW.st (ao rfl nP) rfl ?_|exact SW.bx rfl)
       exact ae.aO rfl rfl ⟨_,rfl,hw,hE.g,.inr ⟨rfl,fun hh=>by
        have:=hh.2
        rw [qU qV (by omega) hs] at this;cases this⟩⟩
     | some bs =>
       rw [hs] at nP;by_cases hz:y=ls[k].ar
       ·repeat' (first|refine Wz ?_|((apply CW.aP mixed;(· kernel_rfl);rotate_left;intro w1 ab;replace hw:=Ext.trans hw ab;replace aL:=aL.ext ab;replace aw:=aw.ext ab;replace yY:=yY.ext ab;replace hE:=hE.ext ab;clear ab;rotate_right))|refine SW.want rfl rfl ?_|refine SW.st (ao rfl nP) rfl ?_|refine SW.br rfl rfl (fun w1 ab=>(cZ _ (Ext.trans hw ab))) ?_|exact SW.bx rfl)
        refine ae.again (j+1) ⟨rfl,rfl,rfl,rfl,rfl,rfl,rfl,rfl,rfl,trivial⟩ (by omega) ⟨by omega,hw,hE,aL,aw,yY,fun i hi kW => ?_⟩;by_cases e:i=j
        ·subst e;rw [hp];split at hy<;>constructor<;>intro _<;>omega
        ·exact hZ i hi (by omega)
       ·repeat' (first|refine Wz ?_|((apply CW.aP mixed;(· kernel_rfl);rotate_left;intro w1 ab;replace hw:=Ext.trans hw ab;replace aL:=aL.ext ab;replace aw:=aw.ext ab;replace yY:=yY.ext ab;replace hE:=hE.ext ab;clear ab;rotate_right))|refine SW.want rfl rfl ?_|refine SW.st (ao rfl nP) rfl ?_|refine SW.br rfl rfl (fun w1 ab=>(cZ _ (Ext.trans hw ab))) ?_|exact SW.bx rfl)
        exact ae.aO rfl rfl ⟨_,rfl,hw,hE.g,.inr ⟨rfl,fun hh=>by
         have:=hh.1.fu k qV p (by rw [← hp];exact List.getElem_mem _)
         split at hy<;>omega⟩⟩
    ·obtain rfl:j=ls[k].ax.n:=by omega
     rw [List.take_of_length_le (l:=h.av[k].ax) (by omega),← bt,← kH _ _ qV] at hM;refine Wz ?_;refine ae.again (k+1) ⟨rfl,rfl,rfl,rfl,rfl,trivial⟩ (by omega) ⟨by omega,hw,hE,aL,hM,hP.snoc qV (by rwa [← CS]) KZ fun p hp => ?_⟩;obtain ⟨i,hi,rfl⟩:=List.getElem_of_mem hp;exact hZ i hi (by omega)
  ·have lf : ¬ kG h.bY z0.To h.av:=fun hh=>yu (by have:=hh.head k qV;rwa [← CS] at this)
   have K4 : ¬ (((0≤ls[k].dO∧ls[k].dO<r.bY)∧(0≤ls[k].ar∧ls[k].ar≤1)∧(0≤ls[k].Ty∧ls[k].Ty≤2)∧(1≤ls[k].ax.n∧ls[k].ax.n≤8))):=fun hh=>yu (by unfold mV;omega)
   have gG:ls[k].dO<0∨(0≤ls[k].dO∧(r.bY≤ls[k].dO∨(ls[k].dO<r.bY∧(ls[k].ar<0∨(0≤ls[k].ar∧(1<ls[k].ar∨(ls[k].ar≤1∧(ls[k].Ty<0∨(0≤ls[k].Ty∧(3≤ls[k].Ty∨(ls[k].Ty<3∧(ls[k].ax.n=0∨(0<ls[k].ax.n∧8<ls[k].ax.n))))))))))))):=by omega
   rcases gG with d|⟨d1,d|⟨d2,d|⟨d3,d|⟨d4,d|⟨d5,d|⟨d6,d|⟨d7,d⟩⟩⟩⟩⟩⟩⟩
   repeat' (first|refine Wz ?_|((apply CW.aP mixed;(· kernel_rfl);rotate_left;intro w1 ab;replace hw:=Ext.trans hw ab;replace aL:=aL.ext ab;replace aw:=aw.ext ab;replace hM:=hM.ext ab;replace hE:=hE.ext ab;clear ab;rotate_right))|exact SW.bx rfl)
   all_goals exact ae.aO rfl rfl ⟨_,rfl,hw,hE.g,.inr ⟨rfl,fun hh=>lf hh.1⟩⟩
 ·obtain rfl:k=r.av.n:=by omega
  rw [List.take_of_length_le (l:=h.av) (by omega)] at hM;refine Wz ?_;exact ae.aO rfl rfl ⟨_,rfl,hw,hE.g,.inl ⟨rfl,hP.all (by omega),hM⟩⟩
open Go.RowKit
theorem qW {l:List Block}:∀ {s:Option (List Block)},(bi s l).isSome=true → ∀ b∈l,0≤b.At∧b.At+pw b.Order≤256:=by
 induction l with
 | nil=>intro s _ b hb;simp at hb
 | cons x l ih =>
   intro s h b hb;have h':(bi (jP s x) l).isSome=true:=h
   rcases List.mem_cons.1 hb with rfl|hb
   ·cases e:jP s b with
    | none=>rw [e,fg] at h';cases h'
    | some bs=>obtain ⟨cs,_,hf,_⟩:=lq e;exact ⟨hf.1,hf.2.1⟩
   ·exact ih h' b hb
def uY (b:Block) : Prop:=(0≤b.Order∧b.Order≤4)∧0≤b.At∧b.At % pw b.Order=0∧fp b.Ty
structure sX (l:List Block) (k:Nat) : Prop where
 each:∀ (i:Nat) (h:i<l.length),i<k→uY l[i]
 next:∀ (i:Nat) (h:i+1<l.length),i+1<k→l[i].At<l[i+1].At
theorem sX.nil (l:List Block) : sX l 0:=⟨fun i _ h=>by omega,fun i _ h=>by omega⟩
theorem sX.snoc {l:List Block} {k:Nat} (h:sX l k) (hk:k<l.length) (h1:uY l[k]) (h2:∀ (h : 0<k),l[k-1].At<l[k].At) : sX l (k+1):=by
 refine ⟨fun i hi z7 => ?_,fun i hi z7 => ?_⟩
 ·by_cases e:i=k
  ·subst e;exact h1
  ·exact h.each i hi (by omega)
 ·by_cases e:i+1=k
  ·subst e;exact h2 (by omega)
  ·exact h.next i hi (by omega)
theorem sX.ok {l:List Block} {k:Nat} {s:Option (List Block)} (h:sX l k) (hk:l.length≤k) (hf:(bi s l).isSome=true) : mW l:=by
 refine ⟨fun i hi => ?_,fun i hi=>h.next i hi (by omega)⟩;obtain ⟨h1,h2,h3,h4⟩:=h.each i hi (by omega);have h5:=qW hf _ (List.getElem_mem hi);have h6:=bE h1.1 h1.2;exact ⟨h1,⟨h2,by omega⟩,h3,h4⟩
def uv (n:Int) : Bool:=decide (n<0) || decide (256<n)
theorem C7 (x:Int) (w:World) : bo Tryz.prog 177 ([.int .i64 x]++[]) w fun v _=>v = .bool (uv x):=by
 refine aI Tryz.func177 rfl Tryz.ntmps177 rfl ?_;have hw:=Ext.refl w;have gG:x<0∨(0≤x∧(256<x∨x≤256)):=by omega
 rcases gG with d|⟨d1,d|d⟩
 repeat' (first|refine Wz ?_|fail);all_goals exact ae.aO rfl rfl ⟨_,rfl,hw,by unfold uv;simp;omega⟩
open Go.RowKit
def qX (z:ar) : Prop:=(-9223372036854775808≤z.aX∧z.aX≤9223372036854775807)∧(-9223372036854775808≤z.To∧z.To≤9223372036854775807)
def oG (h:Heap) : Prop:=h.aQ.length=2∧h.bJ.length=2∧1≤h.bY∧h.bY≤4
instance (h:Heap) : Decidable (oG h):=inferInstanceAs (Decidable (_∧_))
theorem bD.IW {h:Heap} (a:bD h) : oG h:=by
 obtain ⟨z0,z1,e,_⟩:=a.cQ;obtain ⟨m0,m1,e',_⟩:=a.ck;exact ⟨by rw [e];rfl,by rw [e'];rfl,a.dY⟩
structure rU (h:Heap) (z0 z1:ar) : Prop where
 one:bU z0
 two:bU z1
 from_:z0.aX=0
 Ao:z0.To=z1.aX
 j6:z1.To=256
 ck:h.bJ.any uv=false
theorem bD.front {h:Heap} {z0 z1:ar} (a:bD h) (e:h.aQ=[z0,z1]) : rU h z0 z1:=by
 obtain ⟨y0,y1,e',a1,a2,a3,a4,a5,_⟩:=a.cQ;rw [e] at e';simp only [List.cons.injEq,and_true] at e';obtain ⟨rfl,rfl⟩:=e';obtain ⟨m0,m1,e',b1,b2⟩:=a.ck;exact ⟨a1,a2,a3,a4,a5,by rw [e'];simp [uv];omega⟩
def ke (h:Heap) (z0 z1:ar) : Option (List Block):=bi (some []) (z0.ag++z1.ag)
theorem bD.rest {h:Heap} {z0 z1:ar} (a:bD h) (e:h.aQ=[z0,z1]) : kG h.bY z0.To h.av∧mW h.Live∧(bi (bi (ke h z0 z1) (aT h.av)) h.Live).isSome=true:=by
 obtain ⟨y0,y1,e',a1,a2,a3,a4,a5,a6,a7⟩:=a.cQ;rw [e] at e';simp only [List.cons.injEq,and_true] at e';obtain ⟨rfl,rfl⟩:=e';refine ⟨a6,a.live,?_⟩;rw [bt,bt] at a7;exact a7
theorem bD.of {h:Heap} {z0 z1:ar} (e:h.aQ=[z0,z1]) (hd:oG h) (hf:rU h z0 z1) (h1:kG h.bY z0.To h.av) (h2:mW h.Live) (h3:(bi (bi (ke h z0 z1) (aT h.av)) h.Live).isSome=true) : bD h:=by
 refine ⟨⟨z0,z1,e,hf.one,hf.two,hf.from_,hf.Ao,hf.j6,h1,?_⟩,?_,hd.2.2,h2⟩
 ·rw [bt,bt];exact h3
 ·obtain ⟨m0,m1,em⟩:=qt hd.2.1;have:=hf.ck
  rw [em] at this;simp [uv] at this;exact ⟨m0,m1,em,by omega,by omega⟩
set_option maxHeartbeats 8000000 in
theorem sY (r:eB) (h:Heap) (w:World) (hr:wI w r h) (hs:h.small) (C8:∀ z∈h.aQ,qX z) :
 bo Tryz.prog 88 [.agg (bm r).toArray] w fun v _=>v = .int .i64 (if iN h then 0 else 8):=by
 refine aI Tryz.func88 rfl Tryz.ntmps88 rfl ?_;refine CW.seq (CW.region (SW.box rfl rfl fun b1 w1 hw gV aB => ?_));have CS:=hr.dY;have Ka:=hr.ck.len;obtain ⟨K9,uw⟩:=hr.cQ;obtain ⟨G3,AW⟩:=uw.len;clear uw G3 K9;by_cases hd:oG h
 ·obtain ⟨d1,d2,d3⟩:=id hd;obtain ⟨r0,r1,z0,z1,jl⟩:=hr.two d1;have l8:=jl.eq;have hA:=jl.row.base;have FN:=C8 z0 (by rw [l8];simp);have px:=C8 z1 (by rw [l8];simp);have s0:=hs.free z0 (by rw [l8];simp);have s1:=hs.free z1 (by rw [l8];simp);have NQ:=jl.z0.from_;have NR:=jl.z0.j6;have NS:=jl.z1.from_;have NT:=jl.z1.j6;have l0:=jl.z0.free.len;have l1:=jl.z1.free.len;have t0:=jl.z0.types.len;have t1:=jl.z1.types.len;unfold qX at FN px;obtain ⟨q0,G4⟩ : ∃ q,ed z0=q:=⟨_,rfl⟩;obtain ⟨q1,qY⟩ : ∃ q,ed z1=q:=⟨_,rfl⟩
  have c0:∀ w',Ext w w'→bo Tryz.prog 176 [.agg (bp r0).toArray] w' fun v _=>v = .int .i64 (if q0 then 0 else 8):=fun w' hx=>by
   have:=j8 r0 z0 w' (jl.z0.ext hx) (by omega) (by omega) (by omega) (by omega)
   rwa [G4] at this
  have c1:∀ w',Ext w w'→bo Tryz.prog 176 [.agg (bp r1).toArray] w' fun v _=>v = .int .i64 (if q1 then 0 else 8):=fun w' hx=>by
   have:=j8 r1 z1 w' (jl.z1.ext hx) (by omega) (by omega) (by omega) (by omega)
   rwa [qY] at this
  have La:(q0=true∧q1=true)∨(q0=false)∨(q0=true∧q1=false):=by cases q0<;>cases q1<;>simp
  rcases La with ⟨rfl,rfl⟩|rfl|⟨rfl,rfl⟩
  all_goals simp only [if_true,Bool.false_eq_true,if_false] at c0 c1
  repeat' (first|refine Wz ?_|refine SW.st (bc (0) rfl rfl (by assumption) (by omega) (by omega)) rfl ?_|refine SW.st (bc (1) rfl rfl (by assumption) (by omega) (by omega)) rfl ?_|refine SW.st (aH hw rfl rfl ((jl.c0))) rfl ?_|refine SW.st (aH hw rfl rfl ((jl.c1))) rfl ?_|((first|refine SW.call rfl rfl (c0 _ hw) ?_|refine SW.call rfl rfl (c1 _ hw) ?_);intro v w1 ab hv;subst hv;replace hw:=Ext.trans hw ab;replace aB:=aB.ext ab;clear ab))
  rotate_left
  ·exact ae.aO rfl rfl ⟨_,rfl,hw,by rw [dM (fun hh=>by have:=dH.2 (hh.front l8).one;rw [G4] at this;cases this)];rfl⟩
  ·exact ae.aO rfl rfl ⟨_,rfl,hw,by rw [dM (fun hh=>by have:=dH.2 (hh.front l8).two;rw [qY] at this;cases this)];rfl⟩
  clear c0 c1;have sZ:=dH.1 G4;have Cc:=dH.1 qY
  have cO:∀ w',Ext w w'→bo Tryz.prog 96 [.slice r.bJ.A r.bJ.n r.bJ.c,.func (.func 177) #[] ([] : List Value).toArray] w' fun v _=>v = .bool (h.bJ.any uv):=fun w' h =>
   gu _ _ _ _ _ (hr.ck.ext h) _ [] uv (fun x => .int .i64 x) (fun x=>rfl) (fun x _ w1 _=>C7 x w1) (by omega)
  obtain ⟨qm,Lb⟩ : ∃ q,h.bJ.any uv=q:=⟨_,rfl⟩;rw [Lb] at cO;have gG:(r0.aX=0∧r0.To=r1.aX∧r1.To=256∧qm=false)∨r0.aX≠0∨(r0.aX=0∧r0.To≠r1.aX)∨(r0.aX=0∧r0.To=r1.aX∧r1.To≠256)∨(r0.aX=0∧r0.To=r1.aX∧r1.To=256∧qm=true):=by cases qm<;>simp<;>omega
  rcases gG with ⟨d1,d2,d3,rfl⟩|d|⟨d1,d⟩|⟨d1,d2,d⟩|⟨d1,d2,d3,rfl⟩
  repeat' (first|refine Wz ?_|((apply CW.aP mixed;(· kernel_rfl);rotate_left;intro w1 ab;replace hw:=Ext.trans hw ab;replace aB:=aB.ext ab;clear ab;rotate_right))|refine SW.st (bc (0) rfl rfl (by assumption) (by omega) (by omega)) rfl ?_|refine SW.st (bc (1) rfl rfl (by assumption) (by omega) (by omega)) rfl ?_|refine SW.st (ap hw rfl (jl.c0 0 _ rfl)) rfl ?_|refine SW.st (ap hw rfl (jl.c0 1 _ rfl)) rfl ?_|refine SW.st (ap hw rfl (jl.c1 0 _ rfl)) rfl ?_|refine SW.st (ap hw rfl (jl.c1 1 _ rfl)) rfl ?_|refine SW.br rfl rfl (fun w1 ab=>(cO _ (Ext.trans hw ab))) ?_|exact SW.bx rfl)
  rotate_left
  iterate 3 exact ae.aO rfl rfl ⟨_,rfl,hw,by rw [dM (fun hh=>by have:=hh.front l8;have:=this.from_;have:=(hh.front l8).Ao;have:=(hh.front l8).j6;omega)];rfl⟩
  ·exact ae.aO rfl rfl ⟨_,rfl,hw,by rw [dM (fun hh=>by have:=(hh.front l8).ck;rw [Lb] at this;cases this)];rfl⟩
  have C9:rU h z0 z1:=⟨sZ,Cc,by omega,by omega,by omega,Lb⟩
  clear cO;have hn:=jl.n
  have fH:∀ z∈h.aQ,∀ b∈z.ag,0≤b.Order∧b.Order≤4:=fun z hz b hb=>by
   obtain ⟨i,hi,rfl⟩:=List.getElem_of_mem hb;rw [l8] at hz;simp only [List.mem_cons,List.not_mem_nil,or_false] at hz;rcases hz with rfl|rfl
   ·exact ⟨(sZ.c8 i hi).1.1,(sZ.c8 i hi).1.2.1⟩
   ·exact ⟨(Cc.c8 i hi).1.1,(Cc.c8 i hi).1.2.1⟩
  have Mx:∀ k,mU (bi (some []) ((h.aQ.take k).flatMap ar.ag)):=fun k=>ie uP fun x hx=>by
   obtain ⟨z,hz,hx⟩:=List.mem_flatMap.1 hx;have:=fH z (List.mem_of_mem_take hz) x hx
   exact (bE this.1 this.2).1
  refine SW.box rfl rfl fun b3 w2 cq bH aq => ?_
  have cw:w.heap.size≤b3:=Nat.le_trans hw.size bH
  have hM:Marks w2 b3 256 (some []):=by
   refine Eq.mp (congrArg (fun c=>aJ w2 b3 224 c) ?_) aq;kernel_rfl
  clear aq;(replace hw:=Ext.trans hw cq;replace aB:=aB.ext cq);repeat' (first|refine Wz ?_|fail)
  refine CW.loop (fun k:Nat=>[(1,.pointer (some ⟨b1,0,none⟩)),(3,.pointer (some ⟨b3,0,none⟩)),(81,.slice r.aQ.A r.aQ.n r.aQ.c),(82,.int .i64 (r.aQ.n:Int)),(83,.int .i64 (k:Int))])
   (fun k w'=>k≤2∧Ext w w'∧aJ w' b1 41 (bm r)∧Marks w' b3 256 (bi (some []) ((h.aQ.take k).flatMap ar.ag))) (fun k=>2-k) 0
   ⟨rfl,rfl,rfl,rfl,rfl,trivial⟩ ⟨by omega,hw,aB,hM⟩ ?_
  clear hw aB hM cq;rintro k w' ⟨hk,hw,aB,hM⟩
  by_cases Da:k<2
  ·have Kb:k<h.aQ.length:=by omega
   have dw:=jl.row.all (i:=k) (by omega)
   have Db:uj w ([r0,r1][k]'(by simpa using Da)) h.aQ[k]:=by
    simp only [l8];have:k=0∨k=1:=by omega
    rcases this with rfl|rfl
    ·exact jl.z0
    ·exact jl.z1
   generalize NU:([r0,r1][k]'(by simpa using Da))=rk at dw Db
   have pa:=fH h.aQ[k] (List.getElem_mem _);have FL:=hs.free h.aQ[k] (List.getElem_mem _)
   have Ch:(h.aQ.take (k+1)).flatMap ar.ag=(h.aQ.take k).flatMap ar.ag++h.aQ[k].ag:=by
    rw [List.take_succ_eq_append_getElem Kb,List.flatMap_append];simp
   generalize h.aQ[k]=zk at Db pa FL Ch
   have NV:=Db.free.base;have uq:=Db.free.len;repeat' (first|refine Wz ?_|refine SW.st (aH hw rfl rfl ((dw))) rfl ?_)
   refine SW.alloc rfl fun b5 w1 ab il cd => ?_
   skip;refine SW.ak cd rfl rfl rfl rfl (cJ _) fun w2 fX hg => ?_
   have aj:=ab.own il hg;have nS:w.heap.size≤b5:=Nat.le_trans hw.size il
   replace hw:=Ext.trans hw aj;replace aB:=aB.ext aj;replace hM:=hM.ext aj;replace cd:=fX;clear fX ab hg aj;repeat' (first|refine Wz ?_|fail)
   refine CW.loop (fun j:Nat=>[(1,.pointer (some ⟨b1,0,none⟩)),(3,.pointer (some ⟨b3,0,none⟩)),(81,.slice r.aQ.A r.aQ.n r.aQ.c),(82,.int .i64 (r.aQ.n:Int)),(83,.int .i64 (k:Int)),(88,.slice rk.ag.A rk.ag.n rk.ag.c),(89,.int .i64 (rk.ag.n:Int)),(90,.int .i64 (j:Int))])
    (fun j w'=>j≤rk.ag.n∧Ext w w'∧aJ w' b1 41 (bm r)∧Marks w' b3 256 (bi (bi (some []) ((h.aQ.take k).flatMap ar.ag)) (zk.ag.take j))) (fun j=>rk.ag.n-j) 0
    ⟨rfl,rfl,rfl,rfl,rfl,rfl,rfl,rfl,trivial⟩ ⟨by omega,hw,aB,hM⟩ ?_
   clear hw aB hM cd il nS;rintro j w' ⟨hj,hw,aB,hM⟩
   by_cases je:j<rk.ag.n
   ·have kV:j<zk.ag.length:=by omega
    obtain ⟨o1,o2⟩:=pa zk.ag[j] (List.getElem_mem _);have hp:=bE o1 o2;repeat' (first|refine Wz ?_|refine SW.st (aH hw rfl rfl ((Db.free.all je))) rfl ?_)
    refine SW.alloc rfl fun b7 w1 ab lm jY => ?_
    skip;refine SW.ak jY rfl rfl rfl rfl (fw.one (enc:=aA) _) fun w2 dJ hg => ?_
    have aj:=ab.own lm hg;have rr:w.heap.size≤b7:=Nat.le_trans hw.size lm
    replace hw:=Ext.trans hw aj;replace aB:=aB.ext aj;replace hM:=hM.ext aj;replace jY:=dJ;clear dJ ab hg aj;repeat' (first|refine Wz ?_|fail);refine CW.any 6 mixed (cj (by kernel_rfl)) rfl fun w1 ab aG => ?_
    replace hw:=Ext.trans hw ab;replace aB:=aB.ext ab;replace hM:=hM.ext ab;replace jY:=jY.ext ab;clear ab;refine Wa ?_;refine SA.take 5 aG rfl (by kernel_rfl) (by kernel_rfl) rfl ?_;repeat ((refine SW.st (eW (r:=pw zk.ag[j].Order) rfl rfl (by omega) (by omega) (by simp [pw]) (by omega) (by omega)) rfl ?_))
    refine SW.ah ?_;refine SA.done (by kernel_rfl) ?_;refine SW.da rfl rfl (qq b3 _ zk.ag[j] 256 rfl _ hM (ie (Mx k) fun x hx=>by have:=pa x (List.mem_of_mem_take hx);exact (bE this.1 this.2).1) ⟨by omega,by omega⟩) fun v w5 hv => ?_
    obtain ⟨yY,yA⟩:=hv;have hG:=hM.gr yA;replace hw:=hw.own cw yA;(replace aB:=aB.ay hG rfl);rw [← qP _ _ _ kV] at yY;repeat' (first|refine Wz ?_|fail);exact ae.again (j+1) ⟨rfl,rfl,rfl,rfl,rfl,rfl,rfl,rfl,trivial⟩ (by omega) ⟨by omega,hw,aB,yY⟩
   ·obtain rfl:j=rk.ag.n:=by omega
    rw [List.take_of_length_le (l:=zk.ag) (by omega),← bt,← Ch] at hM;repeat' (first|refine Wz ?_|fail);exact ae.again (k+1) ⟨rfl,rfl,rfl,rfl,rfl,trivial⟩ (by omega) ⟨by omega,hw,aB,hM⟩
  ·obtain rfl:k=2:=by omega
   have Lc:=Mx 2;have NW:bi (some []) ((h.aQ.take 2).flatMap ar.ag)=ke h z0 z1:=by rw [l8];simp [ke]
   rw [NW] at hM Lc;repeat' (first|refine Wz ?_|fail);obtain ⟨ls,H7⟩:=hr.lists;have mn:=H7.len.2;have El:=hs.lists;clear H7 ls;refine SW.da rfl rfl (Bg r h r0 r1 z0 z1 b3 256 rfl (ke h z0 z1) w _ hw cw jl hM Lc (by omega)) fun v w5 hv => ?_
   obtain ⟨iV,yA,s8⟩:=hv;have hG:=hM.gr yA;replace hw:=iV;(replace aB:=aB.ay hG rfl);clear hM iV yA hG;rcases s8 with ⟨rfl,hL,hM⟩|⟨rfl,lf⟩
   rotate_left
   ·repeat' (first|refine Wz ?_|(refine CW.bO rfl ?_))
    exact ae.aO rfl rfl ⟨_,rfl,hw,by rw [dM (fun hh=>lf ⟨(hh.rest l8).1,fa (m:=h.Live) (by rw [bt];exact (hh.rest l8).2.2)⟩)];rfl⟩
   have My:mU (bi (ke h z0 z1) (aT h.av)):=ie Lc fun x hx=>by
    unfold aT at hx;obtain ⟨y,_,hy⟩:=List.mem_flatMap.1 hx;obtain ⟨p,_,rfl⟩:=List.mem_map.1 hy;simp [db,jQ]
   have FO:bD h→(bi (bi (ke h z0 z1) (aT h.av)) h.Live).isSome=true:=fun hh=>(hh.rest l8).2.2
   have Mz:mW h.Live→(bi (bi (ke h z0 z1) (aT h.av)) h.Live).isSome=true→bD h:=fun a b=>bD.of l8 hd C9 hL a b
   generalize bi (ke h z0 z1) (aT h.av)=S at hM My FO Mz
   have FP:=hr.live;have GV:=hr.live.len;have NX:=hr.live.base;have NY:=hs.live;repeat' (first|refine Wz ?_|fail)
   refine CW.loop (fun k:Nat=>[(1,.pointer (some ⟨b1,0,none⟩)),(3,.pointer (some ⟨b3,0,none⟩)),(108,.slice r.Live.A r.Live.n r.Live.c),(109,.int .i64 (r.Live.n:Int)),(110,.int .i64 (k:Int))])
    (fun k w'=>k≤r.Live.n∧Ext w w'∧aJ w' b1 41 (bm r)∧Marks w' b3 256 (bi S (h.Live.take k))∧sX h.Live k) (fun k=>r.Live.n-k) 0
    ⟨rfl,rfl,rfl,rfl,rfl,trivial⟩ ⟨by omega,hw,aB,hM,.nil _⟩ ?_
   clear hw aB hM;rintro k w' ⟨hk,hw,aB,hM,hP⟩
   by_cases cb:k<r.Live.n
   ·have dk:k<h.Live.length:=by omega
    have EX:k-1<r.Live.n:=by omega
    have rC:bD h→sy h.Live[k]∧(0<k→(h.Live[k-1]'(by omega)).At<h.Live[k].At):=fun hh=>⟨hh.live.each k dk,fun h0=>by
     have:=hh.live.next (k-1) (by omega)
     simpa only [show k-1+1=k by omega] using this⟩
    have uZ:=FP.dA EX (j:=0) rfl;repeat' (first|refine Wz ?_|refine SW.st (aH hw rfl rfl ((FP.all cb))) rfl ?_)
    refine SW.alloc rfl fun b9 w1 ab ox bk => ?_
    repeat' (first|refine Wz ?_|fail);refine SW.ak bk rfl rfl rfl rfl (fw.one (enc:=aA) _) fun w2 gi hg => ?_
    have aj:=ab.own ox hg;have ry:w.heap.size≤b9:=Nat.le_trans hw.size ox
    replace hw:=Ext.trans hw aj;replace aB:=aB.ext aj;replace hM:=hM.ext aj;replace bk:=gi;clear gi ab hg aj;repeat' (first|refine Wz ?_|fail);have Bi:uY h.Live[k]→(0<k→(h.Live[k-1]'(by omega)).At<h.Live[k].At)→sX h.Live (k+1):=fun a b=>hP.snoc dk a fun h0=>b h0
    have Ch:=qP S h.Live k dk;generalize Ld:h.Live[k]=bb at bk rC Bi Ch
    generalize Kz:(h.Live[k-1]'(by omega)).At=pv at rC Bi uZ
    simp only [uY,sy,fp] at rC Bi
    have hp:bb.Order<0∨4<bb.Order∨(1≤pw bb.Order∧pw bb.Order≤16):=by
     by_cases h1 : 0≤bb.Order
     ·by_cases h2:bb.Order≤4
      ·exact .inr (.inr (bE h1 h2))
      ·omega
     ·omega
    have em:bb.At<0∨bb.At.tmod (pw bb.Order)=bb.At % pw bb.Order:=by
     by_cases h1 : 0≤bb.At
     ·exact .inr (Int.tmod_eq_emod_of_nonneg h1)
     ·omega
    have gG:bb.Order<0∨(0≤bb.Order∧(4<bb.Order∨(bb.Order≤4∧(bb.At<0∨(0≤bb.At∧(bb.At.tmod (pw bb.Order)≠0∨(bb.At.tmod (pw bb.Order)=0∧(bb.Ty<0∨(0≤bb.Ty∧(3≤bb.Ty∨(bb.Ty<3∧((0<k∧bb.At≤pv)∨k=0∨(0<k∧pv<bb.At)))))))))))) ):=by omega
    rcases gG with d|⟨d1,d|⟨d2,d|⟨d3,d|⟨d4,d|⟨d5,d|⟨d6,⟨p7,d⟩|p7|⟨p7,d⟩⟩⟩⟩⟩⟩⟩
    all_goals (apply CW.aP mixed;(· kernel_rfl);rotate_left;intro w1 ab;replace hw:=Ext.trans hw ab;replace aB:=aB.ext ab;replace bk:=bk.ext ab;replace hM:=hM.ext ab;clear ab;rotate_right)
    repeat' (first|refine Wz ?_|refine SW.st (bc (k-1) rfl rfl (by assumption) (by omega) (by omega)) rfl ?_|refine SW.st (ap hw rfl uZ) rfl ?_|(refine SW.st (eW (r:=pw bb.Order) rfl rfl (by omega) (by omega) (by simp [pw]) (by omega) (by omega)) rfl ?_)|exact SW.bx rfl)
    iterate 7 exact ae.aO rfl rfl ⟨_,rfl,hw,by rw [dM (fun hh=>by have:=rC hh;omega)];rfl⟩
    all_goals
     replace Bi:=Bi ⟨⟨d1,d2⟩,d3,by omega,by omega⟩ (fun h0=>by omega);refine CW.any 6 mixed (cj (by kernel_rfl)) rfl fun w1 ab aG => ?_
     replace hw:=Ext.trans hw ab;replace aB:=aB.ext ab;replace hM:=hM.ext ab;replace bk:=bk.ext ab;clear ab;refine Wa ?_;refine SA.take 5 aG rfl (by kernel_rfl) (by kernel_rfl) rfl ?_;repeat ((refine SW.st (eW (r:=pw bb.Order) rfl rfl (by omega) (by omega) (by simp [pw]) (by omega) (by omega)) rfl ?_))
     refine SW.ah ?_;refine SA.done (by kernel_rfl) ?_
     refine SW.da rfl rfl (qq b3 _ bb 256 rfl _ hM (ie My fun x hx=>by
      obtain ⟨i,hi,rfl⟩:=List.getElem_of_mem hx;rw [List.getElem_take];have:=(hP.each i (by simp at hi;omega) (by simp at hi;omega)).1
      exact (bE this.1 this.2).1) ⟨by omega,by omega⟩) fun v w5 hv => ?_
     obtain ⟨yY,yA⟩:=hv;have hG:=hM.gr yA;replace hw:=hw.own cw yA;(replace aB:=aB.ay hG rfl);rw [← Ch] at yY;repeat' (first|refine Wz ?_|fail);exact ae.again (k+1) ⟨rfl,rfl,rfl,rfl,rfl,trivial⟩ (by omega) ⟨by omega,hw,aB,yY,Bi⟩
   ·obtain rfl:k=r.Live.n:=by omega
    rw [List.take_of_length_le (by omega)] at hM;have nP:=hM.bad rfl;cases hS:bi S h.Live with
    | none =>
      rw [hS] at nP;repeat' (first|refine Wz ?_|(refine CW.bO rfl ?_)|refine SW.st (ao rfl nP) rfl ?_)
      exact ae.aO rfl rfl ⟨_,rfl,hw,by rw [dM (fun hh=>by have:=FO hh;rw [hS] at this;cases this)];rfl⟩
    | some bs =>
      rw [hS] at nP;repeat' (first|refine Wz ?_|(refine CW.bB rfl ?_)|refine SW.st (ao rfl nP) rfl ?_)
      exact ae.aO rfl rfl ⟨_,rfl,hw,by rw [ph (Mz (hP.ok (s:=S) (by omega) (by rw [hS];rfl)) (by rw [hS];rfl))];rfl⟩
 ·rw [dM (fun hh=>hd hh.IW)];have gG:r.aQ.n≠2∨(r.aQ.n=2∧(r.bJ.n≠2∨(r.bJ.n=2∧(r.bY<1∨(1≤r.bY∧4<r.bY))))):=by unfold oG at hd;omega
  rcases gG with d|⟨d1,d|⟨d2,d|⟨d3,d⟩⟩⟩
  repeat' (first|refine Wz ?_|fail);all_goals exact ae.aO rfl rfl ⟨_,rfl,hw,rfl⟩
open Go.RowKit
theorem u6 {α:Type} {p q : α → Bool}:∀ {l:List α},(∀ x∈l,p x=true→q x=true)→(∃ x∈l,p x=false∧q x=true)→l.countP p<l.countP q
 | [],_,h=>by obtain ⟨x,hx,_⟩:=h;simp at hx
 | a::l,h1,h2=>by
   rw [List.countP_cons,List.countP_cons];have hle:l.countP p≤l.countP q:=List.countP_mono_left (fun x hx=>h1 x (by simp [hx]))
   obtain ⟨x,hx,hp,hq⟩:=h2;rcases List.mem_cons.1 hx with rfl|hx
   ·simp [hp,hq];omega
   ·have ih:=u6 (l:=l) (fun y hy=>h1 y (by simp [hy])) ⟨x,hx,hp,hq⟩;have:=h1 a (by simp)
    cases NZ:p a<;>cases N0:q a<;>simp [NZ,N0] at this ⊢<;>omega
theorem s9:∀ {l:List Block} {cs bs:List Block},(∀ b∈l,1≤pw b.Order)→bi (some cs) l=some bs→cs.length≤(List.range 256).countP (dP cs)→(∀ x∈cs,0≤x.At∧1≤pw x.Order)→bs.length≤(List.range 256).countP (dP bs)
 | [],cs,bs,_,h,hc,_=>by injection h with h;subst h;exact hc
 | b::l,cs,bs,hp,h,hc,hg=>by
   have h':bi (jP (some cs) b) l=some bs:=h
   cases e:jP (some cs) b with
   | none=>rw [e,fg] at h';cases h'
   | some ds =>
     rw [e] at h';obtain ⟨cs',e1,hf,rfl⟩:=lq e;injection e1 with e1
     subst e1;have h1:=hp b (by simp);have jh:=(rR hg h1).2 hf;refine s9 (fun x hx=>hp x (by simp [hx])) h' ?_ (fun x hx => ?_)
     ·have:=u6 (p:=dP cs) (q:=dP (cs++[b])) (l:=List.range 256) (fun x _ hx=>by simp only [dP,List.any_append,Bool.or_eq_true] at hx ⊢;exact .inl hx)
       ⟨b.At.toNat,by simp;have:=hf.1;have:=hf.2.1;omega,jh.2.2.2 _ (by have:=hf.1;omega) (by have:=hf.1;omega),by
        simp only [dP,List.any_append,Bool.or_eq_true];right;have:=hf.1
        simp [qe];omega⟩
      simp;omega
     ·rcases List.mem_append.1 hx with hx|hx
      ·exact hg x hx
      ·simp at hx;subst hx;exact ⟨hf.1,h1⟩
theorem ta {l bs:List Block} (hp:∀ b∈l,1≤pw b.Order) (h:bi (some []) l=some bs) : bs.length≤256:=by
 have:=s9 hp h (by simp) (fun x hx=>by simp at hx)
 have h2:(List.range 256).countP (dP bs)≤(List.range 256).length:=List.countP_le_length
 simp at h2;omega
section
variable {P:Program} {n:Nat} {ops:Array Oper} {Q:Exit→Act→World→Prop} {rest:List Oper} {L:Env} {w:World}
theorem SW.yZ {d:Nat} {fo:Operand} {f:FuncId} {cap:List Value} {xs:List Operand} {vs:List Value} {ts:Array TypeId} {T:TypeId} {pos:String} {af:Array Edge} {R:Value→World→Prop}
 [Body P f] (hf:bR L fo=some (.func (.func f) #[] cap.toArray)) (hx:pS L xs=some vs) (hn:Nat.blt d n=true) (hc:gX P f (vs++cap) w R) (h:∀ v w',R v w'→SW P n ops (.ff Q) rest ((d,v)::L) w') :
 SW P n ops (.ff Q) (⟨some d,.call ⟨.value fo,xs.toArray,ts⟩,T,pos,af,none⟩::rest) L w :=
 ⟨fun a ha=>by
  simp only [swp,wpList,Region.wanted,if_true];refine .inl ?_;unfold Oper.wp;rw [pU (ha.eval hf),Oper.upon_enter,ha.oV hx];refine Calls.mono hc.out ?_;rintro e w' ⟨v,rfl,hv⟩
  exact (h v w' hv).out _ (ha.put hn v)⟩
end
structure Kp (w w':World) : Prop where
 k:∀ (g:Nat) (t:TypeId) (cs:List Value),aJ w g t cs→Nat.beq 165 t=false→Nat.beq 39 t=false→aJ w' g t cs
theorem Kp.refl (w:World) : Kp w w:=⟨fun _ _ _ h _ _=>h⟩
theorem Kp.ext {w w1 w2:World} (h:Kp w w1) (hx:Ext w1 w2) : Kp w w2:=⟨fun g t cs hb h1 h2=>(h.k g t cs hb h1 h2).ext hx⟩
theorem Kp.N1 {w w1 w2:World} (h:Kp w w1) (hG:oa w1 w2 165) : Kp w w2:=⟨fun g t cs hb h1 h2=>(h.k g t cs hb h1 h2).ay hG h1⟩
theorem Kp.H9 {w w1 w2:World} (h:Kp w w1) (hG:oa w1 w2 39) : Kp w w2:=⟨fun g t cs hb h1 h2=>(h.k g t cs hb h1 h2).ay hG h2⟩
structure rD (w:World) (lo b:Nat) (l:List Block) : Prop where
 ex:∃ A c,aJ w b 39 [.slice A l.length c]∧Own w lo 165 3 aA A l.length c l
theorem rD.ext {w w':World} {lo b:Nat} {l:List Block} (h:rD w lo b l) (hx:Ext w w') : rD w' lo b l:=by
 obtain ⟨A,c,h1,h2⟩:=h.ex;exact ⟨A,c,h1.ext hx,h2.ext hx⟩
theorem FQ (b:Nat) : (⟨b,0,none⟩ : Addr).add 0=⟨b,0,none⟩:=by unfold Addr.add;simp
theorem aJ.cell0 {w:World} {b:Nat} {t:TypeId} {cs:List Value} (h:aJ w b t cs) {v:Value} (hv:cs[0]?=some v) : w.cell? ⟨b,0,none⟩=some v:=by
 rw [← FQ];exact h.cell hv
def G5 (w wE:World) (b:Nat) (l:List Block) (x:Block) (v:Value) (w':World) : Prop:=Ext w w'∧Kp wE w'∧((v = .bool true∧lp l x∧rD w' w.heap.size b (l++[x]))∨(v = .bool false ∧ ¬ lp l x∧rD w' w.heap.size b l))
set_option maxHeartbeats 4000000 in
theorem tc (b:Nat) (l:List Block) (x:Block) (w wE:World) (hw:Ext w wE) (Ek:w.heap.size≤b) (hS:rD wE w.heap.size b l) (fP:∀ y∈l,dE 0 256 y) (hlen:l.length≤256) (hx:dE 0 256 x) :
 gX Tryz.prog 196 [.agg (aA x).toArray,.pointer (some ⟨b,0,none⟩)] wE (G5 w wE b l x):=by
 refine dB Tryz.func196 rfl Tryz.ntmps196 rfl ?_;have hK:=Kp.refl wE;obtain ⟨A,c,hB,hO⟩:=hS.ex;clear hS;obtain ⟨⟨o1,o2,a1,a2,a3⟩,ty⟩:=id hx;have hp:=bE o1 o2;refine CW.seq (CW.region (SW.box rfl rfl fun b2 w2 cq g7 aL => ?_));(replace hw:=Ext.trans hw cq;replace hB:=hB.ext cq;replace hO:=hO.ext cq;replace hK:=hK.ext cq);have N2:=hB.cell0 rfl
 have cO:∀ w',Ext w w'→Sl w' 3 aA A l.length l→bo Tryz.prog 197 [.slice A l.length c,.int .i64 x.At,.int .i64 x.Order] w' fun v _=>v = .bool (e8 l x.At x.Order):=fun w' _ h =>
  pb _ _ _ _ 0 256 _ _ _ h fP (by omega) (by omega) (by omega) ⟨by omega,by omega⟩ ⟨o1,o2⟩
 obtain ⟨q,hq⟩ : ∃ q,e8 l x.At x.Order=q:=⟨_,rfl⟩;rw [hq] at cO;have gG:(q=true)∨(q=false∧256<x.At+pw x.Order)∨(q=false∧x.At+pw x.Order≤256):=by cases q<;>simp<;>omega
 rcases gG with rfl|⟨rfl,d⟩|⟨rfl,d⟩
 repeat' (first|refine Wz ?_|((apply CW.aP mixed;(· kernel_rfl);rotate_left;intro w1 ab;replace hw:=Ext.trans hw ab;replace hB:=hB.ext ab;replace hO:=hO.ext ab;replace aL:=aL.ext ab;replace hK:=hK.ext ab;clear ab;rotate_right))|refine SW.st (ao rfl N2) rfl ?_|refine SW.br rfl rfl (fun w1 ab=>(cO _ (Ext.trans hw ab) (hO.sl.ext ab))) ?_|refine SW.br rfl rfl (fun w1 ab=>(c9 _ (by omega) _)) ?_|exact SW.bx rfl)
 iterate 2 exact ae.aO rfl rfl ⟨_,rfl,hw,hK,.inr ⟨rfl,fun hf=>by have h1:=hf.2.1;have h2:=hf.2.2;simp [hq] at h2<;>omega,⟨A,c,hB,hO⟩⟩⟩
 have Kc:=hB.cell0 rfl;repeat' (first|refine Wz ?_|refine SW.st (ao rfl Kc) rfl ?_)
 refine SW.bK rfl rfl rfl rfl rfl fun b4 w4 aj bZ N3 => ?_
 (replace hw:=Ext.trans hw aj;replace hB:=hB.ext aj;replace hO:=hO.ext aj;replace hK:=hK.ext aj);refine SW.append hO (aJ.mo (enc:=aA) N3) hw.size rfl rfl rfl (by omega) (by omega) fun A2 c2 w5 gB hg => ?_
 have hG:=hO.gr hg;replace hw:=aF hw hg (Nat.le_refl _) hO.aM;replace hK:=hK.N1 hG;(replace hB:=hB.ay hG rfl);refine SW.bA (i:=0) hB (by rw [FQ];rfl) rfl rfl rfl fun w6 rq hg => ?_
 have hG:=hB.gr hg;replace hw:=hw.own Ek hg;replace hK:=hK.H9 hG;(replace gB:=gB.ay hG rfl);refine Wz ?_;exact ae.aO rfl rfl ⟨_,rfl,hw,hK,.inl ⟨rfl,⟨a1,d,hq⟩,⟨A2,c2,by simpa using rq,by simpa using gB⟩⟩⟩
theorem rV {l:List Block} (h:mW l) : l.Pairwise fun x y=>x.At<y.At:=by
 have key:∀ (d i:Nat) (hj:i+d+1<l.length),(l[i]'(by omega)).At<l[i+d+1].At:=by
  intro d;induction d with
  | zero=>intro i hj;exact h.next i hj
  | succ d ih=>intro i hj;exact Int.lt_trans (ih i (by omega)) (h.next (i+d+1) (by omega))
 rw [List.pairwise_iff_getElem];intro i j hi hj kW;have:=key (j-i-1) i (by omega)
 have e:i+(j-i-1)+1=j:=by omega
 simp only [e] at this;exact this
theorem py {l:List Block} {a:Int} (h:cc l a=true) : ∃ hk:bG l a<l.length,l[bG l a].At=a:=by
 unfold cc at h;split at h
 ·rename_i hk;exact ⟨hk,of_decide_eq_true h⟩
 ·cases h
theorem y6 {l:List Block} (hu:l.Pairwise fun x y=>x.At<y.At) {a:Int} {k:Nat} (hk:k<l.length) (h:l[k].At=a) : bG l a=k∧cc l a=true:=by
 rw [List.pairwise_iff_getElem] at hu;have e:bG l a=k:=z9 (by omega) (fun j hj lg=>by have:=hu j k hj hk lg;omega) (fun _=>by omega)
 refine ⟨e,?_⟩;unfold cc;simp only [e,dif_pos hk];exact decide_eq_true h
theorem y7 {l:List Block} {a:Int} (h:∀ (k:Nat) (hk:k<l.length),l[k].At≠a) : cc l a=false:=by
 unfold cc;split
 ·rename_i hk;exact decide_eq_false (h _ hk)
 ·rfl
structure mu (h:Heap) (z0 z1:ar) : Prop where
 d:lA h z0 z1
 y8:rT h.av
 live:mW h.Live
 lists:∀ l∈h.av,1≤l.ax.length∧l.ax.length≤8
 all:(bi (some []) (z0.ag++z1.ag++aT h.av++h.Live)).isSome=true
 dY : 1≤h.bY∧h.bY≤4
 count:h.av.length≤256
theorem Bj {l m:List Block} {a o:Int} (h:∀ x∈l,x∈m) (ho:e8 m a o=false) : e8 l a o=false:=by
 unfold e8 at *;rw [List.any_eq_false] at *;exact fun x hx=>ho x (h x hx)
theorem mu.next {h:Heap} {z0 z1:ar} (f:mu h z0 z1) {k:Nat} (hk:k<h.Live.length) : qS (z0.ag++z1.ag) h.Live[k]:=by
 have fP:=f.all;have e:z0.ag++z1.ag++aT h.av++h.Live=(z0.ag++z1.ag++aT h.av++h.Live.take k)++h.Live[k]::h.Live.drop (k+1):=by simp
 rw [e] at fP;have hf:=l6 fP;have hl:=f.live.each k hk;have hs:∀ x∈z0.ag++z1.ag,x∈z0.ag++z1.ag++aT h.av++h.Live.take k:=fun x hx=>List.mem_append_left _ (List.mem_append_left _ hx)
 obtain ⟨l1,l2,l3,l4⟩:=hl;refine ⟨l1,by omega,l3,⟨hf.1,hf.2.1,Bj hs hf.2.2⟩,fun x hx => ?_⟩;rcases List.mem_append.1 hx with hx|hx
 ·exact jZ f.d.nU x hx
 ·exact jZ f.d.mH x hx
theorem lC {h:Heap} (hm:bD h) : ∃ z0 z1,mu h z0 z1:=by
 obtain ⟨z0,z1,h1,h2,h3,h4,h5,h6,h7,h8⟩:=hm.cQ;have hd:lA h z0 z1:=⟨h1,h2,h3,h4,h5,h6,fa h8⟩
 have hl:∀ l∈h.av,1≤l.ax.length∧l.ax.length≤8:=fun l hl=>by
  obtain ⟨i,hi,rfl⟩:=List.getElem_of_mem hl;exact (h7.head i hi).2.2.2
 refine ⟨z0,z1,hd,vU h7,hm.live,hl,h8,hm.dY,?_⟩
 have key:∀ k,k≤h.av.length→k≤gC h.av k:=by
  intro k;induction k with
  | zero=>intro _;omega
  | succ k ih =>
    intro hk;have:=ih (by omega)
    have:=(hl _ (List.getElem_mem (show k<h.av.length by omega))).1
    rw [sU (show k<h.av.length by omega)];omega
 have hc:=key _ (Nat.le_refl _);rw [vT] at hc
 have hb:(aT h.av).length≤256:=by
  obtain ⟨bs,ua⟩:=Option.isSome_iff_exists.1 hd.all;have h9:=ta hd.pw ua;have e:=kJ ua;rw [List.nil_append] at e;subst e;simp only [List.length_append] at h9;omega
 omega
end Go.Proofs.YtbidkghlpijecaaGreatDoor
