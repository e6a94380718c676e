/-
  Texts of the claim TopProcessors, part 9: what its theorem leans on.
-/
import Derived.Test.YtbidkghlpijecaaGreatDoorPackTopProcessors8
import Derived.Test.YtbidkghlpijecaaGreatDoorPackTopProcessors6
import Derived.Test.YtbidkghlpijecaaGreatDoorPackTopProcessors5
import Derived.Test.YtbidkghlpijecaaGreatDoorPackTopProcessors2
set_option linter.unusedVariables false
set_option linter.unusedSimpArgs false
namespace Go.Proofs.YtbidkghlpijecaaGreatDoor
def fZ (a b:ay) : Prop:=a.fT=b.fT∧a.ao=b.ao∧a.Ty=b.Ty
instance (a b:ay) : Decidable (fZ a b):=inferInstanceAs (Decidable (_∧_))
def AP (L:List ay) : Prop:=L.Pairwise bZ
theorem tB {a b c:ay} (h1:bZ a b) (h2:bZ b c) : bZ a c:=by unfold bZ at *;omega
theorem xR (a b:ay) : bZ a b∨fZ a b∨bZ b a:=by unfold bZ fZ;omega
theorem Fa {a b:ay} (h:bZ a b) : ¬ fZ a b ∧ ¬ fZ b a ∧ ¬ bZ b a:=by unfold bZ fZ at *;omega
theorem zv {c t:Int} {L:List ay} (h:k9 c t L) : AP L:=by
 have key:∀ (d i:Nat) (hj:i+d+1<L.length),bZ (L[i]'(by omega)) L[i+d+1]:=by
  intro d;induction d with
  | zero=>intro i hj;exact h.next i hj
  | succ d ih=>intro i hj;exact tB (ih i (by omega)) (h.next (i+d+1) (by omega))
 unfold AP;rw [List.pairwise_iff_getElem];intro i j hi hj lz;have:=key (j-i-1) i (by omega)
 have e:i+(j-i-1)+1=j:=by omega
 simp only [e] at this;exact this
theorem AP.get {L:List ay} (h:AP L) {i j:Nat} (hj:j<L.length) (lz:i<j) : bZ (L[i]'(Nat.lt_trans lz hj)) L[j]:=by
 unfold AP at h;rw [List.pairwise_iff_getElem] at h;exact h i j (by omega) hj lz
def bg (L:List ay) (x:ay) : Nat:=L.findIdx fun l => !decide (bZ l x)
theorem lf (L:List ay) (x:ay) : bg L x≤L.length:=List.findIdx_le_length
theorem vJ {L:List ay} {x:ay} {k:Nat} (hk:k<bg L x) : bZ (L[k]'(Nat.lt_of_lt_of_le hk (lf L x))) x:=by
 have:=List.not_of_lt_findIdx hk
 simpa using this
theorem Jl {L:List ay} {x:ay} (h:bg L x<L.length) : ¬ bZ (L[bg L x]) x:=by
 have:=List.findIdx_getElem (w:=h)
 exact of_decide_eq_false (by rw [Bool.not_eq_true'] at this;exact this)
theorem sC {L:List ay} {x:ay} {i:Nat} (hi:i≤L.length) (h1:∀ (k:Nat) (h:k<L.length),k<i→bZ L[k] x) (h2:∀ h:i<L.length,¬ bZ L[i] x) : bg L x=i:=by
 unfold bg;by_cases h:i<L.length
 ·exact (List.findIdx_eq h).2 ⟨by simpa using h2 h,fun j hj=>by simpa using h1 j (by omega) hj⟩
 ·have e:i=L.length:=by omega
  subst e;rw [List.findIdx_eq_length];intro y hy;obtain ⟨k,hk,rfl⟩:=List.getElem_of_mem hy;simpa using h1 k hk hk
def cK (L:List ay) (x:ay) : Bool:=if h:bg L x<L.length then decide (fZ L[bg L x] x) else false
theorem iu {L:List ay} {x:ay} (h:cK L x=true) : ∃ hk:bg L x<L.length,fZ L[bg L x] x:=by
 unfold cK at h;split at h
 ·rename_i hk;exact ⟨hk,of_decide_eq_true h⟩
 ·cases h
theorem Jm {L:List ay} {x:ay} (h:cK L x=false) (hk:bg L x<L.length) : bZ x L[bg L x]:=by
 unfold cK at h;rw [dif_pos hk] at h;have h1:=of_decide_eq_false h;have h2:=Jl hk;rcases xR L[bg L x] x with e|e|e
 ·exact absurd e h2
 ·exact absurd e h1
 ·exact e
theorem iP {L:List ay} {x y:ay} (h:fZ x y) : bg L x=bg L y∧cK L x=cK L y:=by
 have e:(fun l => !decide (bZ l x))=(fun l:ay => !decide (bZ l y)):=by
  funext l
  have:bZ l x↔bZ l y:=by unfold bZ fZ at *;omega
  simp [this]
 have e1:bg L x=bg L y:=by unfold bg;rw [e]
 refine ⟨e1,?_⟩;unfold cK;simp only [e1];split
 ·have:fZ L[bg L y] x↔fZ L[bg L y] y:=by unfold fZ at *;omega
  simp [this]
 ·rfl
def fQ (L:List ay) (x:ay) : List ay:=if cK L x then L.set (bg L x) x else aN L (bg L x) x
theorem oM {L:List ay} {x:ay} (h:cK L x=true) : fQ L x=L.set (bg L x) x:=by rw [fQ,if_pos h]
theorem oN {L:List ay} {x:ay} (h:cK L x=false) : fQ L x=aN L (bg L x) x:=by rw [fQ,if_neg (by simp [h])]
def cd (L:List ay) (x:ay) : List Int:=if cK L x then (L.getD (bg L x) x).av else []
theorem fM {L:List ay} {x:ay} (h:cK L x=true) (hk:bg L x<L.length) : cd L x=L[bg L x].av:=by
 rw [cd,if_pos h,List.getD_eq_getElem?_getD,List.getElem?_eq_getElem hk];rfl
theorem ln {L:List ay} {x:ay} (h:cK L x=false) : cd L x=[]:=by rw [cd,if_neg (by simp [h])]
theorem cf {α:Type} (l:List α) {i:Nat} (h:i≤l.length) (x : α) : (aN l i x).length=l.length+1:=by simp [aN];omega
theorem rn {α:Type} {l:List α} {i:Nat} (h:i≤l.length) {x : α} {k:Nat} (hk:k<i) : (aN l i x)[k]?=l[k]?:=by
 unfold aN;rw [List.append_assoc,List.getElem?_append_left (by simp;omega),List.getElem?_take_of_lt hk]
theorem jN {α:Type} {l:List α} {i:Nat} (h:i≤l.length) {x : α}:(aN l i x)[i]?=some x:=by
 unfold aN;rw [List.append_assoc,List.getElem?_append_right (by simp;omega)];have:i-(l.take i).length=0:=by simp;omega
 rw [this];rfl
theorem vK {α:Type} {l:List α} {i:Nat} (h:i≤l.length) {x : α} {k:Nat} (hk:i≤k) : (aN l i x)[k+1]?=l[k]?:=by
 unfold aN;rw [List.append_assoc,List.getElem?_append_right (by simp;omega)];have:k+1-(l.take i).length=(k-i)+1:=by simp;omega
 rw [this,List.singleton_append,List.getElem?_cons_succ,List.getElem?_drop];congr 1
 omega
theorem sD {α:Type} {l:List α} {i:Nat} (h:i≤l.length) (x y : α) : (aN l i x).set i y=aN l i y:=by
 unfold aN;rw [List.append_assoc,List.append_assoc,List.set_append_right _ _ (by simp;omega)];have:i-(l.take i).length=0:=by simp;omega
 rw [this];rfl
theorem vL {L:List ay} {x:ay}:(fQ L x)[bg L x]?=some x:=by
 cases h:cK L x
 ·rw [oN h];exact jN (lf L x)
 ·obtain ⟨hk,_⟩:=iu h;rw [oM h,List.getElem?_set_self hk]
theorem AQ {L:List ay} {x:ay}:bg (fQ L x) x=bg L x∧cK (fQ L x) x=true:=by
 have hg:=vL (L:=L) (x:=x);obtain ⟨hk,hx⟩:=List.getElem?_eq_some_iff.1 hg
 have e:bg (fQ L x) x=bg L x:=by
  refine sC (by omega) (fun j hj na => ?_) (fun _ => ?_)
  ·have h0:=vJ (L:=L) (x:=x) na
   have e1:(fQ L x)[j]?=L[j]?:=by
    cases h:cK L x
    ·rw [oN h];exact rn (lf L x) na
    ·rw [oM h,List.getElem?_set_ne (by omega)]
   rw [List.getElem?_eq_getElem hj,List.getElem?_eq_getElem (Nat.lt_of_lt_of_le na (lf L x))] at e1;injection e1 with e1
   rw [e1];exact h0
  ·rw [hx];unfold bZ;omega
 refine ⟨e,?_⟩;unfold cK;simp only [e,dif_pos hk,hx];exact decide_eq_true ⟨rfl,rfl,rfl⟩
theorem AR {L:List ay} {x y:ay} (h:fZ x y) : (fQ L x).set (bg L x) y=fQ L y:=by
 obtain ⟨e1,e2⟩:=iP (L:=L) h;cases hh:cK L x
 ·rw [oN hh,oN (by rw [← e2];exact hh),sD (lf L x),e1]
 ·rw [oM hh,oM (by rw [← e2];exact hh),List.set_set,e1]
open Go.RowKit
def Marks (w:World) (b N:Nat) : Option (List Block)→Prop
 | some bs=>aW w b 224 (fK (dx bs) N false)
 | none => ∃ p,aW w b 224 (fK p N true)
theorem Marks.ext {w w':World} {b N:Nat} {s:Option (List Block)} (h:Marks w b N s) (hx:Ext w w') : Marks w' b N s:=by
 cases s with
 | none=>obtain ⟨p,h⟩:=h;exact ⟨p,aW.ext h hx⟩
 | some bs=>exact aW.ext h hx
theorem Marks.bad {w:World} {b N:Nat} {s:Option (List Block)} (h:Marks w b N s) (hN:N=256) : w.cell? ((⟨b,0,none⟩ : Addr).add 256)=some (.bool s.isNone):=by
 subst hN;cases s with
 | none=>obtain ⟨p,h⟩:=h;exact aW.cell h (vC _ _ _)
 | some bs=>exact aW.cell h (vC _ _ _)
theorem Marks.gr {w w':World} {b N:Nat} {s:Option (List Block)} (h:Marks w b N s) (hg:w.grownBy w' (some b)) : r7 w w' 224:=by
 cases s with
 | none=>obtain ⟨p,h⟩:=h;exact aW.gr h hg
 | some bs=>exact aW.gr h hg
theorem sE (b:Nat) (s:Option (List Block)) (x:Block) (N:Nat) (hN:N=256) (w:World) (hM:Marks w b N s) (hs:oG s) (hp : 1≤pw x.Order∧pw x.Order≤16) :
 jw Tryz.prog 178 [.pointer (some ⟨b,0,none⟩),.int .i64 x.At,.int .i64 (pw x.Order)] w fun v w'=>Marks w' b N (j1 s x)∧w.grownBy w' (some b):=by
 cases s with
 | none =>
   obtain ⟨p,hB⟩:=hM;refine ⟨Calls.mono (AB b p true N hN x.At (pw x.Order) w hB ⟨by omega,hp.2⟩).out ?_⟩;rintro e w' ⟨v,he,p',EW,tV,hg,h⟩
   refine ⟨v,he,?_,hg⟩;have:EW=true:=by rcases h with ⟨_,h,_⟩|⟨_,h⟩<;>exact h
   subst this;exact ⟨p',tV⟩
 | some bs =>
   refine ⟨Calls.mono (AB b (dx bs) false N hN x.At (pw x.Order) w hM ⟨by omega,hp.2⟩).out ?_⟩;rintro e w' ⟨v,he,p',EW,tV,hg,h⟩
   refine ⟨v,he,?_,hg⟩;have GG:=pB (hs bs rfl) (b:=x) hp.1;rcases h with ⟨h1,rfl,rfl⟩|⟨h1,rfl⟩
   ·have:j1 (some bs) x=some (bs++[x]):=by simp [j1,GG.1 h1]
    rw [this];show aW w' b _ _
    rw [← nk (fun i _=>GH bs x i)];exact tV
   ·have:j1 (some bs) x=none:=by
     simp only [j1];rw [if_neg (fun hf=>h1 (GG.2 hf))]
    rw [this];exact ⟨p',tV⟩
theorem sG (r s:cy) (a b:ay) (w:World) (ha:r.fT=a.fT∧r.ao=a.ao∧r.Ty=a.Ty) (hb:s.fT=b.fT∧s.ao=b.ao∧s.Ty=b.Ty) :
 bq Tryz.prog 194 [.agg (bI r).toArray,.agg (bI s).toArray] w fun v _=>v = .bool (decide (bZ a b)):=by
 refine aG Tryz.func194 rfl Tryz.ntmps194 rfl ?_;refine CW.seq (CW.region (SW.box rfl rfl fun b2 w1 hw j0 aD => ?_));refine SW.box rfl rfl fun b3 w2 bF bQ ax => ?_
 (replace hw:=Ext.trans hw bF;replace aD:=aD.ext bF);obtain ⟨a1,a2,a3⟩:=ha;obtain ⟨b1,Tk,Tl⟩:=hb;have key:bZ a b↔(r.fT<s.fT∨(r.fT=s.fT∧(r.ao<s.ao∨(r.ao=s.ao∧r.Ty<s.Ty)))):=by unfold bZ;rw [a1,a2,a3,b1,Tk,Tl]
 by_cases h1:r.fT<s.fT
 ·rw [decide_eq_true (key.2 (by omega))];refine Wz ?_;all_goals first|(exfalso;omega)|exact ah.aY rfl rfl ⟨_,rfl,hw,by simp [h1]⟩
 ·by_cases h2:r.fT=s.fT
  ·by_cases h3:r.ao<s.ao
   ·rw [decide_eq_true (key.2 (by omega))];refine Wz ?_;all_goals first|(exfalso;omega)|exact ah.aY rfl rfl ⟨_,rfl,hw,by simp [h3]⟩
   ·by_cases h4:r.ao=s.ao
    ·by_cases h5:r.Ty<s.Ty
     ·rw [decide_eq_true (key.2 (by omega))];refine Wz ?_;all_goals first|(exfalso;omega)|exact ah.aY rfl rfl ⟨_,rfl,hw,by simp [h5]⟩
     ·rw [decide_eq_false (fun h=>by have:=key.1 h;omega)];refine Wz ?_;all_goals first|(exfalso;omega)|exact ah.aY rfl rfl ⟨_,rfl,hw,by simp [h5]⟩
    ·rw [decide_eq_false (fun h=>by have:=key.1 h;omega)];refine Wz ?_;all_goals first|(exfalso;omega)|exact ah.aY rfl rfl ⟨_,rfl,hw,by simp [h3]⟩
  ·rw [decide_eq_false (fun h=>by have:=key.1 h;omega)];refine Wz ?_;all_goals first|(exfalso;omega)|exact ah.aY rfl rfl ⟨_,rfl,hw,by simp [h1]⟩
structure xt (w:World) (r:gC) (h:Heap) (r0 r1:cU) (z0 z1:ao) : Prop where
 rd:DX w r h
 eq:h.bf=[z0,z1]
 n:r.bf.n=2
 row:Sl w 4 bX r.bf.A r.bf.n [r0,r1]
 z0:Ca w r0 z0
 z1:Ca w r1 z1
theorem xt.ext {w w':World} {r:gC} {h:Heap} {r0 r1:cU} {z0 z1:ao} (a:xt w r h r0 r1 z0 z1) (hx:Ext w w') : xt w' r h r0 r1 z0 z1 :=
 ⟨a.rd.ext hx,a.eq,a.n,a.row.ext hx,a.z0.ext hx,a.z1.ext hx⟩
theorem xt.c0 {w:World} {r:gC} {h:Heap} {r0 r1:cU} {z0 z1:ao} (a:xt w r h r0 r1 z0 z1) (j:Nat) (u:Value) (hu:(bX r0)[j]?=some u) : w.cell? (((r.bf.A.getD default).add (0*4)).add j)=some u:=a.row.cell 0 (by simp) j u hu
theorem xt.c1 {w:World} {r:gC} {h:Heap} {r0 r1:cU} {z0 z1:ao} (a:xt w r h r0 r1 z0 z1) (j:Nat) (u:Value) (hu:(bX r1)[j]?=some u) : w.cell? (((r.bf.A.getD default).add (1*4)).add j)=some u:=a.row.cell 1 (by simp) j u hu
theorem vM {α:Type} {l:List α} (h:l.length=2) : ∃ a b,l=[a,b]:=by
 match l,h with
 | [a,b],_=>exact ⟨a,b,rfl⟩
theorem DX.two {w:World} {r:gC} {h:Heap} (a:DX w r h) (hl:h.bf.length=2) : ∃ r0 r1 z0 z1,xt w r h r0 r1 z0 z1:=by
 obtain ⟨zs,hz⟩:=a.cj;obtain ⟨z0,z1,e1⟩:=vM hl;have l0:=hz.each.len;obtain ⟨r0,r1,e2⟩:=vM (show zs.length=2 by omega);subst e2;have l1:=hz.row.len;have h0:=hz.each.get 0 (by simp) (by omega);have h1:=hz.each.get 1 (by simp) (by omega);simp only [e1] at h0 h1;exact ⟨r0,r1,z0,z1,a,e1,by simpa using l1.symm,hz.row,h0,h1⟩
theorem Fb (r:gC) (h:Heap) (r0 r1:cU) (z0 z1:ao) (x:Int) (w:World) (hr:xt w r h r0 r1 z0 z1) :
 bq Tryz.prog 110 [.agg (cV r).toArray,.int .i64 x] w fun v _=>v = .int .i64 (if x<z0.To then 0 else 1):=by
 refine aG Tryz.func110 rfl Tryz.ntmps110 rfl ?_;refine CW.seq (CW.region (SW.box rfl rfl fun b2 w1 hw j0 aD => ?_));have hn:=hr.n;have hA:=hr.row.base;have e1:=hr.z0.lV;by_cases hx:x<z0.To
 ·rw [if_pos hx];repeat' (first|refine Wz ?_|refine SW.st (aZ (0) rfl rfl (by assumption) (by omega) (by omega)) rfl ?_|refine SW.st (aT hw rfl (hr.c0 1 _ rfl)) rfl ?_)
  exact ah.aY rfl rfl ⟨_,rfl,hw,rfl⟩
 ·rw [if_neg hx];repeat' (first|refine Wz ?_|refine SW.st (aZ (0) rfl rfl (by assumption) (by omega) (by omega)) rfl ?_|refine SW.st (aT hw rfl (hr.c0 1 _ rfl)) rfl ?_)
  exact ah.aY rfl rfl ⟨_,rfl,hw,rfl⟩
open Go.RowKit
structure GB (w w':World) (b:Nat) : Prop where
 g:w.grownBy w' (some b)
theorem GB.refl (w:World) (b:Nat) : GB w w b:=⟨World.grownBy.refl _ _⟩
theorem GB.ext {w w1 w2:World} {b:Nat} (h:GB w w1 b) (hx:Ext w1 w2) : GB w w2 b:=⟨bH h.g (hx.gr (some b)) (.inl rfl)⟩
theorem GB.step {w w1 w2:World} {b:Nat} (h:GB w w1 b) (hg:w1.grownBy w2 (some b)) : GB w w2 b:=⟨bH h.g hg (.inl rfl)⟩
theorem Fc (b:Nat) (s:Option (List Block)) (p:Int) (N:Nat) (hN:N=256) (w:World) (hM:Marks w b N s) (hs:oG s) :
 jw Tryz.prog 178 [.pointer (some ⟨b,0,none⟩),.int .i64 p,.int .i64 1] w fun v w'=>Marks w' b N (j1 s (bL p))∧w.grownBy w' (some b):=by
 have h:=sE b s (bL p) N hN w hM hs (by simp [bL,gM]);simp only [bL,gM] at h ⊢;exact h
def G0 (w wE:World) (b N:Nat) (s:Option (List Block)) (h:Heap) (to:Int) (v:Value) (w':World) : Prop :=
 Ext w w'∧wE.grownBy w' (some b)∧((v = .bool true∧k9 h.bw to h.au∧Marks w' b N (bh s (aR h.au)))∨(v = .bool false ∧ ¬ (k9 h.bw to h.au∧(bh s (aR h.au)).isSome=true)))
structure AS (cpus to:Int) (ls:List ay) (k:Nat) : Prop where
 head:∀ (i:Nat) (h:i<ls.length),i<k→jK cpus ls[i]
 next:∀ (i:Nat) (h:i+1<ls.length),i+1<k→bZ ls[i] ls[i+1]
 iG:∀ (i:Nat) (h:i<ls.length),i<k → ∀ p∈(ls[i]).av,(p<to↔(ls[i]).ao=0)
theorem AS.nil (cpus to:Int) (ls:List ay) : AS cpus to ls 0:=⟨fun i _ h=>by omega,fun i _ h=>by omega,fun i _ h=>by omega⟩
theorem AS.all {cpus to:Int} {ls:List ay} {k:Nat} (h:AS cpus to ls k) (hk:ls.length≤k) : k9 cpus to ls:=⟨fun i hi=>h.head i hi (by omega),fun i hi=>h.next i hi (by omega),fun i hi=>h.iG i hi (by omega)⟩
theorem AS.snoc {cpus to:Int} {ls:List ay} {k:Nat} (h:AS cpus to ls k) (hk:k<ls.length) (h1:jK cpus ls[k]) (h2:∀ (h : 0<k),bZ ls[k-1] ls[k]) (h3:∀ p∈(ls[k]).av,(p<to↔(ls[k]).ao=0)) : AS cpus to ls (k+1):=by
 refine ⟨fun i hi z9 => ?_,fun i hi z9 => ?_,fun i hi z9 => ?_⟩
 ·by_cases e:i=k
  ·subst e;exact h1
  ·exact h.head i hi (by omega)
 ·by_cases e:i+1=k
  ·subst e;exact h2 (by omega)
  ·exact h.next i hi (by omega)
 ·by_cases e:i=k
  ·subst e;exact h3
  ·exact h.iG i hi (by omega)
theorem AT {s:Option (List Block)} {ls:List ay} {k j:Nat} (hk:k<ls.length) (hj:j≤(ls[k]).av.length) (h:bh (bh s (aR (ls.take k))) (((ls[k]).av.take j).map bL)=none) : bh s (aR ls)=none:=by
 rw [← cA] at h
 have e:aR ls=(aR (ls.take k)++((ls[k]).av.take j).map bL)++(((ls[k]).av.drop j).map bL++aR (ls.drop (k+1))):=by
  have e1:ls=ls.take (k+1)++ls.drop (k+1):=by simp
  have e2:((ls[k]).av.take j).map bL++((ls[k]).av.drop j).map bL=(ls[k]).av.map bL:=by rw [← List.map_append,List.take_append_drop]
  have e3:aR ls=aR (ls.take (k+1))++aR (ls.drop (k+1)):=by unfold aR;rw [← List.flatMap_append,← e1]
  rw [e3,oH _ _ hk,← e2];simp only [List.append_assoc]
 rw [e,cA,h,fW]
set_option maxHeartbeats 8000000 in
theorem Fe (r:gC) (h:Heap) (r0 r1:cU) (z0 z1:ao) (b N:Nat) (hN:N=256) (s:Option (List Block)) (w wE:World) (hw:Ext w wE) (z8:w.heap.size≤b) (hr:xt w r h r0 r1 z0 z1) (hM:Marks wE b N s) (LO:oG s) (vN:r.au.n≤1000000000000000000) :
 jw Tryz.prog 179 [.agg (cV r).toArray,.pointer (some ⟨b,0,none⟩)] wE (G0 w wE b N s h z0.To):=by
 refine dM Tryz.func179 rfl Tryz.ntmps179 rfl ?_;have hE:=GB.refl wE b;refine CW.seq (CW.region (SW.box rfl rfl fun b2 w2 bF j0 aD => ?_));(replace hw:=Ext.trans hw bF;replace hM:=hM.ext bF;replace hE:=hE.ext bF);obtain ⟨ls,hl⟩:=hr.rd.lists;have qa:=hr.rd.cpus;obtain ⟨xo,Jn⟩:=hl.len;have hA:=hl.row.base;refine Wz ?_
 refine CW.loop (fun k:Nat=>[(1,.pointer (some ⟨b,0,none⟩)),(2,.pointer (some ⟨b2,0,none⟩)),(10,.slice r.au.A r.au.n r.au.c),(11,.int .i64 (r.au.n:Int)),(12,.int .i64 (k:Int))])
  (fun k w'=>k≤r.au.n∧Ext w w'∧GB wE w' b∧aW w' b2 41 (cV r)∧Marks w' b N (bh s (aR (h.au.take k)))∧AS h.bw z0.To h.au k) (fun k=>r.au.n-k) 0
  ⟨rfl,rfl,rfl,rfl,rfl,trivial⟩ ⟨by omega,hw,hE,aD,hM,.nil _ _ _⟩ ?_
 clear hw hE aD hM bF;rintro k w' ⟨hk,hw,hE,aD,hM,hP⟩
 by_cases dY:k<r.au.n
 ·have fe:k<ls.length:=by omega
  have Jo:k<h.au.length:=by omega
  have Jp:=hl.each.get k fe Jo;have Tm:=Jp.cpu;have Tn:=Jp.iG;have dL:=Jp.ty;have Vp:=Jp.bM.len;have Vq:=Jp.bM.base;have ua:=Jp.bM;have dN:=hl.row.all dY;have gp:=hl.row.all (i:=k-1) (show k-1<r.au.n by omega)
  have Tp:oG (bh s (aR (h.au.take k))):=jq LO fun x hx=>by
   unfold aR at hx;obtain ⟨y,_,hy⟩:=List.mem_flatMap.1 hx;obtain ⟨p,_,rfl⟩:=List.mem_map.1 hy;simp [bL,gM]
  repeat' (first|refine Wz ?_|refine SW.st (aU hw rfl rfl ((dN))) rfl ?_)
  refine SW.alloc rfl fun b6 w1 ae eu aA => ?_
  refine Wz ?_;refine SW.ak aA rfl rfl rfl rfl (fP.one (enc:=bI) _) fun w2 dE hg => ?_
  have ap:=ae.own eu hg;have dl:w.heap.size≤b6:=Nat.le_trans hw.size eu
  replace hw:=Ext.trans hw ap;replace aD:=aD.ext ap;replace hM:=hM.ext ap;replace hE:=hE.ext ap;replace aA:=dE;clear dE ae hg ap;refine Wz ?_;by_cases Kt:jK r.bw h.au[k]
  ·obtain ⟨e1,e2,e3,e4⟩:=id Kt;obtain ⟨q,hq⟩ : ∃ q,decide (bZ (h.au[k-1]'(by omega)) h.au[k])=q:=⟨_,rfl⟩;have LP:=hl.each.get (k-1) (by omega) (by omega)
   have cL:∀ w',bq Tryz.prog 194 [.agg (bI (ls[k-1]'(by omega))).toArray,.agg (bI ls[k]).toArray] w' fun v _=>v = .bool q:=fun w'=>by
    have:=sG (ls[k-1]'(by omega)) ls[k] (h.au[k-1]'(by omega)) h.au[k] w' ⟨LP.cpu,LP.iG,LP.ty⟩ ⟨Tm,Tn,dL⟩
    rwa [hq] at this
   have tC:k=0∨(0<k∧q=true)∨(0<k∧q=false):=by cases q<;>simp<;>omega
   rw [or_comm,or_assoc] at tC;rcases tC with ⟨xd,rfl⟩|⟨xd,rfl⟩|xd
   rotate_left
   ·repeat' (first|refine Wz ?_|(first|refine CW.dh rfl ?_|(apply CW.bl mixed;(· kernel_rfl);rotate_left;intro w1 ae;replace hw:=Ext.trans hw ae;replace aD:=aD.ext ae;replace aA:=aA.ext ae;replace hM:=hM.ext ae;replace hE:=hE.ext ae;clear ae;rotate_right))|refine SW.st (aZ (k-1) rfl rfl (by assumption) (by omega) (by omega)) rfl ?_|refine SW.st (aU hw rfl rfl ((gp))) rfl ?_|refine SW.cx rfl rfl (fun w1 ae=>(cL _)) ?_|exact SW.dF rfl)
    exact ah.aY rfl rfl ⟨_,rfl,hw,hE.g,.inr ⟨rfl,fun hh=>by
     have:=hh.1.next (k-1) (by omega)
     simp only [show k-1+1=k by omega] at this;exact of_decide_eq_false hq this⟩⟩
   all_goals
    have Tq:∀ (h0 : 0<k),bZ (h.au[k-1]'(by omega)) h.au[k]:=fun h0=>by first|exact of_decide_eq_true hq|omega
    repeat' (first|refine Wz ?_|(first|refine CW.di rfl ?_|(apply CW.bl mixed;(· kernel_rfl);rotate_left;intro w1 ae;replace hw:=Ext.trans hw ae;replace aD:=aD.ext ae;replace aA:=aA.ext ae;replace hM:=hM.ext ae;replace hE:=hE.ext ae;clear ae;rotate_right))|refine SW.st (aZ (k-1) rfl rfl (by assumption) (by omega) (by omega)) rfl ?_|refine SW.st (aU hw rfl rfl ((gp))) rfl ?_|refine SW.cx rfl rfl (fun w1 ae=>(cL _)) ?_|exact SW.dF rfl)
    clear cL hq dN gp
    refine CW.loop (fun j:Nat=>[(1,.pointer (some ⟨b,0,none⟩)),(2,.pointer (some ⟨b2,0,none⟩)),(6,.pointer (some ⟨b6,0,none⟩)),(10,.slice r.au.A r.au.n r.au.c),(11,.int .i64 (r.au.n:Int)),(12,.int .i64 (k:Int)),(75,.slice ls[k].av.A ls[k].av.n ls[k].av.c),(76,.int .i64 (ls[k].av.n:Int)),(77,.int .i64 (j:Int))])
     (fun j w'=>j≤ls[k].av.n∧Ext w w'∧GB wE w' b∧aW w' b2 41 (cV r)∧aW w' b6 142 (bI ls[k])∧Marks w' b N (bh (bh s (aR (h.au.take k))) ((h.au[k].av.take j).map bL)) ∧ ∀ (i:Nat) (hi:i<h.au[k].av.length),i<j→(h.au[k].av[i]<z0.To↔h.au[k].ao=0)) (fun j=>ls[k].av.n-j) 0
     ⟨rfl,rfl,rfl,rfl,rfl,rfl,rfl,rfl,rfl,trivial⟩ ⟨by omega,hw,hE,aD,aA,hM,fun i _ h=>by omega⟩ ?_
    clear hw hE aD aA hM eu dl;rintro j w' ⟨hj,hw,hE,aD,aA,hM,hZ⟩
    by_cases nd:j<ls[k].av.n
    ·have pq:j<h.au[k].av.length:=by omega
     repeat' (first|refine Wz ?_|refine SW.st (aT hw rfl (ua.one nd rfl)) rfl ?_)
     refine SW.dt rfl rfl (Fc b _ h.au[k].av[j] N hN _ hM (jq Tp fun x hx=>by
      obtain ⟨p,_,rfl⟩:=List.mem_map.1 hx;simp [bL,gM])) fun v w5 hv => ?_
     obtain ⟨rp,Ci⟩:=hv;have hG:=hM.gr Ci;replace hw:=hw.own z8 Ci;replace hE:=hE.step Ci;(replace aD:=aD.aw hG rfl;replace aA:=aA.aw hG rfl)
     have e5:j1 (bh (bh s (aR (h.au.take k))) ((h.au[k].av.take j).map bL)) (bL h.au[k].av[j])=bh (bh s (aR (h.au.take k))) ((h.au[k].av.take (j+1)).map bL):=by
      rw [List.take_succ_eq_append_getElem pq,List.map_append,cA];rfl
     rw [e5] at rp;have ra:=rp.bad hN;generalize hp:h.au[k].av[j]=p
     obtain ⟨y,hy⟩ : ∃ y,(if p<z0.To then (0:Int) else 1)=y:=⟨_,rfl⟩
     have cZ:∀ w',Ext w w'→bq Tryz.prog 110 [.agg (cV r).toArray,.int .i64 p] w' fun v _=>v = .int .i64 y:=fun w' hx=>by
      have:=Fb r h r0 r1 z0 z1 p w' (hr.ext hx)
      rwa [hy] at this
     cases hs:bh (bh s (aR (h.au.take k))) ((h.au[k].av.take (j+1)).map bL) with
     | none =>
       rw [hs] at ra;repeat' (first|refine Wz ?_|((apply CW.bl mixed;(· kernel_rfl);rotate_left;intro w1 ae;replace hw:=Ext.trans hw ae;replace aD:=aD.ext ae;replace aA:=aA.ext ae;replace rp:=rp.ext ae;replace hE:=hE.ext ae;clear ae;rotate_right))|refine SW.skip rfl rfl rfl rfl ?_|refine SW.st (aq rfl ra) rfl ?_|exact SW.dF rfl)
       exact ah.aY rfl rfl ⟨_,rfl,hw,hE.g,.inr ⟨rfl,fun hh=>by
        have:=hh.2
        rw [AT Jo (by omega) hs] at this;cases this⟩⟩
     | some bs =>
       rw [hs] at ra;by_cases hz:y=ls[k].ao
       ·repeat' (first|refine Wz ?_|((apply CW.bl mixed;(· kernel_rfl);rotate_left;intro w1 ae;replace hw:=Ext.trans hw ae;replace aD:=aD.ext ae;replace aA:=aA.ext ae;replace rp:=rp.ext ae;replace hE:=hE.ext ae;clear ae;rotate_right))|refine SW.want rfl rfl ?_|refine SW.st (aq rfl ra) rfl ?_|refine SW.cx rfl rfl (fun w1 ae=>(cZ _ (Ext.trans hw ae))) ?_|exact SW.dF rfl)
        refine ah.again (j+1) ⟨rfl,rfl,rfl,rfl,rfl,rfl,rfl,rfl,rfl,trivial⟩ (by omega) ⟨by omega,hw,hE,aD,aA,rp,fun i hi lz => ?_⟩;by_cases e:i=j
        ·subst e;rw [hp];split at hy<;>constructor<;>intro _<;>omega
        ·exact hZ i hi (by omega)
       ·repeat' (first|refine Wz ?_|((apply CW.bl mixed;(· kernel_rfl);rotate_left;intro w1 ae;replace hw:=Ext.trans hw ae;replace aD:=aD.ext ae;replace aA:=aA.ext ae;replace rp:=rp.ext ae;replace hE:=hE.ext ae;clear ae;rotate_right))|refine SW.want rfl rfl ?_|refine SW.st (aq rfl ra) rfl ?_|refine SW.cx rfl rfl (fun w1 ae=>(cZ _ (Ext.trans hw ae))) ?_|exact SW.dF rfl)
        exact ah.aY rfl rfl ⟨_,rfl,hw,hE.g,.inr ⟨rfl,fun hh=>by
         have:=hh.1.iG k Jo p (by rw [← hp];exact List.getElem_mem _)
         split at hy<;>omega⟩⟩
    ·obtain rfl:j=ls[k].av.n:=by omega
     rw [List.take_of_length_le (l:=h.au[k].av) (by omega),← cA,← oH _ _ Jo] at hM;refine Wz ?_;refine ah.again (k+1) ⟨rfl,rfl,rfl,rfl,rfl,trivial⟩ (by omega) ⟨by omega,hw,hE,aD,hM,hP.snoc Jo (by rwa [← qa]) Tq fun p hp => ?_⟩;obtain ⟨i,hi,rfl⟩:=List.getElem_of_mem hp;exact hZ i hi (by omega)
  ·have m9 : ¬ k9 h.bw z0.To h.au:=fun hh=>Kt (by have:=hh.head k Jo;rwa [← qa] at this)
   have Tr : ¬ (((0≤ls[k].fT∧ls[k].fT<r.bw)∧(0≤ls[k].ao∧ls[k].ao≤1)∧(0≤ls[k].Ty∧ls[k].Ty≤2)∧(1≤ls[k].av.n∧ls[k].av.n≤8))):=fun hh=>Kt (by unfold jK;omega)
   have m7:ls[k].fT<0∨(0≤ls[k].fT∧(r.bw≤ls[k].fT∨(ls[k].fT<r.bw∧(ls[k].ao<0∨(0≤ls[k].ao∧(1<ls[k].ao∨(ls[k].ao≤1∧(ls[k].Ty<0∨(0≤ls[k].Ty∧(3≤ls[k].Ty∨(ls[k].Ty<3∧(ls[k].av.n=0∨(0<ls[k].av.n∧8<ls[k].av.n))))))))))))):=by omega
   rcases m7 with d|⟨d1,d|⟨d2,d|⟨d3,d|⟨d4,d|⟨d5,d|⟨d6,d|⟨d7,d⟩⟩⟩⟩⟩⟩⟩
   repeat' (first|refine Wz ?_|((apply CW.bl mixed;(· kernel_rfl);rotate_left;intro w1 ae;replace hw:=Ext.trans hw ae;replace aD:=aD.ext ae;replace aA:=aA.ext ae;replace hM:=hM.ext ae;replace hE:=hE.ext ae;clear ae;rotate_right))|exact SW.dF rfl)
   all_goals exact ah.aY rfl rfl ⟨_,rfl,hw,hE.g,.inr ⟨rfl,fun hh=>m9 hh.1⟩⟩
 ·obtain rfl:k=r.au.n:=by omega
  rw [List.take_of_length_le (l:=h.au) (by omega)] at hM;refine Wz ?_;exact ah.aY rfl rfl ⟨_,rfl,hw,hE.g,.inl ⟨rfl,hP.all (by omega),hM⟩⟩
open Go.RowKit
theorem tD {l:List Block}:∀ {s:Option (List Block)},(bh s l).isSome=true → ∀ b∈l,0≤b.At∧b.At+pw b.Order≤256:=by
 induction l with
 | nil=>intro s _ b hb;simp at hb
 | cons x l ih =>
   intro s h b hb;have h':(bh (j1 s x) l).isSome=true:=h
   rcases List.mem_cons.1 hb with rfl|hb
   ·cases e:j1 s b with
    | none=>rw [e,fW] at h';cases h'
    | some bs=>obtain ⟨cs,_,hf,_⟩:=mH e;exact ⟨hf.1,hf.2.1⟩
   ·exact ih h' b hb
def Eb (b:Block) : Prop:=(0≤b.Order∧b.Order≤4)∧0≤b.At∧b.At % pw b.Order=0∧ik b.Ty
structure zw (l:List Block) (k:Nat) : Prop where
 each:∀ (i:Nat) (h:i<l.length),i<k→Eb l[i]
 next:∀ (i:Nat) (h:i+1<l.length),i+1<k→l[i].At<l[i+1].At
theorem zw.nil (l:List Block) : zw l 0:=⟨fun i _ h=>by omega,fun i _ h=>by omega⟩
theorem zw.snoc {l:List Block} {k:Nat} (h:zw l k) (hk:k<l.length) (h1:Eb l[k]) (h2:∀ (h : 0<k),l[k-1].At<l[k].At) : zw l (k+1):=by
 refine ⟨fun i hi z9 => ?_,fun i hi z9 => ?_⟩
 ·by_cases e:i=k
  ·subst e;exact h1
  ·exact h.each i hi (by omega)
 ·by_cases e:i+1=k
  ·subst e;exact h2 (by omega)
  ·exact h.next i hi (by omega)
theorem zw.ok {l:List Block} {k:Nat} {s:Option (List Block)} (h:zw l k) (hk:l.length≤k) (hf:(bh s l).isSome=true) : ff l:=by
 refine ⟨fun i hi => ?_,fun i hi=>h.next i hi (by omega)⟩;obtain ⟨h1,h2,h3,h4⟩:=h.each i hi (by omega);have h5:=tD hf _ (List.getElem_mem hi);have h6:=bT h1.1 h1.2;exact ⟨h1,⟨h2,by omega⟩,h3,h4⟩
def AU (n:Int) : Bool:=decide (n<0) || decide (256<n)
theorem G1 (x:Int) (w:World) : bq Tryz.prog 177 ([.int .i64 x]++[]) w fun v _=>v = .bool (AU x):=by
 refine aG Tryz.func177 rfl Tryz.ntmps177 rfl ?_;have hw:=Ext.refl w;have m7:x<0∨(0≤x∧(256<x∨x≤256)):=by omega
 rcases m7 with d|⟨d1,d|d⟩
 repeat' (first|refine Wz ?_|fail);all_goals exact ah.aY rfl rfl ⟨_,rfl,hw,by unfold AU;simp;omega⟩
open Go.RowKit
def eU (z:ao) : Prop:=(-9223372036854775808≤z.aK∧z.aK≤9223372036854775807)∧(-9223372036854775808≤z.To∧z.To≤9223372036854775807)
def vO (h:Heap) : Prop:=h.bf.length=2∧h.dk.length=2∧1≤h.bw∧h.bw≤4
instance (h:Heap) : Decidable (vO h):=inferInstanceAs (Decidable (_∧_))
theorem bp.Qc {h:Heap} (a:bp h) : vO h:=by
 obtain ⟨z0,z1,e,_⟩:=a.cj;obtain ⟨m0,m1,e',_⟩:=a.dA;exact ⟨by rw [e];rfl,by rw [e'];rfl,a.cpus⟩
structure zx (h:Heap) (z0 z1:ao) : Prop where
 one:bD z0
 two:bD z1
 from_:z0.aK=0
 Ac:z0.To=z1.aK
 lV:z1.To=256
 dA:h.dk.any AU=false
theorem bp.front {h:Heap} {z0 z1:ao} (a:bp h) (e:h.bf=[z0,z1]) : zx h z0 z1:=by
 obtain ⟨y0,y1,e',a1,a2,a3,a4,a5,_⟩:=a.cj;rw [e] at e';simp only [List.cons.injEq,and_true] at e';obtain ⟨rfl,rfl⟩:=e';obtain ⟨m0,m1,e',b1,b2⟩:=a.dA;exact ⟨a1,a2,a3,a4,a5,by rw [e'];simp [AU];omega⟩
def ny (h:Heap) (z0 z1:ao) : Option (List Block):=bh (some []) (z0.aj++z1.aj)
theorem bp.rest {h:Heap} {z0 z1:ao} (a:bp h) (e:h.bf=[z0,z1]) : k9 h.bw z0.To h.au∧ff h.Live∧(bh (bh (ny h z0 z1) (aR h.au)) h.Live).isSome=true:=by
 obtain ⟨y0,y1,e',a1,a2,a3,a4,a5,a6,a7⟩:=a.cj;rw [e] at e';simp only [List.cons.injEq,and_true] at e';obtain ⟨rfl,rfl⟩:=e';refine ⟨a6,a.live,?_⟩;rw [cA,cA] at a7;exact a7
theorem bp.of {h:Heap} {z0 z1:ao} (e:h.bf=[z0,z1]) (hd:vO h) (hf:zx h z0 z1) (h1:k9 h.bw z0.To h.au) (h2:ff h.Live) (h3:(bh (bh (ny h z0 z1) (aR h.au)) h.Live).isSome=true) : bp h:=by
 refine ⟨⟨z0,z1,e,hf.one,hf.two,hf.from_,hf.Ac,hf.lV,h1,?_⟩,?_,hd.2.2,h2⟩
 ·rw [cA,cA];exact h3
 ·obtain ⟨m0,m1,em⟩:=vM hd.2.1;have:=hf.dA
  rw [em] at this;simp [AU] at this;exact ⟨m0,m1,em,by omega,by omega⟩
set_option maxHeartbeats 8000000 in
theorem nz (r:gC) (h:Heap) (w:World) (hr:DX w r h) (hs:h.small) (IU:∀ z∈h.bf,eU z) :
 bq Tryz.prog 88 [.agg (cV r).toArray] w fun v _=>v = .int .i64 (if fX h then 0 else 8):=by
 refine aG Tryz.func88 rfl Tryz.ntmps88 rfl ?_;refine CW.seq (CW.region (SW.box rfl rfl fun b1 w1 hw jh aI => ?_));have qa:=hr.cpus;have P7:=hr.dA.len;obtain ⟨Ts,zy⟩:=hr.cj;obtain ⟨Qd,GV⟩:=zy.len;clear zy Qd Ts;by_cases hd:vO h
 ·obtain ⟨d1,d2,d3⟩:=id hd;obtain ⟨r0,r1,z0,z1,ub⟩:=hr.two d1;have xu:=ub.eq;have hA:=ub.row.base;have IT:=IU z0 (by rw [xu];simp);have pO:=IU z1 (by rw [xu];simp);have s0:=hs.free z0 (by rw [xu];simp);have s1:=hs.free z1 (by rw [xu];simp);have Vr:=ub.z0.from_;have Tt:=ub.z0.lV;have Vs:=ub.z1.from_;have Vt:=ub.z1.lV;have l0:=ub.z0.free.len;have l1:=ub.z1.free.len;have t0:=ub.z0.types.len;have t1:=ub.z1.types.len;unfold eU at IT pO;obtain ⟨q0,Qe⟩ : ∃ q,dO z0=q:=⟨_,rfl⟩;obtain ⟨q1,G3⟩ : ∃ q,dO z1=q:=⟨_,rfl⟩
  have c0:∀ w',Ext w w'→bq Tryz.prog 176 [.agg (bX r0).toArray] w' fun v _=>v = .int .i64 (if q0 then 0 else 8):=fun w' hx=>by
   have:=jg r0 z0 w' (ub.z0.ext hx) (by omega) (by omega) (by omega) (by omega)
   rwa [Qe] at this
  have c1:∀ w',Ext w w'→bq Tryz.prog 176 [.agg (bX r1).toArray] w' fun v _=>v = .int .i64 (if q1 then 0 else 8):=fun w' hx=>by
   have:=jg r1 z1 w' (ub.z1.ext hx) (by omega) (by omega) (by omega) (by omega)
   rwa [G3] at this
  have M4:(q0=true∧q1=true)∨(q0=false)∨(q0=true∧q1=false):=by cases q0<;>cases q1<;>simp
  rcases M4 with ⟨rfl,rfl⟩|rfl|⟨rfl,rfl⟩
  all_goals simp only [if_true,Bool.false_eq_true,if_false] at c0 c1
  repeat' (first|refine Wz ?_|refine SW.st (aZ (0) rfl rfl (by assumption) (by omega) (by omega)) rfl ?_|refine SW.st (aZ (1) rfl rfl (by assumption) (by omega) (by omega)) rfl ?_|refine SW.st (aU hw rfl rfl ((ub.c0))) rfl ?_|refine SW.st (aU hw rfl rfl ((ub.c1))) rfl ?_|((first|refine SW.call rfl rfl (c0 _ hw) ?_|refine SW.call rfl rfl (c1 _ hw) ?_);intro v w1 ae hv;subst hv;replace hw:=Ext.trans hw ae;replace aI:=aI.ext ae;clear ae))
  rotate_left
  ·exact ah.aY rfl rfl ⟨_,rfl,hw,by rw [lc (fun hh=>by have:=ed.2 (hh.front xu).one;rw [Qe] at this;cases this)];rfl⟩
  ·exact ah.aY rfl rfl ⟨_,rfl,hw,by rw [lc (fun hh=>by have:=ed.2 (hh.front xu).two;rw [G3] at this;cases this)];rfl⟩
  clear c0 c1;have G4:=ed.1 Qe;have Jb:=ed.1 G3
  have cO:∀ w',Ext w w'→bq Tryz.prog 96 [.slice r.dk.A r.dk.n r.dk.c,.func (.func 177) #[] ([] : List Value).toArray] w' fun v _=>v = .bool (h.dk.any AU):=fun w' h =>
   fF _ _ _ _ _ (hr.dA.ext h) _ [] AU (fun x => .int .i64 x) (fun x=>rfl) (fun x _ w1 _=>G1 x w1) (by omega)
  obtain ⟨qm,Qf⟩ : ∃ q,h.dk.any AU=q:=⟨_,rfl⟩;rw [Qf] at cO;have m7:(r0.aK=0∧r0.To=r1.aK∧r1.To=256∧qm=false)∨r0.aK≠0∨(r0.aK=0∧r0.To≠r1.aK)∨(r0.aK=0∧r0.To=r1.aK∧r1.To≠256)∨(r0.aK=0∧r0.To=r1.aK∧r1.To=256∧qm=true):=by cases qm<;>simp<;>omega
  rcases m7 with ⟨d1,d2,d3,rfl⟩|d|⟨d1,d⟩|⟨d1,d2,d⟩|⟨d1,d2,d3,rfl⟩
  repeat' (first|refine Wz ?_|((apply CW.bl mixed;(· kernel_rfl);rotate_left;intro w1 ae;replace hw:=Ext.trans hw ae;replace aI:=aI.ext ae;clear ae;rotate_right))|refine SW.st (aZ (0) rfl rfl (by assumption) (by omega) (by omega)) rfl ?_|refine SW.st (aZ (1) rfl rfl (by assumption) (by omega) (by omega)) rfl ?_|refine SW.st (aT hw rfl (ub.c0 0 _ rfl)) rfl ?_|refine SW.st (aT hw rfl (ub.c0 1 _ rfl)) rfl ?_|refine SW.st (aT hw rfl (ub.c1 0 _ rfl)) rfl ?_|refine SW.st (aT hw rfl (ub.c1 1 _ rfl)) rfl ?_|refine SW.cx rfl rfl (fun w1 ae=>(cO _ (Ext.trans hw ae))) ?_|exact SW.dF rfl)
  rotate_left
  iterate 3 exact ah.aY rfl rfl ⟨_,rfl,hw,by rw [lc (fun hh=>by have:=hh.front xu;have:=this.from_;have:=(hh.front xu).Ac;have:=(hh.front xu).lV;omega)];rfl⟩
  ·exact ah.aY rfl rfl ⟨_,rfl,hw,by rw [lc (fun hh=>by have:=(hh.front xu).dA;rw [Qf] at this;cases this)];rfl⟩
  have NP:zx h z0 z1:=⟨G4,Jb,by omega,by omega,by omega,Qf⟩
  clear cO;have hn:=ub.n
  have jC:∀ z∈h.bf,∀ b∈z.aj,0≤b.Order∧b.Order≤4:=fun z hz b hb=>by
   obtain ⟨i,hi,rfl⟩:=List.getElem_of_mem hb;rw [xu] at hz;simp only [List.mem_cons,List.not_mem_nil,or_false] at hz;rcases hz with rfl|rfl
   ·exact ⟨(G4.dD i hi).1.1,(G4.dD i hi).1.2.1⟩
   ·exact ⟨(Jb.dD i hi).1.1,(Jb.dD i hi).1.2.1⟩
  have RJ:∀ k,oG (bh (some []) ((h.bf.take k).flatMap ao.aj)):=fun k=>jq xK fun x hx=>by
   obtain ⟨z,hz,hx⟩:=List.mem_flatMap.1 hx;have:=jC z (List.mem_of_mem_take hz) x hx
   exact (bT this.1 this.2).1
  refine SW.box rfl rfl fun b3 w2 bF bQ ax => ?_
  have dB:w.heap.size≤b3:=Nat.le_trans hw.size bQ
  have hM:Marks w2 b3 256 (some []):=by
   refine Eq.mp (congrArg (fun c=>aW w2 b3 224 c) ?_) ax;kernel_rfl
  clear ax;(replace hw:=Ext.trans hw bF;replace aI:=aI.ext bF);repeat' (first|refine Wz ?_|fail)
  refine CW.loop (fun k:Nat=>[(1,.pointer (some ⟨b1,0,none⟩)),(3,.pointer (some ⟨b3,0,none⟩)),(81,.slice r.bf.A r.bf.n r.bf.c),(82,.int .i64 (r.bf.n:Int)),(83,.int .i64 (k:Int))])
   (fun k w'=>k≤2∧Ext w w'∧aW w' b1 41 (cV r)∧Marks w' b3 256 (bh (some []) ((h.bf.take k).flatMap ao.aj))) (fun k=>2-k) 0
   ⟨rfl,rfl,rfl,rfl,rfl,trivial⟩ ⟨by omega,hw,aI,hM⟩ ?_
  clear hw aI hM bF;rintro k w' ⟨hk,hw,aI,hM⟩
  by_cases r8:k<2
  ·have Tu:k<h.bf.length:=by omega
   have dN:=ub.row.all (i:=k) (by omega)
   have NQ:Ca w ([r0,r1][k]'(by simpa using r8)) h.bf[k]:=by
    simp only [xu];have:k=0∨k=1:=by omega
    rcases this with rfl|rfl
    ·exact ub.z0
    ·exact ub.z1
   generalize Vu:([r0,r1][k]'(by simpa using r8))=rk at dN NQ
   have tv:=jC h.bf[k] (List.getElem_mem _);have P1:=hs.free h.bf[k] (List.getElem_mem _)
   have G5:(h.bf.take (k+1)).flatMap ao.aj=(h.bf.take k).flatMap ao.aj++h.bf[k].aj:=by
    rw [List.take_succ_eq_append_getElem Tu,List.flatMap_append];simp
   generalize h.bf[k]=zk at NQ tv P1 G5
   have Vv:=NQ.free.base;have E4:=NQ.free.len;repeat' (first|refine Wz ?_|refine SW.st (aU hw rfl rfl ((dN))) rfl ?_)
   refine SW.alloc rfl fun b5 w1 ae jj bC => ?_
   skip;refine SW.ak bC rfl rfl rfl rfl (dr _) fun w2 fg hg => ?_
   have ap:=ae.own jj hg;have kN:w.heap.size≤b5:=Nat.le_trans hw.size jj
   replace hw:=Ext.trans hw ap;replace aI:=aI.ext ap;replace hM:=hM.ext ap;replace bC:=fg;clear fg ae hg ap;repeat' (first|refine Wz ?_|fail)
   refine CW.loop (fun j:Nat=>[(1,.pointer (some ⟨b1,0,none⟩)),(3,.pointer (some ⟨b3,0,none⟩)),(81,.slice r.bf.A r.bf.n r.bf.c),(82,.int .i64 (r.bf.n:Int)),(83,.int .i64 (k:Int)),(88,.slice rk.aj.A rk.aj.n rk.aj.c),(89,.int .i64 (rk.aj.n:Int)),(90,.int .i64 (j:Int))])
    (fun j w'=>j≤rk.aj.n∧Ext w w'∧aW w' b1 41 (cV r)∧Marks w' b3 256 (bh (bh (some []) ((h.bf.take k).flatMap ao.aj)) (zk.aj.take j))) (fun j=>rk.aj.n-j) 0
    ⟨rfl,rfl,rfl,rfl,rfl,rfl,rfl,rfl,trivial⟩ ⟨by omega,hw,aI,hM⟩ ?_
   clear hw aI hM bC jj kN;rintro j w' ⟨hj,hw,aI,hM⟩
   by_cases nd:j<rk.aj.n
   ·have pq:j<zk.aj.length:=by omega
    obtain ⟨o1,o2⟩:=tv zk.aj[j] (List.getElem_mem _);have hp:=bT o1 o2;repeat' (first|refine Wz ?_|refine SW.st (aU hw rfl rfl ((NQ.free.all nd))) rfl ?_)
    refine SW.alloc rfl fun b7 w1 ae jG bO => ?_
    skip;refine SW.ak bO rfl rfl rfl rfl (fP.one (enc:=aL) _) fun w2 bB hg => ?_
    have ap:=ae.own jG hg;have jH:w.heap.size≤b7:=Nat.le_trans hw.size jG
    replace hw:=Ext.trans hw ap;replace aI:=aI.ext ap;replace hM:=hM.ext ap;replace bO:=bB;clear bB ae hg ap;repeat' (first|refine Wz ?_|fail);refine CW.any 6 mixed (da (by kernel_rfl)) rfl fun w1 ae aJ => ?_
    replace hw:=Ext.trans hw ae;replace aI:=aI.ext ae;replace hM:=hM.ext ae;replace bO:=bO.ext ae;clear ae;refine Wa ?_;refine SA.take 5 aJ rfl (by kernel_rfl) (by kernel_rfl) rfl ?_;repeat ((refine SW.st (fb (r:=pw zk.aj[j].Order) rfl rfl (by omega) (by omega) (by simp [pw]) (by omega) (by omega)) rfl ?_))
    refine SW.ai ?_;refine SA.done (by kernel_rfl) ?_;refine SW.dt rfl rfl (sE b3 _ zk.aj[j] 256 rfl _ hM (jq (RJ k) fun x hx=>by have:=tv x (List.mem_of_mem_take hx);exact (bT this.1 this.2).1) ⟨by omega,by omega⟩) fun v w5 hv => ?_
    obtain ⟨rp,Ci⟩:=hv;have hG:=hM.gr Ci;replace hw:=hw.own dB Ci;(replace aI:=aI.aw hG rfl);rw [← tz _ _ _ pq] at rp;repeat' (first|refine Wz ?_|fail);exact ah.again (j+1) ⟨rfl,rfl,rfl,rfl,rfl,rfl,rfl,rfl,trivial⟩ (by omega) ⟨by omega,hw,aI,rp⟩
   ·obtain rfl:j=rk.aj.n:=by omega
    rw [List.take_of_length_le (l:=zk.aj) (by omega),← cA,← G5] at hM;repeat' (first|refine Wz ?_|fail);exact ah.again (k+1) ⟨rfl,rfl,rfl,rfl,rfl,trivial⟩ (by omega) ⟨by omega,hw,aI,hM⟩
  ·obtain rfl:k=2:=by omega
   have Qg:=RJ 2;have Tv:bh (some []) ((h.bf.take 2).flatMap ao.aj)=ny h z0 z1:=by rw [xu];simp [ny]
   rw [Tv] at hM Qg;repeat' (first|refine Wz ?_|fail);obtain ⟨ls,M5⟩:=hr.lists;have pp:=M5.len.2;have xS:=hs.lists;clear M5 ls;refine SW.dt rfl rfl (Fe r h r0 r1 z0 z1 b3 256 rfl (ny h z0 z1) w _ hw dB ub hM Qg (by omega)) fun v w5 hv => ?_
   obtain ⟨nA,Ci,CL⟩:=hv;have hG:=hM.gr Ci;replace hw:=nA;(replace aI:=aI.aw hG rfl);clear hM nA Ci hG;rcases CL with ⟨rfl,hL,hM⟩|⟨rfl,m9⟩
   rotate_left
   ·repeat' (first|refine Wz ?_|(refine CW.dh rfl ?_))
    exact ah.aY rfl rfl ⟨_,rfl,hw,by rw [lc (fun hh=>m9 ⟨(hh.rest xu).1,hU (m:=h.Live) (by rw [cA];exact (hh.rest xu).2.2)⟩)];rfl⟩
   have RK:oG (bh (ny h z0 z1) (aR h.au)):=jq Qg fun x hx=>by
    unfold aR at hx;obtain ⟨y,_,hy⟩:=List.mem_flatMap.1 hx;obtain ⟨p,_,rfl⟩:=List.mem_map.1 hy;simp [bL,gM]
   have Ku:bp h→(bh (bh (ny h z0 z1) (aR h.au)) h.Live).isSome=true:=fun hh=>(hh.rest xu).2.2
   have RL:ff h.Live→(bh (bh (ny h z0 z1) (aR h.au)) h.Live).isSome=true→bp h:=fun a b=>bp.of xu hd NP hL a b
   generalize bh (ny h z0 z1) (aR h.au)=S at hM RK Ku RL
   have Kv:=hr.live;have M3:=hr.live.len;have Tw:=hr.live.base;have Vw:=hs.live;repeat' (first|refine Wz ?_|fail)
   refine CW.loop (fun k:Nat=>[(1,.pointer (some ⟨b1,0,none⟩)),(3,.pointer (some ⟨b3,0,none⟩)),(108,.slice r.Live.A r.Live.n r.Live.c),(109,.int .i64 (r.Live.n:Int)),(110,.int .i64 (k:Int))])
    (fun k w'=>k≤r.Live.n∧Ext w w'∧aW w' b1 41 (cV r)∧Marks w' b3 256 (bh S (h.Live.take k))∧zw h.Live k) (fun k=>r.Live.n-k) 0
    ⟨rfl,rfl,rfl,rfl,rfl,trivial⟩ ⟨by omega,hw,aI,hM,.nil _⟩ ?_
   clear hw aI hM;rintro k w' ⟨hk,hw,aI,hM,hP⟩
   by_cases dY:k<r.Live.n
   ·have fe:k<h.Live.length:=by omega
    have Cb:k-1<r.Live.n:=by omega
    have Jq:bp h→sv h.Live[k]∧(0<k→(h.Live[k-1]'(by omega)).At<h.Live[k].At):=fun hh=>⟨hh.live.each k fe,fun h0=>by
     have:=hh.live.next (k-1) (by omega)
     simpa only [show k-1+1=k by omega] using this⟩
    have Kw:=Kv.fw Cb (j:=0) rfl;repeat' (first|refine Wz ?_|refine SW.st (aU hw rfl rfl ((Kv.all dY))) rfl ?_)
    refine SW.alloc rfl fun b9 w1 ae oe dg => ?_
    repeat' (first|refine Wz ?_|fail);refine SW.ak dg rfl rfl rfl rfl (fP.one (enc:=aL) _) fun w2 ji hg => ?_
    have ap:=ae.own oe hg;have re:w.heap.size≤b9:=Nat.le_trans hw.size oe
    replace hw:=Ext.trans hw ap;replace aI:=aI.ext ap;replace hM:=hM.ext ap;replace dg:=ji;clear ji ae hg ap;repeat' (first|refine Wz ?_|fail);have M6:Eb h.Live[k]→(0<k→(h.Live[k-1]'(by omega)).At<h.Live[k].At)→zw h.Live (k+1):=fun a b=>hP.snoc fe a fun h0=>b h0
    have G5:=tz S h.Live k fe;generalize Qh:h.Live[k]=bb at dg Jq M6 G5
    generalize Rz:(h.Live[k-1]'(by omega)).At=pv at Jq M6 Kw
    simp only [Eb,sv,ik] at Jq M6
    have hp:bb.Order<0∨4<bb.Order∨(1≤pw bb.Order∧pw bb.Order≤16):=by
     by_cases h1 : 0≤bb.Order
     ·by_cases h2:bb.Order≤4
      ·exact .inr (.inr (bT h1 h2))
      ·omega
     ·omega
    have em:bb.At<0∨bb.At.tmod (pw bb.Order)=bb.At % pw bb.Order:=by
     by_cases h1 : 0≤bb.At
     ·exact .inr (Int.tmod_eq_emod_of_nonneg h1)
     ·omega
    have m7:bb.Order<0∨(0≤bb.Order∧(4<bb.Order∨(bb.Order≤4∧(bb.At<0∨(0≤bb.At∧(bb.At.tmod (pw bb.Order)≠0∨(bb.At.tmod (pw bb.Order)=0∧(bb.Ty<0∨(0≤bb.Ty∧(3≤bb.Ty∨(bb.Ty<3∧((0<k∧bb.At≤pv)∨k=0∨(0<k∧pv<bb.At)))))))))))) ):=by omega
    rcases m7 with d|⟨d1,d|⟨d2,d|⟨d3,d|⟨d4,d|⟨d5,d|⟨d6,⟨xd,d⟩|xd|⟨xd,d⟩⟩⟩⟩⟩⟩⟩
    all_goals (apply CW.bl mixed;(· kernel_rfl);rotate_left;intro w1 ae;replace hw:=Ext.trans hw ae;replace aI:=aI.ext ae;replace dg:=dg.ext ae;replace hM:=hM.ext ae;clear ae;rotate_right)
    repeat' (first|refine Wz ?_|refine SW.st (aZ (k-1) rfl rfl (by assumption) (by omega) (by omega)) rfl ?_|refine SW.st (aT hw rfl Kw) rfl ?_|(refine SW.st (fb (r:=pw bb.Order) rfl rfl (by omega) (by omega) (by simp [pw]) (by omega) (by omega)) rfl ?_)|exact SW.dF rfl)
    iterate 7 exact ah.aY rfl rfl ⟨_,rfl,hw,by rw [lc (fun hh=>by have:=Jq hh;omega)];rfl⟩
    all_goals
     replace M6:=M6 ⟨⟨d1,d2⟩,d3,by omega,by omega⟩ (fun h0=>by omega);refine CW.any 6 mixed (da (by kernel_rfl)) rfl fun w1 ae aJ => ?_
     replace hw:=Ext.trans hw ae;replace aI:=aI.ext ae;replace hM:=hM.ext ae;replace dg:=dg.ext ae;clear ae;refine Wa ?_;refine SA.take 5 aJ rfl (by kernel_rfl) (by kernel_rfl) rfl ?_;repeat ((refine SW.st (fb (r:=pw bb.Order) rfl rfl (by omega) (by omega) (by simp [pw]) (by omega) (by omega)) rfl ?_))
     refine SW.ai ?_;refine SA.done (by kernel_rfl) ?_
     refine SW.dt rfl rfl (sE b3 _ bb 256 rfl _ hM (jq RK fun x hx=>by
      obtain ⟨i,hi,rfl⟩:=List.getElem_of_mem hx;rw [List.getElem_take];have:=(hP.each i (by simp at hi;omega) (by simp at hi;omega)).1
      exact (bT this.1 this.2).1) ⟨by omega,by omega⟩) fun v w5 hv => ?_
     obtain ⟨rp,Ci⟩:=hv;have hG:=hM.gr Ci;replace hw:=hw.own dB Ci;(replace aI:=aI.aw hG rfl);rw [← G5] at rp;repeat' (first|refine Wz ?_|fail);exact ah.again (k+1) ⟨rfl,rfl,rfl,rfl,rfl,trivial⟩ (by omega) ⟨by omega,hw,aI,rp,M6⟩
   ·obtain rfl:k=r.Live.n:=by omega
    rw [List.take_of_length_le (by omega)] at hM;have ra:=hM.bad rfl;cases hS:bh S h.Live with
    | none =>
      rw [hS] at ra;repeat' (first|refine Wz ?_|(refine CW.dh rfl ?_)|refine SW.st (aq rfl ra) rfl ?_)
      exact ah.aY rfl rfl ⟨_,rfl,hw,by rw [lc (fun hh=>by have:=Ku hh;rw [hS] at this;cases this)];rfl⟩
    | some bs =>
      rw [hS] at ra;repeat' (first|refine Wz ?_|(refine CW.di rfl ?_)|refine SW.st (aq rfl ra) rfl ?_)
      exact ah.aY rfl rfl ⟨_,rfl,hw,by rw [zh (RL (hP.ok (s:=S) (by omega) (by rw [hS];rfl)) (by rw [hS];rfl))];rfl⟩
 ·rw [lc (fun hh=>hd hh.Qc)];have m7:r.bf.n≠2∨(r.bf.n=2∧(r.dk.n≠2∨(r.dk.n=2∧(r.bw<1∨(1≤r.bw∧4<r.bw))))):=by unfold vO at hd;omega
  rcases m7 with d|⟨d1,d|⟨d2,d|⟨d3,d⟩⟩⟩
  repeat' (first|refine Wz ?_|fail);all_goals exact ah.aY rfl rfl ⟨_,rfl,hw,rfl⟩
open Go.RowKit
theorem xT {α:Type} {p q : α → Bool}:∀ {l:List α},(∀ x∈l,p x=true→q x=true)→(∃ x∈l,p x=false∧q x=true)→l.countP p<l.countP q
 | [],_,h=>by obtain ⟨x,hx,_⟩:=h;simp at hx
 | a::l,h1,h2=>by
   rw [List.countP_cons,List.countP_cons];have hle:l.countP p≤l.countP q:=List.countP_mono_left (fun x hx=>h1 x (by simp [hx]))
   obtain ⟨x,hx,hp,hq⟩:=h2;rcases List.mem_cons.1 hx with rfl|hx
   ·simp [hp,hq];omega
   ·have ih:=xT (l:=l) (fun y hy=>h1 y (by simp [hy])) ⟨x,hx,hp,hq⟩;have:=h1 a (by simp)
    cases Qi:p a<;>cases Tx:q a<;>simp [Qi,Tx] at this ⊢<;>omega
theorem vP:∀ {l:List Block} {cs bs:List Block},(∀ b∈l,1≤pw b.Order)→bh (some cs) l=some bs→cs.length≤(List.range 256).countP (dx cs)→(∀ x∈cs,0≤x.At∧1≤pw x.Order)→bs.length≤(List.range 256).countP (dx bs)
 | [],cs,bs,_,h,hc,_=>by injection h with h;subst h;exact hc
 | b::l,cs,bs,hp,h,hc,hg=>by
   have h':bh (j1 (some cs) b) l=some bs:=h
   cases e:j1 (some cs) b with
   | none=>rw [e,fW] at h';cases h'
   | some ds =>
     rw [e] at h';obtain ⟨cs',e1,hf,rfl⟩:=mH e;injection e1 with e1
     subst e1;have h1:=hp b (by simp);have jv:=(pB hg h1).2 hf;refine vP (fun x hx=>hp x (by simp [hx])) h' ?_ (fun x hx => ?_)
     ·have:=xT (p:=dx cs) (q:=dx (cs++[b])) (l:=List.range 256) (fun x _ hx=>by simp only [dx,List.any_append,Bool.or_eq_true] at hx ⊢;exact .inl hx)
       ⟨b.At.toNat,by simp;have:=hf.1;have:=hf.2.1;omega,jv.2.2.2 _ (by have:=hf.1;omega) (by have:=hf.1;omega),by
        simp only [dx,List.any_append,Bool.or_eq_true];right;have:=hf.1
        simp [nb];omega⟩
      simp;omega
     ·rcases List.mem_append.1 hx with hx|hx
      ·exact hg x hx
      ·simp at hx;subst hx;exact ⟨hf.1,h1⟩
theorem CM {l bs:List Block} (hp:∀ b∈l,1≤pw b.Order) (h:bh (some []) l=some bs) : bs.length≤256:=by
 have:=vP hp h (by simp) (fun x hx=>by simp at hx)
 have h2:(List.range 256).countP (dx bs)≤(List.range 256).length:=List.countP_le_length
 simp at h2;omega
section
variable {P:Program} {n:Nat} {ops:Array Oper} {Q:Exit→Act→World→Prop} {rest:List Oper} {L:Env} {w:World}
end
theorem jO {l:List Block} (h:ff l) : l.Pairwise fun x y=>x.At<y.At:=by
 have key:∀ (d i:Nat) (hj:i+d+1<l.length),(l[i]'(by omega)).At<l[i+d+1].At:=by
  intro d;induction d with
  | zero=>intro i hj;exact h.next i hj
  | succ d ih=>intro i hj;exact Int.lt_trans (ih i (by omega)) (h.next (i+d+1) (by omega))
 rw [List.pairwise_iff_getElem];intro i j hi hj lz;have:=key (j-i-1) i (by omega)
 have e:i+(j-i-1)+1=j:=by omega
 simp only [e] at this;exact this
theorem ib {l:List Block} {a:Int} (h:br l a=true) : ∃ hk:bi l a<l.length,l[bi l a].At=a:=by
 unfold br at h;split at h
 ·rename_i hk;exact ⟨hk,of_decide_eq_true h⟩
 ·cases h
theorem qA {l:List Block} (hu:l.Pairwise fun x y=>x.At<y.At) {a:Int} {k:Nat} (hk:k<l.length) (h:l[k].At=a) : bi l a=k∧br l a=true:=by
 rw [List.pairwise_iff_getElem] at hu;have e:bi l a=k:=DU (by omega) (fun j hj na=>by have:=hu j k hj hk na;omega) (fun _=>by omega)
 refine ⟨e,?_⟩;unfold br;simp only [e,dif_pos hk];exact decide_eq_true h
theorem vQ {l:List Block} {a:Int} (h:∀ (k:Nat) (hk:k<l.length),l[k].At≠a) : br l a=false:=by
 unfold br;split
 ·rename_i hk;exact decide_eq_false (h _ hk)
 ·rfl
theorem G6 {l:List Block} (hu:l.Pairwise fun x y=>x.At<y.At) {k:Nat} (hk:k<l.length) {a o:Int} (ha:l[k].At=a) (ho:l[k].Order=o) : l.eraseIdx k=ku l a o:=by
 rw [List.pairwise_iff_getElem] at hu
 have bW:∀ (j:Nat) (hj:j<l.length),j≠k→xe a o l[j]=false:=fun j hj na=>by
  cases hh:xe a o l[j] with
  | false=>rfl
  | true =>
    obtain ⟨e1,e2⟩:=iq.1 hh;rcases Nat.lt_trichotomy j k with h1|h1|h1
    ·have:=hu j k hj hk h1;omega
    ·exact absurd h1 na
    ·have:=hu k j hk hj h1;omega
 have e:l=l.take k++l[k]::l.drop (k+1):=by simp
 have hL:∀ x∈l.take k,xe a o x=false:=fun x hx=>by
  obtain ⟨j,hj,rfl⟩:=List.getElem_of_mem hx;simp at hj;rw [List.getElem_take];exact bW j (by omega) (by omega)
 have hR:∀ x∈l.drop (k+1),xe a o x=false:=fun x hx=>by
  obtain ⟨j,hj,rfl⟩:=List.getElem_of_mem hx;simp at hj;rw [List.getElem_drop];exact bW _ (by omega) (by omega)
 have hm:xe a o l[k]=true:=iq.2 ⟨ha,ho⟩
 unfold ku;rw [List.eraseIdx_eq_take_drop_succ]
 conv=>rhs;rw [e]
 rw [List.filter_append,List.filter_cons];simp only [hm,Bool.not_true,Bool.false_eq_true,if_false];rw [List.filter_eq_self.2 (fun x hx=>by simp [hL x hx]),List.filter_eq_self.2 (fun x hx=>by simp [hR x hx])]
noncomputable def vR (z:ao) (a:Int) : Int:=z.Types.getD ((a-z.aK) / 8).toNat 0
noncomputable def keyOf (z0 z1:ao) (cpu a:Int) : ay:=⟨cpu,if a<z0.To then 0 else 1,if a<z0.To then vR z0 a else vR z1 a,[]⟩
def kY (x:ay) (pg:List Int) : ay:=⟨x.fT,x.ao,x.Ty,pg⟩
noncomputable def oO (h:Heap) (z0 z1:ao) (b:Block) (lv:List Block) : Heap:=⟨[(eR (z0,z1) b).1,(eR (z0,z1) b).2],h.dk,h.bw,h.au,lv⟩
noncomputable def iQ (h:Heap) (z0 z1:ao) (x:ay) (pg:List Int) (lv:List Block) : Heap :=
 if 8<pg.length then ⟨[(bE (z0,z1) ((pg.take 4).map bL)).1,(bE (z0,z1) ((pg.take 4).map bL)).2],h.dk,h.bw,fQ h.au (kY x (pg.drop 4)),lv⟩ else ⟨[z0,z1],h.dk,h.bw,fQ h.au (kY x pg),lv⟩
noncomputable def ic (h:Heap) (cpu a:Int) : Heap:=match h.bf with
 | [z0,z1]=>if 0<(h.Live.getD (bi h.Live a) ⟨0,0,0⟩).Order then oO h z0 z1 (h.Live.getD (bi h.Live a) ⟨0,0,0⟩) (h.Live.eraseIdx (bi h.Live a)) else iQ h z0 z1 (keyOf z0 z1 cpu a) (cd h.au (keyOf z0 z1 cpu a)++[a]) (h.Live.eraseIdx (bi h.Live a))
 | _=>⟨[],[],0,[],[]⟩
noncomputable def ga (h:Heap) (cpu a:Int) : Int×Heap :=
 if fX h then (if 0≤cpu∧cpu<h.bw then (if br h.Live a then (0,ic h cpu a) else (4,⟨[],[],0,[],[]⟩)) else (1,⟨[],[],0,[],[]⟩)) else (8,⟨[],[],0,[],[]⟩)
theorem Ec {h:Heap} {cpu a:Int} (hb:fX h=false) : ga h cpu a=(8,⟨[],[],0,[],[]⟩):=by simp [ga,hb]
theorem Ed {h:Heap} {cpu a:Int} (hb:fX h=true) (hc : ¬ (0≤cpu∧cpu<h.bw)) : ga h cpu a=(1,⟨[],[],0,[],[]⟩):=by simp only [ga,hb,if_true,if_neg hc]
theorem Ee {h:Heap} {cpu a:Int} (hb:fX h=true) (hc : 0≤cpu∧cpu<h.bw) (hf:br h.Live a=false) : ga h cpu a=(4,⟨[],[],0,[],[]⟩):=by simp only [ga,hb,if_true,if_pos hc,hf,Bool.false_eq_true,if_false]
theorem nB {h:Heap} {cpu a:Int} (hb:fX h=true) (hc : 0≤cpu∧cpu<h.bw) (hf:br h.Live a=true) : ga h cpu a=(0,ic h cpu a):=by simp only [ga,hb,if_true,if_pos hc,hf]
theorem nC {h:Heap} {z0 z1:ao} {cpu a:Int} (hz:h.bf=[z0,z1]) {k:Nat} (hk:k<h.Live.length) (e:bi h.Live a=k) (ho : 0<h.Live[k].Order) : ic h cpu a=oO h z0 z1 h.Live[k] (h.Live.eraseIdx k):=by
 have:h.Live.getD k ⟨0,0,0⟩=h.Live[k]:=by rw [List.getD_eq_getElem?_getD,List.getElem?_eq_getElem hk];rfl
 simp only [ic,hz,e,this,if_pos ho]
theorem nD {h:Heap} {z0 z1:ao} {cpu a:Int} (hz:h.bf=[z0,z1]) {k:Nat} (hk:k<h.Live.length) (e:bi h.Live a=k) (ho : ¬ 0<h.Live[k].Order) : ic h cpu a=iQ h z0 z1 (keyOf z0 z1 cpu a) (cd h.au (keyOf z0 z1 cpu a)++[a]) (h.Live.eraseIdx k):=by
 have:h.Live.getD k ⟨0,0,0⟩=h.Live[k]:=by rw [List.getD_eq_getElem?_getD,List.getElem?_eq_getElem hk];rfl
 simp only [ic,hz,e,this,if_neg ho]
structure gq (h:Heap) (z0 z1:ao) : Prop where
 d:lF h z0 z1
 mr:AP h.au
 live:ff h.Live
 lists:∀ l∈h.au,1≤l.av.length∧l.av.length≤8
 all:(bh (some []) (z0.aj++z1.aj++aR h.au++h.Live)).isSome=true
 cpus : 1≤h.bw∧h.bw≤4
 count:h.au.length≤256
theorem xU {l m:List Block} {a o:Int} (h:∀ x∈l,x∈m) (ho:iC m a o=false) : iC l a o=false:=by
 unfold iC at *;rw [List.any_eq_false] at *;exact fun x hx=>ho x (h x hx)
theorem mL.sub {l m:List Block} {b:Block} (h:mL m b) (hs:∀ x∈l,x∈m) : mL l b:=⟨h.ord,h.at_,h.al,⟨h.fits.1,h.fits.2.1,xU hs h.fits.2.2⟩,fun x hx=>h.NO x (hs x hx)⟩
theorem gq.next {h:Heap} {z0 z1:ao} (f:gq h z0 z1) {k:Nat} (hk:k<h.Live.length) : mL (z0.aj++z1.aj) h.Live[k]:=by
 have fk:=f.all;have e:z0.aj++z1.aj++aR h.au++h.Live=(z0.aj++z1.aj++aR h.au++h.Live.take k)++h.Live[k]::h.Live.drop (k+1):=by simp
 rw [e] at fk;have hf:=nw fk;have hl:=f.live.each k hk;have hs:∀ x∈z0.aj++z1.aj,x∈z0.aj++z1.aj++aR h.au++h.Live.take k:=fun x hx=>List.mem_append_left _ (List.mem_append_left _ hx)
 obtain ⟨l1,l2,l3,l4⟩:=hl;refine ⟨l1,by omega,l3,⟨hf.1,hf.2.1,xU hs hf.2.2⟩,fun x hx => ?_⟩;rcases List.mem_append.1 hx with hx|hx
 ·exact js f.d.kf x hx
 ·exact js f.d.j3 x hx
theorem gq.CN {h:Heap} {z0 z1:ao} (f:gq h z0 z1) {i j:Nat} (hi:i<h.au.length) (hj:j<h.au[i].av.length) : mL (z0.aj++z1.aj++(h.au[i].av.take j).map bL) (bL h.au[i].av[j]):=by
 obtain ⟨hK,NR⟩:=uG hi hj;have hN:=f.d.next hK;rw [NR] at hN;refine hN.sub fun x hx => ?_
 rcases List.mem_append.1 hx with hx|hx
 ·exact List.mem_append_left _ hx
 ·refine List.mem_append_right _ ?_;obtain ⟨p,hp,rfl⟩:=List.mem_map.1 hx;obtain ⟨m,hm,rfl⟩:=List.getElem_of_mem hp;simp only [List.length_take] at hm;rw [List.getElem_take];obtain ⟨hM,Tz⟩:=uG hi (show m<h.au[i].av.length by omega);rw [← Tz];exact List.mem_take_iff_getElem.2 ⟨iI h.au i+m,by omega,rfl⟩
theorem gq.inv {h:Heap} {z0 z1:ao} (f:gq h z0 z1) {i:Nat} (hi:i<h.au.length) : ∀ j,j≤h.au[i].av.length→nv (bE (z0,z1) ((h.au[i].av.take j).map bL)) (z0.aj++z1.aj++(h.au[i].av.take j).map bL)
 | 0,_=>by simpa [bE] using f.d.start
 | j+1,hj=>by
   have ih:=(f.inv hi j (by omega)).back (f.CN hi (show j<_ by omega))
   have e:(h.au[i].av.take (j+1)).map bL=(h.au[i].av.take j).map bL++[bL h.au[i].av[j]]:=by
    rw [List.take_succ_eq_append_getElem (by omega),List.map_append];rfl
   rw [e,← List.append_assoc,lE];exact ih.1
theorem fO {h:Heap} (hm:bp h) : ∃ z0 z1,gq h z0 z1:=by
 obtain ⟨z0,z1,h1,h2,h3,h4,h5,h6,h7,h8⟩:=hm.cj;have hd:lF h z0 z1:=⟨h1,h2,h3,h4,h5,h6,hU h8⟩
 have hl:∀ l∈h.au,1≤l.av.length∧l.av.length≤8:=fun l hl=>by
  obtain ⟨i,hi,rfl⟩:=List.getElem_of_mem hl;exact (h7.head i hi).2.2.2
 refine ⟨z0,z1,hd,zv h7,hm.live,hl,h8,hm.cpus,?_⟩
 have key:∀ k,k≤h.au.length→k≤iI h.au k:=by
  intro k;induction k with
  | zero=>intro _;omega
  | succ k ih =>
    intro hk;have:=ih (by omega)
    have:=(hl _ (List.getElem_mem (show k<h.au.length by omega))).1
    rw [vI (show k<h.au.length by omega)];omega
 have hc:=key _ (Nat.le_refl _);rw [zu] at hc
 have hb:(aR h.au).length≤256:=by
  obtain ⟨bs,ND⟩:=Option.isSome_iff_exists.1 hd.all;have h9:=CM hd.pw ND;have e:=me ND;rw [List.nil_append] at e;subst e;simp only [List.length_append] at h9;omega
 omega
theorem LQ {x y:Int} (h1 : 0≤x) (h2:x≤64) (h3 : 0≤y) (h4:y≤64) : 0≤x*y∧x*y≤4096 :=
 ⟨Int.mul_nonneg h1 h3,by have:=Int.mul_le_mul h2 h4 h3 (by omega:(0:Int)≤64);omega⟩
def iJ (size g7 t a:Int) : Bool:=decide (0≤a-t*16) && decide (a-t*16<g7*size) && decide ((a-t*16) % size=0)
theorem G7 {size g7 t a:Int} {k:Nat} (hs : 1≤size) (hk:(k:Int)<g7) (h:a=16*t+k*size) : iJ size g7 t a=true:=by
 have e:a-t*16=k*size:=by omega
 unfold iJ;rw [e,decide_eq_true (Int.mul_nonneg (by omega) (by omega)),decide_eq_true (Int.mul_lt_mul_of_pos_right hk (by omega)),decide_eq_true (Int.mul_emod_left _ _)]
 rfl
def cm (ws:List Int) (size g7:Int) (x:Slab) (out:List Int) : Prop:=ef ws g7 x.cr [] (some out)∧(out.length:Int)=x.aj ∧ ∀ a∈out,iJ size g7 x.At a=true
theorem ef.mem {l:List Int} {most x:Int} {acc:List Int} {r:Option (List Int)} (h:ef l most x acc r) : (∀ a∈acc,0≤a∧a<(l.length:Int)) → ∀ out,r=some out → ∀ a∈out,0≤a∧a<(l.length:Int):=by
 induction h with
 | done out=>intro ha o e;cases e;exact ha
 | bad=>intro _ _ e;cases e
 | @step k out r h1 hk h3 h ih =>
   intro ha o e;refine ih (fun a hm => ?_) o e;rcases List.mem_append.1 hm with hm|hm
   ·exact ha a hm
   ·simp at hm;subst hm;exact ⟨by omega,by omega⟩
theorem cm.ir {ws:List Int} {size g7:Int} {x:Slab} {out NS:List Int} (h:cm ws size g7 x out) (h':cm ws size g7 x NS) : out=NS:=by
 have:=h.1.ir h'.1
 injection this
def mM (l:List Block) (a:Int) : Int:=if br l a then (l.getD (bi l a) ⟨0,0,0⟩).Order else -1
theorem vS {l:List Block} {a:Int} (h:br l a=true) (hk:bi l a<l.length) : mM l a=l[bi l a].Order:=by
 unfold mM;rw [if_pos h];simp [List.getD,hk]
theorem zA {l:List Block} {a:Int} (h:br l a=false) : mM l a = -1:=by
 unfold mM;rw [h]
 rfl
structure rq (s:ag) (c:aF) (i:Nat) (h:i<c.ab.length) : Prop where
 live:mM s.Heap.Live c.ab[i].At=c.Order
 next : 0<i→(c.ab[i-1]'(by omega)).At<c.ab[i].At
 chain:∃ out,cm s.Words c.aE c.bG c.ab[i] out
def xg (t:Int) (x:Slab) : Bool:=decide (x.At=t)
def qB (c:aF) (i:Nat) (h:i<c.ar.length) : Prop:=c.ar[i] = -1∨(c.ar[i]∉c.ar.take i∧c.ab.any (xg c.ar[i])=true)
structure dP (s:ag) (c:aF) : Prop where
 lay:dy c.aE=(c.Order,c.bG,0)
 names : 0<c.Names.length
 a8:(c.ar.length:Int)=s.Heap.bw
 aH:∀ (i:Nat) (h:i<c.ab.length),rq s c i h
 rr:∀ (i:Nat) (h:i<c.ar.length),qB c i h
noncomputable def ms (s:ag) (c:aF) : Bool := @decide (dP s c) (Classical.propDecidable _)
theorem vT {s:ag} {c:aF} (a:dP s c) : ms s c=true:=by unfold ms;exact @decide_eq_true _ (Classical.propDecidable _) a
theorem lG {s:ag} {c:aF} (a : ¬ dP s c) : ms s c=false:=by unfold ms;exact @decide_eq_false _ (Classical.propDecidable _) a
theorem CO {s:ag} {c:aF}:ms s c=true↔dP s c:=by
 by_cases a:dP s c
 ·simp [vT a,a]
 ·simp [lG a,a]
theorem db {x o n:Int} (h:dy x=(o,n,0)) : (1≤x∧x≤64)∧(0≤o∧o≤2)∧(1≤n∧n≤64):=by
 unfold dy at h;split at h
 ·rename_i hx;have k1 : 64 / x≤64:=Int.ediv_le_self _ (by omega)
  have k2 : 1≤64 / x:=by rw [Int.le_ediv_iff_mul_le (by omega)];omega
  have k3 : 16 / x≤16:=Int.ediv_le_self _ (by omega)
  have k4 : 32 / x≤32:=Int.ediv_le_self _ (by omega)
  split at h
  ·simp only [Prod.mk.injEq] at h;omega
  ·split at h
   ·simp only [Prod.mk.injEq] at h;omega
   ·simp only [Prod.mk.injEq] at h;omega
 ·simp only [Prod.mk.injEq] at h;omega
def cT (cs:List aF) : List ByteArray:=cs.flatMap fun c=>c.Names
def aS (cs:List aF) : List Int:=cs.flatMap fun c=>c.ab.map fun x=>x.At
structure uH (acc l:List ByteArray) : Prop where
 each:∀ (k:Nat) (h:k<l.length),fy l[k]=true∧l[k]∉acc++l.take k∧(0<k→eI (l[k-1]'(by omega)) l[k]=true)
def zB (acc:List Int) (l:List Slab) : Prop := ∀ (k:Nat) (h:k<l.length),l[k].At∉acc++(l.take k).map fun x=>x.At
structure pC (s:ag) (i:Nat) (h:i<s.aa.length) : Prop where
 may:dP s s.aa[i]
 size:∀ (j:Nat) (hj:j<i),(s.aa[j]'(by omega)).aE≠s.aa[i].aE
 names:uH (cT (s.aa.take i)) s.aa[i].Names
 aH:zB (aS (s.aa.take i)) s.aa[i].ab
structure a9 (s:ag) : Prop where
 words:s.Words.length=4096
 heap:bp s.Heap
 most:s.aa.length≤20
 each:∀ (i:Nat) (h:i<s.aa.length),pC s i h
noncomputable def en (s:ag) : Bool := @decide (a9 s) (Classical.propDecidable _)
theorem jP {s:ag} (a:a9 s) : en s=true:=by unfold en;exact @decide_eq_true _ (Classical.propDecidable _) a
theorem sH {s:ag} (a : ¬ a9 s) : en s=false:=by unfold en;exact @decide_eq_false _ (Classical.propDecidable _) a
theorem ie {s:ag}:en s=true↔a9 s:=by
 by_cases a:a9 s
 ·simp [jP a,a]
 ·simp [sH a,a]
theorem n8 (cs:List aF) (i:Nat) (h:i<cs.length) : cT (cs.take (i+1))=cT (cs.take i)++cs[i].Names:=by
 unfold cT;rw [List.take_succ_eq_append_getElem h,List.flatMap_append];simp
theorem n9 (cs:List aF) (i:Nat) (h:i<cs.length) : aS (cs.take (i+1))=aS (cs.take i)++cs[i].ab.map fun x=>x.At:=by
 unfold aS;rw [List.take_succ_eq_append_getElem h,List.flatMap_append];simp
end Go.Proofs.YtbidkghlpijecaaGreatDoor
