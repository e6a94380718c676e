/-
  Texts of the claim SlabBulks, part 9: what its theorem leans on.
-/
import Derived.Test.YtjimadiidbkohaaGreatDoorPackSlabBulks8
import Derived.Test.YtjimadiidbkohaaGreatDoorPackSlabBulks5
import Derived.Test.YtjimadiidbkohaaGreatDoorPackSlabBulks2
import Derived.Test.YtjimadiidbkohaaGreatDoorPackSlabBulks1
import Derived.Great.BuildSlice
import Derived.ArgAppend
import Derived.Test.YtjimadiidbkohaaGreatDoorPackSlabBulks4
import Derived.Test.YtjimadiidbkohaaGreatDoorPackSlabBulks6
set_option linter.unusedVariables false
set_option linter.unusedSimpArgs false
namespace Go.Proofs.YtjimadiidbkohaaGreatDoor
noncomputable def iM (s:aq×aq) (b:Block) : aq×aq:=if b.At<s.1.To then ((iZ s.1 b.At b.Order).2,s.2) else (s.1,(iZ s.2 b.At b.Order).2)
noncomputable def dt (s:aq×aq) (l:List Block) : aq×aq:=l.foldl iM s
theorem l7 (s:aq×aq) (l:List Block) (k:Nat) (h:k<l.length) : dt s (l.take (k+1))=iM (dt s (l.take k)) l[k]:=by
 unfold dt;rw [List.take_succ_eq_append_getElem h,List.foldl_append];rfl
structure nQ (s:aq×aq) (bs:List Block) : Prop where
 m8:bT s.1
 l8:bT s.2
 pk:s.1.aV=0
 Ag:s.1.To=s.2.aV
 ED:s.2.To=256
 B6:∀ i,(dV s.1.ag i || dV s.2.ag i)=dV bs i
theorem fq (l m:List Block) (i:Nat) : dV (l++m) i=(dV l i || dV m i):=by simp [dV]
theorem j6 {z:aq} (h:bT z) : ∀ b∈z.ag,0≤b.At∧1≤pw b.Order:=fun b hb=>by
 obtain ⟨i,hi,rfl⟩:=List.getElem_of_mem hb;have h1:=(h.cV i hi).1;have h2:=h.ok.1;have:=bH h1.1 h1.2.1
 obtain ⟨_,_,h3,_,_⟩:=h1;omega
structure qG (bs:List Block) (b:Block) : Prop where
 ord : 0≤b.Order∧b.Order≤4
 at_ : 0≤b.At∧b.At<256
 al:b.At % pw b.Order=0
 fits:ly bs b
 ou:∀ x∈bs,0≤x.At∧1≤pw x.Order
theorem nQ.free {s:aq×aq} {bs:List Block} (h:nQ s bs) {b:Block} (hb:qG bs b) : fc s.1.ag b.At b.Order=false∧fc s.2.ag b.At b.Order=false:=by
 have hp:=bH hb.ord.1 hb.ord.2;have hm:=(rC hb.ou hp.1).2 hb.fits;obtain ⟨m1,m2,m3,m4⟩:=hm
 have key:∀ l:List Block,(∀ x∈l,0≤x.At∧1≤pw x.Order)→(∀ i,dV l i=true→dV bs i=true)→fc l b.At b.Order=false:=fun l hl hc =>
  ((rC hl hp.1).1 ⟨m1,m2,m3,fun i h1 h2=>by
   cases e:dV l i with
   | false=>rfl
   | true=>have:=hc i e;rw [m4 i h1 h2] at this;cases this⟩).2.2
 exact ⟨key _ (j6 h.m8) fun i hi=>by rw [← h.B6 i,hi];rfl,key _ (j6 h.l8) fun i hi=>by rw [← h.B6 i,hi];simp⟩
theorem nQ.low {s:aq×aq} {bs:List Block} (h:nQ s bs) {b:Block} (hb:qG bs b) (hl:b.At<s.1.To) : e8 s.1.aV s.1.To b.At b.Order:=⟨hb.ord.1,hb.ord.2,by rw [h.pk];exact hb.at_.1,hl,hb.al⟩
theorem nQ.uh {s:aq×aq} {bs:List Block} (h:nQ s bs) {b:Block} (hb:qG bs b) (hl : ¬ b.At<s.1.To) : e8 s.2.aV s.2.To b.At b.Order:=⟨hb.ord.1,hb.ord.2,by rw [← h.Ag];omega,by rw [h.ED];exact hb.at_.2,hb.al⟩
theorem sE (b:Block) (i:Nat) : dV [b] i=pX b i:=by simp [dV]
theorem nQ.back {s:aq×aq} {bs:List Block} (h:nQ s bs) {b:Block} (hb:qG bs b) : nQ (iM s b) (bs++[b])∧(iM s b).1.To=s.1.To:=by
 obtain ⟨o0,o1⟩:=h.free hb;unfold iM;by_cases hl:b.At<s.1.To
 ·rw [if_pos hl];obtain ⟨_,k⟩:=sD h.m8 (h.low hb hl) o0;refine ⟨⟨k.may,h.l8,by rw [← h.pk];exact k.from_,by rw [← h.Ag];exact k.ka,h.ED,fun i => ?_⟩,k.ka⟩;rw [fq,sE,← h.B6 i];simp only;rw [k.B6 i];have:pX ⟨b.At,b.Order,0⟩ i=pX b i:=rfl
  rw [this];cases dV s.1.ag i<;>cases dV s.2.ag i<;>cases pX b i<;>rfl
 ·rw [if_neg hl];obtain ⟨_,k⟩:=sD h.l8 (h.uh hb hl) o1;refine ⟨⟨h.m8,k.may,h.pk,by simp only;rw [k.from_];exact h.Ag,by simp only;rw [k.ka];exact h.ED,fun i => ?_⟩,rfl⟩;rw [fq,sE,← h.B6 i];simp only;rw [k.B6 i];have:pX ⟨b.At,b.Order,0⟩ i=pX b i:=rfl
  rw [this,Bool.or_assoc]
theorem kL:∀ {l s t:List Block},bj (some s) l=some t→t=s++l
 | [],s,t,h=>by simp [bj] at h;simp [h]
 | b::l,s,t,h=>by
   have e:bj (some s) (b::l)=bj (jW (some s) b) l:=rfl
   rw [e] at h;cases e2:jW (some s) b with
   | none=>rw [e2,fp] at h;cases h
   | some u =>
     rw [e2] at h;obtain ⟨cs,gU,_,rfl⟩:=lz e2;cases gU
     rw [kL h];simp
theorem l9 {l m:List Block} {b:Block} (h:(bj (some []) (l++b::m)).isSome=true) : ly l b:=by
 have h1:(bj (some []) (l++[b])).isSome=true:=ff (m:=m) (by simpa using h)
 rw [br] at h1;cases e:bj (some []) l with
 | none=>rw [e,fp] at h1;cases h1
 | some t =>
   have:=kL e
   rw [List.nil_append] at this;subst this;rw [e] at h1;cases e2:bj (some t) [b] with
   | none=>rw [e2] at h1;cases h1
   | some u =>
     have:jW (some t) b=some u:=e2
     obtain ⟨cs,gU,hf,_⟩:=lz this;cases gU
     exact hf
theorem xn {l:List Block} (h:(bj (some []) l).isSome=true) (hb:∀ b∈l,1≤pw b.Order) : ∀ x∈l,0≤x.At∧1≤pw x.Order:=by
 have hg:=iz (l:=l) uI hb;obtain ⟨t,ht⟩:=Option.isSome_iff_exists.1 h;have e:=kL ht;rw [List.nil_append] at e;subst e;exact hg _ ht
structure lC (h:Heap) (z0 z1:aq) : Prop where
 cx:h.aN=[z0,z1]
 m8:bT z0
 l8:bT z1
 pk:z0.aV=0
 Ag:z0.To=z1.aV
 ED:z1.To=256
 all:(bj (some []) (z0.ag++z1.ag++aS h.av)).isSome=true
theorem sG {l:List aA}:∀ b∈aS l,b.Order=0:=fun b hb=>by
 unfold aS at hb;obtain ⟨x,_,hx⟩:=List.mem_flatMap.1 hb;obtain ⟨p,_,rfl⟩:=List.mem_map.1 hx
 rfl
theorem lC.start {h:Heap} {z0 z1:aq} (d:lC h z0 z1) : nQ (z0,z1) (z0.ag++z1.ag):=⟨d.m8,d.l8,d.pk,d.Ag,d.ED,fun i=>by rw [fq]⟩
theorem lC.pw {h:Heap} {z0 z1:aq} (d:lC h z0 z1) : ∀ b∈z0.ag++z1.ag++aS h.av,1≤pw b.Order:=fun b hb=>by
 rcases List.mem_append.1 hb with hb|hb
 ·rcases List.mem_append.1 hb with hb|hb
  ·exact (j6 d.m8 b hb).2
  ·exact (j6 d.l8 b hb).2
 ·rw [sG b hb,js];omega
theorem lC.next {h:Heap} {z0 z1:aq} (d:lC h z0 z1) {k:Nat} (hk:k<(aS h.av).length) : qG (z0.ag++z1.ag++(aS h.av).take k) (aS h.av)[k]:=by
 have gd:=d.all;have e:z0.ag++z1.ag++aS h.av=(z0.ag++z1.ag++(aS h.av).take k)++(aS h.av)[k]::(aS h.av).drop (k+1):=by simp
 rw [e] at gd;have hf:=l9 gd;have ho:=sG _ (List.getElem_mem hk)
 have hg:=xn (ff gd) (fun b hb=>d.pw b (by
  rcases List.mem_append.1 hb with hb|hb
  ·exact List.mem_append_left _ hb
  ·exact List.mem_append_right _ (List.mem_of_mem_take hb)))
 have hp:=js;refine ⟨by rw [ho];decide,⟨hf.1,?_⟩,by rw [ho,hp];omega,hf,hg⟩;have:=hf.2.1
 rw [ho,hp] at this;omega
theorem lC.inv {h:Heap} {z0 z1:aq} (d:lC h z0 z1) : ∀ k,k≤(aS h.av).length→nQ (dt (z0,z1) ((aS h.av).take k)) (z0.ag++z1.ag++(aS h.av).take k)
 | 0,_=>by simpa [dt] using d.start
 | k+1,hk=>by
   have ih:=(d.inv k (by omega)).back (d.next (show k<_ by omega));rw [l7 _ _ _ (by omega),List.take_succ_eq_append_getElem (by omega),← List.append_assoc];exact ih.1
def gX (l:List aA) (i:Nat) : Nat:=(aS (l.take i)).length
theorem sH {l:List aA} {i:Nat} (hi:i<l.length) : gX l (i+1)=gX l i+l[i].aw.length:=by
 unfold gX;rw [kK _ _ hi];simp
theorem yN (l:List aA) (i:Nat) : aS l=aS (l.take i)++aS (l.drop i):=by
 unfold aS;rw [← List.flatMap_append,List.take_append_drop]
theorem Ah {l:List aA} {i j:Nat} (hi:i<l.length) (hj:j<l[i].aw.length) : ∃ h:gX l i+j<(aS l).length,(aS l)[gX l i+j]=cX (l[i].aw[j]):=by
 have e:=yN l i;have e2:l.drop i=l[i]::l.drop (i+1):=by simp
 have e3:aS (l.drop i)=l[i].aw.map cX++aS (l.drop (i+1)):=by rw [e2];rfl
 have c8:gX l i+j<(aS l).length:=by rw [e,e3];simp [gX];omega
 refine ⟨c8,?_⟩
 have:(aS l)[gX l i+j]?=some (cX (l[i].aw[j])):=by
  rw [e,List.getElem?_append_right (by unfold gX;omega)];have:gX l i+j-(aS (l.take i)).length=j:=by unfold gX;omega
  rw [this,e3,List.getElem?_append_left (by simpa using hj)];simp [hj]
 rw [List.getElem?_eq_getElem c8] at this;exact Option.some.inj this
theorem vJ (l:List aA) : gX l l.length=(aS l).length:=by simp [gX]
def dk (a b:aA) : Prop:=a.dU=b.dU∧a.aq=b.aq∧a.Ty=b.Ty
instance (a b:aA) : Decidable (dk a b):=inferInstanceAs (Decidable (_∧_))
def rH (L:List aA) : Prop:=L.Pairwise bz
theorem qH {a b c:aA} (h1:bz a b) (h2:bz b c) : bz a c:=by unfold bz at *;omega
theorem uO (a b:aA) : bz a b∨dk a b∨bz b a:=by unfold bz dk;omega
theorem j7 {a b:aA} (h:bz a b) : ¬ dk a b ∧ ¬ dk b a ∧ ¬ bz b a:=by unfold bz dk at *;omega
theorem vK {c t:Int} {L:List aA} (h:kJ c t L) : rH L:=by
 have key:∀ (d i:Nat) (hj:i+d+1<L.length),bz (L[i]'(by omega)) L[i+d+1]:=by
  intro d;induction d with
  | zero=>intro i hj;exact h.next i hj
  | succ d ih=>intro i hj;exact qH (ih i (by omega)) (h.next (i+d+1) (by omega))
 unfold rH;rw [List.pairwise_iff_getElem];intro i j hi hj kX;have:=key (j-i-1) i (by omega)
 have e:i+(j-i-1)+1=j:=by omega
 simp only [e] at this;exact this
theorem rH.get {L:List aA} (h:rH L) {i j:Nat} (hj:j<L.length) (kX:i<j) : bz (L[i]'(Nat.lt_trans kX hj)) L[j]:=by
 unfold rH at h;rw [List.pairwise_iff_getElem] at h;exact h i j (by omega) hj kX
def a9 (L:List aA) (x:aA) : Nat:=L.findIdx fun l => !decide (bz l x)
theorem fW (L:List aA) (x:aA) : a9 L x≤L.length:=List.findIdx_le_length
theorem ma {L:List aA} {x:aA} {k:Nat} (hk:k<a9 L x) : bz (L[k]'(Nat.lt_of_lt_of_le hk (fW L x))) x:=by
 have:=List.not_of_lt_findIdx hk
 simpa using this
theorem Ai {L:List aA} {x:aA} (h:a9 L x<L.length) : ¬ bz (L[a9 L x]) x:=by
 have:=List.findIdx_getElem (w:=h)
 exact of_decide_eq_false (by rw [Bool.not_eq_true'] at this;exact this)
theorem nB {L:List aA} {x:aA} {i:Nat} (hi:i≤L.length) (h1:∀ (k:Nat) (h:k<L.length),k<i→bz L[k] x) (h2:∀ h:i<L.length,¬ bz L[i] x) : a9 L x=i:=by
 unfold a9;by_cases h:i<L.length
 ·exact (List.findIdx_eq h).2 ⟨by simpa using h2 h,fun j hj=>by simpa using h1 j (by omega) hj⟩
 ·have e:i=L.length:=by omega
  subst e;rw [List.findIdx_eq_length];intro y hy;obtain ⟨k,hk,rfl⟩:=List.getElem_of_mem hy;simpa using h1 k hk hk
def bU (L:List aA) (x:aA) : Bool:=if h:a9 L x<L.length then decide (dk L[a9 L x] x) else false
theorem jt {L:List aA} {x:aA} (h:bU L x=true) : ∃ hk:a9 L x<L.length,dk L[a9 L x] x:=by
 unfold bU at h;split at h
 ·rename_i hk;exact ⟨hk,of_decide_eq_true h⟩
 ·cases h
theorem Aj {L:List aA} {x:aA} (h:bU L x=false) (hk:a9 L x<L.length) : bz x L[a9 L x]:=by
 unfold bU at h;rw [dif_pos hk] at h;have h1:=of_decide_eq_false h;have h2:=Ai hk;rcases uO L[a9 L x] x with e|e|e
 ·exact absurd e h2
 ·exact absurd e h1
 ·exact e
theorem CV {L:List aA} (hs:rH L) {x:aA} {k:Nat} (hk:k<L.length) (h:dk L[k] x) : a9 L x=k∧bU L x=true:=by
 have e:a9 L x=k:=nB (by omega) (fun j hj kx=>by have:=hs.get hk kx;unfold bz dk at *;omega) (fun _=>by unfold bz dk at *;omega)
 refine ⟨e,?_⟩;unfold bU;simp only [e,dif_pos hk];exact decide_eq_true h
theorem CX {L:List aA} {x:aA} (h:∀ (k:Nat) (hk:k<L.length),¬ dk L[k] x) : bU L x=false:=by
 cases e:bU L x with
 | false=>rfl
 | true=>obtain ⟨hk,h1⟩:=jt e;exact absurd h1 (h _ hk)
theorem jD {L:List aA} {x y:aA} (h:dk x y) : a9 L x=a9 L y∧bU L x=bU L y:=by
 have e:(fun l => !decide (bz l x))=(fun l:aA => !decide (bz l y)):=by
  funext l
  have:bz l x↔bz l y:=by unfold bz dk at *;omega
  simp [this]
 have e1:a9 L x=a9 L y:=by unfold a9;rw [e]
 refine ⟨e1,?_⟩;unfold bU;simp only [e1];split
 ·have:dk L[a9 L y] x↔dk L[a9 L y] y:=by unfold dk at *;omega
  simp [this]
 ·rfl
def jM (L:List aA) (x:aA) : List aA:=if bU L x then L.set (a9 L x) x else aU L (a9 L x) x
theorem ov {L:List aA} {x:aA} (h:bU L x=true) : jM L x=L.set (a9 L x) x:=by rw [jM,if_pos h]
theorem ow {L:List aA} {x:aA} (h:bU L x=false) : jM L x=aU L (a9 L x) x:=by rw [jM,if_neg (by simp [h])]
def dE (L:List aA) (x:aA) : List Int:=if bU L x then (L.getD (a9 L x) x).aw else []
theorem jj {L:List aA} {x:aA} (h:bU L x=true) (hk:a9 L x<L.length) : dE L x=L[a9 L x].aw:=by
 rw [dE,if_pos h,List.getD_eq_getElem?_getD,List.getElem?_eq_getElem hk];rfl
theorem lD {L:List aA} {x:aA} (h:bU L x=false) : dE L x=[]:=by rw [dE,if_neg (by simp [h])]
theorem du {α:Type} (l:List α) {i:Nat} (h:i≤l.length) (x : α) : (aU l i x).length=l.length+1:=by simp [aU];omega
theorem sI {α:Type} {l:List α} {i:Nat} (h:i≤l.length) {x : α} {k:Nat} (hk:k<i) : (aU l i x)[k]?=l[k]?:=by
 unfold aU;rw [List.append_assoc,List.getElem?_append_left (by simp;omega),List.getElem?_take_of_lt hk]
theorem kg {α:Type} {l:List α} {i:Nat} (h:i≤l.length) {x : α}:(aU l i x)[i]?=some x:=by
 unfold aU;rw [List.append_assoc,List.getElem?_append_right (by simp;omega)];have:i-(l.take i).length=0:=by simp;omega
 rw [this];rfl
theorem pn {α:Type} {l:List α} {i:Nat} (h:i≤l.length) {x : α} {k:Nat} (hk:i≤k) : (aU l i x)[k+1]?=l[k]?:=by
 unfold aU;rw [List.append_assoc,List.getElem?_append_right (by simp;omega)];have:k+1-(l.take i).length=(k-i)+1:=by simp;omega
 rw [this,List.singleton_append,List.getElem?_cons_succ,List.getElem?_drop];congr 1
 omega
theorem qg {α:Type} {l:List α} {i:Nat} (h:i≤l.length) (x y : α) : (aU l i x).set i y=aU l i y:=by
 unfold aU;rw [List.append_assoc,List.append_assoc,List.set_append_right _ _ (by simp;omega)];have:i-(l.take i).length=0:=by simp;omega
 rw [this];rfl
theorem xo {L:List aA} {x:aA}:(jM L x)[a9 L x]?=some x:=by
 cases h:bU L x
 ·rw [ow h];exact kg (fW L x)
 ·obtain ⟨hk,_⟩:=jt h;rw [ov h,List.getElem?_set_self hk]
theorem CY {L:List aA} {x:aA}:a9 (jM L x) x=a9 L x∧bU (jM L x) x=true:=by
 have hg:=xo (L:=L) (x:=x);obtain ⟨hk,hx⟩:=List.getElem?_eq_some_iff.1 hg
 have e:a9 (jM L x) x=a9 L x:=by
  refine nB (by omega) (fun j hj kx => ?_) (fun _ => ?_)
  ·have h0:=ma (L:=L) (x:=x) kx
   have e1:(jM L x)[j]?=L[j]?:=by
    cases h:bU L x
    ·rw [ow h];exact sI (fW L x) kx
    ·rw [ov h,List.getElem?_set_ne (by omega)]
   rw [List.getElem?_eq_getElem hj,List.getElem?_eq_getElem (Nat.lt_of_lt_of_le kx (fW L x))] at e1;injection e1 with e1
   rw [e1];exact h0
  ·rw [hx];unfold bz;omega
 refine ⟨e,?_⟩;unfold bU;simp only [e,dif_pos hk,hx];exact decide_eq_true ⟨rfl,rfl,rfl⟩
theorem CZ {L:List aA} {x y:aA} (h:dk x y) : (jM L x).set (a9 L x) y=jM L y:=by
 obtain ⟨e1,e2⟩:=jD (L:=L) h;cases hh:bU L x
 ·rw [ow hh,ow (by rw [← e2];exact hh),qg (fW L x),e1]
 ·rw [ov hh,ov (by rw [← e2];exact hh),List.set_set,e1]
def bW (L:List aA) (x:aA) (k:Nat) : List aA:=if k≤a9 L x then L.take k else if bU L x then (L.set (a9 L x) x).take k else (aU L (a9 L x) x).take (k+1)
theorem m9 {α:Type} {l:List α} {k:Nat} {x : α} (h:l[k]?=some x) : l.take (k+1)=l.take k++[x]:=by
 obtain ⟨hk,rfl⟩:=List.getElem?_eq_some_iff.1 h;exact List.take_succ_eq_append_getElem hk
theorem yO {L:List aA} {x:aA} {k:Nat} (hk:k<a9 L x) : bW L x (k+1)=bW L x k++[L[k]'(Nat.lt_of_lt_of_le hk (fW L x))]:=by
 have:=fW L x
 rw [bW,if_pos (by omega),bW,if_pos (by omega)];exact List.take_succ_eq_append_getElem (by omega)
theorem xp {L:List aA} {x:aA} {k:Nat} (hk:k=a9 L x) (hh:bU L x=true) : bW L x (k+1)=bW L x k++[x]:=by
 obtain ⟨hl,_⟩:=jt hh;subst hk;rw [bW,if_neg (by omega),if_pos hh,bW,if_pos (Nat.le_refl _),m9 (x:=x) (List.getElem?_set_self hl),List.take_set_of_le (Nat.le_refl _)]
theorem A6 {L:List aA} {x:aA} {k:Nat} (hk:k=a9 L x) (hl:k<L.length) (hh:bU L x=false) : bW L x (k+1)=bW L x k++[x]++[L[k]]:=by
 subst hk;have hle:=fW L x;rw [bW,if_neg (by omega),if_neg (by simp [hh]),bW,if_pos (Nat.le_refl _),m9 (x:=L[a9 L x]) (by rw [pn hle (Nat.le_refl _),List.getElem?_eq_getElem hl]),m9 (kg hle)];congr 2
 unfold aU;rw [List.append_assoc,List.take_append_of_le_length (by simp;omega),List.take_take,Nat.min_self]
theorem xq {L:List aA} {x:aA} {k:Nat} (hk:a9 L x<k) (hl:k<L.length) : bW L x (k+1)=bW L x k++[L[k]]:=by
 have hle:=fW L x;rw [bW,if_neg (show ¬ k+1≤a9 L x by omega),bW,if_neg (show ¬ k≤a9 L x by omega)];cases hh:bU L x
 ·simp only [Bool.false_eq_true,if_false];exact m9 (by rw [pn hle (by omega),List.getElem?_eq_getElem hl])
 ·simp only [if_true];exact m9 (by rw [List.getElem?_set_ne (by omega),List.getElem?_eq_getElem hl])
theorem xr {L:List aA} {x:aA} (hk:a9 L x<L.length) : bW L x L.length=jM L x:=by
 rw [bW,if_neg (by omega),jM];split
 ·exact List.take_of_length_le (by simp)
 ·exact List.take_of_length_le (by rw [du _ (fW L x)];omega)
theorem xt {L:List aA} {x:aA} (hk : ¬ a9 L x<L.length) : bW L x L.length++[x]=jM L x:=by
 have hle:=fW L x;have e:a9 L x=L.length:=by omega
 have hf:bU L x=false:=by unfold bU;rw [dif_neg hk]
 rw [bW,if_pos (by omega),ow hf,e,aU];simp
open Go.RowKit
def sJ (y:bO) (x:aA) : Prop:=y.dU=x.dU∧y.aq=x.aq∧y.Ty=x.Ty
theorem Fl.key {w:World} {r:bO} {l:aA} (h:Fl w r l) : sJ r l:=⟨h.cpu,h.fC,h.ty⟩
theorem uP (r:eI) (L:List aA) (ls:List bO) (x:aA) (y:bO) (w:World) (hl:sc w r.av ls L) (hk:sJ y x) (hn:r.av.n≤1000000000000000000) :
 bt Tryz.prog 128 [.agg (bm r).toArray,.agg (bp y).toArray] w fun v _=>v = .tuple #[.int .i64 (a9 L x:Int),.bool (bU L x)]:=by
 refine aM Tryz.func128 rfl Tryz.ntmps128 rfl ?_;refine CW.seq (CW.region (SW.box rfl rfl fun b2 w1 hw im aK => ?_));refine SW.box rfl rfl fun b3 w2 cJ bM ar => ?_
 (replace hw:=Ext.trans hw cJ;replace aK:=aK.ext cJ);obtain ⟨l1,l2⟩:=hl.len;have hA:=hl.row.base;refine Wz ?_
 refine CW.loop (fun i:Nat=>[(2,.pointer (some ⟨b2,0,none⟩)),(3,.pointer (some ⟨b3,0,none⟩)),(6,.int .i64 (i:Int))])
  (fun i w'=>i≤r.av.n∧Ext w w'∧aI w' b2 27 (bm r)∧aI w' b3 62 (bp y) ∧ ∀ (k:Nat) (h:k<L.length),k<i→bz L[k] x) (fun i=>r.av.n-i) 0
  ⟨rfl,rfl,rfl,trivial⟩ ⟨by omega,hw,aK,ar,fun k h h'=>by omega⟩ ?_
 clear hw aK ar;rintro i w' ⟨hi,hw,aK,ar,hI⟩
 by_cases ck:i<r.av.n
 ·have kM:i<L.length:=by omega
  have lE:i<ls.length:=by omega
  have xu:=hl.each.get i lE kM;obtain ⟨q,hq⟩ : ∃ q,decide (bz L[i] x)=q:=⟨_,rfl⟩;obtain ⟨p,hp⟩ : ∃ p,decide (bz x L[i])=p:=⟨_,rfl⟩
  have cL:∀ w',bt Tryz.prog 96 [.agg (bp ls[i]).toArray,.agg (bp y).toArray] w' fun v _=>v = .bool q:=fun w'=>by
   have:=qe ls[i] y L[i] x w' xu.key hk
   rwa [hq] at this
  have cR:∀ w',bt Tryz.prog 96 [.agg (bp y).toArray,.agg (bp ls[i]).toArray] w' fun v _=>v = .bool p:=fun w'=>by
   have:=qe y ls[i] x L[i] w' hk xu.key
   rwa [hp] at this
  cases q
  ·have ll:=of_decide_eq_false hq;have ek:a9 L x=i:=nB (by omega) hI (fun _=>ll)
   have eh:bU L x = !p:=by
    unfold bU;simp only [ek,dif_pos kM,← hp];rcases uO L[i] x with e|e|e
    ·exact absurd e ll
    ·have : ¬ bz x L[i]:=by unfold bz dk at *;omega
     simp [e,this]
    ·have:=(j7 e).2.1
     simp [e,this]
   rw [ek,eh];cases p
   all_goals
    repeat' (first|refine Wz ?_|((apply CW.aP mixed;(· kernel_rfl);rotate_left;intro w1 ab;replace hw:=Ext.trans hw ab;replace aK:=aK.ext ab;replace ar:=ar.ext ab;clear ab;rotate_right))|refine SW.st (aH hw rfl rfl ((hl.row.all ck))) rfl ?_|refine SW.bq rfl rfl (fun w1 ab=>(cL _)) ?_|refine SW.bq rfl rfl (fun w1 ab=>(cR _)) ?_|exact SW.bx rfl)
    exact ae.cy rfl rfl rfl ⟨_,rfl,hw,rfl⟩
  ·have Kv:=of_decide_eq_true hq;repeat' (first|refine Wz ?_|((apply CW.aP mixed;(· kernel_rfl);rotate_left;intro w1 ab;replace hw:=Ext.trans hw ab;replace aK:=aK.ext ab;replace ar:=ar.ext ab;clear ab;rotate_right))|refine SW.st (aH hw rfl rfl ((hl.row.all ck))) rfl ?_|refine SW.bq rfl rfl (fun w1 ab=>(cL _)) ?_|exact SW.bx rfl)
   exact ae.again (i+1) ⟨rfl,rfl,rfl,trivial⟩ (by omega) ⟨by omega,hw,aK,ar,fun k h h'=>by
    by_cases e:k=i
    ·subst e;exact Kv
    ·exact hI k h (by omega)⟩
 ·have ek:a9 L x=i:=nB (by omega) hI (fun h=>by omega)
  have eh:bU L x=false:=by unfold bU;rw [dif_neg (by omega)]
  rw [ek,eh];repeat' (first|refine Wz ?_|((apply CW.aP mixed;(· kernel_rfl);rotate_left;intro w1 ab;replace hw:=Ext.trans hw ab;replace aK:=aK.ext ab;replace ar:=ar.ext ab;clear ab;rotate_right))|exact SW.bx rfl)
  exact ae.cy rfl rfl rfl ⟨_,rfl,hw,rfl⟩
theorem sK (A:Option Addr) (n c:Nat) (l:List Block) (a:Int) (w:World) (hl:Sl w 3 az A n l) (f:FuncId) [Body Tryz.prog f] (cv:Block→Int) (hf:∀ x∈l,∀ w',Ext w w'→bt Tryz.prog f ([.agg (az x).toArray,.int .i64 a]++[]) w' fun v _=>v = .int .i64 (cv x))
 (cG:∀ x∈l,cv x≠0) (hn:n≤1000000000000000000) : bt Tryz.prog 65 [.slice A n c,.int .i64 a,.func (.func f) #[] #[]] w fun v _ => ∃ i:Nat,v = .tuple #[.int .i64 (i:Int),.bool false]:=by
 refine aM Tryz.func65 rfl Tryz.ntmps65 rfl ?_;have hw:=Ext.refl w;have hA:=hl.base;have kB:=hl.len;refine Wz ?_
 refine CW.loop (fun s:Nat×Nat=>[(0,.slice A n c),(1,.int .i64 a),(2,.func (.func f) #[] #[]),(8,.int .i64 (n:Int)),(9,.int .i64 (s.1:Int)),(10,.int .i64 (s.2:Int))])
  (fun s w'=>s.1≤s.2∧s.2≤n∧Ext w w') (fun s=>s.2-s.1) (0,n)
  ⟨rfl,rfl,rfl,rfl,rfl,rfl,trivial⟩ ⟨by omega,by omega,hw⟩ ?_
 clear hw;rintro ⟨i,j⟩ w' ⟨kX,jo,hw⟩
 simp only at kX jo ⊢;by_cases c8:i<j
 ·have hk:(i+j) / 2<n:=by omega
  have di:=hl.lt hk;have oW:=fun w1 h1=>hf (l[(i+j) / 2]) (List.getElem_mem di) w1 h1
  repeat' (first|refine Wz ?_|refine SW.st (aH hw rfl rfl ((hl.all hk))) rfl ?_|(refine SW.st ((oZ Tryz.underlying3 oY rfl).eq (congrArg (Value.int .u64) (wrap_u64 (by omega) (by omega)))) rfl ?_)|(refine SW.st ((oZ oY Tryz.underlying3 rfl).eq (congrArg (Value.int .i64) (iH (by omega) (by omega)))) rfl ?_)|(refine SW.st (z8 rfl rfl) rfl ?_))
  refine SW.oP (cap:=[]) rfl rfl rfl (oW _ hw) fun v w1 ab hv => ?_
  subst hv;replace hw:=Ext.trans hw ab;by_cases Ib:cv l[(i+j) / 2]<0
  ·refine Wz ?_;exact ae.again ((i+j) / 2+1,j) ⟨rfl,rfl,rfl,rfl,congrArg (fun z=>some (Value.int .i64 z)) (by omega),rfl,trivial⟩ (by simp only;omega) ⟨by simp only;omega,jo,hw⟩
  ·refine Wz ?_;exact ae.again (i,(i+j) / 2) ⟨rfl,rfl,rfl,rfl,rfl,congrArg (fun z=>some (Value.int .i64 z)) (by omega),trivial⟩ (by simp only;omega) ⟨by simp only;omega,by simp only;omega,hw⟩
 ·obtain rfl:i=j:=by omega
  by_cases ck:i<n
  ·have di:=hl.lt ck;have oW:=fun w1 h1=>hf (l[i]) (List.getElem_mem di) w1 h1
   have h0:=cG (l[i]) (List.getElem_mem di);repeat' (first|refine Wz ?_|refine SW.st (aH hw rfl rfl ((hl.all ck))) rfl ?_)
   refine SW.oP (cap:=[]) rfl rfl rfl (oW _ hw) fun v w1 ab hv => ?_
   subst hv;replace hw:=Ext.trans hw ab;refine Wz ?_;refine ae.cy rfl rfl rfl ⟨_,rfl,hw,i,?_⟩;rw [decide_eq_false h0]
  ·refine Wz ?_;exact ae.cy rfl rfl rfl ⟨_,rfl,hw,i,rfl⟩
theorem xv (x:Block) (a:Int) (w:World) : bt Tryz.prog 124 ([.agg (az x).toArray,.int .i64 a]++[]) w fun v _=>v = .int .i64 (IntKind.i64.wrap (x.At-a)):=by
 refine aM Tryz.func124 rfl Tryz.ntmps124 rfl ?_;refine CW.seq (CW.region (SW.box rfl rfl fun b1 w1 hw ik aB => ?_));repeat' (first|refine Wz ?_|(refine SW.st (rv rfl rfl) rfl ?_))
 exact ae.aO rfl rfl ⟨_,rfl,hw,rfl⟩
theorem wrap_zero {z:Int} (h1 : -18446744073709551616<z) (h2:z<18446744073709551616) (h:IntKind.i64.wrap z=0) : z=0:=by
 simp [IntKind.wrap,IntKind.bits,IntKind.signed] at h;omega
def EE (l:List Block) (a:Int) (v:Value) : Prop:=(cf l a=true→v = .tuple #[.int .i64 (bF l a:Int),.bool true])∧(cf l a=false → ∃ i:Nat,v = .tuple #[.int .i64 (i:Int),.bool false])
theorem ox (r:eI) (L:List aA) (ls:List bO) (x:aA) (w:World) (hl:sc w r.av ls L) (hs:rH L) (hn:r.av.n≤1000000000000000000) (hp:∀ l∈L,l.aw.length*8≤140737488355328) :
 bt Tryz.prog 87 [.agg (bm r).toArray,.int .i64 x.dU,.int .i64 x.aq,.int .i64 x.Ty] w fun v w' => ∃ A c,v = .slice A (dE L x).length c∧Own w' w.heap.size 3 1 bf A (dE L x).length c (dE L x):=by
 refine aM Tryz.func87 rfl Tryz.ntmps87 rfl ?_;refine CW.seq (CW.region (SW.box rfl rfl fun b4 w1 hw my bY => ?_));obtain ⟨l1,l2⟩:=hl.len;have hA:=hl.row.base;refine Wz ?_
 refine CW.loop (fun i:Nat=>[(1,.int .i64 x.dU),(2,.int .i64 x.aq),(3,.int .i64 x.Ty),(4,.pointer (some ⟨b4,0,none⟩)),(9,.int .i64 (i:Int))])
  (fun i w'=>i≤r.av.n∧Ext w w'∧aI w' b4 27 (bm r) ∧ ∀ (k:Nat) (h:k<L.length),k<i → ¬ dk L[k] x) (fun i=>r.av.n-i) 0
  ⟨rfl,rfl,rfl,rfl,rfl,trivial⟩ ⟨by omega,hw,bY,fun k h h'=>by omega⟩ ?_
 clear hw bY;rintro i w' ⟨hi,hw,bY,hI⟩
 by_cases ck:i<r.av.n
 ·have kM:i<L.length:=by omega
  have lE:i<ls.length:=by omega
  have xu:=hl.each.get i lE kM;have e1:=xu.cpu;have e2:=xu.fC;have e3:=xu.ty;have rI:=xu.cu.len;have Fj:=hp _ (List.getElem_mem kM);have g0:=hl.row.dA ck (j:=0) (u := .int .i64 ls[i].dU) rfl;have g1:=hl.row.dA ck (j:=1) (u := .int .i64 ls[i].aq) rfl;have g2:=hl.row.dA ck (j:=2) (u := .int .i64 ls[i].Ty) rfl;have g3:=hl.row.dA ck (j:=3) (u := .slice ls[i].aw.A ls[i].aw.n ls[i].aw.c) rfl;by_cases hk:dk L[i] x
  ·obtain ⟨k1,k2,k3⟩:=id hk;obtain ⟨ek,eh⟩:=CV hs kM hk
   have ep:dE L x=L[i].aw:=by
    rw [jj eh (by omega)];simp only [ek]
   rw [ep];repeat' (first|refine Wz ?_|refine SW.st (ao hw rfl g0) rfl ?_|refine SW.st (ao hw rfl g1) rfl ?_|refine SW.st (ao hw rfl g2) rfl ?_|refine SW.st (ao hw rfl g3) rfl ?_)
   all_goals try omega
   refine SW.call rfl rfl (gw _ _ _ _ _ (xu.cu.ext hw) (by omega)) fun v w4 aj hv => ?_
   obtain ⟨X,c4,rfl,hX⟩:=hv;replace hX:=hX.low hw.size;replace hw:=Ext.trans hw aj;refine Wz ?_;refine ae.aO rfl rfl ⟨_,rfl,hw,X,c4,by rw [rI],by rw [rI];exact hX⟩
  ·have oV : ¬ (ls[i].dU=x.dU∧ls[i].aq=x.aq∧ls[i].Ty=x.Ty):=by unfold dk at hk;omega
   repeat' (first|refine Wz ?_|refine SW.bZ rfl rfl rfl (fun h => ?_) (fun h => ?_)|refine SW.st (ao hw rfl g0) rfl ?_|refine SW.st (ao hw rfl g1) rfl ?_|refine SW.st (ao hw rfl g2) rfl ?_)
   all_goals try omega
   all_goals
    exact ae.again (i+1) ⟨rfl,rfl,rfl,rfl,rfl,trivial⟩ (by omega) ⟨by omega,hw,bY,fun k h h'=>by
     by_cases e:k=i
     ·subst e;exact hk
     ·exact hI k h (by omega)⟩
 ·have ep:dE L x=[]:=lD (CX fun k hk=>hI k hk (by omega))
  rw [ep];refine Wz ?_;exact ae.aO rfl rfl ⟨_,rfl,hw,none,0,rfl,Own.dS _ _ _ _ _ _⟩
open Go.RowKit
section
variable {P:Program} {n:Nat} {ops:Array Oper} {Q:Exit→Act→World→Prop} {rest:List Oper} {L:Env} {w:World} {d:Nat} {T:TypeId} {pos:String} {af:Array Edge}
end
section
variable {α:Type} {P:Program} {w:World} {lo:Nat} {t e:TypeId} {z:Value} {sz bytes:Nat} {enc : α → List Value} {A X:Option Addr} {n c m d:Nat} {l ys:List α}
theorem xw [S:bw P t e sz] [T:dl P e z sz bytes] [E:fO enc sz] (ty:TypeId) (hO:Own w lo e sz enc A n c l) (hS:Sl w sz enc X m ys) (fG:lo≤w.heap.size) (tS : 0<m)
 (hb:(n+m)*bytes≤140737488355328) (hm:n+m≤maxLen) :
 ∃ A' c' w',(Builtin.append_ #[t,t] ty #[.slice A n c,.slice X m d]).run P w = .ok (.slice A' (n+m) c') w' ∧
  ((A'=A∧c'=c∧Own w' lo e sz enc A (n+m) c (l++ys)∧w.grownBy w' (aQ A c))∨(Own w' w.heap.size e sz enc A' (n+m) c' (l++ys)∧w.grownBy w' none)):=by
 obtain ⟨i,hi,hz,hs,uC⟩:=dT P e (z:=z) (sz:=sz) (bytes:=bytes);have BX:(ys.flatMap enc).length=m*sz:=by rw [bc,hS.len]
 have nL:∀ u∈ys.flatMap enc,u.oneCell'=true:=fun u hu=>by
  obtain ⟨x,_,hx⟩:=List.mem_flatMap.1 hu;exact E.one x u hx
 have F2:(l++ys).flatMap enc=l.flatMap enc++ys.flatMap enc:=List.flatMap_append
 have kB:(l++ys).length=n+m:=by rw [List.length_append,hO.len,hS.len]
 obtain ⟨ad,rfl⟩:=Option.isSome_iff_exists.1 (hS.base tS);have oO:=dq T.pos hS;have Kw:(l.flatMap enc).length=n*sz:=by rw [bc,hO.len]
 have qI:∀ b,A=some b→c<n+m→(∀ j u,(l.flatMap enc)[j]?=some u→w.cell? (b.add j)=some u) →
  ∃ A' c' w',(Builtin.append_ #[t,t] ty #[.slice A n c,.slice (some ad) m d]).run P w = .ok (.slice A' (n+m) c') w'∧(Own w' w.heap.size e sz enc A' (n+m) c' (l++ys)∧w.grownBy w' none):=by
  rintro b rfl c8 hold;obtain ⟨v',w',hr,h2,h3⟩:=run_append_arg_grows (P:=P) w t ty e i z sz bytes S.ky hi hz hs uC T.zc T.pos b n c (l.flatMap enc) Kw hold ad m d (ys.flatMap enc) BX oO c8 hm hb;rw [← F2] at h2;obtain ⟨A',c',rfl,ho⟩:=Own.nv h2 kB;exact ⟨A',c',w',hr,ho,h3⟩
 rcases hO.row with ⟨rfl,rfl⟩|⟨hc,g,gb,rfl,J4,tT,tH,vo,yv,wL⟩
 ·have hl:l=[]:=List.eq_nil_of_length_eq_zero hO.len
  subst hl;cases A with
  | none =>
    obtain ⟨v',w',hr,h2,h3,_⟩:=run_append_own (P:=P) w w.heap.size t ty e i z sz bytes S.ky hi hz hs uC T.zc T.pos (.slice none 0 0) 0 [] (World.ownsRow_nil _ _ _ _) ad m d (ys.flatMap enc) BX oO nL hm hb (Nat.le_refl _);obtain ⟨A',c',rfl,ho⟩:=Own.nv (m:=0+m) (l:=[]++ys) (enc:=enc) (by simpa using h2) (by simpa using hS.len);exact ⟨A',c',w',hr,.inr ⟨ho,by simpa [Value.ownBlock] using h3⟩⟩
  | some b =>
    obtain ⟨A',c',w',hr,h⟩:=qI b rfl (by omega) (by simp);exact ⟨A',c',w',hr,.inr h⟩
 ·by_cases jz:n+m≤c
  ·obtain ⟨A',c',w',hr,h1,h2⟩:=mI (P:=P) (t:=t) ty hO hS (d:=d) fG hb hm;have lQ:=run_append_room (P:=P) w t ty e i S.ky hi g n c gb tT ad m d (ys.flatMap enc) (by rw [hs];exact BX) oO nL jz (by rw [hs,BX,yv,← Nat.add_mul];exact Nat.mul_le_mul_right _ jz);have he:=hr.symm.trans lQ;injection he with he _
   injection he with e1 _ e3
   subst e1 e3;exact ⟨_,_,w',hr,.inl ⟨rfl,rfl,h1,h2⟩⟩
  ·obtain ⟨A',c',w',hr,h⟩:=qI ⟨g,0,none⟩ rfl (by omega) ((hO.owns hc).cells (g:=g) (by simp [Value.ownBlock]));exact ⟨A',c',w',hr,.inr h⟩
end
theorem SW.vL {α:Type} {P:Program} {n:Nat} {ops:Array Oper} {Q:Exit→Act→World→Prop} {rest:List Oper} {L:Env} {w:World} {dd:Nat} {T:TypeId} {pos:String} {af:Array Edge}
 {lo:Nat} {t e:TypeId} {z:Value} {sz bytes:Nat} {enc : α → List Value} {A X:Option Addr} {k c m c2:Nat} {l ys:List α} [bw P t e sz] [dl P e z sz bytes] [fO enc sz] {x y:Operand}
 (hO:Own w lo e sz enc A k c l) (hS:Sl w sz enc X m ys) (fG:lo≤w.heap.size) (tS : 0<m) (hx:cd L x=some (.slice A k c)) (hy:cd L y=some (.slice X m c2)) (hn:Nat.blt dd n=true)
 (hb:(k+m)*bytes≤140737488355328) (hm:k+m≤9223372036854775807)
 (h:∀ A' c' w',((A'=A∧c'=c∧Own w' lo e sz enc A (k+m) c (l++ys)∧w.grownBy w' (aQ A c))∨(Own w' w.heap.size e sz enc A' (k+m) c' (l++ys)∧w.grownBy w' none))→SW P n ops (.fF Q) rest ((dd,.slice A' (k+m) c')::L) w') :
 SW P n ops (.fF Q) (⟨some dd,.call ⟨.builtin .append,#[x,y],#[t,t]⟩,T,pos,af,none⟩::rest) L w :=
 ⟨fun a ha=>by
  obtain ⟨A',c',w',hr,h1⟩:=xw (P:=P) (t:=t) T hO hS (d:=c2) fG tS hb (by simp only [maxLen];omega);simp only [swp,wpList,Region.wanted,if_true];refine .inl ?_;unfold Oper.wp
  have:(execOp a.eval ⟨some dd,.call ⟨.builtin .append,#[x,y],#[t,t]⟩,T,pos,af,none⟩).run P w = .ok (.value (.slice A' (k+m) c')) w':=by
   simp [execOp,resolve,invoke,builtin,ha.eval hx,ha.eval hy,hr]
  rw [this,Oper.upon_value];exact (h A' c' w' h1).out _ (ha.put hn _)⟩
open Go.RowKit
set_option maxHeartbeats 4000000 in
theorem sL (A:Option Addr) (n c lo:Nat) (l:List bO) (w:World) (hO:Own w lo 62 4 bp A n c l) (i:Nat) (hi:i≤n) (x:bO) (b:Nat) (hB:aI w b 62 (bp x)) (cG:aQ A c≠some b) (hn:(n+1)*48≤140737488355328) (fG:lo≤w.heap.size) :
 il Tryz.prog 137 [.slice A n c,.int .i64 (i:Int),.slice (some ⟨b,0,none⟩) 1 1] w fun v w' => ∃ A' c',v = .slice A' (n+1) c'∧Own w' lo 62 4 bp A' (n+1) c' (aU l i x)∧w.grownBy w' (aQ A c) ∧ ∀ k,aQ A' c'=some k→aQ A c=some k∨w.heap.size≤k:=by
 refine dC Tryz.func137 rfl Tryz.ntmps137 rfl ?_;have hle:=hO.le;have kB:=hO.len;have hA:=hO.sl.base;have hw:=Ext.refl w;have kH:Sl w 4 bp (some ⟨b,0,none⟩) 1 [x]:=aI.lj hB
 have jV:(bp x).length=4:=rfl
 have oI:∀ q:List bO,(q.flatMap bp).length=q.length*4:=fun q=>bc q
 have nL:∀ (q:List bO) (v:Value),v∈q.flatMap bp→v.oneCell'=true:=fun q v hv=>by
  obtain ⟨u,_,hu⟩:=List.mem_flatMap.1 hv;exact fO.one (enc:=bp) u v hu
 by_cases ck:i=n
 ·subst ck;repeat' (first|refine Wz ?_|(refine SW.st (bi (k:=i) rfl rfl (by omega) (by omega)) rfl ?_))
  all_goals try omega
  refine SW.vL hO kH fG (by omega) rfl rfl rfl (by omega) (by omega) fun A2 c2 w2 dp => ?_
  have sM:Own w2 lo 62 4 bp A2 (i+1) c2 (l++[x])∧w.grownBy w2 (aQ A c) ∧ ∀ k,aQ A2 c2=some k→aQ A c=some k∨w.heap.size≤k:=by
   rcases dp with ⟨rfl,rfl,h1,h2⟩|⟨h1,h2⟩
   ·exact ⟨h1,h2,fun k e => .inl e⟩
   ·exact ⟨h1.low fG,(aF (Ext.refl w) h2 (Nat.le_refl _) (fun k e=>by cases e)).gr _,fun k e => .inr (h1.aL k e)⟩
  obtain ⟨gf,hg,kV⟩:=sM;refine Wz ?_;refine ae.aO rfl rfl ⟨_,rfl,A2,c2,rfl,?_,hg,kV⟩;have e:aU l i x=l++[x]:=by unfold aU;rw [List.take_of_length_le (by omega),List.drop_eq_nil_of_le (by omega)];simp
  rw [e];exact gf
 ·by_cases jz:n+1≤c
  ·obtain ⟨g,rest,rfl,h1,h2,h3,h4,h5,h6⟩:=hO.opened (by omega);have AH:g≠b:=fun e=>cG (by rw [h6,e])
   have es:l.flatMap bp++rest=(l.take i).flatMap bp++((l.drop i).flatMap bp++rest):=by rw [← List.append_assoc,← List.flatMap_append,List.take_append_drop]
   have e1:((l.take i).flatMap bp).length=i*4:=by rw [oI];simp;omega
   have e2:((l.drop i).flatMap bp).length=(n-i)*4:=by rw [oI];simp [kB]
   have lV:=hO.sl.drop i c (by omega) (by omega);rw [if_neg (by omega)] at lV;rw [es] at h2
   have wU:∀ w',Ext w w'→(Extern.SlicesOverlaps.overlaps #[24,24] #[4] #[.slice (some ⟨b,0,none⟩) 1 1,.slice (if c=i+1 then (some ⟨g,0,none⟩) else (some (⟨g,0,none⟩ : Addr)).map (·.add ((i+1)*4))) (n+1-(i+1)) (c-(i+1))]).run Tryz.prog w' = .ok (.bool false) w':=fun w' hx=>by
    rw [if_neg (by omega),Option.map_some,c9];have b1:=hB.ext hx;have b2:=h2.ext hx;unfold aI at b1 b2
    exact Lib.run_overlaps_apart w' 24 4 62 (bw.ky (t:=24)) 4 (fun w0=>run_sizeOf (bw.size (t:=24)) w0) ⟨b,0,none⟩ ⟨g,(i+1)*4,none⟩ 1 1 _ _ (fun e=>AH e.symm) 62 62 (bp x).toArray.size ((l.take i).flatMap bp++((l.drop i).flatMap bp++rest)).toArray.size
     (by simp only [World.shape?,b1]) (by simp only [World.shape?,b2]) (by simp [e1,e2];omega) (by simp [World.frozen?,b1]) (by simp [World.frozen?,b1])
   repeat' (first|refine Wz ?_|(refine CW.bG rfl ?_)|(refine SW.st (bi (k:=i) rfl rfl (by omega) (by omega)) rfl ?_)|(refine SW.st (dc (k:=n+1) rfl rfl (by omega)) rfl ?_)|(refine SW.st (bi (k:=i+1) rfl rfl (by omega) (by omega)) rfl ?_)|(refine SW.entry Tryz.func145 (by kernel_rfl) (by kernel_rfl) (by kernel_rfl) (e:=Extern.SlicesOverlaps.overlaps #[24,24] #[4]) (by kernel_rfl) rfl rfl (wU _ hw) ?_))
   all_goals try omega
   have uB:((n-i)+1)*4≤((l.drop i).flatMap bp++rest).length:=by rw [List.length_append,e2];omega
   have e4:(l.drop i).flatMap bp++rest=((l.drop i).flatMap bp++rest).take 4++(((l.drop i).flatMap bp++rest).drop 4).take ((n-i)*4)++((l.drop i).flatMap bp++rest).drop (4+(n-i)*4):=by
    rw [List.append_assoc,← List.drop_drop,List.take_append_drop,List.take_append_drop]
   generalize Cs:((l.drop i).flatMap bp++rest).take 4=D1 at e4
   generalize Ct:(((l.drop i).flatMap bp++rest).drop 4).take ((n-i)*4)=D2 at e4
   generalize Cu:((l.drop i).flatMap bp++rest).drop (4+(n-i)*4)=D3 at e4
   have f1:D1.length=4:=by rw [← Cs];simp only [List.length_take];omega
   have f2:D2.length=(n-i)*4:=by rw [← Ct];simp only [List.length_take,List.length_drop];omega
   have f3:D3.length+4=rest.length:=by rw [← Cu];simp only [List.length_drop,List.length_append,e2];omega
   rw [e4] at h2;refine CW.any 8 mixed (cq (by kernel_rfl)) rfl fun w1 ab aG => ?_
   replace hw:=Ext.trans hw ab;replace hO:=hO.ext ab;replace hB:=hB.ext ab;replace h2:=h2.ext ab;clear ab;refine Wa ?_;refine SA.take 4 aG rfl (by kernel_rfl) (by kernel_rfl) rfl ?_;repeat ((refine SW.st (bi (k:=i+1) rfl rfl (by omega) (by omega)) rfl ?_))
   refine SW.ai ?_;refine Wa ?_;refine SA.take 7 aG rfl (by kernel_rfl) (by kernel_rfl) rfl ?_;repeat ((refine SW.st (bi (k:=i) rfl rfl (by omega) (by omega)) rfl ?_))
   refine SW.ai ?_;refine SA.done (by kernel_rfl) ?_;refine SW.copy (k:=n-i) ((i+1)*4) ((l.drop i).flatMap bp) h2 rfl rfl rfl (by omega) e2 (by simp only [List.length_append,e1,e2,f1,f2];omega) (fun h0=>⟨by rw [if_neg (by omega)];simp [c9],(⟨g,0,none⟩ : Addr).add (i*4),by rw [if_neg (by omega)];rfl,fun j v hv=>dq (by omega) (lV.ext hw) j v hv⟩) (nL _) fun w3 mx tH => ?_
   have g1:=eW ((l.take i).flatMap bp++D1) D2 D3 ((l.drop i).flatMap bp) (by rw [e2,f2]) (o:=(i+1)*4) (by rw [List.length_append,e1,f1];omega);have g0:(l.take i).flatMap bp++(D1++D2++D3)=(l.take i).flatMap bp++D1++D2++D3:=by simp only [List.append_assoc]
   rw [g0,g1] at mx;have Es:=bP (hw.gr (aQ (some ⟨g,0,none⟩) c)) tH (.inl h6.symm);have Ia:=hB.grown tH (by simpa using fun e=>AH e.symm);repeat' (first|refine Wz ?_|(refine SW.st (bi (k:=i) rfl rfl (by omega) (by omega)) rfl ?_))
   refine SW.copy (k:=1) (i*4) (bp x) mx rfl rfl rfl (by omega) jV (by simp only [List.length_append,e1,e2,f1,jV];omega) (fun h0=>⟨by rw [if_neg (by omega)];simp [c9],⟨b,0,none⟩,rfl,fun j v hv=>Ia.cell hv⟩) (fO.one (enc:=bp) x) fun w4 mQ vo => ?_
   have g2:=eW ((l.take i).flatMap bp) D1 ((l.drop i).flatMap bp++D3) (bp x) (by rw [jV,f1]) (o:=i*4) e1.symm;have g3:(l.take i).flatMap bp++D1++(l.drop i).flatMap bp++D3=(l.take i).flatMap bp++D1++((l.drop i).flatMap bp++D3):=by simp only [List.append_assoc]
   have g4:(l.take i).flatMap bp++bp x++((l.drop i).flatMap bp++D3)=(aU l i x).flatMap bp++D3:=by unfold aU;simp only [List.flatMap_append,List.flatMap_cons,List.flatMap_nil,List.append_nil,List.append_assoc]
   rw [g3,g2,g4] at mQ;have Cv:=Own.closed (n:=n+1) (c:=c) (l:=aU l i x) (by unfold aU;simp;omega) mQ (by omega) jz (by omega) h5 h1;have Cw:=bP Es vo (.inl h6.symm);refine Wz ?_;exact ae.aO rfl rfl ⟨_,rfl,_,_,rfl,Cv,Cw,fun k e => .inl e⟩
  ·have Fm:c=n:=by omega
   have lV:=hO.sl.drop i c (by omega) (by omega);have pU:=hO.sl.pre (i:=i) (by omega);repeat' (first|refine Wz ?_|(refine SW.st (bi (k:=i) rfl rfl (by omega) (by omega)) rfl ?_)|(refine SW.st (dc (k:=i) rfl rfl (by omega)) rfl ?_))
   all_goals try omega
   refine SW.vy (k:=n+1-i) pU Tryz.underlying3 rfl rfl (by omega) rfl (by omega) (by omega) (by omega) (by omega) fun g rest c2 w2 cJ tT h2 h3 h4 h5 => ?_
   have e1:((l.take i).flatMap bp).length=i*4:=by rw [oI];simp;omega
   have e2:((l.drop i).flatMap bp).length=(n-i)*4:=by rw [oI];simp [kB]
   have uB:((n-i)+1)*4≤rest.length:=by omega
   have e4:rest=rest.take 4++(rest.drop 4).take ((n-i)*4)++rest.drop (4+(n-i)*4):=by
    rw [List.append_assoc,← List.drop_drop,List.take_append_drop,List.take_append_drop]
   generalize Cs:rest.take 4=D1 at e4
   generalize Ct:(rest.drop 4).take ((n-i)*4)=D2 at e4
   generalize Cu:rest.drop (4+(n-i)*4)=D3 at e4
   have f1:D1.length=4:=by rw [← Cs];simp only [List.length_take];omega
   have f2:D2.length=(n-i)*4:=by rw [← Ct];simp only [List.length_take,List.length_drop];omega
   have f3:D3.length+((n-i)+1)*4=rest.length:=by rw [← Cu];simp only [List.length_drop];omega
   rw [e4] at h2;have dz:aQ A c≠some g:=fun e=>by have:=hO.lt_size _ e;omega
   have AH:b≠g:=by have:=hB.lt;omega
   replace lV:=lV.ext cJ;replace hB:=hB.ext cJ;replace hw:=Ext.trans hw cJ;repeat' (first|refine Wz ?_|(refine SW.st (bi (k:=i) rfl rfl (by omega) (by omega)) rfl ?_))
   refine SW.copy (k:=1) (i*4) (bp x) h2 rfl rfl rfl (by omega) jV (by simp only [List.length_append,e1,f1,f2,jV];omega) (fun h0=>⟨by rw [if_neg (by omega)];simp [c9],⟨b,0,none⟩,rfl,fun j v hv=>hB.cell hv⟩) (fO.one (enc:=bp) x) fun w3 mx tH => ?_
   have g2:=eW ((l.take i).flatMap bp) D1 (D2++D3) (bp x) (by rw [jV,f1]) (o:=i*4) e1.symm;have g3:(l.take i).flatMap bp++(D1++D2++D3)=(l.take i).flatMap bp++D1++(D2++D3):=by simp only [List.append_assoc]
   rw [g3,g2] at mx;have tI:Ext w w3:=hw.own tT tH
   have kI:Sl w3 4 bp (if c=i then A else A.map (·.add (i*4))) (n-i) (l.drop i):=(hO.sl.drop i c (by omega) (by omega)).ext tI
   replace hw:=tI;refine Wz ?_;refine CW.any 8 mixed (cq (by kernel_rfl)) rfl fun w1 ab aG => ?_
   replace hw:=Ext.trans hw ab;replace mx:=mx.ext ab;replace kI:=kI.ext ab;clear ab;refine Wa ?_;refine SA.take 4 aG rfl (by kernel_rfl) (by kernel_rfl) rfl ?_;repeat ((refine SW.st (bi (k:=i+1) rfl rfl (by omega) (by omega)) rfl ?_))
   refine SW.ai ?_;refine Wa ?_;refine SA.take 7 aG rfl (by kernel_rfl) (by kernel_rfl) rfl ?_;repeat ((refine SW.st (bi (k:=i) rfl rfl (by omega) (by omega)) rfl ?_))
   refine SW.ai ?_;refine SA.done (by kernel_rfl) ?_;refine SW.copy (k:=n-i) ((i+1)*4) ((l.drop i).flatMap bp) mx rfl rfl rfl (by omega) e2 (by simp only [List.length_append,e1,e2,f2,jV];omega) (fun h0=>⟨by rw [if_neg (by omega)];simp [c9],(if c=i then A else A.map (·.add (i*4))).getD default,?_,fun j v hv=>dq (by omega) kI j v hv⟩) (nL _) fun w4 mQ vo => ?_
   ·obtain ⟨a,ha⟩:=Option.isSome_iff_exists.1 (kI.base h0);rw [ha];rfl
   ·have g4:=eW ((l.take i).flatMap bp++bp x) D2 D3 ((l.drop i).flatMap bp) (by rw [e2,f2]) (o:=(i+1)*4) (by rw [List.length_append,e1,jV];omega);have g5:(l.take i).flatMap bp++bp x++(D2++D3)=(l.take i).flatMap bp++bp x++D2++D3:=by simp only [List.append_assoc]
    have g6:(l.take i).flatMap bp++bp x++(l.drop i).flatMap bp++D3=(aU l i x).flatMap bp++D3:=by unfold aU;simp only [List.flatMap_append,List.flatMap_cons,List.flatMap_nil,List.append_nil,List.append_assoc]
    rw [g5,g4,g6] at mQ;have Cv:=Own.closed (n:=n+1) (c:=c2) (lo:=lo) (l:=aU l i x) (by unfold aU;simp;omega) mQ (by omega) (by omega) (by omega) h5 (by omega);have iS:Ext w w4:=hw.own tT vo
    have e9:i+(n+1-i)=n+1:=by omega
    refine Wz ?_;rw [e9]
    exact ae.aO rfl rfl ⟨_,rfl,_,_,rfl,Cv,iS.gr _,fun k e => .inr (by
     have:k=g:=by
      unfold aQ at e;split at e
      ·cases e
      ·simpa using e.symm
     omega)⟩
open Go.RowKit
theorem SW.iA {α:Type} {P:Program} {n:Nat} {ops:Array Oper} {Q:Exit→Act→World→Prop} {rest:List Oper} {L:Env} {w:World} {T:TypeId} {pos:String} {af:Array Edge} {lo:Nat} {e:TypeId} {sz:Nat} {enc : α → List Value} [E:fO enc sz] {A:Option Addr} {m c:Nat} {l:List α} {t:TypeId} [G:iv P t sz] {x y:Operand} (k:Nat) (x' : α)
 (hO:Own w lo e sz enc A m c l) (hx:cd L x=some (.pointer (some ((A.getD default).add (k*sz))))) (hy:cd L y=some (.agg (enc x').toArray)) (hk:k<m)
 (h:∀ w',Own w' lo e sz enc A m c (l.set k x')→w.grownBy w' (aQ A c)→SW P n ops (.fF Q) rest L w') : SW P n ops (.fF Q) (⟨none,.store t x y,T,pos,af,none⟩::rest) L w :=
 ⟨fun a ha=>by
  have hc : 0<c:=by have:=hO.le;omega
  obtain ⟨g,r,rfl,fG,hB,hr,Nm,Nn,how⟩:=hO.opened hc;have di:k<l.length:=by rw [hO.len];exact hk
  have nC:(k+1)*sz≤m*sz:=Nat.mul_le_mul_right _ hk
  rw [Nat.add_mul,Nat.one_mul] at nC;have oI:(l.flatMap enc).length=m*sz:=by rw [bc,hO.len]
  have e0:(((some (⟨g,0,none⟩ : Addr)).getD default).add (k*sz))=⟨g,k*sz,none⟩:=c9 g _
  rw [e0] at hx;have el:l=l.take k++[l[k]]++l.drop (k+1):=by simp
  have hX:((l.take k).flatMap enc).length=k*sz:=by rw [bc,List.length_take,Nat.min_eq_left (by omega)]
  have e1:l.flatMap enc++r=(l.take k).flatMap enc++enc l[k]++((l.drop (k+1)).flatMap enc++r):=by
   have e3:l.flatMap enc=(l.take k++[l[k]]++l.drop (k+1)).flatMap enc:=by rw [← el]
   rw [e3,List.flatMap_append,List.flatMap_append];simp only [List.flatMap_cons,List.flatMap_nil,List.append_nil,List.append_assoc]
  have rz:=run_storeCells_at P g (k*sz) e (enc x') 0 (l.flatMap enc++r).toArray w hB (by simp only [List.size_toArray,List.length_append,oI,E.len];omega) (E.one x')
  have e2:((l.flatMap enc++r).toArray.toList.take (k*sz+0)++enc x'++(l.flatMap enc++r).toArray.toList.drop (k*sz+0+(enc x').length))=(l.set k x').flatMap enc++r:=by
   have:=eW ((l.take k).flatMap enc) (enc l[k]) ((l.drop (k+1)).flatMap enc++r) (enc x') (by rw [E.len,E.len]) hX.symm
   rw [← e1] at this;unfold lay at this;simp only [Nat.add_zero];rw [this,List.set_eq_take_append_cons_drop,if_pos di];simp
  rw [e2] at rz;simp only [swp,wpList,Region.wanted,if_true];refine .inl ?_;unfold Oper.wp
  have yP:(execOp a.eval ⟨none,.store t x y,T,pos,af,none⟩).run P w = .ok .skip (w.setRow g ((l.set k x').flatMap enc++r).toArray):=by
   simp [execOp,ha.eval hx,ha.eval hy,Instr.storeAt,Instr.sureAddr,storeVar,Value.cells,run_sizeOf G.size,E.len,rz]
  rw [yP,Oper.upon_skip];obtain ⟨qZ,wY⟩:=eB (cs:=(l.set k x').flatMap enc++r) hB;refine (h _ (Own.closed (by rw [List.length_set];exact hO.len) qZ hr Nm hc Nn fG) ?_).out _ ha;rw [how];exact wY⟩
open Go.RowKit
structure ec (w:World) (lo g c:Nat) (u0 u1:ct) (s:aq×aq) : Prop where
 row:Own w lo 59 4 bo (some ⟨g,0,none⟩) 2 c [u0,u1]
 z0:fa w lo u0 s.1
 z1:fa w lo u1 s.2
 yQ:lo≤g
 pos : 0<c
section
variable {w w':World} {lo nw g c t:Nat} {u0 u1:ct} {s:aq×aq}
theorem ec.ext (h:ec w lo g c u0 u1 s) (hx:Ext w w') : ec w' lo g c u0 u1 s:=⟨h.row.ext hx,h.z0.ext hx,h.z1.ext hx,h.yQ,h.pos⟩
theorem ec.ay (h:ec w lo g c u0 u1 s) (hG:nY w w' t) (cG:(Nat.beq t 59 || (Nat.beq t 3 || Nat.beq t 77))=false) : ec w' lo g c u0 u1 s:=by
 rw [Bool.or_eq_false_iff] at cG;exact ⟨h.row.ay hG cG.1,h.z0.ay hG cG.2,h.z1.ay hG cG.2,h.yQ,h.pos⟩
theorem ec.own (h:ec w lo g c u0 u1 s) : aQ (some (⟨g,0,none⟩ : Addr)) c=some g:=by simp [aQ,Nat.pos_iff_ne_zero.1 h.pos]
theorem ec.gr (h:ec w lo g c u0 u1 s) (hg:w.grownBy w' (some g)) : nY w w' 59:=h.row.gr (by rw [h.own];exact hg)
theorem kN {u:ct} {z:aq} (h:fa w lo u z) (hz:bT z) : (u.ag.n+1)*24≤140737488355328∧u.Types.n*8≤140737488355328∧(0≤u.aV∧u.aV≤256)∧(0≤u.To∧u.To≤256):=by
 have e1:=h.free.sl.len;have e2:=h.types.sl.len;have e3:=h.from_;have e4:=h.ka;have hl:=kf hz;obtain ⟨o1,o2,o3,o4,o5⟩:=hz.ok;refine ⟨Nat.le_trans (Nat.mul_le_mul_right 24 (show u.ag.n+1≤258 by omega)) (by decide),by omega,by omega,by omega⟩
end
theorem A7 (r:eI) (u0 u1:ct) (p:Int) (w:World) (hz:Sl w 4 bo r.aN.A r.aN.n [u0,u1]) :
 bt Tryz.prog 97 [.agg (bm r).toArray,.int .i64 p] w fun v _=>v = .int .i64 (if p<u0.To then 0 else 1):=by
 refine aM Tryz.func97 rfl Tryz.ntmps97 rfl ?_;refine CW.seq (CW.region (SW.box rfl rfl fun b1 w1 hw ik aB => ?_));have hA:=hz.base;have hn : 2=r.aN.n:=hz.len
 have h0 : 0<r.aN.n:=by omega
 have f0:=hz.dA h0 (j:=1) (u := .int .i64 u0.To) rfl;repeat' (first|refine Wz ?_|(refine CW.gB rfl (fun h => ?_) (fun h => ?_))|refine SW.st (ao hw rfl f0) rfl ?_)
 all_goals
  refine ae.aO rfl rfl ⟨_,rfl,hw,?_⟩
  first|(rw [if_pos (by omega)])|(rw [if_neg (by omega)])
theorem xx (r:eI) (u0 u1:ct) (p:Int) (w:World) (hz:Sl w 4 bo r.aN.A r.aN.n [u0,u1]) :
 bt Tryz.prog 114 [.agg (bm r).toArray,.int .i64 p] w fun v _=>v = .int .i64 (if p<u1.aV then 0 else 1):=by
 refine aM Tryz.func114 rfl Tryz.ntmps114 rfl ?_;refine CW.seq (CW.region (SW.box rfl rfl fun b1 w1 hw ik aB => ?_));have hA:=hz.base;have hn : 2=r.aN.n:=hz.len
 have h0 : 1<r.aN.n:=by omega
 have f0:=hz.dA h0 (j:=0) (u := .int .i64 u1.aV) rfl;repeat' (first|refine Wz ?_|(refine CW.gB rfl (fun h => ?_) (fun h => ?_))|refine SW.st (ao hw rfl f0) rfl ?_)
 all_goals
  refine ae.aO rfl rfl ⟨_,rfl,hw,?_⟩
  first|(rw [if_pos (by omega)])|(rw [if_neg (by omega)])
def EF (w:World) (lo g c:Nat) (s:aq×aq) (b:Block) (w':World) : Prop:=w.grownBy w' (some g) ∧ ∃ u0 u1,ec w' lo g c u0 u1 (iM s b)
theorem vM (m:fR) (cp:Int) (li lv:fR) (u0 u1:ct) (s:aq×aq) (bs:List Block) (b:Block) (lo g c:Nat) (w:World) (hZ:ec w lo g c u0 u1 s) (fG:lo≤w.heap.size) (hD:nQ s bs) (hN:qG bs b) :
 il Tryz.prog 86 [.agg (bm ⟨⟨some ⟨g,0,none⟩,2,c⟩,m,cp,li,lv⟩).toArray,.int .i64 b.At,.int .i64 b.Order] w fun v w'=>v = .agg (bm ⟨⟨some ⟨g,0,none⟩,2,c⟩,m,cp,li,lv⟩).toArray∧EF w lo g c s b w':=by
 refine dC Tryz.func86 rfl Tryz.ntmps86 rfl ?_;refine CW.seq (CW.region (SW.box rfl rfl fun b3 w1 hw bM ar => ?_));refine SW.alloc rfl fun b6 w2 cJ fb ax => ?_
 have dr:w.heap.size≤b6:=Nat.le_trans hw.size fb
 (replace hw:=Ext.trans hw cJ;replace ar:=ar.ext cJ);replace hZ:=hZ.ext hw;have eT:=hZ.z0.ka;have eF:=hZ.z1.from_;have eM:=hD.Ag;obtain ⟨q1,q2,q3,q4⟩:=kN hZ.z0 hD.m8;obtain ⟨p1,p2,p3,p4⟩:=kN hZ.z1 hD.l8;have hA:=hZ.row.sl.base;have cz:∀ w',Sl w' 4 bo (some ⟨g,0,none⟩) 2 [u0,u1]→bt Tryz.prog 114 [.agg (bm ⟨⟨some ⟨g,0,none⟩,2,c⟩,m,cp,li,lv⟩).toArray,.int .i64 b.At] w' fun v _=>v = .int .i64 (if b.At<u1.aV then 0 else 1):=fun w' h=>xx ⟨⟨some ⟨g,0,none⟩,2,c⟩,m,cp,li,lv⟩ u0 u1 b.At w' h
 by_cases hx:b.At<u1.aV
 ·have eP:iM s b=((iZ s.1 b.At b.Order).2,s.2):=by unfold iM;rw [if_pos (by omega)]
  simp only [if_pos hx] at cz;have k0 : 0<2:=by omega
  repeat' (first|refine Wz ?_|(refine SW.call rfl rfl (cz _ hZ.row.sl) ?_;intro v w1 ab hv;subst hv;replace hw:=Ext.trans hw ab;replace ar:=ar.ext ab;replace ax:=ax.ext ab;replace hZ:=hZ.ext ab;clear ab))
  repeat' (first|refine Wz ?_|refine SW.st (aY rfl rfl ((hZ.row.sl.all k0))) rfl ?_)
  refine SW.call rfl rfl (se u0 s.1 b.At b.Order _ hZ.z0.rd q1 q2 ⟨by omega,by omega⟩ ⟨by omega,by omega⟩) fun v w4 aj hv => ?_
  obtain ⟨u',rfl,jG⟩:=hv;replace jG:=jG.low (Nat.le_trans fG hw.size);(replace hw:=Ext.trans hw aj;replace ar:=ar.ext aj;replace ax:=ax.ext aj;replace hZ:=hZ.ext aj);refine Wz ?_;refine SW.alloc rfl fun b8 w1 ab kZ bu => ?_
  skip;refine SW.ap bu rfl rfl rfl rfl (cw u') fun w2 jh hg => ?_
  have aj:=ab.own kZ hg;have jA:w.heap.size≤b8:=Nat.le_trans hw.size kZ
  replace hw:=Ext.trans hw aj;replace ar:=ar.ext aj;replace ax:=ax.ext aj;replace hZ:=hZ.ext aj;replace jG:=jG.ext aj;replace bu:=jh;clear jh ab hg aj;refine Wz ?_;refine SW.iA (enc:=bo) 0 u' hZ.row rfl rfl k0 fun w5 hO hg => ?_
  rw [hZ.own] at hg;have hG:=hZ.gr hg;have wT:=bP (hw.gr (some g)) hg (.inl rfl);have B7:ec w5 lo g c u' u1 (iM s b):=by rw [eP];exact ⟨hO,jG.ay hG rfl,hZ.z1.ay hG rfl,hZ.yQ,hZ.pos⟩
  clear hZ jG bu cz hO;(replace ar:=ar.ay hG rfl;replace ax:=ax.ay hG rfl);have j2:=Ext.refl w5;clear hw;have hw:=j2;refine Wz ?_;refine SW.ap ax rfl rfl rfl rfl (cS ⟨⟨some ⟨g,0,none⟩,2,c⟩,m,cp,li,lv⟩) fun w6 bL hg => ?_
  have hG:=ax.gr hg;replace wT:=bP wT hg (.inr fun i e=>by cases e;exact dr);refine Wz ?_;exact ae.mn rfl rfl bL rfl ⟨_,rfl,rfl,wT,u',u1,B7.ay hG rfl⟩
 ·have eP:iM s b=(s.1,(iZ s.2 b.At b.Order).2):=by unfold iM;rw [if_neg (by omega)]
  simp only [if_neg hx] at cz;have k0 : 1<2:=by omega
  repeat' (first|refine Wz ?_|(refine SW.call rfl rfl (cz _ hZ.row.sl) ?_;intro v w1 ab hv;subst hv;replace hw:=Ext.trans hw ab;replace ar:=ar.ext ab;replace ax:=ax.ext ab;replace hZ:=hZ.ext ab;clear ab))
  repeat' (first|refine Wz ?_|refine SW.st (aY rfl rfl ((hZ.row.sl.all k0))) rfl ?_)
  refine SW.call rfl rfl (se u1 s.2 b.At b.Order _ hZ.z1.rd p1 p2 ⟨by omega,by omega⟩ ⟨by omega,by omega⟩) fun v w4 aj hv => ?_
  obtain ⟨u',rfl,jG⟩:=hv;replace jG:=jG.low (Nat.le_trans fG hw.size);(replace hw:=Ext.trans hw aj;replace ar:=ar.ext aj;replace ax:=ax.ext aj;replace hZ:=hZ.ext aj);refine Wz ?_;refine SW.alloc rfl fun b8 w1 ab kZ bu => ?_
  skip;refine SW.ap bu rfl rfl rfl rfl (cw u') fun w2 jh hg => ?_
  have aj:=ab.own kZ hg;have jA:w.heap.size≤b8:=Nat.le_trans hw.size kZ
  replace hw:=Ext.trans hw aj;replace ar:=ar.ext aj;replace ax:=ax.ext aj;replace hZ:=hZ.ext aj;replace jG:=jG.ext aj;replace bu:=jh;clear jh ab hg aj;refine Wz ?_;refine SW.iA (enc:=bo) 1 u' hZ.row rfl rfl k0 fun w5 hO hg => ?_
  rw [hZ.own] at hg;have hG:=hZ.gr hg;have wT:=bP (hw.gr (some g)) hg (.inl rfl);have B7:ec w5 lo g c u0 u' (iM s b):=by rw [eP];exact ⟨hO,hZ.z0.ay hG rfl,jG.ay hG rfl,hZ.yQ,hZ.pos⟩
  clear hZ jG bu cz hO;(replace ar:=ar.ay hG rfl;replace ax:=ax.ay hG rfl);have j2:=Ext.refl w5;clear hw;have hw:=j2;refine Wz ?_;refine SW.ap ax rfl rfl rfl rfl (cS ⟨⟨some ⟨g,0,none⟩,2,c⟩,m,cp,li,lv⟩) fun w6 bL hg => ?_
  have hG:=ax.gr hg;replace wT:=bP wT hg (.inr fun i e=>by cases e;exact dr);refine Wz ?_;exact ae.mn rfl rfl bL rfl ⟨_,rfl,rfl,wT,u0,u',B7.ay hG rfl⟩
open Go.RowKit
theorem CR.split {w:World} {lo:Nat} {r:eI} {h:Heap} (a:CR w lo r h) {z0 z1:aq} (hz:h.aN=[z0,z1]) : ∃ g c u0 u1 ls,r.aN=⟨some ⟨g,0,none⟩,2,c⟩∧ec w lo g c u0 u1 (z0,z1)∧cQ w lo r.av ls h.av∧pi r.bJ [u0,u1] ls∧rf r.Live [u0,u1]:=by
 obtain ⟨zs,ls,ui,Hz,hm,hf⟩:=a.all;have l0:=ui.each.len;rw [hz] at l0;obtain ⟨u0,u1,rfl⟩:=qf (show zs.length=2 from l0);have l1:=ui.row.len;have h0:=ui.each.get 0 (by simp) (by simp [hz]);have h1:=ui.each.get 1 (by simp) (by simp [hz]);simp only [hz] at h0 h1;have hc : 0<r.aN.c:=by have:=ui.row.le;simp at l1;omega
 obtain ⟨g,rest,hA,fG,_⟩:=ui.row.opened hc;refine ⟨g,r.aN.c,u0,u1,ls,?_,⟨?_,h0,h1,fG,hc⟩,Hz,hm,hf⟩
 ·rw [← hA];have:(2:Nat)=r.aN.n:=l1
  rw [this]
 ·have:=ui.row
  rw [hA,← l1] at this;exact this
theorem Own.apart {α:Type} {w w':World} {lo:Nat} {e:TypeId} {sz:Nat} {enc : α → List Value} {A:Option Addr} {n c:Nat} {l:List α} (h:Own w lo e sz enc A n c l) {row:Option Nat} (hg:w.grownBy w' row) (hs:∀ g,aQ A c=some g→row≠some g) : Own w' lo e sz enc A n c l:=by
 refine h.grown hg ?_;cases e:aQ A c with
 | none=>exact .inl rfl
 | some g=>exact .inr (fun e2=>hs g e e2.symm)
theorem ec.C0 {w w':World} {lo g c:Nat} {u0 u1:ct} {s:aq×aq} (h:ec w lo g c u0 u1 s) {lv:fR} (hs:rf lv [u0,u1]) (hg:w.grownBy w' (aQ lv.A lv.c)) (hG:nY w w' 77) : ec w' lo g c u0 u1 s :=
 ⟨h.row.ay hG rfl,⟨h.z0.from_,h.z0.ka,h.z0.free.apart hg (hs u0 (by simp)),h.z0.types.ay hG rfl⟩,⟨h.z1.from_,h.z1.ka,h.z1.free.apart hg (hs u1 (by simp)),h.z1.types.ay hG rfl⟩,h.yQ,h.pos⟩
theorem ec.EG {w w':World} {lo g c:Nat} {u0 u1:ct} {s:aq×aq} (h:ec w lo g c u0 u1 s) {row:Option Nat} (hg:w.grownBy w' row) (hG:nY w w' 3) (hs:∀ k,row=some k → ∀ u∈[u0,u1],aQ u.Types.A u.Types.c≠some k) : ec w' lo g c u0 u1 s :=
 ⟨h.row.ay hG rfl,⟨h.z0.from_,h.z0.ka,h.z0.free.ay hG rfl,h.z0.types.apart hg (fun k e e2=>hs k e2 u0 (by simp) e)⟩,⟨h.z1.from_,h.z1.ka,h.z1.free.ay hG rfl,h.z1.types.apart hg (fun k e e2=>hs k e2 u1 (by simp) e)⟩,h.yQ,h.pos⟩
structure GC (w0:World) (li:fR) (b1:Nat) (o:Option Nat) : Prop where
 out:∀ k,o=some k→k≠b1∧aQ li.A li.c≠some k∧k<w0.heap.size
theorem GC.ne {w0:World} {li:fR} {b1:Nat} {o row:Option Nat} (h:GC w0 li b1 o) (hr:∀ k,row=some k→k=b1∨aQ li.A li.c=some k∨w0.heap.size≤k) : ∀ g,o=some g→row≠some g:=fun g e e2=>by
 obtain ⟨h1,h2,h3⟩:=h.out g e;rcases hr g e2 with h|h|h
 ·exact h1 h
 ·exact h2 h
 ·omega
theorem Own.yR {α:Type} {w0:World} {lo:Nat} {e:TypeId} {sz:Nat} {enc : α → List Value} {A:Option Addr} {n c:Nat} {l:List α} (h:Own w0 lo e sz enc A n c l) {li:fR} {ls:List bO} {L:List aA} {b1:Nat} {cs:List Value} (hl:cQ w0 lo li ls L) (hb:aI w0 b1 27 cs) (h1:Nat.beq 27 e=false) (h2:Nat.beq e 62=false) : GC w0 li b1 (aQ A c) :=
 ⟨fun k hk=>⟨fun e=>h.dm hb h1 (by rw [hk,e]),by
  rcases h.row with ⟨_,rfl⟩|⟨hc,g,gb,rfl,_,hg,_⟩
  ·simp [aQ] at hk
  ·simp only [aQ,Nat.pos_iff_ne_zero.1 hc,if_false,Option.map_some,Option.some.injEq] at hk;subst hk;exact hl.row.dm (cs:=gb.toList) (by unfold aI;simpa using hg) h2,h.lt_size k hk⟩⟩
theorem Own.rJ {α β:Type} {w0:World} {lo nw:Nat} {e e':TypeId} {sz Kx:Nat} {enc : α → List Value} {GD : β → List Value} {A A':Option Addr} {n n' c c':Nat} {l:List α} {l':List β} (h:Own w0 lo e sz enc A n c l) (h':Own w0 nw e' Kx GD A' n' c' l') (cG:Nat.beq e e'=false) : ∀ k,aQ A c=some k→aQ A' c'≠some k:=fun k hk=>by
 rcases h.row with ⟨_,rfl⟩|⟨hc,g,gb,rfl,_,hg,_⟩
 ·simp [aQ] at hk
 ·simp only [aQ,Nat.pos_iff_ne_zero.1 hc,if_false,Option.map_some,Option.some.injEq] at hk;subst hk;exact h'.dm (cs:=gb.toList) (by unfold aI;simpa using hg) cG
theorem ec.parts {w w':World} {lo g c:Nat} {u0 u1:ct} {s:aq×aq} {row:Option Nat} (h:ec w lo g c u0 u1 s) (hg:w.grownBy w' row) (h0:∀ k,aQ (some (⟨g,0,none⟩ : Addr)) c=some k→row≠some k) (h1:∀ k,aQ u0.ag.A u0.ag.c=some k→row≠some k) (h2:∀ k,aQ u0.Types.A u0.Types.c=some k→row≠some k)
 (h3:∀ k,aQ u1.ag.A u1.ag.c=some k→row≠some k) (h4:∀ k,aQ u1.Types.A u1.Types.c=some k→row≠some k) : ec w' lo g c u0 u1 s :=
 ⟨h.row.apart hg h0,⟨h.z0.from_,h.z0.ka,h.z0.free.apart hg h1,h.z0.types.apart hg h2⟩,⟨h.z1.from_,h.z1.ka,h.z1.free.apart hg h3,h.z1.types.apart hg h4⟩,h.yQ,h.pos⟩
def ob (s:fR) : Option Nat:=aQ s.A s.c
def GF (a b:bO) : Prop := ∀ g,ob a.aw=some g→ob b.aw≠some g
theorem A8 {a b:bO} (h:GF a b) : GF b a:=fun g e e2=>h g e2 e
theorem po {ls:List bO}:yK ls↔ls.Pairwise GF:=by
 rw [List.pairwise_iff_getElem];refine ⟨fun h i j hi hj kX g e=>h i j hi hj (by omega) g e,fun h i j hi hj kX g e => ?_⟩;rcases Nat.lt_or_gt_of_ne kX with h1|h1
 ·exact h i j hi hj h1 g e
 ·exact A8 (h j i hj hi h1) g e
structure uj (n:Nat) (li:fR) (ls:List bO) (D7:fR) (vG:List bO) : Prop where
 sep:yK vG
 of:∀ y∈vG,∀ g,ob y.aw=some g→(∃ x∈ls,ob x.aw=some g)∨n≤g
 row:∀ k,ob D7=some k→ob li=some k∨n≤k
theorem uj.qi {n:Nat} {li:fR} {ls:List bO} {i:Nat} {y:bO} (hs:yK ls) (c8:∀ x∈ls,∀ g,ob x.aw=some g→g<n) (hi:i<ls.length) (hy:∀ g,ob y.aw=some g→ob ls[i].aw=some g∨n≤g) : uj n li ls li (ls.set i y):=by
 refine ⟨fun a b ha hb Hu g e e2 => ?_,fun z hz g e => ?_,fun k e => .inl e⟩
 ·simp only [List.length_set] at ha hb
  change ob ((ls.set i y)[a]).aw=some g at e
  change ob ((ls.set i y)[b]).aw=some g at e2
  simp only [List.getElem_set] at e e2;by_cases h1:i=a
  ·rw [if_pos h1] at e;rw [if_neg (by omega)] at e2;rcases hy g e with h|h
   ·subst h1;exact hs _ _ hi hb Hu g h e2
   ·have:=c8 _ (List.getElem_mem hb) g e2;omega
  ·rw [if_neg h1] at e;by_cases h2:i=b
   ·rw [if_pos h2] at e2;rcases hy g e2 with h|h
    ·subst h2;exact hs _ _ ha hi Hu g e h
    ·have:=c8 _ (List.getElem_mem ha) g e;omega
   ·rw [if_neg h2] at e2;exact hs _ _ ha hb Hu g e e2
 ·rcases List.mem_or_eq_of_mem_set hz with h|rfl
  ·exact .inl ⟨z,h,e⟩
  ·rcases hy g e with h|h
   ·exact .inl ⟨_,List.getElem_mem hi,h⟩
   ·exact .inr h
theorem uj.ins {n:Nat} {li D7:fR} {ls:List bO} {i:Nat} {y:bO} (hs:yK ls) (c8:∀ x∈ls,∀ g,ob x.aw=some g→g<n) (hy:∀ g,ob y.aw=some g→n≤g) (hr:∀ k,ob D7=some k→ob li=some k∨n≤k) : uj n li ls D7 (aU ls i y):=by
 have hm:∀ z,z∈aU ls i y→z∈ls∨z=y:=fun z hz=>by
  unfold aU at hz;rw [List.mem_append,List.mem_append,List.mem_singleton] at hz;rcases hz with (hz|hz)|hz
  ·exact .inl (List.mem_of_mem_take hz)
  ·exact .inr hz
  ·exact .inl (List.mem_of_mem_drop hz)
 refine ⟨?_,fun z hz g e => ?_,hr⟩
 ·have hs:=po.1 hs;rw [← List.take_append_drop i ls,List.pairwise_append] at hs;obtain ⟨h1,h2,h3⟩:=hs;rw [po];unfold aU;rw [List.append_assoc,List.pairwise_append];refine ⟨h1,?_,fun a ha b hb => ?_⟩
  ·rw [List.singleton_append,List.pairwise_cons];exact ⟨fun b hb g e e2=>by have:=hy g e;have:=c8 b (List.mem_of_mem_drop hb) g e2;omega,h2⟩
  ·rw [List.singleton_append,List.mem_cons] at hb;rcases hb with rfl|hb
   ·exact fun g e e2=>by have:=hy g e2;have:=c8 a (List.mem_of_mem_take ha) g e;omega
   ·exact h3 a ha b hb
 ·rcases hm z hz with h|rfl
  ·exact .inl ⟨z,h,e⟩
  ·exact .inr (hy g e)
theorem SW.mb {α:Type} {P:Program} {n:Nat} {ops:Array Oper} {Q:Exit→Act→World→Prop} {rest:List Oper} {L:Env} {w:World} {dd:Nat} {T:TypeId} {pos:String} {af:Array Edge}
 {lo:Nat} {t e:TypeId} {z:Value} {sz bytes:Nat} {enc : α → List Value} {A X:Option Addr} {k c m c2:Nat} {l ys:List α} [bw P t e sz] [dl P e z sz bytes] [fO enc sz] {x y:Operand}
 (hO:Own w lo e sz enc A k c l) (hS:Sl w sz enc X m ys) (fG:lo≤w.heap.size) (tS : 0<m) (hx:cd L x=some (.slice A k c)) (hy:cd L y=some (.slice X m c2)) (hn:Nat.blt dd n=true)
 (hb:(k+m)*bytes≤140737488355328) (hm:k+m≤9223372036854775807)
 (h:∀ A' c' w',Own w' lo e sz enc A' (k+m) c' (l++ys)→w.grownBy w' (aQ A c)→(∀ g,aQ A' c'=some g→aQ A c=some g∨w.heap.size≤g)→SW P n ops (.fF Q) rest ((dd,.slice A' (k+m) c')::L) w') :
 SW P n ops (.fF Q) (⟨some dd,.call ⟨.builtin .append,#[x,y],#[t,t]⟩,T,pos,af,none⟩::rest) L w:=by
 refine SW.vL hO hS fG tS hx hy hn hb hm fun A' c' w' hh => ?_
 rcases hh with ⟨rfl,rfl,h1,h2⟩|⟨h1,h2⟩
 ·exact h _ _ _ h1 h2 (fun g e => .inl e)
 ·exact h _ _ _ (h1.low fG) ⟨h2.os,h2.tape,h2.output,h2.size,fun k hk _=>h2.block k hk (fun e=>by cases e)⟩ (fun g e => .inr (h1.aL g e))
end Go.Proofs.YtjimadiidbkohaaGreatDoor
