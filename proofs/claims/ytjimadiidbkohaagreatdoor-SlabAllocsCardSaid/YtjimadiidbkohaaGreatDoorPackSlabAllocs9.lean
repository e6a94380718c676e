/-
  Texts of the claim SlabAllocs, part 9: what its theorem leans on.
-/
import Derived.Test.YtjimadiidbkohaaGreatDoorPackSlabAllocs8
import Derived.Test.YtjimadiidbkohaaGreatDoorPackSlabAllocs5
import Derived.Test.YtjimadiidbkohaaGreatDoorPackSlabAllocs2
import Derived.Test.YtjimadiidbkohaaGreatDoorPackSlabAllocs1
import Derived.Great.BuildSlice
import Derived.ArgAppend
import Derived.Test.YtjimadiidbkohaaGreatDoorPackSlabAllocs4
import Derived.Test.YtjimadiidbkohaaGreatDoorPackSlabAllocs6
set_option linter.unusedVariables false
set_option linter.unusedSimpArgs false
namespace Go.Proofs.YtjimadiidbkohaaGreatDoor
noncomputable def iA (s:aq×aq) (b:Block) : aq×aq:=if b.At<s.1.To then ((iJ s.1 b.At b.Order).2,s.2) else (s.1,(iJ s.2 b.At b.Order).2)
noncomputable def dp (s:aq×aq) (l:List Block) : aq×aq:=l.foldl iA s
theorem lQ (s:aq×aq) (l:List Block) (k:Nat) (h:k<l.length) : dp s (l.take (k+1))=iA (dp s (l.take k)) l[k]:=by
 unfold dp;rw [List.take_succ_eq_append_getElem h,List.foldl_append];rfl
structure nF (s:aq×aq) (bs:List Block) : Prop where
 nG:bR s.1
 ms:bR s.2
 o9:s.1.aW=0
 zM:s.1.To=s.2.aW
 Ec:s.2.To=256
 BD:∀ i,(dM s.1.ag i || dM s.2.ag i)=dM bs i
theorem fe (l m:List Block) (i:Nat) : dM (l++m) i=(dM l i || dM m i):=by simp [dM]
theorem jU {z:aq} (h:bR z) : ∀ b∈z.ag,0≤b.At∧1≤pw b.Order:=fun b hb=>by
 obtain ⟨i,hi,rfl⟩:=List.getElem_of_mem hb;have h1:=(h.cU i hi).1;have h2:=h.ok.1;have:=bG h1.1 h1.2.1
 obtain ⟨_,_,h3,_,_⟩:=h1;omega
structure qx (bs:List Block) (b:Block) : Prop where
 ord : 0≤b.Order∧b.Order≤4
 at_ : 0≤b.At∧b.At<256
 al:b.At % pw b.Order=0
 fits:lf bs b
 og:∀ x∈bs,0≤x.At∧1≤pw x.Order
theorem nF.free {s:aq×aq} {bs:List Block} (h:nF s bs) {b:Block} (hb:qx bs b) : eX s.1.ag b.At b.Order=false∧eX s.2.ag b.At b.Order=false:=by
 have hp:=bG hb.ord.1 hb.ord.2;have hm:=(rr hb.og hp.1).2 hb.fits;obtain ⟨m1,m2,m3,m4⟩:=hm
 have key:∀ l:List Block,(∀ x∈l,0≤x.At∧1≤pw x.Order)→(∀ i,dM l i=true→dM bs i=true)→eX l b.At b.Order=false:=fun l hl hc =>
  ((rr hl hp.1).1 ⟨m1,m2,m3,fun i h1 h2=>by
   cases e:dM l i with
   | false=>rfl
   | true=>have:=hc i e;rw [m4 i h1 h2] at this;cases this⟩).2.2
 exact ⟨key _ (jU h.nG) fun i hi=>by rw [← h.BD i,hi];rfl,key _ (jU h.ms) fun i hi=>by rw [← h.BD i,hi];simp⟩
theorem nF.low {s:aq×aq} {bs:List Block} (h:nF s bs) {b:Block} (hb:qx bs b) (hl:b.At<s.1.To) : eU s.1.aW s.1.To b.At b.Order:=⟨hb.ord.1,hb.ord.2,by rw [h.o9];exact hb.at_.1,hl,hb.al⟩
theorem nF.vr {s:aq×aq} {bs:List Block} (h:nF s bs) {b:Block} (hb:qx bs b) (hl : ¬ b.At<s.1.To) : eU s.2.aW s.2.To b.At b.Order:=⟨hb.ord.1,hb.ord.2,by rw [← h.zM];omega,by rw [h.Ec];exact hb.at_.2,hb.al⟩
theorem su (b:Block) (i:Nat) : dM [b] i=pO b i:=by simp [dM]
theorem nF.back {s:aq×aq} {bs:List Block} (h:nF s bs) {b:Block} (hb:qx bs b) : nF (iA s b) (bs++[b])∧(iA s b).1.To=s.1.To:=by
 obtain ⟨o0,o1⟩:=h.free hb;unfold iA;by_cases hl:b.At<s.1.To
 ·rw [if_pos hl];obtain ⟨_,k⟩:=ss h.nG (h.low hb hl) o0;refine ⟨⟨k.may,h.ms,by rw [← h.o9];exact k.from_,by rw [← h.zM];exact k.jZ,h.Ec,fun i => ?_⟩,k.jZ⟩;rw [fe,su,← h.BD i];simp only;rw [k.BD i];have:pO ⟨b.At,b.Order,0⟩ i=pO b i:=rfl
  rw [this];cases dM s.1.ag i<;>cases dM s.2.ag i<;>cases pO b i<;>rfl
 ·rw [if_neg hl];obtain ⟨_,k⟩:=ss h.ms (h.vr hb hl) o1;refine ⟨⟨h.nG,k.may,h.o9,by simp only;rw [k.from_];exact h.zM,by simp only;rw [k.jZ];exact h.Ec,fun i => ?_⟩,rfl⟩;rw [fe,su,← h.BD i];simp only;rw [k.BD i];have:pO ⟨b.At,b.Order,0⟩ i=pO b i:=rfl
  rw [this,Bool.or_assoc]
theorem kD:∀ {l s t:List Block},bi (some s) l=some t→t=s++l
 | [],s,t,h=>by simp [bi] at h;simp [h]
 | b::l,s,t,h=>by
   have e:bi (some s) (b::l)=bi (jJ (some s) b) l:=rfl
   rw [e] at h;cases e2:jJ (some s) b with
   | none=>rw [e2,fc] at h;cases h
   | some u =>
     rw [e2] at h;obtain ⟨cs,ic,_,rfl⟩:=lg e2;cases ic
     rw [kD h];simp
theorem lR {l m:List Block} {b:Block} (h:(bi (some []) (l++b::m)).isSome=true) : lf l b:=by
 have h1:(bi (some []) (l++[b])).isSome=true:=eY (m:=m) (by simpa using h)
 rw [br] at h1;cases e:bi (some []) l with
 | none=>rw [e,fc] at h1;cases h1
 | some t =>
   have:=kD e
   rw [List.nil_append] at this;subst this;rw [e] at h1;cases e2:bi (some t) [b] with
   | none=>rw [e2] at h1;cases h1
   | some u =>
     have:jJ (some t) b=some u:=e2
     obtain ⟨cs,ic,hf,_⟩:=lg this;cases ic
     exact hf
theorem wS {l:List Block} (h:(bi (some []) l).isSome=true) (hb:∀ b∈l,1≤pw b.Order) : ∀ x∈l,0≤x.At∧1≤pw x.Order:=by
 have hg:=g9 (l:=l) uu hb;obtain ⟨t,ht⟩:=Option.isSome_iff_exists.1 h;have e:=kD ht;rw [List.nil_append] at e;subst e;exact hg _ ht
structure ll (h:Heap) (z0 z1:aq) : Prop where
 cK:h.aQ=[z0,z1]
 nG:bR z0
 ms:bR z1
 o9:z0.aW=0
 zM:z0.To=z1.aW
 Ec:z1.To=256
 all:(bi (some []) (z0.ag++z1.ag++aS h.av)).isSome=true
theorem sv {l:List aB}:∀ b∈aS l,b.Order=0:=fun b hb=>by
 unfold aS at hb;obtain ⟨x,_,hx⟩:=List.mem_flatMap.1 hb;obtain ⟨p,_,rfl⟩:=List.mem_map.1 hx
 rfl
theorem ll.start {h:Heap} {z0 z1:aq} (d:ll h z0 z1) : nF (z0,z1) (z0.ag++z1.ag):=⟨d.nG,d.ms,d.o9,d.zM,d.Ec,fun i=>by rw [fe]⟩
theorem ll.pw {h:Heap} {z0 z1:aq} (d:ll h z0 z1) : ∀ b∈z0.ag++z1.ag++aS h.av,1≤pw b.Order:=fun b hb=>by
 rcases List.mem_append.1 hb with hb|hb
 ·rcases List.mem_append.1 hb with hb|hb
  ·exact (jU d.nG b hb).2
  ·exact (jU d.ms b hb).2
 ·rw [sv b hb,jK];omega
theorem ll.next {h:Heap} {z0 z1:aq} (d:ll h z0 z1) {k:Nat} (hk:k<(aS h.av).length) : qx (z0.ag++z1.ag++(aS h.av).take k) (aS h.av)[k]:=by
 have fO:=d.all;have e:z0.ag++z1.ag++aS h.av=(z0.ag++z1.ag++(aS h.av).take k)++(aS h.av)[k]::(aS h.av).drop (k+1):=by simp
 rw [e] at fO;have hf:=lR fO;have ho:=sv _ (List.getElem_mem hk)
 have hg:=wS (eY fO) (fun b hb=>d.pw b (by
  rcases List.mem_append.1 hb with hb|hb
  ·exact List.mem_append_left _ hb
  ·exact List.mem_append_right _ (List.mem_of_mem_take hb)))
 have hp:=jK;refine ⟨by rw [ho];decide,⟨hf.1,?_⟩,by rw [ho,hp];omega,hf,hg⟩;have:=hf.2.1
 rw [ho,hp] at this;omega
theorem ll.inv {h:Heap} {z0 z1:aq} (d:ll h z0 z1) : ∀ k,k≤(aS h.av).length→nF (dp (z0,z1) ((aS h.av).take k)) (z0.ag++z1.ag++(aS h.av).take k)
 | 0,_=>by simpa [dp] using d.start
 | k+1,hk=>by
   have ih:=(d.inv k (by omega)).back (d.next (show k<_ by omega));rw [lQ _ _ _ (by omega),List.take_succ_eq_append_getElem (by omega),← List.append_assoc];exact ih.1
def gz (l:List aB) (i:Nat) : Nat:=(aS (l.take i)).length
theorem sw {l:List aB} {i:Nat} (hi:i<l.length) : gz l (i+1)=gz l i+l[i].aw.length:=by
 unfold gz;rw [kC _ _ hi];simp
theorem yl (l:List aB) (i:Nat) : aS l=aS (l.take i)++aS (l.drop i):=by
 unfold aS;rw [← List.flatMap_append,List.take_append_drop]
theorem zN {l:List aB} {i j:Nat} (hi:i<l.length) (hj:j<l[i].aw.length) : ∃ h:gz l i+j<(aS l).length,(aS l)[gz l i+j]=cX (l[i].aw[j]):=by
 have e:=yl l i;have e2:l.drop i=l[i]::l.drop (i+1):=by simp
 have e3:aS (l.drop i)=l[i].aw.map cX++aS (l.drop (i+1)):=by rw [e2];rfl
 have c9:gz l i+j<(aS l).length:=by rw [e,e3];simp [gz];omega
 refine ⟨c9,?_⟩
 have:(aS l)[gz l i+j]?=some (cX (l[i].aw[j])):=by
  rw [e,List.getElem?_append_right (by unfold gz;omega)];have:gz l i+j-(aS (l.take i)).length=j:=by unfold gz;omega
  rw [this,e3,List.getElem?_append_left (by simpa using hj)];simp [hj]
 rw [List.getElem?_eq_getElem c9] at this;exact Option.some.inj this
theorem vt (l:List aB) : gz l l.length=(aS l).length:=by simp [gz]
def df (a b:aB) : Prop:=a.dL=b.dL∧a.aq=b.aq∧a.Ty=b.Ty
instance (a b:aB) : Decidable (df a b):=inferInstanceAs (Decidable (_∧_))
def rz (L:List aB) : Prop:=L.Pairwise bz
theorem qy {a b c:aB} (h1:bz a b) (h2:bz b c) : bz a c:=by unfold bz at *;omega
theorem uA (a b:aB) : bz a b∨df a b∨bz b a:=by unfold bz df;omega
theorem jV {a b:aB} (h:bz a b) : ¬ df a b ∧ ¬ df b a ∧ ¬ bz b a:=by unfold bz df at *;omega
theorem vu {c t:Int} {L:List aB} (h:kB c t L) : rz L:=by
 have key:∀ (d i:Nat) (hj:i+d+1<L.length),bz (L[i]'(by omega)) L[i+d+1]:=by
  intro d;induction d with
  | zero=>intro i hj;exact h.next i hj
  | succ d ih=>intro i hj;exact qy (ih i (by omega)) (h.next (i+d+1) (by omega))
 unfold rz;rw [List.pairwise_iff_getElem];intro i j hi hj kP;have:=key (j-i-1) i (by omega)
 have e:i+(j-i-1)+1=j:=by omega
 simp only [e] at this;exact this
theorem rz.get {L:List aB} (h:rz L) {i j:Nat} (hj:j<L.length) (kP:i<j) : bz (L[i]'(Nat.lt_trans kP hj)) L[j]:=by
 unfold rz at h;rw [List.pairwise_iff_getElem] at h;exact h i j (by omega) hj kP
def a8 (L:List aB) (x:aB) : Nat:=L.findIdx fun l => !decide (bz l x)
theorem fI (L:List aB) (x:aB) : a8 L x≤L.length:=List.findIdx_le_length
theorem lS {L:List aB} {x:aB} {k:Nat} (hk:k<a8 L x) : bz (L[k]'(Nat.lt_of_lt_of_le hk (fI L x))) x:=by
 have:=List.not_of_lt_findIdx hk
 simpa using this
theorem zO {L:List aB} {x:aB} (h:a8 L x<L.length) : ¬ bz (L[a8 L x]) x:=by
 have:=List.findIdx_getElem (w:=h)
 exact of_decide_eq_false (by rw [Bool.not_eq_true'] at this;exact this)
theorem nr {L:List aB} {x:aB} {i:Nat} (hi:i≤L.length) (h1:∀ (k:Nat) (h:k<L.length),k<i→bz L[k] x) (h2:∀ h:i<L.length,¬ bz L[i] x) : a8 L x=i:=by
 unfold a8;by_cases h:i<L.length
 ·exact (List.findIdx_eq h).2 ⟨by simpa using h2 h,fun j hj=>by simpa using h1 j (by omega) hj⟩
 ·have e:i=L.length:=by omega
  subst e;rw [List.findIdx_eq_length];intro y hy;obtain ⟨k,hk,rfl⟩:=List.getElem_of_mem hy;simpa using h1 k hk hk
def bT (L:List aB) (x:aB) : Bool:=if h:a8 L x<L.length then decide (df L[a8 L x] x) else false
theorem je {L:List aB} {x:aB} (h:bT L x=true) : ∃ hk:a8 L x<L.length,df L[a8 L x] x:=by
 unfold bT at h;split at h
 ·rename_i hk;exact ⟨hk,of_decide_eq_true h⟩
 ·cases h
theorem zP {L:List aB} {x:aB} (h:bT L x=false) (hk:a8 L x<L.length) : bz x L[a8 L x]:=by
 unfold bT at h;rw [dif_pos hk] at h;have h1:=of_decide_eq_false h;have h2:=zO hk;rcases uA L[a8 L x] x with e|e|e
 ·exact absurd e h2
 ·exact absurd e h1
 ·exact e
theorem Cu {L:List aB} (hs:rz L) {x:aB} {k:Nat} (hk:k<L.length) (h:df L[k] x) : a8 L x=k∧bT L x=true:=by
 have e:a8 L x=k:=nr (by omega) (fun j hj k7=>by have:=hs.get hk k7;unfold bz df at *;omega) (fun _=>by unfold bz df at *;omega)
 refine ⟨e,?_⟩;unfold bT;simp only [e,dif_pos hk];exact decide_eq_true h
theorem Cv {L:List aB} {x:aB} (h:∀ (k:Nat) (hk:k<L.length),¬ df L[k] x) : bT L x=false:=by
 cases e:bT L x with
 | false=>rfl
 | true=>obtain ⟨hk,h1⟩:=je e;exact absurd h1 (h _ hk)
theorem jn {L:List aB} {x y:aB} (h:df x y) : a8 L x=a8 L y∧bT L x=bT L y:=by
 have e:(fun l => !decide (bz l x))=(fun l:aB => !decide (bz l y)):=by
  funext l
  have:bz l x↔bz l y:=by unfold bz df at *;omega
  simp [this]
 have e1:a8 L x=a8 L y:=by unfold a8;rw [e]
 refine ⟨e1,?_⟩;unfold bT;simp only [e1];split
 ·have:df L[a8 L y] x↔df L[a8 L y] y:=by unfold df at *;omega
  simp [this]
 ·rfl
def jx (L:List aB) (x:aB) : List aB:=if bT L x then L.set (a8 L x) x else aV L (a8 L x) x
theorem oh {L:List aB} {x:aB} (h:bT L x=true) : jx L x=L.set (a8 L x) x:=by rw [jx,if_pos h]
theorem ol {L:List aB} {x:aB} (h:bT L x=false) : jx L x=aV L (a8 L x) x:=by rw [jx,if_neg (by simp [h])]
def dA (L:List aB) (x:aB) : List Int:=if bT L x then (L.getD (a8 L x) x).aw else []
theorem iS {L:List aB} {x:aB} (h:bT L x=true) (hk:a8 L x<L.length) : dA L x=L[a8 L x].aw:=by
 rw [dA,if_pos h,List.getD_eq_getElem?_getD,List.getElem?_eq_getElem hk];rfl
theorem lm {L:List aB} {x:aB} (h:bT L x=false) : dA L x=[]:=by rw [dA,if_neg (by simp [h])]
theorem dq {α:Type} (l:List α) {i:Nat} (h:i≤l.length) (x : α) : (aV l i x).length=l.length+1:=by simp [aV];omega
theorem sx {α:Type} {l:List α} {i:Nat} (h:i≤l.length) {x : α} {k:Nat} (hk:k<i) : (aV l i x)[k]?=l[k]?:=by
 unfold aV;rw [List.append_assoc,List.getElem?_append_left (by simp;omega),List.getElem?_take_of_lt hk]
theorem j5 {α:Type} {l:List α} {i:Nat} (h:i≤l.length) {x : α}:(aV l i x)[i]?=some x:=by
 unfold aV;rw [List.append_assoc,List.getElem?_append_right (by simp;omega)];have:i-(l.take i).length=0:=by simp;omega
 rw [this];rfl
theorem pa {α:Type} {l:List α} {i:Nat} (h:i≤l.length) {x : α} {k:Nat} (hk:i≤k) : (aV l i x)[k+1]?=l[k]?:=by
 unfold aV;rw [List.append_assoc,List.getElem?_append_right (by simp;omega)];have:k+1-(l.take i).length=(k-i)+1:=by simp;omega
 rw [this,List.singleton_append,List.getElem?_cons_succ,List.getElem?_drop];congr 1
 omega
theorem pY {α:Type} {l:List α} {i:Nat} (h:i≤l.length) (x y : α) : (aV l i x).set i y=aV l i y:=by
 unfold aV;rw [List.append_assoc,List.append_assoc,List.set_append_right _ _ (by simp;omega)];have:i-(l.take i).length=0:=by simp;omega
 rw [this];rfl
theorem wT {L:List aB} {x:aB}:(jx L x)[a8 L x]?=some x:=by
 cases h:bT L x
 ·rw [ol h];exact j5 (fI L x)
 ·obtain ⟨hk,_⟩:=je h;rw [oh h,List.getElem?_set_self hk]
theorem Cw {L:List aB} {x:aB}:a8 (jx L x) x=a8 L x∧bT (jx L x) x=true:=by
 have hg:=wT (L:=L) (x:=x);obtain ⟨hk,hx⟩:=List.getElem?_eq_some_iff.1 hg
 have e:a8 (jx L x) x=a8 L x:=by
  refine nr (by omega) (fun j hj k7 => ?_) (fun _ => ?_)
  ·have h0:=lS (L:=L) (x:=x) k7
   have e1:(jx L x)[j]?=L[j]?:=by
    cases h:bT L x
    ·rw [ol h];exact sx (fI L x) k7
    ·rw [oh h,List.getElem?_set_ne (by omega)]
   rw [List.getElem?_eq_getElem hj,List.getElem?_eq_getElem (Nat.lt_of_lt_of_le k7 (fI L x))] at e1;injection e1 with e1
   rw [e1];exact h0
  ·rw [hx];unfold bz;omega
 refine ⟨e,?_⟩;unfold bT;simp only [e,dif_pos hk,hx];exact decide_eq_true ⟨rfl,rfl,rfl⟩
theorem Cx {L:List aB} {x y:aB} (h:df x y) : (jx L x).set (a8 L x) y=jx L y:=by
 obtain ⟨e1,e2⟩:=jn (L:=L) h;cases hh:bT L x
 ·rw [ol hh,ol (by rw [← e2];exact hh),pY (fI L x),e1]
 ·rw [oh hh,oh (by rw [← e2];exact hh),List.set_set,e1]
def bV (L:List aB) (x:aB) (k:Nat) : List aB:=if k≤a8 L x then L.take k else if bT L x then (L.set (a8 L x) x).take k else (aV L (a8 L x) x).take (k+1)
theorem mU {α:Type} {l:List α} {k:Nat} {x : α} (h:l[k]?=some x) : l.take (k+1)=l.take k++[x]:=by
 obtain ⟨hk,rfl⟩:=List.getElem?_eq_some_iff.1 h;exact List.take_succ_eq_append_getElem hk
theorem ym {L:List aB} {x:aB} {k:Nat} (hk:k<a8 L x) : bV L x (k+1)=bV L x k++[L[k]'(Nat.lt_of_lt_of_le hk (fI L x))]:=by
 have:=fI L x
 rw [bV,if_pos (by omega),bV,if_pos (by omega)];exact List.take_succ_eq_append_getElem (by omega)
theorem wU {L:List aB} {x:aB} {k:Nat} (hk:k=a8 L x) (hh:bT L x=true) : bV L x (k+1)=bV L x k++[x]:=by
 obtain ⟨hl,_⟩:=je hh;subst hk;rw [bV,if_neg (by omega),if_pos hh,bV,if_pos (Nat.le_refl _),mU (x:=x) (List.getElem?_set_self hl),List.take_set_of_le (Nat.le_refl _)]
theorem Az {L:List aB} {x:aB} {k:Nat} (hk:k=a8 L x) (hl:k<L.length) (hh:bT L x=false) : bV L x (k+1)=bV L x k++[x]++[L[k]]:=by
 subst hk;have hle:=fI L x;rw [bV,if_neg (by omega),if_neg (by simp [hh]),bV,if_pos (Nat.le_refl _),mU (x:=L[a8 L x]) (by rw [pa hle (Nat.le_refl _),List.getElem?_eq_getElem hl]),mU (j5 hle)];congr 2
 unfold aV;rw [List.append_assoc,List.take_append_of_le_length (by simp;omega),List.take_take,Nat.min_self]
theorem wV {L:List aB} {x:aB} {k:Nat} (hk:a8 L x<k) (hl:k<L.length) : bV L x (k+1)=bV L x k++[L[k]]:=by
 have hle:=fI L x;rw [bV,if_neg (show ¬ k+1≤a8 L x by omega),bV,if_neg (show ¬ k≤a8 L x by omega)];cases hh:bT L x
 ·simp only [Bool.false_eq_true,if_false];exact mU (by rw [pa hle (by omega),List.getElem?_eq_getElem hl])
 ·simp only [if_true];exact mU (by rw [List.getElem?_set_ne (by omega),List.getElem?_eq_getElem hl])
theorem wW {L:List aB} {x:aB} (hk:a8 L x<L.length) : bV L x L.length=jx L x:=by
 rw [bV,if_neg (by omega),jx];split
 ·exact List.take_of_length_le (by simp)
 ·exact List.take_of_length_le (by rw [dq _ (fI L x)];omega)
theorem wX {L:List aB} {x:aB} (hk : ¬ a8 L x<L.length) : bV L x L.length++[x]=jx L x:=by
 have hle:=fI L x;have e:a8 L x=L.length:=by omega
 have hf:bT L x=false:=by unfold bT;rw [dif_neg hk]
 rw [bV,if_pos (by omega),ol hf,e,aV];simp
open Go.RowKit
def sy (y:bL) (x:aB) : Prop:=y.dL=x.dL∧y.aq=x.aq∧y.Ty=x.Ty
theorem EW.key {w:World} {r:bL} {l:aB} (h:EW w r l) : sy r l:=⟨h.cpu,h.fp,h.ty⟩
theorem uB (r:ez) (L:List aB) (ls:List bL) (x:aB) (y:bL) (w:World) (hl:rY w r.av ls L) (hk:sy y x) (hn:r.av.n≤1000000000000000000) :
 bt Tryz.prog 128 [.agg (bm r).toArray,.agg (bp y).toArray] w fun v _=>v = .tuple #[.int .i64 (a8 L x:Int),.bool (bT L x)]:=by
 refine aL Tryz.func128 rfl Tryz.ntmps128 rfl ?_;refine CW.seq (CW.region (SW.box rfl rfl fun b2 w1 hw gQ aK => ?_));refine SW.box rfl rfl fun b3 w2 cw bK ar => ?_
 (replace hw:=Ext.trans hw cw;replace aK:=aK.ext cw);obtain ⟨l1,l2⟩:=hl.len;have hA:=hl.row.base;refine Wz ?_
 refine CW.loop (fun i:Nat=>[(2,.pointer (some ⟨b2,0,none⟩)),(3,.pointer (some ⟨b3,0,none⟩)),(6,.int .i64 (i:Int))])
  (fun i w'=>i≤r.av.n∧Ext w w'∧aJ w' b2 27 (bm r)∧aJ w' b3 62 (bp y) ∧ ∀ (k:Nat) (h:k<L.length),k<i→bz L[k] x) (fun i=>r.av.n-i) 0
  ⟨rfl,rfl,rfl,trivial⟩ ⟨by omega,hw,aK,ar,fun k h h'=>by omega⟩ ?_
 clear hw aK ar;rintro i w' ⟨hi,hw,aK,ar,hI⟩
 by_cases cf:i<r.av.n
 ·have kE:i<L.length:=by omega
  have ln:i<ls.length:=by omega
  have wY:=hl.each.get i ln kE;obtain ⟨q,hq⟩ : ∃ q,decide (bz L[i] x)=q:=⟨_,rfl⟩;obtain ⟨p,hp⟩ : ∃ p,decide (bz x L[i])=p:=⟨_,rfl⟩
  have cL:∀ w',bt Tryz.prog 96 [.agg (bp ls[i]).toArray,.agg (bp y).toArray] w' fun v _=>v = .bool q:=fun w'=>by
   have:=pW ls[i] y L[i] x w' wY.key hk
   rwa [hq] at this
  have cR:∀ w',bt Tryz.prog 96 [.agg (bp y).toArray,.agg (bp ls[i]).toArray] w' fun v _=>v = .bool p:=fun w'=>by
   have:=pW y ls[i] x L[i] w' hk wY.key
   rwa [hp] at this
  cases q
  ·have k6:=of_decide_eq_false hq;have ek:a8 L x=i:=nr (by omega) hI (fun _=>k6)
   have eh:bT L x = !p:=by
    unfold bT;simp only [ek,dif_pos kE,← hp];rcases uA L[i] x with e|e|e
    ·exact absurd e k6
    ·have : ¬ bz x L[i]:=by unfold bz df at *;omega
     simp [e,this]
    ·have:=(jV e).2.1
     simp [e,this]
   rw [ek,eh];cases p
   all_goals
    repeat' (first|refine Wz ?_|((apply CW.aO mixed;(· kernel_rfl);rotate_left;intro w1 ab;replace hw:=Ext.trans hw ab;replace aK:=aK.ext ab;replace ar:=ar.ext ab;clear ab;rotate_right))|refine SW.st (aH hw rfl rfl ((hl.row.all cf))) rfl ?_|refine SW.bq rfl rfl (fun w1 ab=>(cL _)) ?_|refine SW.bq rfl rfl (fun w1 ab=>(cR _)) ?_|exact SW.bx rfl)
    exact ae.cu rfl rfl rfl ⟨_,rfl,hw,rfl⟩
  ·have J4:=of_decide_eq_true hq;repeat' (first|refine Wz ?_|((apply CW.aO mixed;(· kernel_rfl);rotate_left;intro w1 ab;replace hw:=Ext.trans hw ab;replace aK:=aK.ext ab;replace ar:=ar.ext ab;clear ab;rotate_right))|refine SW.st (aH hw rfl rfl ((hl.row.all cf))) rfl ?_|refine SW.bq rfl rfl (fun w1 ab=>(cL _)) ?_|exact SW.bx rfl)
   exact ae.again (i+1) ⟨rfl,rfl,rfl,trivial⟩ (by omega) ⟨by omega,hw,aK,ar,fun k h h'=>by
    by_cases e:k=i
    ·subst e;exact J4
    ·exact hI k h (by omega)⟩
 ·have ek:a8 L x=i:=nr (by omega) hI (fun h=>by omega)
  have eh:bT L x=false:=by unfold bT;rw [dif_neg (by omega)]
  rw [ek,eh];repeat' (first|refine Wz ?_|((apply CW.aO mixed;(· kernel_rfl);rotate_left;intro w1 ab;replace hw:=Ext.trans hw ab;replace aK:=aK.ext ab;replace ar:=ar.ext ab;clear ab;rotate_right))|exact SW.bx rfl)
  exact ae.cu rfl rfl rfl ⟨_,rfl,hw,rfl⟩
theorem sA (A:Option Addr) (n c:Nat) (l:List Block) (a:Int) (w:World) (hl:Sl w 3 az A n l) (f:FuncId) [Body Tryz.prog f] (cv:Block→Int) (hf:∀ x∈l,∀ w',Ext w w'→bt Tryz.prog f ([.agg (az x).toArray,.int .i64 a]++[]) w' fun v _=>v = .int .i64 (cv x))
 (cG:∀ x∈l,cv x≠0) (hn:n≤1000000000000000000) : bt Tryz.prog 65 [.slice A n c,.int .i64 a,.func (.func f) #[] #[]] w fun v _ => ∃ i:Nat,v = .tuple #[.int .i64 (i:Int),.bool false]:=by
 refine aL Tryz.func65 rfl Tryz.ntmps65 rfl ?_;have hw:=Ext.refl w;have hA:=hl.base;have ma:=hl.len;refine Wz ?_
 refine CW.loop (fun s:Nat×Nat=>[(0,.slice A n c),(1,.int .i64 a),(2,.func (.func f) #[] #[]),(8,.int .i64 (n:Int)),(9,.int .i64 (s.1:Int)),(10,.int .i64 (s.2:Int))])
  (fun s w'=>s.1≤s.2∧s.2≤n∧Ext w w') (fun s=>s.2-s.1) (0,n)
  ⟨rfl,rfl,rfl,rfl,rfl,rfl,trivial⟩ ⟨by omega,by omega,hw⟩ ?_
 clear hw;rintro ⟨i,j⟩ w' ⟨kP,iZ,hw⟩
 simp only at kP iZ ⊢;by_cases c9:i<j
 ·have hk:(i+j) / 2<n:=by omega
  have de:=hl.lt hk;have oP:=fun w1 h1=>hf (l[(i+j) / 2]) (List.getElem_mem de) w1 h1
  repeat' (first|refine Wz ?_|refine SW.st (aH hw rfl rfl ((hl.all hk))) rfl ?_|(refine SW.st ((oS Tryz.underlying3 oR rfl).eq (congrArg (Value.int .u64) (wrap_u64 (by omega) (by omega)))) rfl ?_)|(refine SW.st ((oS oR Tryz.underlying3 rfl).eq (congrArg (Value.int .i64) (ir (by omega) (by omega)))) rfl ?_)|(refine SW.st (zC rfl rfl) rfl ?_))
  refine SW.oI (cap:=[]) rfl rfl rfl (oP _ hw) fun v w1 ab hv => ?_
  subst hv;replace hw:=Ext.trans hw ab;by_cases HG:cv l[(i+j) / 2]<0
  ·refine Wz ?_;exact ae.again ((i+j) / 2+1,j) ⟨rfl,rfl,rfl,rfl,congrArg (fun z=>some (Value.int .i64 z)) (by omega),rfl,trivial⟩ (by simp only;omega) ⟨by simp only;omega,iZ,hw⟩
  ·refine Wz ?_;exact ae.again (i,(i+j) / 2) ⟨rfl,rfl,rfl,rfl,rfl,congrArg (fun z=>some (Value.int .i64 z)) (by omega),trivial⟩ (by simp only;omega) ⟨by simp only;omega,by simp only;omega,hw⟩
 ·obtain rfl:i=j:=by omega
  by_cases cf:i<n
  ·have de:=hl.lt cf;have oP:=fun w1 h1=>hf (l[i]) (List.getElem_mem de) w1 h1
   have h0:=cG (l[i]) (List.getElem_mem de);repeat' (first|refine Wz ?_|refine SW.st (aH hw rfl rfl ((hl.all cf))) rfl ?_)
   refine SW.oI (cap:=[]) rfl rfl rfl (oP _ hw) fun v w1 ab hv => ?_
   subst hv;replace hw:=Ext.trans hw ab;refine Wz ?_;refine ae.cu rfl rfl rfl ⟨_,rfl,hw,i,?_⟩;rw [decide_eq_false h0]
  ·refine Wz ?_;exact ae.cu rfl rfl rfl ⟨_,rfl,hw,i,rfl⟩
theorem wZ (x:Block) (a:Int) (w:World) : bt Tryz.prog 124 ([.agg (az x).toArray,.int .i64 a]++[]) w fun v _=>v = .int .i64 (IntKind.i64.wrap (x.At-a)):=by
 refine aL Tryz.func124 rfl Tryz.ntmps124 rfl ?_;refine CW.seq (CW.region (SW.box rfl rfl fun b1 w1 hw gK aA => ?_));repeat' (first|refine Wz ?_|(refine SW.st (rl rfl rfl) rfl ?_))
 exact ae.aN rfl rfl ⟨_,rfl,hw,rfl⟩
theorem wrap_zero {z:Int} (h1 : -18446744073709551616<z) (h2:z<18446744073709551616) (h:IntKind.i64.wrap z=0) : z=0:=by
 simp [IntKind.wrap,IntKind.bits,IntKind.signed] at h;omega
def Ed (l:List Block) (a:Int) (v:Value) : Prop:=(cc l a=true→v = .tuple #[.int .i64 (bE l a:Int),.bool true])∧(cc l a=false → ∃ i:Nat,v = .tuple #[.int .i64 (i:Int),.bool false])
theorem om (r:ez) (L:List aB) (ls:List bL) (x:aB) (w:World) (hl:rY w r.av ls L) (hs:rz L) (hn:r.av.n≤1000000000000000000) (hp:∀ l∈L,l.aw.length*8≤140737488355328) :
 bt Tryz.prog 87 [.agg (bm r).toArray,.int .i64 x.dL,.int .i64 x.aq,.int .i64 x.Ty] w fun v w' => ∃ A c,v = .slice A (dA L x).length c∧Own w' w.heap.size 3 1 bh A (dA L x).length c (dA L x):=by
 refine aL Tryz.func87 rfl Tryz.ntmps87 rfl ?_;refine CW.seq (CW.region (SW.box rfl rfl fun b4 w1 hw ml bX => ?_));obtain ⟨l1,l2⟩:=hl.len;have hA:=hl.row.base;refine Wz ?_
 refine CW.loop (fun i:Nat=>[(1,.int .i64 x.dL),(2,.int .i64 x.aq),(3,.int .i64 x.Ty),(4,.pointer (some ⟨b4,0,none⟩)),(9,.int .i64 (i:Int))])
  (fun i w'=>i≤r.av.n∧Ext w w'∧aJ w' b4 27 (bm r) ∧ ∀ (k:Nat) (h:k<L.length),k<i → ¬ df L[k] x) (fun i=>r.av.n-i) 0
  ⟨rfl,rfl,rfl,rfl,rfl,trivial⟩ ⟨by omega,hw,bX,fun k h h'=>by omega⟩ ?_
 clear hw bX;rintro i w' ⟨hi,hw,bX,hI⟩
 by_cases cf:i<r.av.n
 ·have kE:i<L.length:=by omega
  have ln:i<ls.length:=by omega
  have wY:=hl.each.get i ln kE;have e1:=wY.cpu;have e2:=wY.fp;have e3:=wY.ty;have sB:=wY.cr.len;have EU:=hp _ (List.getElem_mem kE);have g0:=hl.row.dv cf (j:=0) (u := .int .i64 ls[i].dL) rfl;have g1:=hl.row.dv cf (j:=1) (u := .int .i64 ls[i].aq) rfl;have g2:=hl.row.dv cf (j:=2) (u := .int .i64 ls[i].Ty) rfl;have g3:=hl.row.dv cf (j:=3) (u := .slice ls[i].aw.A ls[i].aw.n ls[i].aw.c) rfl;by_cases hk:df L[i] x
  ·obtain ⟨k1,k2,k3⟩:=id hk;obtain ⟨ek,eh⟩:=Cu hs kE hk
   have ep:dA L x=L[i].aw:=by
    rw [iS eh (by omega)];simp only [ek]
   rw [ep];repeat' (first|refine Wz ?_|refine SW.st (ao hw rfl g0) rfl ?_|refine SW.st (ao hw rfl g1) rfl ?_|refine SW.st (ao hw rfl g2) rfl ?_|refine SW.st (ao hw rfl g3) rfl ?_)
   all_goals try omega
   refine SW.call rfl rfl (gd _ _ _ _ _ (wY.cr.ext hw) (by omega)) fun v w4 aj hv => ?_
   obtain ⟨X,c4,rfl,hX⟩:=hv;replace hX:=hX.low hw.size;replace hw:=Ext.trans hw aj;refine Wz ?_;refine ae.aN rfl rfl ⟨_,rfl,hw,X,c4,by rw [sB],by rw [sB];exact hX⟩
  ·have oO : ¬ (ls[i].dL=x.dL∧ls[i].aq=x.aq∧ls[i].Ty=x.Ty):=by unfold df at hk;omega
   repeat' (first|refine Wz ?_|refine SW.cb rfl rfl rfl (fun h => ?_) (fun h => ?_)|refine SW.st (ao hw rfl g0) rfl ?_|refine SW.st (ao hw rfl g1) rfl ?_|refine SW.st (ao hw rfl g2) rfl ?_)
   all_goals try omega
   all_goals
    exact ae.again (i+1) ⟨rfl,rfl,rfl,rfl,rfl,trivial⟩ (by omega) ⟨by omega,hw,bX,fun k h h'=>by
     by_cases e:k=i
     ·subst e;exact hk
     ·exact hI k h (by omega)⟩
 ·have ep:dA L x=[]:=lm (Cv fun k hk=>hI k hk (by omega))
  rw [ep];refine Wz ?_;exact ae.aN rfl rfl ⟨_,rfl,hw,none,0,rfl,Own.eR _ _ _ _ _ _⟩
open Go.RowKit
section
variable {P:Program} {n:Nat} {ops:Array Oper} {Q:Exit→Act→World→Prop} {rest:List Oper} {L:Env} {w:World} {d:Nat} {T:TypeId} {pos:String} {af:Array Edge}
end
section
variable {α:Type} {P:Program} {w:World} {lo:Nat} {t e:TypeId} {z:Value} {sz bytes:Nat} {enc : α → List Value} {A X:Option Addr} {n c m d:Nat} {l ys:List α}
theorem xa [S:bw P t e sz] [T:dg P e z sz bytes] [E:fB enc sz] (ty:TypeId) (hO:Own w lo e sz enc A n c l) (hS:Sl w sz enc X m ys) (fC:lo≤w.heap.size) (rL : 0<m)
 (hb:(n+m)*bytes≤140737488355328) (hm:n+m≤maxLen) :
 ∃ A' c' w',(Builtin.append_ #[t,t] ty #[.slice A n c,.slice X m d]).run P w = .ok (.slice A' (n+m) c') w' ∧
  ((A'=A∧c'=c∧Own w' lo e sz enc A (n+m) c (l++ys)∧w.grownBy w' (aT A c))∨(Own w' w.heap.size e sz enc A' (n+m) c' (l++ys)∧w.grownBy w' none)):=by
 obtain ⟨i,hi,hz,hs,uj⟩:=dK P e (z:=z) (sz:=sz) (bytes:=bytes);have Bv:(ys.flatMap enc).length=m*sz:=by rw [ba,hS.len]
 have nB:∀ u∈ys.flatMap enc,u.oneCell'=true:=fun u hu=>by
  obtain ⟨x,_,hx⟩:=List.mem_flatMap.1 hu;exact E.one x u hx
 have FD:(l++ys).flatMap enc=l.flatMap enc++ys.flatMap enc:=List.flatMap_append
 have ma:(l++ys).length=n+m:=by rw [List.length_append,hO.len,hS.len]
 obtain ⟨ad,rfl⟩:=Option.isSome_iff_exists.1 (hS.base rL);have oH:=dm T.pos hS;have J5:(l.flatMap enc).length=n*sz:=by rw [ba,hO.len]
 have uC:∀ b,A=some b→c<n+m→(∀ j u,(l.flatMap enc)[j]?=some u→w.cell? (b.add j)=some u) →
  ∃ A' c' w',(Builtin.append_ #[t,t] ty #[.slice A n c,.slice (some ad) m d]).run P w = .ok (.slice A' (n+m) c') w'∧(Own w' w.heap.size e sz enc A' (n+m) c' (l++ys)∧w.grownBy w' none):=by
  rintro b rfl c9 hold;obtain ⟨v',w',hr,h2,h3⟩:=run_append_arg_grows (P:=P) w t ty e i z sz bytes S.ko hi hz hs uj T.zc T.pos b n c (l.flatMap enc) J5 hold ad m d (ys.flatMap enc) Bv oH c9 hm hb;rw [← FD] at h2;obtain ⟨A',c',rfl,ho⟩:=Own.ni h2 ma;exact ⟨A',c',w',hr,ho,h3⟩
 rcases hO.row with ⟨rfl,rfl⟩|⟨hc,g,ga,rfl,JE,tH,tx,u5,xT,wh⟩
 ·have hl:l=[]:=List.eq_nil_of_length_eq_zero hO.len
  subst hl;cases A with
  | none =>
    obtain ⟨v',w',hr,h2,h3,_⟩:=run_append_own (P:=P) w w.heap.size t ty e i z sz bytes S.ko hi hz hs uj T.zc T.pos (.slice none 0 0) 0 [] (World.ownsRow_nil _ _ _ _) ad m d (ys.flatMap enc) Bv oH nB hm hb (Nat.le_refl _);obtain ⟨A',c',rfl,ho⟩:=Own.ni (m:=0+m) (l:=[]++ys) (enc:=enc) (by simpa using h2) (by simpa using hS.len);exact ⟨A',c',w',hr,.inr ⟨ho,by simpa [Value.ownBlock] using h3⟩⟩
  | some b =>
    obtain ⟨A',c',w',hr,h⟩:=uC b rfl (by omega) (by simp);exact ⟨A',c',w',hr,.inr h⟩
 ·by_cases jk:n+m≤c
  ·obtain ⟨A',c',w',hr,h1,h2⟩:=mA (P:=P) (t:=t) ty hO hS (d:=d) fC hb hm;have mj:=run_append_room (P:=P) w t ty e i S.ko hi g n c ga tH ad m d (ys.flatMap enc) (by rw [hs];exact Bv) oH nB jk (by rw [hs,Bv,xT,← Nat.add_mul];exact Nat.mul_le_mul_right _ jk);have he:=hr.symm.trans mj;injection he with he _
   injection he with e1 _ e3
   subst e1 e3;exact ⟨_,_,w',hr,.inl ⟨rfl,rfl,h1,h2⟩⟩
  ·obtain ⟨A',c',w',hr,h⟩:=uC ⟨g,0,none⟩ rfl (by omega) ((hO.owns hc).cells (g:=g) (by simp [Value.ownBlock]));exact ⟨A',c',w',hr,.inr h⟩
end
theorem SW.vv {α:Type} {P:Program} {n:Nat} {ops:Array Oper} {Q:Exit→Act→World→Prop} {rest:List Oper} {L:Env} {w:World} {dd:Nat} {T:TypeId} {pos:String} {af:Array Edge}
 {lo:Nat} {t e:TypeId} {z:Value} {sz bytes:Nat} {enc : α → List Value} {A X:Option Addr} {k c m c2:Nat} {l ys:List α} [bw P t e sz] [dg P e z sz bytes] [fB enc sz] {x y:Operand}
 (hO:Own w lo e sz enc A k c l) (hS:Sl w sz enc X m ys) (fC:lo≤w.heap.size) (rL : 0<m) (hx:ca L x=some (.slice A k c)) (hy:ca L y=some (.slice X m c2)) (hn:Nat.blt dd n=true)
 (hb:(k+m)*bytes≤140737488355328) (hm:k+m≤9223372036854775807)
 (h:∀ A' c' w',((A'=A∧c'=c∧Own w' lo e sz enc A (k+m) c (l++ys)∧w.grownBy w' (aT A c))∨(Own w' w.heap.size e sz enc A' (k+m) c' (l++ys)∧w.grownBy w' none))→SW P n ops (.fr Q) rest ((dd,.slice A' (k+m) c')::L) w') :
 SW P n ops (.fr Q) (⟨some dd,.call ⟨.builtin .append,#[x,y],#[t,t]⟩,T,pos,af,none⟩::rest) L w :=
 ⟨fun a ha=>by
  obtain ⟨A',c',w',hr,h1⟩:=xa (P:=P) (t:=t) T hO hS (d:=c2) fC rL hb (by simp only [maxLen];omega);simp only [swp,wpList,Region.wanted,if_true];refine .inl ?_;unfold Oper.wp
  have:(execOp a.eval ⟨some dd,.call ⟨.builtin .append,#[x,y],#[t,t]⟩,T,pos,af,none⟩).run P w = .ok (.value (.slice A' (k+m) c')) w':=by
   simp [execOp,resolve,invoke,builtin,ha.eval hx,ha.eval hy,hr]
  rw [this,Oper.upon_value];exact (h A' c' w' h1).out _ (ha.put hn _)⟩
open Go.RowKit
set_option maxHeartbeats 4000000 in
theorem sC (A:Option Addr) (n c lo:Nat) (l:List bL) (w:World) (hO:Own w lo 62 4 bp A n c l) (i:Nat) (hi:i≤n) (x:bL) (b:Nat) (hB:aJ w b 62 (bp x)) (cG:aT A c≠some b) (hn:(n+1)*48≤140737488355328) (fC:lo≤w.heap.size) :
 gL Tryz.prog 137 [.slice A n c,.int .i64 (i:Int),.slice (some ⟨b,0,none⟩) 1 1] w fun v w' => ∃ A' c',v = .slice A' (n+1) c'∧Own w' lo 62 4 bp A' (n+1) c' (aV l i x)∧w.grownBy w' (aT A c) ∧ ∀ k,aT A' c'=some k→aT A c=some k∨w.heap.size≤k:=by
 refine dw Tryz.func137 rfl Tryz.ntmps137 rfl ?_;have hle:=hO.le;have ma:=hO.len;have hA:=hO.sl.base;have hw:=Ext.refl w;have kz:Sl w 4 bp (some ⟨b,0,none⟩) 1 [x]:=aJ.mb hB
 have jI:(bp x).length=4:=rfl
 have oB:∀ q:List bL,(q.flatMap bp).length=q.length*4:=fun q=>ba q
 have nB:∀ (q:List bL) (v:Value),v∈q.flatMap bp→v.oneCell'=true:=fun q v hv=>by
  obtain ⟨u,_,hu⟩:=List.mem_flatMap.1 hv;exact fB.one (enc:=bp) u v hu
 by_cases cf:i=n
 ·subst cf;repeat' (first|refine Wz ?_|(refine SW.st (bg (k:=i) rfl rfl (by omega) (by omega)) rfl ?_))
  all_goals try omega
  refine SW.vv hO kz fC (by omega) rfl rfl rfl (by omega) (by omega) fun A2 c2 w2 cy => ?_
  have sD:Own w2 lo 62 4 bp A2 (i+1) c2 (l++[x])∧w.grownBy w2 (aT A c) ∧ ∀ k,aT A2 c2=some k→aT A c=some k∨w.heap.size≤k:=by
   rcases cy with ⟨rfl,rfl,h1,h2⟩|⟨h1,h2⟩
   ·exact ⟨h1,h2,fun k e => .inl e⟩
   ·exact ⟨h1.low fC,(aE (Ext.refl w) h2 (Nat.le_refl _) (fun k e=>by cases e)).gr _,fun k e => .inr (h1.aM k e)⟩
  obtain ⟨gx,hg,kN⟩:=sD;refine Wz ?_;refine ae.aN rfl rfl ⟨_,rfl,A2,c2,rfl,?_,hg,kN⟩;have e:aV l i x=l++[x]:=by unfold aV;rw [List.take_of_length_le (by omega),List.drop_eq_nil_of_le (by omega)];simp
  rw [e];exact gx
 ·by_cases jk:n+1≤c
  ·obtain ⟨g,rest,rfl,h1,h2,h3,h4,h5,h6⟩:=hO.opened (by omega);have Af:g≠b:=fun e=>cG (by rw [h6,e])
   have es:l.flatMap bp++rest=(l.take i).flatMap bp++((l.drop i).flatMap bp++rest):=by rw [← List.append_assoc,← List.flatMap_append,List.take_append_drop]
   have e1:((l.take i).flatMap bp).length=i*4:=by rw [oB];simp;omega
   have e2:((l.drop i).flatMap bp).length=(n-i)*4:=by rw [oB];simp [ma]
   have lK:=hO.sl.drop i c (by omega) (by omega);rw [if_neg (by omega)] at lK;rw [es] at h2
   have wx:∀ w',Ext w w'→(Extern.SlicesOverlaps.overlaps #[24,24] #[4] #[.slice (some ⟨b,0,none⟩) 1 1,.slice (if c=i+1 then (some ⟨g,0,none⟩) else (some (⟨g,0,none⟩ : Addr)).map (·.add ((i+1)*4))) (n+1-(i+1)) (c-(i+1))]).run Tryz.prog w' = .ok (.bool false) w':=fun w' hx=>by
    rw [if_neg (by omega),Option.map_some,c7];have b1:=hB.ext hx;have b2:=h2.ext hx;unfold aJ at b1 b2
    exact Lib.run_overlaps_apart w' 24 4 62 (bw.ko (t:=24)) 4 (fun w0=>run_sizeOf (bw.size (t:=24)) w0) ⟨b,0,none⟩ ⟨g,(i+1)*4,none⟩ 1 1 _ _ (fun e=>Af e.symm) 62 62 (bp x).toArray.size ((l.take i).flatMap bp++((l.drop i).flatMap bp++rest)).toArray.size
     (by simp only [World.shape?,b1]) (by simp only [World.shape?,b2]) (by simp [e1,e2];omega) (by simp [World.frozen?,b1]) (by simp [World.frozen?,b1])
   repeat' (first|refine Wz ?_|(refine CW.bF rfl ?_)|(refine SW.st (bg (k:=i) rfl rfl (by omega) (by omega)) rfl ?_)|(refine SW.st (da (k:=n+1) rfl rfl (by omega)) rfl ?_)|(refine SW.st (bg (k:=i+1) rfl rfl (by omega) (by omega)) rfl ?_)|(refine SW.entry Tryz.func145 (by kernel_rfl) (by kernel_rfl) (by kernel_rfl) (e:=Extern.SlicesOverlaps.overlaps #[24,24] #[4]) (by kernel_rfl) rfl rfl (wx _ hw) ?_))
   all_goals try omega
   have ui:((n-i)+1)*4≤((l.drop i).flatMap bp++rest).length:=by rw [List.length_append,e2];omega
   have e4:(l.drop i).flatMap bp++rest=((l.drop i).flatMap bp++rest).take 4++(((l.drop i).flatMap bp++rest).drop 4).take ((n-i)*4)++((l.drop i).flatMap bp++rest).drop (4+(n-i)*4):=by
    rw [List.append_assoc,← List.drop_drop,List.take_append_drop,List.take_append_drop]
   generalize B0:((l.drop i).flatMap bp++rest).take 4=D1 at e4
   generalize B1:(((l.drop i).flatMap bp++rest).drop 4).take ((n-i)*4)=D2 at e4
   generalize B3:((l.drop i).flatMap bp++rest).drop (4+(n-i)*4)=D3 at e4
   have f1:D1.length=4:=by rw [← B0];simp only [List.length_take];omega
   have f2:D2.length=(n-i)*4:=by rw [← B1];simp only [List.length_take,List.length_drop];omega
   have f3:D3.length+4=rest.length:=by rw [← B3];simp only [List.length_drop,List.length_append,e2];omega
   rw [e4] at h2;refine CW.any 8 mixed (cl (by kernel_rfl)) rfl fun w1 ab aG => ?_
   replace hw:=Ext.trans hw ab;replace hO:=hO.ext ab;replace hB:=hB.ext ab;replace h2:=h2.ext ab;clear ab;refine Wa ?_;refine SA.take 4 aG rfl (by kernel_rfl) (by kernel_rfl) rfl ?_;repeat ((refine SW.st (bg (k:=i+1) rfl rfl (by omega) (by omega)) rfl ?_))
   refine SW.ah ?_;refine Wa ?_;refine SA.take 7 aG rfl (by kernel_rfl) (by kernel_rfl) rfl ?_;repeat ((refine SW.st (bg (k:=i) rfl rfl (by omega) (by omega)) rfl ?_))
   refine SW.ah ?_;refine SA.done (by kernel_rfl) ?_;refine SW.copy (k:=n-i) ((i+1)*4) ((l.drop i).flatMap bp) h2 rfl rfl rfl (by omega) e2 (by simp only [List.length_append,e1,e2,f1,f2];omega) (fun h0=>⟨by rw [if_neg (by omega)];simp [c7],(⟨g,0,none⟩ : Addr).add (i*4),by rw [if_neg (by omega)];rfl,fun j v hv=>dm (by omega) (lK.ext hw) j v hv⟩) (nB _) fun w3 mi tx => ?_
   have g1:=eJ ((l.take i).flatMap bp++D1) D2 D3 ((l.drop i).flatMap bp) (by rw [e2,f2]) (o:=(i+1)*4) (by rw [List.length_append,e1,f1];omega);have g0:(l.take i).flatMap bp++(D1++D2++D3)=(l.take i).flatMap bp++D1++D2++D3:=by simp only [List.append_assoc]
   rw [g0,g1] at mi;have DZ:=bO (hw.gr (aT (some ⟨g,0,none⟩) c)) tx (.inl h6.symm);have HF:=hB.grown tx (by simpa using fun e=>Af e.symm);repeat' (first|refine Wz ?_|(refine SW.st (bg (k:=i) rfl rfl (by omega) (by omega)) rfl ?_))
   refine SW.copy (k:=1) (i*4) (bp x) mi rfl rfl rfl (by omega) jI (by simp only [List.length_append,e1,e2,f1,jI];omega) (fun h0=>⟨by rw [if_neg (by omega)];simp [c7],⟨b,0,none⟩,rfl,fun j v hv=>HF.cell hv⟩) (fB.one (enc:=bp) x) fun w4 mI u5 => ?_
   have g2:=eJ ((l.take i).flatMap bp) D1 ((l.drop i).flatMap bp++D3) (bp x) (by rw [jI,f1]) (o:=i*4) e1.symm;have g3:(l.take i).flatMap bp++D1++(l.drop i).flatMap bp++D3=(l.take i).flatMap bp++D1++((l.drop i).flatMap bp++D3):=by simp only [List.append_assoc]
   have g4:(l.take i).flatMap bp++bp x++((l.drop i).flatMap bp++D3)=(aV l i x).flatMap bp++D3:=by unfold aV;simp only [List.flatMap_append,List.flatMap_cons,List.flatMap_nil,List.append_nil,List.append_assoc]
   rw [g3,g2,g4] at mI;have B4:=Own.closed (n:=n+1) (c:=c) (l:=aV l i x) (by unfold aV;simp;omega) mI (by omega) jk (by omega) h5 h1;have B5:=bO DZ u5 (.inl h6.symm);refine Wz ?_;exact ae.aN rfl rfl ⟨_,rfl,_,_,rfl,B4,B5,fun k e => .inl e⟩
  ·have EX:c=n:=by omega
   have lK:=hO.sl.drop i c (by omega) (by omega);have pM:=hO.sl.pre (i:=i) (by omega);repeat' (first|refine Wz ?_|(refine SW.st (bg (k:=i) rfl rfl (by omega) (by omega)) rfl ?_)|(refine SW.st (da (k:=i) rfl rfl (by omega)) rfl ?_))
   all_goals try omega
   refine SW.vg (k:=n+1-i) pM Tryz.underlying3 rfl rfl (by omega) rfl (by omega) (by omega) (by omega) (by omega) fun g rest c2 w2 cw tH h2 h3 h4 h5 => ?_
   have e1:((l.take i).flatMap bp).length=i*4:=by rw [oB];simp;omega
   have e2:((l.drop i).flatMap bp).length=(n-i)*4:=by rw [oB];simp [ma]
   have ui:((n-i)+1)*4≤rest.length:=by omega
   have e4:rest=rest.take 4++(rest.drop 4).take ((n-i)*4)++rest.drop (4+(n-i)*4):=by
    rw [List.append_assoc,← List.drop_drop,List.take_append_drop,List.take_append_drop]
   generalize B0:rest.take 4=D1 at e4
   generalize B1:(rest.drop 4).take ((n-i)*4)=D2 at e4
   generalize B3:rest.drop (4+(n-i)*4)=D3 at e4
   have f1:D1.length=4:=by rw [← B0];simp only [List.length_take];omega
   have f2:D2.length=(n-i)*4:=by rw [← B1];simp only [List.length_take,List.length_drop];omega
   have f3:D3.length+((n-i)+1)*4=rest.length:=by rw [← B3];simp only [List.length_drop];omega
   rw [e4] at h2;have dt:aT A c≠some g:=fun e=>by have:=hO.lt_size _ e;omega
   have Af:b≠g:=by have:=hB.lt;omega
   replace lK:=lK.ext cw;replace hB:=hB.ext cw;replace hw:=Ext.trans hw cw;repeat' (first|refine Wz ?_|(refine SW.st (bg (k:=i) rfl rfl (by omega) (by omega)) rfl ?_))
   refine SW.copy (k:=1) (i*4) (bp x) h2 rfl rfl rfl (by omega) jI (by simp only [List.length_append,e1,f1,f2,jI];omega) (fun h0=>⟨by rw [if_neg (by omega)];simp [c7],⟨b,0,none⟩,rfl,fun j v hv=>hB.cell hv⟩) (fB.one (enc:=bp) x) fun w3 mi tx => ?_
   have g2:=eJ ((l.take i).flatMap bp) D1 (D2++D3) (bp x) (by rw [jI,f1]) (o:=i*4) e1.symm;have g3:(l.take i).flatMap bp++(D1++D2++D3)=(l.take i).flatMap bp++D1++(D2++D3):=by simp only [List.append_assoc]
   rw [g3,g2] at mi;have tz:Ext w w3:=hw.own tH tx
   have kA:Sl w3 4 bp (if c=i then A else A.map (·.add (i*4))) (n-i) (l.drop i):=(hO.sl.drop i c (by omega) (by omega)).ext tz
   replace hw:=tz;refine Wz ?_;refine CW.any 8 mixed (cl (by kernel_rfl)) rfl fun w1 ab aG => ?_
   replace hw:=Ext.trans hw ab;replace mi:=mi.ext ab;replace kA:=kA.ext ab;clear ab;refine Wa ?_;refine SA.take 4 aG rfl (by kernel_rfl) (by kernel_rfl) rfl ?_;repeat ((refine SW.st (bg (k:=i+1) rfl rfl (by omega) (by omega)) rfl ?_))
   refine SW.ah ?_;refine Wa ?_;refine SA.take 7 aG rfl (by kernel_rfl) (by kernel_rfl) rfl ?_;repeat ((refine SW.st (bg (k:=i) rfl rfl (by omega) (by omega)) rfl ?_))
   refine SW.ah ?_;refine SA.done (by kernel_rfl) ?_;refine SW.copy (k:=n-i) ((i+1)*4) ((l.drop i).flatMap bp) mi rfl rfl rfl (by omega) e2 (by simp only [List.length_append,e1,e2,f2,jI];omega) (fun h0=>⟨by rw [if_neg (by omega)];simp [c7],(if c=i then A else A.map (·.add (i*4))).getD default,?_,fun j v hv=>dm (by omega) kA j v hv⟩) (nB _) fun w4 mI u5 => ?_
   ·obtain ⟨a,ha⟩:=Option.isSome_iff_exists.1 (kA.base h0);rw [ha];rfl
   ·have g4:=eJ ((l.take i).flatMap bp++bp x) D2 D3 ((l.drop i).flatMap bp) (by rw [e2,f2]) (o:=(i+1)*4) (by rw [List.length_append,e1,jI];omega);have g5:(l.take i).flatMap bp++bp x++(D2++D3)=(l.take i).flatMap bp++bp x++D2++D3:=by simp only [List.append_assoc]
    have g6:(l.take i).flatMap bp++bp x++(l.drop i).flatMap bp++D3=(aV l i x).flatMap bp++D3:=by unfold aV;simp only [List.flatMap_append,List.flatMap_cons,List.flatMap_nil,List.append_nil,List.append_assoc]
    rw [g5,g4,g6] at mI;have B4:=Own.closed (n:=n+1) (c:=c2) (lo:=lo) (l:=aV l i x) (by unfold aV;simp;omega) mI (by omega) (by omega) (by omega) h5 (by omega);have iG:Ext w w4:=hw.own tH u5
    have e9:i+(n+1-i)=n+1:=by omega
    refine Wz ?_;rw [e9]
    exact ae.aN rfl rfl ⟨_,rfl,_,_,rfl,B4,iG.gr _,fun k e => .inr (by
     have:k=g:=by
      unfold aT at e;split at e
      ·cases e
      ·simpa using e.symm
     omega)⟩
open Go.RowKit
theorem SW.ib {α:Type} {P:Program} {n:Nat} {ops:Array Oper} {Q:Exit→Act→World→Prop} {rest:List Oper} {L:Env} {w:World} {T:TypeId} {pos:String} {af:Array Edge} {lo:Nat} {e:TypeId} {sz:Nat} {enc : α → List Value} [E:fB enc sz] {A:Option Addr} {m c:Nat} {l:List α} {t:TypeId} [G:gV P t sz] {x y:Operand} (k:Nat) (x' : α)
 (hO:Own w lo e sz enc A m c l) (hx:ca L x=some (.pointer (some ((A.getD default).add (k*sz))))) (hy:ca L y=some (.agg (enc x').toArray)) (hk:k<m)
 (h:∀ w',Own w' lo e sz enc A m c (l.set k x')→w.grownBy w' (aT A c)→SW P n ops (.fr Q) rest L w') : SW P n ops (.fr Q) (⟨none,.store t x y,T,pos,af,none⟩::rest) L w :=
 ⟨fun a ha=>by
  have hc : 0<c:=by have:=hO.le;omega
  obtain ⟨g,r,rfl,fC,hB,hr,MT,MU,how⟩:=hO.opened hc;have de:k<l.length:=by rw [hO.len];exact hk
  have ns:(k+1)*sz≤m*sz:=Nat.mul_le_mul_right _ hk
  rw [Nat.add_mul,Nat.one_mul] at ns;have oB:(l.flatMap enc).length=m*sz:=by rw [ba,hO.len]
  have e0:(((some (⟨g,0,none⟩ : Addr)).getD default).add (k*sz))=⟨g,k*sz,none⟩:=c7 g _
  rw [e0] at hx;have el:l=l.take k++[l[k]]++l.drop (k+1):=by simp
  have hX:((l.take k).flatMap enc).length=k*sz:=by rw [ba,List.length_take,Nat.min_eq_left (by omega)]
  have e1:l.flatMap enc++r=(l.take k).flatMap enc++enc l[k]++((l.drop (k+1)).flatMap enc++r):=by
   have e3:l.flatMap enc=(l.take k++[l[k]]++l.drop (k+1)).flatMap enc:=by rw [← el]
   rw [e3,List.flatMap_append,List.flatMap_append];simp only [List.flatMap_cons,List.flatMap_nil,List.append_nil,List.append_assoc]
  have rn:=run_storeCells_at P g (k*sz) e (enc x') 0 (l.flatMap enc++r).toArray w hB (by simp only [List.size_toArray,List.length_append,oB,E.len];omega) (E.one x')
  have e2:((l.flatMap enc++r).toArray.toList.take (k*sz+0)++enc x'++(l.flatMap enc++r).toArray.toList.drop (k*sz+0+(enc x').length))=(l.set k x').flatMap enc++r:=by
   have:=eJ ((l.take k).flatMap enc) (enc l[k]) ((l.drop (k+1)).flatMap enc++r) (enc x') (by rw [E.len,E.len]) hX.symm
   rw [← e1] at this;unfold lay at this;simp only [Nat.add_zero];rw [this,List.set_eq_take_append_cons_drop,if_pos de];simp
  rw [e2] at rn;simp only [swp,wpList,Region.wanted,if_true];refine .inl ?_;unfold Oper.wp
  have yn:(execOp a.eval ⟨none,.store t x y,T,pos,af,none⟩).run P w = .ok .skip (w.setRow g ((l.set k x').flatMap enc++r).toArray):=by
   simp [execOp,ha.eval hx,ha.eval hy,Instr.storeAt,Instr.sureAddr,storeVar,Value.cells,run_sizeOf G.size,E.len,rn]
  rw [yn,Oper.upon_skip];obtain ⟨qR,wC⟩:=er (cs:=(l.set k x').flatMap enc++r) hB;refine (h _ (Own.closed (by rw [List.length_set];exact hO.len) qR hr MT hc MU fC) ?_).out _ ha;rw [how];exact wC⟩
open Go.RowKit
structure dR (w:World) (lo g c:Nat) (u0 u1:cq) (s:aq×aq) : Prop where
 row:Own w lo 59 4 bo (some ⟨g,0,none⟩) 2 c [u0,u1]
 z0:eV w lo u0 s.1
 z1:eV w lo u1 s.2
 yo:lo≤g
 pos : 0<c
section
variable {w w':World} {lo nj g c t:Nat} {u0 u1:cq} {s:aq×aq}
theorem dR.ext (h:dR w lo g c u0 u1 s) (hx:Ext w w') : dR w' lo g c u0 u1 s:=⟨h.row.ext hx,h.z0.ext hx,h.z1.ext hx,h.yo,h.pos⟩
theorem dR.ay (h:dR w lo g c u0 u1 s) (hG:n9 w w' t) (cG:(Nat.beq t 59 || (Nat.beq t 3 || Nat.beq t 77))=false) : dR w' lo g c u0 u1 s:=by
 rw [Bool.or_eq_false_iff] at cG;exact ⟨h.row.ay hG cG.1,h.z0.ay hG cG.2,h.z1.ay hG cG.2,h.yo,h.pos⟩
theorem dR.own (h:dR w lo g c u0 u1 s) : aT (some (⟨g,0,none⟩ : Addr)) c=some g:=by simp [aT,Nat.pos_iff_ne_zero.1 h.pos]
theorem dR.gr (h:dR w lo g c u0 u1 s) (hg:w.grownBy w' (some g)) : n9 w w' 59:=h.row.gr (by rw [h.own];exact hg)
theorem kF {u:cq} {z:aq} (h:eV w lo u z) (hz:bR z) : (u.ag.n+1)*24≤140737488355328∧u.Types.n*8≤140737488355328∧(0≤u.aW∧u.aW≤256)∧(0≤u.To∧u.To≤256):=by
 have e1:=h.free.sl.len;have e2:=h.types.sl.len;have e3:=h.from_;have e4:=h.jZ;have hl:=j3 hz;obtain ⟨o1,o2,o3,o4,o5⟩:=hz.ok;refine ⟨Nat.le_trans (Nat.mul_le_mul_right 24 (show u.ag.n+1≤258 by omega)) (by decide),by omega,by omega,by omega⟩
end
theorem AA (r:ez) (u0 u1:cq) (p:Int) (w:World) (hz:Sl w 4 bo r.aQ.A r.aQ.n [u0,u1]) :
 bt Tryz.prog 97 [.agg (bm r).toArray,.int .i64 p] w fun v _=>v = .int .i64 (if p<u0.To then 0 else 1):=by
 refine aL Tryz.func97 rfl Tryz.ntmps97 rfl ?_;refine CW.seq (CW.region (SW.box rfl rfl fun b1 w1 hw gK aA => ?_));have hA:=hz.base;have hn : 2=r.aQ.n:=hz.len
 have h0 : 0<r.aQ.n:=by omega
 have f0:=hz.dv h0 (j:=1) (u := .int .i64 u0.To) rfl;repeat' (first|refine Wz ?_|(refine CW.gi rfl (fun h => ?_) (fun h => ?_))|refine SW.st (ao hw rfl f0) rfl ?_)
 all_goals
  refine ae.aN rfl rfl ⟨_,rfl,hw,?_⟩
  first|(rw [if_pos (by omega)])|(rw [if_neg (by omega)])
theorem xb (r:ez) (u0 u1:cq) (p:Int) (w:World) (hz:Sl w 4 bo r.aQ.A r.aQ.n [u0,u1]) :
 bt Tryz.prog 114 [.agg (bm r).toArray,.int .i64 p] w fun v _=>v = .int .i64 (if p<u1.aW then 0 else 1):=by
 refine aL Tryz.func114 rfl Tryz.ntmps114 rfl ?_;refine CW.seq (CW.region (SW.box rfl rfl fun b1 w1 hw gK aA => ?_));have hA:=hz.base;have hn : 2=r.aQ.n:=hz.len
 have h0 : 1<r.aQ.n:=by omega
 have f0:=hz.dv h0 (j:=0) (u := .int .i64 u1.aW) rfl;repeat' (first|refine Wz ?_|(refine CW.gi rfl (fun h => ?_) (fun h => ?_))|refine SW.st (ao hw rfl f0) rfl ?_)
 all_goals
  refine ae.aN rfl rfl ⟨_,rfl,hw,?_⟩
  first|(rw [if_pos (by omega)])|(rw [if_neg (by omega)])
def Ee (w:World) (lo g c:Nat) (s:aq×aq) (b:Block) (w':World) : Prop:=w.grownBy w' (some g) ∧ ∃ u0 u1,dR w' lo g c u0 u1 (iA s b)
theorem vw (m:fE) (cp:Int) (li lv:fE) (u0 u1:cq) (s:aq×aq) (bs:List Block) (b:Block) (lo g c:Nat) (w:World) (hZ:dR w lo g c u0 u1 s) (fC:lo≤w.heap.size) (hD:nF s bs) (hN:qx bs b) :
 gL Tryz.prog 86 [.agg (bm ⟨⟨some ⟨g,0,none⟩,2,c⟩,m,cp,li,lv⟩).toArray,.int .i64 b.At,.int .i64 b.Order] w fun v w'=>v = .agg (bm ⟨⟨some ⟨g,0,none⟩,2,c⟩,m,cp,li,lv⟩).toArray∧Ee w lo g c s b w':=by
 refine dw Tryz.func86 rfl Tryz.ntmps86 rfl ?_;refine CW.seq (CW.region (SW.box rfl rfl fun b3 w1 hw bK ar => ?_));refine SW.alloc rfl fun b6 w2 cw eW ax => ?_
 have di:w.heap.size≤b6:=Nat.le_trans hw.size eW
 (replace hw:=Ext.trans hw cw;replace ar:=ar.ext cw);replace hZ:=hZ.ext hw;have eT:=hZ.z0.jZ;have eF:=hZ.z1.from_;have eM:=hD.zM;obtain ⟨q1,q2,q3,q4⟩:=kF hZ.z0 hD.nG;obtain ⟨p1,p2,p3,p4⟩:=kF hZ.z1 hD.ms;have hA:=hZ.row.sl.base;have cz:∀ w',Sl w' 4 bo (some ⟨g,0,none⟩) 2 [u0,u1]→bt Tryz.prog 114 [.agg (bm ⟨⟨some ⟨g,0,none⟩,2,c⟩,m,cp,li,lv⟩).toArray,.int .i64 b.At] w' fun v _=>v = .int .i64 (if b.At<u1.aW then 0 else 1):=fun w' h=>xb ⟨⟨some ⟨g,0,none⟩,2,c⟩,m,cp,li,lv⟩ u0 u1 b.At w' h
 by_cases hx:b.At<u1.aW
 ·have eP:iA s b=((iJ s.1 b.At b.Order).2,s.2):=by unfold iA;rw [if_pos (by omega)]
  simp only [if_pos hx] at cz;have k0 : 0<2:=by omega
  repeat' (first|refine Wz ?_|(refine SW.call rfl rfl (cz _ hZ.row.sl) ?_;intro v w1 ab hv;subst hv;replace hw:=Ext.trans hw ab;replace ar:=ar.ext ab;replace ax:=ax.ext ab;replace hZ:=hZ.ext ab;clear ab))
  repeat' (first|refine Wz ?_|refine SW.st (aX rfl rfl ((hZ.row.sl.all k0))) rfl ?_)
  refine SW.call rfl rfl (r3 u0 s.1 b.At b.Order _ hZ.z0.rd q1 q2 ⟨by omega,by omega⟩ ⟨by omega,by omega⟩) fun v w4 aj hv => ?_
  obtain ⟨u',rfl,js⟩:=hv;replace js:=js.low (Nat.le_trans fC hw.size);(replace hw:=Ext.trans hw aj;replace ar:=ar.ext aj;replace ax:=ax.ext aj;replace hZ:=hZ.ext aj);refine Wz ?_;refine SW.alloc rfl fun b8 w1 ab kR bu => ?_
  skip;refine SW.ap bu rfl rfl rfl rfl (ct u') fun w2 iQ hg => ?_
  have aj:=ab.own kR hg;have jl:w.heap.size≤b8:=Nat.le_trans hw.size kR
  replace hw:=Ext.trans hw aj;replace ar:=ar.ext aj;replace ax:=ax.ext aj;replace hZ:=hZ.ext aj;replace js:=js.ext aj;replace bu:=iQ;clear iQ ab hg aj;refine Wz ?_;refine SW.ib (enc:=bo) 0 u' hZ.row rfl rfl k0 fun w5 hO hg => ?_
  rw [hZ.own] at hg;have hG:=hZ.gr hg;have wv:=bO (hw.gr (some g)) hg (.inl rfl);have BE:dR w5 lo g c u' u1 (iA s b):=by rw [eP];exact ⟨hO,js.ay hG rfl,hZ.z1.ay hG rfl,hZ.yo,hZ.pos⟩
  clear hZ js bu cz hO;(replace ar:=ar.ay hG rfl;replace ax:=ax.ay hG rfl);have jQ:=Ext.refl w5;clear hw;have hw:=jQ;refine Wz ?_;refine SW.ap ax rfl rfl rfl rfl (cQ ⟨⟨some ⟨g,0,none⟩,2,c⟩,m,cp,li,lv⟩) fun w6 bP hg => ?_
  have hG:=ax.gr hg;replace wv:=bO wv hg (.inr fun i e=>by cases e;exact di);refine Wz ?_;exact ae.me rfl rfl bP rfl ⟨_,rfl,rfl,wv,u',u1,BE.ay hG rfl⟩
 ·have eP:iA s b=(s.1,(iJ s.2 b.At b.Order).2):=by unfold iA;rw [if_neg (by omega)]
  simp only [if_neg hx] at cz;have k0 : 1<2:=by omega
  repeat' (first|refine Wz ?_|(refine SW.call rfl rfl (cz _ hZ.row.sl) ?_;intro v w1 ab hv;subst hv;replace hw:=Ext.trans hw ab;replace ar:=ar.ext ab;replace ax:=ax.ext ab;replace hZ:=hZ.ext ab;clear ab))
  repeat' (first|refine Wz ?_|refine SW.st (aX rfl rfl ((hZ.row.sl.all k0))) rfl ?_)
  refine SW.call rfl rfl (r3 u1 s.2 b.At b.Order _ hZ.z1.rd p1 p2 ⟨by omega,by omega⟩ ⟨by omega,by omega⟩) fun v w4 aj hv => ?_
  obtain ⟨u',rfl,js⟩:=hv;replace js:=js.low (Nat.le_trans fC hw.size);(replace hw:=Ext.trans hw aj;replace ar:=ar.ext aj;replace ax:=ax.ext aj;replace hZ:=hZ.ext aj);refine Wz ?_;refine SW.alloc rfl fun b8 w1 ab kR bu => ?_
  skip;refine SW.ap bu rfl rfl rfl rfl (ct u') fun w2 iQ hg => ?_
  have aj:=ab.own kR hg;have jl:w.heap.size≤b8:=Nat.le_trans hw.size kR
  replace hw:=Ext.trans hw aj;replace ar:=ar.ext aj;replace ax:=ax.ext aj;replace hZ:=hZ.ext aj;replace js:=js.ext aj;replace bu:=iQ;clear iQ ab hg aj;refine Wz ?_;refine SW.ib (enc:=bo) 1 u' hZ.row rfl rfl k0 fun w5 hO hg => ?_
  rw [hZ.own] at hg;have hG:=hZ.gr hg;have wv:=bO (hw.gr (some g)) hg (.inl rfl);have BE:dR w5 lo g c u0 u' (iA s b):=by rw [eP];exact ⟨hO,hZ.z0.ay hG rfl,js.ay hG rfl,hZ.yo,hZ.pos⟩
  clear hZ js bu cz hO;(replace ar:=ar.ay hG rfl;replace ax:=ax.ay hG rfl);have jQ:=Ext.refl w5;clear hw;have hw:=jQ;refine Wz ?_;refine SW.ap ax rfl rfl rfl rfl (cQ ⟨⟨some ⟨g,0,none⟩,2,c⟩,m,cp,li,lv⟩) fun w6 bP hg => ?_
  have hG:=ax.gr hg;replace wv:=bO wv hg (.inr fun i e=>by cases e;exact di);refine Wz ?_;exact ae.me rfl rfl bP rfl ⟨_,rfl,rfl,wv,u0,u',BE.ay hG rfl⟩
open Go.RowKit
theorem Cq.split {w:World} {lo:Nat} {r:ez} {h:Heap} (a:Cq w lo r h) {z0 z1:aq} (hz:h.aQ=[z0,z1]) : ∃ g c u0 u1 ls,r.aQ=⟨some ⟨g,0,none⟩,2,c⟩∧dR w lo g c u0 u1 (z0,z1)∧cJ w lo r.av ls h.av∧o7 r.bH [u0,u1] ls∧qY r.Live [u0,u1]:=by
 obtain ⟨zs,ls,tW,Hd,hm,hf⟩:=a.all;have l0:=tW.each.len;rw [hz] at l0;obtain ⟨u0,u1,rfl⟩:=pX (show zs.length=2 from l0);have l1:=tW.row.len;have h0:=tW.each.get 0 (by simp) (by simp [hz]);have h1:=tW.each.get 1 (by simp) (by simp [hz]);simp only [hz] at h0 h1;have hc : 0<r.aQ.c:=by have:=tW.row.le;simp at l1;omega
 obtain ⟨g,rest,hA,fC,_⟩:=tW.row.opened hc;refine ⟨g,r.aQ.c,u0,u1,ls,?_,⟨?_,h0,h1,fC,hc⟩,Hd,hm,hf⟩
 ·rw [← hA];have:(2:Nat)=r.aQ.n:=l1
  rw [this]
 ·have:=tW.row
  rw [hA,← l1] at this;exact this
theorem Own.apart {α:Type} {w w':World} {lo:Nat} {e:TypeId} {sz:Nat} {enc : α → List Value} {A:Option Addr} {n c:Nat} {l:List α} (h:Own w lo e sz enc A n c l) {row:Option Nat} (hg:w.grownBy w' row) (hs:∀ g,aT A c=some g→row≠some g) : Own w' lo e sz enc A n c l:=by
 refine h.grown hg ?_;cases e:aT A c with
 | none=>exact .inl rfl
 | some g=>exact .inr (fun e2=>hs g e e2.symm)
theorem dR.Cy {w w':World} {lo g c:Nat} {u0 u1:cq} {s:aq×aq} (h:dR w lo g c u0 u1 s) {lv:fE} (hs:qY lv [u0,u1]) (hg:w.grownBy w' (aT lv.A lv.c)) (hG:n9 w w' 77) : dR w' lo g c u0 u1 s :=
 ⟨h.row.ay hG rfl,⟨h.z0.from_,h.z0.jZ,h.z0.free.apart hg (hs u0 (by simp)),h.z0.types.ay hG rfl⟩,⟨h.z1.from_,h.z1.jZ,h.z1.free.apart hg (hs u1 (by simp)),h.z1.types.ay hG rfl⟩,h.yo,h.pos⟩
theorem dR.Ef {w w':World} {lo g c:Nat} {u0 u1:cq} {s:aq×aq} (h:dR w lo g c u0 u1 s) {row:Option Nat} (hg:w.grownBy w' row) (hG:n9 w w' 3) (hs:∀ k,row=some k → ∀ u∈[u0,u1],aT u.Types.A u.Types.c≠some k) : dR w' lo g c u0 u1 s :=
 ⟨h.row.ay hG rfl,⟨h.z0.from_,h.z0.jZ,h.z0.free.ay hG rfl,h.z0.types.apart hg (fun k e e2=>hs k e2 u0 (by simp) e)⟩,⟨h.z1.from_,h.z1.jZ,h.z1.free.ay hG rfl,h.z1.types.apart hg (fun k e e2=>hs k e2 u1 (by simp) e)⟩,h.yo,h.pos⟩
structure Gd (w0:World) (li:fE) (b1:Nat) (o:Option Nat) : Prop where
 out:∀ k,o=some k→k≠b1∧aT li.A li.c≠some k∧k<w0.heap.size
theorem Gd.ne {w0:World} {li:fE} {b1:Nat} {o row:Option Nat} (h:Gd w0 li b1 o) (hr:∀ k,row=some k→k=b1∨aT li.A li.c=some k∨w0.heap.size≤k) : ∀ g,o=some g→row≠some g:=fun g e e2=>by
 obtain ⟨h1,h2,h3⟩:=h.out g e;rcases hr g e2 with h|h|h
 ·exact h1 h
 ·exact h2 h
 ·omega
theorem Own.yq {α:Type} {w0:World} {lo:Nat} {e:TypeId} {sz:Nat} {enc : α → List Value} {A:Option Addr} {n c:Nat} {l:List α} (h:Own w0 lo e sz enc A n c l) {li:fE} {ls:List bL} {L:List aB} {b1:Nat} {cs:List Value} (hl:cJ w0 lo li ls L) (hb:aJ w0 b1 27 cs) (h1:Nat.beq 27 e=false) (h2:Nat.beq e 62=false) : Gd w0 li b1 (aT A c) :=
 ⟨fun k hk=>⟨fun e=>h.dh hb h1 (by rw [hk,e]),by
  rcases h.row with ⟨_,rfl⟩|⟨hc,g,ga,rfl,_,hg,_⟩
  ·simp [aT] at hk
  ·simp only [aT,Nat.pos_iff_ne_zero.1 hc,if_false,Option.map_some,Option.some.injEq] at hk;subst hk;exact hl.row.dh (cs:=ga.toList) (by unfold aJ;simpa using hg) h2,h.lt_size k hk⟩⟩
theorem Own.rA {α β:Type} {w0:World} {lo nj:Nat} {e e':TypeId} {sz J6:Nat} {enc : α → List Value} {Ge : β → List Value} {A A':Option Addr} {n n' c c':Nat} {l:List α} {l':List β} (h:Own w0 lo e sz enc A n c l) (h':Own w0 nj e' J6 Ge A' n' c' l') (cG:Nat.beq e e'=false) : ∀ k,aT A c=some k→aT A' c'≠some k:=fun k hk=>by
 rcases h.row with ⟨_,rfl⟩|⟨hc,g,ga,rfl,_,hg,_⟩
 ·simp [aT] at hk
 ·simp only [aT,Nat.pos_iff_ne_zero.1 hc,if_false,Option.map_some,Option.some.injEq] at hk;subst hk;exact h'.dh (cs:=ga.toList) (by unfold aJ;simpa using hg) cG
theorem dR.parts {w w':World} {lo g c:Nat} {u0 u1:cq} {s:aq×aq} {row:Option Nat} (h:dR w lo g c u0 u1 s) (hg:w.grownBy w' row) (h0:∀ k,aT (some (⟨g,0,none⟩ : Addr)) c=some k→row≠some k) (h1:∀ k,aT u0.ag.A u0.ag.c=some k→row≠some k) (h2:∀ k,aT u0.Types.A u0.Types.c=some k→row≠some k)
 (h3:∀ k,aT u1.ag.A u1.ag.c=some k→row≠some k) (h4:∀ k,aT u1.Types.A u1.Types.c=some k→row≠some k) : dR w' lo g c u0 u1 s :=
 ⟨h.row.apart hg h0,⟨h.z0.from_,h.z0.jZ,h.z0.free.apart hg h1,h.z0.types.apart hg h2⟩,⟨h.z1.from_,h.z1.jZ,h.z1.free.apart hg h3,h.z1.types.apart hg h4⟩,h.yo,h.pos⟩
def ob (s:fE) : Option Nat:=aT s.A s.c
def Gf (a b:bL) : Prop := ∀ g,ob a.aw=some g→ob b.aw≠some g
theorem AB {a b:bL} (h:Gf a b) : Gf b a:=fun g e e2=>h g e2 e
theorem pb {ls:List bL}:yh ls↔ls.Pairwise Gf:=by
 rw [List.pairwise_iff_getElem];refine ⟨fun h i j hi hj kP g e=>h i j hi hj (by omega) g e,fun h i j hi hj kP g e => ?_⟩;rcases Nat.lt_or_gt_of_ne kP with h1|h1
 ·exact h i j hi hj h1 g e
 ·exact AB (h j i hj hi h1) g e
structure tX (n:Nat) (li:fE) (ls:List bL) (DB:fE) (vo:List bL) : Prop where
 sep:yh vo
 of:∀ y∈vo,∀ g,ob y.aw=some g→(∃ x∈ls,ob x.aw=some g)∨n≤g
 row:∀ k,ob DB=some k→ob li=some k∨n≤k
theorem tX.pZ {n:Nat} {li:fE} {ls:List bL} {i:Nat} {y:bL} (hs:yh ls) (c9:∀ x∈ls,∀ g,ob x.aw=some g→g<n) (hi:i<ls.length) (hy:∀ g,ob y.aw=some g→ob ls[i].aw=some g∨n≤g) : tX n li ls li (ls.set i y):=by
 refine ⟨fun a b ha hb G8 g e e2 => ?_,fun z hz g e => ?_,fun k e => .inl e⟩
 ·simp only [List.length_set] at ha hb
  change ob ((ls.set i y)[a]).aw=some g at e
  change ob ((ls.set i y)[b]).aw=some g at e2
  simp only [List.getElem_set] at e e2;by_cases h1:i=a
  ·rw [if_pos h1] at e;rw [if_neg (by omega)] at e2;rcases hy g e with h|h
   ·subst h1;exact hs _ _ hi hb G8 g h e2
   ·have:=c9 _ (List.getElem_mem hb) g e2;omega
  ·rw [if_neg h1] at e;by_cases h2:i=b
   ·rw [if_pos h2] at e2;rcases hy g e2 with h|h
    ·subst h2;exact hs _ _ ha hi G8 g e h
    ·have:=c9 _ (List.getElem_mem ha) g e;omega
   ·rw [if_neg h2] at e2;exact hs _ _ ha hb G8 g e e2
 ·rcases List.mem_or_eq_of_mem_set hz with h|rfl
  ·exact .inl ⟨z,h,e⟩
  ·rcases hy g e with h|h
   ·exact .inl ⟨_,List.getElem_mem hi,h⟩
   ·exact .inr h
theorem tX.ins {n:Nat} {li DB:fE} {ls:List bL} {i:Nat} {y:bL} (hs:yh ls) (c9:∀ x∈ls,∀ g,ob x.aw=some g→g<n) (hy:∀ g,ob y.aw=some g→n≤g) (hr:∀ k,ob DB=some k→ob li=some k∨n≤k) : tX n li ls DB (aV ls i y):=by
 have hm:∀ z,z∈aV ls i y→z∈ls∨z=y:=fun z hz=>by
  unfold aV at hz;rw [List.mem_append,List.mem_append,List.mem_singleton] at hz;rcases hz with (hz|hz)|hz
  ·exact .inl (List.mem_of_mem_take hz)
  ·exact .inr hz
  ·exact .inl (List.mem_of_mem_drop hz)
 refine ⟨?_,fun z hz g e => ?_,hr⟩
 ·have hs:=pb.1 hs;rw [← List.take_append_drop i ls,List.pairwise_append] at hs;obtain ⟨h1,h2,h3⟩:=hs;rw [pb];unfold aV;rw [List.append_assoc,List.pairwise_append];refine ⟨h1,?_,fun a ha b hb => ?_⟩
  ·rw [List.singleton_append,List.pairwise_cons];exact ⟨fun b hb g e e2=>by have:=hy g e;have:=c9 b (List.mem_of_mem_drop hb) g e2;omega,h2⟩
  ·rw [List.singleton_append,List.mem_cons] at hb;rcases hb with rfl|hb
   ·exact fun g e e2=>by have:=hy g e2;have:=c9 a (List.mem_of_mem_take ha) g e;omega
   ·exact h3 a ha b hb
 ·rcases hm z hz with h|rfl
  ·exact .inl ⟨z,h,e⟩
  ·exact .inr (hy g e)
theorem SW.vx {α:Type} {P:Program} {n:Nat} {ops:Array Oper} {Q:Exit→Act→World→Prop} {rest:List Oper} {L:Env} {w:World} {dd:Nat} {T:TypeId} {pos:String} {af:Array Edge}
 {lo:Nat} {t e:TypeId} {z:Value} {sz bytes:Nat} {enc : α → List Value} {A X:Option Addr} {k c m c2:Nat} {l ys:List α} [bw P t e sz] [dg P e z sz bytes] [fB enc sz] {x y:Operand}
 (hO:Own w lo e sz enc A k c l) (hS:Sl w sz enc X m ys) (fC:lo≤w.heap.size) (rL : 0<m) (hx:ca L x=some (.slice A k c)) (hy:ca L y=some (.slice X m c2)) (hn:Nat.blt dd n=true)
 (hb:(k+m)*bytes≤140737488355328) (hm:k+m≤9223372036854775807)
 (h:∀ A' c' w',Own w' lo e sz enc A' (k+m) c' (l++ys)→w.grownBy w' (aT A c)→(∀ g,aT A' c'=some g→aT A c=some g∨w.heap.size≤g)→SW P n ops (.fr Q) rest ((dd,.slice A' (k+m) c')::L) w') :
 SW P n ops (.fr Q) (⟨some dd,.call ⟨.builtin .append,#[x,y],#[t,t]⟩,T,pos,af,none⟩::rest) L w:=by
 refine SW.vv hO hS fC rL hx hy hn hb hm fun A' c' w' hh => ?_
 rcases hh with ⟨rfl,rfl,h1,h2⟩|⟨h1,h2⟩
 ·exact h _ _ _ h1 h2 (fun g e => .inl e)
 ·exact h _ _ _ (h1.low fC) ⟨h2.os,h2.tape,h2.output,h2.size,fun k hk _=>h2.block k hk (fun e=>by cases e)⟩ (fun g e => .inr (h1.aM g e))
end Go.Proofs.YtjimadiidbkohaaGreatDoor
