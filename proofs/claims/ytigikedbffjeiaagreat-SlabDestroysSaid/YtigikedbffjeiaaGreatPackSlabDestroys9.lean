/-
  Texts of the claim SlabDestroys, part 9: what its theorem leans on.
-/
import Derived.Test.YtigikedbffjeiaaGreatPackSlabDestroys8
import Derived.Test.YtigikedbffjeiaaGreatPackSlabDestroys1
import Derived.Great.BuildSlice
import Derived.ArgAppend
import Derived.Test.YtigikedbffjeiaaGreatPackSlabDestroys5
set_option linter.unusedVariables false
set_option linter.unusedSimpArgs false
namespace Go.Proofs.YtigikedbffjeiaaGreat
noncomputable def backP (s:Zone×Zone) (b:Block) : Zone×Zone:=if b.At<s.1.To then ((backV s.1 b.At b.Order).2,s.2) else (s.1,(backV s.2 b.At b.Order).2)
noncomputable def backAll (s:Zone×Zone) (l:List Block) : Zone×Zone:=l.foldl backP s
theorem backAll_append (s:Zone×Zone) (l m:List Block) : backAll s (l++m)=backAll (backAll s l) m:=List.foldl_append
structure DInv (s:Zone×Zone) (bs:List Block) : Prop where
 may0:ZoneMay s.1
 may1:ZoneMay s.2
 from0:s.1.From=0
 mid:s.1.To=s.2.From
 to1:s.2.To=256
 cov:∀ i,(covP s.1.Free i || covP s.2.Free i)=covP bs i
theorem covP_append (l m:List Block) (i:Nat) : covP (l++m) i=(covP l i || covP m i):=by simp [covP]
theorem zone_good {z:Zone} (h:ZoneMay z) : ∀ b∈z.Free,0≤b.At∧1≤pw b.Order:=fun b hb=>by
 obtain ⟨i,hi,rfl⟩:=List.getElem_of_mem hb
 have h1:=(h.blk i hi).1
 have h2:=h.ok.1
 have:=pw_le h1.1 h1.2.1
 obtain ⟨_,_,h3,_,_⟩:=h1
 omega
structure NextB (bs:List Block) (b:Block) : Prop where
 ord : 0≤b.Order∧b.Order≤4
 at_ : 0≤b.At∧b.At<256
 al:b.At % pw b.Order=0
 fits:fitsL bs b
 good:∀ x∈bs,0≤x.At∧1≤pw x.Order
theorem DInv.free {s:Zone×Zone} {bs:List Block} (h:DInv s bs) {b:Block} (hb:NextB bs b) : overB s.1.Free b.At b.Order=false∧overB s.2.Free b.At b.Order=false:=by
 have hp:=pw_le hb.ord.1 hb.ord.2
 have hm:=(okM_iff hb.good hp.1).2 hb.fits
 obtain ⟨m1,m2,m3,m4⟩:=hm
 have key:∀ l:List Block,(∀ x∈l,0≤x.At∧1≤pw x.Order)→(∀ i,covP l i=true→covP bs i=true)→overB l b.At b.Order=false:=fun l hl hc =>
  ((okM_iff hl hp.1).1 ⟨m1,m2,m3,fun i h1 h2=>by
   cases e:covP l i with
   | false=>rfl
   | true=>have:=hc i e;rw [m4 i h1 h2] at this;cases this⟩).2.2
 exact ⟨key _ (zone_good h.may0) fun i hi=>by rw [← h.cov i,hi];rfl,key _ (zone_good h.may1) fun i hi=>by rw [← h.cov i,hi];simp⟩
theorem DInv.low {s:Zone×Zone} {bs:List Block} (h:DInv s bs) {b:Block} (hb:NextB bs b) (hl:b.At<s.1.To) : fitsZ s.1.From s.1.To b.At b.Order:=⟨hb.ord.1,hb.ord.2,by rw [h.from0];exact hb.at_.1,hl,hb.al⟩
theorem DInv.high {s:Zone×Zone} {bs:List Block} (h:DInv s bs) {b:Block} (hb:NextB bs b) (hl : ¬ b.At<s.1.To) : fitsZ s.2.From s.2.To b.At b.Order:=⟨hb.ord.1,hb.ord.2,by rw [← h.mid];omega,by rw [h.to1];exact hb.at_.2,hb.al⟩
theorem cov_single (b:Block) (i:Nat) : covP [b] i=inB b i:=by simp [covP]
theorem DInv.back {s:Zone×Zone} {bs:List Block} (h:DInv s bs) {b:Block} (hb:NextB bs b) : DInv (backP s b) (bs++[b])∧(backP s b).1.To=s.1.To:=by
 obtain ⟨o0,o1⟩:=h.free hb
 unfold backP
 by_cases hl:b.At<s.1.To
 ·rw [if_pos hl]
  obtain ⟨_,k⟩:=backV_keep h.may0 (h.low hb hl) o0
  refine ⟨⟨k.may,h.may1,by rw [← h.from0];exact k.from_,by rw [← h.mid];exact k.to_,h.to1,fun i => ?_⟩,k.to_⟩
  rw [covP_append,cov_single,← h.cov i]
  simp only
  rw [k.cov i]
  have:inB ⟨b.At,b.Order,0⟩ i=inB b i:=rfl
  rw [this]
  cases covP s.1.Free i<;>cases covP s.2.Free i<;>cases inB b i<;>rfl
 ·rw [if_neg hl]
  obtain ⟨_,k⟩:=backV_keep h.may1 (h.high hb hl) o1
  refine ⟨⟨h.may0,k.may,h.from0,by simp only;rw [k.from_];exact h.mid,by simp only;rw [k.to_];exact h.to1,fun i => ?_⟩,rfl⟩
  rw [covP_append,cov_single,← h.cov i]
  simp only
  rw [k.cov i]
  have:inB ⟨b.At,b.Order,0⟩ i=inB b i:=rfl
  rw [this,Bool.or_assoc]
theorem addAll_some:∀ {l s t:List Block},addAll (some s) l=some t→t=s++l
 | [],s,t,h=>by simp [addAll] at h;simp [h]
 | b::l,s,t,h=>by
  have e:addAll (some s) (b::l)=addAll (addB (some s) b) l:=rfl
  rw [e] at h
  cases e2:addB (some s) b with
  | none=>rw [e2,addAll_none] at h;cases h
  | some u =>
   rw [e2] at h
   obtain ⟨cs,hcs,_,rfl⟩:=addB_some e2
   cases hcs
   rw [addAll_some h]
   simp
theorem addAll_fitsL {l m:List Block} {b:Block} (h:(addAll (some []) (l++b::m)).isSome=true) : fitsL l b:=by
 have h1:(addAll (some []) (l++[b])).isSome=true:=addAll_some_of (m:=m) (by simpa using h)
 rw [addAll_append] at h1
 cases e:addAll (some []) l with
 | none=>rw [e,addAll_none] at h1;cases h1
 | some t =>
  have:=addAll_some e
  rw [List.nil_append] at this
  subst this
  rw [e] at h1
  cases e2:addAll (some t) [b] with
  | none=>rw [e2] at h1;cases h1
  | some u =>
   have:addB (some t) b=some u:=e2
   obtain ⟨cs,hcs,hf,_⟩:=addB_some this
   cases hcs
   exact hf
theorem addAll_good {l:List Block} (h:(addAll (some []) l).isSome=true) (hb:∀ b∈l,1≤pw b.Order) : ∀ x∈l,0≤x.At∧1≤pw x.Order:=by
 have hg:=goodS_all (l:=l) goodS_nil hb
 obtain ⟨t,ht⟩:=Option.isSome_iff_exists.1 h
 have e:=addAll_some ht
 rw [List.nil_append] at e
 subst e
 exact hg _ ht
structure DHeap (h:Heap) (z0 z1:Zone) : Prop where
 zones:h.Zones=[z0,z1]
 may0:ZoneMay z0
 may1:ZoneMay z1
 from0:z0.From=0
 mid:z0.To=z1.From
 to1:z1.To=256
 all:(addAll (some []) (z0.Free++z1.Free++pagesB h.Lists)).isSome=true
theorem pagesB_ord {l:List PList}:∀ b∈pagesB l,b.Order=0:=fun b hb=>by
 unfold pagesB at hb
 obtain ⟨x,_,hx⟩:=List.mem_flatMap.1 hb
 obtain ⟨p,_,rfl⟩:=List.mem_map.1 hx
 rfl
theorem DHeap.start {h:Heap} {z0 z1:Zone} (d:DHeap h z0 z1) : DInv (z0,z1) (z0.Free++z1.Free):=⟨d.may0,d.may1,d.from0,d.mid,d.to1,fun i=>by rw [covP_append]⟩
theorem DHeap.pw {h:Heap} {z0 z1:Zone} (d:DHeap h z0 z1) : ∀ b∈z0.Free++z1.Free++pagesB h.Lists,1≤pw b.Order:=fun b hb=>by
 rcases List.mem_append.1 hb with hb|hb
 ·rcases List.mem_append.1 hb with hb|hb
  ·exact (zone_good d.may0 b hb).2
  ·exact (zone_good d.may1 b hb).2
 ·rw [pagesB_ord b hb,pw_zero];omega
theorem DHeap.next {h:Heap} {z0 z1:Zone} (d:DHeap h z0 z1) {k:Nat} (hk:k<(pagesB h.Lists).length) : NextB (z0.Free++z1.Free++(pagesB h.Lists).take k) (pagesB h.Lists)[k]:=by
 have hall:=d.all
 have e:z0.Free++z1.Free++pagesB h.Lists=(z0.Free++z1.Free++(pagesB h.Lists).take k)++(pagesB h.Lists)[k]::(pagesB h.Lists).drop (k+1):=by simp
 rw [e] at hall
 have hf:=addAll_fitsL hall
 have ho:=pagesB_ord _ (List.getElem_mem hk)
 have hg:=addAll_good (addAll_some_of hall) (fun b hb=>d.pw b (by
  rcases List.mem_append.1 hb with hb|hb
  ·exact List.mem_append_left _ hb
  ·exact List.mem_append_right _ (List.mem_of_mem_take hb)))
 have hp:=pw_zero
 refine ⟨by rw [ho];decide,⟨hf.1,?_⟩,by rw [ho,hp];omega,hf,hg⟩
 have:=hf.2.1
 rw [ho,hp] at this
 omega
def cntB (l:List PList) (i:Nat) : Nat:=(pagesB (l.take i)).length
theorem cnt_succ {l:List PList} {i:Nat} (hi:i<l.length) : cntB l (i+1)=cntB l i+l[i].Pages.length:=by
 unfold cntB
 rw [pagesB_take _ _ hi]
 simp
theorem pagesB_cut (l:List PList) (i:Nat) : pagesB l=pagesB (l.take i)++pagesB (l.drop i):=by
 unfold pagesB
 rw [← List.flatMap_append,List.take_append_drop]
theorem cnt_get {l:List PList} {i j:Nat} (hi:i<l.length) (hj:j<l[i].Pages.length) : ∃ h:cntB l i+j<(pagesB l).length,(pagesB l)[cntB l i+j]=pageB (l[i].Pages[j]):=by
 have e:=pagesB_cut l i
 have e2:l.drop i=l[i]::l.drop (i+1):=by simp
 have e3:pagesB (l.drop i)=l[i].Pages.map pageB++pagesB (l.drop (i+1)):=by rw [e2];rfl
 have hlt:cntB l i+j<(pagesB l).length:=by rw [e,e3];simp [cntB];omega
 refine ⟨hlt,?_⟩
 have:(pagesB l)[cntB l i+j]?=some (pageB (l[i].Pages[j])):=by
  rw [e,List.getElem?_append_right (by unfold cntB;omega)]
  have:cntB l i+j-(pagesB (l.take i)).length=j:=by unfold cntB;omega
  rw [this,e3,List.getElem?_append_left (by simpa using hj)]
  simp [hj]
 rw [List.getElem?_eq_getElem hlt] at this
 exact Option.some.inj this
theorem cnt_all (l:List PList) : cntB l l.length=(pagesB l).length:=by simp [cntB]
def keyEq (a b:PList) : Prop:=a.Cpu=b.Cpu∧a.Zone=b.Zone∧a.Ty=b.Ty
instance (a b:PList) : Decidable (keyEq a b):=inferInstanceAs (Decidable (_∧_))
def LsS (L:List PList) : Prop:=L.Pairwise aheadL
theorem ahead_trans {a b c:PList} (h1:aheadL a b) (h2:aheadL b c) : aheadL a c:=by unfold aheadL at *;omega
theorem ahead_tri (a b:PList) : aheadL a b∨keyEq a b∨aheadL b a:=by unfold aheadL keyEq;omega
theorem ahead_not {a b:PList} (h:aheadL a b) : ¬ keyEq a b ∧ ¬ keyEq b a ∧ ¬ aheadL b a:=by unfold aheadL keyEq at *;omega
theorem lists_sorted {c t:Int} {L:List PList} (h:ListsOk c t L) : LsS L:=by
 have key:∀ (d i:Nat) (hj:i+d+1<L.length),aheadL (L[i]'(by omega)) L[i+d+1]:=by
  intro d
  induction d with
  | zero=>intro i hj;exact h.next i hj
  | succ d ih=>intro i hj;exact ahead_trans (ih i (by omega)) (h.next (i+d+1) (by omega))
 unfold LsS
 rw [List.pairwise_iff_getElem]
 intro i j hi hj hij
 have:=key (j-i-1) i (by omega)
 have e:i+(j-i-1)+1=j:=by omega
 simp only [e] at this
 exact this
theorem LsS.get {L:List PList} (h:LsS L) {i j:Nat} (hj:j<L.length) (hij:i<j) : aheadL (L[i]'(Nat.lt_trans hij hj)) L[j]:=by
 unfold LsS at h
 rw [List.pairwise_iff_getElem] at h
 exact h i j (by omega) hj hij
def kpos (L:List PList) (x:PList) : Nat:=L.findIdx fun l => !decide (aheadL l x)
theorem kpos_le (L:List PList) (x:PList) : kpos L x≤L.length:=List.findIdx_le_length
theorem kpos_below {L:List PList} {x:PList} {k:Nat} (hk:k<kpos L x) : aheadL (L[k]'(Nat.lt_of_lt_of_le hk (kpos_le L x))) x:=by
 have:=List.not_of_lt_findIdx hk
 simpa using this
theorem kpos_at {L:List PList} {x:PList} (h:kpos L x<L.length) : ¬ aheadL (L[kpos L x]) x:=by
 have:=List.findIdx_getElem (w:=h)
 exact of_decide_eq_false (by rw [Bool.not_eq_true'] at this;exact this)
theorem kpos_spec {L:List PList} {x:PList} {i:Nat} (hi:i≤L.length) (h1:∀ (k:Nat) (h:k<L.length),k<i→aheadL L[k] x) (h2:∀ h:i<L.length,¬ aheadL L[i] x) : kpos L x=i:=by
 unfold kpos
 by_cases h:i<L.length
 ·exact (List.findIdx_eq h).2 ⟨by simpa using h2 h,fun j hj=>by simpa using h1 j (by omega) hj⟩
 ·have e:i=L.length:=by omega
  subst e
  rw [List.findIdx_eq_length]
  intro y hy
  obtain ⟨k,hk,rfl⟩:=List.getElem_of_mem hy
  simpa using h1 k hk hk
def khere (L:List PList) (x:PList) : Bool:=if h:kpos L x<L.length then decide (keyEq L[kpos L x] x) else false
theorem khere_t {L:List PList} {x:PList} (h:khere L x=true) : ∃ hk:kpos L x<L.length,keyEq L[kpos L x] x:=by
 unfold khere at h
 split at h
 ·rename_i hk;exact ⟨hk,of_decide_eq_true h⟩
 ·cases h
theorem khere_f {L:List PList} {x:PList} (h:khere L x=false) (hk:kpos L x<L.length) : aheadL x L[kpos L x]:=by
 unfold khere at h
 rw [dif_pos hk] at h
 have h1:=of_decide_eq_false h
 have h2:=kpos_at hk
 rcases ahead_tri L[kpos L x] x with e|e|e
 ·exact absurd e h2
 ·exact absurd e h1
 ·exact e
theorem key_at {L:List PList} (hs:LsS L) {x:PList} {k:Nat} (hk:k<L.length) (h:keyEq L[k] x) : kpos L x=k∧khere L x=true:=by
 have e:kpos L x=k:=kpos_spec (by omega) (fun j hj hjk=>by have:=hs.get hk hjk;unfold aheadL keyEq at *;omega) (fun _=>by unfold aheadL keyEq at *;omega)
 refine ⟨e,?_⟩
 unfold khere
 simp only [e,dif_pos hk]
 exact decide_eq_true h
theorem key_none {L:List PList} {x:PList} (h:∀ (k:Nat) (hk:k<L.length),¬ keyEq L[k] x) : khere L x=false:=by
 cases e:khere L x with
 | false=>rfl
 | true=>obtain ⟨hk,h1⟩:=khere_t e;exact absurd h1 (h _ hk)
theorem kpos_key {L:List PList} {x y:PList} (h:keyEq x y) : kpos L x=kpos L y∧khere L x=khere L y:=by
 have e:(fun l => !decide (aheadL l x))=(fun l:PList => !decide (aheadL l y)):=by
  funext l
  have:aheadL l x↔aheadL l y:=by unfold aheadL keyEq at *;omega
  simp [this]
 have e1:kpos L x=kpos L y:=by unfold kpos;rw [e]
 refine ⟨e1,?_⟩
 unfold khere
 simp only [e1]
 split
 ·have:keyEq L[kpos L y] x↔keyEq L[kpos L y] y:=by unfold keyEq at *;omega
  simp [this]
 ·rfl
def setL (L:List PList) (x:PList) : List PList:=if khere L x then L.set (kpos L x) x else insAt L (kpos L x) x
theorem setL_t {L:List PList} {x:PList} (h:khere L x=true) : setL L x=L.set (kpos L x) x:=by rw [setL,if_pos h]
theorem setL_f {L:List PList} {x:PList} (h:khere L x=false) : setL L x=insAt L (kpos L x) x:=by rw [setL,if_neg (by simp [h])]
def pagesAt (L:List PList) (x:PList) : List Int:=if khere L x then (L.getD (kpos L x) x).Pages else []
theorem pagesAt_t {L:List PList} {x:PList} (h:khere L x=true) (hk:kpos L x<L.length) : pagesAt L x=L[kpos L x].Pages:=by
 rw [pagesAt,if_pos h,List.getD_eq_getElem?_getD,List.getElem?_eq_getElem hk];rfl
theorem pagesAt_f {L:List PList} {x:PList} (h:khere L x=false) : pagesAt L x=[]:=by rw [pagesAt,if_neg (by simp [h])]
theorem length_insAt {α : Type} (l:List α) {i:Nat} (h:i≤l.length) (x : α) : (insAt l i x).length=l.length+1:=by simp [insAt];omega
theorem insAt_lt {α : Type} {l:List α} {i:Nat} (h:i≤l.length) {x : α} {k:Nat} (hk:k<i) : (insAt l i x)[k]?=l[k]?:=by
 unfold insAt
 rw [List.append_assoc,List.getElem?_append_left (by simp;omega),List.getElem?_take_of_lt hk]
theorem insAt_eq {α : Type} {l:List α} {i:Nat} (h:i≤l.length) {x : α}:(insAt l i x)[i]?=some x:=by
 unfold insAt
 rw [List.append_assoc,List.getElem?_append_right (by simp;omega)]
 have:i-(l.take i).length=0:=by simp;omega
 rw [this];rfl
theorem insAt_gt {α : Type} {l:List α} {i:Nat} (h:i≤l.length) {x : α} {k:Nat} (hk:i≤k) : (insAt l i x)[k+1]?=l[k]?:=by
 unfold insAt
 rw [List.append_assoc,List.getElem?_append_right (by simp;omega)]
 have:k+1-(l.take i).length=(k-i)+1:=by simp;omega
 rw [this,List.singleton_append,List.getElem?_cons_succ,List.getElem?_drop]
 congr 1
 omega
theorem set_insAt {α : Type} {l:List α} {i:Nat} (h:i≤l.length) (x y : α) : (insAt l i x).set i y=insAt l i y:=by
 unfold insAt
 rw [List.append_assoc,List.append_assoc,List.set_append_right _ _ (by simp;omega)]
 have:i-(l.take i).length=0:=by simp;omega
 rw [this];rfl
theorem setL_get {L:List PList} {x:PList}:(setL L x)[kpos L x]?=some x:=by
 cases h:khere L x
 ·rw [setL_f h];exact insAt_eq (kpos_le L x)
 ·obtain ⟨hk,_⟩:=khere_t h
  rw [setL_t h,List.getElem?_set_self hk]
theorem setL_pos {L:List PList} {x:PList}:kpos (setL L x) x=kpos L x∧khere (setL L x) x=true:=by
 have hg:=setL_get (L:=L) (x:=x)
 obtain ⟨hk,hx⟩:=List.getElem?_eq_some_iff.1 hg
 have e:kpos (setL L x) x=kpos L x:=by
  refine kpos_spec (by omega) (fun j hj hjk => ?_) (fun _ => ?_)
  ·have h0:=kpos_below (L:=L) (x:=x) hjk
   have e1:(setL L x)[j]?=L[j]?:=by
    cases h:khere L x
    ·rw [setL_f h];exact insAt_lt (kpos_le L x) hjk
    ·rw [setL_t h,List.getElem?_set_ne (by omega)]
   rw [List.getElem?_eq_getElem hj,List.getElem?_eq_getElem (Nat.lt_of_lt_of_le hjk (kpos_le L x))] at e1
   injection e1 with e1
   rw [e1];exact h0
  ·rw [hx];unfold aheadL;omega
 refine ⟨e,?_⟩
 unfold khere
 simp only [e,dif_pos hk,hx]
 exact decide_eq_true ⟨rfl,rfl,rfl⟩
theorem setL_set {L:List PList} {x y:PList} (h:keyEq x y) : (setL L x).set (kpos L x) y=setL L y:=by
 obtain ⟨e1,e2⟩:=kpos_key (L:=L) h
 cases hh:khere L x
 ·rw [setL_f hh,setL_f (by rw [← e2];exact hh),set_insAt (kpos_le L x),e1]
 ·rw [setL_t hh,setL_t (by rw [← e2];exact hh),List.set_set,e1]
def setPre (L:List PList) (x:PList) (k:Nat) : List PList:=if k≤kpos L x then L.take k else if khere L x then (L.set (kpos L x) x).take k else (insAt L (kpos L x) x).take (k+1)
theorem take_get {α : Type} {l:List α} {k:Nat} {x : α} (h:l[k]?=some x) : l.take (k+1)=l.take k++[x]:=by
 obtain ⟨hk,rfl⟩:=List.getElem?_eq_some_iff.1 h
 exact List.take_succ_eq_append_getElem hk
theorem setPre_low {L:List PList} {x:PList} {k:Nat} (hk:k<kpos L x) : setPre L x (k+1)=setPre L x k++[L[k]'(Nat.lt_of_lt_of_le hk (kpos_le L x))]:=by
 have:=kpos_le L x
 rw [setPre,if_pos (by omega),setPre,if_pos (by omega)]
 exact List.take_succ_eq_append_getElem (by omega)
theorem setPre_here {L:List PList} {x:PList} {k:Nat} (hk:k=kpos L x) (hh:khere L x=true) : setPre L x (k+1)=setPre L x k++[x]:=by
 obtain ⟨hl,_⟩:=khere_t hh
 subst hk
 rw [setPre,if_neg (by omega),if_pos hh,setPre,if_pos (Nat.le_refl _),take_get (x:=x) (List.getElem?_set_self hl),List.take_set_of_le (Nat.le_refl _)]
theorem setPre_in {L:List PList} {x:PList} {k:Nat} (hk:k=kpos L x) (hl:k<L.length) (hh:khere L x=false) : setPre L x (k+1)=setPre L x k++[x]++[L[k]]:=by
 subst hk
 have hle:=kpos_le L x
 rw [setPre,if_neg (by omega),if_neg (by simp [hh]),setPre,if_pos (Nat.le_refl _),take_get (x:=L[kpos L x]) (by rw [insAt_gt hle (Nat.le_refl _),List.getElem?_eq_getElem hl]),take_get (insAt_eq hle)]
 congr 2
 unfold insAt
 rw [List.append_assoc,List.take_append_of_le_length (by simp;omega),List.take_take,Nat.min_self]
theorem setPre_high {L:List PList} {x:PList} {k:Nat} (hk:kpos L x<k) (hl:k<L.length) : setPre L x (k+1)=setPre L x k++[L[k]]:=by
 have hle:=kpos_le L x
 rw [setPre,if_neg (show ¬ k+1≤kpos L x by omega),setPre,if_neg (show ¬ k≤kpos L x by omega)]
 cases hh:khere L x
 ·simp only [Bool.false_eq_true,if_false]
  exact take_get (by rw [insAt_gt hle (by omega),List.getElem?_eq_getElem hl])
 ·simp only [if_true]
  exact take_get (by rw [List.getElem?_set_ne (by omega),List.getElem?_eq_getElem hl])
theorem setPre_done {L:List PList} {x:PList} (hk:kpos L x<L.length) : setPre L x L.length=setL L x:=by
 rw [setPre,if_neg (by omega),setL]
 split
 ·exact List.take_of_length_le (by simp)
 ·exact List.take_of_length_le (by rw [length_insAt _ (kpos_le L x)];omega)
theorem setPre_last {L:List PList} {x:PList} (hk : ¬ kpos L x<L.length) : setPre L x L.length++[x]=setL L x:=by
 have hle:=kpos_le L x
 have e:kpos L x=L.length:=by omega
 have hf:khere L x=false:=by unfold khere;rw [dif_neg hk]
 rw [setPre,if_pos (by omega),setL_f hf,e,insAt]
 simp
open Go.RowKit
def rowKey (y:LRow) (x:PList) : Prop:=y.Cpu=x.Cpu∧y.Zone=x.Zone∧y.Ty=x.Ty
theorem RdL.key {w:World} {r:LRow} {l:PList} (h:RdL w r l) : rowKey r l:=⟨h.cpu,h.zone,h.ty⟩
theorem plist_ans (r:HRow) (L:List PList) (ls:List LRow) (x:PList) (y:LRow) (w:World) (hl:RdLs w r.Lists ls L) (hk:rowKey y x) (hn:r.Lists.n≤1000000000000000000) :
  Ans Tryz.prog 79 [.agg (encH r).toArray,.agg (encL y).toArray] w fun v _=>v = .tuple #[.int .i64 (kpos L x:Int),.bool (khere L x)]:=by
 refine ans_of Tryz.func79 rfl Tryz.ntmps79 rfl ?_
 refine CW.seq (CW.region (SW.box rfl rfl fun b2 w1 hw hb2b hb2 => ?_))
 refine SW.box rfl rfl fun b3 w2 hw2 hb3b hb3 => ?_
 (replace hw:=Ext.trans hw hw2;replace hb2:=hb2.ext hw2)
 obtain ⟨l1,l2⟩:=hl.len
 have hA:=hl.row.base
 repeat' (first|(first|refine CW.seq ?_|refine CW.region ?_|refine CW.block ?_)|(refine Post.seq ?_)|refine SW.nil ?_|refine SW.pure rfl rfl ?_)
 refine CW.loop (fun i:Nat=>[(2,.pointer (some ⟨b2,0,none⟩)),(3,.pointer (some ⟨b3,0,none⟩)),(6,.int .i64 (i:Int))])
  (fun i w'=>i≤r.Lists.n∧Ext w w'∧Blk w' b2 27 (encH r)∧Blk w' b3 75 (encL y) ∧ ∀ (k:Nat) (h:k<L.length),k<i→aheadL L[k] x) (fun i=>r.Lists.n-i) 0
  ⟨rfl,rfl,rfl,trivial⟩ ⟨by omega,hw,hb2,hb3,fun k h h'=>by omega⟩ ?_
 clear hw hb2 hb3
 rintro i w' ⟨hi,hw,hb2,hb3,hI⟩
 by_cases hin:i<r.Lists.n
 ·have hil:i<L.length:=by omega
  have hils:i<ls.length:=by omega
  have hrd:=hl.each.get i hils hil
  obtain ⟨q,hq⟩ : ∃ q,decide (aheadL L[i] x)=q:=⟨_,rfl⟩
  obtain ⟨p,hp⟩ : ∃ p,decide (aheadL x L[i])=p:=⟨_,rfl⟩
  have cL:∀ w',Ans Tryz.prog 113 [.agg (encL ls[i]).toArray,.agg (encL y).toArray] w' fun v _=>v = .bool q:=fun w'=>by
   have:=lessL_ans ls[i] y L[i] x w' hrd.key hk
   rwa [hq] at this
  have cR:∀ w',Ans Tryz.prog 113 [.agg (encL y).toArray,.agg (encL ls[i]).toArray] w' fun v _=>v = .bool p:=fun w'=>by
   have:=lessL_ans y ls[i] x L[i] w' hk hrd.key
   rwa [hp] at this
  cases q
  ·have hno:=of_decide_eq_false hq
   have ek:kpos L x=i:=kpos_spec (by omega) hI (fun _=>hno)
   have eh:khere L x = !p:=by
    unfold khere
    simp only [ek,dif_pos hil,← hp]
    rcases ahead_tri L[i] x with e|e|e
    ·exact absurd e hno
    ·have : ¬ aheadL x L[i]:=by unfold aheadL keyEq at *;omega
     simp [e,this]
    ·have:=(ahead_not e).2.1
     simp [e,this]
   rw [ek,eh]
   cases p
   all_goals
    repeat' (first|(first|refine CW.seq ?_|refine CW.condfr rfl (by with_reducible rfl) ?_|refine CW.ret ?_|refine CW.exit ?_|(apply CW.quiet1 mixed;(· kernel_rfl);rotate_left;intro w1 hw1;replace hw:=Ext.trans hw hw1;replace hb2:=hb2.ext hw1;replace hb3:=hb3.ext hw1;clear hw1;rotate_right))|(first|refine Post.seq ?_|refine Post.seq_exit ?_|refine Post.hit ?_|refine Post.again_exit ?_)|(show SW _ _ _ _ (⟨_,_,_,_,_,some _⟩::_) _ _;first|refine SW.want_t rfl rfl (by with_reducible rfl) ?_|refine SW.splitd_t rfl rfl rfl (by omega) ?_)|refine SW.pure rfl rfl ?_|(show SW _ _ _ _ (⟨_,Op.fieldAddr _ _ _,_,_,_,none⟩::_) _ _;refine SW.st (st_field rfl) rfl ?_)|(show SW _ _ _ _ (⟨_,Op.indexAddr _ _ _,_,_,_,none⟩::_) _ _;refine SW.st (st_indexN rfl rfl (by assumption) (by omega)) rfl ?_)|(show SW _ _ _ _ (⟨_,Op.call ⟨.builtin .len,_,_⟩,_,_,_,none⟩::_) _ _;refine SW.st (st_len rfl) rfl ?_)|(show SW _ _ _ _ (⟨_,Op.load _ _,_,_,_,none⟩::_) _ _;first|refine SW.st (st_load rfl (hb2.cell (i:=3) (v := .slice r.Lists.A r.Lists.n r.Lists.c) rfl)) rfl ?_|refine SW.st (st_loadsx hw rfl rfl ((hl.row.all hin))) rfl ?_|refine SW.st (st_loads rfl rfl ((fun _ _=>hb3.cell))) rfl ?_)|(show SW _ _ _ _ (⟨_,Op.call ⟨.value (.func _),_,_⟩,_,_,_,none⟩::_) _ _;first|refine SW.qcall rfl rfl (fun w1 hw1=>(cL _)) ?_|refine SW.qcall rfl rfl (fun w1 hw1=>(cR _)) ?_)|exact SW.qnil rfl)
    exact Post.ret2 rfl rfl rfl ⟨_,rfl,hw,rfl⟩
  ·have hyes:=of_decide_eq_true hq
   repeat' (first|(first|refine CW.seq ?_|refine CW.region ?_|refine CW.block ?_|refine CW.condtr rfl (by with_reducible rfl) ?_|refine CW.skip ?_|(apply CW.quiet1 mixed;(· kernel_rfl);rotate_left;intro w1 hw1;replace hw:=Ext.trans hw hw1;replace hb2:=hb2.ext hw1;replace hb3:=hb3.ext hw1;clear hw1;rotate_right))|(first|refine Post.seq ?_|refine Post.blk ?_)|refine SW.nil ?_|(show SW _ _ _ _ (⟨_,_,_,_,_,some _⟩::_) _ _;first|refine SW.want_t rfl rfl (by with_reducible rfl) ?_|refine SW.splitd_t rfl rfl rfl (by omega) ?_)|refine SW.pure rfl rfl ?_|(show SW _ _ _ _ (⟨_,Op.fieldAddr _ _ _,_,_,_,none⟩::_) _ _;refine SW.st (st_field rfl) rfl ?_)|(show SW _ _ _ _ (⟨_,Op.binOp _ _ _ _ _,_,_,_,none⟩::_) _ _;refine SW.st (st_add rfl rfl (by omega) (by omega)) rfl ?_)|(show SW _ _ _ _ (⟨_,Op.indexAddr _ _ _,_,_,_,none⟩::_) _ _;refine SW.st (st_indexN rfl rfl (by assumption) (by omega)) rfl ?_)|(show SW _ _ _ _ (⟨_,Op.call ⟨.builtin .len,_,_⟩,_,_,_,none⟩::_) _ _;refine SW.st (st_len rfl) rfl ?_)|(show SW _ _ _ _ (⟨_,Op.load _ _,_,_,_,none⟩::_) _ _;first|refine SW.st (st_load rfl (hb2.cell (i:=3) (v := .slice r.Lists.A r.Lists.n r.Lists.c) rfl)) rfl ?_|refine SW.st (st_loadsx hw rfl rfl ((hl.row.all hin))) rfl ?_|refine SW.st (st_loads rfl rfl ((fun _ _=>hb3.cell))) rfl ?_)|(show SW _ _ _ _ (⟨_,Op.call ⟨.value (.func _),_,_⟩,_,_,_,none⟩::_) _ _;refine SW.qcall rfl rfl (fun w1 hw1=>(cL _)) ?_)|exact SW.qnil rfl)
   exact Post.again (i+1) ⟨rfl,rfl,rfl,trivial⟩ (by omega) ⟨by omega,hw,hb2,hb3,fun k h h'=>by
    by_cases e:k=i
    ·subst e;exact hyes
    ·exact hI k h (by omega)⟩
 ·have ek:kpos L x=i:=kpos_spec (by omega) hI (fun h=>by omega)
  have eh:khere L x=false:=by unfold khere;rw [dif_neg (by omega)]
  rw [ek,eh]
  repeat' (first|(first|refine CW.seq ?_|refine CW.condfr rfl (by with_reducible rfl) ?_|refine CW.ret ?_|refine CW.exit ?_|(apply CW.quiet1 mixed;(· kernel_rfl);rotate_left;intro w1 hw1;replace hw:=Ext.trans hw hw1;replace hb2:=hb2.ext hw1;replace hb3:=hb3.ext hw1;clear hw1;rotate_right))|(first|refine Post.seq ?_|refine Post.seq_exit ?_|refine Post.hit ?_|refine Post.again_exit ?_)|(show SW _ _ _ _ (⟨_,_,_,_,_,some _⟩::_) _ _;first|refine SW.skip_t rfl rfl (by with_reducible rfl) rfl ?_|refine SW.splitd_f rfl rfl rfl (by omega) ?_)|refine SW.pure rfl rfl ?_|(show SW _ _ _ _ (⟨_,Op.fieldAddr _ _ _,_,_,_,none⟩::_) _ _;refine SW.st (st_field rfl) rfl ?_)|(show SW _ _ _ _ (⟨_,Op.call ⟨.builtin .len,_,_⟩,_,_,_,none⟩::_) _ _;refine SW.st (st_len rfl) rfl ?_)|(show SW _ _ _ _ (⟨_,Op.load _ _,_,_,_,none⟩::_) _ _;refine SW.st (st_load rfl (hb2.cell (i:=3) (v := .slice r.Lists.A r.Lists.n r.Lists.c) rfl)) rfl ?_)|exact SW.qnil rfl)
  exact Post.ret2 rfl rfl rfl ⟨_,rfl,hw,rfl⟩
theorem BinaryNone_ans (A:Option Addr) (n c:Nat) (l:List Block) (a:Int) (w:World) (hl:Sl w 3 encBk A n l) (f:FuncId) [Body Tryz.prog f] (cv:Block→Int) (hf:∀ x∈l,∀ w',Ext w w'→Ans Tryz.prog f ([.agg (encBk x).toArray,.int .i64 a]++[]) w' fun v _=>v = .int .i64 (cv x))
  (hne:∀ x∈l,cv x≠0) (hn:n≤1000000000000000000) : Ans Tryz.prog 92 [.slice A n c,.int .i64 a,.func (.func f) #[] #[]] w fun v _ => ∃ i:Nat,v = .tuple #[.int .i64 (i:Int),.bool false]:=by
 refine ans_of Tryz.func92 rfl Tryz.ntmps92 rfl ?_
 have hw:=Ext.refl w
 have hA:=hl.base
 have hll:=hl.len
 repeat' (first|(first|refine CW.seq ?_|refine CW.region ?_|refine CW.block ?_)|(refine Post.seq ?_)|refine SW.nil ?_|refine SW.pure rfl rfl ?_|(show SW _ _ _ _ (⟨_,Op.call ⟨.builtin .len,_,_⟩,_,_,_,none⟩::_) _ _;refine SW.st (st_len rfl) rfl ?_))
 refine CW.loop (fun s:Nat×Nat=>[(0,.slice A n c),(1,.int .i64 a),(2,.func (.func f) #[] #[]),(8,.int .i64 (n:Int)),(9,.int .i64 (s.1:Int)),(10,.int .i64 (s.2:Int))])
  (fun s w'=>s.1≤s.2∧s.2≤n∧Ext w w') (fun s=>s.2-s.1) (0,n)
  ⟨rfl,rfl,rfl,rfl,rfl,rfl,trivial⟩ ⟨by omega,by omega,hw⟩ ?_
 clear hw
 rintro ⟨i,j⟩ w' ⟨hij,hjn,hw⟩
 simp only at hij hjn ⊢
 by_cases hlt:i<j
 ·have hk:(i+j) / 2<n:=by omega
  have hkl:=hl.lt hk
  have hfk:=fun w1 h1=>hf (l[(i+j) / 2]) (List.getElem_mem hkl) w1 h1
  repeat' (first|(first|refine CW.seq ?_|refine CW.region ?_|refine CW.block ?_|refine CW.condd_t rfl (by omega) ?_|refine CW.skip ?_)|(refine Post.seq ?_)|refine SW.nil ?_|refine SW.pure rfl rfl ?_|(show SW _ _ _ _ (⟨_,Op.binOp _ _ _ _ _,_,_,_,none⟩::_) _ _;refine SW.st (st_add rfl rfl (by omega) (by omega)) rfl ?_)|(show SW _ _ _ _ (⟨_,Op.indexAddr _ _ _,_,_,_,none⟩::_) _ _;refine SW.st (st_indexN rfl rfl (by assumption) (by omega)) rfl ?_)|(show SW _ _ _ _ (⟨_,Op.load _ _,_,_,_,none⟩::_) _ _;refine SW.st (st_loadsx hw rfl rfl ((hl.all hk))) rfl ?_)|(refine SW.st ((st_convI Tryz.underlying3 und_uint rfl).eq (congrArg (Value.int .u64) (wrap_u64 (by omega) (by omega)))) rfl ?_)|(refine SW.st ((st_convI und_uint Tryz.underlying3 rfl).eq (congrArg (Value.int .i64) (wrap_in (by omega) (by omega)))) rfl ?_)|(refine SW.st (st_shr1 rfl rfl) rfl ?_))
  refine SW.callv (cap:=[]) rfl rfl rfl (hfk _ hw) fun v w1 hw1 hv => ?_
  subst hv
  replace hw:=Ext.trans hw hw1
  by_cases hcmp:cv l[(i+j) / 2]<0
  ·repeat' (first|(first|refine CW.region ?_|refine CW.condd_t rfl (by omega) ?_)|(first|refine Post.seq ?_|refine Post.blk ?_)|refine SW.nil ?_|refine SW.pure rfl rfl ?_|(show SW _ _ _ _ (⟨_,Op.binOp _ _ _ _ _,_,_,_,none⟩::_) _ _;refine SW.st (st_add rfl rfl (by omega) (by omega)) rfl ?_))
   exact Post.again ((i+j) / 2+1,j) ⟨rfl,rfl,rfl,rfl,congrArg (fun z=>some (Value.int .i64 z)) (by omega),rfl,trivial⟩ (by simp only;omega) ⟨by simp only;omega,hjn,hw⟩
  ·repeat' (first|(first|refine CW.region ?_|refine CW.condd_f rfl (by omega) ?_)|(first|refine Post.seq ?_|refine Post.blk ?_)|refine SW.nil ?_|refine SW.pure rfl rfl ?_)
   exact Post.again (i,(i+j) / 2) ⟨rfl,rfl,rfl,rfl,rfl,congrArg (fun z=>some (Value.int .i64 z)) (by omega),trivial⟩ (by simp only;omega) ⟨by simp only;omega,by simp only;omega,hw⟩
 ·obtain rfl:i=j:=by omega
  by_cases hin:i<n
  ·have hkl:=hl.lt hin
   have hfk:=fun w1 h1=>hf (l[i]) (List.getElem_mem hkl) w1 h1
   have h0:=hne (l[i]) (List.getElem_mem hkl)
   repeat' (first|(first|refine CW.seq ?_|refine CW.region ?_|refine CW.condd_f rfl (by omega) ?_|refine CW.exit ?_)|(first|refine Post.seq ?_|refine Post.seq_exit ?_|refine Post.hit ?_|refine Post.again_exit ?_)|refine SW.nil ?_|(show SW _ _ _ _ (⟨_,_,_,_,_,some _⟩::_) _ _;first|refine SW.want_t rfl rfl (by with_reducible rfl) ?_|refine SW.splitd_t rfl rfl rfl (by omega) ?_)|refine SW.pure rfl rfl ?_|(show SW _ _ _ _ (⟨_,Op.indexAddr _ _ _,_,_,_,none⟩::_) _ _;refine SW.st (st_indexN rfl rfl (by assumption) (by omega)) rfl ?_)|(show SW _ _ _ _ (⟨_,Op.load _ _,_,_,_,none⟩::_) _ _;refine SW.st (st_loadsx hw rfl rfl ((hl.all hin))) rfl ?_))
   refine SW.callv (cap:=[]) rfl rfl rfl (hfk _ hw) fun v w1 hw1 hv => ?_
   subst hv
   replace hw:=Ext.trans hw hw1
   repeat' (first|(refine CW.ret ?_)|(refine Post.seq ?_)|refine SW.nil ?_|(show SW _ _ _ _ (⟨_,_,_,_,_,some _⟩::_) _ _;refine SW.want_t rfl rfl (by with_reducible rfl) ?_)|refine SW.pure rfl rfl ?_)
   refine Post.ret2 rfl rfl rfl ⟨_,rfl,hw,i,?_⟩
   rw [decide_eq_false h0]
  ·repeat' (first|(first|refine CW.seq ?_|refine CW.region ?_|refine CW.condd_f rfl (by omega) ?_|refine CW.ret ?_|refine CW.exit ?_)|(first|refine Post.seq ?_|refine Post.seq_exit ?_|refine Post.hit ?_|refine Post.again_exit ?_)|refine SW.nil ?_|(show SW _ _ _ _ (⟨_,_,_,_,_,some _⟩::_) _ _;first|refine SW.skip_t rfl rfl (by with_reducible rfl) rfl ?_|refine SW.splitd_f rfl rfl rfl (by omega) ?_)|refine SW.pure rfl rfl ?_)
   exact Post.ret2 rfl rfl rfl ⟨_,rfl,hw,i,rfl⟩
theorem cmpLive_ans (x:Block) (a:Int) (w:World) : Ans Tryz.prog 110 ([.agg (encBk x).toArray,.int .i64 a]++[]) w fun v _=>v = .int .i64 (IntKind.i64.wrap (x.At-a)):=by
 refine ans_of Tryz.func110 rfl Tryz.ntmps110 rfl ?_
 refine CW.seq (CW.region (SW.box rfl rfl fun b1 w1 hw hb1b hb1 => ?_))
 repeat' (first|(first|refine CW.seq ?_|refine CW.region ?_|refine CW.ret ?_)|(refine Post.seq ?_)|refine SW.nil ?_|refine SW.pure rfl rfl ?_|(show SW _ _ _ _ (⟨_,Op.fieldAddr _ _ _,_,_,_,none⟩::_) _ _;refine SW.st (st_field rfl) rfl ?_)|(show SW _ _ _ _ (⟨_,Op.load _ _,_,_,_,none⟩::_) _ _;refine SW.st (st_load rfl (hb1.cell rfl)) rfl ?_)|(refine SW.st (st_subw rfl rfl) rfl ?_))
 exact Post.ret1 rfl rfl ⟨_,rfl,hw,rfl⟩
theorem wrap_zero {z:Int} (h1 : -18446744073709551616<z) (h2:z<18446744073709551616) (h:IntKind.i64.wrap z=0) : z=0:=by
 simp [IntKind.wrap,IntKind.bits,IntKind.signed] at h
 omega
def LiveOut (l:List Block) (a:Int) (v:Value) : Prop:=(foundA l a=true→v = .tuple #[.int .i64 (lbOf l a:Int),.bool true])∧(foundA l a=false → ∃ i:Nat,v = .tuple #[.int .i64 (i:Int),.bool false])
theorem plive_ans (r:HRow) (l:List Block) (a:Int) (w:World) (hl:Sl w 3 encBk r.Live.A r.Live.n l) (hu:l.Pairwise fun x y=>x.At<y.At) (hb:∀ b∈l,0≤b.At∧b.At≤255) (hn:r.Live.n≤1000000000000000000) (ha : -9223372036854775808≤a∧a≤9223372036854775807) :
  Ans Tryz.prog 73 [.agg (encH r).toArray,.int .i64 a] w fun v _=>LiveOut l a v:=by
 refine ans_of Tryz.func73 rfl Tryz.ntmps73 rfl ?_
 refine CW.seq (CW.region (SW.box rfl rfl fun b1 w1 hw hb1b hb1 => ?_))
 repeat' (first|(first|refine CW.seq ?_|refine CW.region ?_)|(refine Post.seq ?_)|refine SW.nil ?_|refine SW.pure rfl rfl ?_|(show SW _ _ _ _ (⟨_,Op.fieldAddr _ _ _,_,_,_,none⟩::_) _ _;refine SW.st (st_field rfl) rfl ?_)|(show SW _ _ _ _ (⟨_,Op.load _ _,_,_,_,none⟩::_) _ _;refine SW.st (st_load rfl (hb1.cell (i:=4) (v := .slice r.Live.A r.Live.n r.Live.c) rfl)) rfl ?_))
 by_cases hin : -1000000≤a∧a≤1000000
 ·refine SW.call rfl rfl (BinaryBlock_ans _ _ _ _ a _ (hl.ext hw) _ (fun x hx w' _=>by
   have:=cmpLive_ans x a w'
   have h:=hb x hx
   rwa [wrap_in (by omega) (by omega)] at this) hu hn) fun v w2 hw2 hv => ?_
  subst hv
  replace hw:=Ext.trans hw hw2
  repeat' (first|(refine CW.ret ?_)|(refine Post.seq ?_)|refine SW.nil ?_|refine SW.pure rfl rfl ?_)
  refine Post.ret2 rfl rfl rfl ⟨_,rfl,hw,?_⟩
  exact ⟨fun h=>by rw [h];rfl,fun h=>⟨lbOf l a,by rw [h];rfl⟩⟩
 ·have hf:foundA l a=false:=by
   unfold foundA
   split
   ·rename_i h
    have:=hb _ (List.getElem_mem h)
    exact decide_eq_false (by omega)
   ·rfl
  refine SW.call rfl rfl (BinaryNone_ans _ _ _ _ a _ (hl.ext hw) _ (fun x=>IntKind.i64.wrap (x.At-a)) (fun x hx w' _=>cmpLive_ans x a w') (fun x hx h0=>by
   have h:=hb x hx
   have:=wrap_zero (by omega) (by omega) h0
   omega) hn) fun v w2 hw2 hv => ?_
  obtain ⟨i,rfl⟩:=hv
  replace hw:=Ext.trans hw hw2
  repeat' (first|(refine CW.ret ?_)|(refine Post.seq ?_)|refine SW.nil ?_|refine SW.pure rfl rfl ?_)
  refine Post.ret2 rfl rfl rfl ⟨_,rfl,hw,?_⟩
  exact ⟨fun h=>absurd (hf.symm.trans h) (by simp),fun _=>⟨i,rfl⟩⟩
theorem listOf_ans (r:HRow) (L:List PList) (ls:List LRow) (x:PList) (w:World) (hl:RdLs w r.Lists ls L) (hs:LsS L) (hn:r.Lists.n≤1000000000000000000) (hp:∀ l∈L,l.Pages.length*8≤140737488355328) :
  Ans Tryz.prog 84 [.agg (encH r).toArray,.int .i64 x.Cpu,.int .i64 x.Zone,.int .i64 x.Ty] w fun v w' => ∃ A c,v = .slice A (pagesAt L x).length c∧Own w' w.heap.size 3 1 encI A (pagesAt L x).length c (pagesAt L x):=by
 refine ans_of Tryz.func84 rfl Tryz.ntmps84 rfl ?_
 refine CW.seq (CW.region (SW.box rfl rfl fun b4 w1 hw hb4b hb4 => ?_))
 obtain ⟨l1,l2⟩:=hl.len
 have hA:=hl.row.base
 repeat' (first|(first|refine CW.seq ?_|refine CW.region ?_|refine CW.block ?_)|(refine Post.seq ?_)|refine SW.nil ?_|refine SW.pure rfl rfl ?_)
 refine CW.loop (fun i:Nat=>[(1,.int .i64 x.Cpu),(2,.int .i64 x.Zone),(3,.int .i64 x.Ty),(4,.pointer (some ⟨b4,0,none⟩)),(9,.int .i64 (i:Int))])
  (fun i w'=>i≤r.Lists.n∧Ext w w'∧Blk w' b4 27 (encH r) ∧ ∀ (k:Nat) (h:k<L.length),k<i → ¬ keyEq L[k] x) (fun i=>r.Lists.n-i) 0
  ⟨rfl,rfl,rfl,rfl,rfl,trivial⟩ ⟨by omega,hw,hb4,fun k h h'=>by omega⟩ ?_
 clear hw hb4
 rintro i w' ⟨hi,hw,hb4,hI⟩
 by_cases hin:i<r.Lists.n
 ·have hil:i<L.length:=by omega
  have hils:i<ls.length:=by omega
  have hrd:=hl.each.get i hils hil
  have e1:=hrd.cpu
  have e2:=hrd.zone
  have e3:=hrd.ty
  have hpl:=hrd.pages.len
  have hp1:=hp _ (List.getElem_mem hil)
  have g0:=hl.row.fld hin (j:=0) (u := .int .i64 ls[i].Cpu) rfl
  have g1:=hl.row.fld hin (j:=1) (u := .int .i64 ls[i].Zone) rfl
  have g2:=hl.row.fld hin (j:=2) (u := .int .i64 ls[i].Ty) rfl
  have g3:=hl.row.fld hin (j:=3) (u := .slice ls[i].Pages.A ls[i].Pages.n ls[i].Pages.c) rfl
  by_cases hk:keyEq L[i] x
  ·obtain ⟨k1,k2,k3⟩:=id hk
   obtain ⟨ek,eh⟩:=key_at hs hil hk
   have ep:pagesAt L x=L[i].Pages:=by
    rw [pagesAt_t eh (by omega)]
    simp only [ek]
   rw [ep]
   repeat' (first|(first|refine CW.seq ?_|refine CW.region ?_|refine CW.block ?_|refine CW.condd_t rfl (by omega) ?_|refine CW.skip ?_)|(refine Post.seq ?_)|refine SW.nil ?_|(show SW _ _ _ _ (⟨_,_,_,_,_,some _⟩::_) _ _;first|refine SW.want_t rfl rfl (by with_reducible rfl) ?_|refine SW.splitd_t rfl rfl rfl (by omega) ?_)|refine SW.pure rfl rfl ?_|(show SW _ _ _ _ (⟨_,Op.fieldAddr _ _ _,_,_,_,none⟩::_) _ _;refine SW.st (st_field rfl) rfl ?_)|(show SW _ _ _ _ (⟨_,Op.indexAddr _ _ _,_,_,_,none⟩::_) _ _;refine SW.st (st_indexN rfl rfl (by assumption) (by omega)) rfl ?_)|(show SW _ _ _ _ (⟨_,Op.call ⟨.builtin .len,_,_⟩,_,_,_,none⟩::_) _ _;refine SW.st (st_len rfl) rfl ?_)|(show SW _ _ _ _ (⟨_,Op.load _ _,_,_,_,none⟩::_) _ _;first|refine SW.st (st_load rfl (hb4.cell (i:=3) (v := .slice r.Lists.A r.Lists.n r.Lists.c) rfl)) rfl ?_|refine SW.st (st_loadx hw rfl g0) rfl ?_|refine SW.st (st_loadx hw rfl g1) rfl ?_|refine SW.st (st_loadx hw rfl g2) rfl ?_|refine SW.st (st_loadx hw rfl g3) rfl ?_))
   all_goals first|(exfalso;omega)|skip
   refine SW.call rfl rfl (words_ans _ _ _ _ _ (hrd.pages.ext hw) (by omega)) fun v w4 hXX hv => ?_
   obtain ⟨X,c4,rfl,hX⟩:=hv
   replace hX:=hX.low hw.size
   replace hw:=Ext.trans hw hXX
   repeat' (first|(refine CW.ret ?_)|(first|refine Post.seq ?_|refine Post.seq_ret ?_|refine Post.blk_ret ?_|refine Post.again_ret ?_)|refine SW.nil ?_|refine SW.pure rfl rfl ?_)
   refine Post.ret1 rfl rfl ⟨_,rfl,hw,X,c4,by rw [hpl],by rw [hpl];exact hX⟩
  ·have hk' : ¬ (ls[i].Cpu=x.Cpu∧ls[i].Zone=x.Zone∧ls[i].Ty=x.Ty):=by unfold keyEq at hk;omega
   repeat' (first|(first|refine CW.seq ?_|refine CW.region ?_|refine CW.block ?_|refine CW.condfr rfl (by with_reducible rfl) ?_|refine CW.condd_t rfl (by omega) ?_|refine CW.condd_f rfl (by omega) ?_|refine CW.skip ?_)|(first|refine Post.seq ?_|refine Post.blk ?_)|refine SW.nil ?_|(show SW _ _ _ _ (⟨_,_,_,_,_,some _⟩::_) _ _;first|refine SW.want_t rfl rfl (by with_reducible rfl) ?_|refine SW.skip_t rfl rfl (by with_reducible rfl) rfl ?_|refine SW.splitd rfl rfl rfl (fun h => ?_) (fun h => ?_))|refine SW.pure rfl rfl ?_|(show SW _ _ _ _ (⟨_,Op.fieldAddr _ _ _,_,_,_,none⟩::_) _ _;refine SW.st (st_field rfl) rfl ?_)|(show SW _ _ _ _ (⟨_,Op.binOp _ _ _ _ _,_,_,_,none⟩::_) _ _;refine SW.st (st_add rfl rfl (by omega) (by omega)) rfl ?_)|(show SW _ _ _ _ (⟨_,Op.indexAddr _ _ _,_,_,_,none⟩::_) _ _;refine SW.st (st_indexN rfl rfl (by assumption) (by omega)) rfl ?_)|(show SW _ _ _ _ (⟨_,Op.call ⟨.builtin .len,_,_⟩,_,_,_,none⟩::_) _ _;refine SW.st (st_len rfl) rfl ?_)|(show SW _ _ _ _ (⟨_,Op.load _ _,_,_,_,none⟩::_) _ _;first|refine SW.st (st_load rfl (hb4.cell (i:=3) (v := .slice r.Lists.A r.Lists.n r.Lists.c) rfl)) rfl ?_|refine SW.st (st_loadx hw rfl g0) rfl ?_|refine SW.st (st_loadx hw rfl g1) rfl ?_|refine SW.st (st_loadx hw rfl g2) rfl ?_))
   all_goals first|(exfalso;omega)|skip
   all_goals
    exact Post.again (i+1) ⟨rfl,rfl,rfl,rfl,rfl,trivial⟩ (by omega) ⟨by omega,hw,hb4,fun k h h'=>by
     by_cases e:k=i
     ·subst e;exact hk
     ·exact hI k h (by omega)⟩
 ·have ep:pagesAt L x=[]:=pagesAt_f (key_none fun k hk=>hI k hk (by omega))
  rw [ep]
  repeat' (first|(first|refine CW.seq ?_|refine CW.region ?_|refine CW.condd_f rfl (by omega) ?_|refine CW.ret ?_|refine CW.exit ?_)|(first|refine Post.seq ?_|refine Post.seq_exit ?_|refine Post.hit ?_|refine Post.again_exit ?_)|refine SW.nil ?_|refine SW.pure rfl rfl ?_|(show SW _ _ _ _ (⟨_,Op.fieldAddr _ _ _,_,_,_,none⟩::_) _ _;refine SW.st (st_field rfl) rfl ?_)|(show SW _ _ _ _ (⟨_,Op.call ⟨.builtin .len,_,_⟩,_,_,_,none⟩::_) _ _;refine SW.st (st_len rfl) rfl ?_)|(show SW _ _ _ _ (⟨_,Op.load _ _,_,_,_,none⟩::_) _ _;refine SW.st (st_load rfl (hb4.cell (i:=3) (v := .slice r.Lists.A r.Lists.n r.Lists.c) rfl)) rfl ?_))
  exact Post.ret1 rfl rfl ⟨_,rfl,hw,none,0,rfl,Own.nil_ _ _ _ _ _ _⟩
open Go.RowKit
section
variable {P:Program} {n:Nat} {ops:Array Oper} {Q:Exit→Act→World→Prop} {rest:List Oper} {L:Env} {w:World} {d:Nat} {T:TypeId} {pos:String} {af:Array Edge}
end
section
variable {α : Type} {P:Program} {w:World} {lo:Nat} {t e:TypeId} {z:Value} {sz bytes:Nat} {enc : α → List Value} {A X:Option Addr} {n c m d:Nat} {l ys:List α}
theorem run_append2 [S:SliceTy P t e sz] [T:ElemTy P e z sz bytes] [E:Enc enc sz] (ty:TypeId) (hO:Own w lo e sz enc A n c l) (hS:Sl w sz enc X m ys) (hlo:lo≤w.heap.size) (hm0 : 0<m)
  (hb:(n+m)*bytes≤140737488355328) (hm:n+m≤maxLen) :
  ∃ A' c' w',(Builtin.append_ #[t,t] ty #[.slice A n c,.slice X m d]).run P w = .ok (.slice A' (n+m) c') w' ∧
   ((A'=A∧c'=c∧Own w' lo e sz enc A (n+m) c (l++ys)∧w.grownBy w' (ownB A c))∨(Own w' w.heap.size e sz enc A' (n+m) c' (l++ys)∧w.grownBy w' none)):=by
 obtain ⟨i,hi,hz,hs,hby⟩:=elem_parts P e (z:=z) (sz:=sz) (bytes:=bytes)
 have hyl:(ys.flatMap enc).length=m*sz:=by rw [length_flatMap_enc,hS.len]
 have hone:∀ u∈ys.flatMap enc,u.oneCell'=true:=fun u hu=>by
  obtain ⟨x,_,hx⟩:=List.mem_flatMap.1 hu
  exact E.one x u hx
 have hcat:(l++ys).flatMap enc=l.flatMap enc++ys.flatMap enc:=List.flatMap_append
 have hll:(l++ys).length=n+m:=by rw [List.length_append,hO.len,hS.len]
 obtain ⟨ad,rfl⟩:=Option.isSome_iff_exists.1 (hS.base hm0)
 have hnews:=cells_flatMap T.pos hS
 have hll':(l.flatMap enc).length=n*sz:=by rw [length_flatMap_enc,hO.len]
 have big:∀ b,A=some b→c<n+m→(∀ j u,(l.flatMap enc)[j]?=some u→w.cell? (b.add j)=some u) →
   ∃ A' c' w',(Builtin.append_ #[t,t] ty #[.slice A n c,.slice (some ad) m d]).run P w = .ok (.slice A' (n+m) c') w'∧(Own w' w.heap.size e sz enc A' (n+m) c' (l++ys)∧w.grownBy w' none):=by
  rintro b rfl hlt hold
  obtain ⟨v',w',hr,h2,h3⟩:=run_append_arg_grows (P:=P) w t ty e i z sz bytes S.und hi hz hs hby T.zc T.pos b n c (l.flatMap enc) hll' hold ad m d (ys.flatMap enc) hyl hnews hlt hm hb
  rw [← hcat] at h2
  obtain ⟨A',c',rfl,ho⟩:=Own.of_owns h2 hll
  exact ⟨A',c',w',hr,ho,h3⟩
 rcases hO.row with ⟨rfl,rfl⟩|⟨hc,g,cur,rfl,hg1,hg2,hg3,hg4,hg5,hg6⟩
 ·have hl:l=[]:=List.eq_nil_of_length_eq_zero hO.len
  subst hl
  cases A with
  | none =>
   obtain ⟨v',w',hr,h2,h3,_⟩:=run_append_own (P:=P) w w.heap.size t ty e i z sz bytes S.und hi hz hs hby T.zc T.pos (.slice none 0 0) 0 [] (World.ownsRow_nil _ _ _ _) ad m d (ys.flatMap enc) hyl hnews hone hm hb (Nat.le_refl _)
   obtain ⟨A',c',rfl,ho⟩:=Own.of_owns (m:=0+m) (l:=[]++ys) (enc:=enc) (by simpa using h2) (by simpa using hS.len)
   exact ⟨A',c',w',hr,.inr ⟨ho,by simpa [Value.ownBlock] using h3⟩⟩
  | some b =>
   obtain ⟨A',c',w',hr,h⟩:=big b rfl (by omega) (by simp)
   exact ⟨A',c',w',hr,.inr h⟩
 ·by_cases hroom:n+m≤c
  ·obtain ⟨A',c',w',hr,h1,h2⟩:=run_append_gen (P:=P) (t:=t) ty hO hS (d:=d) hlo hb hm
   have hr':=run_append_room (P:=P) w t ty e i S.und hi g n c cur hg2 ad m d (ys.flatMap enc) (by rw [hs];exact hyl) hnews hone hroom (by rw [hs,hyl,hg5,← Nat.add_mul];exact Nat.mul_le_mul_right _ hroom)
   have he:=hr.symm.trans hr'
   injection he with he _
   injection he with e1 _ e3
   subst e1 e3
   exact ⟨_,_,w',hr,.inl ⟨rfl,rfl,h1,h2⟩⟩
  ·obtain ⟨A',c',w',hr,h⟩:=big ⟨g,0,none⟩ rfl (by omega) ((hO.owns hc).cells (g:=g) (by simp [Value.ownBlock]))
   exact ⟨A',c',w',hr,.inr h⟩
end
theorem SW.append2 {α : Type} {P:Program} {n:Nat} {ops:Array Oper} {Q:Exit→Act→World→Prop} {rest:List Oper} {L:Env} {w:World} {dd:Nat} {T:TypeId} {pos:String} {af:Array Edge}
  {lo:Nat} {t e:TypeId} {z:Value} {sz bytes:Nat} {enc : α → List Value} {A X:Option Addr} {k c m c2:Nat} {l ys:List α} [SliceTy P t e sz] [ElemTy P e z sz bytes] [Enc enc sz] {x y:Operand}
  (hO:Own w lo e sz enc A k c l) (hS:Sl w sz enc X m ys) (hlo:lo≤w.heap.size) (hm0 : 0<m) (hx:opv L x=some (.slice A k c)) (hy:opv L y=some (.slice X m c2)) (hn:Nat.blt dd n=true)
  (hb:(k+m)*bytes≤140737488355328) (hm:k+m≤9223372036854775807)
  (h:∀ A' c' w',((A'=A∧c'=c∧Own w' lo e sz enc A (k+m) c (l++ys)∧w.grownBy w' (ownB A c))∨(Own w' w.heap.size e sz enc A' (k+m) c' (l++ys)∧w.grownBy w' none))→SW P n ops (.eff Q) rest ((dd,.slice A' (k+m) c')::L) w') :
  SW P n ops (.eff Q) (⟨some dd,.call ⟨.builtin .append,#[x,y],#[t,t]⟩,T,pos,af,none⟩::rest) L w :=
 ⟨fun a ha=>by
  obtain ⟨A',c',w',hr,h1⟩:=run_append2 (P:=P) (t:=t) T hO hS (d:=c2) hlo hm0 hb (by simp only [maxLen];omega)
  simp only [swp,wpList,Region.wanted,if_true]
  refine .inl ?_
  unfold Oper.wp
  have:(execOp a.eval ⟨some dd,.call ⟨.builtin .append,#[x,y],#[t,t]⟩,T,pos,af,none⟩).run P w = .ok (.value (.slice A' (k+m) c')) w':=by
   simp [execOp,resolve,invoke,builtin,ha.eval hx,ha.eval hy,hr]
  rw [this,Oper.upon_value]
  exact (h A' c' w' h1).out _ (ha.put hn _)⟩
open Go.RowKit
set_option maxHeartbeats 4000000 in
theorem InsertLRow_ans (A:Option Addr) (n c lo:Nat) (l:List LRow) (w:World) (hO:Own w lo 75 4 encL A n c l) (i:Nat) (hi:i≤n) (x:LRow) (b:Nat) (hB:Blk w b 75 (encL x)) (hne:ownB A c≠some b) (hn:(n+1)*48≤140737488355328) (hlo:lo≤w.heap.size) :
  AnsX Tryz.prog 112 [.slice A n c,.int .i64 (i:Int),.slice (some ⟨b,0,none⟩) 1 1] w fun v w' => ∃ A' c',v = .slice A' (n+1) c'∧Own w' lo 75 4 encL A' (n+1) c' (insAt l i x)∧w.grownBy w' (ownB A c) ∧ ∀ k,ownB A' c'=some k→ownB A c=some k∨w.heap.size≤k:=by
 refine ansx_of Tryz.func112 rfl Tryz.ntmps112 rfl ?_
 have hle:=hO.le
 have hll:=hO.len
 have hA:=hO.sl.base
 have hw:=Ext.refl w
 have hx1:Sl w 4 encL (some ⟨b,0,none⟩) 1 [x]:=Blk.sl1 hB
 have hxl:(encL x).length=4:=rfl
 have hfl:∀ q:List LRow,(q.flatMap encL).length=q.length*4:=fun q=>length_flatMap_enc q
 have hone:∀ (q:List LRow) (v:Value),v∈q.flatMap encL→v.oneCell'=true:=fun q v hv=>by
  obtain ⟨u,_,hu⟩:=List.mem_flatMap.1 hv
  exact Enc.one (enc:=encL) u v hu
 by_cases hin:i=n
 ·subst hin
  repeat' (first|(first|refine CW.seq ?_|refine CW.region ?_|refine CW.condd_t rfl (by omega) ?_|refine CW.condd_f rfl (by omega) ?_|refine CW.skip ?_)|(refine Post.seq ?_)|refine SW.nil ?_|refine SW.pure rfl rfl ?_|(show SW _ _ _ _ (⟨_,Op.call ⟨.builtin .len,_,_⟩,_,_,_,none⟩::_) _ _;refine SW.st (st_len rfl) rfl ?_)|(refine SW.st (st_sliceLo (k:=i) rfl rfl (by omega) (by omega)) rfl ?_))
  all_goals first|(exfalso;omega)|skip
  refine SW.append2 hO hx1 hlo (by omega) rfl rfl rfl (by omega) (by omega) fun A2 c2 w2 hcase => ?_
  have hres:Own w2 lo 75 4 encL A2 (i+1) c2 (l++[x])∧w.grownBy w2 (ownB A c) ∧ ∀ k,ownB A2 c2=some k→ownB A c=some k∨w.heap.size≤k:=by
   rcases hcase with ⟨rfl,rfl,h1,h2⟩|⟨h1,h2⟩
   ·exact ⟨h1,h2,fun k e => .inl e⟩
   ·exact ⟨h1.low hlo,(ext_grown (Ext.refl w) h2 (Nat.le_refl _) (fun k e=>by cases e)).gr _,fun k e => .inr (h1.row_ge k e)⟩
  obtain ⟨hO2,hg,hpos⟩:=hres
  repeat' (first|(refine CW.ret ?_)|(first|refine Post.seq ?_|refine Post.seq_ret ?_)|refine SW.nil ?_|refine SW.pure rfl rfl ?_)
  refine Post.ret1 rfl rfl ⟨_,rfl,A2,c2,rfl,?_,hg,hpos⟩
  have e:insAt l i x=l++[x]:=by unfold insAt;rw [List.take_of_length_le (by omega),List.drop_eq_nil_of_le (by omega)];simp
  rw [e];exact hO2
 ·by_cases hroom:n+1≤c
  ·obtain ⟨g,rest,rfl,h1,h2,h3,h4,h5,h6⟩:=hO.opened (by omega)
   have hgb:g≠b:=fun e=>hne (by rw [h6,e])
   have es:l.flatMap encL++rest=(l.take i).flatMap encL++((l.drop i).flatMap encL++rest):=by rw [← List.append_assoc,← List.flatMap_append,List.take_append_drop]
   have e1:((l.take i).flatMap encL).length=i*4:=by rw [hfl];simp;omega
   have e2:((l.drop i).flatMap encL).length=(n-i)*4:=by rw [hfl];simp [hll]
   have hsrc:=hO.sl.drop i c (by omega) (by omega)
   rw [if_neg (by omega)] at hsrc
   rw [es] at h2
   have hov:∀ w',Ext w w'→(Extern.SlicesOverlaps.overlaps #[24,24] #[4] #[.slice (some ⟨b,0,none⟩) 1 1,.slice (if c=i+1 then (some ⟨g,0,none⟩) else (some (⟨g,0,none⟩ : Addr)).map (·.add ((i+1)*4))) (n+1-(i+1)) (c-(i+1))]).run Tryz.prog w' = .ok (.bool false) w':=fun w' hx=>by
    rw [if_neg (by omega),Option.map_some,addr_of]
    have b1:=hB.ext hx
    have b2:=h2.ext hx
    unfold Blk at b1 b2
    exact Lib.run_overlaps_apart w' 24 4 75 (SliceTy.und (t:=24)) 4 (fun w0=>run_sizeOf (SliceTy.size (t:=24)) w0) ⟨b,0,none⟩ ⟨g,(i+1)*4,none⟩ 1 1 _ _ (fun e=>hgb e.symm) 75 75 (encL x).toArray.size ((l.take i).flatMap encL++((l.drop i).flatMap encL++rest)).toArray.size
     (by simp only [World.shape?,b1]) (by simp only [World.shape?,b2]) (by simp [e1,e2];omega) (by simp [World.frozen?,b1]) (by simp [World.frozen?,b1])
   repeat' (first|(first|refine CW.seq ?_|refine CW.region ?_|refine CW.condd_f rfl (by omega) ?_|refine CW.condt rfl ?_|refine CW.skip ?_)|(refine Post.seq ?_)|refine SW.nil ?_|refine SW.pure rfl rfl ?_|(show SW _ _ _ _ (⟨_,Op.binOp _ _ _ _ _,_,_,_,none⟩::_) _ _;refine SW.st (st_add rfl rfl (by omega) (by omega)) rfl ?_)|(show SW _ _ _ _ (⟨_,Op.call ⟨.builtin .len,_,_⟩,_,_,_,none⟩::_) _ _;refine SW.st (st_len rfl) rfl ?_)|(show SW _ _ _ _ (⟨_,Op.call ⟨.builtin .cap,_,_⟩,_,_,_,none⟩::_) _ _;refine SW.st (st_cap rfl) rfl ?_)|(refine SW.st (st_sliceLo (k:=i) rfl rfl (by omega) (by omega)) rfl ?_)|(refine SW.st (st_sliceHi (k:=n+1) rfl rfl (by omega)) rfl ?_)|(refine SW.st (st_sliceLo (k:=i+1) rfl rfl (by omega) (by omega)) rfl ?_)|(refine SW.entry Tryz.func128 (by kernel_rfl) (by kernel_rfl) (by kernel_rfl) (e:=Extern.SlicesOverlaps.overlaps #[24,24] #[4]) (by kernel_rfl) rfl rfl (hov _ hw) ?_))
   all_goals first|(exfalso;omega)|skip
   have hsz:((n-i)+1)*4≤((l.drop i).flatMap encL++rest).length:=by rw [List.length_append,e2];omega
   have e4:(l.drop i).flatMap encL++rest=((l.drop i).flatMap encL++rest).take 4++(((l.drop i).flatMap encL++rest).drop 4).take ((n-i)*4)++((l.drop i).flatMap encL++rest).drop (4+(n-i)*4):=by
    rw [List.append_assoc,← List.drop_drop,List.take_append_drop,List.take_append_drop]
   generalize hDD:((l.drop i).flatMap encL++rest).take 4=D1 at e4
   generalize hDE:(((l.drop i).flatMap encL++rest).drop 4).take ((n-i)*4)=D2 at e4
   generalize hDF:((l.drop i).flatMap encL++rest).drop (4+(n-i)*4)=D3 at e4
   have f1:D1.length=4:=by rw [← hDD];simp only [List.length_take];omega
   have f2:D2.length=(n-i)*4:=by rw [← hDE];simp only [List.length_take,List.length_drop];omega
   have f3:D3.length+4=rest.length:=by rw [← hDF];simp only [List.length_drop,List.length_append,e2];omega
   rw [e4] at h2
   refine CW.any 8 mixed (rb_tail (by kernel_rfl)) rfl fun w1 hw1 hRB => ?_
   replace hw:=Ext.trans hw hw1;replace hO:=hO.ext hw1;replace hB:=hB.ext hw1;replace h2:=h2.ext hw1;clear hw1
   refine SA.take 0 hRB rfl (by kernel_rfl) (by kernel_rfl) rfl ?_
   repeat (refine SW.pure rfl rfl ?_)
   refine SW.tknil ?_
   refine SA.take 1 hRB rfl (by kernel_rfl) (by kernel_rfl) rfl ?_
   repeat (refine SW.pure rfl rfl ?_)
   refine SW.tknil ?_
   refine SA.take 2 hRB rfl (by kernel_rfl) (by kernel_rfl) rfl ?_
   repeat (refine SW.pure rfl rfl ?_)
   refine SW.tknil ?_
   refine SA.take 3 hRB rfl (by kernel_rfl) (by kernel_rfl) rfl ?_
   repeat ((show SW _ _ _ _ (⟨_,Op.binOp _ _ _ _ _,_,_,_,none⟩::_) _ _;refine SW.st (st_add rfl rfl (by omega) (by omega)) rfl ?_))
   refine SW.tknil ?_
   refine SA.take 4 hRB rfl (by kernel_rfl) (by kernel_rfl) rfl ?_
   repeat ((refine SW.st (st_sliceLo (k:=i+1) rfl rfl (by omega) (by omega)) rfl ?_))
   refine SW.tknil ?_
   refine SA.take 5 hRB rfl (by kernel_rfl) (by kernel_rfl) rfl ?_
   repeat (refine SW.pure rfl rfl ?_)
   refine SW.tknil ?_
   refine SA.take 6 hRB rfl (by kernel_rfl) (by kernel_rfl) rfl ?_
   repeat (refine SW.pure rfl rfl ?_)
   refine SW.tknil ?_
   refine SA.take 7 hRB rfl (by kernel_rfl) (by kernel_rfl) rfl ?_
   repeat ((refine SW.st (st_sliceLo (k:=i) rfl rfl (by omega) (by omega)) rfl ?_))
   refine SW.tknil ?_
   refine SA.done (by kernel_rfl) ?_
   refine SW.copy (k:=n-i) ((i+1)*4) ((l.drop i).flatMap encL) h2 rfl rfl rfl (by omega) e2 (by simp only [List.length_append,e1,e2,f1,f2];omega) (fun h0=>⟨by rw [if_neg (by omega)];simp [addr_of],(⟨g,0,none⟩ : Addr).add (i*4),by rw [if_neg (by omega)];rfl,fun j v hv=>cells_flatMap (by omega) (hsrc.ext hw) j v hv⟩) (hone _) fun w3 h2' hg3 => ?_
   have g1:=lay_mid ((l.take i).flatMap encL++D1) D2 D3 ((l.drop i).flatMap encL) (by rw [e2,f2]) (o:=(i+1)*4) (by rw [List.length_append,e1,f1];omega)
   have g0:(l.take i).flatMap encL++(D1++D2++D3)=(l.take i).flatMap encL++D1++D2++D3:=by simp only [List.append_assoc]
   rw [g0,g1] at h2'
   have hG1:=grown_trans (hw.gr (ownB (some ⟨g,0,none⟩) c)) hg3 (.inl h6.symm)
   have hB3:=hB.grown hg3 (by simpa using fun e=>hgb e.symm)
   repeat' (first|(first|refine CW.seq ?_|refine CW.region ?_)|(first|refine Post.seq ?_|refine Post.np ?_)|refine SW.nil ?_|refine SW.pure rfl rfl ?_|(refine SW.st (st_sliceLo (k:=i) rfl rfl (by omega) (by omega)) rfl ?_))
   refine SW.copy (k:=1) (i*4) (encL x) h2' rfl rfl rfl (by omega) hxl (by simp only [List.length_append,e1,e2,f1,hxl];omega) (fun h0=>⟨by rw [if_neg (by omega)];simp [addr_of],⟨b,0,none⟩,rfl,fun j v hv=>hB3.cell hv⟩) (Enc.one (enc:=encL) x) fun w4 h2'' hg4 => ?_
   have g2:=lay_mid ((l.take i).flatMap encL) D1 ((l.drop i).flatMap encL++D3) (encL x) (by rw [hxl,f1]) (o:=i*4) e1.symm
   have g3:(l.take i).flatMap encL++D1++(l.drop i).flatMap encL++D3=(l.take i).flatMap encL++D1++((l.drop i).flatMap encL++D3):=by simp only [List.append_assoc]
   have g4:(l.take i).flatMap encL++encL x++((l.drop i).flatMap encL++D3)=(insAt l i x).flatMap encL++D3:=by unfold insAt;simp only [List.flatMap_append,List.flatMap_cons,List.flatMap_nil,List.append_nil,List.append_assoc]
   rw [g3,g2,g4] at h2''
   have hO':=Own.closed (n:=n+1) (c:=c) (l:=insAt l i x) (by unfold insAt;simp;omega) h2'' (by omega) hroom (by omega) h5 h1
   have hG2:=grown_trans hG1 hg4 (.inl h6.symm)
   repeat' (first|(first|refine CW.seq ?_|refine CW.region ?_|refine CW.ret ?_)|(first|refine Post.seq ?_|refine Post.seq_ret ?_)|refine SW.nil ?_|refine SW.pure rfl rfl ?_)
   exact Post.ret1 rfl rfl ⟨_,rfl,_,_,rfl,hO',hG2,fun k e => .inl e⟩
  ·have hcn:c=n:=by omega
   have hsrc:=hO.sl.drop i c (by omega) (by omega)
   have hpre:=hO.sl.pre (i:=i) (by omega)
   repeat' (first|(first|refine CW.seq ?_|refine CW.region ?_|refine CW.condd_t rfl (by omega) ?_|refine CW.condd_f rfl (by omega) ?_|refine CW.skip ?_)|(refine Post.seq ?_)|refine SW.nil ?_|refine SW.pure rfl rfl ?_|(show SW _ _ _ _ (⟨_,Op.binOp _ _ _ _ _,_,_,_,none⟩::_) _ _;first|refine SW.st (st_add rfl rfl (by omega) (by omega)) rfl ?_|refine SW.st (st_sub rfl rfl (by omega) (by omega)) rfl ?_)|(show SW _ _ _ _ (⟨_,Op.call ⟨.builtin .len,_,_⟩,_,_,_,none⟩::_) _ _;refine SW.st (st_len rfl) rfl ?_)|(show SW _ _ _ _ (⟨_,Op.call ⟨.builtin .cap,_,_⟩,_,_,_,none⟩::_) _ _;refine SW.st (st_cap rfl) rfl ?_)|(refine SW.st (st_sliceLo (k:=i) rfl rfl (by omega) (by omega)) rfl ?_)|(refine SW.st (st_sliceHi (k:=i) rfl rfl (by omega)) rfl ?_))
   all_goals first|(exfalso;omega)|skip
   refine SW.appendZ (k:=n+1-i) hpre Tryz.underlying3 rfl rfl (by omega) rfl (by omega) (by omega) (by omega) (by omega) fun g rest c2 w2 hw2 hg2 h2 h3 h4 h5 => ?_
   have e1:((l.take i).flatMap encL).length=i*4:=by rw [hfl];simp;omega
   have e2:((l.drop i).flatMap encL).length=(n-i)*4:=by rw [hfl];simp [hll]
   have hsz:((n-i)+1)*4≤rest.length:=by omega
   have e4:rest=rest.take 4++(rest.drop 4).take ((n-i)*4)++rest.drop (4+(n-i)*4):=by
    rw [List.append_assoc,← List.drop_drop,List.take_append_drop,List.take_append_drop]
   generalize hDD:rest.take 4=D1 at e4
   generalize hDE:(rest.drop 4).take ((n-i)*4)=D2 at e4
   generalize hDF:rest.drop (4+(n-i)*4)=D3 at e4
   have f1:D1.length=4:=by rw [← hDD];simp only [List.length_take];omega
   have f2:D2.length=(n-i)*4:=by rw [← hDE];simp only [List.length_take,List.length_drop];omega
   have f3:D3.length+((n-i)+1)*4=rest.length:=by rw [← hDF];simp only [List.length_drop];omega
   rw [e4] at h2
   have hrow:ownB A c≠some g:=fun e=>by have:=hO.lt_size _ e;omega
   have hgb:b≠g:=by have:=hB.lt;omega
   replace hsrc:=hsrc.ext hw2
   replace hB:=hB.ext hw2
   replace hw:=Ext.trans hw hw2
   repeat' (first|(first|refine CW.seq ?_|refine CW.region ?_)|(refine Post.seq ?_)|refine SW.nil ?_|refine SW.pure rfl rfl ?_|(refine SW.st (st_sliceLo (k:=i) rfl rfl (by omega) (by omega)) rfl ?_))
   refine SW.copy (k:=1) (i*4) (encL x) h2 rfl rfl rfl (by omega) hxl (by simp only [List.length_append,e1,f1,f2,hxl];omega) (fun h0=>⟨by rw [if_neg (by omega)];simp [addr_of],⟨b,0,none⟩,rfl,fun j v hv=>hB.cell hv⟩) (Enc.one (enc:=encL) x) fun w3 h2' hg3 => ?_
   have g2:=lay_mid ((l.take i).flatMap encL) D1 (D2++D3) (encL x) (by rw [hxl,f1]) (o:=i*4) e1.symm
   have g3:(l.take i).flatMap encL++(D1++D2++D3)=(l.take i).flatMap encL++D1++(D2++D3):=by simp only [List.append_assoc]
   rw [g3,g2] at h2'
   have hX3:Ext w w3:=hw.own hg2 hg3
   have hsrc3:Sl w3 4 encL (if c=i then A else A.map (·.add (i*4))) (n-i) (l.drop i):=(hO.sl.drop i c (by omega) (by omega)).ext hX3
   replace hw:=hX3
   repeat' (first|(refine CW.seq ?_)|(refine Post.seq ?_)|refine SW.nil ?_)
   refine CW.any 8 mixed (rb_tail (by kernel_rfl)) rfl fun w1 hw1 hRB => ?_
   replace hw:=Ext.trans hw hw1;replace h2':=h2'.ext hw1;replace hsrc3:=hsrc3.ext hw1;clear hw1
   refine SA.take 0 hRB rfl (by kernel_rfl) (by kernel_rfl) rfl ?_
   repeat (refine SW.pure rfl rfl ?_)
   refine SW.tknil ?_
   refine SA.take 1 hRB rfl (by kernel_rfl) (by kernel_rfl) rfl ?_
   repeat (refine SW.pure rfl rfl ?_)
   refine SW.tknil ?_
   refine SA.take 2 hRB rfl (by kernel_rfl) (by kernel_rfl) rfl ?_
   repeat (refine SW.pure rfl rfl ?_)
   refine SW.tknil ?_
   refine SA.take 3 hRB rfl (by kernel_rfl) (by kernel_rfl) rfl ?_
   repeat ((show SW _ _ _ _ (⟨_,Op.binOp _ _ _ _ _,_,_,_,none⟩::_) _ _;refine SW.st (st_add rfl rfl (by omega) (by omega)) rfl ?_))
   refine SW.tknil ?_
   refine SA.take 4 hRB rfl (by kernel_rfl) (by kernel_rfl) rfl ?_
   repeat ((refine SW.st (st_sliceLo (k:=i+1) rfl rfl (by omega) (by omega)) rfl ?_))
   refine SW.tknil ?_
   refine SA.take 5 hRB rfl (by kernel_rfl) (by kernel_rfl) rfl ?_
   repeat (refine SW.pure rfl rfl ?_)
   refine SW.tknil ?_
   refine SA.take 6 hRB rfl (by kernel_rfl) (by kernel_rfl) rfl ?_
   repeat (refine SW.pure rfl rfl ?_)
   refine SW.tknil ?_
   refine SA.take 7 hRB rfl (by kernel_rfl) (by kernel_rfl) rfl ?_
   repeat ((refine SW.st (st_sliceLo (k:=i) rfl rfl (by omega) (by omega)) rfl ?_))
   refine SW.tknil ?_
   refine SA.done (by kernel_rfl) ?_
   refine SW.copy (k:=n-i) ((i+1)*4) ((l.drop i).flatMap encL) h2' rfl rfl rfl (by omega) e2 (by simp only [List.length_append,e1,e2,f2,hxl];omega) (fun h0=>⟨by rw [if_neg (by omega)];simp [addr_of],(if c=i then A else A.map (·.add (i*4))).getD default,?_,fun j v hv=>cells_flatMap (by omega) hsrc3 j v hv⟩) (hone _) fun w4 h2'' hg4 => ?_
   ·obtain ⟨a,ha⟩:=Option.isSome_iff_exists.1 (hsrc3.base h0)
    rw [ha];rfl
   ·have g4:=lay_mid ((l.take i).flatMap encL++encL x) D2 D3 ((l.drop i).flatMap encL) (by rw [e2,f2]) (o:=(i+1)*4) (by rw [List.length_append,e1,hxl];omega)
    have g5:(l.take i).flatMap encL++encL x++(D2++D3)=(l.take i).flatMap encL++encL x++D2++D3:=by simp only [List.append_assoc]
    have g6:(l.take i).flatMap encL++encL x++(l.drop i).flatMap encL++D3=(insAt l i x).flatMap encL++D3:=by unfold insAt;simp only [List.flatMap_append,List.flatMap_cons,List.flatMap_nil,List.append_nil,List.append_assoc]
    rw [g5,g4,g6] at h2''
    have hO':=Own.closed (n:=n+1) (c:=c2) (lo:=lo) (l:=insAt l i x) (by unfold insAt;simp;omega) h2'' (by omega) (by omega) (by omega) h5 (by omega)
    have hw4:Ext w w4:=hw.own hg2 hg4
    have e9:i+(n+1-i)=n+1:=by omega
    repeat' (first|(first|refine CW.seq ?_|refine CW.region ?_|refine CW.ret ?_)|(first|refine Post.seq ?_|refine Post.seq_ret ?_|refine Post.np ?_)|refine SW.nil ?_|refine SW.pure rfl rfl ?_)
    rw [e9]
    exact Post.ret1 rfl rfl ⟨_,rfl,_,_,rfl,hO',hw4.gr _,fun k e => .inr (by
     have:k=g:=by
      unfold ownB at e
      split at e
      ·cases e
      ·simpa using e.symm
     omega)⟩
end Go.Proofs.YtigikedbffjeiaaGreat
