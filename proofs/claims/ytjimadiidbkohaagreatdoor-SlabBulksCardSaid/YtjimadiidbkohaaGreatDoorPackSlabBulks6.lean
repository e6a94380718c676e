/-
  Texts of the claim SlabBulks, part 6: what its theorem leans on.
-/
import Derived.Test.YtjimadiidbkohaaGreatDoorPackSlabBulks5
import Derived.Test.YtjimadiidbkohaaGreatDoorPackSlabBulks2
import Derived.Test.YtjimadiidbkohaaGreatDoorPackSlabBulks4
import Derived.Test.YtjimadiidbkohaaGreatDoorPackSlabBulks3
set_option linter.unusedVariables false
set_option linter.unusedSimpArgs false
namespace Go.Proofs.YtjimadiidbkohaaGreatDoor
open Go.RowKit
theorem vw.Ig {f t:Int} {l:List Block} {a o:Int} (h:vw f t l a o) : ∀ x∈l,x.At≠a:=fun x hx e=>by
 have h1:=h.BZ x hx;have h2:=(h.cV x hx).1;have:=bH h2.1 h2.2.1
 have:=bH h.fit.1 h.fit.2.1
 omega
set_option maxHeartbeats 8000000 in
theorem se (r:ct) (z:aq) (a o:Int) (w:World) (hr:tY w r z) (hf:(r.ag.n+1)*24≤140737488355328) (ht:r.Types.n*8≤140737488355328) (h1 : -9223372036854775808≤r.aV∧r.aV≤9223372036854775807) (h2 : -9223372036854775808≤r.To∧r.To≤9223372036854775807) :
 bt Tryz.prog 115 [.agg (bo r).toArray,.int .i64 a,.int .i64 o] w (rB w.heap.size (iZ z a o)):=by
 refine aM Tryz.func115 rfl Tryz.ntmps115 rfl ?_;refine CW.seq (CW.region (SW.box rfl rfl fun b3 w1 hw bM ar => ?_));refine SW.alloc rfl fun b6 w2 cJ fb ax => ?_
 have dr:w.heap.size≤b6:=Nat.le_trans hw.size fb
 (replace hw:=Ext.trans hw cJ;replace ar:=ar.ext cJ);have eF:=hr.from_;have eT:=hr.ka;have Co:=hr.free.len;have Hs:=hr.types.len;obtain ⟨q,hq⟩ : ∃ q,ev z=q:=⟨_,rfl⟩
 have c1:∀ w',Ext w w'→bt Tryz.prog 78 [.agg (bo r).toArray] w' fun v _=>v = .bool q:=fun w' h=>by
  have:=kG r z w' (hr.ext h) (by omega) (by omega) h1 h2
  rwa [hq] at this
 cases q
 ·rw [z9 hq];repeat' (first|refine Wz ?_|(refine CW.bG rfl ?_)|(refine SW.call rfl rfl (c1 _ hw) ?_;intro v w1 ab hv;subst hv;replace hw:=Ext.trans hw ab;replace ar:=ar.ext ab;replace ax:=ax.ext ab;clear ab))
  refine SW.ap ax rfl rfl rfl rfl (cw .zero) fun w5 bL hg => ?_
  replace hw:=hw.own dr hg;refine Wz ?_;exact ae.fU rfl rfl rfl bL rfl ⟨_,rfl,hw,.zero,rfl,fa.zero _ _⟩
 ·have hz:=dw.1 hq;obtain ⟨o1,o2,o3,o4,o5⟩:=hz.ok
  have cF:∀ w',bt Tryz.prog 111 [.agg (bo r).toArray,.int .i64 a,.int .i64 o] w' fun v _=>v = .bool (decide (e8 z.aV z.To a o)):=fun w'=>by
   have:=oU r a o w' ⟨by omega,by omega⟩ ⟨by omega,by omega⟩
   rwa [eF,eT] at this
  by_cases jg:e8 z.aV z.To a o
  ·rw [decide_eq_true jg] at cF;obtain ⟨f1,f2,f3,f4,f5⟩:=id jg
   have mO:∀ b∈z.ag,dG z.aV z.To b:=fun b hb=>by
    obtain ⟨i,hi,rfl⟩:=List.getElem_of_mem hb;exact hz.cV i hi
   have cC:∀ w',Ext w w'→bt Tryz.prog 80 [.slice r.ag.A r.ag.n r.ag.c,.int .i64 a,.int .i64 o] w' fun v _=>v = .bool (fc z.ag a o):=fun w' hx =>
    oX _ _ _ _ z.aV z.To a o _ (hr.free.ext hx) mO o1 (by omega) (by omega) ⟨by omega,by omega⟩ ⟨f1,f2⟩
   cases wU:fc z.ag a o
   ·rw [wU] at cC;have Gh:=r9 (f:=0) (t:=0) hz jg wU;repeat' (first|refine Wz ?_|(refine CW.bA rfl ?_)|((first|refine SW.call rfl rfl (c1 _ hw) ?_|refine SW.call rfl rfl (cF _) ?_|refine SW.call rfl rfl (cC _ hw) ?_);intro v w1 ab hv;subst hv;replace hw:=Ext.trans hw ab;replace ar:=ar.ext ab;replace ax:=ax.ext ab;clear ab))
    refine SW.call rfl rfl (lW r z _ (hr.ext hw) (by omega) ht) fun v w4 iS hv => ?_
    obtain ⟨s,rfl,hs⟩:=hv;replace hs:=hs.low hw.size;(replace hw:=Ext.trans hw iS;replace ar:=ar.ext iS;replace ax:=ax.ext iS);clear c1 cC cF;have Ih:=ax.lt;have ef:=ar.lt;refine SW.alloc rfl fun b8 w1 ab kZ bu => ?_
    skip;refine SW.ap bu rfl rfl rfl rfl (cw s) fun w2 jh hg => ?_
    have aj:=ab.own kZ hg;have jA:w.heap.size≤b8:=Nat.le_trans hw.size kZ
    replace hw:=Ext.trans hw aj;replace ar:=ar.ext aj;replace ax:=ax.ext aj;replace hs:=hs.ext aj;replace bu:=jh;clear jh ab hg aj;have CA:b6≠b8:=by omega
    have Fo:b3≠b8:=by omega
    refine Wz ?_;have es:s.ag.n=z.ag.length:=by have:=hs.free.sl.len;omega
    have hX:=hs.free;have hT:=hs.types;rw [es] at hX;have Kd:s=⟨s.aV,s.To,⟨s.ag.A,z.ag.length,s.ag.c⟩,s.Types⟩:=by rw [← es]
    rw [Kd] at bu;have sF:=hs.from_;have sT:=hs.ka;clear hs
    obtain ⟨K,hK⟩ : ∃ K:Env→World→Prop,K=fun L' w' => ∃ l a' o' A c,eE L' [(1,.int .i64 a'),(2,.int .i64 o'),(3,.pointer (some ⟨b3,0,none⟩)),(6,.pointer (some ⟨b6,0,none⟩)),(8,.pointer (some ⟨b8,0,none⟩))]∧Ext w w'∧aI w' b3 59 (bo r)∧aI w' b6 59 (bo .zero)∧aI w' b8 59 [.int .i64 s.aV,.int .i64 s.To,.slice A l.length c,.slice s.Types.A s.Types.n s.Types.c] ∧
     Own w' w.heap.size 77 3 az A l.length c l∧Own w' w.heap.size 3 1 bf s.Types.A s.Types.n s.Types.c z.Types∧vw z.aV z.To l a' o'∧iy 5 z.ag a o=(l,a',o')∧l.length≤z.ag.length:=⟨_,rfl⟩
    refine CW.wR K ?_ ?_
    ·refine CW.loop (fun u:Nat×List Block×Int×Int×Option Addr×Nat=>[(1,.int .i64 u.2.2.1),(2,.int .i64 u.2.2.2.1),(3,.pointer (some ⟨b3,0,none⟩)),(6,.pointer (some ⟨b6,0,none⟩)),(8,.pointer (some ⟨b8,0,none⟩))])
      (fun u w'=>Ext w w'∧aI w' b3 59 (bo r)∧aI w' b6 59 (bo .zero)∧aI w' b8 59 [.int .i64 s.aV,.int .i64 s.To,.slice u.2.2.2.2.1 u.2.1.length u.2.2.2.2.2,.slice s.Types.A s.Types.n s.Types.c] ∧
        Own w' w.heap.size 77 3 az u.2.2.2.2.1 u.2.1.length u.2.2.2.2.2 u.2.1∧Own w' w.heap.size 3 1 bf s.Types.A s.Types.n s.Types.c z.Types∧yC z a o u.1 u.2.1 u.2.2.1 u.2.2.2.1) (fun u=>(5-u.2.2.2.1).toNat) (5,z.ag,a,o,s.ag.A,s.ag.c)
      ⟨rfl,rfl,rfl,rfl,rfl,trivial⟩ ⟨hw,ar,ax,bu,hX,hT,⟨Gh,rfl,by simp only;omega,Nat.le_refl _⟩⟩ ?_
     clear hw ar ax bu hX hT Gh;rintro ⟨f,l,a',o',A,c⟩ w' ⟨hw,ar,ax,bu,hX,hT,hJ⟩
     simp only at bu hX hJ ⊢;obtain ⟨k1,k2,k3,k4,k5⟩:=hJ.ok.fit;have hlen:=hJ.len;have hp:=bH k1 k2;have J9:=jq k1 k2;by_cases B1:o'<4
     ·obtain ⟨m1,m2,m3⟩:=oh (by omega) k1 B1 k5;have em:a'.tmod (pw (o'+1))=a' % (pw (o'+1)):=Int.tmod_eq_emod_of_nonneg (by omega)
      have tL:beside a' o'=if a' % (pw (o'+1))=0 then a'+pw o' else a'-pw o':=by unfold beside;rw [J9]
      generalize oo:beside a' o'=mB at m1 m2 m3 tL
      have kB:l.length*24≤140737488355328:=Nat.le_trans (Nat.mul_le_mul_right 24 (by omega)) hf
      have cW:=qE A l.length c l mB o';by_cases Ii:a' % (pw (o'+1))=0
      ·rw [if_pos Ii] at tL;repeat' (first|refine Wz ?_|(refine SW.call rfl rfl (dh _ (by omega) _) ?_;intro v w1 ab hv;subst hv;replace hw:=Ext.trans hw ab;replace ar:=ar.ext ab;replace ax:=ax.ext ab;replace bu:=bu.ext ab;replace hX:=hX.ext ab;replace hT:=hT.ext ab;clear ab))
       all_goals try omega
       rw [← tL];refine SW.call rfl rfl (cW _ hX.sl kB) fun v w5 jJ hv => ?_
       obtain ⟨B,d,rfl,hY⟩:=hv;replace hY:=hY.low hw.size;(replace hw:=Ext.trans hw jJ;replace ar:=ar.ext jJ;replace ax:=ax.ext jJ;replace bu:=bu.ext jJ;replace hX:=hX.ext jJ;replace hT:=hT.ext jJ);cases dO:l.any (rb mB o')
       ·have rz:=hJ.stop (.inr (by rw [oo];exact dO));repeat' (first|refine Wz ?_|(refine CW.bG rfl ?_))
        exact ae.kz (K:=K) (by rw [hK];exact ⟨l,a',o',A,c,⟨rfl,rfl,rfl,rfl,rfl,trivial⟩,hw,ar,ax,bu,hX,hT,hJ.ok,rz,hJ.len⟩)
       ·obtain ⟨f',tK⟩:=hJ.next o1 B1 (by rw [oo];exact dO)
        rw [oo] at tK;repeat' (first|refine Wz ?_|(refine CW.bA rfl ?_))
        refine SW.bB (i:=2) bu rfl rfl rfl rfl fun w7 jh hg => ?_
        have hG:=bu.gr hg;replace hw:=hw.own jA hg;replace ax:=ax.grown hg (by simpa using CA);replace ar:=ar.grown hg (by simpa using Fo);(replace hY:=hY.ay hG rfl;replace hT:=hT.ay hG rfl);have AF:min a' mB=a':=by omega
        rw [AF] at tK;refine Wz ?_;all_goals try omega
        exact ae.again (f',da l mB o',a',o'+1,B,d) ⟨rfl,rfl,rfl,rfl,rfl,trivial⟩ (by simp only;omega) ⟨hw,ar,ax,jh,hY,hT,tK⟩
      ·rw [if_neg Ii] at tL;repeat' (first|refine Wz ?_|(refine SW.call rfl rfl (dh _ (by omega) _) ?_;intro v w1 ab hv;subst hv;replace hw:=Ext.trans hw ab;replace ar:=ar.ext ab;replace ax:=ax.ext ab;replace bu:=bu.ext ab;replace hX:=hX.ext ab;replace hT:=hT.ext ab;clear ab))
       all_goals try omega
       rw [← tL];refine SW.call rfl rfl (cW _ hX.sl kB) fun v w5 jJ hv => ?_
       obtain ⟨B,d,rfl,hY⟩:=hv;replace hY:=hY.low hw.size;(replace hw:=Ext.trans hw jJ;replace ar:=ar.ext jJ;replace ax:=ax.ext jJ;replace bu:=bu.ext jJ;replace hX:=hX.ext jJ;replace hT:=hT.ext jJ);cases dO:l.any (rb mB o')
       ·have rz:=hJ.stop (.inr (by rw [oo];exact dO));repeat' (first|refine Wz ?_|(refine CW.bG rfl ?_))
        exact ae.kz (K:=K) (by rw [hK];exact ⟨l,a',o',A,c,⟨rfl,rfl,rfl,rfl,rfl,trivial⟩,hw,ar,ax,bu,hX,hT,hJ.ok,rz,hJ.len⟩)
       ·obtain ⟨f',tK⟩:=hJ.next o1 B1 (by rw [oo];exact dO)
        rw [oo] at tK;repeat' (first|refine Wz ?_|(refine CW.bA rfl ?_))
        refine SW.bB (i:=2) bu rfl rfl rfl rfl fun w7 jh hg => ?_
        have hG:=bu.gr hg;replace hw:=hw.own jA hg;replace ax:=ax.grown hg (by simpa using CA);replace ar:=ar.grown hg (by simpa using Fo);(replace hY:=hY.ay hG rfl;replace hT:=hT.ay hG rfl);have AF:min a' mB=mB:=by omega
        rw [AF] at tK;refine Wz ?_;all_goals try omega
        exact ae.again (f',da l mB o',mB,o'+1,B,d) ⟨rfl,rfl,rfl,rfl,rfl,trivial⟩ (by simp only;omega) ⟨hw,ar,ax,jh,hY,hT,tK⟩
     ·refine Wz ?_;exact ae.kz (K:=K) (by rw [hK];exact ⟨l,a',o',A,c,⟨rfl,rfl,rfl,rfl,rfl,trivial⟩,hw,ar,ax,bu,hX,hT,hJ.ok,hJ.stop (.inl B1),hJ.len⟩)
    ·clear hw ar ax bu hX hT Gh;subst hK;rintro L' w' ⟨l,a',o',A,c,fe,hw,ar,ax,bu,hX,hT,hJ,Cz,hlen⟩
     refine ae.sub fe ?_;obtain ⟨k1,k2,k3,k4,k5⟩:=hJ.fit;obtain ⟨k,hk,di⟩:=zV hz k3 k4;have ON:=hT.sl.len;have cb:k<s.Types.n:=by omega
     have Kf:=vA hq jg wU Cz (t:=z.Types[k]) (by rw [hk];simp [List.getD_eq_getElem?_getD,List.getElem?_eq_getElem di]);rw [Kf,← Cy hJ.Ig];have hA:=hT.sl.base;refine Wz ?_;refine CW.any 14 mixed (cq (by kernel_rfl)) rfl fun w1 ab aG => ?_
     replace hw:=Ext.trans hw ab;replace ar:=ar.ext ab;replace ax:=ax.ext ab;replace bu:=bu.ext ab;replace hX:=hX.ext ab;replace hT:=hT.ext ab;clear ab;refine Wa ?_;refine SA.take 11 aG rfl (by kernel_rfl) (by kernel_rfl) rfl ?_;repeat ((show SW _ _ _ _ (⟨_,Op.indexAddr _ _ _,_,_,_,none⟩::_) _ _;refine SW.st (aZ (k) rfl rfl (by assumption) (by omega) (by omega)) rfl ?_))
     refine SW.ai ?_;refine SA.take 12 aG rfl (by kernel_rfl) (by kernel_rfl) rfl ?_;repeat ((show SW _ _ _ _ (⟨_,Op.load _ _,_,_,_,none⟩::_) _ _;refine SW.st (ak rfl (hT.sl.one cb rfl)) rfl ?_))
     refine SW.ai ?_;refine Wa ?_;refine SA.done (by kernel_rfl) ?_;refine SW.call rfl rfl (kY A l.length c l ⟨a',o',z.Types[k]⟩ _ hX.sl (Nat.le_trans (Nat.mul_le_mul_right 24 (by omega)) hf)) fun v w5 jJ hv => ?_
     obtain ⟨B,d,rfl,hY⟩:=hv;replace hY:=hY.low hw.size;(replace hw:=Ext.trans hw jJ;replace ar:=ar.ext jJ;replace ax:=ax.ext jJ;replace bu:=bu.ext jJ;replace hX:=hX.ext jJ;replace hT:=hT.ext jJ);refine Wz ?_;refine SW.bB (i:=2) bu rfl rfl rfl rfl fun w7 jh hg => ?_
     have hG:=bu.gr hg;replace hw:=hw.own jA hg;replace ax:=ax.grown hg (by simpa using CA);(replace hY:=hY.ay hG rfl;replace hT:=hT.ay hG rfl);refine Wz ?_;refine SW.ap ax rfl rfl rfl rfl (cw ⟨s.aV,s.To,⟨B,l.length+1,d⟩,s.Types⟩) fun w9 bL hg => ?_
     have hG:=ax.gr hg;replace hw:=hw.own dr hg;(replace hY:=hY.ay hG rfl;replace hT:=hT.ay hG rfl);refine Wz ?_;exact ae.fU rfl rfl rfl bL rfl ⟨_,rfl,hw,⟨s.aV,s.To,⟨B,l.length+1,d⟩,s.Types⟩,rfl,sF,sT,hY,hT⟩
   ·rw [wU] at cC;rw [Ab hq jg wU];repeat' (first|refine Wz ?_|(refine CW.bA rfl ?_)|((first|refine SW.call rfl rfl (c1 _ hw) ?_|refine SW.call rfl rfl (cF _) ?_|refine SW.call rfl rfl (cC _ hw) ?_);intro v w1 ab hv;subst hv;replace hw:=Ext.trans hw ab;replace ar:=ar.ext ab;replace ax:=ax.ext ab;clear ab))
    refine SW.ap ax rfl rfl rfl rfl (cw .zero) fun w5 bL hg => ?_
    replace hw:=hw.own dr hg;refine Wz ?_;exact ae.fU rfl rfl rfl bL rfl ⟨_,rfl,hw,.zero,rfl,fa.zero _ _⟩
  ·rw [decide_eq_false jg] at cF;rw [Aa hq jg];repeat' (first|refine Wz ?_|(first|refine CW.bG rfl ?_|refine CW.bA rfl ?_)|((first|refine SW.call rfl rfl (c1 _ hw) ?_|refine SW.call rfl rfl (cF _) ?_);intro v w1 ab hv;subst hv;replace hw:=Ext.trans hw ab;replace ar:=ar.ext ab;replace ax:=ax.ext ab;clear ab))
   refine SW.ap ax rfl rfl rfl rfl (cw .zero) fun w5 bL hg => ?_
   replace hw:=hw.own dr hg;refine Wz ?_;exact ae.fU rfl rfl rfl bL rfl ⟨_,rfl,hw,.zero,rfl,fa.zero _ _⟩
def marksOf (p:Nat→Bool) (k:Nat) : List Bool:=(List.range k).map p
theorem wV (p:Nat→Bool) (k i:Nat) (h:i<(marksOf p k).length) : (marksOf p k)[i]=p i:=by simp [marksOf]
theorem wW (p:Nat→Bool) (k i:Nat) (b:Bool) : (marksOf p k).set i b=marksOf (fun j=>if j=i then b else p j) k:=by
 apply List.ext_getElem (by simp [marksOf]);intro j h1 h2;rw [List.getElem_set];by_cases h:i=j
 ·subst h;simp [marksOf]
 ·have : ¬ j=i:=fun e=>h e.symm
  simp [marksOf,h,this]
theorem ub {p q:Nat→Bool} {k:Nat} (h:∀ i,i<k→p i=q i) : marksOf p k=marksOf q k:=by
 apply List.ext_getElem (by simp [marksOf]);intro j h1 h2;simp only [wV];exact h j (by simpa [marksOf] using h1)
def pX (b:Block) (i:Nat) : Bool:=decide (b.At≤(i:Int)) && decide ((i:Int)<b.At+pw b.Order)
def dV (bs:List Block) (i:Nat) : Bool:=bs.any fun b=>pX b i
def ly (bs:List Block) (b:Block) : Prop:=0≤b.At∧b.At+pw b.Order≤256∧fc bs b.At b.Order=false
instance (bs:List Block) (b:Block) : Decidable (ly bs b):=inferInstanceAs (Decidable (_∧_))
def jW (s:Option (List Block)) (b:Block) : Option (List Block):=match s with
 | none=>none
 | some bs=>if ly bs b then some (bs++[b]) else none
def bj (s:Option (List Block)) (l:List Block) : Option (List Block):=l.foldl jW s
theorem fp:∀ l,bj none l=none
 | []=>rfl
 | b::l=>fp l
theorem br (s:Option (List Block)) (l m:List Block) : bj s (l++m)=bj (bj s l) m:=List.foldl_append
theorem qF (s:Option (List Block)) (l:List Block) (k:Nat) (h:k<l.length) : bj s (l.take (k+1))=jW (bj s (l.take k)) l[k]:=by
 rw [List.take_succ_eq_append_getElem h,br];rfl
theorem lz {s:Option (List Block)} {b:Block} {bs:List Block} (h:jW s b=some bs) : ∃ cs,s=some cs∧ly cs b∧bs=cs++[b]:=by
 cases s with
 | none=>simp [jW] at h
 | some cs =>
   simp only [jW] at h;split at h
   ·rename_i hf;injection h with h;exact ⟨cs,rfl,hf,h.symm⟩
   ·cases h
def Fp (p:Nat→Bool) (a n:Int) : Prop:=0≤a∧a<256∧n≤256-a ∧ ∀ i:Nat,a≤(i:Int)→(i:Int)<a+n→p i=false
def uc (p:Nat→Bool) (a n:Int) (i:Nat) : Bool:=p i || (decide (a≤(i:Int)) && decide ((i:Int)<a+n))
theorem rC {bs:List Block} (hb:∀ b∈bs,0≤b.At∧1≤pw b.Order) {b:Block} (h1 : 1≤pw b.Order) : Fp (dV bs) b.At (pw b.Order)↔ly bs b:=by
 constructor
 ·rintro ⟨h2,h3,h4,h5⟩
  refine ⟨h2,by omega,?_⟩;unfold fc;rw [List.any_eq_false];intro x hx hh;simp only [Bool.and_eq_true,decide_eq_true_eq] at hh;obtain ⟨k1,k2⟩:=hh;obtain ⟨q1,q2⟩:=hb x hx;have h6:=h5 (max x.At b.At).toNat (by omega) (by omega);unfold dV at h6;rw [List.any_eq_false] at h6;apply h6 x hx;simp only [pX,Bool.and_eq_true,decide_eq_true_eq];omega
 ·rintro ⟨h2,h3,h4⟩
  refine ⟨h2,by omega,by omega,fun i k1 k2 => ?_⟩;unfold dV;rw [List.any_eq_false];intro x hx hh;simp only [pX,Bool.and_eq_true,decide_eq_true_eq] at hh;unfold fc at h4;rw [List.any_eq_false] at h4;apply h4 x hx;simp only [Bool.and_eq_true,decide_eq_true_eq];omega
theorem CB (bs:List Block) (b:Block) (i:Nat) : uc (dV bs) b.At (pw b.Order) i=dV (bs++[b]) i:=by
 simp [uc,dV,pX]
def mR (s:Option (List Block)) : Prop := ∀ bs,s=some bs → ∀ x∈bs,0≤x.At∧1≤pw x.Order
theorem uI:mR (some []):=fun bs h x hx=>by cases h;simp at hx
theorem AK {s:Option (List Block)} {b:Block} (h:mR s) (hb : 1≤pw b.Order) : mR (jW s b):=fun bs tL x hx=>by
 obtain ⟨cs,rfl,hf,rfl⟩:=lz tL;rcases List.mem_append.1 hx with hx|hx
 ·exact h cs rfl x hx
 ·simp at hx;subst hx;exact ⟨hf.1,hb⟩
theorem iz {s:Option (List Block)}:∀ {l:List Block},mR s→(∀ b∈l,1≤pw b.Order)→mR (bj s l)
 | [],h,_=>h
 | b::l,h,hb=>iz (l:=l) (AK h (hb b (by simp))) (fun x hx=>hb x (by simp [hx]))
def cX (p:Int) : Block:=⟨p,0,0⟩
def aS (l:List aA) : List Block:=l.flatMap fun x=>x.aw.map cX
theorem js:pw 0=1:=by decide
def bz (a b:aA) : Prop:=a.dU<b.dU∨(a.dU=b.dU∧(a.aq<b.aq∨(a.aq=b.aq∧a.Ty<b.Ty)))
instance (a b:aA) : Decidable (bz a b):=inferInstanceAs (Decidable (_∨_))
def mS (er:Int) (l:aA) : Prop:=(0≤l.dU∧l.dU<er)∧(0≤l.aq∧l.aq≤1)∧(0≤l.Ty∧l.Ty≤2)∧(1≤l.aw.length∧l.aw.length≤8)
instance (c:Int) (l:aA) : Decidable (mS c l):=inferInstanceAs (Decidable (_∧_))
structure kJ (er to:Int) (ls:List aA) : Prop where
 head:∀ (i:Nat) (h:i<ls.length),mS er ls[i]
 next:∀ (i:Nat) (h:i+1<ls.length),bz ls[i] ls[i+1]
 fC:∀ (i:Nat) (h:i<ls.length),∀ p∈(ls[i]).aw,(p<to↔(ls[i]).aq=0)
def sh (b:Block) : Prop:=(0≤b.Order∧b.Order≤4)∧(0≤b.At∧b.At≤255)∧b.At % pw b.Order=0∧fy b.Ty
structure mT (l:List Block) : Prop where
 each:∀ (i:Nat) (h:i<l.length),sh l[i]
 next:∀ (i:Nat) (h:i+1<l.length),l[i].At<l[i+1].At
structure bE (h:Heap) : Prop where
 cx:∃ z0 z1,h.aN=[z0,z1]∧bT z0∧bT z1∧z0.aV=0∧z0.To=z1.aV∧z1.To=256∧kJ h.bX z0.To h.av∧(bj (some []) (z0.ag++z1.ag++aS h.av++h.Live)).isSome=true
 cn:∃ m0 m1,h.bJ=[m0,m1]∧(0≤m0∧m0≤256)∧(0≤m1∧m1≤256)
 er : 1≤h.bX∧h.bX≤4
 live:mT h.Live
noncomputable def ja (h:Heap) : Bool := @decide (bE h) (Classical.propDecidable _)
theorem o8 {h:Heap} (a:bE h) : ja h=true:=by unfold ja;exact @decide_eq_true _ (Classical.propDecidable _) a
theorem dQ {h:Heap} (a : ¬ bE h) : ja h=false:=by unfold ja;exact @decide_eq_false _ (Classical.propDecidable _) a
theorem fP {h:Heap}:ja h=true↔bE h:=by
 by_cases a:bE h
 ·simp [o8 a,a]
 ·simp [dQ a,a]
theorem kK (l:List aA) (k:Nat) (h:k<l.length) : aS (l.take (k+1))=aS (l.take k)++l[k].aw.map cX:=by
 unfold aS;rw [List.take_succ_eq_append_getElem h,List.flatMap_append];simp
theorem ff {s:Option (List Block)} {l m:List Block} (h:(bj s (l++m)).isSome=true) : (bj s l).isSome=true:=by
 rw [br] at h;cases e:bj s l with
 | none=>rw [e,fp] at h;cases h
 | some x=>rfl
open Go.RowKit
section
variable {P:Program} {L:Env} {w:World} {d:Option Nat} {T:TypeId} {pos:String} {af:Array Edge} {g:Option (Nat×Bool)}
theorem mU {t e:TypeId} {len sz:Nat} [c:wK P t len e sz] {x y:Operand} {ad:Addr} {i:Int} (k:Nat) (hx:cd L x=some (.pointer (some ad))) (hy:cd L y=some (.int .i64 i)) (hi:i=(k:Int)) (hk:k<len) :
 St P ⟨d,.indexAddr t x y,T,pos,af,g⟩ L w (.pointer (some (ad.add (k*sz)))) :=
 ⟨fun _ a ha w' _=>by
  subst hi;have e1:=ha.eval hx;have e2:=ha.eval hy;generalize a.eval = ρ at *
  simp [execOp,e1,e2,Instr.indexAt,Instr.sureAddr,asIntOf,run_underlying c.ky,run_sizeOf c.size,hk]⟩
end
theorem ae.Gk {P:Program} {fn:Func} {R:Ending→World→Prop} {n:Nat} {L:Env} {w:World} (hr:fn.results = #[]) (h:R (.returned (.tuple #[])) w) : ae n (bodyPost P fn R) .ret L w :=
 ⟨fun a ha=>⟨ha.defers,_,by simpa using kD.results (rs:=[]) hr .nil ha,h⟩⟩
theorem ae.yD {P:Program} {fn:Func} {R:Ending→World→Prop} {n:Nat} {L:Env} {w:World} (hr:fn.results = #[]) (h:R (.returned (.tuple #[])) w) : ae n (bodyPost P fn R) .normal L w :=
 ⟨fun a ha=>⟨ha.defers,_,by simpa using kD.results (rs:=[]) hr .nil ha,h⟩⟩
def fg (p:Nat→Bool) (N:Nat) (bad:Bool) : List Value:=(marksOf p N).map Value.bool++[.bool bad]
theorem oq (p:Nat→Bool) (N:Nat) (bad:Bool) : (fg p N bad).length=N+1:=by simp [fg,marksOf]
theorem si (p:Nat→Bool) (N:Nat) (bad:Bool) : (fg p N bad)[N]?=some (.bool bad):=by
 unfold fg;rw [List.getElem?_append_right (by simp [marksOf])];simp [marksOf]
theorem AL (p:Nat→Bool) (N:Nat) (bad:Bool) {i:Nat} (h:i<N) : (fg p N bad)[i]?=some (.bool (p i)):=by
 unfold fg;rw [List.getElem?_append_left (by simp [marksOf];omega)];simp [marksOf,h]
theorem nZ (p:Nat→Bool) (N:Nat) (bad b:Bool) : (fg p N bad).set N (.bool b)=fg p N b:=by
 unfold fg;rw [List.set_append_right _ _ (by simp [marksOf])];simp [marksOf]
theorem yE (p:Nat→Bool) (N:Nat) (bad:Bool) {i:Nat} (h:i<N) : (fg p N bad).set i (.bool true)=fg (fun j=>if j=i then true else p j) N bad:=by
 unfold fg;rw [List.set_append_left _ _ (by simp [marksOf];omega),← wW,List.map_set]
theorem lX {p q:Nat→Bool} {N:Nat} {bad:Bool} (h:∀ i,i<N→p i=q i) : fg p N bad=fg q N bad:=by
 unfold fg;rw [ub h]
set_option maxHeartbeats 4000000 in
theorem wX (b:Nat) (p:Nat→Bool) (bad:Bool) (N:Nat) (hN:N=256) (a n:Int) (w:World) (hB:aI w b 105 (fg p N bad)) (hn : 0≤n∧n≤16) :
 il Tryz.prog 62 [.pointer (some ⟨b,0,none⟩),.int .i64 a,.int .i64 n] w fun v w' => ∃ p' AM,aI w' b 105 (fg p' N AM)∧w.grownBy w' (some b)∧((Fp p a n∧AM=bad∧p'=uc p a n)∨(¬ Fp p a n∧AM=true)):=by
 refine dC Tryz.func62 rfl Tryz.ntmps62 rfl ?_;have AG:w.grownBy w (some b):=World.grownBy.refl _ _
 have hw:=Ext.refl w;by_cases ck : 0≤a∧a<256∧n≤256-a
 ·obtain ⟨h1,h2,h3⟩:=id ck;obtain ⟨k,rfl⟩:=Int.eq_ofNat_of_zero_le h1;obtain ⟨m,rfl⟩:=Int.eq_ofNat_of_zero_le hn.1;refine Wz ?_;clear hw
  refine CW.loop (fun j:Nat=>[(0,.pointer (some ⟨b,0,none⟩)),(1,.int .i64 (k:Int)),(2,.int .i64 (m:Int)),(6,.int .i64 ((k+j:Nat) : Int))])
   (fun j w'=>j≤m∧aI w' b 105 (fg (uc p k (j:Int)) N bad)∧w.grownBy w' (some b) ∧ ∀ i:Nat,k≤i→i<k+j→p i=false) (fun j=>m-j) 0
   ⟨rfl,rfl,rfl,rfl,trivial⟩ ⟨by omega,by rwa [lX (q:=p) (fun i _=>by simp [uc]<;>omega)],AG,fun i h1 h2=>by omega⟩ ?_
  clear hB AG;rintro j w' ⟨hj,hB,hg,hI⟩
  have hw:=Ext.refl w';by_cases LW:j<m
  ·have c8:k+j<N:=by omega
   have hc:=hB.cell (AL _ N bad c8);have hv:uc p k (j:Int) (k+j)=p (k+j):=by simp [uc]
   rw [hv] at hc;have iV:w'.cell? (((⟨b,0,none⟩ : Addr).add 0).add ((k+j)*1))=some (.bool (p (k+j))):=by rw [add_add];simpa using hc
   cases hp:p (k+j)
   ·rw [hp] at iV;repeat' (first|refine Wz ?_|refine SW.st (ak rfl (iV)) rfl ?_|(refine SW.st (mU (k+j) rfl rfl rfl (by omega)) rfl ?_))
    have Kh:(⟨b,0,none⟩ : Addr).add (k+j)=((⟨b,0,none⟩ : Addr).add 0).add ((k+j)*1):=by rw [add_add];simp
    refine SW.bB (i:=k+j) hB (by rw [Kh];rfl) rfl rfl (by rw [oq];simp;omega) fun w3 qZ wY => ?_
    rw [yE _ _ _ c8,lX (q:=uc p k ((j+1:Nat) : Int)) (fun i _=>by
     by_cases e:i=k+j
     ·subst e;simp [uc];omega
     ·simp only [e,if_false,uc];congr 1
      by_cases e1:i<k+j
      ·rw [decide_eq_true (show (i:Int)<(k:Int)+(j:Int) by omega),decide_eq_true (show (i:Int)<(k:Int)+((j+1:Nat) : Int) by omega)]
      ·rw [decide_eq_false (show ¬ (i:Int)<(k:Int)+(j:Int) by omega),decide_eq_false (show ¬ (i:Int)<(k:Int)+((j+1:Nat) : Int) by omega)])] at qZ
    have wT:=bP hg wY (.inl rfl);clear hw;have hw:=Ext.refl w3;refine Wz ?_;refine ae.again (j+1) ⟨rfl,rfl,rfl,rfl,trivial⟩ (by omega) ⟨by omega,qZ,wT,fun i h1 h2 => ?_⟩;by_cases e:i=k+j
    ·subst e;exact hp
    ·exact hI i h1 (by omega)
   ·rw [hp] at iV;repeat' (first|refine Wz ?_|refine SW.st (ak rfl (iV)) rfl ?_|(refine SW.st (mU (k+j) rfl rfl rfl (by omega)) rfl ?_))
    subst hN;refine SW.bB (i:=256) hB rfl rfl rfl (by rw [oq];rfl) fun w3 qZ wY => ?_
    rw [nZ] at qZ;clear hw;have hw:=Ext.refl w3;refine Wz ?_;exact ae.Gk rfl ⟨_,rfl,_,true,qZ,bP hg wY (.inl rfl),.inr ⟨(fun h=>by have:=h.2.2.2 (k+j) (by omega) (by omega);rw [hp] at this;cases this),rfl⟩⟩
  ·obtain rfl:j=m:=by omega
   refine Wz ?_;exact ae.yD rfl ⟨_,rfl,_,bad,hB,hg,.inl ⟨⟨h1,h2,h3,fun i h4 h5=>hI i (by omega) (by omega)⟩,rfl,rfl⟩⟩
 ·have ll : ¬ Fp p a n:=fun h=>ck ⟨h.1,h.2.1,h.2.2.1⟩
  subst hN;repeat' (first|refine Wz ?_|refine SW.bZ rfl rfl rfl (fun h => ?_) (fun h => ?_))
  all_goals
   first
    | (exfalso;omega)
    | (refine SW.bB (i:=256) hB rfl rfl rfl (by rw [oq];rfl) fun w3 qZ wY => ?_
       rw [nZ] at qZ;clear hw;have hw:=Ext.refl w3;refine Wz ?_;exact ae.Gk rfl ⟨_,rfl,_,true,qZ,wY,.inr ⟨ll,rfl⟩⟩)
def gk (o t:Int) (b:Block) : Bool:=decide (b.Order=o) && decide (b.Ty=t)
theorem lA {o t:Int} {b:Block}:gk o t b=true↔b.Order=o∧b.Ty=t:=by simp [gk]
def mV (t:Int) : Int:=if t=2 then 0 else 2
def mW (t:Int) : Int:=if t=1 then 0 else 1
def o9 (o:Int) (n:Nat) : Int:=if n<5 then o+n else 4-(((n-5) / 2:Nat) : Int)
def Eu (t:Int) (n:Nat) : Int:=if n<5 then t else if (n-5) % 2=0 then mV t else mW t
def eK (l:List Block) (o t:Int) (n:Nat) : Bool:=decide (o≤o9 o n∧o9 o n≤4) && l.any (gk (o9 o n) (Eu t n))
theorem lY {o:Int} {j:Nat} (h:j<5) : o9 o j=o+j:=by unfold o9;rw [if_pos h]
theorem pa {o:Int} {j:Nat}:o9 o (5+2*j)=4-(j:Int):=by unfold o9;rw [if_neg (by omega)];omega
theorem pb {o:Int} {j:Nat}:o9 o (5+2*j+1)=4-(j:Int):=by unfold o9;rw [if_neg (by omega)];omega
theorem sk {t:Int} {j:Nat} (h:j<5) : Eu t j=t:=by unfold Eu;rw [if_pos h]
theorem sn {t:Int} {j:Nat}:Eu t (5+2*j)=mV t:=by unfold Eu;rw [if_neg (by omega),if_pos (by omega)]
theorem so {t:Int} {j:Nat}:Eu t (5+2*j+1)=mW t:=by unfold Eu;rw [if_neg (by omega),if_neg (by omega)]
theorem wZ {l:List Block} {o t:Int} {j:Nat} (h:j<5) (ho:o+j≤4) : eK l o t j=l.any (gk (o+j) t):=by
 unfold eK;rw [lY h,sk h,decide_eq_true (by omega),Bool.true_and]
theorem xa {l:List Block} {o t:Int} {j:Nat} (ho:o≤4-(j:Int)) : eK l o t (5+2*j)=l.any (gk (4-(j:Int)) (mV t)):=by
 unfold eK;rw [pa,sn,decide_eq_true (by omega),Bool.true_and]
theorem xb {l:List Block} {o t:Int} {j:Nat} (ho:o≤4-(j:Int)) : eK l o t (5+2*j+1)=l.any (gk (4-(j:Int)) (mW t)):=by
 unfold eK;rw [pb,so,decide_eq_true (by omega),Bool.true_and]
theorem sq {l:List Block} {o t:Int} {n:Nat} (h : ¬ (o≤o9 o n∧o9 o n≤4)) : eK l o t n=false:=by
 unfold eK;rw [decide_eq_false h,Bool.false_and]
inductive eg (l:List Block) (o t:Int) : Option (Nat×Bool)→Prop
 | hit {n k:Nat} (hn:n<15) (ht:eK l o t n=true) (hf:∀ m,m<n→eK l o t m=false) (hk:k<l.length) (hp:gk (o9 o n) (Eu t n) l[k]=true) (hg:∀ (j:Nat) (hj:j<l.length),j<k→gk (o9 o n) (Eu t n) l[j]=false) : eg l o t (some (k,decide (5≤n)))
 | vB (hf:∀ m,m<15→eK l o t m=false) : eg l o t none
theorem eg.jK {l:List Block} {o t:Int} {u v:Option (Nat×Bool)} (a:eg l o t u) (b:eg l o t v) : u=v:=by
 cases a with
 | @hit n k hn ht hf hk hp hg =>
   cases b with
   | @hit n' k' tM mC tX oV Ac wY =>
     rcases Nat.lt_trichotomy n n' with h|h|h
     ·rw [tX n h] at ht;cases ht
     ·subst h;rcases Nat.lt_trichotomy k k' with h|h|h
      ·rw [wY k hk h] at hp;cases hp
      ·subst h;rfl
      ·rw [hg k' oV h] at Ac;cases Ac
     ·rw [hf n' h] at mC;cases mC
   | vB tX=>rw [tX n hn] at ht;cases ht
 | vB hf =>
   cases b with
   | @hit n' k' tM mC tX oV Ac wY=>rw [hf n' tM] at mC;cases mC
   | vB=>rfl
theorem eg.ord {l:List Block} {o t:Int} {k:Nat} {s:Bool} (a:eg l o t (some (k,s))) : ∃ hk:k<l.length,o≤l[k].Order∧l[k].Order≤4:=by
 cases a with
 | hit hn ht hf hk hp hg =>
   refine ⟨hk,?_⟩;unfold eK at ht;rw [Bool.and_eq_true] at ht;have h1:=of_decide_eq_true ht.1;have h2:=(lA.1 hp).1;omega
def B3 (f to t:Int) (x:Block) : Block:=if f≤x.At∧x.At+pw x.Order≤to then ⟨x.At,x.Order,t⟩ else x
def mD (b:Block) : Int:=if b.Order=4 then b.At+16 else b.At / 8*8+8
def eJ (l:List Block) (b:Block) (t:Int) : List Block:=if b.Order<2 then l else l.map (B3 (b.At / 8*8) (mD b) t)
def jB (z:aq) (b:Block) : Nat:=((b.At-z.aV) / 8).toNat
def dD (z:aq) (b:Block) (t:Int) : List Int:=if b.Order<2 then z.Types else if b.Order=4 then (z.Types.set (jB z b) t).set (jB z b+1) t else z.Types.set (jB z b) t
theorem lZ (f to t:Int) (x:Block) : (B3 f to t x).At=x.At∧(B3 f to t x).Order=x.Order:=by
 unfold B3;split<;>exact ⟨rfl,rfl⟩
theorem yF (l:List Block) (b:Block) (t:Int) : (eJ l b t).length=l.length:=by unfold eJ;split<;>simp
theorem yG {l:List Block} {b:Block} {t:Int} (h:nO l) : nO (eJ l b t):=by
 unfold eJ;split
 ·exact h
 ·unfold nO at *;rw [List.pairwise_map];refine h.imp fun {x y} Ki => ?_
  rw [(lZ _ _ _ x).1,(lZ _ _ _ x).2,(lZ _ _ _ y).1];exact Ki
theorem yH {f u:Int} {l:List Block} {b:Block} {t:Int} (h:∀ x∈l,dG f u x) (ht:fy t) : ∀ x∈eJ l b t,dG f u x:=by
 unfold eJ;split
 ·exact h
 ·intro x hx;obtain ⟨y,hy,rfl⟩:=List.mem_map.1 hx;have hk:=h y hy;unfold dG at *;rw [(lZ _ _ _ y).1,(lZ _ _ _ y).2];refine ⟨hk.1,?_⟩;unfold B3;split
  ·exact ht
  ·exact hk.2
def jT (ty a q:Int) : Block:=⟨a+pw (q-1),q-1,ty⟩
def mX (ty a q:Int) (l:List Block) : List Block:=aU l (bF l (a+pw (q-1))) (jT ty a q)
def ji (ty a:Int) : Nat→Int→List Block→List Block
 | 0,_,l=>l
 | f+1,q,l=>ji ty a f (q-1) (mX ty a q l)
def k6 (z:aq) (t:Int) (st:Bool) (b:Block) : Int:=if st=true∧2≤b.Order then t else b.Ty
def mY (z:aq) (o t:Int) (b:Block) (k:Nat) (st:Bool) : aq :=
 ⟨z.aV,z.To,ji (k6 z t st b) b.At (b.Order-o).toNat b.Order ((if st=true then eJ z.ag b t else z.ag).eraseIdx k),if st=true then dD z b t else z.Types⟩
inductive fV (z:aq) (o t:Int) : aq×Int×Int→Prop
 | bad (h:ev z=false) : fV z o t (.zero,0,8)
 | range (h:ev z=true) (ho : ¬ (0≤o∧o≤4)) : fV z o t (.zero,0,1)
 | kind (h:ev z=true) (ho : 0≤o∧o≤4) (ht : ¬ fy t) : fV z o t (.zero,0,2)
 | room (h:ev z=true) (ho : 0≤o∧o≤4) (ht:fy t) (hp:eg z.ag o t none) : fV z o t (.zero,0,6)
 | ok {k:Nat} {st:Bool} (h:ev z=true) (ho : 0≤o∧o≤4) (ht:fy t) (hk:k<z.ag.length) (hp:eg z.ag o t (some (k,st))) : fV z o t (mY z o t z.ag[k] k st,z.ag[k].At,0)
theorem fV.jK {z:aq} {o t:Int} {u v:aq×Int×Int} (a:fV z o t u) (b:fV z o t v) : u=v:=by
 cases a with
 | bad h=>cases b with
   | bad=>rfl
   | range h'|kind h'|room h'|ok h'=>rw [h] at h';cases h'
 | range h ho=>cases b with
   | bad h'=>rw [h] at h';cases h'
   | range=>rfl
   | kind _ tU|room _ tU|ok _ tU=>exact absurd tU ho
 | kind h ho ht=>cases b with
   | bad h'=>rw [h] at h';cases h'
   | range _ tU=>exact absurd ho tU
   | kind=>rfl
   | room _ _ mC|ok _ _ mC=>exact absurd mC ht
 | room h ho ht hp=>cases b with
   | bad h'=>rw [h] at h';cases h'
   | range _ tU=>exact absurd ho tU
   | kind _ _ mC=>exact absurd ht mC
   | room=>rfl
   | ok _ _ _ _ Ac=>cases hp.jK Ac
 | ok h ho ht hk hp=>cases b with
   | bad h'=>rw [h] at h';cases h'
   | range _ tU=>exact absurd ho tU
   | kind _ _ mC=>exact absurd ht mC
   | room _ _ _ Ac=>cases hp.jK Ac
   | ok _ _ _ _ Ac=>cases hp.jK Ac;rfl
theorem gV {α:Type} {l:List α} {i:Nat} {x y : α}:y∈aU l i x↔y=x∨y∈l:=by
 have e:l=l.take i++l.drop i:=(List.take_append_drop i l).symm
 unfold aU;constructor
 ·intro h;simp only [List.mem_append,List.mem_singleton] at h;rcases h with (h|h)|h
  ·exact .inr (List.mem_of_mem_take h)
  ·exact .inl h
  ·exact .inr (List.mem_of_mem_drop h)
 ·intro h;simp only [List.mem_append,List.mem_singleton];rcases h with h|h
  ·exact .inl (.inr h)
  ·rw [e,List.mem_append] at h;rcases h with h|h
   ·exact .inl (.inl h)
   ·exact .inr h
theorem AN {f t:Int} {l:List Block} {y:Block} (hu:nO l) (hb:∀ b∈l,dG f t b) (hy : 0≤y.Order∧y.Order≤4) (hd:∀ b∈l,b.At+pw b.Order≤y.At∨y.At+pw y.Order≤b.At) : nO (aU l (bF l y.At) y):=by
 have e:l=l.take (bF l y.At)++l.drop (bF l y.At):=(List.take_append_drop _ l).symm
 have h0:=hu;unfold nO at h0;rw [e,List.pairwise_append] at h0;obtain ⟨h1,h2,h3⟩:=h0
 have hA:∀ x∈l.take (bF l y.At),x.At+pw x.Order≤y.At:=fun x hx=>by
  obtain ⟨j,hj,rfl⟩:=List.getElem_of_mem hx;simp only [List.length_take] at hj;rw [List.getElem_take];have c8:=mP (l:=l) (a:=y.At) (k:=j) (by omega);have hp:=bH hy.1 hy.2;rcases hd _ (List.getElem_mem (show j<l.length by omega)) with h|h<;>omega
 have hB:∀ x∈l.drop (bF l y.At),y.At+pw y.Order≤x.At:=fun x hx=>by
  obtain ⟨j,hj,rfl⟩:=List.getElem_of_mem hx;simp only [List.length_drop] at hj;rw [List.getElem_drop];have yj:=z5 (l:=l) (a:=y.At) (by omega)
  have hle:(l[bF l y.At]'(by omega)).At≤(l[bF l y.At+j]'(by omega)).At:=by
   rcases Nat.eq_zero_or_pos j with rfl|uJ
   ·exact Int.le_refl _
   ·have:=fB hu (show bF l y.At+j<l.length by omega) (show bF l y.At<bF l y.At+j by omega)
    have:=bH (hb _ (List.getElem_mem (show bF l y.At<l.length by omega))).1.1 (hb _ (List.getElem_mem (show bF l y.At<l.length by omega))).1.2.1
    omega
  have hm:=List.getElem_mem (show bF l y.At+j<l.length by omega);have:=bH (hb _ hm).1.1 (hb _ hm).1.2.1
  rcases hd _ hm with h|h<;>omega
 unfold aU nO;rw [List.append_assoc,List.pairwise_append];refine ⟨h1,?_,fun a ha b jR => ?_⟩
 ·rw [List.singleton_append,List.pairwise_cons];exact ⟨hB,h2⟩
 ·rw [List.singleton_append,List.mem_cons] at jR;rcases jR with rfl|jR
  ·exact hA a ha
  ·exact h3 a ha b jR
theorem sr {f t:Int} {l:List Block} {a q ty:Int} (h:vw f t l a q) (h0 : 0≤f) (ht:t≤256) (Gl:t % 16=0) (hq : 1≤q) (nz:fy ty) : vw f t (mX ty a q l) a (q-1)∧(∀ b∈l,b.At≠a+pw (q-1)):=by
 obtain ⟨f1,f2,f3,f4,f5⟩:=h.fit
 have hp:pw q=2*pw (q-1):=by
  have:=jq (o:=q-1) (by omega) (by omega)
  rwa [Int.sub_add_cancel] at this
 have hm:a % pw (q-1)=0∧(a+pw (q-1)) % pw (q-1)=0∧1≤pw (q-1)∧a+pw (q-1)<t:=by
  rcases dZ f1 f2 with ⟨e1,e2⟩|⟨e1,e2⟩|⟨e1,e2⟩|⟨e1,e2⟩|⟨e1,e2⟩
  all_goals
   rw [e2] at f5 hp
   first
    | omega
    | (have e3:pw (q-1)=1:=by omega
       rw [e3];omega)
    | (have e3:pw (q-1)=2:=by omega
       rw [e3];omega)
    | (have e3:pw (q-1)=4:=by omega
       rw [e3];omega)
    | (have e3:pw (q-1)=8:=by omega
       rw [e3];omega)
 obtain ⟨m1,m2,m3,m4⟩:=hm
 have hd:∀ b∈l,b.At+pw b.Order≤a+pw (q-1)∨a+pw (q-1)+pw (q-1)≤b.At:=fun b hb=>by
  rcases h.BZ b hb with g|g<;>omega
 have cG:∀ b∈l,b.At≠a+pw (q-1):=fun b hb e=>by
  have:=bH (h.cV b hb).1.1 (h.cV b hb).1.2.1
  rcases h.BZ b hb with g|g<;>omega
 refine ⟨⟨?_,fun b hb => ?_,⟨by omega,by omega,f3,f4,m1⟩,fun b hb => ?_⟩,cG⟩
 ·exact AN (y:=jT ty a q) h.nO h.cV ⟨by simp only [jT];omega,by simp only [jT];omega⟩ hd
 ·rcases gV.1 hb with rfl|hb
  ·exact ⟨⟨by simp only [jT];omega,by simp only [jT];omega,by simp only [jT];omega,m4,m2⟩,nz⟩
  ·exact h.cV b hb
 ·rcases gV.1 hb with rfl|hb
  ·right;simp only [jT];omega
  ·rcases h.BZ b hb with g|g<;>omega
theorem uK (ty a q:Int) (l:List Block) : (mX ty a q l).length=l.length+1:=by
 have:=zZ l (a+pw (q-1))
 unfold mX aU;simp;omega
theorem pY {f t:Int} {l:List Block} (hu:nO l) (hb:∀ b∈l,dG f t b) {k:Nat} (hk:k<l.length) : vw f t (l.eraseIdx k) l[k].At l[k].Order:=by
 have hs:∀ b∈l.eraseIdx k,b∈l:=fun b h=>List.mem_of_mem_eraseIdx h
 refine ⟨?_,fun b h=>hb b (hs b h),(hb _ (List.getElem_mem hk)).1,fun b h => ?_⟩
 ·unfold nO at *;exact hu.sublist (List.eraseIdx_sublist l k)
 ·obtain ⟨j,hj,rfl⟩:=List.getElem_of_mem h;have hlen:=List.length_eraseIdx_of_lt hk;rw [List.getElem_eraseIdx];split
  ·rename_i kx;exact .inl (fB hu hk kx)
  ·rename_i kx;exact .inr (fB hu (by omega) (by omega))
theorem xc {l:List Block} {o t:Int} {j m:Nat} (hm : 5+2*j≤m) (ho : 4-(j:Int)<o) : eK l o t m=false :=
 sq (by unfold o9;rw [if_neg (by omega)];omega)
theorem Ev {b:Block} (h2 : 2≤b.Order) (h4:b.Order≤4) (hm:b.At % pw b.Order=0) : b.At / 8*8≤b.At∧b.At+pw b.Order≤mD b:=by
 unfold mD;rcases dZ (show 0≤b.Order by omega) h4 with ⟨e1,e2⟩|⟨e1,e2⟩|⟨e1,e2⟩|⟨e1,e2⟩|⟨e1,e2⟩<;>rw [e2] at hm ⊢<;>split<;>omega
def eQ (z:aq) (b:Block) (t:Int) (st:Bool) : List Block:=if st=true then eJ z.ag b t else z.ag
theorem pd {z:aq} (hz:bT z) {b:Block} {t:Int} (ht:fy t) (st:Bool) : (eQ z b t st).length=z.ag.length∧nO (eQ z b t st) ∧ ∀ x∈eQ z b t st,dG z.aV z.To x:=by
 have hb:∀ x∈z.ag,dG z.aV z.To x:=fun x hx=>by
  obtain ⟨i,hi,rfl⟩:=List.getElem_of_mem hx;exact hz.cV i hi
 unfold eQ;split
 ·exact ⟨yF _ _ _,yG (lx hz),yH hb ht⟩
 ·exact ⟨rfl,lx hz,hb⟩
theorem pZ {z:aq} (hz:bT z) {t:Int} (ht:fy t) (st:Bool) {k:Nat} (hk:k<z.ag.length) :
 (eQ z z.ag[k] t st)[k]'(by rw [(pd hz ht st).1];exact hk)=⟨z.ag[k].At,z.ag[k].Order,k6 z t st z.ag[k]⟩:=by
 obtain ⟨f1,f2,f3,f4,f5⟩:=(hz.cV k hk).1;unfold eQ k6;cases st
 ·simp
 ·simp only [if_true,true_and];unfold eJ;by_cases h2:z.ag[k].Order<2
  ·simp only [if_pos h2,if_neg (show ¬ 2≤z.ag[k].Order by omega)]
  ·simp only [if_neg h2,if_pos (show 2≤z.ag[k].Order by omega),List.getElem_map];unfold B3;rw [if_pos (Ev (by omega) f2 f5)]
open Go.RowKit
section
variable {P:Program} {L:Env} {w:World} {d:Option Nat} {T:TypeId} {pos:String} {af:Array Edge} {g:Option (Nat×Bool)}
theorem rD {t e:TypeId} {len:Nat} [c:wK P t len e 1] [gD P e] {x y:Operand} {vs:List Value} {i:Int} {v:Value} (k:Nat) (hx:cd L x=some (.agg vs.toArray)) (hy:cd L y=some (.int .i64 i)) (hi:i=(k:Int)) (hk:k<len) (hv:vs[k]?=some v) :
 St P ⟨d,.index t x y,T,pos,af,g⟩ L w v :=
 ⟨fun _ a ha w' _=>by
  subst hi;have e1:=ha.eval hx;have e2:=ha.eval hy;generalize a.eval = ρ at *
  simp [execOp,e1,e2,Instr.index,asIntOf,run_underlying c.ky,run_sizeOf c.size,hk,part,nT,hv]⟩
end
theorem CC (o t:Int) (b4 b5:Nat) (x:Block) (w:World) (h4:aI w b4 3 [.int .i64 o]) (h5:aI w b5 3 [.int .i64 t]) :
 bt Tryz.prog 148 ([.agg (az x).toArray]++[.pointer (some ⟨b4,0,none⟩),.pointer (some ⟨b5,0,none⟩)]) w fun v _=>v = .bool (gk o t x):=by
 refine aM Tryz.func148 rfl Tryz.ntmps148 rfl ?_;refine CW.seq (CW.region (SW.box rfl rfl fun b1 w1 hw ik aB => ?_));replace h4:=h4.ext hw;replace h5:=h5.ext hw;have Kj:=h4.cell (i:=0) (v := .int .i64 o) rfl;have LX:=h5.cell (i:=0) (v := .int .i64 t) rfl;rw [add_zero] at Kj LX;by_cases h1:x.Order=o
 ·repeat' (first|refine Wz ?_|refine SW.st (ak rfl Kj) rfl ?_|refine SW.st (ak rfl LX) rfl ?_)
  exact ae.aO rfl rfl ⟨_,rfl,hw,by simp [gk,h1]⟩
 ·repeat' (first|refine Wz ?_|refine SW.st (ak rfl Kj) rfl ?_)
  exact ae.aO rfl rfl ⟨_,rfl,hw,by simp [gk,h1]⟩
theorem yI (r:ct) (l:List Block) (o t:Int) (w:World) (hl:Sl w 3 az r.ag.A r.ag.n l) (hn:r.ag.n≤9223372036854775807) :
 bt Tryz.prog 138 [.agg (bo r).toArray,.int .i64 o,.int .i64 t] w fun v _=>v = .int .i64 (idxOf (gk o t) l):=by
 refine aM Tryz.func138 rfl Tryz.ntmps138 rfl ?_;refine CW.seq (CW.region (SW.box rfl rfl fun b3 w1 hw bM ar => ?_));refine SW.Ek rfl rfl rfl fun b4 w2 cJ my bY => ?_
 (replace hw:=Ext.trans hw cJ;replace ar:=ar.ext cJ);refine SW.Ek rfl rfl rfl fun b5 w3 j2 iC cg => ?_
 (replace hw:=Ext.trans hw j2;replace ar:=ar.ext j2;replace bY:=bY.ext j2);repeat' (first|refine Wz ?_|(refine SW.st (iJ (vs:=[.pointer (some ⟨b4,0,none⟩),.pointer (some ⟨b5,0,none⟩)]) rfl) rfl ?_))
 refine SW.call rfl rfl (kb _ _ _ _ _ (hl.ext hw) _ [.pointer (some ⟨b4,0,none⟩),.pointer (some ⟨b5,0,none⟩)] (gk o t) (fun x => .agg (az x).toArray) (fun x=>rfl) (fun x hx w1 kH=>CC o t b4 b5 x w1 (bY.ext kH) (cg.ext kH)) hn) fun v w4 iS hv => ?_
 subst hv;replace hw:=Ext.trans hw iS;refine Wz ?_;exact ae.aO rfl rfl ⟨_,rfl,hw,rfl⟩
structure lB (T:TypeId) (w w':World) : Prop where
 out:∀ b cs,aI w b T cs→aI w' b T cs
theorem lB.refl (T:TypeId) (w:World) : lB T w w:=⟨fun _ _ h=>h⟩
theorem lB.ext {T:TypeId} {w w1 w2:World} (h:lB T w w1) (hx:Ext w1 w2) : lB T w w2:=⟨fun b cs hb=>(h.out b cs hb).ext hx⟩
theorem lB.ay {T t:TypeId} {w w1 w2:World} (h:lB T w w1) (hG:nY w1 w2 t) (cG:Nat.beq t T=false) : lB T w w2:=⟨fun b cs hb=>(h.out b cs hb).ay hG cG⟩
def AO (T:List Int) (i:Nat) (t:Int) (c:Nat) : List Int:=if c=0 then T else if c≤8 then T.set i t else (T.set i t).set (i+1) t
theorem AP {T:List Int} {i:Nat} {t:Int} {c:Nat} (hc:c<16) : (AO T i t c).set (i+c / 8) t=AO T i t (c+1):=by
 unfold AO;rcases (show c=0∨(1≤c∧c<8)∨c=8∨(8<c∧c<16) by omega) with rfl|h|rfl|h
 ·simp
 ·have e:c / 8=0:=by omega
  rw [if_neg (by omega),if_pos (by omega),if_neg (by omega),if_pos (by omega),e,Nat.add_zero,List.set_set]
 ·simp
 ·have e:c / 8=1:=by omega
  rw [if_neg (by omega),if_neg (by omega),if_neg (by omega),if_neg (by omega),e,List.set_set]
def jb {α:Type} (f : α → α) (l:List α) (j:Nat) : List α := (l.take j).map f++l.drop j
theorem p7 {α:Type} {f : α → α} {l:List α} {j:Nat}:(jb f l j).length=l.length:=by simp [jb];omega
theorem p9 {α:Type} {f : α → α} {l:List α} {j:Nat} (hj:j<l.length) : (jb f l j)[j]'(by rw [p7];exact hj)=l[j]:=by
 have e:(jb f l j)[j]?=l[j]?:=by
  unfold jb;rw [List.getElem?_append_right (by simp;omega)];have:j-((l.take j).map f).length=0:=by simp;omega
  rw [this,List.getElem?_drop];simp
 rw [List.getElem?_eq_getElem (by rw [p7];exact hj),List.getElem?_eq_getElem hj] at e;exact Option.some.inj e
theorem qa {α:Type} {f : α → α} {l:List α} {j:Nat} (hj:j<l.length) : (jb f l j).set j (f l[j])=jb f l (j+1):=by
 unfold jb;rw [List.set_append_right _ _ (by simp;omega)];have:j-((l.take j).map f).length=0:=by simp;omega
 rw [this,List.take_succ_eq_append_getElem hj,List.map_append,List.drop_eq_getElem_cons hj,List.set_cons_zero];simp
theorem ss {α:Type} {f : α → α} {l:List α} {j:Nat} (hj:j<l.length) (hf:f l[j]=l[j]) : jb f l (j+1)=jb f l j:=by
 rw [← qa hj,hf];have:=p9 (f:=f) hj
 rw [← this];exact List.set_getElem_self (by rw [p7];exact hj)
theorem su {α:Type} {f : α → α} {l:List α}:jb f l 0=l:=by simp [jb]
theorem uL {α:Type} {f : α → α} {l:List α}:jb f l l.length=l.map f:=by simp [jb]
theorem CD {f a o:Int} (hf:f % 16=0) (Et:f≤a) (h2 : 2≤o) (h4:o≤4) (hm:a % pw o=0) {c:Nat} (hc:(c:Int)<pw o) : (a+c-f) / 8=((((a-f) / 8).toNat+c / 8:Nat) : Int):=by
 rcases dZ (show 0≤o by omega) h4 with ⟨e1,e2⟩|⟨e1,e2⟩|⟨e1,e2⟩|⟨e1,e2⟩|⟨e1,e2⟩<;>rw [e2] at hm hc<;>omega
theorem CE {b:Block} (h2 : 2≤b.Order) (h4:b.Order≤4) (hm:b.At % pw b.Order=0) : max (b.At+pw b.Order) (b.At / 8*8+8)=mD b:=by
 unfold mD;rcases dZ (show 0≤b.Order by omega) h4 with ⟨e1,e2⟩|⟨e1,e2⟩|⟨e1,e2⟩|⟨e1,e2⟩|⟨e1,e2⟩<;>rw [e2] at hm ⊢<;>split<;>omega
structure CF (base w:World) (r:ct) (z:aq) (b:Block) (t:Int) (w':World) : Prop where
 ext:Ext base w'
 vC:lB 59 w w'
 free:Own w' base.heap.size 77 3 az r.ag.A r.ag.n r.ag.c (eJ z.ag b t)
 types:Own w' base.heap.size 3 1 bf r.Types.A r.Types.n r.Types.c (dD z b t)
set_option maxHeartbeats 2000000 in
theorem uM (r:ct) (z:aq) (k:Nat) (t:Int) (base w:World) (hB:Ext base w) (hX:Own w base.heap.size 77 3 az r.ag.A r.ag.n r.ag.c z.ag) (hT:Own w base.heap.size 3 1 bf r.Types.A r.Types.n r.Types.c z.Types)
 (eF:r.aV=z.aV) (hz:bT z) (hk:k<z.ag.length) (hn:r.ag.n≤1000000000000000000) :
 il Tryz.prog 139 [.agg (bo r).toArray,.int .i64 (k:Int),.int .i64 t] w fun _ w'=>CF base w r z z.ag[k] t w':=by
 refine dC Tryz.func139 rfl Tryz.ntmps139 rfl ?_;obtain ⟨f1,f2,f3,f4,f5⟩:=(hz.cV k hk).1;obtain ⟨o1,o2,o3,o4,o5⟩:=hz.ok;have hlen:=hz.len;have Co:=hX.len;have Hs:=hT.len;have hA:=hX.sl.base;have M8:=hT.sl.base;have cb:k<r.ag.n:=by omega
 refine CW.seq (CW.region (SW.box rfl rfl fun b3 w1 ab bM ar => ?_));have hw:=Ext.trans hB ab;have hK:lB 59 w w1:=(lB.refl _ w).ext ab
 replace hX:=hX.ext ab;replace hT:=hT.ext ab;have cr:base.heap.size≤b3:=Nat.le_trans hB.size bM
 clear ab bM;obtain ⟨x,hx⟩ : ∃ x,z.ag[k]=x:=⟨_,rfl⟩;rw [hx] at f1 f2 f3 f4 f5 ⊢;have hg:=hX.sl.all cb;simp only [hx] at hg;repeat' (first|refine Wz ?_|refine SW.st (aY rfl rfl hg) rfl ?_)
 refine SW.alloc rfl fun b6 w1 ab LY ax => ?_
 have M9:base.heap.size≤b6:=Nat.le_trans hw.size LY
 have Ih:aQ r.ag.A r.ag.c≠some b6:=fun e=>by have:=hX.lt_size _ e;omega
 replace hw:=Ext.trans hw ab;replace ar:=ar.ext ab;replace hX:=hX.ext ab;replace hT:=hT.ext ab;replace hK:=hK.ext ab;skip;refine SW.ap ax rfl rfl rfl rfl (fO.one (enc:=az) x) fun w2 gH hg => ?_
 have hG:=ax.gr hg;replace hw:=hw.own M9 hg;replace hX:=hX.grown hg (.inr Ih);(replace ar:=ar.ay hG rfl;replace hT:=hT.ay hG rfl;replace hK:=hK.ay hG rfl);replace ax:=gH;clear gH hg hG ab LY;by_cases h2:x.Order<2
 ·refine Wz ?_;exact ae.Gk rfl ⟨_,rfl,hw,hK,by rw [eJ,if_pos h2];exact hX,by rw [dD,if_pos h2];exact hT⟩
 ·refine Wz ?_;have hp:=bH f1 f2;have pJ:∀ c:Nat,(c:Int)<pw x.Order→(x.At+c-z.aV) / 8=((jB z x+c / 8:Nat) : Int):=fun c hc=>CD o4 f3 (by omega) f2 f5 hc
  have cE:∀ w',bt Tryz.prog 94 [.agg (az x).toArray] w' fun v _=>v = .int .i64 (x.At+pw x.Order):=fun w'=>lq x w' ⟨f1,f2⟩ ⟨by omega,by omega⟩
  refine CW.loop (fun c:Nat=>[(2,.int .i64 t),(3,.pointer (some ⟨b3,0,none⟩)),(6,.pointer (some ⟨b6,0,none⟩)),(7,.int .i64 (x.At+(c:Int)))])
   (fun c w'=>(c:Int)≤pw x.Order∧Ext base w'∧lB 59 w w'∧aI w' b3 59 (bo r)∧aI w' b6 77 (az x)∧Own w' base.heap.size 77 3 az r.ag.A r.ag.n r.ag.c z.ag∧Own w' base.heap.size 3 1 bf r.Types.A r.Types.n r.Types.c (AO z.Types (jB z x) t c))
   (fun c=>(pw x.Order).toNat-c) 0 ⟨rfl,rfl,rfl,congrArg (fun z=>some (Value.int .i64 z)) (by omega),trivial⟩ ⟨by omega,hw,hK,ar,ax,hX,hT⟩ ?_
  clear hw hK ar ax hX hT;rintro c w' ⟨hc,hw,hK,ar,ax,hX,hT⟩
  by_cases CG:(c:Int)<pw x.Order
  ·have Na:=pJ c CG
   have ck:jB z x+c / 8<r.Types.n:=by
    have:x.At+c<z.To:=by
     rcases dZ f1 f2 with ⟨e1,e2⟩|⟨e1,e2⟩|⟨e1,e2⟩|⟨e1,e2⟩|⟨e1,e2⟩<;>rw [e2] at f5 CG<;>omega
    omega
   have Kk:c<16:=by omega
   repeat' (first|refine Wz ?_|refine SW.st (aZ (jB z x+c / 8) rfl rfl (by assumption) (by omega) (by omega)) rfl ?_|(refine SW.call rfl rfl (cE _) ?_;intro v w1 ab hv;subst hv;replace hw:=Ext.trans hw ab;replace ar:=ar.ext ab;replace ax:=ax.ext ab;replace hX:=hX.ext ab;replace hT:=hT.ext ab;replace hK:=hK.ext ab;clear ab))
   refine SW.j8 (jB z x+c / 8) hT rfl rfl ck fun w5 Ew hg => ?_
   have hG:=hT.gr hg;replace hw:=aF hw hg (Nat.le_refl _) hT.aL;(replace ar:=ar.ay hG rfl;replace ax:=ax.ay hG rfl;replace hX:=hX.ay hG rfl;replace hK:=hK.ay hG rfl);rw [AP Kk] at Ew;refine Wz ?_;exact ae.again (c+1) ⟨rfl,rfl,rfl,congrArg (fun z=>some (Value.int .i64 z)) (by omega),trivial⟩ (by omega) ⟨by omega,hw,hK,ar,ax,hX,Ew⟩
  ·have OO:(c:Int)=pw x.Order:=by omega
   have nz:AO z.Types (jB z x) t c=dD z x t:=by
    unfold AO dD;rcases dZ f1 f2 with ⟨e1,e2⟩|⟨e1,e2⟩|⟨e1,e2⟩|⟨e1,e2⟩|⟨e1,e2⟩
    ·omega
    ·omega
    ·rw [if_neg (by omega),if_pos (by omega),if_neg (by omega),if_neg (by omega)]
    ·rw [if_neg (by omega),if_pos (by omega),if_neg (by omega),if_neg (by omega)]
    ·rw [if_neg (by omega),if_neg (by omega),if_neg (by omega),if_pos (by omega)]
   rw [nz] at hT;have Gm:=CE (b:=x) (by omega) f2 f5;repeat' (first|refine Wz ?_|(refine SW.call rfl rfl (cE _) ?_;intro v w1 ab hv;subst hv;replace hw:=Ext.trans hw ab;replace ar:=ar.ext ab;replace ax:=ax.ext ab;replace hX:=hX.ext ab;replace hT:=hT.ext ab;replace hK:=hK.ext ab;clear ab)|(refine SW.st ((F6 rfl rfl).eq (congrArg (Value.int .i64) Gm)) rfl ?_))
   clear ax cE pJ;obtain ⟨f,hf⟩ : ∃ f,B3 (x.At / 8*8) (mD x) t=f:=⟨_,rfl⟩
   refine CW.loop (fun j:Nat=>[(2,.int .i64 t),(3,.pointer (some ⟨b3,0,none⟩)),(8,.int .i64 (x.At / 8*8)),(9,.int .i64 (mD x)),(47,.slice r.ag.A r.ag.n r.ag.c),(48,.int .i64 (r.ag.n:Int)),(49,.int .i64 (j:Int))])
    (fun j w'=>j≤r.ag.n∧Ext base w'∧lB 59 w w'∧aI w' b3 59 (bo r)∧Own w' base.heap.size 77 3 az r.ag.A r.ag.n r.ag.c (jb f z.ag j)∧Own w' base.heap.size 3 1 bf r.Types.A r.Types.n r.Types.c (dD z x t))
    (fun j=>r.ag.n-j) 0 ⟨rfl,rfl,rfl,rfl,rfl,rfl,rfl,trivial⟩ ⟨by omega,hw,hK,ar,by rw [su];exact hX,hT⟩ ?_
   clear hw hK ar hX hT;rintro j w' ⟨hj,hw,hK,ar,hX,hT⟩
   by_cases jo:j<r.ag.n
   ·have kW:j<z.ag.length:=by omega
    obtain ⟨g1,g2,g3,g4,g5⟩:=(hz.cV j kW).1;obtain ⟨y,hy⟩ : ∃ y,z.ag[j]=y:=⟨_,rfl⟩;have k7:=p9 (f:=f) kW;rw [hy] at g1 g2 g3 g4 g5 k7;have gd:=hX.sl.all jo;simp only [k7] at gd;have Nb:=bH g1 g2;have cY:∀ w',bt Tryz.prog 94 [.agg (az y).toArray] w' fun v _=>v = .int .i64 (y.At+pw y.Order):=fun w'=>lq y w' ⟨g1,g2⟩ ⟨by omega,by omega⟩
    repeat' (first|refine Wz ?_|refine SW.st (aY rfl rfl gd) rfl ?_)
    refine SW.alloc rfl fun sv w1 ab hb bC => ?_
    have D6:base.heap.size≤sv:=Nat.le_trans hw.size hb
    have cG:aQ r.ag.A r.ag.c≠some sv:=fun e=>by have:=hX.lt_size _ e;omega
    replace hw:=Ext.trans hw ab;replace ar:=ar.ext ab;replace hX:=hX.ext ab;replace hT:=hT.ext ab;replace hK:=hK.ext ab;refine Wz ?_;refine SW.ap bC rfl rfl rfl rfl (fO.one (enc:=az) y) fun w2 mZ hg => ?_
    have hG:=bC.gr hg;replace hw:=hw.own D6 hg;replace hX:=hX.grown hg (.inr cG);(replace ar:=ar.ay hG rfl;replace hT:=hT.ay hG rfl;replace hK:=hK.ay hG rfl);replace bC:=mZ;clear mZ hg hG ab hb;by_cases xd:x.At / 8*8≤y.At∧y.At+pw y.Order≤mD x
    ·have Gn:f y=⟨y.At,y.Order,t⟩:=by rw [← hf];unfold B3;rw [if_pos xd]
     repeat' (first|refine Wz ?_|(refine SW.call rfl rfl (cY _) ?_;intro v w1 ab hv;subst hv;replace hw:=Ext.trans hw ab;replace ar:=ar.ext ab;replace bC:=bC.ext ab;replace hX:=hX.ext ab;replace hT:=hT.ext ab;replace hK:=hK.ext ab;clear ab))
     refine SW.ig j 2 ⟨y.At,y.Order,t⟩ hX rfl rfl rfl jo (by decide) rfl (by rw [k7];rfl) fun w5 tJ hg => ?_
     have hG:=hX.gr hg;replace hw:=aF hw hg (Nat.le_refl _) hX.aL;(replace ar:=ar.ay hG rfl;replace hT:=hT.ay hG rfl;replace hK:=hK.ay hG rfl);rw [← Gn,← hy,qa kW] at tJ;refine Wz ?_;exact ae.again (j+1) ⟨rfl,rfl,rfl,rfl,rfl,rfl,rfl,trivial⟩ (by omega) ⟨by omega,hw,hK,ar,tJ,hT⟩
    ·have Gn:f y=y:=by rw [← hf];unfold B3;rw [if_neg xd]
     have Fq:=ss (f:=f) kW (by rw [hy];exact Gn);by_cases tN:x.At / 8*8≤y.At
     all_goals
      repeat' (first|refine Wz ?_|(refine SW.call rfl rfl (cY _) ?_;intro v w1 ab hv;subst hv;replace hw:=Ext.trans hw ab;replace ar:=ar.ext ab;replace bC:=bC.ext ab;replace hX:=hX.ext ab;replace hT:=hT.ext ab;replace hK:=hK.ext ab;clear ab))
      exact ae.again (j+1) ⟨rfl,rfl,rfl,rfl,rfl,rfl,rfl,trivial⟩ (by omega) ⟨by omega,hw,hK,ar,by rw [Fq];exact hX,hT⟩
   ·obtain rfl:j=r.ag.n:=by omega
    refine Wz ?_;rw [← Co,uL,Co,← hf] at hX;exact ae.yD rfl ⟨_,rfl,hw,hK,by rw [eJ,if_neg h2];exact hX,hT⟩
end Go.Proofs.YtjimadiidbkohaaGreatDoor
