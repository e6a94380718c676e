/-
  Texts of the claim SlabAllocs, part 6: what its theorem leans on.
-/
import Derived.Test.YtjimadiidbkohaaGreatDoorPackSlabAllocs5
import Derived.Test.YtjimadiidbkohaaGreatDoorPackSlabAllocs2
import Derived.Test.YtjimadiidbkohaaGreatDoorPackSlabAllocs4
import Derived.Test.YtjimadiidbkohaaGreatDoorPackSlabAllocs3
set_option linter.unusedVariables false
set_option linter.unusedSimpArgs false
namespace Go.Proofs.YtjimadiidbkohaaGreatDoor
open Go.RowKit
theorem ve.HJ {f t:Int} {l:List Block} {a o:Int} (h:ve f t l a o) : ∀ x∈l,x.At≠a:=fun x hx e=>by
 have h1:=h.Bx x hx;have h2:=(h.cU x hx).1;have:=bG h2.1 h2.2.1
 have:=bG h.fit.1 h.fit.2.1
 omega
set_option maxHeartbeats 8000000 in
theorem r3 (r:cq) (z:aq) (a o:Int) (w:World) (hr:tN w r z) (hf:(r.ag.n+1)*24≤140737488355328) (ht:r.Types.n*8≤140737488355328) (h1 : -9223372036854775808≤r.aW∧r.aW≤9223372036854775807) (h2 : -9223372036854775808≤r.To∧r.To≤9223372036854775807) :
 bt Tryz.prog 115 [.agg (bo r).toArray,.int .i64 a,.int .i64 o] w (rq w.heap.size (iJ z a o)):=by
 refine aL Tryz.func115 rfl Tryz.ntmps115 rfl ?_;refine CW.seq (CW.region (SW.box rfl rfl fun b3 w1 hw bK ar => ?_));refine SW.alloc rfl fun b6 w2 cw eW ax => ?_
 have di:w.heap.size≤b6:=Nat.le_trans hw.size eW
 (replace hw:=Ext.trans hw cw;replace ar:=ar.ext cw);have eF:=hr.from_;have eT:=hr.jZ;have BW:=hr.free.len;have G5:=hr.types.len;obtain ⟨q,hq⟩ : ∃ q,dZ z=q:=⟨_,rfl⟩
 have c1:∀ w',Ext w w'→bt Tryz.prog 78 [.agg (bo r).toArray] w' fun v _=>v = .bool q:=fun w' h=>by
  have:=ky r z w' (hr.ext h) (by omega) (by omega) h1 h2
  rwa [hq] at this
 cases q
 ·rw [zD hq];repeat' (first|refine Wz ?_|(refine CW.bF rfl ?_)|(refine SW.call rfl rfl (c1 _ hw) ?_;intro v w1 ab hv;subst hv;replace hw:=Ext.trans hw ab;replace ar:=ar.ext ab;replace ax:=ax.ext ab;clear ab))
  refine SW.ap ax rfl rfl rfl rfl (ct .zero) fun w5 bP hg => ?_
  replace hw:=hw.own di hg;refine Wz ?_;exact ae.fH rfl rfl rfl bP rfl ⟨_,rfl,hw,.zero,rfl,eV.zero _ _⟩
 ·have hz:=dC.1 hq;obtain ⟨o1,o2,o3,o4,o5⟩:=hz.ok
  have cF:∀ w',bt Tryz.prog 111 [.agg (bo r).toArray,.int .i64 a,.int .i64 o] w' fun v _=>v = .bool (decide (eU z.aW z.To a o)):=fun w'=>by
   have:=oN r a o w' ⟨by omega,by omega⟩ ⟨by omega,by omega⟩
   rwa [eF,eT] at this
  by_cases iP:eU z.aW z.To a o
  ·rw [decide_eq_true iP] at cF;obtain ⟨f1,f2,f3,f4,f5⟩:=id iP
   have mG:∀ b∈z.ag,dB z.aW z.To b:=fun b hb=>by
    obtain ⟨i,hi,rfl⟩:=List.getElem_of_mem hb;exact hz.cU i hi
   have cC:∀ w',Ext w w'→bt Tryz.prog 80 [.slice r.ag.A r.ag.n r.ag.c,.int .i64 a,.int .i64 o] w' fun v _=>v = .bool (eX z.ag a o):=fun w' hx =>
    oQ _ _ _ _ z.aW z.To a o _ (hr.free.ext hx) mG o1 (by omega) (by omega) ⟨by omega,by omega⟩ ⟨f1,f2⟩
   cases wx:eX z.ag a o
   ·rw [wx] at cC;have FR:=rW (f:=0) (t:=0) hz iP wx;repeat' (first|refine Wz ?_|(refine CW.bA rfl ?_)|((first|refine SW.call rfl rfl (c1 _ hw) ?_|refine SW.call rfl rfl (cF _) ?_|refine SW.call rfl rfl (cC _ hw) ?_);intro v w1 ab hv;subst hv;replace hw:=Ext.trans hw ab;replace ar:=ar.ext ab;replace ax:=ax.ext ab;clear ab))
    refine SW.call rfl rfl (lL r z _ (hr.ext hw) (by omega) ht) fun v w4 iG hv => ?_
    obtain ⟨s,rfl,hs⟩:=hv;replace hs:=hs.low hw.size;(replace hw:=Ext.trans hw iG;replace ar:=ar.ext iG;replace ax:=ax.ext iG);clear c1 cC cF;have HL:=ax.lt;have eu:=ar.lt;refine SW.alloc rfl fun b8 w1 ab kR bu => ?_
    skip;refine SW.ap bu rfl rfl rfl rfl (ct s) fun w2 iQ hg => ?_
    have aj:=ab.own kR hg;have jl:w.heap.size≤b8:=Nat.le_trans hw.size kR
    replace hw:=Ext.trans hw aj;replace ar:=ar.ext aj;replace ax:=ax.ext aj;replace hs:=hs.ext aj;replace bu:=iQ;clear iQ ab hg aj;have B9:b6≠b8:=by omega
    have EY:b3≠b8:=by omega
    refine Wz ?_;have es:s.ag.n=z.ag.length:=by have:=hs.free.sl.len;omega
    have hX:=hs.free;have hT:=hs.types;rw [es] at hX;have JN:s=⟨s.aW,s.To,⟨s.ag.A,z.ag.length,s.ag.c⟩,s.Types⟩:=by rw [← es]
    rw [JN] at bu;have sF:=hs.from_;have sT:=hs.jZ;clear hs
    obtain ⟨K,hK⟩ : ∃ K:Env→World→Prop,K=fun L' w' => ∃ l a' o' A c,ev L' [(1,.int .i64 a'),(2,.int .i64 o'),(3,.pointer (some ⟨b3,0,none⟩)),(6,.pointer (some ⟨b6,0,none⟩)),(8,.pointer (some ⟨b8,0,none⟩))]∧Ext w w'∧aJ w' b3 59 (bo r)∧aJ w' b6 59 (bo .zero)∧aJ w' b8 59 [.int .i64 s.aW,.int .i64 s.To,.slice A l.length c,.slice s.Types.A s.Types.n s.Types.c] ∧
     Own w' w.heap.size 77 3 az A l.length c l∧Own w' w.heap.size 3 1 bh s.Types.A s.Types.n s.Types.c z.Types∧ve z.aW z.To l a' o'∧g7 5 z.ag a o=(l,a',o')∧l.length≤z.ag.length:=⟨_,rfl⟩
    refine CW.wq K ?_ ?_
    ·refine CW.loop (fun u:Nat×List Block×Int×Int×Option Addr×Nat=>[(1,.int .i64 u.2.2.1),(2,.int .i64 u.2.2.2.1),(3,.pointer (some ⟨b3,0,none⟩)),(6,.pointer (some ⟨b6,0,none⟩)),(8,.pointer (some ⟨b8,0,none⟩))])
      (fun u w'=>Ext w w'∧aJ w' b3 59 (bo r)∧aJ w' b6 59 (bo .zero)∧aJ w' b8 59 [.int .i64 s.aW,.int .i64 s.To,.slice u.2.2.2.2.1 u.2.1.length u.2.2.2.2.2,.slice s.Types.A s.Types.n s.Types.c] ∧
        Own w' w.heap.size 77 3 az u.2.2.2.2.1 u.2.1.length u.2.2.2.2.2 u.2.1∧Own w' w.heap.size 3 1 bh s.Types.A s.Types.n s.Types.c z.Types∧xZ z a o u.1 u.2.1 u.2.2.1 u.2.2.2.1) (fun u=>(5-u.2.2.2.1).toNat) (5,z.ag,a,o,s.ag.A,s.ag.c)
      ⟨rfl,rfl,rfl,rfl,rfl,trivial⟩ ⟨hw,ar,ax,bu,hX,hT,⟨FR,rfl,by simp only;omega,Nat.le_refl _⟩⟩ ?_
     clear hw ar ax bu hX hT FR;rintro ⟨f,l,a',o',A,c⟩ w' ⟨hw,ar,ax,bu,hX,hT,hJ⟩
     simp only at bu hX hJ ⊢;obtain ⟨k1,k2,k3,k4,k5⟩:=hJ.ok.fit;have hlen:=hJ.len;have hp:=bG k1 k2;have JJ:=ja k1 k2;by_cases Bz:o'<4
     ·obtain ⟨m1,m2,m3⟩:=n8 (by omega) k1 Bz k5;have em:a'.tmod (pw (o'+1))=a' % (pw (o'+1)):=Int.tmod_eq_emod_of_nonneg (by omega)
      have tC:beside a' o'=if a' % (pw (o'+1))=0 then a'+pw o' else a'-pw o':=by unfold beside;rw [JJ]
      generalize oc:beside a' o'=mn at m1 m2 m3 tC
      have ma:l.length*24≤140737488355328:=Nat.le_trans (Nat.mul_le_mul_right 24 (by omega)) hf
      have cW:=qu A l.length c l mn o';by_cases HM:a' % (pw (o'+1))=0
      ·rw [if_pos HM] at tC;repeat' (first|refine Wz ?_|(refine SW.call rfl rfl (dc _ (by omega) _) ?_;intro v w1 ab hv;subst hv;replace hw:=Ext.trans hw ab;replace ar:=ar.ext ab;replace ax:=ax.ext ab;replace bu:=bu.ext ab;replace hX:=hX.ext ab;replace hT:=hT.ext ab;clear ab))
       all_goals try omega
       rw [← tC];refine SW.call rfl rfl (cW _ hX.sl ma) fun v w5 jv hv => ?_
       obtain ⟨B,d,rfl,hY⟩:=hv;replace hY:=hY.low hw.size;(replace hw:=Ext.trans hw jv;replace ar:=ar.ext jv;replace ax:=ax.ext jv;replace bu:=bu.ext jv;replace hX:=hX.ext jv;replace hT:=hT.ext jv);cases dS:l.any (qU mn o')
       ·have rn:=hJ.stop (.inr (by rw [oc];exact dS));repeat' (first|refine Wz ?_|(refine CW.bF rfl ?_))
        exact ae.kq (K:=K) (by rw [hK];exact ⟨l,a',o',A,c,⟨rfl,rfl,rfl,rfl,rfl,trivial⟩,hw,ar,ax,bu,hX,hT,hJ.ok,rn,hJ.len⟩)
       ·obtain ⟨f',tB⟩:=hJ.next o1 Bz (by rw [oc];exact dS)
        rw [oc] at tB;repeat' (first|refine Wz ?_|(refine CW.bA rfl ?_))
        refine SW.bB (i:=2) bu rfl rfl rfl rfl fun w7 iQ hg => ?_
        have hG:=bu.gr hg;replace hw:=hw.own jl hg;replace ax:=ax.grown hg (by simpa using B9);replace ar:=ar.grown hg (by simpa using EY);(replace hY:=hY.ay hG rfl;replace hT:=hT.ay hG rfl);have Ad:min a' mn=a':=by omega
        rw [Ad] at tB;refine Wz ?_;all_goals try omega
        exact ae.again (f',c8 l mn o',a',o'+1,B,d) ⟨rfl,rfl,rfl,rfl,rfl,trivial⟩ (by simp only;omega) ⟨hw,ar,ax,iQ,hY,hT,tB⟩
      ·rw [if_neg HM] at tC;repeat' (first|refine Wz ?_|(refine SW.call rfl rfl (dc _ (by omega) _) ?_;intro v w1 ab hv;subst hv;replace hw:=Ext.trans hw ab;replace ar:=ar.ext ab;replace ax:=ax.ext ab;replace bu:=bu.ext ab;replace hX:=hX.ext ab;replace hT:=hT.ext ab;clear ab))
       all_goals try omega
       rw [← tC];refine SW.call rfl rfl (cW _ hX.sl ma) fun v w5 jv hv => ?_
       obtain ⟨B,d,rfl,hY⟩:=hv;replace hY:=hY.low hw.size;(replace hw:=Ext.trans hw jv;replace ar:=ar.ext jv;replace ax:=ax.ext jv;replace bu:=bu.ext jv;replace hX:=hX.ext jv;replace hT:=hT.ext jv);cases dS:l.any (qU mn o')
       ·have rn:=hJ.stop (.inr (by rw [oc];exact dS));repeat' (first|refine Wz ?_|(refine CW.bF rfl ?_))
        exact ae.kq (K:=K) (by rw [hK];exact ⟨l,a',o',A,c,⟨rfl,rfl,rfl,rfl,rfl,trivial⟩,hw,ar,ax,bu,hX,hT,hJ.ok,rn,hJ.len⟩)
       ·obtain ⟨f',tB⟩:=hJ.next o1 Bz (by rw [oc];exact dS)
        rw [oc] at tB;repeat' (first|refine Wz ?_|(refine CW.bA rfl ?_))
        refine SW.bB (i:=2) bu rfl rfl rfl rfl fun w7 iQ hg => ?_
        have hG:=bu.gr hg;replace hw:=hw.own jl hg;replace ax:=ax.grown hg (by simpa using B9);replace ar:=ar.grown hg (by simpa using EY);(replace hY:=hY.ay hG rfl;replace hT:=hT.ay hG rfl);have Ad:min a' mn=mn:=by omega
        rw [Ad] at tB;refine Wz ?_;all_goals try omega
        exact ae.again (f',c8 l mn o',mn,o'+1,B,d) ⟨rfl,rfl,rfl,rfl,rfl,trivial⟩ (by simp only;omega) ⟨hw,ar,ax,iQ,hY,hT,tB⟩
     ·refine Wz ?_;exact ae.kq (K:=K) (by rw [hK];exact ⟨l,a',o',A,c,⟨rfl,rfl,rfl,rfl,rfl,trivial⟩,hw,ar,ax,bu,hX,hT,hJ.ok,hJ.stop (.inl Bz),hJ.len⟩)
    ·clear hw ar ax bu hX hT FR;subst hK;rintro L' w' ⟨l,a',o',A,c,fq,hw,ar,ax,bu,hX,hT,hJ,B8,hlen⟩
     refine ae.sub fq ?_;obtain ⟨k1,k2,k3,k4,k5⟩:=hJ.fit;obtain ⟨k,hk,de⟩:=zu hz k3 k4;have Om:=hT.sl.len;have bY:k<s.Types.n:=by omega
     have JP:=vi hq iP wx B8 (t:=z.Types[k]) (by rw [hk];simp [List.getD_eq_getElem?_getD,List.getElem?_eq_getElem de]);rw [JP,← B7 hJ.HJ];have hA:=hT.sl.base;refine Wz ?_;refine CW.any 14 mixed (cl (by kernel_rfl)) rfl fun w1 ab aG => ?_
     replace hw:=Ext.trans hw ab;replace ar:=ar.ext ab;replace ax:=ax.ext ab;replace bu:=bu.ext ab;replace hX:=hX.ext ab;replace hT:=hT.ext ab;clear ab;refine Wa ?_;refine SA.take 11 aG rfl (by kernel_rfl) (by kernel_rfl) rfl ?_;repeat ((show SW _ _ _ _ (⟨_,Op.indexAddr _ _ _,_,_,_,none⟩::_) _ _;refine SW.st (aY (k) rfl rfl (by assumption) (by omega) (by omega)) rfl ?_))
     refine SW.ah ?_;refine SA.take 12 aG rfl (by kernel_rfl) (by kernel_rfl) rfl ?_;repeat ((show SW _ _ _ _ (⟨_,Op.load _ _,_,_,_,none⟩::_) _ _;refine SW.st (ak rfl (hT.sl.one bY rfl)) rfl ?_))
     refine SW.ah ?_;refine Wa ?_;refine SA.done (by kernel_rfl) ?_;refine SW.call rfl rfl (kQ A l.length c l ⟨a',o',z.Types[k]⟩ _ hX.sl (Nat.le_trans (Nat.mul_le_mul_right 24 (by omega)) hf)) fun v w5 jv hv => ?_
     obtain ⟨B,d,rfl,hY⟩:=hv;replace hY:=hY.low hw.size;(replace hw:=Ext.trans hw jv;replace ar:=ar.ext jv;replace ax:=ax.ext jv;replace bu:=bu.ext jv;replace hX:=hX.ext jv;replace hT:=hT.ext jv);refine Wz ?_;refine SW.bB (i:=2) bu rfl rfl rfl rfl fun w7 iQ hg => ?_
     have hG:=bu.gr hg;replace hw:=hw.own jl hg;replace ax:=ax.grown hg (by simpa using B9);(replace hY:=hY.ay hG rfl;replace hT:=hT.ay hG rfl);refine Wz ?_;refine SW.ap ax rfl rfl rfl rfl (ct ⟨s.aW,s.To,⟨B,l.length+1,d⟩,s.Types⟩) fun w9 bP hg => ?_
     have hG:=ax.gr hg;replace hw:=hw.own di hg;(replace hY:=hY.ay hG rfl;replace hT:=hT.ay hG rfl);refine Wz ?_;exact ae.fH rfl rfl rfl bP rfl ⟨_,rfl,hw,⟨s.aW,s.To,⟨B,l.length+1,d⟩,s.Types⟩,rfl,sF,sT,hY,hT⟩
   ·rw [wx] at cC;rw [zF hq iP wx];repeat' (first|refine Wz ?_|(refine CW.bA rfl ?_)|((first|refine SW.call rfl rfl (c1 _ hw) ?_|refine SW.call rfl rfl (cF _) ?_|refine SW.call rfl rfl (cC _ hw) ?_);intro v w1 ab hv;subst hv;replace hw:=Ext.trans hw ab;replace ar:=ar.ext ab;replace ax:=ax.ext ab;clear ab))
    refine SW.ap ax rfl rfl rfl rfl (ct .zero) fun w5 bP hg => ?_
    replace hw:=hw.own di hg;refine Wz ?_;exact ae.fH rfl rfl rfl bP rfl ⟨_,rfl,hw,.zero,rfl,eV.zero _ _⟩
  ·rw [decide_eq_false iP] at cF;rw [zE hq iP];repeat' (first|refine Wz ?_|(first|refine CW.bF rfl ?_|refine CW.bA rfl ?_)|((first|refine SW.call rfl rfl (c1 _ hw) ?_|refine SW.call rfl rfl (cF _) ?_);intro v w1 ab hv;subst hv;replace hw:=Ext.trans hw ab;replace ar:=ar.ext ab;replace ax:=ax.ext ab;clear ab))
   refine SW.ap ax rfl rfl rfl rfl (ct .zero) fun w5 bP hg => ?_
   replace hw:=hw.own di hg;refine Wz ?_;exact ae.fH rfl rfl rfl bP rfl ⟨_,rfl,hw,.zero,rfl,eV.zero _ _⟩
def marksOf (p:Nat→Bool) (k:Nat) : List Bool:=(List.range k).map p
theorem wz (p:Nat→Bool) (k i:Nat) (h:i<(marksOf p k).length) : (marksOf p k)[i]=p i:=by simp [marksOf]
theorem wA (p:Nat→Bool) (k i:Nat) (b:Bool) : (marksOf p k).set i b=marksOf (fun j=>if j=i then b else p j) k:=by
 apply List.ext_getElem (by simp [marksOf]);intro j h1 h2;rw [List.getElem_set];by_cases h:i=j
 ·subst h;simp [marksOf]
 ·have : ¬ j=i:=fun e=>h e.symm
  simp [marksOf,h,this]
theorem tQ {p q:Nat→Bool} {k:Nat} (h:∀ i,i<k→p i=q i) : marksOf p k=marksOf q k:=by
 apply List.ext_getElem (by simp [marksOf]);intro j h1 h2;simp only [wz];exact h j (by simpa [marksOf] using h1)
def pO (b:Block) (i:Nat) : Bool:=decide (b.At≤(i:Int)) && decide ((i:Int)<b.At+pw b.Order)
def dM (bs:List Block) (i:Nat) : Bool:=bs.any fun b=>pO b i
def lf (bs:List Block) (b:Block) : Prop:=0≤b.At∧b.At+pw b.Order≤256∧eX bs b.At b.Order=false
instance (bs:List Block) (b:Block) : Decidable (lf bs b):=inferInstanceAs (Decidable (_∧_))
def jJ (s:Option (List Block)) (b:Block) : Option (List Block):=match s with
 | none=>none
 | some bs=>if lf bs b then some (bs++[b]) else none
def bi (s:Option (List Block)) (l:List Block) : Option (List Block):=l.foldl jJ s
theorem fc:∀ l,bi none l=none
 | []=>rfl
 | b::l=>fc l
theorem br (s:Option (List Block)) (l m:List Block) : bi s (l++m)=bi (bi s l) m:=List.foldl_append
theorem qv (s:Option (List Block)) (l:List Block) (k:Nat) (h:k<l.length) : bi s (l.take (k+1))=jJ (bi s (l.take k)) l[k]:=by
 rw [List.take_succ_eq_append_getElem h,br];rfl
theorem lg {s:Option (List Block)} {b:Block} {bs:List Block} (h:jJ s b=some bs) : ∃ cs,s=some cs∧lf cs b∧bs=cs++[b]:=by
 cases s with
 | none=>simp [jJ] at h
 | some cs =>
   simp only [jJ] at h;split at h
   ·rename_i hf;injection h with h;exact ⟨cs,rfl,hf,h.symm⟩
   ·cases h
def FV (p:Nat→Bool) (a n:Int) : Prop:=0≤a∧a<256∧n≤256-a ∧ ∀ i:Nat,a≤(i:Int)→(i:Int)<a+n→p i=false
def tR (p:Nat→Bool) (a n:Int) (i:Nat) : Bool:=p i || (decide (a≤(i:Int)) && decide ((i:Int)<a+n))
theorem rr {bs:List Block} (hb:∀ b∈bs,0≤b.At∧1≤pw b.Order) {b:Block} (h1 : 1≤pw b.Order) : FV (dM bs) b.At (pw b.Order)↔lf bs b:=by
 constructor
 ·rintro ⟨h2,h3,h4,h5⟩
  refine ⟨h2,by omega,?_⟩;unfold eX;rw [List.any_eq_false];intro x hx hh;simp only [Bool.and_eq_true,decide_eq_true_eq] at hh;obtain ⟨k1,k2⟩:=hh;obtain ⟨q1,q2⟩:=hb x hx;have h6:=h5 (max x.At b.At).toNat (by omega) (by omega);unfold dM at h6;rw [List.any_eq_false] at h6;apply h6 x hx;simp only [pO,Bool.and_eq_true,decide_eq_true_eq];omega
 ·rintro ⟨h2,h3,h4⟩
  refine ⟨h2,by omega,by omega,fun i k1 k2 => ?_⟩;unfold dM;rw [List.any_eq_false];intro x hx hh;simp only [pO,Bool.and_eq_true,decide_eq_true_eq] at hh;unfold eX at h4;rw [List.any_eq_false] at h4;apply h4 x hx;simp only [Bool.and_eq_true,decide_eq_true_eq];omega
theorem Ca (bs:List Block) (b:Block) (i:Nat) : tR (dM bs) b.At (pw b.Order) i=dM (bs++[b]) i:=by
 simp [tR,dM,pO]
def mJ (s:Option (List Block)) : Prop := ∀ bs,s=some bs → ∀ x∈bs,0≤x.At∧1≤pw x.Order
theorem uu:mJ (some []):=fun bs h x hx=>by cases h;simp at hx
theorem Ai {s:Option (List Block)} {b:Block} (h:mJ s) (hb : 1≤pw b.Order) : mJ (jJ s b):=fun bs tC x hx=>by
 obtain ⟨cs,rfl,hf,rfl⟩:=lg tC;rcases List.mem_append.1 hx with hx|hx
 ·exact h cs rfl x hx
 ·simp at hx;subst hx;exact ⟨hf.1,hb⟩
theorem g9 {s:Option (List Block)}:∀ {l:List Block},mJ s→(∀ b∈l,1≤pw b.Order)→mJ (bi s l)
 | [],h,_=>h
 | b::l,h,hb=>g9 (l:=l) (Ai h (hb b (by simp))) (fun x hx=>hb x (by simp [hx]))
def cX (p:Int) : Block:=⟨p,0,0⟩
def aS (l:List aB) : List Block:=l.flatMap fun x=>x.aw.map cX
theorem jK:pw 0=1:=by decide
def bz (a b:aB) : Prop:=a.dL<b.dL∨(a.dL=b.dL∧(a.aq<b.aq∨(a.aq=b.aq∧a.Ty<b.Ty)))
instance (a b:aB) : Decidable (bz a b):=inferInstanceAs (Decidable (_∨_))
def mK (dU:Int) (l:aB) : Prop:=(0≤l.dL∧l.dL<dU)∧(0≤l.aq∧l.aq≤1)∧(0≤l.Ty∧l.Ty≤2)∧(1≤l.aw.length∧l.aw.length≤8)
instance (c:Int) (l:aB) : Decidable (mK c l):=inferInstanceAs (Decidable (_∧_))
structure kB (dU to:Int) (ls:List aB) : Prop where
 head:∀ (i:Nat) (h:i<ls.length),mK dU ls[i]
 next:∀ (i:Nat) (h:i+1<ls.length),bz ls[i] ls[i+1]
 fp:∀ (i:Nat) (h:i<ls.length),∀ p∈(ls[i]).aw,(p<to↔(ls[i]).aq=0)
def r4 (b:Block) : Prop:=(0≤b.Order∧b.Order≤4)∧(0≤b.At∧b.At≤255)∧b.At % pw b.Order=0∧fi b.Ty
structure mL (l:List Block) : Prop where
 each:∀ (i:Nat) (h:i<l.length),r4 l[i]
 next:∀ (i:Nat) (h:i+1<l.length),l[i].At<l[i+1].At
structure bD (h:Heap) : Prop where
 cK:∃ z0 z1,h.aQ=[z0,z1]∧bR z0∧bR z1∧z0.aW=0∧z0.To=z1.aW∧z1.To=256∧kB h.bW z0.To h.av∧(bi (some []) (z0.ag++z1.ag++aS h.av++h.Live)).isSome=true
 cj:∃ m0 m1,h.bH=[m0,m1]∧(0≤m0∧m0≤256)∧(0≤m1∧m1≤256)
 dU : 1≤h.bW∧h.bW≤4
 live:mL h.Live
noncomputable def iK (h:Heap) : Bool := @decide (bD h) (Classical.propDecidable _)
theorem oU {h:Heap} (a:bD h) : iK h=true:=by unfold iK;exact @decide_eq_true _ (Classical.propDecidable _) a
theorem dI {h:Heap} (a : ¬ bD h) : iK h=false:=by unfold iK;exact @decide_eq_false _ (Classical.propDecidable _) a
theorem ia {h:Heap}:iK h=true↔bD h:=by
 by_cases a:bD h
 ·simp [oU a,a]
 ·simp [dI a,a]
theorem kC (l:List aB) (k:Nat) (h:k<l.length) : aS (l.take (k+1))=aS (l.take k)++l[k].aw.map cX:=by
 unfold aS;rw [List.take_succ_eq_append_getElem h,List.flatMap_append];simp
theorem eY {s:Option (List Block)} {l m:List Block} (h:(bi s (l++m)).isSome=true) : (bi s l).isSome=true:=by
 rw [br] at h;cases e:bi s l with
 | none=>rw [e,fc] at h;cases h
 | some x=>rfl
open Go.RowKit
section
variable {P:Program} {L:Env} {w:World} {d:Option Nat} {T:TypeId} {pos:String} {af:Array Edge} {g:Option (Nat×Bool)}
theorem mM {t e:TypeId} {len sz:Nat} [c:wg P t len e sz] {x y:Operand} {ad:Addr} {i:Int} (k:Nat) (hx:ca L x=some (.pointer (some ad))) (hy:ca L y=some (.int .i64 i)) (hi:i=(k:Int)) (hk:k<len) :
 St P ⟨d,.indexAddr t x y,T,pos,af,g⟩ L w (.pointer (some (ad.add (k*sz)))) :=
 ⟨fun _ a ha w' _=>by
  subst hi;have e1:=ha.eval hx;have e2:=ha.eval hy;generalize a.eval = ρ at *
  simp [execOp,e1,e2,Instr.indexAt,Instr.sureAddr,asIntOf,run_underlying c.ko,run_sizeOf c.size,hk]⟩
end
theorem ae.FW {P:Program} {fn:Func} {R:Ending→World→Prop} {n:Nat} {L:Env} {w:World} (hr:fn.results = #[]) (h:R (.returned (.tuple #[])) w) : ae n (bodyPost P fn R) .ret L w :=
 ⟨fun a ha=>⟨ha.defers,_,by simpa using kv.results (rs:=[]) hr .nil ha,h⟩⟩
theorem ae.x8 {P:Program} {fn:Func} {R:Ending→World→Prop} {n:Nat} {L:Env} {w:World} (hr:fn.results = #[]) (h:R (.returned (.tuple #[])) w) : ae n (bodyPost P fn R) .normal L w :=
 ⟨fun a ha=>⟨ha.defers,_,by simpa using kv.results (rs:=[]) hr .nil ha,h⟩⟩
def e8 (p:Nat→Bool) (N:Nat) (bad:Bool) : List Value:=(marksOf p N).map Value.bool++[.bool bad]
theorem od (p:Nat→Bool) (N:Nat) (bad:Bool) : (e8 p N bad).length=N+1:=by simp [e8,marksOf]
theorem r5 (p:Nat→Bool) (N:Nat) (bad:Bool) : (e8 p N bad)[N]?=some (.bool bad):=by
 unfold e8;rw [List.getElem?_append_right (by simp [marksOf])];simp [marksOf]
theorem Aj (p:Nat→Bool) (N:Nat) (bad:Bool) {i:Nat} (h:i<N) : (e8 p N bad)[i]?=some (.bool (p i)):=by
 unfold e8;rw [List.getElem?_append_left (by simp [marksOf];omega)];simp [marksOf,h]
theorem nR (p:Nat→Bool) (N:Nat) (bad b:Bool) : (e8 p N bad).set N (.bool b)=e8 p N b:=by
 unfold e8;rw [List.set_append_right _ _ (by simp [marksOf])];simp [marksOf]
theorem x9 (p:Nat→Bool) (N:Nat) (bad:Bool) {i:Nat} (h:i<N) : (e8 p N bad).set i (.bool true)=e8 (fun j=>if j=i then true else p j) N bad:=by
 unfold e8;rw [List.set_append_left _ _ (by simp [marksOf];omega),← wA,List.map_set]
theorem lM {p q:Nat→Bool} {N:Nat} {bad:Bool} (h:∀ i,i<N→p i=q i) : e8 p N bad=e8 q N bad:=by
 unfold e8;rw [tQ h]
set_option maxHeartbeats 4000000 in
theorem wB (b:Nat) (p:Nat→Bool) (bad:Bool) (N:Nat) (hN:N=256) (a n:Int) (w:World) (hB:aJ w b 105 (e8 p N bad)) (hn : 0≤n∧n≤16) :
 gL Tryz.prog 62 [.pointer (some ⟨b,0,none⟩),.int .i64 a,.int .i64 n] w fun v w' => ∃ p' Ak,aJ w' b 105 (e8 p' N Ak)∧w.grownBy w' (some b)∧((FV p a n∧Ak=bad∧p'=tR p a n)∨(¬ FV p a n∧Ak=true)):=by
 refine dw Tryz.func62 rfl Tryz.ntmps62 rfl ?_;have Ae:w.grownBy w (some b):=World.grownBy.refl _ _
 have hw:=Ext.refl w;by_cases cf : 0≤a∧a<256∧n≤256-a
 ·obtain ⟨h1,h2,h3⟩:=id cf;obtain ⟨k,rfl⟩:=Int.eq_ofNat_of_zero_le h1;obtain ⟨m,rfl⟩:=Int.eq_ofNat_of_zero_le hn.1;refine Wz ?_;clear hw
  refine CW.loop (fun j:Nat=>[(0,.pointer (some ⟨b,0,none⟩)),(1,.int .i64 (k:Int)),(2,.int .i64 (m:Int)),(6,.int .i64 ((k+j:Nat) : Int))])
   (fun j w'=>j≤m∧aJ w' b 105 (e8 (tR p k (j:Int)) N bad)∧w.grownBy w' (some b) ∧ ∀ i:Nat,k≤i→i<k+j→p i=false) (fun j=>m-j) 0
   ⟨rfl,rfl,rfl,rfl,trivial⟩ ⟨by omega,by rwa [lM (q:=p) (fun i _=>by simp [tR]<;>omega)],Ae,fun i h1 h2=>by omega⟩ ?_
  clear hB Ae;rintro j w' ⟨hj,hB,hg,hI⟩
  have hw:=Ext.refl w';by_cases On:j<m
  ·have c9:k+j<N:=by omega
   have hc:=hB.cell (Aj _ N bad c9);have hv:tR p k (j:Int) (k+j)=p (k+j):=by simp [tR]
   rw [hv] at hc;have j4:w'.cell? (((⟨b,0,none⟩ : Addr).add 0).add ((k+j)*1))=some (.bool (p (k+j))):=by rw [add_add];simpa using hc
   cases hp:p (k+j)
   ·rw [hp] at j4;repeat' (first|refine Wz ?_|refine SW.st (ak rfl (j4)) rfl ?_|(refine SW.st (mM (k+j) rfl rfl rfl (by omega)) rfl ?_))
    have JR:(⟨b,0,none⟩ : Addr).add (k+j)=((⟨b,0,none⟩ : Addr).add 0).add ((k+j)*1):=by rw [add_add];simp
    refine SW.bB (i:=k+j) hB (by rw [JR];rfl) rfl rfl (by rw [od];simp;omega) fun w3 qR wC => ?_
    rw [x9 _ _ _ c9,lM (q:=tR p k ((j+1:Nat) : Int)) (fun i _=>by
     by_cases e:i=k+j
     ·subst e;simp [tR];omega
     ·simp only [e,if_false,tR];congr 1
      by_cases e1:i<k+j
      ·rw [decide_eq_true (show (i:Int)<(k:Int)+(j:Int) by omega),decide_eq_true (show (i:Int)<(k:Int)+((j+1:Nat) : Int) by omega)]
      ·rw [decide_eq_false (show ¬ (i:Int)<(k:Int)+(j:Int) by omega),decide_eq_false (show ¬ (i:Int)<(k:Int)+((j+1:Nat) : Int) by omega)])] at qR
    have wv:=bO hg wC (.inl rfl);clear hw;have hw:=Ext.refl w3;refine Wz ?_;refine ae.again (j+1) ⟨rfl,rfl,rfl,rfl,trivial⟩ (by omega) ⟨by omega,qR,wv,fun i h1 h2 => ?_⟩;by_cases e:i=k+j
    ·subst e;exact hp
    ·exact hI i h1 (by omega)
   ·rw [hp] at j4;repeat' (first|refine Wz ?_|refine SW.st (ak rfl (j4)) rfl ?_|(refine SW.st (mM (k+j) rfl rfl rfl (by omega)) rfl ?_))
    subst hN;refine SW.bB (i:=256) hB rfl rfl rfl (by rw [od];rfl) fun w3 qR wC => ?_
    rw [nR] at qR;clear hw;have hw:=Ext.refl w3;refine Wz ?_;exact ae.FW rfl ⟨_,rfl,_,true,qR,bO hg wC (.inl rfl),.inr ⟨(fun h=>by have:=h.2.2.2 (k+j) (by omega) (by omega);rw [hp] at this;cases this),rfl⟩⟩
  ·obtain rfl:j=m:=by omega
   refine Wz ?_;exact ae.x8 rfl ⟨_,rfl,_,bad,hB,hg,.inl ⟨⟨h1,h2,h3,fun i h4 h5=>hI i (by omega) (by omega)⟩,rfl,rfl⟩⟩
 ·have k6 : ¬ FV p a n:=fun h=>cf ⟨h.1,h.2.1,h.2.2.1⟩
  subst hN;repeat' (first|refine Wz ?_|refine SW.cb rfl rfl rfl (fun h => ?_) (fun h => ?_))
  all_goals
   first
    | (exfalso;omega)
    | (refine SW.bB (i:=256) hB rfl rfl rfl (by rw [od];rfl) fun w3 qR wC => ?_
       rw [nR] at qR;clear hw;have hw:=Ext.refl w3;refine Wz ?_;exact ae.FW rfl ⟨_,rfl,_,true,qR,wC,.inr ⟨k6,rfl⟩⟩)
def fV (o t:Int) (b:Block) : Bool:=decide (b.Order=o) && decide (b.Ty=t)
theorem lh {o t:Int} {b:Block}:fV o t b=true↔b.Order=o∧b.Ty=t:=by simp [fV]
def mN (t:Int) : Int:=if t=2 then 0 else 2
def mO (t:Int) : Int:=if t=1 then 0 else 1
def oV (o:Int) (n:Nat) : Int:=if n<5 then o+n else 4-(((n-5) / 2:Nat) : Int)
def D4 (t:Int) (n:Nat) : Int:=if n<5 then t else if (n-5) % 2=0 then mN t else mO t
def eB (l:List Block) (o t:Int) (n:Nat) : Bool:=decide (o≤oV o n∧oV o n≤4) && l.any (fV (oV o n) (D4 t n))
theorem lN {o:Int} {j:Nat} (h:j<5) : oV o j=o+j:=by unfold oV;rw [if_pos h]
theorem oW {o:Int} {j:Nat}:oV o (5+2*j)=4-(j:Int):=by unfold oV;rw [if_neg (by omega)];omega
theorem oX {o:Int} {j:Nat}:oV o (5+2*j+1)=4-(j:Int):=by unfold oV;rw [if_neg (by omega)];omega
theorem r6 {t:Int} {j:Nat} (h:j<5) : D4 t j=t:=by unfold D4;rw [if_pos h]
theorem r7 {t:Int} {j:Nat}:D4 t (5+2*j)=mN t:=by unfold D4;rw [if_neg (by omega),if_pos (by omega)]
theorem r8 {t:Int} {j:Nat}:D4 t (5+2*j+1)=mO t:=by unfold D4;rw [if_neg (by omega),if_neg (by omega)]
theorem wD {l:List Block} {o t:Int} {j:Nat} (h:j<5) (ho:o+j≤4) : eB l o t j=l.any (fV (o+j) t):=by
 unfold eB;rw [lN h,r6 h,decide_eq_true (by omega),Bool.true_and]
theorem wF {l:List Block} {o t:Int} {j:Nat} (ho:o≤4-(j:Int)) : eB l o t (5+2*j)=l.any (fV (4-(j:Int)) (mN t)):=by
 unfold eB;rw [oW,r7,decide_eq_true (by omega),Bool.true_and]
theorem wG {l:List Block} {o t:Int} {j:Nat} (ho:o≤4-(j:Int)) : eB l o t (5+2*j+1)=l.any (fV (4-(j:Int)) (mO t)):=by
 unfold eB;rw [oX,r8,decide_eq_true (by omega),Bool.true_and]
theorem r9 {l:List Block} {o t:Int} {n:Nat} (h : ¬ (o≤oV o n∧oV o n≤4)) : eB l o t n=false:=by
 unfold eB;rw [decide_eq_false h,Bool.false_and]
inductive dT (l:List Block) (o t:Int) : Option (Nat×Bool)→Prop
 | hit {n k:Nat} (hn:n<15) (ht:eB l o t n=true) (hf:∀ m,m<n→eB l o t m=false) (hk:k<l.length) (hp:fV (oV o n) (D4 t n) l[k]=true) (hg:∀ (j:Nat) (hj:j<l.length),j<k→fV (oV o n) (D4 t n) l[j]=false) : dT l o t (some (k,decide (5≤n)))
 | vj (hf:∀ m,m<15→eB l o t m=false) : dT l o t none
theorem dT.km {l:List Block} {o t:Int} {u v:Option (Nat×Bool)} (a:dT l o t u) (b:dT l o t v) : u=v:=by
 cases a with
 | @hit n k hn ht hf hk hp hg =>
   cases b with
   | @hit n' k' tD mo tL oO zG wC =>
     rcases Nat.lt_trichotomy n n' with h|h|h
     ·rw [tL n h] at ht;cases ht
     ·subst h;rcases Nat.lt_trichotomy k k' with h|h|h
      ·rw [wC k hk h] at hp;cases hp
      ·subst h;rfl
      ·rw [hg k' oO h] at zG;cases zG
     ·rw [hf n' h] at mo;cases mo
   | vj tL=>rw [tL n hn] at ht;cases ht
 | vj hf =>
   cases b with
   | @hit n' k' tD mo tL oO zG wC=>rw [hf n' tD] at mo;cases mo
   | vj=>rfl
theorem dT.ord {l:List Block} {o t:Int} {k:Nat} {s:Bool} (a:dT l o t (some (k,s))) : ∃ hk:k<l.length,o≤l[k].Order∧l[k].Order≤4:=by
 cases a with
 | hit hn ht hf hk hp hg =>
   refine ⟨hk,?_⟩;unfold eB at ht;rw [Bool.and_eq_true] at ht;have h1:=of_decide_eq_true ht.1;have h2:=(lh.1 hp).1;omega
def BA (f to t:Int) (x:Block) : Block:=if f≤x.At∧x.At+pw x.Order≤to then ⟨x.At,x.Order,t⟩ else x
def mq (b:Block) : Int:=if b.Order=4 then b.At+16 else b.At / 8*8+8
def eA (l:List Block) (b:Block) (t:Int) : List Block:=if b.Order<2 then l else l.map (BA (b.At / 8*8) (mq b) t)
def jm (z:aq) (b:Block) : Nat:=((b.At-z.aW) / 8).toNat
def dz (z:aq) (b:Block) (t:Int) : List Int:=if b.Order<2 then z.Types else if b.Order=4 then (z.Types.set (jm z b) t).set (jm z b+1) t else z.Types.set (jm z b) t
theorem lO (f to t:Int) (x:Block) : (BA f to t x).At=x.At∧(BA f to t x).Order=x.Order:=by
 unfold BA;split<;>exact ⟨rfl,rfl⟩
theorem ya (l:List Block) (b:Block) (t:Int) : (eA l b t).length=l.length:=by unfold eA;split<;>simp
theorem yb {l:List Block} {b:Block} {t:Int} (h:nD l) : nD (eA l b t):=by
 unfold eA;split
 ·exact h
 ·unfold nD at *;rw [List.pairwise_map];refine h.imp fun {x y} JS => ?_
  rw [(lO _ _ _ x).1,(lO _ _ _ x).2,(lO _ _ _ y).1];exact JS
theorem yd {f u:Int} {l:List Block} {b:Block} {t:Int} (h:∀ x∈l,dB f u x) (ht:fi t) : ∀ x∈eA l b t,dB f u x:=by
 unfold eA;split
 ·exact h
 ·intro x hx;obtain ⟨y,hy,rfl⟩:=List.mem_map.1 hx;have hk:=h y hy;unfold dB at *;rw [(lO _ _ _ y).1,(lO _ _ _ y).2];refine ⟨hk.1,?_⟩;unfold BA;split
  ·exact ht
  ·exact hk.2
def jG (ty a q:Int) : Block:=⟨a+pw (q-1),q-1,ty⟩
def mP (ty a q:Int) (l:List Block) : List Block:=aV l (bE l (a+pw (q-1))) (jG ty a q)
def iR (ty a:Int) : Nat→Int→List Block→List Block
 | 0,_,l=>l
 | f+1,q,l=>iR ty a f (q-1) (mP ty a q l)
def kS (z:aq) (t:Int) (st:Bool) (b:Block) : Int:=if st=true∧2≤b.Order then t else b.Ty
def mQ (z:aq) (o t:Int) (b:Block) (k:Nat) (st:Bool) : aq :=
 ⟨z.aW,z.To,iR (kS z t st b) b.At (b.Order-o).toNat b.Order ((if st=true then eA z.ag b t else z.ag).eraseIdx k),if st=true then dz z b t else z.Types⟩
inductive gl (z:aq) (o t:Int) : aq×Int×Int→Prop
 | bad (h:dZ z=false) : gl z o t (.zero,0,8)
 | range (h:dZ z=true) (ho : ¬ (0≤o∧o≤4)) : gl z o t (.zero,0,1)
 | kind (h:dZ z=true) (ho : 0≤o∧o≤4) (ht : ¬ fi t) : gl z o t (.zero,0,2)
 | room (h:dZ z=true) (ho : 0≤o∧o≤4) (ht:fi t) (hp:dT z.ag o t none) : gl z o t (.zero,0,6)
 | ok {k:Nat} {st:Bool} (h:dZ z=true) (ho : 0≤o∧o≤4) (ht:fi t) (hk:k<z.ag.length) (hp:dT z.ag o t (some (k,st))) : gl z o t (mQ z o t z.ag[k] k st,z.ag[k].At,0)
theorem gl.km {z:aq} {o t:Int} {u v:aq×Int×Int} (a:gl z o t u) (b:gl z o t v) : u=v:=by
 cases a with
 | bad h=>cases b with
   | bad=>rfl
   | range h'|kind h'|room h'|ok h'=>rw [h] at h';cases h'
 | range h ho=>cases b with
   | bad h'=>rw [h] at h';cases h'
   | range=>rfl
   | kind _ tI|room _ tI|ok _ tI=>exact absurd tI ho
 | kind h ho ht=>cases b with
   | bad h'=>rw [h] at h';cases h'
   | range _ tI=>exact absurd ho tI
   | kind=>rfl
   | room _ _ mo|ok _ _ mo=>exact absurd mo ht
 | room h ho ht hp=>cases b with
   | bad h'=>rw [h] at h';cases h'
   | range _ tI=>exact absurd ho tI
   | kind _ _ mo=>exact absurd ht mo
   | room=>rfl
   | ok _ _ _ _ zG=>cases hp.km zG
 | ok h ho ht hk hp=>cases b with
   | bad h'=>rw [h] at h';cases h'
   | range _ tI=>exact absurd ho tI
   | kind _ _ mo=>exact absurd ht mo
   | room _ _ _ zG=>cases hp.km zG
   | ok _ _ _ _ zG=>cases hp.km zG;rfl
theorem nS {α:Type} {l:List α} {i:Nat} {x y : α}:y∈aV l i x↔y=x∨y∈l:=by
 have e:l=l.take i++l.drop i:=(List.take_append_drop i l).symm
 unfold aV;constructor
 ·intro h;simp only [List.mem_append,List.mem_singleton] at h;rcases h with (h|h)|h
  ·exact .inr (List.mem_of_mem_take h)
  ·exact .inl h
  ·exact .inr (List.mem_of_mem_drop h)
 ·intro h;simp only [List.mem_append,List.mem_singleton];rcases h with h|h
  ·exact .inl (.inr h)
  ·rw [e,List.mem_append] at h;rcases h with h|h
   ·exact .inl (.inl h)
   ·exact .inr h
theorem Al {f t:Int} {l:List Block} {y:Block} (hu:nD l) (hb:∀ b∈l,dB f t b) (hy : 0≤y.Order∧y.Order≤4) (hd:∀ b∈l,b.At+pw b.Order≤y.At∨y.At+pw y.Order≤b.At) : nD (aV l (bE l y.At) y):=by
 have e:l=l.take (bE l y.At)++l.drop (bE l y.At):=(List.take_append_drop _ l).symm
 have h0:=hu;unfold nD at h0;rw [e,List.pairwise_append] at h0;obtain ⟨h1,h2,h3⟩:=h0
 have hA:∀ x∈l.take (bE l y.At),x.At+pw x.Order≤y.At:=fun x hx=>by
  obtain ⟨j,hj,rfl⟩:=List.getElem_of_mem hx;simp only [List.length_take] at hj;rw [List.getElem_take];have c9:=mH (l:=l) (a:=y.At) (k:=j) (by omega);have hp:=bG hy.1 hy.2;rcases hd _ (List.getElem_mem (show j<l.length by omega)) with h|h<;>omega
 have hB:∀ x∈l.drop (bE l y.At),y.At+pw y.Order≤x.At:=fun x hx=>by
  obtain ⟨j,hj,rfl⟩:=List.getElem_of_mem hx;simp only [List.length_drop] at hj;rw [List.getElem_drop];have xK:=zz (l:=l) (a:=y.At) (by omega)
  have hle:(l[bE l y.At]'(by omega)).At≤(l[bE l y.At+j]'(by omega)).At:=by
   rcases Nat.eq_zero_or_pos j with rfl|vk
   ·exact Int.le_refl _
   ·have:=fk hu (show bE l y.At+j<l.length by omega) (show bE l y.At<bE l y.At+j by omega)
    have:=bG (hb _ (List.getElem_mem (show bE l y.At<l.length by omega))).1.1 (hb _ (List.getElem_mem (show bE l y.At<l.length by omega))).1.2.1
    omega
  have hm:=List.getElem_mem (show bE l y.At+j<l.length by omega);have:=bG (hb _ hm).1.1 (hb _ hm).1.2.1
  rcases hd _ hm with h|h<;>omega
 unfold aV nD;rw [List.append_assoc,List.pairwise_append];refine ⟨h1,?_,fun a ha b jE => ?_⟩
 ·rw [List.singleton_append,List.pairwise_cons];exact ⟨hB,h2⟩
 ·rw [List.singleton_append,List.mem_cons] at jE;rcases jE with rfl|jE
  ·exact hA a ha
  ·exact h3 a ha b jE
theorem sb {f t:Int} {l:List Block} {a q ty:Int} (h:ve f t l a q) (h0 : 0≤f) (ht:t≤256) (FX:t % 16=0) (hq : 1≤q) (nn:fi ty) : ve f t (mP ty a q l) a (q-1)∧(∀ b∈l,b.At≠a+pw (q-1)):=by
 obtain ⟨f1,f2,f3,f4,f5⟩:=h.fit
 have hp:pw q=2*pw (q-1):=by
  have:=ja (o:=q-1) (by omega) (by omega)
  rwa [Int.sub_add_cancel] at this
 have hm:a % pw (q-1)=0∧(a+pw (q-1)) % pw (q-1)=0∧1≤pw (q-1)∧a+pw (q-1)<t:=by
  rcases eg f1 f2 with ⟨e1,e2⟩|⟨e1,e2⟩|⟨e1,e2⟩|⟨e1,e2⟩|⟨e1,e2⟩
  all_goals
   rw [e2] at f5 hp
   first
    | omega
    | (have e3:pw (q-1)=1:=by omega
       rw [e3];omega)
    | (have e3:pw (q-1)=2:=by omega
       rw [e3];omega)
    | (have e3:pw (q-1)=4:=by omega
       rw [e3];omega)
    | (have e3:pw (q-1)=8:=by omega
       rw [e3];omega)
 obtain ⟨m1,m2,m3,m4⟩:=hm
 have hd:∀ b∈l,b.At+pw b.Order≤a+pw (q-1)∨a+pw (q-1)+pw (q-1)≤b.At:=fun b hb=>by
  rcases h.Bx b hb with g|g<;>omega
 have cG:∀ b∈l,b.At≠a+pw (q-1):=fun b hb e=>by
  have:=bG (h.cU b hb).1.1 (h.cU b hb).1.2.1
  rcases h.Bx b hb with g|g<;>omega
 refine ⟨⟨?_,fun b hb => ?_,⟨by omega,by omega,f3,f4,m1⟩,fun b hb => ?_⟩,cG⟩
 ·exact Al (y:=jG ty a q) h.nD h.cU ⟨by simp only [jG];omega,by simp only [jG];omega⟩ hd
 ·rcases nS.1 hb with rfl|hb
  ·exact ⟨⟨by simp only [jG];omega,by simp only [jG];omega,by simp only [jG];omega,m4,m2⟩,nn⟩
  ·exact h.cU b hb
 ·rcases nS.1 hb with rfl|hb
  ·right;simp only [jG];omega
  ·rcases h.Bx b hb with g|g<;>omega
theorem uv (ty a q:Int) (l:List Block) : (mP ty a q l).length=l.length+1:=by
 have:=zy l (a+pw (q-1))
 unfold mP aV;simp;omega
theorem pP {f t:Int} {l:List Block} (hu:nD l) (hb:∀ b∈l,dB f t b) {k:Nat} (hk:k<l.length) : ve f t (l.eraseIdx k) l[k].At l[k].Order:=by
 have hs:∀ b∈l.eraseIdx k,b∈l:=fun b h=>List.mem_of_mem_eraseIdx h
 refine ⟨?_,fun b h=>hb b (hs b h),(hb _ (List.getElem_mem hk)).1,fun b h => ?_⟩
 ·unfold nD at *;exact hu.sublist (List.eraseIdx_sublist l k)
 ·obtain ⟨j,hj,rfl⟩:=List.getElem_of_mem h;have hlen:=List.length_eraseIdx_of_lt hk;rw [List.getElem_eraseIdx];split
  ·rename_i k7;exact .inl (fk hu hk k7)
  ·rename_i k7;exact .inr (fk hu (by omega) (by omega))
theorem wH {l:List Block} {o t:Int} {j m:Nat} (hm : 5+2*j≤m) (ho : 4-(j:Int)<o) : eB l o t m=false :=
 r9 (by unfold oV;rw [if_neg (by omega)];omega)
theorem D5 {b:Block} (h2 : 2≤b.Order) (h4:b.Order≤4) (hm:b.At % pw b.Order=0) : b.At / 8*8≤b.At∧b.At+pw b.Order≤mq b:=by
 unfold mq;rcases eg (show 0≤b.Order by omega) h4 with ⟨e1,e2⟩|⟨e1,e2⟩|⟨e1,e2⟩|⟨e1,e2⟩|⟨e1,e2⟩<;>rw [e2] at hm ⊢<;>split<;>omega
def eD (z:aq) (b:Block) (t:Int) (st:Bool) : List Block:=if st=true then eA z.ag b t else z.ag
theorem oY {z:aq} (hz:bR z) {b:Block} {t:Int} (ht:fi t) (st:Bool) : (eD z b t st).length=z.ag.length∧nD (eD z b t st) ∧ ∀ x∈eD z b t st,dB z.aW z.To x:=by
 have hb:∀ x∈z.ag,dB z.aW z.To x:=fun x hx=>by
  obtain ⟨i,hi,rfl⟩:=List.getElem_of_mem hx;exact hz.cU i hi
 unfold eD;split
 ·exact ⟨ya _ _ _,yb (ld hz),yd hb ht⟩
 ·exact ⟨rfl,ld hz,hb⟩
theorem pQ {z:aq} (hz:bR z) {t:Int} (ht:fi t) (st:Bool) {k:Nat} (hk:k<z.ag.length) :
 (eD z z.ag[k] t st)[k]'(by rw [(oY hz ht st).1];exact hk)=⟨z.ag[k].At,z.ag[k].Order,kS z t st z.ag[k]⟩:=by
 obtain ⟨f1,f2,f3,f4,f5⟩:=(hz.cU k hk).1;unfold eD kS;cases st
 ·simp
 ·simp only [if_true,true_and];unfold eA;by_cases h2:z.ag[k].Order<2
  ·simp only [if_pos h2,if_neg (show ¬ 2≤z.ag[k].Order by omega)]
  ·simp only [if_neg h2,if_pos (show 2≤z.ag[k].Order by omega),List.getElem_map];unfold BA;rw [if_pos (D5 (by omega) f2 f5)]
open Go.RowKit
section
variable {P:Program} {L:Env} {w:World} {d:Option Nat} {T:TypeId} {pos:String} {af:Array Edge} {g:Option (Nat×Bool)}
theorem ru {t e:TypeId} {len:Nat} [c:wg P t len e 1] [gk P e] {x y:Operand} {vs:List Value} {i:Int} {v:Value} (k:Nat) (hx:ca L x=some (.agg vs.toArray)) (hy:ca L y=some (.int .i64 i)) (hi:i=(k:Int)) (hk:k<len) (hv:vs[k]?=some v) :
 St P ⟨d,.index t x y,T,pos,af,g⟩ L w v :=
 ⟨fun _ a ha w' _=>by
  subst hi;have e1:=ha.eval hx;have e2:=ha.eval hy;generalize a.eval = ρ at *
  simp [execOp,e1,e2,Instr.index,asIntOf,run_underlying c.ko,run_sizeOf c.size,hk,part,nM,hv]⟩
end
theorem Cb (o t:Int) (b4 b5:Nat) (x:Block) (w:World) (h4:aJ w b4 3 [.int .i64 o]) (h5:aJ w b5 3 [.int .i64 t]) :
 bt Tryz.prog 148 ([.agg (az x).toArray]++[.pointer (some ⟨b4,0,none⟩),.pointer (some ⟨b5,0,none⟩)]) w fun v _=>v = .bool (fV o t x):=by
 refine aL Tryz.func148 rfl Tryz.ntmps148 rfl ?_;refine CW.seq (CW.region (SW.box rfl rfl fun b1 w1 hw gK aA => ?_));replace h4:=h4.ext hw;replace h5:=h5.ext hw;have JT:=h4.cell (i:=0) (v := .int .i64 o) rfl;have Lt:=h5.cell (i:=0) (v := .int .i64 t) rfl;rw [add_zero] at JT Lt;by_cases h1:x.Order=o
 ·repeat' (first|refine Wz ?_|refine SW.st (ak rfl JT) rfl ?_|refine SW.st (ak rfl Lt) rfl ?_)
  exact ae.aN rfl rfl ⟨_,rfl,hw,by simp [fV,h1]⟩
 ·repeat' (first|refine Wz ?_|refine SW.st (ak rfl JT) rfl ?_)
  exact ae.aN rfl rfl ⟨_,rfl,hw,by simp [fV,h1]⟩
theorem ye (r:cq) (l:List Block) (o t:Int) (w:World) (hl:Sl w 3 az r.ag.A r.ag.n l) (hn:r.ag.n≤9223372036854775807) :
 bt Tryz.prog 138 [.agg (bo r).toArray,.int .i64 o,.int .i64 t] w fun v _=>v = .int .i64 (idxOf (fV o t) l):=by
 refine aL Tryz.func138 rfl Tryz.ntmps138 rfl ?_;refine CW.seq (CW.region (SW.box rfl rfl fun b3 w1 hw bK ar => ?_));refine SW.DS rfl rfl rfl fun b4 w2 cw ml bX => ?_
 (replace hw:=Ext.trans hw cw;replace ar:=ar.ext cw);refine SW.DS rfl rfl rfl fun b5 w3 jQ ig cd => ?_
 (replace hw:=Ext.trans hw jQ;replace ar:=ar.ext jQ;replace bX:=bX.ext jQ);repeat' (first|refine Wz ?_|(refine SW.st (iv (vs:=[.pointer (some ⟨b4,0,none⟩),.pointer (some ⟨b5,0,none⟩)]) rfl) rfl ?_))
 refine SW.call rfl rfl (j0 _ _ _ _ _ (hl.ext hw) _ [.pointer (some ⟨b4,0,none⟩),.pointer (some ⟨b5,0,none⟩)] (fV o t) (fun x => .agg (az x).toArray) (fun x=>rfl) (fun x hx w1 kz=>Cb o t b4 b5 x w1 (bX.ext kz) (cd.ext kz)) hn) fun v w4 iG hv => ?_
 subst hv;replace hw:=Ext.trans hw iG;refine Wz ?_;exact ae.aN rfl rfl ⟨_,rfl,hw,rfl⟩
structure lj (T:TypeId) (w w':World) : Prop where
 out:∀ b cs,aJ w b T cs→aJ w' b T cs
theorem lj.refl (T:TypeId) (w:World) : lj T w w:=⟨fun _ _ h=>h⟩
theorem lj.ext {T:TypeId} {w w1 w2:World} (h:lj T w w1) (hx:Ext w1 w2) : lj T w w2:=⟨fun b cs hb=>(h.out b cs hb).ext hx⟩
theorem lj.ay {T t:TypeId} {w w1 w2:World} (h:lj T w w1) (hG:n9 w1 w2 t) (cG:Nat.beq t T=false) : lj T w w2:=⟨fun b cs hb=>(h.out b cs hb).ay hG cG⟩
def Am (T:List Int) (i:Nat) (t:Int) (c:Nat) : List Int:=if c=0 then T else if c≤8 then T.set i t else (T.set i t).set (i+1) t
theorem An {T:List Int} {i:Nat} {t:Int} {c:Nat} (hc:c<16) : (Am T i t c).set (i+c / 8) t=Am T i t (c+1):=by
 unfold Am;rcases (show c=0∨(1≤c∧c<8)∨c=8∨(8<c∧c<16) by omega) with rfl|h|rfl|h
 ·simp
 ·have e:c / 8=0:=by omega
  rw [if_neg (by omega),if_pos (by omega),if_neg (by omega),if_pos (by omega),e,Nat.add_zero,List.set_set]
 ·simp
 ·have e:c / 8=1:=by omega
  rw [if_neg (by omega),if_neg (by omega),if_neg (by omega),if_neg (by omega),e,List.set_set]
def iL {α:Type} (f : α → α) (l:List α) (j:Nat) : List α := (l.take j).map f++l.drop j
theorem pR {α:Type} {f : α → α} {l:List α} {j:Nat}:(iL f l j).length=l.length:=by simp [iL];omega
theorem pS {α:Type} {f : α → α} {l:List α} {j:Nat} (hj:j<l.length) : (iL f l j)[j]'(by rw [pR];exact hj)=l[j]:=by
 have e:(iL f l j)[j]?=l[j]?:=by
  unfold iL;rw [List.getElem?_append_right (by simp;omega)];have:j-((l.take j).map f).length=0:=by simp;omega
  rw [this,List.getElem?_drop];simp
 rw [List.getElem?_eq_getElem (by rw [pR];exact hj),List.getElem?_eq_getElem hj] at e;exact Option.some.inj e
theorem pT {α:Type} {f : α → α} {l:List α} {j:Nat} (hj:j<l.length) : (iL f l j).set j (f l[j])=iL f l (j+1):=by
 unfold iL;rw [List.set_append_right _ _ (by simp;omega)];have:j-((l.take j).map f).length=0:=by simp;omega
 rw [this,List.take_succ_eq_append_getElem hj,List.map_append,List.drop_eq_getElem_cons hj,List.set_cons_zero];simp
theorem sc {α:Type} {f : α → α} {l:List α} {j:Nat} (hj:j<l.length) (hf:f l[j]=l[j]) : iL f l (j+1)=iL f l j:=by
 rw [← pT hj,hf];have:=pS (f:=f) hj
 rw [← this];exact List.set_getElem_self (by rw [pR];exact hj)
theorem sd {α:Type} {f : α → α} {l:List α}:iL f l 0=l:=by simp [iL]
theorem uw {α:Type} {f : α → α} {l:List α}:iL f l l.length=l.map f:=by simp [iL]
theorem Cc {f a o:Int} (hf:f % 16=0) (D0:f≤a) (h2 : 2≤o) (h4:o≤4) (hm:a % pw o=0) {c:Nat} (hc:(c:Int)<pw o) : (a+c-f) / 8=((((a-f) / 8).toNat+c / 8:Nat) : Int):=by
 rcases eg (show 0≤o by omega) h4 with ⟨e1,e2⟩|⟨e1,e2⟩|⟨e1,e2⟩|⟨e1,e2⟩|⟨e1,e2⟩<;>rw [e2] at hm hc<;>omega
theorem Cd {b:Block} (h2 : 2≤b.Order) (h4:b.Order≤4) (hm:b.At % pw b.Order=0) : max (b.At+pw b.Order) (b.At / 8*8+8)=mq b:=by
 unfold mq;rcases eg (show 0≤b.Order by omega) h4 with ⟨e1,e2⟩|⟨e1,e2⟩|⟨e1,e2⟩|⟨e1,e2⟩|⟨e1,e2⟩<;>rw [e2] at hm ⊢<;>split<;>omega
structure Ce (base w:World) (r:cq) (z:aq) (b:Block) (t:Int) (w':World) : Prop where
 ext:Ext base w'
 yf:lj 59 w w'
 free:Own w' base.heap.size 77 3 az r.ag.A r.ag.n r.ag.c (eA z.ag b t)
 types:Own w' base.heap.size 3 1 bh r.Types.A r.Types.n r.Types.c (dz z b t)
set_option maxHeartbeats 2000000 in
theorem ux (r:cq) (z:aq) (k:Nat) (t:Int) (base w:World) (hB:Ext base w) (hX:Own w base.heap.size 77 3 az r.ag.A r.ag.n r.ag.c z.ag) (hT:Own w base.heap.size 3 1 bh r.Types.A r.Types.n r.Types.c z.Types)
 (eF:r.aW=z.aW) (hz:bR z) (hk:k<z.ag.length) (hn:r.ag.n≤1000000000000000000) :
 gL Tryz.prog 139 [.agg (bo r).toArray,.int .i64 (k:Int),.int .i64 t] w fun _ w'=>Ce base w r z z.ag[k] t w':=by
 refine dw Tryz.func139 rfl Tryz.ntmps139 rfl ?_;obtain ⟨f1,f2,f3,f4,f5⟩:=(hz.cU k hk).1;obtain ⟨o1,o2,o3,o4,o5⟩:=hz.ok;have hlen:=hz.len;have BW:=hX.len;have G5:=hT.len;have hA:=hX.sl.base;have MF:=hT.sl.base;have bY:k<r.ag.n:=by omega
 refine CW.seq (CW.region (SW.box rfl rfl fun b3 w1 ab bK ar => ?_));have hw:=Ext.trans hB ab;have hK:lj 59 w w1:=(lj.refl _ w).ext ab
 replace hX:=hX.ext ab;replace hT:=hT.ext ab;have cn:base.heap.size≤b3:=Nat.le_trans hB.size bK
 clear ab bK;obtain ⟨x,hx⟩ : ∃ x,z.ag[k]=x:=⟨_,rfl⟩;rw [hx] at f1 f2 f3 f4 f5 ⊢;have hg:=hX.sl.all bY;simp only [hx] at hg;repeat' (first|refine Wz ?_|refine SW.st (aX rfl rfl hg) rfl ?_)
 refine SW.alloc rfl fun b6 w1 ab Lu ax => ?_
 have MG:base.heap.size≤b6:=Nat.le_trans hw.size Lu
 have HL:aT r.ag.A r.ag.c≠some b6:=fun e=>by have:=hX.lt_size _ e;omega
 replace hw:=Ext.trans hw ab;replace ar:=ar.ext ab;replace hX:=hX.ext ab;replace hT:=hT.ext ab;replace hK:=hK.ext ab;skip;refine SW.ap ax rfl rfl rfl rfl (fB.one (enc:=az) x) fun w2 gp hg => ?_
 have hG:=ax.gr hg;replace hw:=hw.own MG hg;replace hX:=hX.grown hg (.inr HL);(replace ar:=ar.ay hG rfl;replace hT:=hT.ay hG rfl;replace hK:=hK.ay hG rfl);replace ax:=gp;clear gp hg hG ab Lu;by_cases h2:x.Order<2
 ·refine Wz ?_;exact ae.FW rfl ⟨_,rfl,hw,hK,by rw [eA,if_pos h2];exact hX,by rw [dz,if_pos h2];exact hT⟩
 ·refine Wz ?_;have hp:=bG f1 f2;have pA:∀ c:Nat,(c:Int)<pw x.Order→(x.At+c-z.aW) / 8=((jm z x+c / 8:Nat) : Int):=fun c hc=>Cc o4 f3 (by omega) f2 f5 hc
  have cE:∀ w',bt Tryz.prog 94 [.agg (az x).toArray] w' fun v _=>v = .int .i64 (x.At+pw x.Order):=fun w'=>la x w' ⟨f1,f2⟩ ⟨by omega,by omega⟩
  refine CW.loop (fun c:Nat=>[(2,.int .i64 t),(3,.pointer (some ⟨b3,0,none⟩)),(6,.pointer (some ⟨b6,0,none⟩)),(7,.int .i64 (x.At+(c:Int)))])
   (fun c w'=>(c:Int)≤pw x.Order∧Ext base w'∧lj 59 w w'∧aJ w' b3 59 (bo r)∧aJ w' b6 77 (az x)∧Own w' base.heap.size 77 3 az r.ag.A r.ag.n r.ag.c z.ag∧Own w' base.heap.size 3 1 bh r.Types.A r.Types.n r.Types.c (Am z.Types (jm z x) t c))
   (fun c=>(pw x.Order).toNat-c) 0 ⟨rfl,rfl,rfl,congrArg (fun z=>some (Value.int .i64 z)) (by omega),trivial⟩ ⟨by omega,hw,hK,ar,ax,hX,hT⟩ ?_
  clear hw hK ar ax hX hT;rintro c w' ⟨hc,hw,hK,ar,ax,hX,hT⟩
  by_cases Cf:(c:Int)<pw x.Order
  ·have MH:=pA c Cf
   have cf:jm z x+c / 8<r.Types.n:=by
    have:x.At+c<z.To:=by
     rcases eg f1 f2 with ⟨e1,e2⟩|⟨e1,e2⟩|⟨e1,e2⟩|⟨e1,e2⟩|⟨e1,e2⟩<;>rw [e2] at f5 Cf<;>omega
    omega
   have JU:c<16:=by omega
   repeat' (first|refine Wz ?_|refine SW.st (aY (jm z x+c / 8) rfl rfl (by assumption) (by omega) (by omega)) rfl ?_|(refine SW.call rfl rfl (cE _) ?_;intro v w1 ab hv;subst hv;replace hw:=Ext.trans hw ab;replace ar:=ar.ext ab;replace ax:=ax.ext ab;replace hX:=hX.ext ab;replace hT:=hT.ext ab;replace hK:=hK.ext ab;clear ab))
   refine SW.jX (jm z x+c / 8) hT rfl rfl cf fun w5 D6 hg => ?_
   have hG:=hT.gr hg;replace hw:=aE hw hg (Nat.le_refl _) hT.aM;(replace ar:=ar.ay hG rfl;replace ax:=ax.ay hG rfl;replace hX:=hX.ay hG rfl;replace hK:=hK.ay hG rfl);rw [An JU] at D6;refine Wz ?_;exact ae.again (c+1) ⟨rfl,rfl,rfl,congrArg (fun z=>some (Value.int .i64 z)) (by omega),trivial⟩ (by omega) ⟨by omega,hw,hK,ar,ax,hX,D6⟩
  ·have Oo:(c:Int)=pw x.Order:=by omega
   have nn:Am z.Types (jm z x) t c=dz z x t:=by
    unfold Am dz;rcases eg f1 f2 with ⟨e1,e2⟩|⟨e1,e2⟩|⟨e1,e2⟩|⟨e1,e2⟩|⟨e1,e2⟩
    ·omega
    ·omega
    ·rw [if_neg (by omega),if_pos (by omega),if_neg (by omega),if_neg (by omega)]
    ·rw [if_neg (by omega),if_pos (by omega),if_neg (by omega),if_neg (by omega)]
    ·rw [if_neg (by omega),if_neg (by omega),if_neg (by omega),if_pos (by omega)]
   rw [nn] at hT;have FY:=Cd (b:=x) (by omega) f2 f5;repeat' (first|refine Wz ?_|(refine SW.call rfl rfl (cE _) ?_;intro v w1 ab hv;subst hv;replace hw:=Ext.trans hw ab;replace ar:=ar.ext ab;replace ax:=ax.ext ab;replace hX:=hX.ext ab;replace hT:=hT.ext ab;replace hK:=hK.ext ab;clear ab)|(refine SW.st ((FH rfl rfl).eq (congrArg (Value.int .i64) FY)) rfl ?_))
   clear ax cE pA;obtain ⟨f,hf⟩ : ∃ f,BA (x.At / 8*8) (mq x) t=f:=⟨_,rfl⟩
   refine CW.loop (fun j:Nat=>[(2,.int .i64 t),(3,.pointer (some ⟨b3,0,none⟩)),(8,.int .i64 (x.At / 8*8)),(9,.int .i64 (mq x)),(47,.slice r.ag.A r.ag.n r.ag.c),(48,.int .i64 (r.ag.n:Int)),(49,.int .i64 (j:Int))])
    (fun j w'=>j≤r.ag.n∧Ext base w'∧lj 59 w w'∧aJ w' b3 59 (bo r)∧Own w' base.heap.size 77 3 az r.ag.A r.ag.n r.ag.c (iL f z.ag j)∧Own w' base.heap.size 3 1 bh r.Types.A r.Types.n r.Types.c (dz z x t))
    (fun j=>r.ag.n-j) 0 ⟨rfl,rfl,rfl,rfl,rfl,rfl,rfl,trivial⟩ ⟨by omega,hw,hK,ar,by rw [sd];exact hX,hT⟩ ?_
   clear hw hK ar hX hT;rintro j w' ⟨hj,hw,hK,ar,hX,hT⟩
   by_cases iZ:j<r.ag.n
   ·have kO:j<z.ag.length:=by omega
    obtain ⟨g1,g2,g3,g4,g5⟩:=(hz.cU j kO).1;obtain ⟨y,hy⟩ : ∃ y,z.ag[j]=y:=⟨_,rfl⟩;have kT:=pS (f:=f) kO;rw [hy] at g1 g2 g3 g4 g5 kT;have fO:=hX.sl.all iZ;simp only [kT] at fO;have MI:=bG g1 g2;have cY:∀ w',bt Tryz.prog 94 [.agg (az y).toArray] w' fun v _=>v = .int .i64 (y.At+pw y.Order):=fun w'=>la y w' ⟨g1,g2⟩ ⟨by omega,by omega⟩
    repeat' (first|refine Wz ?_|refine SW.st (aX rfl rfl fO) rfl ?_)
    refine SW.alloc rfl fun se w1 ab hb bC => ?_
    have DA:base.heap.size≤se:=Nat.le_trans hw.size hb
    have cG:aT r.ag.A r.ag.c≠some se:=fun e=>by have:=hX.lt_size _ e;omega
    replace hw:=Ext.trans hw ab;replace ar:=ar.ext ab;replace hX:=hX.ext ab;replace hT:=hT.ext ab;replace hK:=hK.ext ab;refine Wz ?_;refine SW.ap bC rfl rfl rfl rfl (fB.one (enc:=az) y) fun w2 mR hg => ?_
    have hG:=bC.gr hg;replace hw:=hw.own DA hg;replace hX:=hX.grown hg (.inr cG);(replace ar:=ar.ay hG rfl;replace hT:=hT.ay hG rfl;replace hK:=hK.ay hG rfl);replace bC:=mR;clear mR hg hG ab hb;by_cases wI:x.At / 8*8≤y.At∧y.At+pw y.Order≤mq x
    ·have FZ:f y=⟨y.At,y.Order,t⟩:=by rw [← hf];unfold BA;rw [if_pos wI]
     repeat' (first|refine Wz ?_|(refine SW.call rfl rfl (cY _) ?_;intro v w1 ab hv;subst hv;replace hw:=Ext.trans hw ab;replace ar:=ar.ext ab;replace bC:=bC.ext ab;replace hX:=hX.ext ab;replace hT:=hT.ext ab;replace hK:=hK.ext ab;clear ab))
     refine SW.gH j 2 ⟨y.At,y.Order,t⟩ hX rfl rfl rfl iZ (by decide) rfl (by rw [kT];rfl) fun w5 tA hg => ?_
     have hG:=hX.gr hg;replace hw:=aE hw hg (Nat.le_refl _) hX.aM;(replace ar:=ar.ay hG rfl;replace hT:=hT.ay hG rfl;replace hK:=hK.ay hG rfl);rw [← FZ,← hy,pT kO] at tA;refine Wz ?_;exact ae.again (j+1) ⟨rfl,rfl,rfl,rfl,rfl,rfl,rfl,trivial⟩ (by omega) ⟨by omega,hw,hK,ar,tA,hT⟩
    ·have FZ:f y=y:=by rw [← hf];unfold BA;rw [if_neg wI]
     have EZ:=sc (f:=f) kO (by rw [hy];exact FZ);by_cases sh:x.At / 8*8≤y.At
     all_goals
      repeat' (first|refine Wz ?_|(refine SW.call rfl rfl (cY _) ?_;intro v w1 ab hv;subst hv;replace hw:=Ext.trans hw ab;replace ar:=ar.ext ab;replace bC:=bC.ext ab;replace hX:=hX.ext ab;replace hT:=hT.ext ab;replace hK:=hK.ext ab;clear ab))
      exact ae.again (j+1) ⟨rfl,rfl,rfl,rfl,rfl,rfl,rfl,trivial⟩ (by omega) ⟨by omega,hw,hK,ar,by rw [EZ];exact hX,hT⟩
   ·obtain rfl:j=r.ag.n:=by omega
    refine Wz ?_;rw [← BW,uw,BW,← hf] at hX;exact ae.x8 rfl ⟨_,rfl,hw,hK,by rw [eA,if_neg h2];exact hX,hT⟩
end Go.Proofs.YtjimadiidbkohaaGreatDoor
