/-
  Texts of the claim KmemAllocs, part 6: what its theorem leans on.
-/
import Derived.Test.YtbidkghlpijecaaGreatDoorPackKmemAllocs5
import Derived.Test.YtbidkghlpijecaaGreatDoorPackKmemAllocs2
import Derived.Test.YtbidkghlpijecaaGreatDoorPackKmemAllocs3
import Derived.Test.YtbidkghlpijecaaGreatDoorPackKmemAllocs4
set_option linter.unusedVariables false
set_option linter.unusedSimpArgs false
namespace Go.Proofs.YtbidkghlpijecaaGreatDoor
open Go.RowKit
theorem vC.IJ {f t:Int} {l:List Block} {a o:Int} (h:vC f t l a o) : ∀ x∈l,x.At≠a:=fun x hx e=>by
 have h1:=h.Cb x hx;have h2:=(h.c8 x hx).1;have:=bE h2.1 h2.2.1
 have:=bE h.fit.1 h.fit.2.1
 omega
set_option maxHeartbeats 8000000 in
theorem sx (r:cy) (z:ar) (a o:Int) (w:World) (hr:uj w r z) (hf:(r.ag.n+1)*24≤140737488355328) (ht:r.Types.n*8≤140737488355328) (h1 : -9223372036854775808≤r.aX∧r.aX≤9223372036854775807) (h2 : -9223372036854775808≤r.To∧r.To≤9223372036854775807) :
 bo Tryz.prog 149 [.agg (bp r).toArray,.int .i64 a,.int .i64 o] w (rQ w.heap.size (iM z a o)):=by
 refine aI Tryz.func149 rfl Tryz.ntmps149 rfl ?_;refine CW.seq (CW.region (SW.box rfl rfl fun b3 w1 hw bH aq => ?_));refine SW.alloc rfl fun b6 w2 cq eg aw => ?_
 have cu:w.heap.size≤b6:=Nat.le_trans hw.size eg
 (replace hw:=Ext.trans hw cq;replace aq:=aq.ext cq);have eF:=hr.from_;have eT:=hr.j6;have CA:=hr.free.len;have HU:=hr.types.len;obtain ⟨q,hq⟩ : ∃ q,ed z=q:=⟨_,rfl⟩
 have c1:∀ w',Ext w w'→bo Tryz.prog 195 [.agg (bp r).toArray] w' fun v _=>v = .bool q:=fun w' h=>by
  have:=kE r z w' (hr.ext h) (by omega) (by omega) h1 h2
  rwa [hq] at this
 cases q
 ·rw [Af hq];repeat' (first|refine Wz ?_|(refine CW.bO rfl ?_)|(refine SW.call rfl rfl (c1 _ hw) ?_;intro v w1 ab hv;subst hv;replace hw:=Ext.trans hw ab;replace aq:=aq.ext ab;replace aw:=aw.ext ab;clear ab))
  refine SW.ak aw rfl rfl rfl rfl (cJ .zero) fun w5 bF hg => ?_
  replace hw:=hw.own cu hg;refine Wz ?_;exact ae.fI rfl rfl rfl bF rfl ⟨_,rfl,hw,.zero,rfl,eY.zero _ _⟩
 ·have hz:=dH.1 hq;obtain ⟨o1,o2,o3,o4,o5⟩:=hz.ok
  have cF:∀ w',bo Tryz.prog 211 [.agg (bp r).toArray,.int .i64 a,.int .i64 o] w' fun v _=>v = .bool (decide (eX z.aX z.To a o)):=fun w'=>by
   have:=o9 r a o w' ⟨by omega,by omega⟩ ⟨by omega,by omega⟩
   rwa [eF,eT] at this
  by_cases iT:eX z.aX z.To a o
  ·rw [decide_eq_true iT] at cF;obtain ⟨f1,f2,f3,f4,f5⟩:=id iT
   have mR:∀ b∈z.ag,dE z.aX z.To b:=fun b hb=>by
    obtain ⟨i,hi,rfl⟩:=List.getElem_of_mem hb;exact hz.c8 i hi
   have cC:∀ w',Ext w w'→bo Tryz.prog 197 [.slice r.ag.A r.ag.n r.ag.c,.int .i64 a,.int .i64 o] w' fun v _=>v = .bool (e8 z.ag a o):=fun w' hx =>
    pb _ _ _ _ z.aX z.To a o _ (hr.free.ext hx) mR o1 (by omega) (by omega) ⟨by omega,by omega⟩ ⟨f1,f2⟩
   cases wU:e8 z.ag a o
   ·rw [wU] at cC;have GD:=ss (f:=0) (t:=0) hz iT wU;repeat' (first|refine Wz ?_|(refine CW.bB rfl ?_)|((first|refine SW.call rfl rfl (c1 _ hw) ?_|refine SW.call rfl rfl (cF _) ?_|refine SW.call rfl rfl (cC _ hw) ?_);intro v w1 ab hv;subst hv;replace hw:=Ext.trans hw ab;replace aq:=aq.ext ab;replace aw:=aw.ext ab;clear ab))
    refine SW.call rfl rfl (lU r z _ (hr.ext hw) (by omega) ht) fun v w4 iK hv => ?_
    obtain ⟨s,rfl,hs⟩:=hv;replace hs:=hs.low hw.size;(replace hw:=Ext.trans hw iK;replace aq:=aq.ext iK;replace aw:=aw.ext iK);clear c1 cC cF;have IK:=aw.lt;have ey:=aq.lt;refine SW.alloc rfl fun b8 w1 ab kY bw => ?_
    skip;refine SW.ak bw rfl rfl rfl rfl (cJ s) fun w2 iU hg => ?_
    have aj:=ab.own kY hg;have jr:w.heap.size≤b8:=Nat.le_trans hw.size kY
    replace hw:=Ext.trans hw aj;replace aq:=aq.ext aj;replace aw:=aw.ext aj;replace hs:=hs.ext aj;replace bw:=iU;clear iU ab hg aj;have CM:b6≠b8:=by omega
    have FK:b3≠b8:=by omega
    refine Wz ?_;have es:s.ag.n=z.ag.length:=by have:=hs.free.sl.len;omega
    have hX:=hs.free;have hT:=hs.types;rw [es] at hX;have KH:s=⟨s.aX,s.To,⟨s.ag.A,z.ag.length,s.ag.c⟩,s.Types⟩:=by rw [← es]
    rw [KH] at bw;have sF:=hs.from_;have sT:=hs.j6;clear hs
    obtain ⟨K,hK⟩ : ∃ K:Env→World→Prop,K=fun L' w' => ∃ l a' o' A c,ez L' [(1,.int .i64 a'),(2,.int .i64 o'),(3,.pointer (some ⟨b3,0,none⟩)),(6,.pointer (some ⟨b6,0,none⟩)),(8,.pointer (some ⟨b8,0,none⟩))]∧Ext w w'∧aJ w' b3 139 (bp r)∧aJ w' b6 139 (bp .zero)∧aJ w' b8 139 [.int .i64 s.aX,.int .i64 s.To,.slice A l.length c,.slice s.Types.A s.Types.n s.Types.c] ∧
     Own w' w.heap.size 165 3 aA A l.length c l∧Own w' w.heap.size 3 1 bd s.Types.A s.Types.n s.Types.c z.Types∧vC z.aX z.To l a' o'∧ic 5 z.ag a o=(l,a',o')∧l.length≤z.ag.length:=⟨_,rfl⟩
    refine CW.wR K ?_ ?_
    ·refine CW.loop (fun u:Nat×List Block×Int×Int×Option Addr×Nat=>[(1,.int .i64 u.2.2.1),(2,.int .i64 u.2.2.2.1),(3,.pointer (some ⟨b3,0,none⟩)),(6,.pointer (some ⟨b6,0,none⟩)),(8,.pointer (some ⟨b8,0,none⟩))])
      (fun u w'=>Ext w w'∧aJ w' b3 139 (bp r)∧aJ w' b6 139 (bp .zero)∧aJ w' b8 139 [.int .i64 s.aX,.int .i64 s.To,.slice u.2.2.2.2.1 u.2.1.length u.2.2.2.2.2,.slice s.Types.A s.Types.n s.Types.c] ∧
        Own w' w.heap.size 165 3 aA u.2.2.2.2.1 u.2.1.length u.2.2.2.2.2 u.2.1∧Own w' w.heap.size 3 1 bd s.Types.A s.Types.n s.Types.c z.Types∧yG z a o u.1 u.2.1 u.2.2.1 u.2.2.2.1) (fun u=>(5-u.2.2.2.1).toNat) (5,z.ag,a,o,s.ag.A,s.ag.c)
      ⟨rfl,rfl,rfl,rfl,rfl,trivial⟩ ⟨hw,aq,aw,bw,hX,hT,⟨GD,rfl,by simp only;omega,Nat.le_refl _⟩⟩ ?_
     clear hw aq aw bw hX hT GD;rintro ⟨f,l,a',o',A,c⟩ w' ⟨hw,aq,aw,bw,hX,hT,hJ⟩
     simp only at bw hX hJ ⊢;obtain ⟨k1,k2,k3,k4,k5⟩:=hJ.ok.fit;have hlen:=hJ.len;have hp:=bE k1 k2;have KD:=jf k1 k2;by_cases Cd:o'<4
     ·obtain ⟨m1,m2,m3⟩:=ow (by omega) k1 Cd k5;have em:a'.tmod (pw (o'+1))=a' % (pw (o'+1)):=Int.tmod_eq_emod_of_nonneg (by omega)
      have ua:beside a' o'=if a' % (pw (o'+1))=0 then a'+pw o' else a'-pw o':=by unfold beside;rw [KD]
      generalize oy:beside a' o'=mC at m1 m2 m3 ua
      have mn:l.length*24≤140737488355328:=Nat.le_trans (Nat.mul_le_mul_right 24 (by omega)) hf
      have cW:=qN A l.length c l mC o';by_cases IL:a' % (pw (o'+1))=0
      ·rw [if_pos IL] at ua;repeat' (first|refine Wz ?_|(refine SW.call rfl rfl (c9 _ (by omega) _) ?_;intro v w1 ab hv;subst hv;replace hw:=Ext.trans hw ab;replace aq:=aq.ext ab;replace aw:=aw.ext ab;replace bw:=bw.ext ab;replace hX:=hX.ext ab;replace hT:=hT.ext ab;clear ab))
       all_goals try omega
       rw [← ua];refine SW.call rfl rfl (cW _ hX.sl mn) fun v w5 iV hv => ?_
       obtain ⟨B,d,rfl,hY⟩:=hv;replace hY:=hY.low hw.size;(replace hw:=Ext.trans hw iV;replace aq:=aq.ext iV;replace aw:=aw.ext iV;replace bw:=bw.ext iV;replace hX:=hX.ext iV;replace hT:=hT.ext iV);cases dU:l.any (rv mC o')
       ·have rO:=hJ.stop (.inr (by rw [oy];exact dU));repeat' (first|refine Wz ?_|(refine CW.bO rfl ?_))
        exact ae.kx (K:=K) (by rw [hK];exact ⟨l,a',o',A,c,⟨rfl,rfl,rfl,rfl,rfl,trivial⟩,hw,aq,aw,bw,hX,hT,hJ.ok,rO,hJ.len⟩)
       ·obtain ⟨f',tZ⟩:=hJ.next o1 Cd (by rw [oy];exact dU)
        rw [oy] at tZ;repeat' (first|refine Wz ?_|(refine CW.bB rfl ?_))
        refine SW.bA (i:=2) bw rfl rfl rfl rfl fun w7 iU hg => ?_
        have hG:=bw.gr hg;replace hw:=hw.own jr hg;replace aw:=aw.grown hg (by simpa using CM);replace aq:=aq.grown hg (by simpa using FK);(replace hY:=hY.ay hG rfl;replace hT:=hT.ay hG rfl);have AL:min a' mC=a':=by omega
        rw [AL] at tZ;refine Wz ?_;all_goals try omega
        exact ae.again (f',dc l mC o',a',o'+1,B,d) ⟨rfl,rfl,rfl,rfl,rfl,trivial⟩ (by simp only;omega) ⟨hw,aq,aw,iU,hY,hT,tZ⟩
      ·rw [if_neg IL] at ua;repeat' (first|refine Wz ?_|(refine SW.call rfl rfl (c9 _ (by omega) _) ?_;intro v w1 ab hv;subst hv;replace hw:=Ext.trans hw ab;replace aq:=aq.ext ab;replace aw:=aw.ext ab;replace bw:=bw.ext ab;replace hX:=hX.ext ab;replace hT:=hT.ext ab;clear ab))
       all_goals try omega
       rw [← ua];refine SW.call rfl rfl (cW _ hX.sl mn) fun v w5 iV hv => ?_
       obtain ⟨B,d,rfl,hY⟩:=hv;replace hY:=hY.low hw.size;(replace hw:=Ext.trans hw iV;replace aq:=aq.ext iV;replace aw:=aw.ext iV;replace bw:=bw.ext iV;replace hX:=hX.ext iV;replace hT:=hT.ext iV);cases dU:l.any (rv mC o')
       ·have rO:=hJ.stop (.inr (by rw [oy];exact dU));repeat' (first|refine Wz ?_|(refine CW.bO rfl ?_))
        exact ae.kx (K:=K) (by rw [hK];exact ⟨l,a',o',A,c,⟨rfl,rfl,rfl,rfl,rfl,trivial⟩,hw,aq,aw,bw,hX,hT,hJ.ok,rO,hJ.len⟩)
       ·obtain ⟨f',tZ⟩:=hJ.next o1 Cd (by rw [oy];exact dU)
        rw [oy] at tZ;repeat' (first|refine Wz ?_|(refine CW.bB rfl ?_))
        refine SW.bA (i:=2) bw rfl rfl rfl rfl fun w7 iU hg => ?_
        have hG:=bw.gr hg;replace hw:=hw.own jr hg;replace aw:=aw.grown hg (by simpa using CM);replace aq:=aq.grown hg (by simpa using FK);(replace hY:=hY.ay hG rfl;replace hT:=hT.ay hG rfl);have AL:min a' mC=mC:=by omega
        rw [AL] at tZ;refine Wz ?_;all_goals try omega
        exact ae.again (f',dc l mC o',mC,o'+1,B,d) ⟨rfl,rfl,rfl,rfl,rfl,trivial⟩ (by simp only;omega) ⟨hw,aq,aw,iU,hY,hT,tZ⟩
     ·refine Wz ?_;exact ae.kx (K:=K) (by rw [hK];exact ⟨l,a',o',A,c,⟨rfl,rfl,rfl,rfl,rfl,trivial⟩,hw,aq,aw,bw,hX,hT,hJ.ok,hJ.stop (.inl Cd),hJ.len⟩)
    ·clear hw aq aw bw hX hT GD;subst hK;rintro L' w' ⟨l,a',o',A,c,fv,hw,aq,aw,bw,hX,hT,hJ,CL,hlen⟩
     refine ae.sub fv ?_;obtain ⟨k1,k2,k3,k4,k5⟩:=hJ.fit;obtain ⟨k,hk,dk⟩:=z6 hz k3 k4;have Pr:=hT.sl.len;have cb:k<s.Types.n:=by omega
     have KJ:=vG hq iT wU CL (t:=z.Types[k]) (by rw [hk];simp [List.getD_eq_getElem?_getD,List.getElem?_eq_getElem dk]);rw [KJ,← CK hJ.IJ];have hA:=hT.sl.base;refine Wz ?_;refine CW.any 14 mixed (cj (by kernel_rfl)) rfl fun w1 ab aG => ?_
     replace hw:=Ext.trans hw ab;replace aq:=aq.ext ab;replace aw:=aw.ext ab;replace bw:=bw.ext ab;replace hX:=hX.ext ab;replace hT:=hT.ext ab;clear ab;refine Wa ?_;refine SA.take 11 aG rfl (by kernel_rfl) (by kernel_rfl) rfl ?_;repeat ((show SW _ _ _ _ (⟨_,Op.indexAddr _ _ _,_,_,_,none⟩::_) _ _;refine SW.st (bc (k) rfl rfl (by assumption) (by omega) (by omega)) rfl ?_))
     refine SW.ah ?_;refine SA.take 12 aG rfl (by kernel_rfl) (by kernel_rfl) rfl ?_;repeat ((show SW _ _ _ _ (⟨_,Op.load _ _,_,_,_,none⟩::_) _ _;refine SW.st (ao rfl (hT.sl.one cb rfl)) rfl ?_))
     refine SW.ah ?_;refine Wa ?_;refine SA.done (by kernel_rfl) ?_;refine SW.call rfl rfl (kX A l.length c l ⟨a',o',z.Types[k]⟩ _ hX.sl (Nat.le_trans (Nat.mul_le_mul_right 24 (by omega)) hf)) fun v w5 iV hv => ?_
     obtain ⟨B,d,rfl,hY⟩:=hv;replace hY:=hY.low hw.size;(replace hw:=Ext.trans hw iV;replace aq:=aq.ext iV;replace aw:=aw.ext iV;replace bw:=bw.ext iV;replace hX:=hX.ext iV;replace hT:=hT.ext iV);refine Wz ?_;refine SW.bA (i:=2) bw rfl rfl rfl rfl fun w7 iU hg => ?_
     have hG:=bw.gr hg;replace hw:=hw.own jr hg;replace aw:=aw.grown hg (by simpa using CM);(replace hY:=hY.ay hG rfl;replace hT:=hT.ay hG rfl);refine Wz ?_;refine SW.ak aw rfl rfl rfl rfl (cJ ⟨s.aX,s.To,⟨B,l.length+1,d⟩,s.Types⟩) fun w9 bF hg => ?_
     have hG:=aw.gr hg;replace hw:=hw.own cu hg;(replace hY:=hY.ay hG rfl;replace hT:=hT.ay hG rfl);refine Wz ?_;exact ae.fI rfl rfl rfl bF rfl ⟨_,rfl,hw,⟨s.aX,s.To,⟨B,l.length+1,d⟩,s.Types⟩,rfl,sF,sT,hY,hT⟩
   ·rw [wU] at cC;rw [Ah hq iT wU];repeat' (first|refine Wz ?_|(refine CW.bB rfl ?_)|((first|refine SW.call rfl rfl (c1 _ hw) ?_|refine SW.call rfl rfl (cF _) ?_|refine SW.call rfl rfl (cC _ hw) ?_);intro v w1 ab hv;subst hv;replace hw:=Ext.trans hw ab;replace aq:=aq.ext ab;replace aw:=aw.ext ab;clear ab))
    refine SW.ak aw rfl rfl rfl rfl (cJ .zero) fun w5 bF hg => ?_
    replace hw:=hw.own cu hg;refine Wz ?_;exact ae.fI rfl rfl rfl bF rfl ⟨_,rfl,hw,.zero,rfl,eY.zero _ _⟩
  ·rw [decide_eq_false iT] at cF;rw [Ag hq iT];repeat' (first|refine Wz ?_|(first|refine CW.bO rfl ?_|refine CW.bB rfl ?_)|((first|refine SW.call rfl rfl (c1 _ hw) ?_|refine SW.call rfl rfl (cF _) ?_);intro v w1 ab hv;subst hv;replace hw:=Ext.trans hw ab;replace aq:=aq.ext ab;replace aw:=aw.ext ab;clear ab))
   refine SW.ak aw rfl rfl rfl rfl (cJ .zero) fun w5 bF hg => ?_
   replace hw:=hw.own cu hg;refine Wz ?_;exact ae.fI rfl rfl rfl bF rfl ⟨_,rfl,hw,.zero,rfl,eY.zero _ _⟩
def marksOf (p:Nat→Bool) (k:Nat) : List Bool:=(List.range k).map p
theorem wW (p:Nat→Bool) (k i:Nat) (h:i<(marksOf p k).length) : (marksOf p k)[i]=p i:=by simp [marksOf]
theorem wX (p:Nat→Bool) (k i:Nat) (b:Bool) : (marksOf p k).set i b=marksOf (fun j=>if j=i then b else p j) k:=by
 apply List.ext_getElem (by simp [marksOf]);intro j h1 h2;rw [List.getElem_set];by_cases h:i=j
 ·subst h;simp [marksOf]
 ·have : ¬ j=i:=fun e=>h e.symm
  simp [marksOf,h,this]
theorem um {p q:Nat→Bool} {k:Nat} (h:∀ i,i<k→p i=q i) : marksOf p k=marksOf q k:=by
 apply List.ext_getElem (by simp [marksOf]);intro j h1 h2;simp only [wW];exact h j (by simpa [marksOf] using h1)
def qe (b:Block) (i:Nat) : Bool:=decide (b.At≤(i:Int)) && decide ((i:Int)<b.At+pw b.Order)
def dP (bs:List Block) (i:Nat) : Bool:=bs.any fun b=>qe b i
def lp (bs:List Block) (b:Block) : Prop:=0≤b.At∧b.At+pw b.Order≤256∧e8 bs b.At b.Order=false
instance (bs:List Block) (b:Block) : Decidable (lp bs b):=inferInstanceAs (Decidable (_∧_))
def jP (s:Option (List Block)) (b:Block) : Option (List Block):=match s with
 | none=>none
 | some bs=>if lp bs b then some (bs++[b]) else none
def bi (s:Option (List Block)) (l:List Block) : Option (List Block):=l.foldl jP s
theorem fg:∀ l,bi none l=none
 | []=>rfl
 | b::l=>fg l
theorem bt (s:Option (List Block)) (l m:List Block) : bi s (l++m)=bi (bi s l) m:=List.foldl_append
theorem qP (s:Option (List Block)) (l:List Block) (k:Nat) (h:k<l.length) : bi s (l.take (k+1))=jP (bi s (l.take k)) l[k]:=by
 rw [List.take_succ_eq_append_getElem h,bt];rfl
theorem lq {s:Option (List Block)} {b:Block} {bs:List Block} (h:jP s b=some bs) : ∃ cs,s=some cs∧lp cs b∧bs=cs++[b]:=by
 cases s with
 | none=>simp [jP] at h
 | some cs =>
   simp only [jP] at h;split at h
   ·rename_i hf;injection h with h;exact ⟨cs,rfl,hf,h.symm⟩
   ·cases h
def GH (p:Nat→Bool) (a n:Int) : Prop:=0≤a∧a<256∧n≤256-a ∧ ∀ i:Nat,a≤(i:Int)→(i:Int)<a+n→p i=false
def uo (p:Nat→Bool) (a n:Int) (i:Nat) : Bool:=p i || (decide (a≤(i:Int)) && decide ((i:Int)<a+n))
theorem rR {bs:List Block} (hb:∀ b∈bs,0≤b.At∧1≤pw b.Order) {b:Block} (h1 : 1≤pw b.Order) : GH (dP bs) b.At (pw b.Order)↔lp bs b:=by
 constructor
 ·rintro ⟨h2,h3,h4,h5⟩
  refine ⟨h2,by omega,?_⟩;unfold e8;rw [List.any_eq_false];intro x hx hh;simp only [Bool.and_eq_true,decide_eq_true_eq] at hh;obtain ⟨k1,k2⟩:=hh;obtain ⟨q1,q2⟩:=hb x hx;have h6:=h5 (max x.At b.At).toNat (by omega) (by omega);unfold dP at h6;rw [List.any_eq_false] at h6;apply h6 x hx;simp only [qe,Bool.and_eq_true,decide_eq_true_eq];omega
 ·rintro ⟨h2,h3,h4⟩
  refine ⟨h2,by omega,by omega,fun i k1 k2 => ?_⟩;unfold dP;rw [List.any_eq_false];intro x hx hh;simp only [qe,Bool.and_eq_true,decide_eq_true_eq] at hh;unfold e8 at h4;rw [List.any_eq_false] at h4;apply h4 x hx;simp only [Bool.and_eq_true,decide_eq_true_eq];omega
theorem CN (bs:List Block) (b:Block) (i:Nat) : uo (dP bs) b.At (pw b.Order) i=dP (bs++[b]) i:=by
 simp [uo,dP,qe]
def mU (s:Option (List Block)) : Prop := ∀ bs,s=some bs → ∀ x∈bs,0≤x.At∧1≤pw x.Order
theorem uP:mU (some []):=fun bs h x hx=>by cases h;simp at hx
theorem AP {s:Option (List Block)} {b:Block} (h:mU s) (hb : 1≤pw b.Order) : mU (jP s b):=fun bs ua x hx=>by
 obtain ⟨cs,rfl,hf,rfl⟩:=lq ua;rcases List.mem_append.1 hx with hx|hx
 ·exact h cs rfl x hx
 ·simp at hx;subst hx;exact ⟨hf.1,hb⟩
theorem ie {s:Option (List Block)}:∀ {l:List Block},mU s→(∀ b∈l,1≤pw b.Order)→mU (bi s l)
 | [],h,_=>h
 | b::l,h,hb=>ie (l:=l) (AP h (hb b (by simp))) (fun x hx=>hb x (by simp [hx]))
def db (p:Int) : Block:=⟨p,0,0⟩
def aT (l:List aC) : List Block:=l.flatMap fun x=>x.ax.map db
theorem jQ:pw 0=1:=by decide
def bz (a b:aC) : Prop:=a.dO<b.dO∨(a.dO=b.dO∧(a.ar<b.ar∨(a.ar=b.ar∧a.Ty<b.Ty)))
instance (a b:aC) : Decidable (bz a b):=inferInstanceAs (Decidable (_∨_))
def mV (dY:Int) (l:aC) : Prop:=(0≤l.dO∧l.dO<dY)∧(0≤l.ar∧l.ar≤1)∧(0≤l.Ty∧l.Ty≤2)∧(1≤l.ax.length∧l.ax.length≤8)
instance (c:Int) (l:aC) : Decidable (mV c l):=inferInstanceAs (Decidable (_∧_))
structure kG (dY to:Int) (ls:List aC) : Prop where
 head:∀ (i:Nat) (h:i<ls.length),mV dY ls[i]
 next:∀ (i:Nat) (h:i+1<ls.length),bz ls[i] ls[i+1]
 fu:∀ (i:Nat) (h:i<ls.length),∀ p∈(ls[i]).ax,(p<to↔(ls[i]).ar=0)
def sy (b:Block) : Prop:=(0≤b.Order∧b.Order≤4)∧(0≤b.At∧b.At≤255)∧b.At % pw b.Order=0∧fp b.Ty
structure mW (l:List Block) : Prop where
 each:∀ (i:Nat) (h:i<l.length),sy l[i]
 next:∀ (i:Nat) (h:i+1<l.length),l[i].At<l[i+1].At
structure bD (h:Heap) : Prop where
 cQ:∃ z0 z1,h.aQ=[z0,z1]∧bU z0∧bU z1∧z0.aX=0∧z0.To=z1.aX∧z1.To=256∧kG h.bY z0.To h.av∧(bi (some []) (z0.ag++z1.ag++aT h.av++h.Live)).isSome=true
 ck:∃ m0 m1,h.bJ=[m0,m1]∧(0≤m0∧m0≤256)∧(0≤m1∧m1≤256)
 dY : 1≤h.bY∧h.bY≤4
 live:mW h.Live
noncomputable def iN (h:Heap) : Bool := @decide (bD h) (Classical.propDecidable _)
theorem ph {h:Heap} (a:bD h) : iN h=true:=by unfold iN;exact @decide_eq_true _ (Classical.propDecidable _) a
theorem dM {h:Heap} (a : ¬ bD h) : iN h=false:=by unfold iN;exact @decide_eq_false _ (Classical.propDecidable _) a
theorem ig {h:Heap}:iN h=true↔bD h:=by
 by_cases a:bD h
 ·simp [ph a,a]
 ·simp [dM a,a]
theorem kH (l:List aC) (k:Nat) (h:k<l.length) : aT (l.take (k+1))=aT (l.take k)++l[k].ax.map db:=by
 unfold aT;rw [List.take_succ_eq_append_getElem h,List.flatMap_append];simp
theorem fa {s:Option (List Block)} {l m:List Block} (h:(bi s (l++m)).isSome=true) : (bi s l).isSome=true:=by
 rw [bt] at h;cases e:bi s l with
 | none=>rw [e,fg] at h;cases h
 | some x=>rfl
open Go.RowKit
section
variable {P:Program} {L:Env} {w:World} {d:Option Nat} {T:TypeId} {pos:String} {af:Array Edge} {g:Option (Nat×Bool)}
theorem mX {t e:TypeId} {len sz:Nat} [c:uK P t len e sz] {x y:Operand} {ad:Addr} {i:Int} (k:Nat) (hx:bR L x=some (.pointer (some ad))) (hy:bR L y=some (.int .i64 i)) (hi:i=(k:Int)) (hk:k<len) :
 St P ⟨d,.indexAddr t x y,T,pos,af,g⟩ L w (.pointer (some (ad.add (k*sz)))) :=
 ⟨fun _ a ha w' _=>by
  subst hi;have e1:=ha.eval hx;have e2:=ha.eval hy;generalize a.eval = ρ at *
  simp [execOp,e1,e2,Instr.indexAt,Instr.sureAddr,asIntOf,run_underlying c.j3,run_sizeOf c.size,hk]⟩
end
theorem ae.GI {P:Program} {fn:Func} {R:Ending→World→Prop} {n:Nat} {L:Env} {w:World} (hr:fn.results = #[]) (h:R (.returned (.tuple #[])) w) : ae n (bodyPost P fn R) .ret L w :=
 ⟨fun a ha=>⟨ha.defers,_,by simpa using kB.results (rs:=[]) hr .nil ha,h⟩⟩
theorem ae.yH {P:Program} {fn:Func} {R:Ending→World→Prop} {n:Nat} {L:Env} {w:World} (hr:fn.results = #[]) (h:R (.returned (.tuple #[])) w) : ae n (bodyPost P fn R) .normal L w :=
 ⟨fun a ha=>⟨ha.defers,_,by simpa using kB.results (rs:=[]) hr .nil ha,h⟩⟩
def fb (p:Nat→Bool) (N:Nat) (bad:Bool) : List Value:=(marksOf p N).map Value.bool++[.bool bad]
theorem oz (p:Nat→Bool) (N:Nat) (bad:Bool) : (fb p N bad).length=N+1:=by simp [fb,marksOf]
theorem sA (p:Nat→Bool) (N:Nat) (bad:Bool) : (fb p N bad)[N]?=some (.bool bad):=by
 unfold fb;rw [List.getElem?_append_right (by simp [marksOf])];simp [marksOf]
theorem AQ (p:Nat→Bool) (N:Nat) (bad:Bool) {i:Nat} (h:i<N) : (fb p N bad)[i]?=some (.bool (p i)):=by
 unfold fb;rw [List.getElem?_append_left (by simp [marksOf];omega)];simp [marksOf,h]
theorem oc (p:Nat→Bool) (N:Nat) (bad b:Bool) : (fb p N bad).set N (.bool b)=fb p N b:=by
 unfold fb;rw [List.set_append_right _ _ (by simp [marksOf])];simp [marksOf]
theorem yI (p:Nat→Bool) (N:Nat) (bad:Bool) {i:Nat} (h:i<N) : (fb p N bad).set i (.bool true)=fb (fun j=>if j=i then true else p j) N bad:=by
 unfold fb;rw [List.set_append_left _ _ (by simp [marksOf];omega),← wX,List.map_set]
theorem lV {p q:Nat→Bool} {N:Nat} {bad:Bool} (h:∀ i,i<N→p i=q i) : fb p N bad=fb q N bad:=by
 unfold fb;rw [um h]
set_option maxHeartbeats 4000000 in
theorem wY (b:Nat) (p:Nat→Bool) (bad:Bool) (N:Nat) (hN:N=256) (a n:Int) (w:World) (hB:aJ w b 224 (fb p N bad)) (hn : 0≤n∧n≤16) :
 gX Tryz.prog 178 [.pointer (some ⟨b,0,none⟩),.int .i64 a,.int .i64 n] w fun v w' => ∃ p' AR,aJ w' b 224 (fb p' N AR)∧w.grownBy w' (some b)∧((GH p a n∧AR=bad∧p'=uo p a n)∨(¬ GH p a n∧AR=true)):=by
 refine dB Tryz.func178 rfl Tryz.ntmps178 rfl ?_;have yq:w.grownBy w (some b):=World.grownBy.refl _ _
 have hw:=Ext.refl w;by_cases cf : 0≤a∧a<256∧n≤256-a
 ·obtain ⟨h1,h2,h3⟩:=id cf;obtain ⟨k,rfl⟩:=Int.eq_ofNat_of_zero_le h1;obtain ⟨m,rfl⟩:=Int.eq_ofNat_of_zero_le hn.1;refine Wz ?_;clear hw
  refine CW.loop (fun j:Nat=>[(0,.pointer (some ⟨b,0,none⟩)),(1,.int .i64 (k:Int)),(2,.int .i64 (m:Int)),(6,.int .i64 ((k+j:Nat) : Int))])
   (fun j w'=>j≤m∧aJ w' b 224 (fb (uo p k (j:Int)) N bad)∧w.grownBy w' (some b) ∧ ∀ i:Nat,k≤i→i<k+j→p i=false) (fun j=>m-j) 0
   ⟨rfl,rfl,rfl,rfl,trivial⟩ ⟨by omega,by rwa [lV (q:=p) (fun i _=>by simp [uo]<;>omega)],yq,fun i h1 h2=>by omega⟩ ?_
  clear hB yq;rintro j w' ⟨hj,hB,hg,hI⟩
  have hw:=Ext.refl w';by_cases Ps:j<m
  ·have de:k+j<N:=by omega
   have hc:=hB.cell (AQ _ N bad de);have hv:uo p k (j:Int) (k+j)=p (k+j):=by simp [uo]
   rw [hv] at hc;have kb:w'.cell? (((⟨b,0,none⟩ : Addr).add 0).add ((k+j)*1))=some (.bool (p (k+j))):=by rw [add_add];simpa using hc
   cases hp:p (k+j)
   ·rw [hp] at kb;repeat' (first|refine Wz ?_|refine SW.st (ao rfl (kb)) rfl ?_|(refine SW.st (mX (k+j) rfl rfl rfl (by omega)) rfl ?_))
    have KL:(⟨b,0,none⟩ : Addr).add (k+j)=((⟨b,0,none⟩ : Addr).add 0).add ((k+j)*1):=by rw [add_add];simp
    refine SW.bA (i:=k+j) hB (by rw [KL];rfl) rfl rfl (by rw [oz];simp;omega) fun w3 rq wZ => ?_
    rw [yI _ _ _ de,lV (q:=uo p k ((j+1:Nat) : Int)) (fun i _=>by
     by_cases e:i=k+j
     ·subst e;simp [uo];omega
     ·simp only [e,if_false,uo];congr 1
      by_cases e1:i<k+j
      ·rw [decide_eq_true (show (i:Int)<(k:Int)+(j:Int) by omega),decide_eq_true (show (i:Int)<(k:Int)+((j+1:Nat) : Int) by omega)]
      ·rw [decide_eq_false (show ¬ (i:Int)<(k:Int)+(j:Int) by omega),decide_eq_false (show ¬ (i:Int)<(k:Int)+((j+1:Nat) : Int) by omega)])] at rq
    have wT:=bQ hg wZ (.inl rfl);clear hw;have hw:=Ext.refl w3;refine Wz ?_;refine ae.again (j+1) ⟨rfl,rfl,rfl,rfl,trivial⟩ (by omega) ⟨by omega,rq,wT,fun i h1 h2 => ?_⟩;by_cases e:i=k+j
    ·subst e;exact hp
    ·exact hI i h1 (by omega)
   ·rw [hp] at kb;repeat' (first|refine Wz ?_|refine SW.st (ao rfl (kb)) rfl ?_|(refine SW.st (mX (k+j) rfl rfl rfl (by omega)) rfl ?_))
    subst hN;refine SW.bA (i:=256) hB rfl rfl rfl (by rw [oz];rfl) fun w3 rq wZ => ?_
    rw [oc] at rq;clear hw;have hw:=Ext.refl w3;refine Wz ?_;exact ae.GI rfl ⟨_,rfl,_,true,rq,bQ hg wZ (.inl rfl),.inr ⟨(fun h=>by have:=h.2.2.2 (k+j) (by omega) (by omega);rw [hp] at this;cases this),rfl⟩⟩
  ·obtain rfl:j=m:=by omega
   refine Wz ?_;exact ae.yH rfl ⟨_,rfl,_,bad,hB,hg,.inl ⟨⟨h1,h2,h3,fun i h4 h5=>hI i (by omega) (by omega)⟩,rfl,rfl⟩⟩
 ·have lf : ¬ GH p a n:=fun h=>cf ⟨h.1,h.2.1,h.2.2.1⟩
  subst hN;repeat' (first|refine Wz ?_|refine SW.cV rfl rfl rfl (fun h => ?_) (fun h => ?_))
  all_goals
   first
    | (exfalso;omega)
    | (refine SW.bA (i:=256) hB rfl rfl rfl (by rw [oz];rfl) fun w3 rq wZ => ?_
       rw [oc] at rq;clear hw;have hw:=Ext.refl w3;refine Wz ?_;exact ae.GI rfl ⟨_,rfl,_,true,rq,wZ,.inr ⟨lf,rfl⟩⟩)
def fW (o t:Int) (b:Block) : Bool:=decide (b.Order=o) && decide (b.Ty=t)
theorem lu {o t:Int} {b:Block}:fW o t b=true↔b.Order=o∧b.Ty=t:=by simp [fW]
def mY (t:Int) : Int:=if t=2 then 0 else 2
def mZ (t:Int) : Int:=if t=1 then 0 else 1
def pi (o:Int) (n:Nat) : Int:=if n<5 then o+n else 4-(((n-5) / 2:Nat) : Int)
def EN (t:Int) (n:Nat) : Int:=if n<5 then t else if (n-5) % 2=0 then mY t else mZ t
def eG (l:List Block) (o t:Int) (n:Nat) : Bool:=decide (o≤pi o n∧pi o n≤4) && l.any (fW (pi o n) (EN t n))
theorem lW {o:Int} {j:Nat} (h:j<5) : pi o j=o+j:=by unfold pi;rw [if_pos h]
theorem pj {o:Int} {j:Nat}:pi o (5+2*j)=4-(j:Int):=by unfold pi;rw [if_neg (by omega)];omega
theorem pk {o:Int} {j:Nat}:pi o (5+2*j+1)=4-(j:Int):=by unfold pi;rw [if_neg (by omega)];omega
theorem sB {t:Int} {j:Nat} (h:j<5) : EN t j=t:=by unfold EN;rw [if_pos h]
theorem sC {t:Int} {j:Nat}:EN t (5+2*j)=mY t:=by unfold EN;rw [if_neg (by omega),if_pos (by omega)]
theorem sD {t:Int} {j:Nat}:EN t (5+2*j+1)=mZ t:=by unfold EN;rw [if_neg (by omega),if_neg (by omega)]
theorem xa {l:List Block} {o t:Int} {j:Nat} (h:j<5) (ho:o+j≤4) : eG l o t j=l.any (fW (o+j) t):=by
 unfold eG;rw [lW h,sB h,decide_eq_true (by omega),Bool.true_and]
theorem xb {l:List Block} {o t:Int} {j:Nat} (ho:o≤4-(j:Int)) : eG l o t (5+2*j)=l.any (fW (4-(j:Int)) (mY t)):=by
 unfold eG;rw [pj,sC,decide_eq_true (by omega),Bool.true_and]
theorem xc {l:List Block} {o t:Int} {j:Nat} (ho:o≤4-(j:Int)) : eG l o t (5+2*j+1)=l.any (fW (4-(j:Int)) (mZ t)):=by
 unfold eG;rw [pk,sD,decide_eq_true (by omega),Bool.true_and]
theorem sE {l:List Block} {o t:Int} {n:Nat} (h : ¬ (o≤pi o n∧pi o n≤4)) : eG l o t n=false:=by
 unfold eG;rw [decide_eq_false h,Bool.false_and]
inductive dW (l:List Block) (o t:Int) : Option (Nat×Bool)→Prop
 | hit {n k:Nat} (hn:n<15) (ht:eG l o t n=true) (hf:∀ m,m<n→eG l o t m=false) (hk:k<l.length) (hp:fW (pi o n) (EN t n) l[k]=true) (hg:∀ (j:Nat) (hj:j<l.length),j<k→fW (pi o n) (EN t n) l[j]=false) : dW l o t (some (k,decide (5≤n)))
 | vH (hf:∀ m,m<15→eG l o t m=false) : dW l o t none
theorem dW.jy {l:List Block} {o t:Int} {u v:Option (Nat×Bool)} (a:dW l o t u) (b:dW l o t v) : u=v:=by
 cases a with
 | @hit n k hn ht hf hk hp hg =>
   cases b with
   | @hit n' k' lO mD uh oR Ai wZ =>
     rcases Nat.lt_trichotomy n n' with h|h|h
     ·rw [uh n h] at ht;cases ht
     ·subst h;rcases Nat.lt_trichotomy k k' with h|h|h
      ·rw [wZ k hk h] at hp;cases hp
      ·subst h;rfl
      ·rw [hg k' oR h] at Ai;cases Ai
     ·rw [hf n' h] at mD;cases mD
   | vH uh=>rw [uh n hn] at ht;cases ht
 | vH hf =>
   cases b with
   | @hit n' k' lO mD uh oR Ai wZ=>rw [hf n' lO] at mD;cases mD
   | vH=>rfl
theorem dW.ord {l:List Block} {o t:Int} {k:Nat} {s:Bool} (a:dW l o t (some (k,s))) : ∃ hk:k<l.length,o≤l[k].Order∧l[k].Order≤4:=by
 cases a with
 | hit hn ht hf hk hp hg =>
   refine ⟨hk,?_⟩;unfold eG at ht;rw [Bool.and_eq_true] at ht;have h1:=of_decide_eq_true ht.1;have h2:=(lu.1 hp).1;omega
def Ce (f to t:Int) (x:Block) : Block:=if f≤x.At∧x.At+pw x.Order≤to then ⟨x.At,x.Order,t⟩ else x
def mE (b:Block) : Int:=if b.Order=4 then b.At+16 else b.At / 8*8+8
def eD (l:List Block) (b:Block) (t:Int) : List Block:=if b.Order<2 then l else l.map (Ce (b.At / 8*8) (mE b) t)
def js (z:ar) (b:Block) : Nat:=((b.At-z.aX) / 8).toNat
def dC (z:ar) (b:Block) (t:Int) : List Int:=if b.Order<2 then z.Types else if b.Order=4 then (z.Types.set (js z b) t).set (js z b+1) t else z.Types.set (js z b) t
theorem lX (f to t:Int) (x:Block) : (Ce f to t x).At=x.At∧(Ce f to t x).Order=x.Order:=by
 unfold Ce;split<;>exact ⟨rfl,rfl⟩
theorem yJ (l:List Block) (b:Block) (t:Int) : (eD l b t).length=l.length:=by unfold eD;split<;>simp
theorem yK {l:List Block} {b:Block} {t:Int} (h:nQ l) : nQ (eD l b t):=by
 unfold eD;split
 ·exact h
 ·unfold nQ at *;rw [List.pairwise_map];refine h.imp fun {x y} KM => ?_
  rw [(lX _ _ _ x).1,(lX _ _ _ x).2,(lX _ _ _ y).1];exact KM
theorem yL {f u:Int} {l:List Block} {b:Block} {t:Int} (h:∀ x∈l,dE f u x) (ht:fp t) : ∀ x∈eD l b t,dE f u x:=by
 unfold eD;split
 ·exact h
 ·intro x hx;obtain ⟨y,hy,rfl⟩:=List.mem_map.1 hx;have hk:=h y hy;unfold dE at *;rw [(lX _ _ _ y).1,(lX _ _ _ y).2];refine ⟨hk.1,?_⟩;unfold Ce;split
  ·exact ht
  ·exact hk.2
def jL (ty a q:Int) : Block:=⟨a+pw (q-1),q-1,ty⟩
def m6 (ty a q:Int) (l:List Block) : List Block:=aV l (bG l (a+pw (q-1))) (jL ty a q)
def iW (ty a:Int) : Nat→Int→List Block→List Block
 | 0,_,l=>l
 | f+1,q,l=>iW ty a f (q-1) (m6 ty a q l)
def kZ (z:ar) (t:Int) (st:Bool) (b:Block) : Int:=if st=true∧2≤b.Order then t else b.Ty
def m7 (z:ar) (o t:Int) (b:Block) (k:Nat) (st:Bool) : ar :=
 ⟨z.aX,z.To,iW (kZ z t st b) b.At (b.Order-o).toNat b.Order ((if st=true then eD z.ag b t else z.ag).eraseIdx k),if st=true then dC z b t else z.Types⟩
inductive gl (z:ar) (o t:Int) : ar×Int×Int→Prop
 | bad (h:ed z=false) : gl z o t (.zero,0,8)
 | range (h:ed z=true) (ho : ¬ (0≤o∧o≤4)) : gl z o t (.zero,0,1)
 | kind (h:ed z=true) (ho : 0≤o∧o≤4) (ht : ¬ fp t) : gl z o t (.zero,0,2)
 | room (h:ed z=true) (ho : 0≤o∧o≤4) (ht:fp t) (hp:dW z.ag o t none) : gl z o t (.zero,0,6)
 | ok {k:Nat} {st:Bool} (h:ed z=true) (ho : 0≤o∧o≤4) (ht:fp t) (hk:k<z.ag.length) (hp:dW z.ag o t (some (k,st))) : gl z o t (m7 z o t z.ag[k] k st,z.ag[k].At,0)
theorem gl.jy {z:ar} {o t:Int} {u v:ar×Int×Int} (a:gl z o t u) (b:gl z o t v) : u=v:=by
 cases a with
 | bad h=>cases b with
   | bad=>rfl
   | range h'|kind h'|room h'|ok h'=>rw [h] at h';cases h'
 | range h ho=>cases b with
   | bad h'=>rw [h] at h';cases h'
   | range=>rfl
   | kind _ sc|room _ sc|ok _ sc=>exact absurd sc ho
 | kind h ho ht=>cases b with
   | bad h'=>rw [h] at h';cases h'
   | range _ sc=>exact absurd ho sc
   | kind=>rfl
   | room _ _ mD|ok _ _ mD=>exact absurd mD ht
 | room h ho ht hp=>cases b with
   | bad h'=>rw [h] at h';cases h'
   | range _ sc=>exact absurd ho sc
   | kind _ _ mD=>exact absurd ht mD
   | room=>rfl
   | ok _ _ _ _ Ai=>cases hp.jy Ai
 | ok h ho ht hk hp=>cases b with
   | bad h'=>rw [h] at h';cases h'
   | range _ sc=>exact absurd ho sc
   | kind _ _ mD=>exact absurd ht mD
   | room _ _ _ Ai=>cases hp.jy Ai
   | ok _ _ _ _ Ai=>cases hp.jy Ai;rfl
theorem od {α:Type} {l:List α} {i:Nat} {x y : α}:y∈aV l i x↔y=x∨y∈l:=by
 have e:l=l.take i++l.drop i:=(List.take_append_drop i l).symm
 unfold aV;constructor
 ·intro h;simp only [List.mem_append,List.mem_singleton] at h;rcases h with (h|h)|h
  ·exact .inr (List.mem_of_mem_take h)
  ·exact .inl h
  ·exact .inr (List.mem_of_mem_drop h)
 ·intro h;simp only [List.mem_append,List.mem_singleton];rcases h with h|h
  ·exact .inl (.inr h)
  ·rw [e,List.mem_append] at h;rcases h with h|h
   ·exact .inl (.inl h)
   ·exact .inr h
theorem AS {f t:Int} {l:List Block} {y:Block} (hu:nQ l) (hb:∀ b∈l,dE f t b) (hy : 0≤y.Order∧y.Order≤4) (hd:∀ b∈l,b.At+pw b.Order≤y.At∨y.At+pw y.Order≤b.At) : nQ (aV l (bG l y.At) y):=by
 have e:l=l.take (bG l y.At)++l.drop (bG l y.At):=(List.take_append_drop _ l).symm
 have h0:=hu;unfold nQ at h0;rw [e,List.pairwise_append] at h0;obtain ⟨h1,h2,h3⟩:=h0
 have hA:∀ x∈l.take (bG l y.At),x.At+pw x.Order≤y.At:=fun x hx=>by
  obtain ⟨j,hj,rfl⟩:=List.getElem_of_mem hx;simp only [List.length_take] at hj;rw [List.getElem_take];have de:=mS (l:=l) (a:=y.At) (k:=j) (by omega);have hp:=bE hy.1 hy.2;rcases hd _ (List.getElem_mem (show j<l.length by omega)) with h|h<;>omega
 have hB:∀ x∈l.drop (bG l y.At),y.At+pw y.Order≤x.At:=fun x hx=>by
  obtain ⟨j,hj,rfl⟩:=List.getElem_of_mem hx;simp only [List.length_drop] at hj;rw [List.getElem_drop];have ym:=Ab (l:=l) (a:=y.At) (by omega)
  have hle:(l[bG l y.At]'(by omega)).At≤(l[bG l y.At+j]'(by omega)).At:=by
   rcases Nat.eq_zero_or_pos j with rfl|vI
   ·exact Int.le_refl _
   ·have:=fr hu (show bG l y.At+j<l.length by omega) (show bG l y.At<bG l y.At+j by omega)
    have:=bE (hb _ (List.getElem_mem (show bG l y.At<l.length by omega))).1.1 (hb _ (List.getElem_mem (show bG l y.At<l.length by omega))).1.2.1
    omega
  have hm:=List.getElem_mem (show bG l y.At+j<l.length by omega);have:=bE (hb _ hm).1.1 (hb _ hm).1.2.1
  rcases hd _ hm with h|h<;>omega
 unfold aV nQ;rw [List.append_assoc,List.pairwise_append];refine ⟨h1,?_,fun a ha b jJ => ?_⟩
 ·rw [List.singleton_append,List.pairwise_cons];exact ⟨hB,h2⟩
 ·rw [List.singleton_append,List.mem_cons] at jJ;rcases jJ with rfl|jJ
  ·exact hA a ha
  ·exact h3 a ha b jJ
theorem sG {f t:Int} {l:List Block} {a q ty:Int} (h:vC f t l a q) (h0 : 0≤f) (ht:t≤256) (GJ:t % 16=0) (hq : 1≤q) (nC:fp ty) : vC f t (m6 ty a q l) a (q-1)∧(∀ b∈l,b.At≠a+pw (q-1)):=by
 obtain ⟨f1,f2,f3,f4,f5⟩:=h.fit
 have hp:pw q=2*pw (q-1):=by
  have:=jf (o:=q-1) (by omega) (by omega)
  rwa [Int.sub_add_cancel] at this
 have hm:a % pw (q-1)=0∧(a+pw (q-1)) % pw (q-1)=0∧1≤pw (q-1)∧a+pw (q-1)<t:=by
  rcases ev f1 f2 with ⟨e1,e2⟩|⟨e1,e2⟩|⟨e1,e2⟩|⟨e1,e2⟩|⟨e1,e2⟩
  all_goals
   rw [e2] at f5 hp
   first
    | omega
    | (have e3:pw (q-1)=1:=by omega
       rw [e3];omega)
    | (have e3:pw (q-1)=2:=by omega
       rw [e3];omega)
    | (have e3:pw (q-1)=4:=by omega
       rw [e3];omega)
    | (have e3:pw (q-1)=8:=by omega
       rw [e3];omega)
 obtain ⟨m1,m2,m3,m4⟩:=hm
 have hd:∀ b∈l,b.At+pw b.Order≤a+pw (q-1)∨a+pw (q-1)+pw (q-1)≤b.At:=fun b hb=>by
  rcases h.Cb b hb with g|g<;>omega
 have cG:∀ b∈l,b.At≠a+pw (q-1):=fun b hb e=>by
  have:=bE (h.c8 b hb).1.1 (h.c8 b hb).1.2.1
  rcases h.Cb b hb with g|g<;>omega
 refine ⟨⟨?_,fun b hb => ?_,⟨by omega,by omega,f3,f4,m1⟩,fun b hb => ?_⟩,cG⟩
 ·exact AS (y:=jL ty a q) h.nQ h.c8 ⟨by simp only [jL];omega,by simp only [jL];omega⟩ hd
 ·rcases od.1 hb with rfl|hb
  ·exact ⟨⟨by simp only [jL];omega,by simp only [jL];omega,by simp only [jL];omega,m4,m2⟩,nC⟩
  ·exact h.c8 b hb
 ·rcases od.1 hb with rfl|hb
  ·right;simp only [jL];omega
  ·rcases h.Cb b hb with g|g<;>omega
theorem uQ (ty a q:Int) (l:List Block) : (m6 ty a q l).length=l.length+1:=by
 have:=Aa l (a+pw (q-1))
 unfold m6 aV;simp;omega
theorem qf {f t:Int} {l:List Block} (hu:nQ l) (hb:∀ b∈l,dE f t b) {k:Nat} (hk:k<l.length) : vC f t (l.eraseIdx k) l[k].At l[k].Order:=by
 have hs:∀ b∈l.eraseIdx k,b∈l:=fun b h=>List.mem_of_mem_eraseIdx h
 refine ⟨?_,fun b h=>hb b (hs b h),(hb _ (List.getElem_mem hk)).1,fun b h => ?_⟩
 ·unfold nQ at *;exact hu.sublist (List.eraseIdx_sublist l k)
 ·obtain ⟨j,hj,rfl⟩:=List.getElem_of_mem h;have hlen:=List.length_eraseIdx_of_lt hk;rw [List.getElem_eraseIdx];split
  ·rename_i lg;exact .inl (fr hu hk lg)
  ·rename_i lg;exact .inr (fr hu (by omega) (by omega))
theorem xd {l:List Block} {o t:Int} {j m:Nat} (hm : 5+2*j≤m) (ho : 4-(j:Int)<o) : eG l o t m=false :=
 sE (by unfold pi;rw [if_neg (by omega)];omega)
theorem EO {b:Block} (h2 : 2≤b.Order) (h4:b.Order≤4) (hm:b.At % pw b.Order=0) : b.At / 8*8≤b.At∧b.At+pw b.Order≤mE b:=by
 unfold mE;rcases ev (show 0≤b.Order by omega) h4 with ⟨e1,e2⟩|⟨e1,e2⟩|⟨e1,e2⟩|⟨e1,e2⟩|⟨e1,e2⟩<;>rw [e2] at hm ⊢<;>split<;>omega
def eH (z:ar) (b:Block) (t:Int) (st:Bool) : List Block:=if st=true then eD z.ag b t else z.ag
theorem pn {z:ar} (hz:bU z) {b:Block} {t:Int} (ht:fp t) (st:Bool) : (eH z b t st).length=z.ag.length∧nQ (eH z b t st) ∧ ∀ x∈eH z b t st,dE z.aX z.To x:=by
 have hb:∀ x∈z.ag,dE z.aX z.To x:=fun x hx=>by
  obtain ⟨i,hi,rfl⟩:=List.getElem_of_mem hx;exact hz.c8 i hi
 unfold eH;split
 ·exact ⟨yJ _ _ _,yK (ln hz),yL hb ht⟩
 ·exact ⟨rfl,ln hz,hb⟩
theorem qg {z:ar} (hz:bU z) {t:Int} (ht:fp t) (st:Bool) {k:Nat} (hk:k<z.ag.length) :
 (eH z z.ag[k] t st)[k]'(by rw [(pn hz ht st).1];exact hk)=⟨z.ag[k].At,z.ag[k].Order,kZ z t st z.ag[k]⟩:=by
 obtain ⟨f1,f2,f3,f4,f5⟩:=(hz.c8 k hk).1;unfold eH kZ;cases st
 ·simp
 ·simp only [if_true,true_and];unfold eD;by_cases h2:z.ag[k].Order<2
  ·simp only [if_pos h2,if_neg (show ¬ 2≤z.ag[k].Order by omega)]
  ·simp only [if_neg h2,if_pos (show 2≤z.ag[k].Order by omega),List.getElem_map];unfold Ce;rw [if_pos (EO (by omega) f2 f5)]
open Go.RowKit
section
variable {P:Program} {L:Env} {w:World} {d:Option Nat} {T:TypeId} {pos:String} {af:Array Edge} {g:Option (Nat×Bool)}
theorem nD {t e:TypeId} {len:Nat} [c:uK P t len e 1] [gk P e] {x y:Operand} {vs:List Value} {i:Int} {v:Value} (k:Nat) (hx:bR L x=some (.agg vs.toArray)) (hy:bR L y=some (.int .i64 i)) (hi:i=(k:Int)) (hk:k<len) (hv:vs[k]?=some v) :
 St P ⟨d,.index t x y,T,pos,af,g⟩ L w v :=
 ⟨fun _ a ha w' _=>by
  subst hi;have e1:=ha.eval hx;have e2:=ha.eval hy;generalize a.eval = ρ at *
  simp [execOp,e1,e2,Instr.index,asIntOf,run_underlying c.j3,run_sizeOf c.size,hk,part,n6,hv]⟩
end
theorem CO (o t:Int) (b4 b5:Nat) (x:Block) (w:World) (h4:aJ w b4 3 [.int .i64 o]) (h5:aJ w b5 3 [.int .i64 t]) :
 bo Tryz.prog 275 ([.agg (aA x).toArray]++[.pointer (some ⟨b4,0,none⟩),.pointer (some ⟨b5,0,none⟩)]) w fun v _=>v = .bool (fW o t x):=by
 refine aI Tryz.func275 rfl Tryz.ntmps275 rfl ?_;refine CW.seq (CW.region (SW.box rfl rfl fun b1 w1 hw gV aB => ?_));replace h4:=h4.ext hw;replace h5:=h5.ext hw;have KN:=h4.cell (i:=0) (v := .int .i64 o) rfl;have Mr:=h5.cell (i:=0) (v := .int .i64 t) rfl;rw [add_zero] at KN Mr;by_cases h1:x.Order=o
 ·repeat' (first|refine Wz ?_|refine SW.st (ao rfl KN) rfl ?_|refine SW.st (ao rfl Mr) rfl ?_)
  exact ae.aO rfl rfl ⟨_,rfl,hw,by simp [fW,h1]⟩
 ·repeat' (first|refine Wz ?_|refine SW.st (ao rfl KN) rfl ?_)
  exact ae.aO rfl rfl ⟨_,rfl,hw,by simp [fW,h1]⟩
theorem yM (r:cy) (l:List Block) (o t:Int) (w:World) (hl:Sl w 3 aA r.ag.A r.ag.n l) (hn:r.ag.n≤9223372036854775807) :
 bo Tryz.prog 264 [.agg (bp r).toArray,.int .i64 o,.int .i64 t] w fun v _=>v = .int .i64 (idxOf (fW o t) l):=by
 refine aI Tryz.func264 rfl Tryz.ntmps264 rfl ?_;refine CW.seq (CW.region (SW.box rfl rfl fun b3 w1 hw bH aq => ?_));refine SW.ED rfl rfl rfl fun b4 w2 cq mA bZ => ?_
 (replace hw:=Ext.trans hw cq;replace aq:=aq.ext cq);refine SW.ED rfl rfl rfl fun b5 w3 jW il cd => ?_
 (replace hw:=Ext.trans hw jW;replace aq:=aq.ext jW;replace bZ:=bZ.ext jW);repeat' (first|refine Wz ?_|(refine SW.st (iz (vs:=[.pointer (some ⟨b4,0,none⟩),.pointer (some ⟨b5,0,none⟩)]) rfl) rfl ?_))
 refine SW.call rfl rfl (j7 _ _ _ _ _ (hl.ext hw) _ [.pointer (some ⟨b4,0,none⟩),.pointer (some ⟨b5,0,none⟩)] (fW o t) (fun x => .agg (aA x).toArray) (fun x=>rfl) (fun x hx w1 jx=>CO o t b4 b5 x w1 (bZ.ext jx) (cd.ext jx)) hn) fun v w4 iK hv => ?_
 subst hv;replace hw:=Ext.trans hw iK;refine Wz ?_;exact ae.aO rfl rfl ⟨_,rfl,hw,rfl⟩
structure lx (T:TypeId) (w w':World) : Prop where
 out:∀ b cs,aJ w b T cs→aJ w' b T cs
theorem lx.refl (T:TypeId) (w:World) : lx T w w:=⟨fun _ _ h=>h⟩
theorem lx.ext {T:TypeId} {w w1 w2:World} (h:lx T w w1) (hx:Ext w1 w2) : lx T w w2:=⟨fun b cs hb=>(h.out b cs hb).ext hx⟩
theorem lx.ay {T t:TypeId} {w w1 w2:World} (h:lx T w w1) (hG:oa w1 w2 t) (cG:Nat.beq t T=false) : lx T w w2:=⟨fun b cs hb=>(h.out b cs hb).ay hG cG⟩
def AT (T:List Int) (i:Nat) (t:Int) (c:Nat) : List Int:=if c=0 then T else if c≤8 then T.set i t else (T.set i t).set (i+1) t
theorem AU {T:List Int} {i:Nat} {t:Int} {c:Nat} (hc:c<16) : (AT T i t c).set (i+c / 8) t=AT T i t (c+1):=by
 unfold AT;rcases (show c=0∨(1≤c∧c<8)∨c=8∨(8<c∧c<16) by omega) with rfl|h|rfl|h
 ·simp
 ·have e:c / 8=0:=by omega
  rw [if_neg (by omega),if_pos (by omega),if_neg (by omega),if_pos (by omega),e,Nat.add_zero,List.set_set]
 ·simp
 ·have e:c / 8=1:=by omega
  rw [if_neg (by omega),if_neg (by omega),if_neg (by omega),if_neg (by omega),e,List.set_set]
def iO {α:Type} (f : α → α) (l:List α) (j:Nat) : List α := (l.take j).map f++l.drop j
theorem qi {α:Type} {f : α → α} {l:List α} {j:Nat}:(iO f l j).length=l.length:=by simp [iO];omega
theorem qj {α:Type} {f : α → α} {l:List α} {j:Nat} (hj:j<l.length) : (iO f l j)[j]'(by rw [qi];exact hj)=l[j]:=by
 have e:(iO f l j)[j]?=l[j]?:=by
  unfold iO;rw [List.getElem?_append_right (by simp;omega)];have:j-((l.take j).map f).length=0:=by simp;omega
  rw [this,List.getElem?_drop];simp
 rw [List.getElem?_eq_getElem (by rw [qi];exact hj),List.getElem?_eq_getElem hj] at e;exact Option.some.inj e
theorem qk {α:Type} {f : α → α} {l:List α} {j:Nat} (hj:j<l.length) : (iO f l j).set j (f l[j])=iO f l (j+1):=by
 unfold iO;rw [List.set_append_right _ _ (by simp;omega)];have:j-((l.take j).map f).length=0:=by simp;omega
 rw [this,List.take_succ_eq_append_getElem hj,List.map_append,List.drop_eq_getElem_cons hj,List.set_cons_zero];simp
theorem sH {α:Type} {f : α → α} {l:List α} {j:Nat} (hj:j<l.length) (hf:f l[j]=l[j]) : iO f l (j+1)=iO f l j:=by
 rw [← qk hj,hf];have:=qj (f:=f) hj
 rw [← this];exact List.set_getElem_self (by rw [qi];exact hj)
theorem sI {α:Type} {f : α → α} {l:List α}:iO f l 0=l:=by simp [iO]
theorem uR {α:Type} {f : α → α} {l:List α}:iO f l l.length=l.map f:=by simp [iO]
theorem CP {f a o:Int} (hf:f % 16=0) (EM:f≤a) (h2 : 2≤o) (h4:o≤4) (hm:a % pw o=0) {c:Nat} (hc:(c:Int)<pw o) : (a+c-f) / 8=((((a-f) / 8).toNat+c / 8:Nat) : Int):=by
 rcases ev (show 0≤o by omega) h4 with ⟨e1,e2⟩|⟨e1,e2⟩|⟨e1,e2⟩|⟨e1,e2⟩|⟨e1,e2⟩<;>rw [e2] at hm hc<;>omega
theorem CQ {b:Block} (h2 : 2≤b.Order) (h4:b.Order≤4) (hm:b.At % pw b.Order=0) : max (b.At+pw b.Order) (b.At / 8*8+8)=mE b:=by
 unfold mE;rcases ev (show 0≤b.Order by omega) h4 with ⟨e1,e2⟩|⟨e1,e2⟩|⟨e1,e2⟩|⟨e1,e2⟩|⟨e1,e2⟩<;>rw [e2] at hm ⊢<;>split<;>omega
structure CR (base w:World) (r:cy) (z:ar) (b:Block) (t:Int) (w':World) : Prop where
 ext:Ext base w'
 yN:lx 139 w w'
 free:Own w' base.heap.size 165 3 aA r.ag.A r.ag.n r.ag.c (eD z.ag b t)
 types:Own w' base.heap.size 3 1 bd r.Types.A r.Types.n r.Types.c (dC z b t)
set_option maxHeartbeats 2000000 in
theorem uS (r:cy) (z:ar) (k:Nat) (t:Int) (base w:World) (hB:Ext base w) (hX:Own w base.heap.size 165 3 aA r.ag.A r.ag.n r.ag.c z.ag) (hT:Own w base.heap.size 3 1 bd r.Types.A r.Types.n r.Types.c z.Types)
 (eF:r.aX=z.aX) (hz:bU z) (hk:k<z.ag.length) (hn:r.ag.n≤1000000000000000000) :
 gX Tryz.prog 265 [.agg (bp r).toArray,.int .i64 (k:Int),.int .i64 t] w fun _ w'=>CR base w r z z.ag[k] t w':=by
 refine dB Tryz.func265 rfl Tryz.ntmps265 rfl ?_;obtain ⟨f1,f2,f3,f4,f5⟩:=(hz.c8 k hk).1;obtain ⟨o1,o2,o3,o4,o5⟩:=hz.ok;have hlen:=hz.len;have CA:=hX.len;have HU:=hT.len;have hA:=hX.sl.base;have NF:=hT.sl.base;have cb:k<r.ag.n:=by omega
 refine CW.seq (CW.region (SW.box rfl rfl fun b3 w1 ab bH aq => ?_));have hw:=Ext.trans hB ab;have hK:lx 139 w w1:=(lx.refl _ w).ext ab
 replace hX:=hX.ext ab;replace hT:=hT.ext ab;have cw:base.heap.size≤b3:=Nat.le_trans hB.size bH
 clear ab bH;obtain ⟨x,hx⟩ : ∃ x,z.ag[k]=x:=⟨_,rfl⟩;rw [hx] at f1 f2 f3 f4 f5 ⊢;have hg:=hX.sl.all cb;simp only [hx] at hg;repeat' (first|refine Wz ?_|refine SW.st (aW rfl rfl hg) rfl ?_)
 refine SW.alloc rfl fun b6 w1 ab Ms aw => ?_
 have NG:base.heap.size≤b6:=Nat.le_trans hw.size Ms
 have IK:aU r.ag.A r.ag.c≠some b6:=fun e=>by have:=hX.lt_size _ e;omega
 replace hw:=Ext.trans hw ab;replace aq:=aq.ext ab;replace hX:=hX.ext ab;replace hT:=hT.ext ab;replace hK:=hK.ext ab;skip;refine SW.ak aw rfl rfl rfl rfl (fw.one (enc:=aA) x) fun w2 gq hg => ?_
 have hG:=aw.gr hg;replace hw:=hw.own NG hg;replace hX:=hX.grown hg (.inr IK);(replace aq:=aq.ay hG rfl;replace hT:=hT.ay hG rfl;replace hK:=hK.ay hG rfl);replace aw:=gq;clear gq hg hG ab Ms;by_cases h2:x.Order<2
 ·refine Wz ?_;exact ae.GI rfl ⟨_,rfl,hw,hK,by rw [eD,if_pos h2];exact hX,by rw [dC,if_pos h2];exact hT⟩
 ·refine Wz ?_;have hp:=bE f1 f2;have pR:∀ c:Nat,(c:Int)<pw x.Order→(x.At+c-z.aX) / 8=((js z x+c / 8:Nat) : Int):=fun c hc=>CP o4 f3 (by omega) f2 f5 hc
  have cE:∀ w',bo Tryz.prog 230 [.agg (aA x).toArray] w' fun v _=>v = .int .i64 (x.At+pw x.Order):=fun w'=>ll x w' ⟨f1,f2⟩ ⟨by omega,by omega⟩
  refine CW.loop (fun c:Nat=>[(2,.int .i64 t),(3,.pointer (some ⟨b3,0,none⟩)),(6,.pointer (some ⟨b6,0,none⟩)),(7,.int .i64 (x.At+(c:Int)))])
   (fun c w'=>(c:Int)≤pw x.Order∧Ext base w'∧lx 139 w w'∧aJ w' b3 139 (bp r)∧aJ w' b6 165 (aA x)∧Own w' base.heap.size 165 3 aA r.ag.A r.ag.n r.ag.c z.ag∧Own w' base.heap.size 3 1 bd r.Types.A r.Types.n r.Types.c (AT z.Types (js z x) t c))
   (fun c=>(pw x.Order).toNat-c) 0 ⟨rfl,rfl,rfl,congrArg (fun z=>some (Value.int .i64 z)) (by omega),trivial⟩ ⟨by omega,hw,hK,aq,aw,hX,hT⟩ ?_
  clear hw hK aq aw hX hT;rintro c w' ⟨hc,hw,hK,aq,aw,hX,hT⟩
  by_cases CS:(c:Int)<pw x.Order
  ·have NH:=pR c CS
   have cf:js z x+c / 8<r.Types.n:=by
    have:x.At+c<z.To:=by
     rcases ev f1 f2 with ⟨e1,e2⟩|⟨e1,e2⟩|⟨e1,e2⟩|⟨e1,e2⟩|⟨e1,e2⟩<;>rw [e2] at f5 CS<;>omega
    omega
   have KO:c<16:=by omega
   repeat' (first|refine Wz ?_|refine SW.st (bc (js z x+c / 8) rfl rfl (by assumption) (by omega) (by omega)) rfl ?_|(refine SW.call rfl rfl (cE _) ?_;intro v w1 ab hv;subst hv;replace hw:=Ext.trans hw ab;replace aq:=aq.ext ab;replace aw:=aw.ext ab;replace hX:=hX.ext ab;replace hT:=hT.ext ab;replace hK:=hK.ext ab;clear ab))
   refine SW.j4 (js z x+c / 8) hT rfl rfl cf fun w5 EP hg => ?_
   have hG:=hT.gr hg;replace hw:=aF hw hg (Nat.le_refl _) hT.aM;(replace aq:=aq.ay hG rfl;replace aw:=aw.ay hG rfl;replace hX:=hX.ay hG rfl;replace hK:=hK.ay hG rfl);rw [AU KO] at EP;refine Wz ?_;exact ae.again (c+1) ⟨rfl,rfl,rfl,congrArg (fun z=>some (Value.int .i64 z)) (by omega),trivial⟩ (by omega) ⟨by omega,hw,hK,aq,aw,hX,EP⟩
  ·have IM:(c:Int)=pw x.Order:=by omega
   have nC:AT z.Types (js z x) t c=dC z x t:=by
    unfold AT dC;rcases ev f1 f2 with ⟨e1,e2⟩|⟨e1,e2⟩|⟨e1,e2⟩|⟨e1,e2⟩|⟨e1,e2⟩
    ·omega
    ·omega
    ·rw [if_neg (by omega),if_pos (by omega),if_neg (by omega),if_neg (by omega)]
    ·rw [if_neg (by omega),if_pos (by omega),if_neg (by omega),if_neg (by omega)]
    ·rw [if_neg (by omega),if_neg (by omega),if_neg (by omega),if_pos (by omega)]
   rw [nC] at hT;have GK:=CQ (b:=x) (by omega) f2 f5;repeat' (first|refine Wz ?_|(refine SW.call rfl rfl (cE _) ?_;intro v w1 ab hv;subst hv;replace hw:=Ext.trans hw ab;replace aq:=aq.ext ab;replace aw:=aw.ext ab;replace hX:=hX.ext ab;replace hT:=hT.ext ab;replace hK:=hK.ext ab;clear ab)|(refine SW.st ((Gs rfl rfl).eq (congrArg (Value.int .i64) GK)) rfl ?_))
   clear aw cE pR;obtain ⟨f,hf⟩ : ∃ f,Ce (x.At / 8*8) (mE x) t=f:=⟨_,rfl⟩
   refine CW.loop (fun j:Nat=>[(2,.int .i64 t),(3,.pointer (some ⟨b3,0,none⟩)),(8,.int .i64 (x.At / 8*8)),(9,.int .i64 (mE x)),(47,.slice r.ag.A r.ag.n r.ag.c),(48,.int .i64 (r.ag.n:Int)),(49,.int .i64 (j:Int))])
    (fun j w'=>j≤r.ag.n∧Ext base w'∧lx 139 w w'∧aJ w' b3 139 (bp r)∧Own w' base.heap.size 165 3 aA r.ag.A r.ag.n r.ag.c (iO f z.ag j)∧Own w' base.heap.size 3 1 bd r.Types.A r.Types.n r.Types.c (dC z x t))
    (fun j=>r.ag.n-j) 0 ⟨rfl,rfl,rfl,rfl,rfl,rfl,rfl,trivial⟩ ⟨by omega,hw,hK,aq,by rw [sI];exact hX,hT⟩ ?_
   clear hw hK aq hX hT;rintro j w' ⟨hj,hw,hK,aq,hX,hT⟩
   by_cases je:j<r.ag.n
   ·have kV:j<z.ag.length:=by omega
    obtain ⟨g1,g2,g3,g4,g5⟩:=(hz.c8 j kV).1;obtain ⟨y,hy⟩ : ∃ y,z.ag[j]=y:=⟨_,rfl⟩;have k6:=qj (f:=f) kV;rw [hy] at g1 g2 g3 g4 g5 k6;have fP:=hX.sl.all je;simp only [k6] at fP;have NI:=bE g1 g2;have cY:∀ w',bo Tryz.prog 230 [.agg (aA y).toArray] w' fun v _=>v = .int .i64 (y.At+pw y.Order):=fun w'=>ll y w' ⟨g1,g2⟩ ⟨by omega,by omega⟩
    repeat' (first|refine Wz ?_|refine SW.st (aW rfl rfl fP) rfl ?_)
    refine SW.alloc rfl fun sJ w1 ab hb bC => ?_
    have Ek:base.heap.size≤sJ:=Nat.le_trans hw.size hb
    have cG:aU r.ag.A r.ag.c≠some sJ:=fun e=>by have:=hX.lt_size _ e;omega
    replace hw:=Ext.trans hw ab;replace aq:=aq.ext ab;replace hX:=hX.ext ab;replace hT:=hT.ext ab;replace hK:=hK.ext ab;refine Wz ?_;refine SW.ak bC rfl rfl rfl rfl (fw.one (enc:=aA) y) fun w2 m8 hg => ?_
    have hG:=bC.gr hg;replace hw:=hw.own Ek hg;replace hX:=hX.grown hg (.inr cG);(replace aq:=aq.ay hG rfl;replace hT:=hT.ay hG rfl;replace hK:=hK.ay hG rfl);replace bC:=m8;clear m8 hg hG ab hb;by_cases xe:x.At / 8*8≤y.At∧y.At+pw y.Order≤mE x
    ·have GL:f y=⟨y.At,y.Order,t⟩:=by rw [← hf];unfold Ce;rw [if_pos xe]
     repeat' (first|refine Wz ?_|(refine SW.call rfl rfl (cY _) ?_;intro v w1 ab hv;subst hv;replace hw:=Ext.trans hw ab;replace aq:=aq.ext ab;replace bC:=bC.ext ab;replace hX:=hX.ext ab;replace hT:=hT.ext ab;replace hK:=hK.ext ab;clear ab))
     refine SW.gR j 2 ⟨y.At,y.Order,t⟩ hX rfl rfl rfl je (by decide) rfl (by rw [k6];rfl) fun w5 tY hg => ?_
     have hG:=hX.gr hg;replace hw:=aF hw hg (Nat.le_refl _) hX.aM;(replace aq:=aq.ay hG rfl;replace hT:=hT.ay hG rfl;replace hK:=hK.ay hG rfl);rw [← GL,← hy,qk kV] at tY;refine Wz ?_;exact ae.again (j+1) ⟨rfl,rfl,rfl,rfl,rfl,rfl,rfl,trivial⟩ (by omega) ⟨by omega,hw,hK,aq,tY,hT⟩
    ·have GL:f y=y:=by rw [← hf];unfold Ce;rw [if_neg xe]
     have FL:=sH (f:=f) kV (by rw [hy];exact GL);by_cases sK:x.At / 8*8≤y.At
     all_goals
      repeat' (first|refine Wz ?_|(refine SW.call rfl rfl (cY _) ?_;intro v w1 ab hv;subst hv;replace hw:=Ext.trans hw ab;replace aq:=aq.ext ab;replace bC:=bC.ext ab;replace hX:=hX.ext ab;replace hT:=hT.ext ab;replace hK:=hK.ext ab;clear ab))
      exact ae.again (j+1) ⟨rfl,rfl,rfl,rfl,rfl,rfl,rfl,trivial⟩ (by omega) ⟨by omega,hw,hK,aq,by rw [FL];exact hX,hT⟩
   ·obtain rfl:j=r.ag.n:=by omega
    refine Wz ?_;rw [← CA,uR,CA,← hf] at hX;exact ae.yH rfl ⟨_,rfl,hw,hK,by rw [eD,if_neg h2];exact hX,hT⟩
end Go.Proofs.YtbidkghlpijecaaGreatDoor
