/-
  Texts of the claim KmemAllocs, part 7: what its theorem leans on.
-/
import Derived.Test.YtbidkghlpijecaaGreatDoorPackKmemAllocs6
import Derived.Test.YtbidkghlpijecaaGreatDoorPackKmemAllocs5
import Derived.Test.YtbidkghlpijecaaGreatDoorPackKmemAllocs2
import Derived.Test.YtbidkghlpijecaaGreatDoorRows
import Derived.ProofKit
import Derived.LaidMore
import Derived.OpenShut
import Derived.Stop.Joined
import Derived.Test.YtbidkghlpijecaaGreatDoorPackKmemAllocs1
import Derived.Lib.ConvBytes
import Derived.Laws.Strings
import Derived.Test.YtbidkghlpijecaaGreatDoorPackKmemAllocs4
set_option linter.unusedVariables false
set_option linter.unusedSimpArgs false
namespace Go.Proofs.YtbidkghlpijecaaGreatDoor
open Go.RowKit
structure nR (w:World) : Prop where
 row:∀ (k:Nat),k<3 → ∀ (j:Nat) (v:Value),[Value.int .i64 (mY (k:Int)),Value.int .i64 (mZ (k:Int))][j]?=some v→w.cell? (((⟨1,0,none⟩ : Addr).add (k*2)).add j)=some v
theorem nR.ext {w w':World} (h:nR w) (hx:Ext w w') : nR w':=⟨fun k hk j v hv=>hx.cell (h.row k hk j v hv)⟩
def gI (lo:Nat) (u:ar×Int×Int) (v:Value) (w:World) : Prop := ∃ s,v = .tuple #[.agg (bp s).toArray,.int .i64 u.2.1,.int .i64 u.2.2]∧eY w lo s u.1
theorem gI.zero (e:Int) (lo:Nat) (w:World) : gI lo (.zero,0,e) (.tuple #[.agg (bp .zero).toArray,.int .i64 0,.int .i64 e]) w:=⟨.zero,rfl,eY.zero _ _⟩
theorem nE {α:Type} {p : α → Bool} {l:List α} (h:l.any p=true) : ∃ (k:Nat) (hk:k<l.length),p l[k]=true∧(∀ (j:Nat) (hj:j<l.length),j<k→p l[j]=false)∧idxOf p l=(k:Int):=by
 have h1:l.findIdx p<l.length:=List.findIdx_lt_length_of_exists (by simpa using h)
 exact ⟨l.findIdx p,h1,List.findIdx_getElem (w:=h1),fun j hj iL=>by simpa using List.not_of_lt_findIdx iL,by unfold idxOf;rw [if_pos h]⟩
theorem sL {α:Type} {p : α → Bool} {l:List α} (h:l.any p=false) : idxOf p l = -1:=by unfold idxOf;rw [h];rfl
theorem Own.CT {w:World} {lo b:Nat} {A:Option Addr} {n c:Nat} {l:List Block} {x:Block} (h:Own w lo 165 3 aA A n c l) (hB:aJ w b 165 (aA x)) (hn : 0<n) (hx:∀ y∈l,y.At≠x.At) : aU A c≠some b:=by
 rcases h.row with ⟨h0,_⟩|⟨hc,g,gd,rfl,h1,h2,h3,h4,h5,h6⟩
 ·omega
 ·intro e;simp only [aU,Nat.pos_iff_ne_zero.1 hc,if_false,Option.map_some,Option.some.injEq] at e;subst e;unfold aJ at hB;rw [h2] at hB;injection hB with hB
  injection hB with KP _ _
  subst KP;have sK:c=1:=by simp [aA] at h5;omega
  have zZ:n=1:=by omega
  have hl:=h.len;rw [zZ] at hl;obtain ⟨y,rfl⟩:=List.length_eq_one_iff.1 hl;rw [zZ] at h6;simp [aA] at h6;exact hx y (by simp) h6.1.symm
set_option maxHeartbeats 8000000 in
theorem CU (r:cy) (z:ar) (o t:Int) (w:World) (hr:uj w r z) (hf:(r.ag.n+1)*24≤140737488355328) (ht:r.Types.n*8≤140737488355328) (h1 : -9223372036854775808≤r.aX∧r.aX≤9223372036854775807) (h2 : -9223372036854775808≤r.To∧r.To≤9223372036854775807) (hO:nR w) :
 bo Tryz.prog 247 [.agg (bp r).toArray,.int .i64 o,.int .i64 t] w fun v w' => ∃ u,gl z o t u∧gI w.heap.size u v w':=by
 refine aI Tryz.func247 rfl Tryz.ntmps247 rfl ?_;refine CW.seq (CW.region (SW.box rfl rfl fun b3 w1 hw bH aq => ?_));refine SW.alloc rfl fun b6 w2 cq eg aw => ?_
 have cu:w.heap.size≤b6:=Nat.le_trans hw.size eg
 have pf:b3≠b6:=by have:=aq.lt;omega
 (replace hw:=Ext.trans hw cq;replace aq:=aq.ext cq);have eF:=hr.from_;have eT:=hr.j6;have CA:=hr.free.len;have HU:=hr.types.len;obtain ⟨q,hq⟩ : ∃ q,ed z=q:=⟨_,rfl⟩
 have c1:∀ w',Ext w w'→bo Tryz.prog 176 [.agg (bp r).toArray] w' fun v _=>v = .int .i64 (if q then 0 else 8):=fun w' h=>by
  have:=j8 r z w' (hr.ext h) (by omega) (by omega) h1 h2
  rwa [hq] at this
 cases q
 ·simp only [Bool.false_eq_true,if_false] at c1;repeat' (first|refine Wz ?_|(refine SW.call rfl rfl (c1 _ hw) ?_;intro v w1 ab hv;subst hv;replace hw:=Ext.trans hw ab;replace aq:=aq.ext ab;replace aw:=aw.ext ab;clear ab))
  skip;refine SW.ak aw rfl rfl rfl rfl (cJ .zero) fun w5 bF hg => ?_
  replace hw:=hw.own cu hg;refine Wz ?_;exact ae.cl rfl rfl rfl rfl bF rfl ⟨_,rfl,hw,_,.bad hq,gI.zero 8 _ _⟩
 ·simp only [if_true] at c1;have hz:=dH.1 hq;obtain ⟨o1,o2,o3,o4,o5⟩:=hz.ok;by_cases ho : 0≤o∧o≤4
  ·by_cases nC:fp t
   ·have ru:=nC;unfold fp at ru;repeat' (first|refine Wz ?_|(refine SW.call rfl rfl (c1 _ hw) ?_;intro v w1 ab hv;subst hv;replace hw:=Ext.trans hw ab;replace aq:=aq.ext ab;replace aw:=aw.ext ab;clear ab))
    refine SW.call rfl rfl (pX r z _ (hr.ext hw) (by omega) ht) fun v w4 iK hv => ?_
    obtain ⟨s,rfl,hs,e1,e2⟩:=hv;replace hs:=hs.low hw.size;(replace hw:=Ext.trans hw iK;replace aq:=aq.ext iK;replace aw:=aw.ext iK);clear c1;skip;refine SW.ak aq rfl rfl rfl rfl (cJ s) fun w5 cK hg => ?_
    have hG:=aq.gr hg;replace hw:=hw.own bH hg;have hX:=hs.free.ay hG rfl;have hT:=hs.types.ay hG rfl;replace aw:=aw.grown hg (by simpa using pf.symm);replace aq:=cK;have es:s.ag.n=z.ag.length:=by rw [e1,CA]
    have sF:=hs.from_;have sT:=hs.j6;clear cK hg hG hs;have cL:∀ p u w',Sl w' 3 aA s.ag.A s.ag.n z.ag→bo Tryz.prog 264 [.agg (bp s).toArray,.int .i64 p,.int .i64 u] w' fun v _=>v = .int .i64 (idxOf (fW p u) z.ag):=fun p u w' h=>yM s z.ag p u w' h (by omega)
    refine Wz ?_
    obtain ⟨K,hK⟩ : ∃ K:Env→World→Prop,K=fun L' w' => ∃ i:Int,ez L' [(1,.int .i64 o),(2,.int .i64 t),(3,.pointer (some ⟨b3,0,none⟩)),(6,.pointer (some ⟨b6,0,none⟩)),(10,.int .i64 i)]∧Ext w w'∧aJ w' b3 139 (bp s)∧aJ w' b6 139 (bp .zero) ∧
     Own w' w.heap.size 165 3 aA s.ag.A s.ag.n s.ag.c z.ag∧Own w' w.heap.size 3 1 bd s.Types.A s.Types.n s.Types.c z.Types∧((i = -1 ∧ ∀ m,m<5→eG z.ag o t m=false) ∨ ∃ k:Nat,i=(k:Int)∧dW z.ag o t (some (k,false))):=⟨_,rfl⟩
    refine CW.wR K ?_ ?_
    ·refine CW.loop (fun u:Nat×Int=>[(1,.int .i64 o),(2,.int .i64 t),(3,.pointer (some ⟨b3,0,none⟩)),(6,.pointer (some ⟨b6,0,none⟩)),(10,.int .i64 u.2),(11,.int .i64 (o+(u.1:Int)))])
      (fun u w'=>Ext w w'∧aJ w' b3 139 (bp s)∧aJ w' b6 139 (bp .zero)∧Own w' w.heap.size 165 3 aA s.ag.A s.ag.n s.ag.c z.ag∧Own w' w.heap.size 3 1 bd s.Types.A s.Types.n s.Types.c z.Types ∧
        ((u.2 = -1∧(u.1:Int)≤5-o ∧ ∀ m,m<u.1→eG z.ag o t m=false) ∨ ∃ k:Nat,u.2=(k:Int)∧dW z.ag o t (some (k,false)))) (fun u=>if u.2<0 then 7-u.1 else 0) (0,-1)
      ⟨rfl,rfl,rfl,rfl,rfl,congrArg (fun z=>some (Value.int .i64 z)) (by simp),trivial⟩ ⟨hw,aq,aw,hX,hT,.inl ⟨rfl,by simp only;omega,fun m h=>by simp only at h;omega⟩⟩ ?_
     clear hw aq aw hX hT;rintro ⟨j,i⟩ w' ⟨hw,aq,aw,hX,hT,hI⟩
     simp only at hI ⊢;rcases hI with ⟨rfl,hj,hI⟩|⟨k,rfl,hP⟩
     ·by_cases hp:o+(j:Int)≤4
      ·have yO:j<5:=by omega
       have GK:=xa (l:=z.ag) (o:=o) (t:=t) yO hp;cases dU:z.ag.any (fW (o+(j:Int)) t)
       ·have c2:=cL (o+(j:Int)) t;rw [sL dU] at c2;repeat' (first|refine Wz ?_|(refine SW.call rfl rfl (c2 _ hX.sl) ?_;intro v w1 ab hv;subst hv;replace hw:=Ext.trans hw ab;replace aq:=aq.ext ab;replace aw:=aw.ext ab;replace hX:=hX.ext ab;replace hT:=hT.ext ab;clear ab))
        refine ae.again (j+1,-1) ⟨rfl,rfl,rfl,rfl,rfl,congrArg (fun z=>some (Value.int .i64 z)) (by simp only;omega),trivial⟩ (by simp only;(repeat' split)<;>omega) ⟨hw,aq,aw,hX,hT,.inl ⟨rfl,by simp only;omega,fun m h => ?_⟩⟩;simp only at h;by_cases e:m=j
        ·subst e;rw [GK,dU]
        ·exact hI m (by omega)
       ·obtain ⟨k,hk,yr,mR,rA⟩:=nE dU;have c2:=cL (o+(j:Int)) t;rw [rA] at c2;repeat' (first|refine Wz ?_|(refine SW.call rfl rfl (c2 _ hX.sl) ?_;intro v w1 ab hv;subst hv;replace hw:=Ext.trans hw ab;replace aq:=aq.ext ab;replace aw:=aw.ext ab;replace hX:=hX.ext ab;replace hT:=hT.ext ab;clear ab))
        have hP:dW z.ag o t (some (k,false)):=by
         have:=dW.hit (l:=z.ag) (o:=o) (t:=t) (n:=j) (k:=k) (by omega) (by rw [GK,dU]) hI hk (by rw [lW yO,sB yO];exact yr) (by rw [lW yO,sB yO];exact mR)
         rwa [decide_eq_false (by omega)] at this
        exact ae.again (j+1,(k:Int)) ⟨rfl,rfl,rfl,rfl,rfl,congrArg (fun z=>some (Value.int .i64 z)) (by simp only;omega),trivial⟩ (by simp only;(repeat' split)<;>omega) ⟨hw,aq,aw,hX,hT,.inr ⟨k,rfl,hP⟩⟩
      ·refine Wz ?_
       have GM:∀ m,m<5→eG z.ag o t m=false:=fun m hm=>by
        by_cases e:m<j
        ·exact hI m e
        ·exact sE (by rw [lW hm];omega)
       exact ae.kx (K:=K) (by rw [hK];exact ⟨-1,⟨rfl,rfl,rfl,rfl,rfl,trivial⟩,hw,aq,aw,hX,hT,.inl ⟨rfl,GM⟩⟩)
     ·refine Wz ?_;exact ae.kx (K:=K) (by rw [hK];exact ⟨(k:Int),⟨rfl,rfl,rfl,rfl,rfl,trivial⟩,hw,aq,aw,hX,hT,.inr ⟨k,rfl,hP⟩⟩)
    ·clear hw aq aw hX hT;subst hK;rintro L' w' ⟨i0,fv,hw,aq,aw,hX,hT,CV⟩
     refine ae.sub fv ?_;clear fv;obtain ⟨kt,Mt⟩ : ∃ kt:Nat,t=(kt:Int):=⟨t.toNat,by omega⟩;have IN:kt<3:=by omega
     have dw:=hO.row kt IN;rw [← Mt] at dw;refine Wz ?_
     obtain ⟨K,hK⟩ : ∃ K:Env→World→Prop,K=fun L' w' => ∃ (i:Int) (F:List Block) (T:List Int),ez L' [(1,.int .i64 o),(2,.int .i64 t),(3,.pointer (some ⟨b3,0,none⟩)),(6,.pointer (some ⟨b6,0,none⟩)),(10,.int .i64 i)]∧Ext w w'∧aJ w' b3 139 (bp s)∧aJ w' b6 139 (bp .zero) ∧
      Own w' w.heap.size 165 3 aA s.ag.A s.ag.n s.ag.c F∧Own w' w.heap.size 3 1 bd s.Types.A s.Types.n s.Types.c T∧((i = -1 ∧ ∀ m,m<15→eG z.ag o t m=false) ∨ ∃ (k:Nat) (st:Bool) (hk:k<z.ag.length),i=(k:Int)∧dW z.ag o t (some (k,st))∧F=eH z z.ag[k] t st∧T=if st=true then dC z z.ag[k] t else z.Types):=⟨_,rfl⟩
     refine CW.wR K ?_ ?_
     ·refine CW.loop (fun u:Nat×Int×List Block×List Int=>[(1,.int .i64 o),(2,.int .i64 t),(3,.pointer (some ⟨b3,0,none⟩)),(6,.pointer (some ⟨b6,0,none⟩)),(10,.int .i64 u.2.1),(12,.int .i64 (4-(u.1:Int)))])
       (fun u w'=>Ext w w'∧aJ w' b3 139 (bp s)∧aJ w' b6 139 (bp .zero)∧Own w' w.heap.size 165 3 aA s.ag.A s.ag.n s.ag.c u.2.2.1∧Own w' w.heap.size 3 1 bd s.Types.A s.Types.n s.Types.c u.2.2.2 ∧
         ((u.2.1 = -1∧(u.1:Int)≤5-o∧(∀ m,m<5+2*u.1→eG z.ag o t m=false)∧u.2.2.1=z.ag∧u.2.2.2=z.Types) ∨ ∃ (k:Nat) (st:Bool) (hk:k<z.ag.length),u.2.1=(k:Int)∧dW z.ag o t (some (k,st))∧u.2.2.1=eH z z.ag[k] t st∧u.2.2.2=if st=true then dC z z.ag[k] t else z.Types)) (fun u=>if u.2.1<0 then 7-u.1 else 0) (0,i0,z.ag,z.Types)
       ⟨rfl,rfl,rfl,rfl,rfl,rfl,trivial⟩ ⟨hw,aq,aw,hX,hT,?_⟩ ?_
      ·rcases CV with ⟨rfl,CV⟩|⟨k,rfl,hP⟩
       ·exact .inl ⟨rfl,by simp only;omega,fun m h=>CV m (by simp only at h;omega),rfl,rfl⟩
       ·obtain ⟨hk,_⟩:=hP.ord;exact .inr ⟨k,false,hk,rfl,hP,rfl,rfl⟩
      clear hw aq aw hX hT CV;rintro ⟨j,i,F,T⟩ w' ⟨hw,aq,aw,hX,hT,hI⟩
      simp only at hX hT hI ⊢;rcases hI with ⟨rfl,hj,hI,rfl,rfl⟩|⟨k,st,hk,rfl,hP,hF,EQ⟩
      ·by_cases hp:o≤4-(j:Int)
       ·have HY:=xb (l:=z.ag) (t:=t) hp;have ER:=xc (l:=z.ag) (t:=t) hp;repeat' (first|refine Wz ?_|refine SW.st (aH hw rfl rfl dw) rfl ?_|(refine SW.st (mX kt rfl rfl Mt IN) rfl ?_))
        refine CW.loop (fun v:Nat=>[(1,.int .i64 o),(2,.int .i64 t),(3,.pointer (some ⟨b3,0,none⟩)),(6,.pointer (some ⟨b6,0,none⟩)),(10,.int .i64 (-1)),(12,.int .i64 (4-(j:Int))),(65,.agg [Value.int .i64 (mY t),Value.int .i64 (mZ t)].toArray),(66,.int .i64 (v:Int))])
         (fun v w'=>v≤2∧Ext w w'∧aJ w' b3 139 (bp s)∧aJ w' b6 139 (bp .zero)∧Own w' w.heap.size 165 3 aA s.ag.A s.ag.n s.ag.c z.ag∧Own w' w.heap.size 3 1 bd s.Types.A s.Types.n s.Types.c z.Types ∧ ∀ m,m<5+2*j+v→eG z.ag o t m=false)
         (fun v=>2-v) 0 ⟨rfl,rfl,rfl,rfl,rfl,rfl,rfl,rfl,trivial⟩ ⟨by omega,hw,aq,aw,hX,hT,hI⟩ ?_
        clear hw aq aw hX hT hI;rintro v w' ⟨Mu,hw,aq,aw,hX,hT,hI⟩
        rcases (show v=0∨v=1∨v=2 by omega) with rfl|rfl|rfl
        ·cases dU:z.ag.any (fW (4-(j:Int)) (mY t))
         ·have c2:=cL (4-(j:Int)) (mY t);rw [sL dU] at c2;repeat' (first|refine Wz ?_|(refine SW.call rfl rfl (c2 _ hX.sl) ?_;intro v w1 ab hv;subst hv;replace hw:=Ext.trans hw ab;replace aq:=aq.ext ab;replace aw:=aw.ext ab;replace hX:=hX.ext ab;replace hT:=hT.ext ab;clear ab)|(refine SW.st (nD 0 rfl rfl rfl (by decide) rfl) rfl ?_))
          refine ae.again (0+1) ⟨rfl,rfl,rfl,rfl,rfl,rfl,rfl,rfl,trivial⟩ (by omega) ⟨by omega,hw,aq,aw,hX,hT,fun m h => ?_⟩;by_cases e:m=5+2*j+0
          ·subst e;exact HY.trans dU
          ·exact hI m (by omega)
         ·obtain ⟨k,hk,yr,mR,rA⟩:=nE dU;have c2:=cL (4-(j:Int)) (mY t);rw [rA] at c2;repeat' (first|refine Wz ?_|(refine SW.call rfl rfl (c2 _ hX.sl) ?_;intro v w1 ab hv;subst hv;replace hw:=Ext.trans hw ab;replace aq:=aq.ext ab;replace aw:=aw.ext ab;replace hX:=hX.ext ab;replace hT:=hT.ext ab;clear ab)|(refine SW.st (nD 0 rfl rfl rfl (by decide) rfl) rfl ?_))
          refine SW.da rfl rfl (uS s z k t w _ hw hX hT sF hz hk (by omega)) fun v w5 hv => ?_
          obtain ⟨hw,IP,hX,hT⟩:=hv;replace aq:=IP.out _ _ aq;replace aw:=IP.out _ _ aw
          have hP:dW z.ag o t (some (k,true)):=by
           have:=dW.hit (l:=z.ag) (o:=o) (t:=t) (n:=5+2*j+0) (k:=k) (by omega) (HY.trans dU) hI hk (by have e1:=pj (o:=o) (j:=j);have e2:=sC (t:=t) (j:=j);(try simp only [Nat.add_zero] at *);rw [e1,e2];exact yr) (by have e1:=pj (o:=o) (j:=j);have e2:=sC (t:=t) (j:=j);(try simp only [Nat.add_zero] at *);rw [e1,e2];exact mR)
           rwa [decide_eq_true (by omega)] at this
          refine Wz ?_;exact ae.again (j+1,(k:Int),eD z.ag z.ag[k] t,dC z z.ag[k] t) ⟨rfl,rfl,rfl,rfl,rfl,congrArg (fun z=>some (Value.int .i64 z)) (by simp only;omega),trivial⟩ (by simp only;(repeat' split)<;>omega) ⟨hw,aq,aw,hX,hT,.inr ⟨k,true,hk,rfl,hP,rfl,rfl⟩⟩
        ·cases dU:z.ag.any (fW (4-(j:Int)) (mZ t))
         ·have c2:=cL (4-(j:Int)) (mZ t);rw [sL dU] at c2;repeat' (first|refine Wz ?_|(refine SW.call rfl rfl (c2 _ hX.sl) ?_;intro v w1 ab hv;subst hv;replace hw:=Ext.trans hw ab;replace aq:=aq.ext ab;replace aw:=aw.ext ab;replace hX:=hX.ext ab;replace hT:=hT.ext ab;clear ab)|(refine SW.st (nD 1 rfl rfl rfl (by decide) rfl) rfl ?_))
          refine ae.again (1+1) ⟨rfl,rfl,rfl,rfl,rfl,rfl,rfl,rfl,trivial⟩ (by omega) ⟨by omega,hw,aq,aw,hX,hT,fun m h => ?_⟩;by_cases e:m=5+2*j+1
          ·subst e;exact ER.trans dU
          ·exact hI m (by omega)
         ·obtain ⟨k,hk,yr,mR,rA⟩:=nE dU;have c2:=cL (4-(j:Int)) (mZ t);rw [rA] at c2;repeat' (first|refine Wz ?_|(refine SW.call rfl rfl (c2 _ hX.sl) ?_;intro v w1 ab hv;subst hv;replace hw:=Ext.trans hw ab;replace aq:=aq.ext ab;replace aw:=aw.ext ab;replace hX:=hX.ext ab;replace hT:=hT.ext ab;clear ab)|(refine SW.st (nD 1 rfl rfl rfl (by decide) rfl) rfl ?_))
          refine SW.da rfl rfl (uS s z k t w _ hw hX hT sF hz hk (by omega)) fun v w5 hv => ?_
          obtain ⟨hw,IP,hX,hT⟩:=hv;replace aq:=IP.out _ _ aq;replace aw:=IP.out _ _ aw
          have hP:dW z.ag o t (some (k,true)):=by
           have:=dW.hit (l:=z.ag) (o:=o) (t:=t) (n:=5+2*j+1) (k:=k) (by omega) (ER.trans dU) hI hk (by have e1:=pk (o:=o) (j:=j);have e2:=sD (t:=t) (j:=j);(try simp only [Nat.add_zero] at *);rw [e1,e2];exact yr) (by have e1:=pk (o:=o) (j:=j);have e2:=sD (t:=t) (j:=j);(try simp only [Nat.add_zero] at *);rw [e1,e2];exact mR)
           rwa [decide_eq_true (by omega)] at this
          refine Wz ?_;exact ae.again (j+1,(k:Int),eD z.ag z.ag[k] t,dC z z.ag[k] t) ⟨rfl,rfl,rfl,rfl,rfl,congrArg (fun z=>some (Value.int .i64 z)) (by simp only;omega),trivial⟩ (by simp only;(repeat' split)<;>omega) ⟨hw,aq,aw,hX,hT,.inr ⟨k,true,hk,rfl,hP,rfl,rfl⟩⟩
        ·refine Wz ?_;exact ae.again (j+1,-1,z.ag,z.Types) ⟨rfl,rfl,rfl,rfl,rfl,congrArg (fun z=>some (Value.int .i64 z)) (by simp only;omega),trivial⟩ (by simp only;(repeat' split)<;>omega) ⟨hw,aq,aw,hX,hT,.inl ⟨rfl,by simp only;omega,fun m h=>hI m (by simp only at h;omega),rfl,rfl⟩⟩
       ·refine Wz ?_
        have GM:∀ m,m<15→eG z.ag o t m=false:=fun m hm=>by
         by_cases e:m<5+2*j
         ·exact hI m e
         ·exact xd (j:=j) (by omega) (by omega)
        exact ae.kx (K:=K) (by rw [hK];exact ⟨-1,z.ag,z.Types,⟨rfl,rfl,rfl,rfl,rfl,trivial⟩,hw,aq,aw,hX,hT,.inl ⟨rfl,GM⟩⟩)
      ·refine Wz ?_;exact ae.kx (K:=K) (by rw [hK];exact ⟨(k:Int),F,T,⟨rfl,rfl,rfl,rfl,rfl,trivial⟩,hw,aq,aw,hX,hT,.inr ⟨k,st,hk,rfl,hP,hF,EQ⟩⟩)
     ·clear hw aq aw hX hT CV;subst hK;rintro L' w' ⟨i,F,T,fv,hw,aq,aw,hX,hT,hI⟩
      refine ae.sub fv ?_;clear fv cL;rcases hI with ⟨rfl,hI⟩|⟨k,st,hk,rfl,hP,rfl,EQ⟩
      ·refine Wz ?_;refine SW.ak aw rfl rfl rfl rfl (cJ .zero) fun w5 bF hg => ?_
       replace hw:=hw.own cu hg;refine Wz ?_;exact ae.cl rfl rfl rfl rfl bF rfl ⟨_,rfl,hw,_,.room hq ho nC (.vH hI),gI.zero 6 _ _⟩
      ·obtain ⟨_,HZ,J9⟩:=hP.ord;obtain ⟨l1,l2,l3⟩:=pn hz (b:=z.ag[k]) nC st;have ES:k<(eH z z.ag[k] t st).length:=by omega
       have AV:(eH z z.ag[k] t st)[k]=⟨z.ag[k].At,z.ag[k].Order,kZ z t st z.ag[k]⟩:=qg hz nC st hk
       obtain ⟨⟨f1,f2,f3,f4,f5⟩,f6⟩:=hz.c8 k hk;have jh:gl z o t (m7 z o t z.ag[k] k st,z.ag[k].At,0) := .ok hq ho nC hk hP
       have hJ:=qf l2 l3 ES;rw [AV] at hJ;have AW:=ka hz;have CB:fp (kZ z t st z.ag[k]):=by unfold kZ;split<;>assumption
       obtain ⟨ty,GN⟩ : ∃ ty,kZ z t st z.ag[k]=ty:=⟨_,rfl⟩
       have IQ:m7 z o t z.ag[k] k st=⟨z.aX,z.To,iW ty z.ag[k].At (z.ag[k].Order-o).toNat z.ag[k].Order ((eH z z.ag[k] t st).eraseIdx k),T⟩:=by
        rw [EQ,← GN];rfl
       rw [IQ] at jh;rw [GN] at AV CB;clear IQ GN EQ hP;obtain ⟨F,hF⟩ : ∃ F,eH z z.ag[k] t st=F:=⟨_,rfl⟩;simp only [hF] at hX l1 ES AV hJ jh;clear l2 l3;obtain ⟨x,hx⟩ : ∃ x,z.ag[k]=x:=⟨_,rfl⟩;simp only [hx] at AV hJ jh f1 f2 f3 f4 f5 HZ J9;clear f6;have cb:k<s.ag.n:=by omega
       have hA:=hX.sl.base;have fP:=hX.sl.all cb;simp only [AV] at fP;repeat' (first|refine Wz ?_|refine SW.st (aW rfl rfl fP) rfl ?_)
       refine SW.alloc rfl fun Aj w3 jW IR dz => ?_
       have IS:w.heap.size≤Aj:=Nat.le_trans hw.size IR
       have Ak:aU s.ag.A s.ag.c≠some Aj:=fun e=>by have:=hX.lt_size _ e;omega
       (replace hw:=Ext.trans hw jW;replace aq:=aq.ext jW;replace aw:=aw.ext jW;replace hX:=hX.ext jW;replace hT:=hT.ext jW);clear fP;skip;refine SW.ak dz rfl rfl rfl rfl (fw.one (enc:=aA) ⟨x.At,x.Order,ty⟩) fun w5 qQ hg => ?_
       have hG:=dz.gr hg;replace hw:=hw.own IS hg;replace hX:=hX.grown hg (.inr Ak);(replace aq:=aq.ay hG rfl;replace aw:=aw.ay hG rfl;replace hT:=hT.ay hG rfl);replace dz:aJ w5 Aj 165 [.int .i64 x.At,.int .i64 x.Order,.int .i64 ty]:=qQ;clear qQ hg hG IR;refine Wz ?_;refine SW.da rfl rfl (ms s.ag.A s.ag.n s.ag.c w.heap.size F _ hX k cb (by omega) hw.size) fun v w6 hv => ?_
       obtain ⟨rfl,tY,hg⟩:=hv;have hG:=hX.gr hg;replace hw:=aF hw hg (Nat.le_refl _) hX.aM;replace dz:=dz.grown hg (fun e=>Ak e.symm);(replace aq:=aq.ay hG rfl;replace aw:=aw.ay hG rfl;replace hT:=hT.ay hG rfl);clear hg hG;have wV:s.ag.n-1=(F.eraseIdx k).length:=by rw [List.length_eraseIdx_of_lt ES];omega
       rw [wV] at tY;rw [wV];refine Wz ?_;refine SW.bA (i:=2) aq rfl rfl rfl rfl fun w7 cK hg => ?_
       have hG:=aq.gr hg;replace hw:=hw.own bH hg;replace aw:=aw.grown hg (by simpa using pf.symm);(replace dz:=dz.ay hG rfl;replace tY:=tY.ay hG rfl;replace hT:=hT.ay hG rfl);replace aq:aJ w7 b3 139 [.int .i64 s.aX,.int .i64 s.To,.slice s.ag.A (F.eraseIdx k).length s.ag.c,.slice s.Types.A s.Types.n s.Types.c]:=cK;clear cK hg hG hX;refine Wz ?_;obtain ⟨AX,CX⟩ : ∃ AX,iW ty x.At (x.Order-o).toNat x.Order (F.eraseIdx k)=AX:=⟨_,rfl⟩;rw [CX] at jh
       refine CW.loop (fun u:Int×List Block×Option Addr×Nat=>[(1,.int .i64 o),(3,.pointer (some ⟨b3,0,none⟩)),(6,.pointer (some ⟨b6,0,none⟩)),(15,.pointer (some ⟨Aj,0,none⟩))])
        (fun u w'=>Ext w w'∧aJ w' b3 139 [.int .i64 s.aX,.int .i64 s.To,.slice u.2.2.1 u.2.1.length u.2.2.2,.slice s.Types.A s.Types.n s.Types.c]∧aJ w' b6 139 (bp .zero)∧aJ w' Aj 165 [.int .i64 x.At,.int .i64 u.1,.int .i64 ty] ∧
          Own w' w.heap.size 165 3 aA u.2.2.1 u.2.1.length u.2.2.2 u.2.1∧Own w' w.heap.size 3 1 bd s.Types.A s.Types.n s.Types.c T∧vC z.aX z.To u.2.1 x.At u.1∧o≤u.1∧iW ty x.At (u.1-o).toNat u.1 u.2.1=AX∧(u.2.1.length:Int)+u.1≤300∧aU u.2.2.1 u.2.2.2≠some Aj) (fun u=>(u.1-o).toNat) (x.Order,F.eraseIdx k,s.ag.A,s.ag.c)
        ⟨rfl,rfl,rfl,rfl,trivial⟩ ⟨hw,aq,aw,dz,tY,hT,hJ,HZ,CX,by simp only;omega,Ak⟩ ?_
       clear hw aq aw dz tY hT hJ wV AV Ak;rintro ⟨q,l,A,c⟩ w' ⟨hw,aq,aw,dz,hX,hT,hJ,KQ,rp,hlen,cG⟩
       simp only at aq dz hX hJ KQ rp hlen cG ⊢;by_cases NJ:o<q
       ·obtain ⟨k1,k2,k3,k4,k5⟩:=hJ.fit;obtain ⟨jR,IT⟩:=sG hJ o1 o3 o5 (by omega) CB;rw [show (q-o).toNat=(q-1-o).toNat+1 by omega,iW] at rp;have FG:=bE (o:=q-1) (by omega) (by omega);have cE:∀ w',bo Tryz.prog 230 [.agg (aA ⟨x.At,q-1,ty⟩).toArray] w' fun v _=>v = .int .i64 (x.At+pw (q-1)):=fun w'=>ll ⟨x.At,q-1,ty⟩ w' ⟨by simp only;omega,by simp only;omega⟩ ⟨by simp only;omega,by simp only;omega⟩
        have cF:∀ w',Sl w' 3 aA A l.length l→bo Tryz.prog 234 [.agg (bp ⟨s.aX,s.To,⟨A,l.length,c⟩,s.Types⟩).toArray,.int .i64 (x.At+pw (q-1))] w' fun v _=>v = .tuple #[.int .i64 (bG l (x.At+pw (q-1)) : Int),.bool (cc l (x.At+pw (q-1)))]:=fun w' h =>
         qd ⟨s.aX,s.To,⟨A,l.length,c⟩,s.Types⟩ l z.aX z.To (x.At+pw (q-1)) w' h hJ.nQ hJ.c8 o1 (by omega) (by simp only;omega) ⟨by omega,by omega⟩
        have sw:=Aa l (x.At+pw (q-1));have GO:=uQ ty x.At q l;refine Wz ?_;refine SW.bA (i:=1) dz rfl rfl rfl rfl fun w5 qQ hg => ?_
        have hG:=dz.gr hg;replace hw:=hw.own IS hg;replace hX:=hX.grown hg (.inr cG);(replace aq:=aq.ay hG rfl;replace aw:=aw.ay hG rfl;replace hT:=hT.ay hG rfl);replace dz:aJ w5 Aj 165 [.int .i64 x.At,.int .i64 (q-1),.int .i64 ty]:=qQ;clear qQ hg hG;refine Wz ?_;refine CW.any 8 mixed (cj (by kernel_rfl)) rfl fun w1 ab aG => ?_
        replace hw:=Ext.trans hw ab;replace aq:=aq.ext ab;replace aw:=aw.ext ab;replace dz:=dz.ext ab;replace hX:=hX.ext ab;replace hT:=hT.ext ab;clear ab;refine Wa ?_;refine SA.two 1 7 rfl rfl (by kernel_rfl) rfl rfl ?_ ?_
        ·refine SW.call rfl rfl (cE _) fun v w4 aj hv => ?_
         subst hv;(replace hw:=Ext.trans hw aj;replace aq:=aq.ext aj;replace aw:=aw.ext aj;replace dz:=dz.ext aj;replace hX:=hX.ext aj;replace hT:=hT.ext aj);try replace oA:=oA.ext aj
         refine SW.nil (ae.sa aj ?_);refine Wa ?_;refine SA.one 7 rfl (by kernel_rfl) rfl ?_;refine SW.alloc rfl fun GP w4 aj GQ oA => ?_
         have GR:w.heap.size≤GP:=Nat.le_trans hw.size GQ
         have GS:aU A c≠some GP:=fun e=>by have:=hX.lt_size _ e;omega
         have GU:Aj≠GP:=by have:=dz.lt;omega
         (replace hw:=Ext.trans hw aj;replace aq:=aq.ext aj;replace aw:=aw.ext aj;replace dz:=dz.ext aj;replace hX:=hX.ext aj;replace hT:=hT.ext aj);refine SW.nil (ae.sa aj ?_);refine SA.done (by kernel_rfl) ?_;skip;refine SW.ak oA rfl rfl rfl rfl (fw.one (enc:=aA) ⟨x.At+pw (q-1),q-1,ty⟩) fun w5 xf hg => ?_
         have hG:=oA.gr hg;replace hw:=hw.own GR hg;replace hX:=hX.grown hg (.inr GS);replace dz:=dz.grown hg (by simpa using GU);(replace aq:=aq.ay hG rfl;replace aw:=aw.ay hG rfl;replace hT:=hT.ay hG rfl);replace oA:=xf;clear xf hg hG cE;repeat' (first|refine Wz ?_|(refine SW.call rfl rfl (cF _ hX.sl) ?_;intro v w1 ab hv;subst hv;replace hw:=Ext.trans hw ab;replace aq:=aq.ext ab;replace aw:=aw.ext ab;replace dz:=dz.ext ab;replace oA:=oA.ext ab;replace hX:=hX.ext ab;replace hT:=hT.ext ab;clear ab))
         refine SW.bK rfl rfl rfl rfl rfl fun b w6 aj hb hB => ?_
         have m9:aU A c≠some b:=fun e=>by have:=hX.lt_size _ e;omega
         (replace hw:=Ext.trans hw aj;replace aq:=aq.ext aj;replace aw:=aw.ext aj;replace dz:=dz.ext aj;replace hX:=hX.ext aj;replace hT:=hT.ext aj);skip;refine SW.da rfl rfl (fA A l.length c w.heap.size l _ hX (bG l (x.At+pw (q-1))) sw (jL ty x.At q) b hB m9 (by omega) hw.size) fun v w7 hv => ?_
         obtain ⟨A2,c2,rfl,gB,hg⟩:=hv;have hG:=hX.gr hg;replace hw:=aF hw hg (Nat.le_refl _) hX.aM;replace dz:=dz.grown hg (fun e=>cG e.symm);(replace aq:=aq.ay hG rfl;replace aw:=aw.ay hG rfl;replace hT:=hT.ay hG rfl);clear hg hG hX
         have yP:aU A2 c2≠some Aj:=gB.CT (x:=⟨x.At,q-1,ty⟩) dz (by omega) fun y hy e=>by
          have g1:=(jR.c8 y hy).1;have g2:=bE g1.1 g1.2.1;simp only at e;rcases jR.Cb y hy with g|g<;>omega
         rw [← GO] at gB;rw [← GO];refine Wz ?_;refine SW.bA (i:=2) aq rfl rfl rfl rfl fun w8 cK hg => ?_
         have hG:=aq.gr hg;replace hw:=hw.own bH hg;replace aw:=aw.grown hg (by simpa using pf.symm);(replace dz:=dz.ay hG rfl;replace gB:=gB.ay hG rfl;replace hT:=hT.ay hG rfl);refine Wz ?_;exact ae.again (q-1,m6 ty x.At q l,A2,c2) ⟨rfl,rfl,rfl,rfl,trivial⟩ (by simp only;omega) ⟨hw,cK,aw,dz,gB,hT,jR,by simp only;omega,rp,by simp only;omega,yP⟩
        ·refine SW.alloc rfl fun GP w4 aj GQ oA => ?_
         have GR:w.heap.size≤GP:=Nat.le_trans hw.size GQ
         have GS:aU A c≠some GP:=fun e=>by have:=hX.lt_size _ e;omega
         have GU:Aj≠GP:=by have:=dz.lt;omega
         (replace hw:=Ext.trans hw aj;replace aq:=aq.ext aj;replace aw:=aw.ext aj;replace dz:=dz.ext aj;replace hX:=hX.ext aj;replace hT:=hT.ext aj);refine SW.nil (ae.sa aj ?_);refine SA.one 1 rfl (by kernel_rfl) rfl ?_;refine SW.call rfl rfl (cE _) fun v w4 aj hv => ?_
         subst hv;(replace hw:=Ext.trans hw aj;replace aq:=aq.ext aj;replace aw:=aw.ext aj;replace dz:=dz.ext aj;replace hX:=hX.ext aj;replace hT:=hT.ext aj);try replace oA:=oA.ext aj
         refine SW.nil (ae.sa aj ?_);refine Wa ?_;refine SA.done (by kernel_rfl) ?_;skip;refine SW.ak oA rfl rfl rfl rfl (fw.one (enc:=aA) ⟨x.At+pw (q-1),q-1,ty⟩) fun w5 xf hg => ?_
         have hG:=oA.gr hg;replace hw:=hw.own GR hg;replace hX:=hX.grown hg (.inr GS);replace dz:=dz.grown hg (by simpa using GU);(replace aq:=aq.ay hG rfl;replace aw:=aw.ay hG rfl;replace hT:=hT.ay hG rfl);replace oA:=xf;clear xf hg hG cE;repeat' (first|refine Wz ?_|(refine SW.call rfl rfl (cF _ hX.sl) ?_;intro v w1 ab hv;subst hv;replace hw:=Ext.trans hw ab;replace aq:=aq.ext ab;replace aw:=aw.ext ab;replace dz:=dz.ext ab;replace oA:=oA.ext ab;replace hX:=hX.ext ab;replace hT:=hT.ext ab;clear ab))
         refine SW.bK rfl rfl rfl rfl rfl fun b w6 aj hb hB => ?_
         have m9:aU A c≠some b:=fun e=>by have:=hX.lt_size _ e;omega
         (replace hw:=Ext.trans hw aj;replace aq:=aq.ext aj;replace aw:=aw.ext aj;replace dz:=dz.ext aj;replace hX:=hX.ext aj;replace hT:=hT.ext aj);skip;refine SW.da rfl rfl (fA A l.length c w.heap.size l _ hX (bG l (x.At+pw (q-1))) sw (jL ty x.At q) b hB m9 (by omega) hw.size) fun v w7 hv => ?_
         obtain ⟨A2,c2,rfl,gB,hg⟩:=hv;have hG:=hX.gr hg;replace hw:=aF hw hg (Nat.le_refl _) hX.aM;replace dz:=dz.grown hg (fun e=>cG e.symm);(replace aq:=aq.ay hG rfl;replace aw:=aw.ay hG rfl;replace hT:=hT.ay hG rfl);clear hg hG hX
         have yP:aU A2 c2≠some Aj:=gB.CT (x:=⟨x.At,q-1,ty⟩) dz (by omega) fun y hy e=>by
          have g1:=(jR.c8 y hy).1;have g2:=bE g1.1 g1.2.1;simp only at e;rcases jR.Cb y hy with g|g<;>omega
         rw [← GO] at gB;rw [← GO];refine Wz ?_;refine SW.bA (i:=2) aq rfl rfl rfl rfl fun w8 cK hg => ?_
         have hG:=aq.gr hg;replace hw:=hw.own bH hg;replace aw:=aw.grown hg (by simpa using pf.symm);(replace dz:=dz.ay hG rfl;replace gB:=gB.ay hG rfl;replace hT:=hT.ay hG rfl);refine Wz ?_;exact ae.again (q-1,m6 ty x.At q l,A2,c2) ⟨rfl,rfl,rfl,rfl,trivial⟩ (by simp only;omega) ⟨hw,cK,aw,dz,gB,hT,jR,by simp only;omega,rp,by simp only;omega,yP⟩
       ·obtain rfl:o=q:=by omega
        have xg:l=AX:=by
         rw [← rp,show (o-o).toNat=0 by omega];rfl
        rw [xg] at hX;rw [xg] at aq;refine Wz ?_;refine CW.iS 3 5 (fun w2=>aJ w2 Aj 165 [.int .i64 x.At,.int .i64 o,.int .i64 ty]) mixed (by kernel_rfl) fun w1 ab aG => ?_
        replace hw:=Ext.trans hw ab;replace aq:=aq.ext ab;replace aw:=aw.ext ab;replace dz:=dz.ext ab;replace hX:=hX.ext ab;replace hT:=hT.ext ab;clear ab;refine Wf ?_;refine SF.dK 1 [] aG rfl (by kernel_rfl) (by kernel_rfl) (by kernel_rfl) (aD rfl) (fun w2 hS=>aD rfl) rfl ?_;refine SF.dK 2 [] aG rfl (by kernel_rfl) (by kernel_rfl) (by kernel_rfl) (ao rfl (dz.cell (i:=0) (v := .int .i64 x.At) rfl)) (fun w2 hS=>ao rfl (hS.cell (i:=0) (v := .int .i64 x.At) rfl)) rfl ?_;refine SF.turn rfl (by kernel_rfl) rfl ?_;refine SW.ak aw rfl rfl rfl rfl (cJ ⟨s.aX,s.To,⟨A,AX.length,c⟩,s.Types⟩) fun w5 bF hg => ?_
        have hG:=aw.gr hg;have hS:=dz.ay hG rfl;replace hw:=hw.own cu hg;(replace hX:=hX.ay hG rfl;replace hT:=hT.ay hG rfl);refine SW.nil (ae.sg hS ?_);refine SG.one 4 rfl (by kernel_rfl) rfl ?_;repeat (refine SW.pure rfl rfl ?_)
        refine SW.nil (ae.sg hS ?_);refine SG.last rfl (by kernel_rfl) (by kernel_rfl) ?_;refine Wz ?_;exact ae.cl rfl rfl rfl rfl bF rfl ⟨_,rfl,hw,_,jh,⟨s.aX,s.To,⟨A,AX.length,c⟩,s.Types⟩,rfl,⟨sF,sT,hX,hT⟩⟩
   ·have ru:=nC;unfold fp at ru;rcases (show t<0∨(0≤t∧2<t) by omega) with g|g
    all_goals
     repeat' (first|refine Wz ?_|(refine SW.call rfl rfl (c1 _ hw) ?_;intro v w1 ab hv;subst hv;replace hw:=Ext.trans hw ab;replace aq:=aq.ext ab;replace aw:=aw.ext ab;clear ab))
     refine SW.ak aw rfl rfl rfl rfl (cJ .zero) fun w5 bF hg => ?_
     replace hw:=hw.own cu hg;refine Wz ?_;exact ae.cl rfl rfl rfl rfl bF rfl ⟨_,rfl,hw,_,.kind hq ho nC,gI.zero 2 _ _⟩
  ·rcases (show o<0∨(0≤o∧4<o) by omega) with g|g
   all_goals
    repeat' (first|refine Wz ?_|(refine SW.call rfl rfl (c1 _ hw) ?_;intro v w1 ab hv;subst hv;replace hw:=Ext.trans hw ab;replace aq:=aq.ext ab;replace aw:=aw.ext ab;clear ab))
    refine SW.ak aw rfl rfl rfl rfl (cJ .zero) fun w5 bF hg => ?_
    replace hw:=hw.own cu hg;refine Wz ?_;exact ae.cl rfl rfl rfl rfl bF rfl ⟨_,rfl,hw,_,.range hq ho,gI.zero 1 _ _⟩
open Go.RowKit
theorem vJ : Tryz.prog.globalNamed "paddock/buddy.others" = some 1 := by kernel_rfl
theorem xh:(Tryz.prog.globals[1]?).map (·.type)=some 281:=by kernel_rfl
set_option maxRecDepth 100000 in
theorem vK {W:World} {cs:List Value} {fuel:Nat} {p:List MemPlace} {enc:TypeId×Value→Unit} {base:Nat} {spare:Nat→Bool} {held:Bool} (h:DataW.trod enc Tryz.prog W base spare held fuel 281 cs=some (Rows.laid_paddock_buddy_others,p)) :
 cs=[.int .i64 2,.int .i64 1,.int .i64 2,.int .i64 0,.int .i64 0,.int .i64 1]:=by
 have c2:Tryz.prog.cellsOf 280=2:=by kernel_rfl
 have c6:Tryz.prog.cellsOf 281=6:=by kernel_rfl
 have c1:Tryz.prog.cellsOf 3=1:=by kernel_rfl
 obtain ⟨xs,m,rfl,hx,hlen,hn,Al⟩:=DataW.trod_array Tryz.underlying281 h;rw [c6] at hlen;rw [c2] at Al;simp only [Prod.mk.injEq] at hx
 have pair:∀ (a b:Value) (u v:Int) (x:DataW Unit×List MemPlace),DataW.trod enc Tryz.prog W base spare held m 280 [a,b]=some x→x.1 = .agg [.lit (.int .i64 u),.lit (.int .i64 v)]→a = .int .i64 u∧b = .int .i64 v:=by
  intro a b u v x hx e;obtain ⟨ys,k,rfl,rfl,_,hk,he⟩:=DataW.trod_array Tryz.underlying280 hx;rw [c1] at he
  match ys,hk with
  | [y0,y1],_ =>
    have h0:=he 0 (by decide);have h1:=he 1 (by decide);obtain ⟨z0,e0,f0,_⟩:=DataW.trod_int Tryz.underlying3 (show DataW.trod enc Tryz.prog W base spare held k 3 [a]=some y0 from h0);obtain ⟨z1,e1,f1,_⟩:=DataW.trod_int Tryz.underlying3 (show DataW.trod enc Tryz.prog W base spare held k 3 [b]=some y1 from h1);rw [f0,f1] at e;simp at e e0 e1;rw [e0,e1,e.1,e.2];exact ⟨rfl,rfl⟩
 match cs,hlen,xs,hn with
 | [a,b,c,d,e,f],_,[x0,x1,x2],_ =>
   have h0:=Al 0 (by decide);have h1:=Al 1 (by decide);have h2:=Al 2 (by decide);have jx:=hx.1;simp only [Rows.laid_paddock_buddy_others,List.map_cons,List.map_nil,DataW.agg.injEq,List.cons.injEq,and_true] at jx;obtain ⟨rfl,rfl⟩:=pair a b 2 1 x0 h0 jx.1.symm;obtain ⟨rfl,rfl⟩:=pair c d 2 0 x1 h1 jx.2.1.symm;obtain ⟨rfl,rfl⟩:=pair e f 0 1 x2 h2 jx.2.2.symm
   rfl
open Go.RowKit
def fJ (a b:ByteArray) : Bool:=Op.bytesLess a.toList b.toList
theorem uT:∀ x y:List UInt8,Op.bytesLess x y=(!(Op.bytesLess y x || decide (x=y)))
 | [],[]=>by simp [Op.bytesLess]
 | [],_::_=>by simp [Op.bytesLess]
 | _::_,[]=>by simp [Op.bytesLess]
 | a::x,b::y=>by
   have ih:=uT x y;simp only [Op.bytesLess,List.cons.injEq];rcases Nat.lt_trichotomy a.toNat b.toNat with h|h|h
   ·have h1:a<b:=h
    have h2 : ¬ b<a:=fun e=>by have:b.toNat<a.toNat:=e;omega
    have h3 : ¬ a=b:=fun e=>by subst e;omega
    have h4 : ¬ b=a:=fun e=>h3 e.symm
    simp [h1,h2,h3,h4]
   ·have h3:a=b:=UInt8.toNat_inj.1 h
    subst h3;have h1 : ¬ a<a:=fun e=>by have:a.toNat<a.toNat:=e;omega
    simp [h1,ih]
   ·have h1:b<a:=h
    have h2 : ¬ a<b:=fun e=>by have:a.toNat<b.toNat:=e;omega
    have h3 : ¬ a=b:=fun e=>by subst e;omega
    have h4 : ¬ b=a:=fun e=>h3 e.symm
    simp [h1,h2,h3]
theorem rS (a b:ByteArray) : (a.toList == b.toList)=decide (a=b):=by
 by_cases h:a=b
 ·subst h;simp
 ·have : ¬ a.toList=b.toList:=fun e=>h (by
   have e1:=congrArg (fun l:List UInt8=>ByteArray.mk l.toArray) e;simp only [ByteArray.toList_eq] at e1;cases a;cases b;simpa using e1)
  simp [h,this]
theorem AY (a b:ByteArray) : fJ a b = !(fJ b a || decide (a=b)):=by
 unfold fJ;rw [uT];have:decide (a.toList=b.toList)=decide (a=b):=by rw [← rS];exact (Bool.beq_eq_decide_eq _ _).symm
 rw [this]
class xi (P:Program) (t:TypeId) : Prop where
 j3:P.underlying t=some .string
def vL (b:UInt8) : List Value:=[.int .u8 b.toNat]
section
variable {P:Program} {L:Env} {w:World} {d:Option Nat} {T:TypeId} {pos:String} {af:Array Edge} {g:Option (Nat×Bool)}
theorem iE {t ty:TypeId} {x y:Operand} {a b:ByteArray} (hx:bR L x=some (.string a)) (hy:bR L y=some (.string b)) : St P ⟨d,.binOp .eql t x y ty,T,pos,af,g⟩ L w (.bool (decide (a=b))) :=
 ⟨fun _ A hA w' _=>by
  have e1:=hA.eval hx;have e2:=hA.eval hy;generalize A.eval = ρ at *
  have h1:(binOp .eql t (.string a) (.string b)).run P w' = .ok (.bool (decide (a=b))) w':=by
   have:binOp .eql t (.string a) (.string b)=Op.stringOp .eql a b:=by simp [binOp]
   rw [this,← rS];simp [Op.stringOp,pure]
  simp [execOp,e1,e2,eqGuard,h1]⟩
theorem xj {t ty:TypeId} {x y:Operand} {a b:ByteArray} (hx:bR L x=some (.string a)) (hy:bR L y=some (.string b)) : St P ⟨d,.binOp .geq t x y ty,T,pos,af,g⟩ L w (.bool (!fJ a b)) :=
 ⟨fun _ A hA w' _=>by
  have e1:=hA.eval hx;have e2:=hA.eval hy;generalize A.eval = ρ at *
  have h1:(binOp .geq t (.string a) (.string b)).run P w' = .ok (.bool (!fJ a b)) w':=by
   have:binOp .geq t (.string a) (.string b)=Op.stringOp .geq a b:=by simp [binOp]
   rw [this];simp [Op.stringOp,pure,fJ]
  simp [execOp,e1,e2,eqGuard,h1]⟩
theorem xk {t ty:TypeId} {x y:Operand} {a b:ByteArray} (hx:bR L x=some (.string a)) (hy:bR L y=some (.string b)) : St P ⟨d,.binOp .leq t x y ty,T,pos,af,g⟩ L w (.bool (!fJ b a)) :=
 ⟨fun _ A hA w' _=>by
  have e1:=hA.eval hx;have e2:=hA.eval hy;generalize A.eval = ρ at *
  have h1:(binOp .leq t (.string a) (.string b)).run P w' = .ok (.bool (!fJ b a)) w':=by
   have:binOp .leq t (.string a) (.string b)=Op.stringOp .leq a b:=by simp [binOp]
   rw [this,AY b a];have e:decide (b=a)=decide (a=b):=by simp [eq_comm]
   rw [e,← rS];simp [Op.stringOp,pure,fJ]
  simp [execOp,e1,e2,eqGuard,h1]⟩
theorem uU {t ty:TypeId} {x y:Operand} {a b:ByteArray} (hx:bR L x=some (.string a)) (hy:bR L y=some (.string b)) : St P ⟨d,.binOp .neq t x y ty,T,pos,af,g⟩ L w (.bool (decide (a≠b))) :=
 ⟨fun _ A hA w' _=>by
  have e1:=hA.eval hx;have e2:=hA.eval hy;generalize A.eval = ρ at *
  have h1:(binOp .neq t (.string a) (.string b)).run P w' = .ok (.bool (decide (a≠b))) w':=by
   have:binOp .neq t (.string a) (.string b)=Op.stringOp .neq a b:=by simp [binOp]
   rw [this];have e:decide (a≠b) = !(a.toList == b.toList):=by rw [rS];simp
   rw [e];simp [Op.stringOp,pure]
  simp [execOp,e1,e2,eqGuard,h1]⟩
theorem po {t:TypeId} [c:xi P t] {x:Operand} {s:ByteArray} (hx:bR L x=some (.string s)) :
 St P ⟨d,.call ⟨.builtin .len,#[x],#[t]⟩,T,pos,af,g⟩ L w (.int .i64 (s.size:Int)) :=
 ⟨fun _ a ha w' _=>by simp [execOp,resolve,invoke,builtin,ha.eval hx,Builtin.len_,run_underlying c.j3,goInt]⟩
theorem Am {t:TypeId} [c:xi P t] {x y:Operand} {s:ByteArray} {i:Int} (k:Nat) (hx:bR L x=some (.string s)) (hy:bR L y=some (.int .i64 i)) (hi:i=(k:Int)) (hk:k<s.size) :
 St P ⟨d,.index t x y,T,pos,af,g⟩ L w (.int .u8 (s[k]'hk).toNat) :=
 ⟨fun _ a ha w' _=>by
  subst hi;have e1:=ha.eval hx;have e2:=ha.eval hy;generalize a.eval = ρ at *
  have:=run_index_string (P:=P) w' t s .i64 (k:Int) c.j3
  rw [dif_pos ⟨by omega,by omega⟩] at this;simp [execOp,e1,e2,this]⟩
end
section
variable {P:Program} {n:Nat} {ops:Array Oper} {Q:Exit→Act→World→Prop} {rest:List Oper} {L:Env} {w:World} {T:TypeId} {pos:String} {af:Array Edge}
theorem SW.AZ {d:Nat} {src dst e:TypeId} [S:xi P src] [D:bu P dst e 1] (he:P.underlying e=some (.int .u8)) {x:Operand} {s:ByteArray} (hx:bR L x=some (.string s)) (hn:Nat.blt d n=true)
 (h:∀ b c w',Ext w w'→w.heap.size≤b→Sl w' 1 vL (some ⟨b,0,none⟩) s.size s.data.toList→SW P n ops (.ff Q) rest ((d,.slice (some ⟨b,0,none⟩) s.size c)::L) w') :
 SW P n ops (.ff Q) (⟨some d,.convert src dst x,T,pos,af,none⟩::rest) L w :=
 ⟨fun a ha=>by
  simp only [swp,wpList,Region.wanted,if_true];refine .inl ?_;unfold Oper.wp;have hr:=Lib.run_convert_string_bytes (P:=P) w src dst e s S.j3 D.j3 he
  have:(execOp a.eval ⟨some d,.convert src dst x,T,pos,af,none⟩).run P w = .ok (.value (.slice (some ⟨w.heap.size,0,none⟩) s.size (grownCap w s.size 0 e))) (Lib.bytesWorld w e s):=by
   simp [execOp,ha.eval hx,hr]
  rw [this,Oper.upon_value];have hE:Ext w (Lib.bytesWorld w e s):=⟨rfl,rfl,rfl,by rw [Lib.bytesWorld_size];omega,fun j hj=>Lib.bytesWorld_at_old w e s j hj⟩
  refine (h _ _ _ hE (Nat.le_refl _) ⟨?_,fun _=>rfl,fun i hi j u hu => ?_⟩).out _ (ha.put hn _)
  ·exact Array.length_toList
  ·have qa:i<s.size:=by rw [Array.length_toList] at hi;exact hi
   have:=Lib.bytesWorld_cell w e s i qa
   match j,hu with
   | 0,hu =>
     simp only [vL,List.getElem?_cons_zero,Option.some.injEq] at hu;rw [add_zero]
     have e2:(((some (⟨w.heap.size,0,none⟩ : Addr)).getD default).add (i*1))=⟨w.heap.size,i,none⟩:=by
      simp only [Option.getD_some,Nat.mul_one];unfold Addr.add;split<;>simp_all
     rw [e2,this,← hu];have e3:s.data.toList.getD i 0=s.data.toList[i]:=by simp [List.getD,qa]
     rw [e3]
   | j+1,hu=>simp [vL] at hu⟩
end
open Go.RowKit
theorem cn (r:eB) : ∀ v∈bm r,v.oneCell'=true:=fw.one (enc:=bm) r
theorem sM (r:bM) : ∀ v∈bq r,v.oneCell'=true:=fw.one (enc:=bq) r
def yQ (ls:List bM) : Prop := ∀ (i j:Nat) (hi:i<ls.length) (hj:j<ls.length),i≠j → ∀ g,aU ls[i].ax.A ls[i].ax.c=some g→aU ls[j].ax.A ls[j].ax.c≠some g
structure pp (m:fF) (zs:List cy) (ls:List bM) : Prop where
 ck:∀ (i:Nat) (hi:i<ls.length) (g:Nat),aU ls[i].ax.A ls[i].ax.c=some g→aU m.A m.c≠some g
 types:∀ (i:Nat) (hi:i<ls.length) (g:Nat),aU ls[i].ax.A ls[i].ax.c=some g → ∀ u∈zs,aU u.Types.A u.Types.c≠some g
 sep:yQ ls
theorem pp.nil (m:fF) (zs:List cy) : pp m zs []:=⟨fun i hi=>by simp at hi,fun i hi=>by simp at hi,fun i j hi=>by simp at hi⟩
theorem pp.snoc {w:World} {lo:Nat} {m:fF} {zs:List cy} {ls:List bM} {s li:fF} {x:List Int} {zl:List ar} {L:List aC} {y:bM} (h:pp m zs ls) (hm:Own w lo 3 1 bd m.A m.n m.c x) (hz:fV w lo s zs zl) (hl:cX w lo li ls L) (hy:∀ g,aU y.ax.A y.ax.c=some g→w.heap.size≤g) : pp m zs (ls++[y]):=by
 have de:∀ (i:Nat) (hi:i<ls.length) (g:Nat),aU ls[i].ax.A ls[i].ax.c=some g→g<w.heap.size:=fun i hi g e=>(hl.each.get i hi (by rw [← hl.each.len];exact hi)).bL.lt_size g e
 have key:∀ (i:Nat) (hi:i<(ls++[y]).length),(∃ h:i<ls.length,(ls++[y])[i]=ls[i])∨(i=ls.length∧(ls++[y])[i]=y):=fun i hi=>by
  by_cases e:i<ls.length
  ·exact .inl ⟨e,List.getElem_append_left e⟩
  ·have:i=ls.length:=by simp at hi;omega
   subst this;exact .inr ⟨rfl,by simp⟩
 refine ⟨fun i hi g e => ?_,fun i hi g e u hu => ?_,fun i j hi hj kW g e e2 => ?_⟩
 ·rcases key i hi with ⟨h1,h2⟩|⟨h1,h2⟩
  ·rw [h2] at e;exact h.ck i h1 g e
  ·rw [h2] at e;intro e3;have:=hm.lt_size g e3;have:=hy g e;omega
 ·rcases key i hi with ⟨h1,h2⟩|⟨h1,h2⟩
  ·rw [h2] at e;exact h.types i h1 g e u hu
  ·rw [h2] at e;intro e3;obtain ⟨j,hj,rfl⟩:=List.getElem_of_mem hu;have:=(hz.each.get j hj (by rw [← hz.each.len];exact hj)).types.lt_size g e3
   have:=hy g e
   omega
 ·rcases key i hi with ⟨h1,h2⟩|⟨h1,h2⟩
  ·rw [h2] at e;rcases key j hj with ⟨h3,h4⟩|⟨h3,h4⟩
   ·rw [h4] at e2;exact h.sep i j h1 h3 kW g e e2
   ·rw [h4] at e2;have:=de i h1 g e;have:=hy g e2;omega
  ·rw [h2] at e;rcases key j hj with ⟨h3,h4⟩|⟨h3,h4⟩
   ·rw [h4] at e2;have:=de j h3 g e2;have:=hy g e;omega
   ·omega
def rB (lv:fF) (zs:List cy) : Prop := ∀ u∈zs,∀ g,aU u.ag.A u.ag.c=some g→aU lv.A lv.c≠some g
theorem rB.nil (lv:fF) : rB lv []:=fun u hu=>by simp at hu
theorem rB.snoc {w:World} {lo:Nat} {lv:fF} {zs:List cy} {x:List Block} {u:cy} (h:rB lv zs) (hl:Own w lo 165 3 aA lv.A lv.n lv.c x) (hu:∀ g,aU u.ag.A u.ag.c=some g→w.heap.size≤g) : rB lv (zs++[u]):=fun y hy g e e2=>by
 rcases List.mem_append.1 hy with hy|hy
 ·exact h y hy g e e2
 ·simp at hy;subst hy;have:=hu g e
  have:=hl.lt_size g e2
  omega
structure CY (w:World) (lo:Nat) (r:eB) (h:Heap) : Prop where
 own:iD w lo r h
 all:∃ zs ls,fV w lo r.aQ zs h.aQ∧cX w lo r.av ls h.av∧pp r.bJ zs ls∧rB r.Live zs
set_option maxHeartbeats 4000000 in
theorem sN (r:eB) (h:Heap) (w:World) (hr:wI w r h) (hs:h.small) :
 bo Tryz.prog 83 [.agg (bm r).toArray] w fun v w' => ∃ s,v = .agg (bm s).toArray∧CY w' w.heap.size s h:=by
 refine aI Tryz.func83 rfl Tryz.ntmps83 rfl ?_;refine CW.seq (CW.region (SW.box rfl rfl fun b1 w1 hw gV aB => ?_));refine SW.alloc rfl fun b2 w2 cq g7 aL => ?_
 have pY:w.heap.size≤b2:=Nat.le_trans hw.size g7
 have yP:b2≠b1:=by have:=aB.lt;omega
 (replace hw:=Ext.trans hw cq;replace aB:=aB.ext cq);obtain ⟨zs,hz⟩:=hr.cQ;obtain ⟨ls,hl⟩:=hr.lists;have Ka:=hr.ck.len;have GV:=hr.live.len;have s1:=hs.ck;have s2:=hs.live;have s3:=hs.cQ;have s4:=hs.lists;obtain ⟨z1,z2⟩:=hz.len;obtain ⟨l1,l2⟩:=hl.len;refine Wz ?_
 obtain ⟨K,hK⟩ : ∃ K:Env→World→Prop,K=fun L' w' => ∃ X c1 Y d1 b3,ez L' [(1,.pointer (some ⟨b1,0,none⟩)),(2,.pointer (some ⟨b2,0,none⟩)),(3,.pointer (some ⟨b3,0,none⟩))]∧Ext w w'∧aJ w' b1 41 (bm r)∧aJ w' b2 41 (bm .zero) ∧
  aJ w' b3 41 (bm ⟨.nil,⟨X,r.bJ.n,c1⟩,r.bY,.nil,⟨Y,r.Live.n,d1⟩⟩)∧Own w' w.heap.size 3 1 bd X r.bJ.n c1 h.bJ∧Own w' w.heap.size 165 3 aA Y r.Live.n d1 h.Live∧w.heap.size≤b3∧b1≠b3∧b2≠b3:=⟨_,rfl⟩
 refine CW.cut K ?_ ?_
 ·refine CW.any 10 mixed (cj (by kernel_rfl)) rfl fun w1 ab aG => ?_
  replace hw:=Ext.trans hw ab;replace aB:=aB.ext ab;replace aL:=aL.ext ab;clear ab;refine Wa ?_;refine SA.two 2 9 rfl rfl (by kernel_rfl) rfl rfl ?_ ?_
  ·refine SW.call rfl rfl (eu _ _ _ _ _ (hr.ck.ext hw) (by omega)) fun v w4 aj hv => ?_
   obtain ⟨X,c4,rfl,hX⟩:=hv;replace hX:=hX.low hw.size;replace hw:=Ext.trans hw aj;replace aB:=aB.ext aj;replace aL:=aL.ext aj;try replace aq:=aq.ext aj
   refine SW.nil (ae.sa aj ?_);refine SA.two 7 9 rfl rfl (by kernel_rfl) rfl rfl ?_ ?_
   ·refine SW.call rfl rfl (iB _ _ _ _ _ (hr.live.ext hw) (by omega)) fun v w4 aj hv => ?_
    obtain ⟨Y,d4,rfl,hY⟩:=hv;replace hY:=hY.low hw.size;replace hX:=hX.ext aj;replace hw:=Ext.trans hw aj;replace aB:=aB.ext aj;replace aL:=aL.ext aj;try replace aq:=aq.ext aj
    refine SW.nil (ae.sa aj ?_);refine Wa ?_;refine SA.one 9 rfl (by kernel_rfl) rfl ?_;refine SW.alloc rfl fun b3 w4 aj bH aq => ?_
    have cw:w.heap.size≤b3:=Nat.le_trans hw.size bH
    have ey:b1≠b3:=by have:=aB.lt;omega
    have er:b2≠b3:=by have:=aL.lt;omega
    replace hw:=Ext.trans hw aj;replace aB:=aB.ext aj;replace aL:=aL.ext aj;try replace hX:=hX.ext aj
    try replace hY:=hY.ext aj
    refine SW.nil (ae.sa aj ?_);refine SA.done (by kernel_rfl) ?_;skip;refine SW.ak aq rfl rfl rfl rfl (cn ⟨.nil,⟨X,r.bJ.n,c4⟩,r.bY,.nil,⟨Y,r.Live.n,d4⟩⟩) fun w5 bF hg => ?_
    have hG:=aq.gr hg;replace hw:=hw.own cw hg;(replace hX:=hX.ay hG rfl;replace hY:=hY.ay hG rfl);replace aB:=aB.grown hg (by simpa using ey);replace aL:=aL.grown hg (by simpa using er);refine Wz ?_;exact ae.cut (K:=K) (by rw [hK];exact ⟨X,c4,Y,d4,b3,⟨rfl,rfl,rfl,trivial⟩,hw,aB,aL,bF,hX,hY,cw,ey,er⟩)
   ·refine SW.alloc rfl fun b3 w4 aj bH aq => ?_
    have cw:w.heap.size≤b3:=Nat.le_trans hw.size bH
    have ey:b1≠b3:=by have:=aB.lt;omega
    have er:b2≠b3:=by have:=aL.lt;omega
    replace hw:=Ext.trans hw aj;replace aB:=aB.ext aj;replace aL:=aL.ext aj;try replace hX:=hX.ext aj
    try replace hY:=hY.ext aj
    refine SW.nil (ae.sa aj ?_);refine SA.one 7 rfl (by kernel_rfl) rfl ?_;refine SW.call rfl rfl (iB _ _ _ _ _ (hr.live.ext hw) (by omega)) fun v w4 aj hv => ?_
    obtain ⟨Y,d4,rfl,hY⟩:=hv;replace hY:=hY.low hw.size;replace hX:=hX.ext aj;replace hw:=Ext.trans hw aj;replace aB:=aB.ext aj;replace aL:=aL.ext aj;try replace aq:=aq.ext aj
    refine SW.nil (ae.sa aj ?_);refine Wa ?_;refine SA.done (by kernel_rfl) ?_;skip;refine SW.ak aq rfl rfl rfl rfl (cn ⟨.nil,⟨X,r.bJ.n,c4⟩,r.bY,.nil,⟨Y,r.Live.n,d4⟩⟩) fun w5 bF hg => ?_
    have hG:=aq.gr hg;replace hw:=hw.own cw hg;(replace hX:=hX.ay hG rfl;replace hY:=hY.ay hG rfl);replace aB:=aB.grown hg (by simpa using ey);replace aL:=aL.grown hg (by simpa using er);refine Wz ?_;exact ae.cut (K:=K) (by rw [hK];exact ⟨X,c4,Y,d4,b3,⟨rfl,rfl,rfl,trivial⟩,hw,aB,aL,bF,hX,hY,cw,ey,er⟩)
  ·refine SW.alloc rfl fun b3 w4 aj bH aq => ?_
   have cw:w.heap.size≤b3:=Nat.le_trans hw.size bH
   have ey:b1≠b3:=by have:=aB.lt;omega
   have er:b2≠b3:=by have:=aL.lt;omega
   replace hw:=Ext.trans hw aj;replace aB:=aB.ext aj;replace aL:=aL.ext aj;try replace hX:=hX.ext aj
   try replace hY:=hY.ext aj
   refine SW.nil (ae.sa aj ?_);refine SA.one 2 rfl (by kernel_rfl) rfl ?_;refine SW.call rfl rfl (eu _ _ _ _ _ (hr.ck.ext hw) (by omega)) fun v w4 aj hv => ?_
   obtain ⟨X,c4,rfl,hX⟩:=hv;replace hX:=hX.low hw.size;replace hw:=Ext.trans hw aj;replace aB:=aB.ext aj;replace aL:=aL.ext aj;try replace aq:=aq.ext aj
   refine SW.nil (ae.sa aj ?_);refine SA.one 7 rfl (by kernel_rfl) rfl ?_;refine SW.call rfl rfl (iB _ _ _ _ _ (hr.live.ext hw) (by omega)) fun v w4 aj hv => ?_
   obtain ⟨Y,d4,rfl,hY⟩:=hv;replace hY:=hY.low hw.size;replace hX:=hX.ext aj;replace hw:=Ext.trans hw aj;replace aB:=aB.ext aj;replace aL:=aL.ext aj;try replace aq:=aq.ext aj
   refine SW.nil (ae.sa aj ?_);refine Wa ?_;refine SA.done (by kernel_rfl) ?_;skip;refine SW.ak aq rfl rfl rfl rfl (cn ⟨.nil,⟨X,r.bJ.n,c4⟩,r.bY,.nil,⟨Y,r.Live.n,d4⟩⟩) fun w5 bF hg => ?_
   have hG:=aq.gr hg;replace hw:=hw.own cw hg;(replace hX:=hX.ay hG rfl;replace hY:=hY.ay hG rfl);replace aB:=aB.grown hg (by simpa using ey);replace aL:=aL.grown hg (by simpa using er);refine Wz ?_;exact ae.cut (K:=K) (by rw [hK];exact ⟨X,c4,Y,d4,b3,⟨rfl,rfl,rfl,trivial⟩,hw,aB,aL,bF,hX,hY,cw,ey,er⟩)
 ·clear aB aL hw;subst hK;rintro L' w' ⟨X,c4,Y,d4,b3,fv,hw,aB,aL,aq,hX,hY,cw,ey,er⟩
  refine ae.sub fv ?_;refine Wz ?_
  refine CW.loop (fun s:Nat×Option Addr×Nat×List cy=>[(1,.pointer (some ⟨b1,0,none⟩)),(2,.pointer (some ⟨b2,0,none⟩)),(3,.pointer (some ⟨b3,0,none⟩)),(18,.slice r.aQ.A r.aQ.n r.aQ.c),(19,.int .i64 (r.aQ.n:Int)),(20,.int .i64 (s.1:Int))])
   (fun s w'=>s.1≤r.aQ.n∧Ext w w'∧aJ w' b1 41 (bm r)∧aJ w' b2 41 (bm .zero)∧aJ w' b3 41 (bm ⟨⟨s.2.1,s.1,s.2.2.1⟩,⟨X,r.bJ.n,c4⟩,r.bY,.nil,⟨Y,r.Live.n,d4⟩⟩)∧Own w' w.heap.size 3 1 bd X r.bJ.n c4 h.bJ∧Own w' w.heap.size 165 3 aA Y r.Live.n d4 h.Live ∧
     fV w' w.heap.size ⟨s.2.1,s.1,s.2.2.1⟩ s.2.2.2 (h.aQ.take s.1)∧rB ⟨Y,r.Live.n,d4⟩ s.2.2.2) (fun s=>r.aQ.n-s.1) (0,none,0,[]) ⟨rfl,rfl,rfl,rfl,rfl,rfl,trivial⟩ ⟨by omega,hw,aB,aL,aq,hX,hY,fV.nil _ _,rB.nil _⟩ ?_
  clear aB aL aq hX hY hw fv;rintro ⟨k,A,c,zr⟩ w' ⟨hk,hw,aB,aL,aq,hX,hY,hO,GW⟩
  simp only at hk aq hO GW ⊢;have hA:=hz.row.base;by_cases cb:k<r.aQ.n
  ·have A6:=hz.each.get k (by omega) (by omega);have cf:h.aQ[k]'(by omega)∈h.aQ:=List.getElem_mem _
   have q:=hs.free _ cf;have q1:=A6.free.len;have q2:=A6.types.len;repeat' (first|refine Wz ?_|refine SW.st (aH hw rfl rfl ((hz.row.all cb))) rfl ?_)
   refine SW.alloc rfl fun b5 w1 ab il cd => ?_
   skip;refine SW.ak cd rfl rfl rfl rfl (cJ _) fun w2 fX hg => ?_
   have aj:=ab.own il hg;have nS:w.heap.size≤b5:=Nat.le_trans hw.size il
   replace hw:=Ext.trans hw aj;replace aB:=aB.ext aj;replace aL:=aL.ext aj;replace aq:=aq.ext aj;replace hX:=hX.ext aj;replace hY:=hY.ext aj;replace hO:=hO.ext aj;replace cd:=fX;clear fX ab hg aj;refine Wz ?_;refine CW.any 5 mixed (cj (by kernel_rfl)) rfl fun w1 ab aG => ?_
   replace hw:=Ext.trans hw ab;replace aB:=aB.ext ab;replace aL:=aL.ext ab;replace aq:=aq.ext ab;replace cd:=cd.ext ab;replace hX:=hX.ext ab;replace hY:=hY.ext ab;replace hO:=hO.ext ab;clear ab;refine Wa ?_;refine SA.one 3 rfl (by kernel_rfl) rfl ?_;refine SW.call rfl rfl (pX _ _ _ (A6.ext hw) (by omega) (by omega)) fun v w4 aj hv => ?_
   obtain ⟨s,rfl,iR,e1,e2⟩:=hv;have KR:=GW.snoc (u:=s) hY iR.free.aM;replace iR:=iR.low hw.size;(replace hw:=Ext.trans hw aj;replace aB:=aB.ext aj;replace aL:=aL.ext aj;replace aq:=aq.ext aj;replace cd:=cd.ext aj;replace hX:=hX.ext aj;replace hY:=hY.ext aj;replace hO:=hO.ext aj);refine SW.nil (ae.sa aj ?_);refine SA.one 4 rfl (by kernel_rfl) rfl ?_;refine SW.bK rfl rfl rfl rfl rfl fun b w4 aj hb hB => ?_
   (replace hw:=Ext.trans hw aj;replace aB:=aB.ext aj;replace aL:=aL.ext aj;replace aq:=aq.ext aj;replace cd:=cd.ext aj;replace hX:=hX.ext aj;replace hY:=hY.ext aj;replace hO:=hO.ext aj;replace iR:=iR.ext aj);refine SW.nil (ae.sa aj ?_);refine SA.done (by kernel_rfl) ?_;refine SW.append hO.row (aJ.mo (enc:=bp) hB) hw.size rfl rfl rfl (by simp only;omega) (by simp only;omega) fun A2 c2 w5 fU hg => ?_
   have hG:=hO.row.gr hg;replace hw:=aF hw hg (Nat.le_refl _) hO.row.aM;(replace aB:=aB.ay hG rfl;replace aL:=aL.ay hG rfl;replace aq:=aq.ay hG rfl;replace hX:=hX.ay hG rfl;replace hY:=hY.ay hG rfl;replace iR:=iR.ay hG rfl);have hE:=hO.each.mono fun _ _ h=>h.ay hG rfl
   refine Wz ?_;refine SW.bA (i:=0) aq rfl rfl rfl rfl fun w6 cK hg => ?_
   have hG:=aq.gr hg;replace hw:=hw.own cw hg;replace aB:=aB.grown hg (by simpa using ey);replace aL:=aL.grown hg (by simpa using er);(replace hX:=hX.ay hG rfl;replace hY:=hY.ay hG rfl;replace iR:=iR.ay hG rfl;replace fU:=fU.ay hG rfl);replace hE:=hE.mono fun _ _ h=>h.ay hG rfl
   refine Wz ?_;refine ae.again (k+1,A2,c2,zr++[s]) ⟨rfl,rfl,rfl,rfl,rfl,rfl,trivial⟩ (by simp only;omega) ⟨by simp only;omega,hw,aB,aL,cK,hX,hY,⟨fU,?_⟩,KR⟩;rw [List.take_succ_eq_append_getElem (by omega)];exact hE.snoc iR
  ·obtain rfl:k=r.aQ.n:=by omega
   rw [List.take_of_length_le (by omega)] at hO;refine Wz ?_
   refine CW.loop (fun s:Nat×Option Addr×Nat×List bM=>[(2,.pointer (some ⟨b2,0,none⟩)),(3,.pointer (some ⟨b3,0,none⟩)),(33,.slice r.av.A r.av.n r.av.c),(34,.int .i64 (r.av.n:Int)),(35,.int .i64 (s.1:Int))])
    (fun s w'=>s.1≤r.av.n∧Ext w w'∧aJ w' b2 41 (bm .zero)∧aJ w' b3 41 (bm ⟨⟨A,r.aQ.n,c⟩,⟨X,r.bJ.n,c4⟩,r.bY,⟨s.2.1,s.1,s.2.2.1⟩,⟨Y,r.Live.n,d4⟩⟩)∧Own w' w.heap.size 3 1 bd X r.bJ.n c4 h.bJ∧Own w' w.heap.size 165 3 aA Y r.Live.n d4 h.Live ∧
      fV w' w.heap.size ⟨A,r.aQ.n,c⟩ zr h.aQ∧cX w' w.heap.size ⟨s.2.1,s.1,s.2.2.1⟩ s.2.2.2 (h.av.take s.1)∧pp ⟨X,r.bJ.n,c4⟩ zr s.2.2.2) (fun s=>r.av.n-s.1) (0,none,0,[]) ⟨rfl,rfl,rfl,rfl,rfl,trivial⟩ ⟨by omega,hw,aL,aq,hX,hY,hO,cX.nil _ _,pp.nil _ _⟩ ?_
   clear aB aL aq hX hY hw hO;rintro ⟨k,B,d,lr⟩ w' ⟨hk,hw,aL,aq,hX,hY,hO,hP,xl⟩
   simp only at hk aq hP xl ⊢;have hA:=hl.row.base;by_cases cb:k<r.av.n
   ·have uq:=hl.each.get k (by omega) (by omega);have cf:h.av[k]'(by omega)∈h.av:=List.getElem_mem _
    have q:=hs.bL _ cf;have q1:=uq.bL.len;repeat' (first|refine Wz ?_|refine SW.st (aH hw rfl rfl ((hl.row.all cb))) rfl ?_)
    have GX:=hP.row.lt_size;refine SW.alloc rfl fun b7 w1 ab lm jY => ?_
    skip;refine SW.ak jY rfl rfl rfl rfl (sM _) fun w2 dJ hg => ?_
    have aj:=ab.own lm hg;have rr:w.heap.size≤b7:=Nat.le_trans hw.size lm
    replace hw:=Ext.trans hw aj;replace aL:=aL.ext aj;replace aq:=aq.ext aj;replace hX:=hX.ext aj;replace hY:=hY.ext aj;replace hO:=hO.ext aj;replace hP:=hP.ext aj;replace jY:=dJ;clear dJ ab hg aj;refine Wz ?_;refine SW.call rfl rfl (eu _ _ _ _ _ (uq.bL.ext hw) (by omega)) fun v w4 aj hv => ?_
    obtain ⟨W,e4,rfl,hW⟩:=hv;replace xl:=xl.snoc (y:=⟨ls[k].dO,ls[k].ar,ls[k].Ty,⟨W,ls[k].ax.n,e4⟩⟩) hX hO hP hW.aM;replace hW:=hW.low hw.size;(replace hw:=Ext.trans hw aj;replace aL:=aL.ext aj;replace aq:=aq.ext aj;replace jY:=jY.ext aj;replace hX:=hX.ext aj;replace hY:=hY.ext aj;replace hO:=hO.ext aj;replace hP:=hP.ext aj);refine Wz ?_;refine SW.bA (i:=3) jY rfl rfl rfl rfl fun w5 dJ hg => ?_
    have hG:=jY.gr hg;replace hw:=hw.own rr hg;(replace aL:=aL.ay hG rfl;replace aq:=aq.ay hG rfl;replace hX:=hX.ay hG rfl;replace hY:=hY.ay hG rfl;replace hO:=hO.ay hG rfl;replace hW:=hW.ay hG rfl);replace hP:cX w5 w.heap.size ⟨B,k,d⟩ lr (h.av.take k):=⟨hP.row.grown hg (.inr (fun e=>by have:=GX _ e;omega)),hP.each.mono fun _ _ h=>h.ay hG rfl⟩;refine Wz ?_;refine SW.bK rfl rfl rfl rfl rfl fun b w6 aj hb hB => ?_
    (replace hw:=Ext.trans hw aj;replace aL:=aL.ext aj;replace aq:=aq.ext aj;replace hX:=hX.ext aj;replace hY:=hY.ext aj;replace hO:=hO.ext aj;replace hP:=hP.ext aj;replace hW:=hW.ext aj);refine SW.append hP.row (aJ.mo (enc:=bq) (x:=⟨ls[k].dO,ls[k].ar,ls[k].Ty,⟨W,_,e4⟩⟩) hB) hw.size rfl rfl rfl (by simp only;omega) (by simp only;omega) fun A2 c2 w7 GY hg => ?_
    have hG:=hP.row.gr hg;replace hw:=aF hw hg (Nat.le_refl _) hP.row.aM;(replace aL:=aL.ay hG rfl;replace aq:=aq.ay hG rfl;replace hX:=hX.ay hG rfl;replace hY:=hY.ay hG rfl;replace hO:=hO.ay hG rfl;replace hW:=hW.ay hG rfl);have hE:=hP.each.mono fun _ _ h=>h.ay hG rfl
    refine Wz ?_;refine SW.bA (i:=3) aq rfl rfl rfl rfl fun w8 cK hg => ?_
    have hG:=aq.gr hg;replace hw:=hw.own cw hg;replace aL:=aL.grown hg (by simpa using er);(replace hX:=hX.ay hG rfl;replace hY:=hY.ay hG rfl;replace hO:=hO.ay hG rfl;replace GY:=GY.ay hG rfl;replace hW:=hW.ay hG rfl);replace hE:=hE.mono fun _ _ h=>h.ay hG rfl
    refine Wz ?_;refine ae.again (k+1,A2,c2,lr++[⟨ls[k].dO,ls[k].ar,ls[k].Ty,⟨W,_,e4⟩⟩]) ⟨rfl,rfl,rfl,rfl,rfl,trivial⟩ (by simp only;omega) ⟨by simp only;omega,hw,aL,cK,hX,hY,hO,⟨GY,?_⟩,xl⟩;rw [List.take_succ_eq_append_getElem (by omega)];exact hE.snoc ⟨uq.cpu,uq.fu,uq.ty,hW⟩
   ·obtain rfl:k=r.av.n:=by omega
    rw [List.take_of_length_le (by omega)] at hP;refine Wz ?_;refine SW.ak aL rfl rfl rfl rfl (cn _) fun w5 bF hg => ?_
    have hG:=aL.gr hg;replace hw:=hw.own pY hg;(replace hX:=hX.ay hG rfl;replace hY:=hY.ay hG rfl;replace hO:=hO.ay hG rfl;replace hP:=hP.ay hG rfl);refine Wz ?_;exact ae.mr rfl rfl bF rfl ⟨_,rfl,hw,⟨⟨A,r.aQ.n,c⟩,⟨X,r.bJ.n,c4⟩,r.bY,⟨B,r.av.n,d⟩,⟨Y,r.Live.n,d4⟩⟩,rfl,⟨hr.dY,hX,hY,⟨zr,hO⟩,⟨lr,hP⟩⟩,zr,lr,hO,hP,xl,GW⟩
theorem qo (r:eB) (h:Heap) (w:World) (hr:wI w r h) (hs:h.small) :
 bo Tryz.prog 83 [.agg (bm r).toArray] w fun v w' => ∃ s,v = .agg (bm s).toArray∧iD w' w.heap.size s h :=
 (sN r h w hr hs).mono fun _ _ _ ⟨s,hv,ho⟩=>⟨s,hv,ho.own⟩
end Go.Proofs.YtbidkghlpijecaaGreatDoor
