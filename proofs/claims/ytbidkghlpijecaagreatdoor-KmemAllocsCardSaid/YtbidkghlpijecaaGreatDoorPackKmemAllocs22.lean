/-
  Texts of the claim KmemAllocs, part 22: what its theorem leans on.
-/
import Derived.Test.YtbidkghlpijecaaGreatDoorPackKmemAllocs7
import Derived.Test.YtbidkghlpijecaaGreatDoorPackKmemAllocs21
import Derived.Test.YtbidkghlpijecaaGreatDoorPackKmemAllocs2
import Derived.Test.YtbidkghlpijecaaGreatDoorPackKmemAllocs16
import Derived.Test.YtbidkghlpijecaaGreatDoorPackKmemAllocs18
import Derived.Test.YtbidkghlpijecaaGreatDoorPackKmemAllocs15
set_option linter.unusedVariables false
set_option linter.unusedSimpArgs false
namespace Go.Proofs.YtbidkghlpijecaaGreatDoor
open Go.RowKit
def BX (T:List Int) (i:Nat) (t:Int) (c:Nat) : List Int:=if c=0 then T else if c=1 then T.set i t else (T.set i t).set (i+1) t
theorem BY {T:List Int} {i:Nat} {t:Int} {c:Nat} (hc:c<2) : (BX T i t c).set (i+c) t=BX T i t (c+1):=by
 rcases (show c=0∨c=1 by omega) with rfl|rfl<;>simp [BX]
def Cm (b:Block) : Nat:=if b.Order=4 then 2 else 1
theorem D4 {z:ar} {b:Block} {t:Int} (h2 : 2≤b.Order) : BX z.Types (js z b) t (Cm b)=dC z b t:=by
 unfold BX Cm dC;by_cases h:b.Order=4
 ·rw [if_pos h,if_neg (by omega),if_neg (by omega),if_neg (by omega),if_pos h]
 ·rw [if_neg h,if_neg (by omega),if_pos rfl,if_neg (by omega),if_neg h]
theorem HE {b:Block} (h2 : 2≤b.Order) (h4:b.Order≤4) (hm:b.At % pw b.Order=0) : (b.At+pw b.Order-1) / 8*8=mE b-8∧mE b-8=b.At / 8*8+8*(Cm b:Int)-8:=by
 unfold mE Cm;rcases ev (show 0≤b.Order by omega) h4 with ⟨e1,e2⟩|⟨e1,e2⟩|⟨e1,e2⟩|⟨e1,e2⟩|⟨e1,e2⟩<;>rw [e2] at hm ⊢<;>split<;>omega
theorem BZ {z:ar} {b:Block} {t:Int} {st:Bool} (h:b.Order<2) : eH z b t st=z.ag∧(if st=true then dC z b t else z.Types)=z.Types∧kZ z t st b=b.Ty:=by
 refine ⟨?_,?_,?_⟩
 ·unfold eH eD;rw [if_pos h];split<;>rfl
 ·unfold dC;rw [if_pos h];split<;>rfl
 ·unfold kZ;rw [if_neg (by omega)]
set_option maxHeartbeats 8000000 in
theorem ri (r:cy) (z:ar) (o t:Int) (w:World) (hr:uj w r z) (hf:(r.ag.n+1)*24≤140737488355328) (ht:r.Types.n*8≤140737488355328) (h1 : -9223372036854775808≤r.aX∧r.aX≤9223372036854775807) (h2 : -9223372036854775808≤r.To∧r.To≤9223372036854775807) :
 bo Tryz.prog 219 [.agg (bp r).toArray,.int .i64 o,.int .i64 t] w fun v w' => ∃ u,gl z o t u∧gI w.heap.size u v w':=by
 refine aI Tryz.func219 rfl Tryz.ntmps219 rfl ?_;refine CW.seq (CW.region (SW.box rfl rfl fun b3 w1 hw bH aq => ?_));refine SW.alloc rfl fun b6 w2 cq eg aw => ?_
 have cu:w.heap.size≤b6:=Nat.le_trans hw.size eg
 have pf:b3≠b6:=by have:=aq.lt;omega
 (replace hw:=Ext.trans hw cq;replace aq:=aq.ext cq);have eF:=hr.from_;have eT:=hr.j6;have CA:=hr.free.len;have HU:=hr.types.len;obtain ⟨q,hq⟩ : ∃ q,ed z=q:=⟨_,rfl⟩
 have c1:∀ w',Ext w w'→bo Tryz.prog 195 [.agg (bp r).toArray] w' fun v _=>v = .bool q:=fun w' h=>by
  have:=kE r z w' (hr.ext h) (by omega) (by omega) h1 h2
  rwa [hq] at this
 cases q
 ·repeat' (first|refine Wz ?_|(refine CW.bO rfl ?_)|(refine SW.call rfl rfl (c1 _ hw) ?_;intro v w1 ab hv;subst hv;replace hw:=Ext.trans hw ab;replace aq:=aq.ext ab;replace aw:=aw.ext ab;clear ab))
  refine SW.ak aw rfl rfl rfl rfl (cJ .zero) fun w5 bF hg => ?_
  replace hw:=hw.own cu hg;refine Wz ?_;exact ae.cl rfl rfl rfl rfl bF rfl ⟨_,rfl,hw,_,.bad hq,gI.zero 8 _ _⟩
 ·have hz:=dH.1 hq;obtain ⟨o1,o2,o3,o4,o5⟩:=hz.ok;by_cases ho : 0≤o∧o≤4
  ·by_cases nC:fp t
   ·have ru:=nC;unfold fp at ru;repeat' (first|refine Wz ?_|(refine CW.bB rfl ?_)|((first|refine SW.call rfl rfl (c1 _ hw) ?_|refine SW.call rfl rfl (bP _ _ _ _) ?_);intro v w1 ab hv;subst hv;replace hw:=Ext.trans hw ab;replace aq:=aq.ext ab;replace aw:=aw.ext ab;clear ab))
    all_goals try omega
    refine SW.call rfl rfl (lU r z _ (hr.ext hw) (by omega) ht) fun v w4 iK hv => ?_
    obtain ⟨s,rfl,hs⟩:=hv;replace hs:=hs.low hw.size;(replace hw:=Ext.trans hw iK;replace aq:=aq.ext iK;replace aw:=aw.ext iK);clear c1;skip;refine SW.alloc rfl fun b9 w5 iV M9 bk => ?_
    have LX:w.heap.size≤b9:=Nat.le_trans hw.size M9
    have JJ:b3≠b9:=by have:=aq.lt;omega
    have D5:b6≠b9:=by have:=aw.lt;omega
    (replace hw:=Ext.trans hw iV;replace aq:=aq.ext iV;replace aw:=aw.ext iV;replace hs:=hs.ext iV);skip;refine SW.ak bk rfl rfl rfl rfl (cJ s) fun w5 gi hg => ?_
    have hG:=bk.gr hg;replace hw:=hw.own LX hg;have hX:=hs.free.ay hG rfl;have hT:=hs.types.ay hG rfl;replace aw:=aw.grown hg (by simpa using D5);replace aq:=aq.grown hg (by simpa using JJ);replace bk:=gi;have sF:=hs.from_;have sT:=hs.j6;have es:s.ag.n=z.ag.length:=hs.free.len.symm
    have et:s.Types.n=z.Types.length:=hs.types.len.symm
    clear gi hg hG hs iV M9;refine Wz ?_;refine SW.alloc rfl fun jM w5 iV JK aN => ?_
    have yg:w.heap.size≤jM:=Nat.le_trans hw.size JK
    have jw:aU s.ag.A s.ag.c≠some jM:=fun e=>by have:=hX.lt_size _ e;omega
    (replace hw:=Ext.trans hw iV;replace aq:=aq.ext iV;replace aw:=aw.ext iV;replace bk:=bk.ext iV;replace hX:=hX.ext iV;replace hT:=hT.ext iV);skip;refine SW.ak aN rfl rfl rfl rfl (fw.one (enc:=aA) ⟨0,0,0⟩) fun w6 dF hg => ?_
    have hG:=aN.gr hg;replace hw:=hw.own yg hg;replace hX:=hX.grown hg (.inr jw);(replace aq:=aq.ay hG rfl;replace aw:=aw.ay hG rfl;replace bk:=bk.ay hG rfl;replace hT:=hT.ay hG rfl);replace aN:=dF;clear dF hg hG iV JK;have AW:=ka hz
    have JL:∀ (i j:Nat) (hj:j<z.ag.length) (kW:i<j),(z.ag[i]'(by omega)).At≤z.ag[j].At:=fun i j hj kW=>by
     have g1:=fr (ln hz) hj kW;have g2:=(hz.c8 i (by omega)).1;have g3:=bE g2.1 g2.2.1;omega
    have cL:∀ p u w',Sl w' 3 aA s.ag.A s.ag.n z.ag→bo Tryz.prog 252 [.slice s.ag.A s.ag.n s.ag.c,.int .i64 p,.int .i64 u] w' fun v _ => ∃ x,nv (fW p u) z.ag x∧v = .tuple #[.agg (aA x.1).toArray,.bool x.2]:=fun p u w' h=>wC _ _ _ z.ag p u w' h (by omega) JL
    have JM:∀ p u,z.ag.any (fW p u)=false → ∀ w',Sl w' 3 aA s.ag.A s.ag.n z.ag→bo Tryz.prog 252 [.slice s.ag.A s.ag.n s.ag.c,.int .i64 p,.int .i64 u] w' fun v _=>v = .tuple #[.agg (aA ⟨0,0,0⟩).toArray,.bool false]:=fun p u ha w' h=>(cL p u w' h).mono fun v w2 _ hv=>by
     obtain ⟨x,hx,rfl⟩:=hv;rw [hx.Fy ha]
    have JN:∀ p u (k:Nat) (hk:k<z.ag.length) (x:Block),z.ag[k]=x→fW p u z.ag[k]=true→(∀ (j:Nat) (hj:j<z.ag.length),j<k→fW p u z.ag[j]=false) → ∀ w',Sl w' 3 aA s.ag.A s.ag.n z.ag→bo Tryz.prog 252 [.slice s.ag.A s.ag.n s.ag.c,.int .i64 p,.int .i64 u] w' fun v _=>v = .tuple #[.agg (aA x).toArray,.bool true]:=fun p u k hk x hx hp hb w' h=>(cL p u w' h).mono fun v w2 _ hv=>by
     obtain ⟨y,hy,rfl⟩:=hv;rw [hy.HD hk hp hb,hx]
    clear cL;refine Wz ?_
    obtain ⟨K,hK⟩ : ∃ K:Env→World→Prop,K=fun L' w' => ∃ (f:Bool) (x:Block),ez L' [(1,.int .i64 o),(2,.int .i64 t),(3,.pointer (some ⟨b3,0,none⟩)),(6,.pointer (some ⟨b6,0,none⟩)),(9,.pointer (some ⟨b9,0,none⟩)),(10,.pointer (some ⟨jM,0,none⟩)),(11,.bool f)]∧Ext w w'∧aJ w' b3 139 (bp r)∧aJ w' b6 139 (bp .zero)∧aJ w' b9 139 (bp s)∧aJ w' jM 165 (aA x) ∧
     Own w' w.heap.size 165 3 aA s.ag.A s.ag.n s.ag.c z.ag∧Own w' w.heap.size 3 1 bd s.Types.A s.Types.n s.Types.c z.Types∧((f=false ∧ ∀ m,m<5→eG z.ag o t m=false) ∨ ∃ (k:Nat) (hk:k<z.ag.length),f=true∧x=z.ag[k]∧dW z.ag o t (some (k,false))):=⟨_,rfl⟩
    refine CW.wR K ?_ ?_
    ·refine CW.loop (fun u:Nat×Bool×Block=>[(1,.int .i64 o),(2,.int .i64 t),(3,.pointer (some ⟨b3,0,none⟩)),(6,.pointer (some ⟨b6,0,none⟩)),(9,.pointer (some ⟨b9,0,none⟩)),(10,.pointer (some ⟨jM,0,none⟩)),(11,.bool u.2.1),(12,.int .i64 (o+(u.1:Int)))])
      (fun u w'=>Ext w w'∧aJ w' b3 139 (bp r)∧aJ w' b6 139 (bp .zero)∧aJ w' b9 139 (bp s)∧aJ w' jM 165 (aA u.2.2)∧Own w' w.heap.size 165 3 aA s.ag.A s.ag.n s.ag.c z.ag∧Own w' w.heap.size 3 1 bd s.Types.A s.Types.n s.Types.c z.Types∧(u.1:Int)≤5-o ∧
        ((u.2.1=false ∧ ∀ m,m<u.1→eG z.ag o t m=false) ∨ ∃ (k:Nat) (hk:k<z.ag.length),u.2.1=true∧u.2.2=z.ag[k]∧dW z.ag o t (some (k,false)))) (fun u=>if u.2.1=true then 0 else 7-u.1) (0,false,⟨0,0,0⟩)
      ⟨rfl,rfl,rfl,rfl,rfl,rfl,rfl,congrArg (fun z=>some (Value.int .i64 z)) (by simp),trivial⟩ ⟨hw,aq,aw,bk,aN,hX,hT,by simp only;omega,.inl ⟨rfl,fun m h=>by simp only at h;omega⟩⟩ ?_
     clear hw aq aw bk aN hX hT;rintro ⟨j,f,x⟩ w' ⟨hw,aq,aw,bk,aN,hX,hT,hj,hI⟩
     simp only at aN hj hI ⊢;rcases hI with ⟨rfl,hI⟩|⟨k,hk,rfl,F8,hP⟩
     ·by_cases hp:o+(j:Int)≤4
      ·have yO:j<5:=by omega
       have GK:=xa (l:=z.ag) (o:=o) (t:=t) yO hp;cases dU:z.ag.any (fW (o+(j:Int)) t)
       ·have c2:=JM (o+(j:Int)) t dU;repeat' (first|refine Wz ?_|(refine CW.bO rfl ?_)|(refine SW.call rfl rfl (c2 _ hX.sl) ?_;intro v w1 ab hv;subst hv;replace hw:=Ext.trans hw ab;replace aq:=aq.ext ab;replace aw:=aw.ext ab;replace bk:=bk.ext ab;replace aN:=aN.ext ab;replace hX:=hX.ext ab;replace hT:=hT.ext ab;clear ab))
        refine SW.ak aN rfl rfl rfl rfl (fw.one (enc:=aA) ⟨0,0,0⟩) fun w6 dF hg => ?_
        have hG:=aN.gr hg;replace hw:=hw.own yg hg;replace hX:=hX.grown hg (.inr jw);(replace aq:=aq.ay hG rfl;replace aw:=aw.ay hG rfl;replace bk:=bk.ay hG rfl;replace hT:=hT.ay hG rfl);refine Wz ?_;refine ae.again (j+1,false,⟨0,0,0⟩) ⟨rfl,rfl,rfl,rfl,rfl,rfl,rfl,congrArg (fun z=>some (Value.int .i64 z)) (by simp only;omega),trivial⟩ (by simp<;>omega) ⟨hw,aq,aw,bk,dF,hX,hT,by simp only;omega,.inl ⟨rfl,fun m h => ?_⟩⟩;simp only at h;by_cases e:m=j
        ·subst e;rw [GK,dU]
        ·exact hI m (by omega)
       ·obtain ⟨k,hk,yr,mR,rA⟩:=nE dU;obtain ⟨y,hy⟩ : ∃ y,z.ag[k]=y:=⟨_,rfl⟩;have c2:=JN (o+(j:Int)) t k hk y hy yr mR;repeat' (first|refine Wz ?_|(refine CW.bO rfl ?_)|(refine SW.call rfl rfl (c2 _ hX.sl) ?_;intro v w1 ab hv;subst hv;replace hw:=Ext.trans hw ab;replace aq:=aq.ext ab;replace aw:=aw.ext ab;replace bk:=bk.ext ab;replace aN:=aN.ext ab;replace hX:=hX.ext ab;replace hT:=hT.ext ab;clear ab))
        refine SW.ak aN rfl rfl rfl rfl (fw.one (enc:=aA) y) fun w6 dF hg => ?_
        have hG:=aN.gr hg;replace hw:=hw.own yg hg;replace hX:=hX.grown hg (.inr jw);(replace aq:=aq.ay hG rfl;replace aw:=aw.ay hG rfl;replace bk:=bk.ay hG rfl;replace hT:=hT.ay hG rfl)
        have hP:dW z.ag o t (some (k,false)):=by
         have:=dW.hit (l:=z.ag) (o:=o) (t:=t) (n:=j) (k:=k) (by omega) (by rw [GK,dU]) hI hk (by rw [lW yO,sB yO];exact yr) (by rw [lW yO,sB yO];exact mR)
         rwa [decide_eq_false (by omega)] at this
        refine Wz ?_;exact ae.again (j+1,true,y) ⟨rfl,rfl,rfl,rfl,rfl,rfl,rfl,congrArg (fun z=>some (Value.int .i64 z)) (by simp only;omega),trivial⟩ (by simp<;>omega) ⟨hw,aq,aw,bk,dF,hX,hT,by simp only;omega,.inr ⟨k,hk,rfl,hy.symm,hP⟩⟩
      ·refine Wz ?_
       have GM:∀ m,m<5→eG z.ag o t m=false:=fun m hm=>by
        by_cases e:m<j
        ·exact hI m e
        ·exact sE (by rw [lW hm];omega)
       exact ae.kx (K:=K) (by rw [hK];exact ⟨false,x,⟨rfl,rfl,rfl,rfl,rfl,rfl,rfl,trivial⟩,hw,aq,aw,bk,aN,hX,hT,.inl ⟨rfl,GM⟩⟩)
     ·by_cases hp:o+(j:Int)≤4
      all_goals
       repeat' (first|refine Wz ?_|(refine CW.bB rfl ?_))
       exact ae.kx (K:=K) (by rw [hK];exact ⟨true,x,⟨rfl,rfl,rfl,rfl,rfl,rfl,rfl,trivial⟩,hw,aq,aw,bk,aN,hX,hT,.inr ⟨k,hk,rfl,F8,hP⟩⟩)
    ·clear hw aq aw bk aN hX hT;subst hK;rintro L' w' ⟨f0,x0,fv,hw,aq,aw,bk,aN,hX,hT,CV⟩
     refine ae.sub fv ?_;clear fv;refine Wz ?_
     obtain ⟨K,hK⟩ : ∃ K:Env→World→Prop,K=fun L' w' => ∃ (f:Bool) (x:Block) (F:List Block) (T:List Int),ez L' [(1,.int .i64 o),(2,.int .i64 t),(3,.pointer (some ⟨b3,0,none⟩)),(6,.pointer (some ⟨b6,0,none⟩)),(9,.pointer (some ⟨b9,0,none⟩)),(10,.pointer (some ⟨jM,0,none⟩)),(11,.bool f)]∧Ext w w'∧aJ w' b3 139 (bp r)∧aJ w' b6 139 (bp .zero)∧aJ w' b9 139 (bp s)∧aJ w' jM 165 (aA x) ∧
      Own w' w.heap.size 165 3 aA s.ag.A s.ag.n s.ag.c F∧Own w' w.heap.size 3 1 bd s.Types.A s.Types.n s.Types.c T∧((f=false ∧ ∀ m,m<15→eG z.ag o t m=false) ∨ ∃ (k:Nat) (st:Bool) (hk:k<z.ag.length),f=true∧x=⟨z.ag[k].At,z.ag[k].Order,kZ z t st z.ag[k]⟩∧dW z.ag o t (some (k,st))∧F=eH z z.ag[k] t st∧T=if st=true then dC z z.ag[k] t else z.Types):=⟨_,rfl⟩
     refine CW.wR K ?_ ?_
     ·refine CW.loop (fun u:Nat×Bool×Block×List Block×List Int=>[(1,.int .i64 o),(2,.int .i64 t),(3,.pointer (some ⟨b3,0,none⟩)),(6,.pointer (some ⟨b6,0,none⟩)),(9,.pointer (some ⟨b9,0,none⟩)),(10,.pointer (some ⟨jM,0,none⟩)),(11,.bool u.2.1),(13,.int .i64 (4-(u.1:Int)))])
       (fun u w'=>Ext w w'∧aJ w' b3 139 (bp r)∧aJ w' b6 139 (bp .zero)∧aJ w' b9 139 (bp s)∧aJ w' jM 165 (aA u.2.2.1)∧Own w' w.heap.size 165 3 aA s.ag.A s.ag.n s.ag.c u.2.2.2.1∧Own w' w.heap.size 3 1 bd s.Types.A s.Types.n s.Types.c u.2.2.2.2∧(u.1:Int)≤5-o ∧
         ((u.2.1=false∧(∀ m,m<5+2*u.1→eG z.ag o t m=false)∧u.2.2.2.1=z.ag∧u.2.2.2.2=z.Types) ∨ ∃ (k:Nat) (st:Bool) (hk:k<z.ag.length),u.2.1=true∧u.2.2.1=⟨z.ag[k].At,z.ag[k].Order,kZ z t st z.ag[k]⟩∧dW z.ag o t (some (k,st))∧u.2.2.2.1=eH z z.ag[k] t st∧u.2.2.2.2=if st=true then dC z z.ag[k] t else z.Types)) (fun u=>if u.2.1=true then 0 else 7-u.1) (0,f0,x0,z.ag,z.Types)
       ⟨rfl,rfl,rfl,rfl,rfl,rfl,rfl,rfl,trivial⟩ ⟨hw,aq,aw,bk,aN,hX,hT,by simp only;omega,?_⟩ ?_
      ·rcases CV with ⟨rfl,CV⟩|⟨k,hk,rfl,rfl,hP⟩
       ·exact .inl ⟨rfl,fun m h=>CV m (by simp only at h;omega),rfl,rfl⟩
       ·exact .inr ⟨k,false,hk,rfl,by simp [kZ],hP,rfl,rfl⟩
      clear hw aq aw bk aN hX hT CV;rintro ⟨j,f,x,F,T⟩ w' ⟨hw,aq,aw,bk,aN,hX,hT,hj,hI⟩
      simp only at aN hX hT hj hI ⊢;rcases hI with ⟨rfl,hI,rfl,rfl⟩|⟨k,st,hk,rfl,F8,hP,hF,EQ⟩
      ·by_cases hp:o≤4-(j:Int)
       ·have HY:=xb (l:=z.ag) (t:=t) hp;have ER:=xc (l:=z.ag) (t:=t) hp;repeat' (first|refine Wz ?_|(refine CW.bO rfl ?_))
        refine SW.call rfl rfl (tO t _ nC) fun v w4 aj hv => ?_
        obtain ⟨U,rfl,hU⟩:=hv;replace hU:=hU.low hw.size;(replace hw:=Ext.trans hw aj;replace aq:=aq.ext aj;replace aw:=aw.ext aj;replace bk:=bk.ext aj;replace aN:=aN.ext aj;replace hX:=hX.ext aj;replace hT:=hT.ext aj);refine Wz ?_
        obtain ⟨K2,HF⟩ : ∃ K2:Env→World→Prop,K2=fun L' w' => ∃ (f:Bool) (x:Block),ez L' [(1,.int .i64 o),(2,.int .i64 t),(3,.pointer (some ⟨b3,0,none⟩)),(6,.pointer (some ⟨b6,0,none⟩)),(9,.pointer (some ⟨b9,0,none⟩)),(10,.pointer (some ⟨jM,0,none⟩)),(11,.bool f),(13,.int .i64 (4-(j:Int)))]∧Ext w w'∧aJ w' b3 139 (bp r)∧aJ w' b6 139 (bp .zero)∧aJ w' b9 139 (bp s)∧aJ w' jM 165 (aA x) ∧
         Own w' w.heap.size 165 3 aA s.ag.A s.ag.n s.ag.c z.ag∧Own w' w.heap.size 3 1 bd s.Types.A s.Types.n s.Types.c z.Types∧((f=false ∧ ∀ m,m<5+2*(j+1)→eG z.ag o t m=false) ∨ ∃ (k:Nat) (hk:k<z.ag.length),f=true∧x=z.ag[k]∧z.ag[k].Order=4-(j:Int)∧dW z.ag o t (some (k,true))):=⟨_,rfl⟩
        refine CW.wR K2 ?_ ?_
        ·refine CW.loop (fun u:Nat×Bool×Block=>[(1,.int .i64 o),(2,.int .i64 t),(3,.pointer (some ⟨b3,0,none⟩)),(6,.pointer (some ⟨b6,0,none⟩)),(9,.pointer (some ⟨b9,0,none⟩)),(10,.pointer (some ⟨jM,0,none⟩)),(11,.bool u.2.1),(13,.int .i64 (4-(j:Int))),(14,.slice U 2 2),(15,.int .i64 (u.1:Int))])
          (fun u w'=>u.1≤2∧Ext w w'∧aJ w' b3 139 (bp r)∧aJ w' b6 139 (bp .zero)∧aJ w' b9 139 (bp s)∧aJ w' jM 165 (aA u.2.2)∧Own w' w.heap.size 165 3 aA s.ag.A s.ag.n s.ag.c z.ag∧Own w' w.heap.size 3 1 bd s.Types.A s.Types.n s.Types.c z.Types∧Own w' w.heap.size 3 1 bd U 2 2 [mY t,mZ t] ∧
            ((u.2.1=false ∧ ∀ m,m<5+2*j+u.1→eG z.ag o t m=false) ∨ ∃ (k:Nat) (hk:k<z.ag.length),u.2.1=true∧u.2.2=z.ag[k]∧z.ag[k].Order=4-(j:Int)∧dW z.ag o t (some (k,true)))) (fun u=>if u.2.1=true then 0 else 7-u.1) (0,false,x)
          ⟨rfl,rfl,rfl,rfl,rfl,rfl,rfl,rfl,rfl,rfl,trivial⟩ ⟨by simp only;omega,hw,aq,aw,bk,aN,hX,hT,hU,.inl ⟨rfl,hI⟩⟩ ?_
         clear hw aq aw bk aN hX hT hU hI;rintro ⟨v,f,x⟩ w' ⟨Mu,hw,aq,aw,bk,aN,hX,hT,hU,hI⟩
         simp only at Mu aN hI ⊢;rcases hI with ⟨rfl,hI⟩|⟨k,hk,rfl,F8,Gd,hP⟩
         ·rcases (show v=0∨v=1∨v=2 by omega) with rfl|rfl|rfl
          ·have hV : 0<2:=by omega
           have MP:=hU.sl.base;cases dU:z.ag.any (fW (4-(j:Int)) (mY t))
           ·have c2:=JM (4-(j:Int)) (mY t) dU;repeat' (first|refine Wz ?_|(refine CW.bO rfl ?_))
            refine CW.iS 11 12 (fun _=>True) mixed (by kernel_rfl) fun w1 ab aG => ?_
            replace hw:=Ext.trans hw ab;replace aq:=aq.ext ab;replace aw:=aw.ext ab;replace bk:=bk.ext ab;replace aN:=aN.ext ab;replace hX:=hX.ext ab;replace hT:=hT.ext ab;replace hU:=hU.ext ab;clear ab;refine Wf ?_;refine SF.take 6 [] [] aG rfl (by kernel_rfl) (by kernel_rfl) (by kernel_rfl) ?_;repeat ((show SW _ _ _ _ (⟨_,Op.load _ _,_,_,_,none⟩::_) _ _;refine SW.st (ao rfl (hU.sl.one hV (u := .int .i64 (mY t)) rfl)) rfl ?_))
            refine SW.ah ?_;refine SF.one 7 rfl (by kernel_rfl) rfl ?_;refine SW.call rfl rfl (c2 _ hX.sl) fun v w4 aj hv => ?_
            subst hv;(replace hw:=Ext.trans hw aj;replace aq:=aq.ext aj;replace aw:=aw.ext aj;replace bk:=bk.ext aj;replace aN:=aN.ext aj;replace hX:=hX.ext aj;replace hT:=hT.ext aj;replace hU:=hU.ext aj);refine SW.nil (ae.sf aj ?_);refine Wf ?_;refine SF.dK 10 [] aG rfl (by kernel_rfl) (by kernel_rfl) (by kernel_rfl) (ba rfl) (fun w2 hS=>ba rfl) rfl ?_;refine SF.turn rfl (by kernel_rfl) rfl ?_;refine SW.ak aN rfl rfl rfl rfl (fw.one (enc:=aA) ⟨0,0,0⟩) fun w6 dF hg => ?_
            have hG:=aN.gr hg;have hS:True:=trivial
            replace hw:=hw.own yg hg;replace hX:=hX.grown hg (.inr jw);(replace aq:=aq.ay hG rfl;replace aw:=aw.ay hG rfl;replace bk:=bk.ay hG rfl;replace hT:=hT.ay hG rfl;replace hU:=hU.ay hG rfl);refine SW.nil (ae.sg hS ?_);refine SG.last rfl (by kernel_rfl) (by kernel_rfl) ?_;refine Wz ?_;refine ae.again (0+1,false,⟨0,0,0⟩) ⟨rfl,rfl,rfl,rfl,rfl,rfl,rfl,rfl,rfl,rfl,trivial⟩ (by simp<;>omega) ⟨by simp only;omega,hw,aq,aw,bk,dF,hX,hT,hU,.inl ⟨rfl,fun m h => ?_⟩⟩;simp only at h;by_cases e:m=5+2*j+0
            ·subst e;exact HY.trans dU
            ·exact hI m (by omega)
           ·obtain ⟨k,hk,yr,mR,rA⟩:=nE dU;obtain ⟨y,hy⟩ : ∃ y,z.ag[k]=y:=⟨_,rfl⟩;have c2:=JN (4-(j:Int)) (mY t) k hk y hy yr mR
            have hP:dW z.ag o t (some (k,true)):=by
             have:=dW.hit (l:=z.ag) (o:=o) (t:=t) (n:=5+2*j+0) (k:=k) (by omega) (HY.trans dU) hI hk (by have e1:=pj (o:=o) (j:=j);have e2:=sC (t:=t) (j:=j);(try simp only [Nat.add_zero] at *);rw [e1,e2];exact yr) (by have e1:=pj (o:=o) (j:=j);have e2:=sC (t:=t) (j:=j);(try simp only [Nat.add_zero] at *);rw [e1,e2];exact mR)
             rwa [decide_eq_true (by omega)] at this
            have Gd:=(lu.1 yr).1;repeat' (first|refine Wz ?_|(refine CW.bO rfl ?_))
            refine CW.iS 11 12 (fun _=>True) mixed (by kernel_rfl) fun w1 ab aG => ?_
            replace hw:=Ext.trans hw ab;replace aq:=aq.ext ab;replace aw:=aw.ext ab;replace bk:=bk.ext ab;replace aN:=aN.ext ab;replace hX:=hX.ext ab;replace hT:=hT.ext ab;replace hU:=hU.ext ab;clear ab;refine Wf ?_;refine SF.take 6 [] [] aG rfl (by kernel_rfl) (by kernel_rfl) (by kernel_rfl) ?_;repeat ((show SW _ _ _ _ (⟨_,Op.load _ _,_,_,_,none⟩::_) _ _;refine SW.st (ao rfl (hU.sl.one hV (u := .int .i64 (mY t)) rfl)) rfl ?_))
            refine SW.ah ?_;refine SF.one 7 rfl (by kernel_rfl) rfl ?_;refine SW.call rfl rfl (c2 _ hX.sl) fun v w4 aj hv => ?_
            subst hv;(replace hw:=Ext.trans hw aj;replace aq:=aq.ext aj;replace aw:=aw.ext aj;replace bk:=bk.ext aj;replace aN:=aN.ext aj;replace hX:=hX.ext aj;replace hT:=hT.ext aj;replace hU:=hU.ext aj);refine SW.nil (ae.sf aj ?_);refine Wf ?_;refine SF.dK 10 [] aG rfl (by kernel_rfl) (by kernel_rfl) (by kernel_rfl) (ba rfl) (fun w2 hS=>ba rfl) rfl ?_;refine SF.turn rfl (by kernel_rfl) rfl ?_;refine SW.ak aN rfl rfl rfl rfl (fw.one (enc:=aA) y) fun w6 dF hg => ?_
            have hG:=aN.gr hg;have hS:True:=trivial
            replace hw:=hw.own yg hg;replace hX:=hX.grown hg (.inr jw);(replace aq:=aq.ay hG rfl;replace aw:=aw.ay hG rfl;replace bk:=bk.ay hG rfl;replace hT:=hT.ay hG rfl;replace hU:=hU.ay hG rfl);refine SW.nil (ae.sg hS ?_);refine SG.last rfl (by kernel_rfl) (by kernel_rfl) ?_;refine Wz ?_;exact ae.again (0+1,true,y) ⟨rfl,rfl,rfl,rfl,rfl,rfl,rfl,rfl,rfl,rfl,trivial⟩ (by simp<;>omega) ⟨by simp only;omega,hw,aq,aw,bk,dF,hX,hT,hU,.inr ⟨k,hk,rfl,hy.symm,Gd,hP⟩⟩
          ·have hV : 1<2:=by omega
           have MP:=hU.sl.base;cases dU:z.ag.any (fW (4-(j:Int)) (mZ t))
           ·have c2:=JM (4-(j:Int)) (mZ t) dU;repeat' (first|refine Wz ?_|(refine CW.bO rfl ?_))
            refine CW.iS 11 12 (fun _=>True) mixed (by kernel_rfl) fun w1 ab aG => ?_
            replace hw:=Ext.trans hw ab;replace aq:=aq.ext ab;replace aw:=aw.ext ab;replace bk:=bk.ext ab;replace aN:=aN.ext ab;replace hX:=hX.ext ab;replace hT:=hT.ext ab;replace hU:=hU.ext ab;clear ab;refine Wf ?_;refine SF.take 6 [] [] aG rfl (by kernel_rfl) (by kernel_rfl) (by kernel_rfl) ?_;repeat ((show SW _ _ _ _ (⟨_,Op.load _ _,_,_,_,none⟩::_) _ _;refine SW.st (ao rfl (hU.sl.one hV (u := .int .i64 (mZ t)) rfl)) rfl ?_))
            refine SW.ah ?_;refine SF.one 7 rfl (by kernel_rfl) rfl ?_;refine SW.call rfl rfl (c2 _ hX.sl) fun v w4 aj hv => ?_
            subst hv;(replace hw:=Ext.trans hw aj;replace aq:=aq.ext aj;replace aw:=aw.ext aj;replace bk:=bk.ext aj;replace aN:=aN.ext aj;replace hX:=hX.ext aj;replace hT:=hT.ext aj;replace hU:=hU.ext aj);refine SW.nil (ae.sf aj ?_);refine Wf ?_;refine SF.dK 10 [] aG rfl (by kernel_rfl) (by kernel_rfl) (by kernel_rfl) (ba rfl) (fun w2 hS=>ba rfl) rfl ?_;refine SF.turn rfl (by kernel_rfl) rfl ?_;refine SW.ak aN rfl rfl rfl rfl (fw.one (enc:=aA) ⟨0,0,0⟩) fun w6 dF hg => ?_
            have hG:=aN.gr hg;have hS:True:=trivial
            replace hw:=hw.own yg hg;replace hX:=hX.grown hg (.inr jw);(replace aq:=aq.ay hG rfl;replace aw:=aw.ay hG rfl;replace bk:=bk.ay hG rfl;replace hT:=hT.ay hG rfl;replace hU:=hU.ay hG rfl);refine SW.nil (ae.sg hS ?_);refine SG.last rfl (by kernel_rfl) (by kernel_rfl) ?_;refine Wz ?_;refine ae.again (1+1,false,⟨0,0,0⟩) ⟨rfl,rfl,rfl,rfl,rfl,rfl,rfl,rfl,rfl,rfl,trivial⟩ (by simp<;>omega) ⟨by simp only;omega,hw,aq,aw,bk,dF,hX,hT,hU,.inl ⟨rfl,fun m h => ?_⟩⟩;simp only at h;by_cases e:m=5+2*j+1
            ·subst e;exact ER.trans dU
            ·exact hI m (by omega)
           ·obtain ⟨k,hk,yr,mR,rA⟩:=nE dU;obtain ⟨y,hy⟩ : ∃ y,z.ag[k]=y:=⟨_,rfl⟩;have c2:=JN (4-(j:Int)) (mZ t) k hk y hy yr mR
            have hP:dW z.ag o t (some (k,true)):=by
             have:=dW.hit (l:=z.ag) (o:=o) (t:=t) (n:=5+2*j+1) (k:=k) (by omega) (ER.trans dU) hI hk (by have e1:=pk (o:=o) (j:=j);have e2:=sD (t:=t) (j:=j);(try simp only [Nat.add_zero] at *);rw [e1,e2];exact yr) (by have e1:=pk (o:=o) (j:=j);have e2:=sD (t:=t) (j:=j);(try simp only [Nat.add_zero] at *);rw [e1,e2];exact mR)
             rwa [decide_eq_true (by omega)] at this
            have Gd:=(lu.1 yr).1;repeat' (first|refine Wz ?_|(refine CW.bO rfl ?_))
            refine CW.iS 11 12 (fun _=>True) mixed (by kernel_rfl) fun w1 ab aG => ?_
            replace hw:=Ext.trans hw ab;replace aq:=aq.ext ab;replace aw:=aw.ext ab;replace bk:=bk.ext ab;replace aN:=aN.ext ab;replace hX:=hX.ext ab;replace hT:=hT.ext ab;replace hU:=hU.ext ab;clear ab;refine Wf ?_;refine SF.take 6 [] [] aG rfl (by kernel_rfl) (by kernel_rfl) (by kernel_rfl) ?_;repeat ((show SW _ _ _ _ (⟨_,Op.load _ _,_,_,_,none⟩::_) _ _;refine SW.st (ao rfl (hU.sl.one hV (u := .int .i64 (mZ t)) rfl)) rfl ?_))
            refine SW.ah ?_;refine SF.one 7 rfl (by kernel_rfl) rfl ?_;refine SW.call rfl rfl (c2 _ hX.sl) fun v w4 aj hv => ?_
            subst hv;(replace hw:=Ext.trans hw aj;replace aq:=aq.ext aj;replace aw:=aw.ext aj;replace bk:=bk.ext aj;replace aN:=aN.ext aj;replace hX:=hX.ext aj;replace hT:=hT.ext aj;replace hU:=hU.ext aj);refine SW.nil (ae.sf aj ?_);refine Wf ?_;refine SF.dK 10 [] aG rfl (by kernel_rfl) (by kernel_rfl) (by kernel_rfl) (ba rfl) (fun w2 hS=>ba rfl) rfl ?_;refine SF.turn rfl (by kernel_rfl) rfl ?_;refine SW.ak aN rfl rfl rfl rfl (fw.one (enc:=aA) y) fun w6 dF hg => ?_
            have hG:=aN.gr hg;have hS:True:=trivial
            replace hw:=hw.own yg hg;replace hX:=hX.grown hg (.inr jw);(replace aq:=aq.ay hG rfl;replace aw:=aw.ay hG rfl;replace bk:=bk.ay hG rfl;replace hT:=hT.ay hG rfl;replace hU:=hU.ay hG rfl);refine SW.nil (ae.sg hS ?_);refine SG.last rfl (by kernel_rfl) (by kernel_rfl) ?_;refine Wz ?_;exact ae.again (1+1,true,y) ⟨rfl,rfl,rfl,rfl,rfl,rfl,rfl,rfl,rfl,rfl,trivial⟩ (by simp<;>omega) ⟨by simp only;omega,hw,aq,aw,bk,dF,hX,hT,hU,.inr ⟨k,hk,rfl,hy.symm,Gd,hP⟩⟩
          ·refine Wz ?_;exact ae.kx (K:=K2) (by rw [HF];exact ⟨false,x,⟨rfl,rfl,rfl,rfl,rfl,rfl,rfl,rfl,trivial⟩,hw,aq,aw,bk,aN,hX,hT,.inl ⟨rfl,fun m h=>hI m (by omega)⟩⟩)
         ·rcases (show v<2∨v=2 by omega) with Bp|Bp
          all_goals
           repeat' (first|refine Wz ?_|(refine CW.bB rfl ?_))
           exact ae.kx (K:=K2) (by rw [HF];exact ⟨true,x,⟨rfl,rfl,rfl,rfl,rfl,rfl,rfl,rfl,trivial⟩,hw,aq,aw,bk,aN,hX,hT,.inr ⟨k,hk,rfl,F8,Gd,hP⟩⟩)
        ·clear hw aq aw bk aN hX hT hU hI HY ER;subst HF;rintro L' w' ⟨f,x,fv,hw,aq,aw,bk,aN,hX,hT,hI⟩
         refine ae.sub fv ?_;clear fv JM JN;rcases hI with ⟨rfl,hI⟩|⟨k,hk,rfl,rfl,Gd,hP⟩
         ·refine Wz ?_;exact ae.again (j+1,false,x,z.ag,z.Types) ⟨rfl,rfl,rfl,rfl,rfl,rfl,rfl,congrArg (fun z=>some (Value.int .i64 z)) (by simp only;omega),trivial⟩ (by simp<;>omega) ⟨hw,aq,aw,bk,aN,hX,hT,by simp only;omega,.inl ⟨rfl,hI,rfl,rfl⟩⟩
         ·by_cases KD : 4-(j:Int)<2
          ·obtain ⟨q1,q2,q3⟩:=BZ (z:=z) (b:=z.ag[k]) (t:=t) (st:=true) (by omega);refine Wz ?_;exact ae.again (j+1,true,z.ag[k],z.ag,z.Types) ⟨rfl,rfl,rfl,rfl,rfl,rfl,rfl,congrArg (fun z=>some (Value.int .i64 z)) (by simp only;omega),trivial⟩ (by simp<;>omega) ⟨hw,aq,aw,bk,aN,hX,hT,by simp only;omega,.inr ⟨k,true,hk,rfl,by simp only [q3],hP,q1.symm,q2.symm⟩⟩
          ·have OV : 2≤4-(j:Int):=by omega
           obtain ⟨⟨f1,f2,f3,f4,f5⟩,f6⟩:=hz.c8 k hk
           have kQ:∃ (k':Nat) (st:Bool) (oR:k'<z.ag.length),(⟨z.ag[k].At,z.ag[k].Order,t⟩ : Block)=⟨z.ag[k'].At,z.ag[k'].Order,kZ z t st z.ag[k']⟩∧dW z.ag o t (some (k',st))∧eD z.ag z.ag[k] t=eH z z.ag[k'] t st∧dC z z.ag[k] t=if st=true then dC z z.ag[k'] t else z.Types :=
            ⟨k,true,hk,by unfold kZ;rw [if_pos ⟨rfl,by omega⟩],hP,rfl,rfl⟩
           obtain ⟨x,hx⟩ : ∃ x,z.ag[k]=x:=⟨_,rfl⟩;simp only [hx] at Gd f1 f2 f3 f4 f5 aN kQ;have cP:∀ w',bo Tryz.prog 69 [.int .i64 (4-(j:Int))] w' fun v _=>v = .int .i64 (pw x.Order):=fun w'=>by rw [Gd];exact c9 _ (by omega) w'
           have Lz:=bE f1 f2;obtain ⟨wV,Mw⟩:=HE (b:=x) (by omega) f2 f5;have OW:∀ c:Nat,(x.At / 8*8+8*(c:Int)-z.aX) / 8=((js z x+c:Nat) : Int):=fun c=>by unfold js;omega
           have AM:∀ c:Nat,c<Cm x→js z x+c<s.Types.n:=fun c hc=>by
            unfold Cm at hc;unfold js;have hlen:=hz.len;rcases ev f1 f2 with ⟨e1,e2⟩|⟨e1,e2⟩|⟨e1,e2⟩|⟨e1,e2⟩|⟨e1,e2⟩<;>rw [e2] at f5<;>split at hc<;>omega
           have tV:Cm x≤2:=by unfold Cm;split<;>omega
           repeat' (first|refine Wz ?_|((apply CW.aP mixed;(· kernel_rfl);rotate_left;intro w1 ab;replace hw:=Ext.trans hw ab;replace aq:=aq.ext ab;replace aw:=aw.ext ab;replace bk:=bk.ext ab;replace aN:=aN.ext ab;replace hX:=hX.ext ab;replace hT:=hT.ext ab;clear ab;rotate_right))|refine SW.br rfl rfl (fun w1 ab=>(cP _)) ?_|exact SW.bx rfl)
           refine CW.loop (fun c:Nat=>[(1,.int .i64 o),(2,.int .i64 t),(3,.pointer (some ⟨b3,0,none⟩)),(6,.pointer (some ⟨b6,0,none⟩)),(9,.pointer (some ⟨b9,0,none⟩)),(10,.pointer (some ⟨jM,0,none⟩)),(11,.bool true),(13,.int .i64 (4-(j:Int))),(16,.int .i64 (x.At / 8*8)),(17,.int .i64 (mE x-8)),(18,.int .i64 (x.At / 8*8+8*(c:Int)))])
            (fun c w'=>c≤Cm x∧Ext w w'∧aJ w' b3 139 (bp r)∧aJ w' b6 139 (bp .zero)∧aJ w' b9 139 (bp s)∧aJ w' jM 165 (aA x) ∧
              Own w' w.heap.size 165 3 aA s.ag.A s.ag.n s.ag.c z.ag∧Own w' w.heap.size 3 1 bd s.Types.A s.Types.n s.Types.c (BX z.Types (js z x) t c)) (fun c=>Cm x-c) 0
            ⟨rfl,rfl,rfl,rfl,rfl,rfl,rfl,rfl,rfl,congrArg (fun z=>some (Value.int .i64 z)) wV,congrArg (fun z=>some (Value.int .i64 z)) (by omega),trivial⟩ ⟨by omega,hw,aq,aw,bk,aN,hX,hT⟩ ?_
           clear hw aq aw bk aN hX hT;rintro c w' ⟨hc,hw,aq,aw,bk,aN,hX,hT⟩
           by_cases Na:c<Cm x
           ·have NH:=OW c;have cf:=AM c Na;have NF:=hT.sl.base;repeat' (first|refine Wz ?_|refine SW.st (bc (js z x+c) rfl rfl (by assumption) (by omega) (by omega)) rfl ?_)
            refine SW.j4 (js z x+c) hT rfl rfl cf fun w5 EP hg => ?_
            have hG:=hT.gr hg;replace hw:=aF hw hg (Nat.le_refl _) hT.aM;(replace aq:=aq.ay hG rfl;replace aw:=aw.ay hG rfl;replace bk:=bk.ay hG rfl;replace aN:=aN.ay hG rfl;replace hX:=hX.ay hG rfl);rw [BY (by omega)] at EP;refine Wz ?_;exact ae.again (c+1) ⟨rfl,rfl,rfl,rfl,rfl,rfl,rfl,rfl,rfl,rfl,congrArg (fun z=>some (Value.int .i64 z)) (by omega),trivial⟩ (by omega) ⟨by omega,hw,aq,aw,bk,aN,hX,EP⟩
           ·obtain rfl:c=Cm x:=by omega
            rw [D4 (by omega)] at hT;refine Wz ?_;obtain ⟨f,hf⟩ : ∃ f,Ce (x.At / 8*8) (mE x) t=f:=⟨_,rfl⟩
            refine CW.loop (fun i:Nat=>[(1,.int .i64 o),(2,.int .i64 t),(3,.pointer (some ⟨b3,0,none⟩)),(6,.pointer (some ⟨b6,0,none⟩)),(9,.pointer (some ⟨b9,0,none⟩)),(10,.pointer (some ⟨jM,0,none⟩)),(11,.bool true),(13,.int .i64 (4-(j:Int))),(16,.int .i64 (x.At / 8*8)),(17,.int .i64 (mE x-8)),(19,.int .i64 (i:Int))])
             (fun i w'=>i≤s.ag.n∧Ext w w'∧aJ w' b3 139 (bp r)∧aJ w' b6 139 (bp .zero)∧aJ w' b9 139 (bp s)∧aJ w' jM 165 (aA x) ∧
               Own w' w.heap.size 165 3 aA s.ag.A s.ag.n s.ag.c (iO f z.ag i)∧Own w' w.heap.size 3 1 bd s.Types.A s.Types.n s.Types.c (dC z x t)) (fun i=>s.ag.n-i) 0
             ⟨rfl,rfl,rfl,rfl,rfl,rfl,rfl,rfl,rfl,rfl,rfl,trivial⟩ ⟨by omega,hw,aq,aw,bk,aN,by rw [sI];exact hX,hT⟩ ?_
            clear hw aq aw bk aN hX hT hc Na;rintro i w' ⟨hi,hw,aq,aw,bk,aN,hX,hT⟩
            have hA:=hX.sl.base;by_cases cf:i<s.ag.n
            ·have kK:i<z.ag.length:=by omega
             obtain ⟨g1,g2,g3,g4,g5⟩:=(hz.c8 i kK).1;obtain ⟨y,hy⟩ : ∃ y,z.ag[i]=y:=⟨_,rfl⟩;have k6:=qj (f:=f) kK;rw [hy] at g1 g2 g3 g4 g5 k6;have NI:=bE g1 g2;have y0:∀ w2,Own w2 w.heap.size 165 3 aA s.ag.A s.ag.n s.ag.c (iO f z.ag i)→w2.cell? (((s.ag.A.getD default).add (i*3)).add 0)=some (.int .i64 y.At):=fun w2 h=>h.sl.dA cf (by rw [k6];rfl)
             have y1:∀ w2,Own w2 w.heap.size 165 3 aA s.ag.A s.ag.n s.ag.c (iO f z.ag i)→w2.cell? (((s.ag.A.getD default).add (i*3)).add 1)=some (.int .i64 y.Order):=fun w2 h=>h.sl.dA cf (by rw [k6];rfl)
             have cY:∀ w',bo Tryz.prog 69 [.int .i64 y.Order] w' fun v _=>v = .int .i64 (pw y.Order):=fun w'=>c9 _ (by omega) w'
             by_cases xe:x.At / 8*8≤y.At∧y.At+pw y.Order≤mE x
             ·have GL:f y=⟨y.At,y.Order,t⟩:=by rw [← hf];unfold Ce;rw [if_pos xe]
              repeat' (first|refine Wz ?_|((apply CW.aP mixed;(· kernel_rfl);rotate_left;intro w1 ab;replace hw:=Ext.trans hw ab;replace aq:=aq.ext ab;replace aw:=aw.ext ab;replace bk:=bk.ext ab;replace aN:=aN.ext ab;replace hX:=hX.ext ab;replace hT:=hT.ext ab;clear ab;rotate_right))|refine SW.st (ao rfl (y0 _ hX)) rfl ?_|refine SW.st (ao rfl (y1 _ hX)) rfl ?_|refine SW.br rfl rfl (fun w1 ab=>(bP _ _ _ _)) ?_|refine SW.br rfl rfl (fun w1 ab=>(cY _)) ?_|exact SW.bx rfl)
              all_goals try omega
              refine SW.gR i 2 ⟨y.At,y.Order,t⟩ hX rfl rfl rfl cf (by decide) rfl (by rw [k6];rfl) fun w5 tY hg => ?_
              have hG:=hX.gr hg;replace hw:=aF hw hg (Nat.le_refl _) hX.aM;replace aN:=aN.grown hg (fun e=>jw e.symm);(replace aq:=aq.ay hG rfl;replace aw:=aw.ay hG rfl;replace bk:=bk.ay hG rfl;replace hT:=hT.ay hG rfl);rw [← GL,← hy,qk kK] at tY;refine Wz ?_;exact ae.again (i+1) ⟨rfl,rfl,rfl,rfl,rfl,rfl,rfl,rfl,rfl,rfl,rfl,trivial⟩ (by omega) ⟨by omega,hw,aq,aw,bk,aN,tY,hT⟩
             ·have GL:f y=y:=by rw [← hf];unfold Ce;rw [if_neg xe]
              have FL:=sH (f:=f) kK (by rw [hy];exact GL);obtain ⟨bI,Nb⟩ : ∃ bI,decide (x.At / 8*8≤y.At∧y.At≤mE x-8+7)=bI:=⟨_,rfl⟩
              have cI:∀ w',bo Tryz.prog 48 [.int .i64 y.At,.int .i64 (x.At / 8*8),.int .i64 (mE x-8+7)] w' fun v _=>v = .bool bI:=fun w'=>by
               have:=bP y.At (x.At / 8*8) (mE x-8+7) w'
               rwa [Nb] at this
              cases bI
              ·repeat' (first|refine Wz ?_|((apply CW.aP mixed;(· kernel_rfl);rotate_left;intro w1 ab;replace hw:=Ext.trans hw ab;replace aq:=aq.ext ab;replace aw:=aw.ext ab;replace bk:=bk.ext ab;replace aN:=aN.ext ab;replace hX:=hX.ext ab;replace hT:=hT.ext ab;clear ab;rotate_right))|refine SW.st (ao rfl (y0 _ hX)) rfl ?_|refine SW.br rfl rfl (fun w1 ab=>(cI _)) ?_|exact SW.bx rfl)
               exact ae.again (i+1) ⟨rfl,rfl,rfl,rfl,rfl,rfl,rfl,rfl,rfl,rfl,rfl,trivial⟩ (by omega) ⟨by omega,hw,aq,aw,bk,aN,by rw [FL];exact hX,hT⟩
              ·have PF:=of_decide_eq_true Nb;repeat' (first|refine Wz ?_|((apply CW.aP mixed;(· kernel_rfl);rotate_left;intro w1 ab;replace hw:=Ext.trans hw ab;replace aq:=aq.ext ab;replace aw:=aw.ext ab;replace bk:=bk.ext ab;replace aN:=aN.ext ab;replace hX:=hX.ext ab;replace hT:=hT.ext ab;clear ab;rotate_right))|refine SW.st (ao rfl (y0 _ hX)) rfl ?_|refine SW.st (ao rfl (y1 _ hX)) rfl ?_|refine SW.br rfl rfl (fun w1 ab=>(cI _)) ?_|refine SW.br rfl rfl (fun w1 ab=>(cY _)) ?_|exact SW.bx rfl)
               exact ae.again (i+1) ⟨rfl,rfl,rfl,rfl,rfl,rfl,rfl,rfl,rfl,rfl,rfl,trivial⟩ (by omega) ⟨by omega,hw,aq,aw,bk,aN,by rw [FL];exact hX,hT⟩
            ·obtain rfl:i=s.ag.n:=by omega
             rw [es,uR,← hf] at hX;have Fz:Own w' w.heap.size 165 3 aA s.ag.A s.ag.n s.ag.c (eD z.ag x t):=by rw [eD,if_neg (by omega),es];exact hX
             refine Wz ?_;refine SW.bA (i:=2) aN rfl rfl rfl rfl fun w6 dF hg => ?_
             have hG:=aN.gr hg;replace hw:=hw.own yg hg;replace Fz:=Fz.grown hg (.inr jw);(replace aq:=aq.ay hG rfl;replace aw:=aw.ay hG rfl;replace bk:=bk.ay hG rfl;replace hT:=hT.ay hG rfl);refine Wz ?_;exact ae.again (j+1,true,⟨x.At,x.Order,t⟩,eD z.ag x t,dC z x t) ⟨rfl,rfl,rfl,rfl,rfl,rfl,rfl,congrArg (fun z=>some (Value.int .i64 z)) (by simp only;omega),trivial⟩ (by simp<;>omega) ⟨hw,aq,aw,bk,dF,Fz,hT,by simp only;omega,.inr (by obtain ⟨k',st,oR,e1,e2,e3,e4⟩:=kQ;exact ⟨k',st,oR,rfl,e1,e2,e3,e4⟩)⟩
       ·refine Wz ?_
        have GM:∀ m,m<15→eG z.ag o t m=false:=fun m hm=>by
         by_cases e:m<5+2*j
         ·exact hI m e
         ·exact xd (j:=j) (by omega) (by omega)
        exact ae.kx (K:=K) (by rw [hK];exact ⟨false,x,z.ag,z.Types,⟨rfl,rfl,rfl,rfl,rfl,rfl,rfl,trivial⟩,hw,aq,aw,bk,aN,hX,hT,.inl ⟨rfl,GM⟩⟩)
      ·by_cases hp:o≤4-(j:Int)
       all_goals
        repeat' (first|refine Wz ?_|(refine CW.bB rfl ?_))
        exact ae.kx (K:=K) (by rw [hK];exact ⟨true,x,F,T,⟨rfl,rfl,rfl,rfl,rfl,rfl,rfl,trivial⟩,hw,aq,aw,bk,aN,hX,hT,.inr ⟨k,st,hk,rfl,F8,hP,hF,EQ⟩⟩)
     ·clear hw aq aw bk aN hX hT CV;subst hK;rintro L' w' ⟨f,x,F,T,fv,hw,aq,aw,bk,aN,hX,hT,hI⟩
      refine ae.sub fv ?_;clear fv JM JN;rcases hI with ⟨rfl,hI⟩|⟨k,st,hk,rfl,rfl,hP,rfl,EQ⟩
      ·repeat' (first|refine Wz ?_|(refine CW.bO rfl ?_))
       refine SW.ak aw rfl rfl rfl rfl (cJ .zero) fun w5 bF hg => ?_
       replace hw:=hw.own cu hg;refine Wz ?_;exact ae.cl rfl rfl rfl rfl bF rfl ⟨_,rfl,hw,_,.room hq ho nC (.vH hI),gI.zero 6 _ _⟩
      ·obtain ⟨_,HZ,J9⟩:=hP.ord;obtain ⟨l1,l2,l3⟩:=pn hz (b:=z.ag[k]) nC st;have ES:k<(eH z z.ag[k] t st).length:=by omega
       have AV:(eH z z.ag[k] t st)[k]=⟨z.ag[k].At,z.ag[k].Order,kZ z t st z.ag[k]⟩:=qg hz nC st hk
       obtain ⟨⟨f1,f2,f3,f4,f5⟩,f6⟩:=hz.c8 k hk;have jh:gl z o t (m7 z o t z.ag[k] k st,z.ag[k].At,0) := .ok hq ho nC hk hP
       have hJ:=qf l2 l3 ES;have HW:(eH z z.ag[k] t st).eraseIdx k=dc (eH z z.ag[k] t st) z.ag[k].At z.ag[k].Order:=n9 l2 l3 ES (by rw [AV]) (by rw [AV])
       rw [AV] at hJ;have CB:fp (kZ z t st z.ag[k]):=by unfold kZ;split<;>assumption
       obtain ⟨ty,GN⟩ : ∃ ty,kZ z t st z.ag[k]=ty:=⟨_,rfl⟩
       have IQ:m7 z o t z.ag[k] k st=⟨z.aX,z.To,iW ty z.ag[k].At (z.ag[k].Order-o).toNat z.ag[k].Order ((eH z z.ag[k] t st).eraseIdx k),T⟩:=by
        rw [EQ,← GN];rfl
       rw [IQ] at jh;rw [GN] at aN CB;clear IQ GN EQ hP AV l2 l3;obtain ⟨F,hF⟩ : ∃ F,eH z z.ag[k] t st=F:=⟨_,rfl⟩;simp only [hF] at hX l1 ES hJ jh HW;obtain ⟨x,hx⟩ : ∃ x,z.ag[k]=x:=⟨_,rfl⟩;simp only [hx] at hJ jh f1 f2 f3 f4 f5 HZ J9 HW aN;clear f6;repeat' (first|refine Wz ?_|(refine CW.bB rfl ?_))
       refine SW.call rfl rfl (qN s.ag.A s.ag.n s.ag.c F x.At x.Order _ hX.sl (by omega)) fun v w5 aj hv => ?_
       obtain ⟨B,c',rfl,hW⟩:=hv;rw [← HW] at hW;rw [← HW];replace hW:=hW.low hw.size;(replace hw:=Ext.trans hw aj;replace aq:=aq.ext aj;replace aw:=aw.ext aj;replace bk:=bk.ext aj;replace aN:=aN.ext aj;replace hT:=hT.ext aj);clear hX;refine Wz ?_;refine SW.bA (i:=2) bk rfl rfl rfl rfl fun w7 gi hg => ?_
       have hG:=bk.gr hg;replace hw:=hw.own LX hg;replace aw:=aw.grown hg (by simpa using D5);(replace aN:=aN.ay hG rfl;replace hW:=hW.ay hG rfl;replace hT:=hT.ay hG rfl);replace bk:aJ w7 b9 139 [.int .i64 s.aX,.int .i64 s.To,.slice B (F.eraseIdx k).length c',.slice s.Types.A s.Types.n s.Types.c]:=gi;replace aN:aJ w7 jM 165 [.int .i64 x.At,.int .i64 x.Order,.int .i64 ty]:=aN;clear gi hg hG aq;have PG:(F.eraseIdx k).length≤F.length:=List.length_eraseIdx_le F k
       refine Wz ?_;obtain ⟨AX,CX⟩ : ∃ AX,iW ty x.At (x.Order-o).toNat x.Order (F.eraseIdx k)=AX:=⟨_,rfl⟩;rw [CX] at jh
       refine CW.loop (fun u:Int×List Block×Option Addr×Nat=>[(1,.int .i64 o),(6,.pointer (some ⟨b6,0,none⟩)),(9,.pointer (some ⟨b9,0,none⟩)),(10,.pointer (some ⟨jM,0,none⟩)),(20,.int .i64 (u.1-1))])
        (fun u w'=>Ext w w'∧aJ w' b9 139 [.int .i64 s.aX,.int .i64 s.To,.slice u.2.2.1 u.2.1.length u.2.2.2,.slice s.Types.A s.Types.n s.Types.c]∧aJ w' b6 139 (bp .zero)∧aJ w' jM 165 [.int .i64 x.At,.int .i64 x.Order,.int .i64 ty] ∧
          Own w' w.heap.size 165 3 aA u.2.2.1 u.2.1.length u.2.2.2 u.2.1∧Own w' w.heap.size 3 1 bd s.Types.A s.Types.n s.Types.c T∧vC z.aX z.To u.2.1 x.At u.1∧o≤u.1∧iW ty x.At (u.1-o).toNat u.1 u.2.1=AX∧(u.2.1.length:Int)+u.1≤300) (fun u=>(u.1-o).toNat) (x.Order,F.eraseIdx k,B,c')
        ⟨rfl,rfl,rfl,rfl,rfl,trivial⟩ ⟨hw,bk,aw,aN,hW,hT,hJ,HZ,CX,by simp only;omega⟩ ?_
       clear hw bk aw aN hW hT hJ;rintro ⟨q,l,A,c⟩ w' ⟨hw,bk,aw,aN,hX,hT,hJ,KQ,rp,hlen⟩
       simp only at bk hX hJ KQ rp hlen ⊢;have PH:=hJ.fit.2.1;by_cases NJ:o<q
       ·obtain ⟨k1,k2,k3,k4,k5⟩:=hJ.fit;obtain ⟨jR,IT⟩:=sG hJ o1 o3 o5 (by omega) CB;rw [show (q-o).toNat=(q-1-o).toNat+1 by omega,iW] at rp;have FG:=bE (o:=q-1) (by omega) (by omega);have Mq:=CK IT;have cP:∀ w',bo Tryz.prog 69 [.int .i64 (q-1)] w' fun v _=>v = .int .i64 (pw (q-1)):=fun w'=>c9 _ (by omega) w'
        have GO:=uQ ty x.At q l;refine Wz ?_;refine CW.any 12 mixed (cj (by kernel_rfl)) rfl fun w1 ab aG => ?_
        replace hw:=Ext.trans hw ab;replace aw:=aw.ext ab;replace bk:=bk.ext ab;replace aN:=aN.ext ab;replace hX:=hX.ext ab;replace hT:=hT.ext ab;clear ab;refine Wa ?_;refine SA.one 5 rfl (by kernel_rfl) rfl ?_;refine SW.call rfl rfl (cP _) fun v w4 aj hv => ?_
        subst hv;(replace hw:=Ext.trans hw aj;replace aw:=aw.ext aj;replace bk:=bk.ext aj;replace aN:=aN.ext aj;replace hX:=hX.ext aj;replace hT:=hT.ext aj);refine SW.nil (ae.sa aj ?_);refine Wa ?_;refine SA.one 11 rfl (by kernel_rfl) rfl ?_;refine SW.call rfl rfl (kX A l.length c l ⟨x.At+pw (q-1),q-1,ty⟩ _ hX.sl (by omega)) fun v w4 aj hv => ?_
        obtain ⟨B2,c2,rfl,gB⟩:=hv;replace gB:=gB.low hw.size;(replace hw:=Ext.trans hw aj;replace aw:=aw.ext aj;replace bk:=bk.ext aj;replace aN:=aN.ext aj;replace hT:=hT.ext aj);refine SW.nil (ae.sa aj ?_);refine SA.done (by kernel_rfl) ?_;rw [Mq] at gB;replace gB:Own _ w.heap.size 165 3 aA B2 (l.length+1) c2 (m6 ty x.At q l):=gB;rw [← GO] at gB;rw [← GO];refine Wz ?_;refine SW.bA (i:=2) bk rfl rfl rfl rfl fun w8 gi hg => ?_
        have hG:=bk.gr hg;replace hw:=hw.own LX hg;replace aw:=aw.grown hg (by simpa using D5);(replace aN:=aN.ay hG rfl;replace gB:=gB.ay hG rfl;replace hT:=hT.ay hG rfl);refine Wz ?_;exact ae.again (q-1,m6 ty x.At q l,B2,c2) ⟨rfl,rfl,rfl,rfl,rfl,trivial⟩ (by simp only;omega) ⟨hw,gi,aw,aN,gB,hT,jR,by simp only;omega,rp,by simp only;omega⟩
       ·obtain rfl:o=q:=by omega
        have xg:l=AX:=by
         rw [← rp,show (o-o).toNat=0 by omega];rfl
        rw [xg] at hX;rw [xg] at bk;refine Wz ?_;refine CW.iS 3 5 (fun w2=>aJ w2 jM 165 [.int .i64 x.At,.int .i64 x.Order,.int .i64 ty]) mixed (by kernel_rfl) fun w1 ab aG => ?_
        replace hw:=Ext.trans hw ab;replace aw:=aw.ext ab;replace bk:=bk.ext ab;replace aN:=aN.ext ab;replace hX:=hX.ext ab;replace hT:=hT.ext ab;clear ab;refine Wf ?_;refine SF.dK 1 [] aG rfl (by kernel_rfl) (by kernel_rfl) (by kernel_rfl) (aD rfl) (fun w2 hS=>aD rfl) rfl ?_;refine SF.dK 2 [] aG rfl (by kernel_rfl) (by kernel_rfl) (by kernel_rfl) (ao rfl (aN.cell (i:=0) (v := .int .i64 x.At) rfl)) (fun w2 hS=>ao rfl (hS.cell (i:=0) (v := .int .i64 x.At) rfl)) rfl ?_;refine SF.turn rfl (by kernel_rfl) rfl ?_;refine SW.ak aw rfl rfl rfl rfl (cJ ⟨s.aX,s.To,⟨A,AX.length,c⟩,s.Types⟩) fun w5 bF hg => ?_
        have hG:=aw.gr hg;have hS:=aN.ay hG rfl;replace hw:=hw.own cu hg;(replace hX:=hX.ay hG rfl;replace hT:=hT.ay hG rfl);refine SW.nil (ae.sg hS ?_);refine SG.one 4 rfl (by kernel_rfl) rfl ?_;repeat (refine SW.pure rfl rfl ?_)
        refine SW.nil (ae.sg hS ?_);refine SG.last rfl (by kernel_rfl) (by kernel_rfl) ?_;refine Wz ?_;exact ae.cl rfl rfl rfl rfl bF rfl ⟨_,rfl,hw,_,jh,⟨s.aX,s.To,⟨A,AX.length,c⟩,s.Types⟩,rfl,⟨sF,sT,hX,hT⟩⟩
   ·have ru:=nC;unfold fp at ru;repeat' (first|refine Wz ?_|(refine CW.bB rfl ?_)|((first|refine SW.call rfl rfl (c1 _ hw) ?_|refine SW.call rfl rfl (bP _ _ _ _) ?_);intro v w1 ab hv;subst hv;replace hw:=Ext.trans hw ab;replace aq:=aq.ext ab;replace aw:=aw.ext ab;clear ab))
    all_goals try omega
    refine SW.ak aw rfl rfl rfl rfl (cJ .zero) fun w5 bF hg => ?_
    replace hw:=hw.own cu hg;refine Wz ?_;exact ae.cl rfl rfl rfl rfl bF rfl ⟨_,rfl,hw,_,.kind hq ho nC,gI.zero 2 _ _⟩
  ·repeat' (first|refine Wz ?_|(refine CW.bB rfl ?_)|((first|refine SW.call rfl rfl (c1 _ hw) ?_|refine SW.call rfl rfl (bP _ _ _ _) ?_);intro v w1 ab hv;subst hv;replace hw:=Ext.trans hw ab;replace aq:=aq.ext ab;replace aw:=aw.ext ab;clear ab))
   all_goals try omega
   refine SW.ak aw rfl rfl rfl rfl (cJ .zero) fun w5 bF hg => ?_
   replace hw:=hw.own cu hg;refine Wz ?_;exact ae.cl rfl rfl rfl rfl bF rfl ⟨_,rfl,hw,_,.range hq ho,gI.zero 1 _ _⟩
open Go.RowKit
def lL (x:aC) (L:List aC) : List aC:=L.filter fun l => !decide (dl l x)
theorem vp {L:List aC} {x:aC} {i:Nat} (hi:i<L.length) : lL x (L.take (i+1))=if dl L[i] x then lL x (L.take i) else lL x (L.take i)++[L[i]]:=by
 unfold lL;rw [List.take_succ_eq_append_getElem hi,List.filter_append];by_cases h:dl L[i] x
 ·simp [h]
 ·simp [h]
theorem D6 (x:aC) (L:List aC) (i:Nat) : (lL x (L.take i)).length≤i:=by
 unfold lL;exact Nat.le_trans (List.length_filter_le _ _) (by rw [List.length_take];omega)
theorem rj {L:List aC} {x:aC} (hs:rT L) : lL x L=if bV L x=true then L.eraseIdx (aZ L x) else L:=by
 unfold lL;split
 ·rename_i h;obtain ⟨hk,ma⟩:=jk h;have e:L=L.take (aZ L x)++L[aZ L x]::L.drop (aZ L x+1):=by rw [← List.drop_eq_getElem_cons hk,List.take_append_drop]
  have h1:(L.take (aZ L x)).filter (fun l => !decide (dl l x))=L.take (aZ L x):=by
   rw [List.filter_eq_self];intro z hz;obtain ⟨j,hj,rfl⟩:=List.getElem_of_mem hz;rw [List.length_take] at hj;rw [List.getElem_take];have:=(j0 (l7 (L:=L) (x:=x) (k:=j) (by omega))).1
   simpa using this
  have h2:(L.drop (aZ L x+1)).filter (fun l => !decide (dl l x))=L.drop (aZ L x+1):=by
   rw [List.filter_eq_self];intro z hz;obtain ⟨j,hj,rfl⟩:=List.getElem_of_mem hz;rw [List.length_drop] at hj;rw [List.getElem_drop];have:=hs.get (show aZ L x+1+j<L.length by omega) (show aZ L x<aZ L x+1+j by omega)
   have hn : ¬ dl L[aZ L x+1+j] x:=by unfold bz dl at *;omega
   simpa using hn
  rw [List.eraseIdx_eq_take_drop_succ]
  conv=>lhs;rw [e]
  rw [List.filter_append,List.filter_cons,h1,h2];simp [ma]
 ·rename_i h;rw [List.filter_eq_self];intro z hz;obtain ⟨j,hj,rfl⟩:=List.getElem_of_mem hz;have : ¬ dl L[j] x:=fun hh=>h (C2 hs hj hh).2
  simpa using this
set_option maxHeartbeats 16000000 in
theorem wD (r:eB) (L:List aC) (ls:List bM) (x:aC) (y:bM) (lo:Nat) (w:World) (hl:cX w lo r.av ls L) (hy:ky w lo y x) (fy:lo≤w.heap.size) (cG:y.ax.n=0) (hn:(r.av.n+1)*48≤140737488355328) :
 bo Tryz.prog 128 [.agg (bm r).toArray,.int .i64 y.dO,.int .i64 y.ar,.int .i64 y.Ty,.slice y.ax.A y.ax.n y.ax.c] w fun v w' => ∃ s R,v = .agg (bm ⟨r.aQ,r.bJ,r.bY,s,r.Live⟩).toArray∧cX w' lo s R (lL x L):=by
 refine aI Tryz.func128 rfl Tryz.ntmps128 rfl ?_;refine CW.seq (CW.region (SW.box rfl rfl fun b5 w1 hw il cd => ?_));have nS:=il;refine SW.alloc rfl fun jM w2 cq ij aN => ?_
 have ki:w.heap.size≤jM:=Nat.le_trans hw.size ij
 have wo:b5≠jM:=by have:=cd.lt;omega
 (replace hw:=Ext.trans hw cq;replace cd:=cd.ext cq);obtain ⟨l1,l2⟩:=hl.rd.len;have hA:=hl.row.sl.base;have y1:=hy.cpu;have y2:=hy.fu;have y3:=hy.ty;refine Wz ?_;refine SW.alloc rfl fun sJ w1 ab ra bC => ?_
 skip;refine SW.ak bC rfl rfl rfl rfl (sM y) fun w2 m8 hg => ?_
 have aj:=ab.own ra hg;have pE:w.heap.size≤sJ:=Nat.le_trans hw.size ra
 replace hw:=Ext.trans hw aj;replace cd:=cd.ext aj;replace aN:=aN.ext aj;replace bC:=m8;clear m8 ab hg aj;refine Wz ?_;replace bC:aJ w2 sJ 142 (bq y):=bC;have q0:true=decide ((y.ax.n:Int)=0):=by rw [decide_eq_true (by omega)]
 refine CW.loop (fun t:Nat×Option Addr×Nat×List bM=>[(1,.int .i64 y.dO),(2,.int .i64 y.ar),(3,.int .i64 y.Ty),(5,.pointer (some ⟨b5,0,none⟩)),(10,.pointer (some ⟨jM,0,none⟩)),(11,.pointer (some ⟨sJ,0,none⟩)),(12,.slice t.2.1 (lL x (L.take t.1)).length t.2.2.1),(13,.bool true),(14,.int .i64 (t.1:Int))])
  (fun t w'=>t.1≤r.av.n∧Ext w w'∧aJ w' b5 41 (bm r)∧aJ w' jM 41 (bm .zero)∧aJ w' sJ 142 (bq y)∧Own w' (sJ+1) 142 4 bq t.2.1 (lL x (L.take t.1)).length t.2.2.1 t.2.2.2∧kn w' lo t.2.2.2 (lL x (L.take t.1))) (fun t=>r.av.n-t.1) (0,none,0,[])
  ⟨rfl,rfl,rfl,rfl,rfl,rfl,rfl,by rw [q0];rfl,rfl,trivial⟩ ⟨by omega,hw,cd,aN,bC,Own.eJ _ _ _ _ _ _,kn.nil _ _⟩ ?_
 clear hw cd aN bC;rintro ⟨i,A,c,R⟩ w' ⟨hi,hw,cd,aN,bC,hO,hE⟩
 simp only at hi hO hE ⊢;have hlen:=D6 x L i;have zw:∀ m:Nat,m≤r.av.n→(m+1)*48≤140737488355328∧m+1≤9223372036854775807:=fun m hm=>by omega
 by_cases cf:i<r.av.n
 ·have qY:(lL x (L.take i)).length≤r.av.n:=by omega
  have kK:i<L.length:=by omega
  have lE:i<ls.length:=by omega
  have xx:=hl.each.get i lE kK;have e1:=xx.cpu;have e2:=xx.fu;have e3:=xx.ty;have g0:=hl.row.sl.dA cf (j:=0) (u := .int .i64 ls[i].dO) rfl;have g1:=hl.row.sl.dA cf (j:=1) (u := .int .i64 ls[i].ar) rfl;have g2:=hl.row.sl.dA cf (j:=2) (u := .int .i64 ls[i].Ty) rfl;by_cases hk:dl L[i] x
  ·have ee:lL x (L.take (i+1))=lL x (L.take i):=by rw [vp kK,if_pos hk]
   obtain ⟨k1,k2,k3⟩:=id hk;repeat' (first|refine Wz ?_|(first|refine CW.bB rfl ?_|(apply CW.aP mixed;(· kernel_rfl);rotate_left;intro w1 ab;replace hw:=Ext.trans hw ab;replace cd:=cd.ext ab;replace aN:=aN.ext ab;replace bC:=bC.ext ab;replace hO:=hO.ext ab;replace hE:=hE.ext ab;clear ab;rotate_right))|refine SW.skip rfl rfl rfl rfl ?_|refine SW.st (ap hw rfl g0) rfl ?_|refine SW.st (ap hw rfl g1) rfl ?_|refine SW.st (ap hw rfl g2) rfl ?_|exact SW.bx rfl)
   all_goals try omega
   exact ae.again (i+1,A,c,R) ⟨rfl,rfl,rfl,rfl,rfl,rfl,by simp only;rw [ee];rfl,rfl,rfl,trivial⟩ (by simp only;omega) ⟨by simp only;omega,hw,cd,aN,bC,by simp only;rw [ee];exact hO,by simp only;rw [ee];exact hE⟩
  ·have Jj : ¬ (ls[i].dO=y.dO∧ls[i].ar=y.ar∧ls[i].Ty=y.Ty):=by unfold dl at hk;omega
   have ee:lL x (L.take (i+1))=lL x (L.take i)++[L[i]]:=by rw [vp kK,if_neg hk]
   have el:(lL x (L.take (i+1))).length=(lL x (L.take i)).length+1:=by rw [ee];simp
   repeat' (first|refine Wz ?_|((apply CW.aP mixed;(· kernel_rfl);rotate_left;intro w1 ab;replace hw:=Ext.trans hw ab;replace cd:=cd.ext ab;replace aN:=aN.ext ab;replace bC:=bC.ext ab;replace hO:=hO.ext ab;replace hE:=hE.ext ab;clear ab;rotate_right))|refine SW.cV rfl rfl rfl (fun h => ?_) (fun h => ?_)|refine SW.skip rfl rfl rfl rfl ?_|refine SW.st (ap hw rfl g0) rfl ?_|refine SW.st (ap hw rfl g1) rfl ?_|refine SW.st (ap hw rfl g2) rfl ?_|refine SW.st (aH hw rfl rfl ((hl.row.sl.all cf))) rfl ?_|exact SW.bx rfl)
   all_goals try omega
   all_goals
    refine SW.bK rfl rfl rfl rfl rfl fun b w4 aj hb hB => ?_
    (replace hw:=Ext.trans hw aj;replace cd:=cd.ext aj;replace aN:=aN.ext aj;replace bC:=bC.ext aj;replace hO:=hO.ext aj;replace hE:=hE.ext aj);refine SW.append hO (aJ.mo (enc:=bq) (x:=ls[i]) hB) bC.lt rfl rfl rfl (zw _ qY).1 (zw _ qY).2 fun A2 c2 w5 fU hg => ?_
    have hG:=hO.gr hg;replace hw:=aF hw hg (Nat.le_trans pE (Nat.le_succ _)) hO.aM;replace bC:=bC.grown hg (fun e=>Nat.not_succ_le_self _ (hO.aM sJ e.symm));(replace cd:=cd.ay hG rfl;replace aN:=aN.ay hG rfl;replace hE:=hE.ay hG rfl);refine Wz ?_;refine ae.again (i+1,A2,c2,R++[ls[i]]) ⟨rfl,rfl,rfl,rfl,rfl,rfl,by simp only;rw [el];rfl,rfl,rfl,trivial⟩ (by simp only;omega) ⟨by simp only;omega,hw,cd,aN,bC,by simp only;rw [el];exact fU,?_⟩;simp only;rw [ee];exact hE.snoc ((hl.each.get i lE kK).ext hw)
 ·have ei:i=L.length:=by omega
  subst ei;rw [List.take_of_length_le (Nat.le_refl _)] at hO hE;rw [List.take_of_length_le (Nat.le_refl _)];repeat' (first|refine Wz ?_|(refine CW.bB rfl ?_))
  refine SW.bA (i:=3) cd rfl rfl rfl rfl fun w6 fX hg => ?_
  have hG:=cd.gr hg;replace hw:=hw.own nS hg;replace aN:=aN.grown hg (by simpa using Ne.symm wo);(replace hO:=hO.ay hG rfl;replace hE:=hE.ay hG rfl);refine Wz ?_;refine SW.ak aN rfl rfl rfl rfl (cn ⟨r.aQ,r.bJ,r.bY,⟨A,_,c⟩,r.Live⟩) fun w7 bF hg => ?_
  have hG:=aN.gr hg;replace hw:=hw.own ki hg;(replace hO:=hO.ay hG rfl;replace hE:=hE.ay hG rfl);refine Wz ?_;exact ae.mr rfl rfl bF rfl ⟨_,rfl,hw,⟨A,_,c⟩,R,rfl,⟨hO.low (by omega),hE.each⟩⟩
def B0 (L:List aC) (x:aC) : List aC:=if x.ax=[] then lL x L else jB L x
theorem jV (r:eB) (L:List aC) (ls:List bM) (x:aC) (y:bM) (lo:Nat) (w:World) (hl:cX w lo r.av ls L) (hy:ky w lo y x) (hs:rT L) (fy:lo≤w.heap.size) (hn:(r.av.n+1)*48≤140737488355328) :
 bo Tryz.prog 128 [.agg (bm r).toArray,.int .i64 y.dO,.int .i64 y.ar,.int .i64 y.Ty,.slice y.ax.A y.ax.n y.ax.c] w fun v w' => ∃ s R,v = .agg (bm ⟨r.aQ,r.bJ,r.bY,s,r.Live⟩).toArray∧cX w' lo s R (B0 L x):=by
 have tg:=hy.bL.len;unfold B0;split
 ·rename_i h;rw [h] at tg;exact wD r L ls x y lo w hl hy fy (by simpa using tg.symm) hn
 ·rename_i h;exact xU r L ls x y lo w hl hy hs fy (by rw [← tg];exact List.length_pos_iff.2 h) hn
theorem D7 {L:List aC} {x:aC} {pg:List Int} (hs:rT L) (hk:bV L x=true) : B0 L (dp x pg.dropLast)=rI L x pg:=by
 obtain ⟨e1,e2⟩:=ju (L:=L) (ko (x:=x) (pg:=pg.dropLast));unfold B0 rI;by_cases h:pg.length≤1
 ·have h0:pg.dropLast=[]:=List.eq_nil_of_length_eq_zero (by rw [List.length_dropLast];omega)
  rw [if_pos h,if_pos (by simpa [dp] using h0),rj hs,if_pos (by rw [← e2];exact hk),e1]
 ·have h0 : ¬ pg.dropLast=[]:=fun e=>by
   have:=congrArg List.length e
   rw [List.length_dropLast] at this;simp at this;omega
  rw [if_neg h,if_neg (by simpa [dp] using h0),oE (by rw [← e2];exact hk),e1]
theorem qH {L:List aC} {x:aC} {pg:List Int} (hs:rT L) (hk:bV L x=false) : B0 L (dp x pg)=fZ L x pg:=by
 obtain ⟨e1,e2⟩:=ju (L:=L) (ko (x:=x) (pg:=pg));unfold B0 fZ;by_cases h:pg=[]
 ·rw [if_pos h,if_pos (by simpa [dp] using h),rj hs,if_neg (by rw [← e2,hk];simp)]
 ·rw [if_neg h,if_neg (by simpa [dp] using h)]
open Go.RowKit
structure RQ (wb w:World) (k:HK) (p:HP) (s:ar×ar) (L:List aC) : Prop where
 zs:dT w wb.heap.size k.g k.c p.u0 p.u1 s
 ck:Own w wb.heap.size 3 1 bd k.m.A k.m.n k.m.c k.M
 live:Own w wb.heap.size 165 3 aA k.lv.A k.lv.n k.lv.c k.V
 ls:cX w wb.heap.size p.li p.ls L
 base:Ext wb w
section
variable {wb w w':World} {k:HK} {p:HP} {s:ar×ar} {L:List aC} {t:TypeId} {b:Nat}
theorem RQ.ext (h:RQ wb w k p s L) (hx:Ext w w') : RQ wb w' k p s L:=⟨h.zs.ext hx,h.ck.ext hx,h.live.ext hx,h.ls.ext hx,h.base.trans hx⟩
theorem RQ.own (h:RQ wb w k p s L) (hg:w.grownBy w' (some b)) (hb:wb.heap.size≤b) (hG:oa w w' t) (cG:(Nat.beq t 139 || (Nat.beq t 3 || (Nat.beq t 165 || Nat.beq t 142)))=false) : RQ wb w' k p s L:=by
 simp only [Bool.or_eq_false_iff] at cG;obtain ⟨h1,h2,h3,h4⟩:=cG;exact ⟨h.zs.ay hG (by simp [h1,h2,h3]),h.ck.ay hG h2,h.live.ay hG h3,h.ls.ay hG (by simp [h2,h4]),h.base.own hb hg⟩
theorem RQ.fu (h:RQ wb w k p s L) (hv:VS s) {zi:Nat} (hz:zi<2) : ∃ u,[p.u0,p.u1][zi]'hz=u∧eY w wb.heap.size u (rH s zi):=by
 rcases Nat.lt_or_ge zi 1 with h1|h1
 ·obtain rfl:zi=0:=by omega
  exact ⟨p.u0,rfl,h.zs.z0⟩
 ·obtain rfl:zi=1:=by omega
  exact ⟨p.u1,rfl,h.zs.z1⟩
theorem RQ.BN {zi:Nat} {u:cy} {z:ar} (h:RQ wb w k p s L) (hz:zi<2) (hO:Own w' wb.heap.size 139 4 bp (some ⟨k.g,0,none⟩) 2 k.c ([p.u0,p.u1].set zi u)) (hg:w.grownBy w' (some k.g)) (hn:eY w wb.heap.size u z) : RQ wb w' k (ku p zi u) (k7 s (zi:Int) z) L:=by
 have hG:=h.zs.gr hg;have lO:=hn.ay hG rfl;have hx:Ext wb w':=h.base.own h.zs.zm hg
 unfold ku k7;by_cases iP:zi=0
 ·subst iP;simp only [if_true,Int.natCast_zero] at *;exact ⟨⟨hO,lO,h.zs.z1.ay hG rfl,h.zs.zm,h.zs.pos⟩,h.ck.ay hG rfl,h.live.ay hG rfl,h.ls.ay hG rfl,hx⟩
 ·obtain rfl:zi=1:=by omega
  have e1 : ¬ ((1:Nat)=0):=by omega
  have e2 : ¬ (((1:Nat) : Int)=0):=by omega
  simp only [if_neg e1,if_neg e2] at *;exact ⟨⟨hO,h.zs.z0.ay hG rfl,lO,h.zs.zm,h.zs.pos⟩,h.ck.ay hG rfl,h.live.ay hG rfl,h.ls.ay hG rfl,hx⟩
theorem RQ.low (h:RQ wb w k p s L) : wb.heap.size≤w.heap.size:=h.base.size
end
set_option maxHeartbeats 1000000 in
theorem tP (k:HK) (p:HP) (s:ar×ar) (L:List aC) (m0 m1:Int) (zi:Nat) (o f:Int) (wb w:World) (Q:RQ wb w k p s L) (hM:oh k.M m0 m1) (hv:VS s) (iP:zi<2) (ho : 0≤o∧o≤4) (hf : 0≤f∧f≤15) :
 bo Tryz.prog 218 [.agg (bm (k.h p)).toArray,.int .i64 (zi:Int),.int .i64 o,.int .i64 f] w fun v _=>v = .bool (decide (dv m0 m1 s zi o f)):=by
 refine aI Tryz.func218 rfl Tryz.ntmps218 rfl ?_;refine CW.seq (CW.region (SW.box rfl rfl fun b1 w1 hw gV aB => ?_));obtain ⟨uz,Hm,nN⟩:=Q.fu hv iP;have vf:=hv.rH (zi:Int);obtain ⟨z,hz⟩ : ∃ z,rH s (zi:Int)=z:=⟨_,rfl⟩;rw [hz] at nN vf;obtain ⟨q1,q2,q3,q4⟩:=kM nN vf;have hA:=Q.zs.row.sl.base;have fz:=Q.zs.row.sl.dA iP (j:=2) (show (bp ([p.u0,p.u1][zi]'iP))[2]?=some (Value.slice uz.ag.A uz.ag.n uz.ag.c) by rw [Hm];rfl)
 have jh:∀ b∈z.ag,0≤b.Order∧b.Order≤4:=fun b hb=>by
  obtain ⟨j,hj,rfl⟩:=List.getElem_of_mem hb;exact ⟨(vf.c8 j hj).1.1,(vf.c8 j hj).1.2.1⟩
 obtain ⟨hd,yu⟩ : ∃ hd,nt m0 m1 s zi f=hd:=⟨_,rfl⟩;obtain ⟨a1,a2,a3,a4,a5⟩:=hv.mH.ok
 have cH:∀ w',Ext w w'→bo Tryz.prog 251 [.agg (bm (k.h p)).toArray,.int .i64 (zi:Int),.int .i64 f] w' fun v _=>v = .int .i64 hd:=fun w' hx=>by
  have:=x8.wx (k.h p) p.u0 p.u1 s k.M m0 m1 zi f w' (Q.ck.ext hx).sl (Q.zs.row.ext hx).sl hM Q.zs.z1.from_ Q.zs.z1.j6 ⟨by omega,by omega⟩ ⟨by omega,by omega⟩ iP hf
  rwa [yu] at this
 have OD : 0≤hd∧hd≤512:=by
  rw [← yu];have h1:=hM.b0;have h2:=hM.b1;unfold nt;(repeat' split)<;>omega
 have AW:=ka vf;have LD:=jg vf z.ag.length (Nat.le_refl _);rw [List.take_length] at LD;have Jt:=bE ho.1 ho.2;have hE:dv m0 m1 s zi o f↔hd≤dI z.ag-pw o:=by unfold dv;rw [yu,hz]
 obtain ⟨q,hq⟩ : ∃ q,decide (dv m0 m1 s zi o f)=q:=⟨_,rfl⟩;rw [hq];have H4:decide (hd≤dI z.ag-pw o)=q:=by rw [← hq];exact decide_eq_decide.2 hE.symm
 repeat' (first|refine Wz ?_|((apply CW.aP mixed;(· kernel_rfl);rotate_left;intro w1 ab;replace hw:=Ext.trans hw ab;replace aB:=aB.ext ab;clear ab;rotate_right))|refine SW.st (ap hw rfl fz) rfl ?_|refine SW.br rfl rfl (fun w1 ab=>(zu _ _ _ _ _ (nN.free.ext (Ext.trans hw ab)).sl jh (by omega))) ?_|refine SW.br rfl rfl (fun w1 ab=>(c9 _ (by omega) _)) ?_|refine SW.br rfl rfl (fun w1 ab=>(cH _ (Ext.trans hw ab))) ?_|exact SW.bx rfl)
 refine ae.aO rfl rfl ⟨_,rfl,hw,?_⟩;rw [← H4]
end Go.Proofs.YtbidkghlpijecaaGreatDoor
