/-
  Texts of the claim SlabBulks, part 7: what its theorem leans on.
-/
import Derived.Test.YtjimadiidbkohaaGreatDoorPackSlabBulks6
import Derived.Test.YtjimadiidbkohaaGreatDoorPackSlabBulks5
import Derived.Test.YtjimadiidbkohaaGreatDoorPackSlabBulks2
import Derived.Test.YtjimadiidbkohaaGreatDoorRows
import Derived.ProofKit
import Derived.LaidMore
import Derived.OpenShut
import Derived.Stop.Joined
import Derived.SizedLaws
import Derived.JoinedCond
import Derived.Deep.Slices
import Derived.Deep.Fields
import Derived.Lib.SmallJoins
import Derived.Test.YtjimadiidbkohaaGreatDoorPackSlabBulks1
import Derived.Test.YtjimadiidbkohaaGreatDoorPackSlabBulks3
import Derived.Test.YtjimadiidbkohaaGreatDoorPackSlabBulks4
set_option linter.unusedVariables false
set_option linter.unusedSimpArgs false
namespace Go.Proofs.YtjimadiidbkohaaGreatDoor
open Go.RowKit
structure pe (w:World) : Prop where
 row:∀ (k:Nat),k<3 → ∀ (j:Nat) (v:Value),[Value.int .i64 (mV (k:Int)),Value.int .i64 (mW (k:Int))][j]?=some v→w.cell? (((⟨0,0,none⟩ : Addr).add (k*2)).add j)=some v
theorem pe.ext {w w':World} (h:pe w) (hx:Ext w w') : pe w':=⟨fun k hk j v hv=>hx.cell (h.row k hk j v hv)⟩
def ic (lo:Nat) (u:aq×Int×Int) (v:Value) (w:World) : Prop := ∃ s,v = .tuple #[.agg (bo s).toArray,.int .i64 u.2.1,.int .i64 u.2.2]∧fa w lo s u.1
theorem ic.zero (e:Int) (lo:Nat) (w:World) : ic lo (.zero,0,e) (.tuple #[.agg (bo .zero).toArray,.int .i64 0,.int .i64 e]) w:=⟨.zero,rfl,fa.zero _ _⟩
theorem nA {α:Type} {p : α → Bool} {l:List α} (h:l.any p=true) : ∃ (k:Nat) (hk:k<l.length),p l[k]=true∧(∀ (j:Nat) (hj:j<l.length),j<k→p l[j]=false)∧idxOf p l=(k:Int):=by
 have h1:l.findIdx p<l.length:=List.findIdx_lt_length_of_exists (by simpa using h)
 exact ⟨l.findIdx p,h1,List.findIdx_getElem (w:=h1),fun j hj iY=>by simpa using List.not_of_lt_findIdx iY,by unfold idxOf;rw [if_pos h]⟩
theorem sw {α:Type} {p : α → Bool} {l:List α} (h:l.any p=false) : idxOf p l = -1:=by unfold idxOf;rw [h];rfl
theorem Own.CH {w:World} {lo b:Nat} {A:Option Addr} {n c:Nat} {l:List Block} {x:Block} (h:Own w lo 77 3 az A n c l) (hB:aI w b 77 (az x)) (hn : 0<n) (hx:∀ y∈l,y.At≠x.At) : aQ A c≠some b:=by
 rcases h.row with ⟨h0,_⟩|⟨hc,g,gb,rfl,h1,h2,h3,h4,h5,h6⟩
 ·omega
 ·intro e;simp only [aQ,Nat.pos_iff_ne_zero.1 hc,if_false,Option.map_some,Option.some.injEq] at e;subst e;unfold aI at hB;rw [h2] at hB;injection hB with hB
  injection hB with Kl _ _
  subst Kl;have tN:c=1:=by simp [az] at h5;omega
  have BY:n=1:=by omega
  have hl:=h.len;rw [BY] at hl;obtain ⟨y,rfl⟩:=List.length_eq_one_iff.1 hl;rw [BY] at h6;simp [az] at h6;exact hx y (by simp) h6.1.symm
set_option maxHeartbeats 8000000 in
theorem CI (r:ct) (z:aq) (o t:Int) (w:World) (hr:tY w r z) (hf:(r.ag.n+1)*24≤140737488355328) (ht:r.Types.n*8≤140737488355328) (h1 : -9223372036854775808≤r.aV∧r.aV≤9223372036854775807) (h2 : -9223372036854775808≤r.To∧r.To≤9223372036854775807) (hO:pe w) :
 bt Tryz.prog 133 [.agg (bo r).toArray,.int .i64 o,.int .i64 t] w fun v w' => ∃ u,fV z o t u∧ic w.heap.size u v w':=by
 refine aM Tryz.func133 rfl Tryz.ntmps133 rfl ?_;refine CW.seq (CW.region (SW.box rfl rfl fun b3 w1 hw bM ar => ?_));refine SW.alloc rfl fun b6 w2 cJ fb ax => ?_
 have dr:w.heap.size≤b6:=Nat.le_trans hw.size fb
 have o6:b3≠b6:=by have:=ar.lt;omega
 (replace hw:=Ext.trans hw cJ;replace ar:=ar.ext cJ);have eF:=hr.from_;have eT:=hr.ka;have Co:=hr.free.len;have Hs:=hr.types.len;obtain ⟨q,hq⟩ : ∃ q,ev z=q:=⟨_,rfl⟩
 have c1:∀ w',Ext w w'→bt Tryz.prog 59 [.agg (bo r).toArray] w' fun v _=>v = .int .i64 (if q then 0 else 8):=fun w' h=>by
  have:=kd r z w' (hr.ext h) (by omega) (by omega) h1 h2
  rwa [hq] at this
 cases q
 ·simp only [Bool.false_eq_true,if_false] at c1;repeat' (first|refine Wz ?_|(refine SW.call rfl rfl (c1 _ hw) ?_;intro v w1 ab hv;subst hv;replace hw:=Ext.trans hw ab;replace ar:=ar.ext ab;replace ax:=ax.ext ab;clear ab))
  skip;refine SW.ap ax rfl rfl rfl rfl (cw .zero) fun w5 bL hg => ?_
  replace hw:=hw.own dr hg;refine Wz ?_;exact ae.dB rfl rfl rfl rfl bL rfl ⟨_,rfl,hw,_,.bad hq,ic.zero 8 _ _⟩
 ·simp only [if_true] at c1;have hz:=dw.1 hq;obtain ⟨o1,o2,o3,o4,o5⟩:=hz.ok;by_cases ho : 0≤o∧o≤4
  ·by_cases nz:fy t
   ·have ra:=nz;unfold fy at ra;repeat' (first|refine Wz ?_|(refine SW.call rfl rfl (c1 _ hw) ?_;intro v w1 ab hv;subst hv;replace hw:=Ext.trans hw ab;replace ar:=ar.ext ab;replace ax:=ax.ext ab;clear ab))
    refine SW.call rfl rfl (pP r z _ (hr.ext hw) (by omega) ht) fun v w4 iS hv => ?_
    obtain ⟨s,rfl,hs,e1,e2⟩:=hv;replace hs:=hs.low hw.size;(replace hw:=Ext.trans hw iS;replace ar:=ar.ext iS;replace ax:=ax.ext iS);clear c1;skip;refine SW.ap ar rfl rfl rfl rfl (cw s) fun w5 cU hg => ?_
    have hG:=ar.gr hg;replace hw:=hw.own bM hg;have hX:=hs.free.ay hG rfl;have hT:=hs.types.ay hG rfl;replace ax:=ax.grown hg (by simpa using o6.symm);replace ar:=cU;have es:s.ag.n=z.ag.length:=by rw [e1,Co]
    have sF:=hs.from_;have sT:=hs.ka;clear cU hg hG hs;have cL:∀ p u w',Sl w' 3 az s.ag.A s.ag.n z.ag→bt Tryz.prog 138 [.agg (bo s).toArray,.int .i64 p,.int .i64 u] w' fun v _=>v = .int .i64 (idxOf (gk p u) z.ag):=fun p u w' h=>yI s z.ag p u w' h (by omega)
    refine Wz ?_
    obtain ⟨K,hK⟩ : ∃ K:Env→World→Prop,K=fun L' w' => ∃ i:Int,eE L' [(1,.int .i64 o),(2,.int .i64 t),(3,.pointer (some ⟨b3,0,none⟩)),(6,.pointer (some ⟨b6,0,none⟩)),(10,.int .i64 i)]∧Ext w w'∧aI w' b3 59 (bo s)∧aI w' b6 59 (bo .zero) ∧
     Own w' w.heap.size 77 3 az s.ag.A s.ag.n s.ag.c z.ag∧Own w' w.heap.size 3 1 bf s.Types.A s.Types.n s.Types.c z.Types∧((i = -1 ∧ ∀ m,m<5→eK z.ag o t m=false) ∨ ∃ k:Nat,i=(k:Int)∧eg z.ag o t (some (k,false))):=⟨_,rfl⟩
    refine CW.wR K ?_ ?_
    ·refine CW.loop (fun u:Nat×Int=>[(1,.int .i64 o),(2,.int .i64 t),(3,.pointer (some ⟨b3,0,none⟩)),(6,.pointer (some ⟨b6,0,none⟩)),(10,.int .i64 u.2),(11,.int .i64 (o+(u.1:Int)))])
      (fun u w'=>Ext w w'∧aI w' b3 59 (bo s)∧aI w' b6 59 (bo .zero)∧Own w' w.heap.size 77 3 az s.ag.A s.ag.n s.ag.c z.ag∧Own w' w.heap.size 3 1 bf s.Types.A s.Types.n s.Types.c z.Types ∧
        ((u.2 = -1∧(u.1:Int)≤5-o ∧ ∀ m,m<u.1→eK z.ag o t m=false) ∨ ∃ k:Nat,u.2=(k:Int)∧eg z.ag o t (some (k,false)))) (fun u=>if u.2<0 then 7-u.1 else 0) (0,-1)
      ⟨rfl,rfl,rfl,rfl,rfl,congrArg (fun z=>some (Value.int .i64 z)) (by simp),trivial⟩ ⟨hw,ar,ax,hX,hT,.inl ⟨rfl,by simp only;omega,fun m h=>by simp only at h;omega⟩⟩ ?_
     clear hw ar ax hX hT;rintro ⟨j,i⟩ w' ⟨hw,ar,ax,hX,hT,hI⟩
     simp only at hI ⊢;rcases hI with ⟨rfl,hj,hI⟩|⟨k,rfl,hP⟩
     ·by_cases hp:o+(j:Int)≤4
      ·have CJ:j<5:=by omega
       have Gm:=wZ (l:=z.ag) (o:=o) (t:=t) CJ hp;cases dO:z.ag.any (gk (o+(j:Int)) t)
       ·have c2:=cL (o+(j:Int)) t;rw [sw dO] at c2;repeat' (first|refine Wz ?_|(refine SW.call rfl rfl (c2 _ hX.sl) ?_;intro v w1 ab hv;subst hv;replace hw:=Ext.trans hw ab;replace ar:=ar.ext ab;replace ax:=ax.ext ab;replace hX:=hX.ext ab;replace hT:=hT.ext ab;clear ab))
        refine ae.again (j+1,-1) ⟨rfl,rfl,rfl,rfl,rfl,congrArg (fun z=>some (Value.int .i64 z)) (by simp only;omega),trivial⟩ (by simp only;(repeat' split)<;>omega) ⟨hw,ar,ax,hX,hT,.inl ⟨rfl,by simp only;omega,fun m h => ?_⟩⟩;simp only at h;by_cases e:m=j
        ·subst e;rw [Gm,dO]
        ·exact hI m (by omega)
       ·obtain ⟨k,hk,ym,mO,rE⟩:=nA dO;have c2:=cL (o+(j:Int)) t;rw [rE] at c2;repeat' (first|refine Wz ?_|(refine SW.call rfl rfl (c2 _ hX.sl) ?_;intro v w1 ab hv;subst hv;replace hw:=Ext.trans hw ab;replace ar:=ar.ext ab;replace ax:=ax.ext ab;replace hX:=hX.ext ab;replace hT:=hT.ext ab;clear ab))
        have hP:eg z.ag o t (some (k,false)):=by
         have:=eg.hit (l:=z.ag) (o:=o) (t:=t) (n:=j) (k:=k) (by omega) (by rw [Gm,dO]) hI hk (by rw [lY CJ,sk CJ];exact ym) (by rw [lY CJ,sk CJ];exact mO)
         rwa [decide_eq_false (by omega)] at this
        exact ae.again (j+1,(k:Int)) ⟨rfl,rfl,rfl,rfl,rfl,congrArg (fun z=>some (Value.int .i64 z)) (by simp only;omega),trivial⟩ (by simp only;(repeat' split)<;>omega) ⟨hw,ar,ax,hX,hT,.inr ⟨k,rfl,hP⟩⟩
      ·refine Wz ?_
       have Gp:∀ m,m<5→eK z.ag o t m=false:=fun m hm=>by
        by_cases e:m<j
        ·exact hI m e
        ·exact sq (by rw [lY hm];omega)
       exact ae.kz (K:=K) (by rw [hK];exact ⟨-1,⟨rfl,rfl,rfl,rfl,rfl,trivial⟩,hw,ar,ax,hX,hT,.inl ⟨rfl,Gp⟩⟩)
     ·refine Wz ?_;exact ae.kz (K:=K) (by rw [hK];exact ⟨(k:Int),⟨rfl,rfl,rfl,rfl,rfl,trivial⟩,hw,ar,ax,hX,hT,.inr ⟨k,rfl,hP⟩⟩)
    ·clear hw ar ax hX hT;subst hK;rintro L' w' ⟨i0,fe,hw,ar,ax,hX,hT,CK⟩
     refine ae.sub fe ?_;clear fe;obtain ⟨kt,LZ⟩ : ∃ kt:Nat,t=(kt:Int):=⟨t.toNat,by omega⟩;have Ij:kt<3:=by omega
     have dz:=hO.row kt Ij;rw [← LZ] at dz;refine Wz ?_
     obtain ⟨K,hK⟩ : ∃ K:Env→World→Prop,K=fun L' w' => ∃ (i:Int) (F:List Block) (T:List Int),eE L' [(1,.int .i64 o),(2,.int .i64 t),(3,.pointer (some ⟨b3,0,none⟩)),(6,.pointer (some ⟨b6,0,none⟩)),(10,.int .i64 i)]∧Ext w w'∧aI w' b3 59 (bo s)∧aI w' b6 59 (bo .zero) ∧
      Own w' w.heap.size 77 3 az s.ag.A s.ag.n s.ag.c F∧Own w' w.heap.size 3 1 bf s.Types.A s.Types.n s.Types.c T∧((i = -1 ∧ ∀ m,m<15→eK z.ag o t m=false) ∨ ∃ (k:Nat) (st:Bool) (hk:k<z.ag.length),i=(k:Int)∧eg z.ag o t (some (k,st))∧F=eQ z z.ag[k] t st∧T=if st=true then dD z z.ag[k] t else z.Types):=⟨_,rfl⟩
     refine CW.wR K ?_ ?_
     ·refine CW.loop (fun u:Nat×Int×List Block×List Int=>[(1,.int .i64 o),(2,.int .i64 t),(3,.pointer (some ⟨b3,0,none⟩)),(6,.pointer (some ⟨b6,0,none⟩)),(10,.int .i64 u.2.1),(12,.int .i64 (4-(u.1:Int)))])
       (fun u w'=>Ext w w'∧aI w' b3 59 (bo s)∧aI w' b6 59 (bo .zero)∧Own w' w.heap.size 77 3 az s.ag.A s.ag.n s.ag.c u.2.2.1∧Own w' w.heap.size 3 1 bf s.Types.A s.Types.n s.Types.c u.2.2.2 ∧
         ((u.2.1 = -1∧(u.1:Int)≤5-o∧(∀ m,m<5+2*u.1→eK z.ag o t m=false)∧u.2.2.1=z.ag∧u.2.2.2=z.Types) ∨ ∃ (k:Nat) (st:Bool) (hk:k<z.ag.length),u.2.1=(k:Int)∧eg z.ag o t (some (k,st))∧u.2.2.1=eQ z z.ag[k] t st∧u.2.2.2=if st=true then dD z z.ag[k] t else z.Types)) (fun u=>if u.2.1<0 then 7-u.1 else 0) (0,i0,z.ag,z.Types)
       ⟨rfl,rfl,rfl,rfl,rfl,rfl,trivial⟩ ⟨hw,ar,ax,hX,hT,?_⟩ ?_
      ·rcases CK with ⟨rfl,CK⟩|⟨k,rfl,hP⟩
       ·exact .inl ⟨rfl,by simp only;omega,fun m h=>CK m (by simp only at h;omega),rfl,rfl⟩
       ·obtain ⟨hk,_⟩:=hP.ord;exact .inr ⟨k,false,hk,rfl,hP,rfl,rfl⟩
      clear hw ar ax hX hT CK;rintro ⟨j,i,F,T⟩ w' ⟨hw,ar,ax,hX,hT,hI⟩
      simp only at hX hT hI ⊢;rcases hI with ⟨rfl,hj,hI,rfl,rfl⟩|⟨k,st,hk,rfl,hP,hF,Ex⟩
      ·by_cases hp:o≤4-(j:Int)
       ·have Hv:=xa (l:=z.ag) (t:=t) hp;have Ey:=xb (l:=z.ag) (t:=t) hp;repeat' (first|refine Wz ?_|refine SW.st (aH hw rfl rfl dz) rfl ?_|(refine SW.st (mU kt rfl rfl LZ Ij) rfl ?_))
        refine CW.loop (fun v:Nat=>[(1,.int .i64 o),(2,.int .i64 t),(3,.pointer (some ⟨b3,0,none⟩)),(6,.pointer (some ⟨b6,0,none⟩)),(10,.int .i64 (-1)),(12,.int .i64 (4-(j:Int))),(65,.agg [Value.int .i64 (mV t),Value.int .i64 (mW t)].toArray),(66,.int .i64 (v:Int))])
         (fun v w'=>v≤2∧Ext w w'∧aI w' b3 59 (bo s)∧aI w' b6 59 (bo .zero)∧Own w' w.heap.size 77 3 az s.ag.A s.ag.n s.ag.c z.ag∧Own w' w.heap.size 3 1 bf s.Types.A s.Types.n s.Types.c z.Types ∧ ∀ m,m<5+2*j+v→eK z.ag o t m=false)
         (fun v=>2-v) 0 ⟨rfl,rfl,rfl,rfl,rfl,rfl,rfl,rfl,trivial⟩ ⟨by omega,hw,ar,ax,hX,hT,hI⟩ ?_
        clear hw ar ax hX hT hI;rintro v w' ⟨L0,hw,ar,ax,hX,hT,hI⟩
        rcases (show v=0∨v=1∨v=2 by omega) with rfl|rfl|rfl
        ·cases dO:z.ag.any (gk (4-(j:Int)) (mV t))
         ·have c2:=cL (4-(j:Int)) (mV t);rw [sw dO] at c2;repeat' (first|refine Wz ?_|(refine SW.call rfl rfl (c2 _ hX.sl) ?_;intro v w1 ab hv;subst hv;replace hw:=Ext.trans hw ab;replace ar:=ar.ext ab;replace ax:=ax.ext ab;replace hX:=hX.ext ab;replace hT:=hT.ext ab;clear ab)|(refine SW.st (rD 0 rfl rfl rfl (by decide) rfl) rfl ?_))
          refine ae.again (0+1) ⟨rfl,rfl,rfl,rfl,rfl,rfl,rfl,rfl,trivial⟩ (by omega) ⟨by omega,hw,ar,ax,hX,hT,fun m h => ?_⟩;by_cases e:m=5+2*j+0
          ·subst e;exact Hv.trans dO
          ·exact hI m (by omega)
         ·obtain ⟨k,hk,ym,mO,rE⟩:=nA dO;have c2:=cL (4-(j:Int)) (mV t);rw [rE] at c2;repeat' (first|refine Wz ?_|(refine SW.call rfl rfl (c2 _ hX.sl) ?_;intro v w1 ab hv;subst hv;replace hw:=Ext.trans hw ab;replace ar:=ar.ext ab;replace ax:=ax.ext ab;replace hX:=hX.ext ab;replace hT:=hT.ext ab;clear ab)|(refine SW.st (rD 0 rfl rfl rfl (by decide) rfl) rfl ?_))
          refine SW.db rfl rfl (uM s z k t w _ hw hX hT sF hz hk (by omega)) fun v w5 hv => ?_
          obtain ⟨hw,Ik,hX,hT⟩:=hv;replace ar:=Ik.out _ _ ar;replace ax:=Ik.out _ _ ax
          have hP:eg z.ag o t (some (k,true)):=by
           have:=eg.hit (l:=z.ag) (o:=o) (t:=t) (n:=5+2*j+0) (k:=k) (by omega) (Hv.trans dO) hI hk (by have e1:=pa (o:=o) (j:=j);have e2:=sn (t:=t) (j:=j);(try simp only [Nat.add_zero] at *);rw [e1,e2];exact ym) (by have e1:=pa (o:=o) (j:=j);have e2:=sn (t:=t) (j:=j);(try simp only [Nat.add_zero] at *);rw [e1,e2];exact mO)
           rwa [decide_eq_true (by omega)] at this
          refine Wz ?_;exact ae.again (j+1,(k:Int),eJ z.ag z.ag[k] t,dD z z.ag[k] t) ⟨rfl,rfl,rfl,rfl,rfl,congrArg (fun z=>some (Value.int .i64 z)) (by simp only;omega),trivial⟩ (by simp only;(repeat' split)<;>omega) ⟨hw,ar,ax,hX,hT,.inr ⟨k,true,hk,rfl,hP,rfl,rfl⟩⟩
        ·cases dO:z.ag.any (gk (4-(j:Int)) (mW t))
         ·have c2:=cL (4-(j:Int)) (mW t);rw [sw dO] at c2;repeat' (first|refine Wz ?_|(refine SW.call rfl rfl (c2 _ hX.sl) ?_;intro v w1 ab hv;subst hv;replace hw:=Ext.trans hw ab;replace ar:=ar.ext ab;replace ax:=ax.ext ab;replace hX:=hX.ext ab;replace hT:=hT.ext ab;clear ab)|(refine SW.st (rD 1 rfl rfl rfl (by decide) rfl) rfl ?_))
          refine ae.again (1+1) ⟨rfl,rfl,rfl,rfl,rfl,rfl,rfl,rfl,trivial⟩ (by omega) ⟨by omega,hw,ar,ax,hX,hT,fun m h => ?_⟩;by_cases e:m=5+2*j+1
          ·subst e;exact Ey.trans dO
          ·exact hI m (by omega)
         ·obtain ⟨k,hk,ym,mO,rE⟩:=nA dO;have c2:=cL (4-(j:Int)) (mW t);rw [rE] at c2;repeat' (first|refine Wz ?_|(refine SW.call rfl rfl (c2 _ hX.sl) ?_;intro v w1 ab hv;subst hv;replace hw:=Ext.trans hw ab;replace ar:=ar.ext ab;replace ax:=ax.ext ab;replace hX:=hX.ext ab;replace hT:=hT.ext ab;clear ab)|(refine SW.st (rD 1 rfl rfl rfl (by decide) rfl) rfl ?_))
          refine SW.db rfl rfl (uM s z k t w _ hw hX hT sF hz hk (by omega)) fun v w5 hv => ?_
          obtain ⟨hw,Ik,hX,hT⟩:=hv;replace ar:=Ik.out _ _ ar;replace ax:=Ik.out _ _ ax
          have hP:eg z.ag o t (some (k,true)):=by
           have:=eg.hit (l:=z.ag) (o:=o) (t:=t) (n:=5+2*j+1) (k:=k) (by omega) (Ey.trans dO) hI hk (by have e1:=pb (o:=o) (j:=j);have e2:=so (t:=t) (j:=j);(try simp only [Nat.add_zero] at *);rw [e1,e2];exact ym) (by have e1:=pb (o:=o) (j:=j);have e2:=so (t:=t) (j:=j);(try simp only [Nat.add_zero] at *);rw [e1,e2];exact mO)
           rwa [decide_eq_true (by omega)] at this
          refine Wz ?_;exact ae.again (j+1,(k:Int),eJ z.ag z.ag[k] t,dD z z.ag[k] t) ⟨rfl,rfl,rfl,rfl,rfl,congrArg (fun z=>some (Value.int .i64 z)) (by simp only;omega),trivial⟩ (by simp only;(repeat' split)<;>omega) ⟨hw,ar,ax,hX,hT,.inr ⟨k,true,hk,rfl,hP,rfl,rfl⟩⟩
        ·refine Wz ?_;exact ae.again (j+1,-1,z.ag,z.Types) ⟨rfl,rfl,rfl,rfl,rfl,congrArg (fun z=>some (Value.int .i64 z)) (by simp only;omega),trivial⟩ (by simp only;(repeat' split)<;>omega) ⟨hw,ar,ax,hX,hT,.inl ⟨rfl,by simp only;omega,fun m h=>hI m (by simp only at h;omega),rfl,rfl⟩⟩
       ·refine Wz ?_
        have Gp:∀ m,m<15→eK z.ag o t m=false:=fun m hm=>by
         by_cases e:m<5+2*j
         ·exact hI m e
         ·exact xc (j:=j) (by omega) (by omega)
        exact ae.kz (K:=K) (by rw [hK];exact ⟨-1,z.ag,z.Types,⟨rfl,rfl,rfl,rfl,rfl,trivial⟩,hw,ar,ax,hX,hT,.inl ⟨rfl,Gp⟩⟩)
      ·refine Wz ?_;exact ae.kz (K:=K) (by rw [hK];exact ⟨(k:Int),F,T,⟨rfl,rfl,rfl,rfl,rfl,trivial⟩,hw,ar,ax,hX,hT,.inr ⟨k,st,hk,rfl,hP,hF,Ex⟩⟩)
     ·clear hw ar ax hX hT CK;subst hK;rintro L' w' ⟨i,F,T,fe,hw,ar,ax,hX,hT,hI⟩
      refine ae.sub fe ?_;clear fe cL;rcases hI with ⟨rfl,hI⟩|⟨k,st,hk,rfl,hP,rfl,Ex⟩
      ·refine Wz ?_;refine SW.ap ax rfl rfl rfl rfl (cw .zero) fun w5 bL hg => ?_
       replace hw:=hw.own dr hg;refine Wz ?_;exact ae.dB rfl rfl rfl rfl bL rfl ⟨_,rfl,hw,_,.room hq ho nz (.vB hI),ic.zero 6 _ _⟩
      ·obtain ⟨_,Hw,JD⟩:=hP.ord;obtain ⟨l1,l2,l3⟩:=pd hz (b:=z.ag[k]) nz st;have Ez:k<(eQ z z.ag[k] t st).length:=by omega
       have AQ:(eQ z z.ag[k] t st)[k]=⟨z.ag[k].At,z.ag[k].Order,k6 z t st z.ag[k]⟩:=pZ hz nz st hk
       obtain ⟨⟨f1,f2,f3,f4,f5⟩,f6⟩:=hz.cV k hk;have iT:fV z o t (mY z o t z.ag[k] k st,z.ag[k].At,0) := .ok hq ho nz hk hP
       have hJ:=pY l2 l3 Ez;rw [AQ] at hJ;have AR:=kf hz;have Cp:fy (k6 z t st z.ag[k]):=by unfold k6;split<;>assumption
       obtain ⟨ty,Gq⟩ : ∃ ty,k6 z t st z.ag[k]=ty:=⟨_,rfl⟩
       have Il:mY z o t z.ag[k] k st=⟨z.aV,z.To,ji ty z.ag[k].At (z.ag[k].Order-o).toNat z.ag[k].Order ((eQ z z.ag[k] t st).eraseIdx k),T⟩:=by
        rw [Ex,← Gq];rfl
       rw [Il] at iT;rw [Gq] at AQ Cp;clear Il Gq Ex hP;obtain ⟨F,hF⟩ : ∃ F,eQ z z.ag[k] t st=F:=⟨_,rfl⟩;simp only [hF] at hX l1 Ez AQ hJ iT;clear l2 l3;obtain ⟨x,hx⟩ : ∃ x,z.ag[k]=x:=⟨_,rfl⟩;simp only [hx] at AQ hJ iT f1 f2 f3 f4 f5 Hw JD;clear f6;have cb:k<s.ag.n:=by omega
       have hA:=hX.sl.base;have gd:=hX.sl.all cb;simp only [AQ] at gd;repeat' (first|refine Wz ?_|refine SW.st (aY rfl rfl gd) rfl ?_)
       refine SW.alloc rfl fun pf w3 j2 Im cl => ?_
       have Io:w.heap.size≤pf:=Nat.le_trans hw.size Im
       have n6:aQ s.ag.A s.ag.c≠some pf:=fun e=>by have:=hX.lt_size _ e;omega
       (replace hw:=Ext.trans hw j2;replace ar:=ar.ext j2;replace ax:=ax.ext j2;replace hX:=hX.ext j2;replace hT:=hT.ext j2);clear gd;skip;refine SW.ap cl rfl rfl rfl rfl (fO.one (enc:=az) ⟨x.At,x.Order,ty⟩) fun w5 jC hg => ?_
       have hG:=cl.gr hg;replace hw:=hw.own Io hg;replace hX:=hX.grown hg (.inr n6);(replace ar:=ar.ay hG rfl;replace ax:=ax.ay hG rfl;replace hT:=hT.ay hG rfl);replace cl:aI w5 pf 77 [.int .i64 x.At,.int .i64 x.Order,.int .i64 ty]:=jC;clear jC hg hG Im;refine Wz ?_;refine SW.db rfl rfl (mo s.ag.A s.ag.n s.ag.c w.heap.size F _ hX k cb (by omega) hw.size) fun v w6 hv => ?_
       obtain ⟨rfl,tJ,hg⟩:=hv;have hG:=hX.gr hg;replace hw:=aF hw hg (Nat.le_refl _) hX.aL;replace cl:=cl.grown hg (fun e=>n6 e.symm);(replace ar:=ar.ay hG rfl;replace ax:=ax.ay hG rfl;replace hT:=hT.ay hG rfl);clear hg hG;have pW:s.ag.n-1=(F.eraseIdx k).length:=by rw [List.length_eraseIdx_of_lt Ez];omega
       rw [pW] at tJ;rw [pW];refine Wz ?_;refine SW.bB (i:=2) ar rfl rfl rfl rfl fun w7 cU hg => ?_
       have hG:=ar.gr hg;replace hw:=hw.own bM hg;replace ax:=ax.grown hg (by simpa using o6.symm);(replace cl:=cl.ay hG rfl;replace tJ:=tJ.ay hG rfl;replace hT:=hT.ay hG rfl);replace ar:aI w7 b3 59 [.int .i64 s.aV,.int .i64 s.To,.slice s.ag.A (F.eraseIdx k).length s.ag.c,.slice s.Types.A s.Types.n s.Types.c]:=cU;clear cU hg hG hX;refine Wz ?_;obtain ⟨AS,CL⟩ : ∃ AS,ji ty x.At (x.Order-o).toNat x.Order (F.eraseIdx k)=AS:=⟨_,rfl⟩;rw [CL] at iT
       refine CW.loop (fun u:Int×List Block×Option Addr×Nat=>[(1,.int .i64 o),(3,.pointer (some ⟨b3,0,none⟩)),(6,.pointer (some ⟨b6,0,none⟩)),(15,.pointer (some ⟨pf,0,none⟩))])
        (fun u w'=>Ext w w'∧aI w' b3 59 [.int .i64 s.aV,.int .i64 s.To,.slice u.2.2.1 u.2.1.length u.2.2.2,.slice s.Types.A s.Types.n s.Types.c]∧aI w' b6 59 (bo .zero)∧aI w' pf 77 [.int .i64 x.At,.int .i64 u.1,.int .i64 ty] ∧
          Own w' w.heap.size 77 3 az u.2.2.1 u.2.1.length u.2.2.2 u.2.1∧Own w' w.heap.size 3 1 bf s.Types.A s.Types.n s.Types.c T∧vw z.aV z.To u.2.1 x.At u.1∧o≤u.1∧ji ty x.At (u.1-o).toNat u.1 u.2.1=AS∧(u.2.1.length:Int)+u.1≤300∧aQ u.2.2.1 u.2.2.2≠some pf) (fun u=>(u.1-o).toNat) (x.Order,F.eraseIdx k,s.ag.A,s.ag.c)
        ⟨rfl,rfl,rfl,rfl,trivial⟩ ⟨hw,ar,ax,cl,tJ,hT,hJ,Hw,CL,by simp only;omega,n6⟩ ?_
       clear hw ar ax cl tJ hT hJ pW AQ n6;rintro ⟨q,l,A,c⟩ w' ⟨hw,ar,ax,cl,hX,hT,hJ,Km,qY,hlen,cG⟩
       simp only at ar cl hX hJ Km qY hlen cG ⊢;by_cases Nc:o<q
       ·obtain ⟨k1,k2,k3,k4,k5⟩:=hJ.fit;obtain ⟨iW,Ip⟩:=sr hJ o1 o3 o5 (by omega) Cp;rw [show (q-o).toNat=(q-1-o).toNat+1 by omega,ji] at qY;have Fj:=bH (o:=q-1) (by omega) (by omega);have cE:∀ w',bt Tryz.prog 94 [.agg (az ⟨x.At,q-1,ty⟩).toArray] w' fun v _=>v = .int .i64 (x.At+pw (q-1)):=fun w'=>lq ⟨x.At,q-1,ty⟩ w' ⟨by simp only;omega,by simp only;omega⟩ ⟨by simp only;omega,by simp only;omega⟩
        have cF:∀ w',Sl w' 3 az A l.length l→bt Tryz.prog 141 [.agg (bo ⟨s.aV,s.To,⟨A,l.length,c⟩,s.Types⟩).toArray,.int .i64 (x.At+pw (q-1))] w' fun v _=>v = .tuple #[.int .i64 (bF l (x.At+pw (q-1)) : Int),.bool (cf l (x.At+pw (q-1)))]:=fun w' h =>
         pV ⟨s.aV,s.To,⟨A,l.length,c⟩,s.Types⟩ l z.aV z.To (x.At+pw (q-1)) w' h hJ.nO hJ.cV o1 (by omega) (by simp only;omega) ⟨by omega,by omega⟩
        have sd:=zZ l (x.At+pw (q-1));have Gr:=uK ty x.At q l;refine Wz ?_;refine SW.bB (i:=1) cl rfl rfl rfl rfl fun w5 jC hg => ?_
        have hG:=cl.gr hg;replace hw:=hw.own Io hg;replace hX:=hX.grown hg (.inr cG);(replace ar:=ar.ay hG rfl;replace ax:=ax.ay hG rfl;replace hT:=hT.ay hG rfl);replace cl:aI w5 pf 77 [.int .i64 x.At,.int .i64 (q-1),.int .i64 ty]:=jC;clear jC hg hG;refine Wz ?_;refine CW.any 8 mixed (cq (by kernel_rfl)) rfl fun w1 ab aG => ?_
        replace hw:=Ext.trans hw ab;replace ar:=ar.ext ab;replace ax:=ax.ext ab;replace cl:=cl.ext ab;replace hX:=hX.ext ab;replace hT:=hT.ext ab;clear ab;refine Wa ?_;refine SA.two 1 7 rfl rfl (by kernel_rfl) rfl rfl ?_ ?_
        ·refine SW.call rfl rfl (cE _) fun v w4 aj hv => ?_
         subst hv;(replace hw:=Ext.trans hw aj;replace ar:=ar.ext aj;replace ax:=ax.ext aj;replace cl:=cl.ext aj;replace hX:=hX.ext aj;replace hT:=hT.ext aj);try replace ot:=ot.ext aj
         refine SW.nil (ae.sa aj ?_);refine Wa ?_;refine SA.one 7 rfl (by kernel_rfl) rfl ?_;refine SW.alloc rfl fun Gs w4 aj Gt ot => ?_
         have Gu:w.heap.size≤Gs:=Nat.le_trans hw.size Gt
         have Gv:aQ A c≠some Gs:=fun e=>by have:=hX.lt_size _ e;omega
         have Gw:pf≠Gs:=by have:=cl.lt;omega
         (replace hw:=Ext.trans hw aj;replace ar:=ar.ext aj;replace ax:=ax.ext aj;replace cl:=cl.ext aj;replace hX:=hX.ext aj;replace hT:=hT.ext aj);refine SW.nil (ae.sa aj ?_);refine SA.done (by kernel_rfl) ?_;skip;refine SW.ap ot rfl rfl rfl rfl (fO.one (enc:=az) ⟨x.At+pw (q-1),q-1,ty⟩) fun w5 xe hg => ?_
         have hG:=ot.gr hg;replace hw:=hw.own Gu hg;replace hX:=hX.grown hg (.inr Gv);replace cl:=cl.grown hg (by simpa using Gw);(replace ar:=ar.ay hG rfl;replace ax:=ax.ay hG rfl;replace hT:=hT.ay hG rfl);replace ot:=xe;clear xe hg hG cE;repeat' (first|refine Wz ?_|(refine SW.call rfl rfl (cF _ hX.sl) ?_;intro v w1 ab hv;subst hv;replace hw:=Ext.trans hw ab;replace ar:=ar.ext ab;replace ax:=ax.ext ab;replace cl:=cl.ext ab;replace ot:=ot.ext ab;replace hX:=hX.ext ab;replace hT:=hT.ext ab;clear ab))
         refine SW.bD rfl rfl rfl rfl rfl fun b w6 aj hb hB => ?_
         have m6:aQ A c≠some b:=fun e=>by have:=hX.lt_size _ e;omega
         (replace hw:=Ext.trans hw aj;replace ar:=ar.ext aj;replace ax:=ax.ext aj;replace cl:=cl.ext aj;replace hX:=hX.ext aj;replace hT:=hT.ext aj);skip;refine SW.db rfl rfl (fI A l.length c w.heap.size l _ hX (bF l (x.At+pw (q-1))) sd (jT ty x.At q) b hB m6 (by omega) hw.size) fun v w7 hv => ?_
         obtain ⟨A2,c2,rfl,gf,hg⟩:=hv;have hG:=hX.gr hg;replace hw:=aF hw hg (Nat.le_refl _) hX.aL;replace cl:=cl.grown hg (fun e=>cG e.symm);(replace ar:=ar.ay hG rfl;replace ax:=ax.ay hG rfl;replace hT:=hT.ay hG rfl);clear hg hG hX
         have yJ:aQ A2 c2≠some pf:=gf.CH (x:=⟨x.At,q-1,ty⟩) cl (by omega) fun y hy e=>by
          have g1:=(iW.cV y hy).1;have g2:=bH g1.1 g1.2.1;simp only at e;rcases iW.BZ y hy with g|g<;>omega
         rw [← Gr] at gf;rw [← Gr];refine Wz ?_;refine SW.bB (i:=2) ar rfl rfl rfl rfl fun w8 cU hg => ?_
         have hG:=ar.gr hg;replace hw:=hw.own bM hg;replace ax:=ax.grown hg (by simpa using o6.symm);(replace cl:=cl.ay hG rfl;replace gf:=gf.ay hG rfl;replace hT:=hT.ay hG rfl);refine Wz ?_;exact ae.again (q-1,mX ty x.At q l,A2,c2) ⟨rfl,rfl,rfl,rfl,trivial⟩ (by simp only;omega) ⟨hw,cU,ax,cl,gf,hT,iW,by simp only;omega,qY,by simp only;omega,yJ⟩
        ·refine SW.alloc rfl fun Gs w4 aj Gt ot => ?_
         have Gu:w.heap.size≤Gs:=Nat.le_trans hw.size Gt
         have Gv:aQ A c≠some Gs:=fun e=>by have:=hX.lt_size _ e;omega
         have Gw:pf≠Gs:=by have:=cl.lt;omega
         (replace hw:=Ext.trans hw aj;replace ar:=ar.ext aj;replace ax:=ax.ext aj;replace cl:=cl.ext aj;replace hX:=hX.ext aj;replace hT:=hT.ext aj);refine SW.nil (ae.sa aj ?_);refine SA.one 1 rfl (by kernel_rfl) rfl ?_;refine SW.call rfl rfl (cE _) fun v w4 aj hv => ?_
         subst hv;(replace hw:=Ext.trans hw aj;replace ar:=ar.ext aj;replace ax:=ax.ext aj;replace cl:=cl.ext aj;replace hX:=hX.ext aj;replace hT:=hT.ext aj);try replace ot:=ot.ext aj
         refine SW.nil (ae.sa aj ?_);refine Wa ?_;refine SA.done (by kernel_rfl) ?_;skip;refine SW.ap ot rfl rfl rfl rfl (fO.one (enc:=az) ⟨x.At+pw (q-1),q-1,ty⟩) fun w5 xe hg => ?_
         have hG:=ot.gr hg;replace hw:=hw.own Gu hg;replace hX:=hX.grown hg (.inr Gv);replace cl:=cl.grown hg (by simpa using Gw);(replace ar:=ar.ay hG rfl;replace ax:=ax.ay hG rfl;replace hT:=hT.ay hG rfl);replace ot:=xe;clear xe hg hG cE;repeat' (first|refine Wz ?_|(refine SW.call rfl rfl (cF _ hX.sl) ?_;intro v w1 ab hv;subst hv;replace hw:=Ext.trans hw ab;replace ar:=ar.ext ab;replace ax:=ax.ext ab;replace cl:=cl.ext ab;replace ot:=ot.ext ab;replace hX:=hX.ext ab;replace hT:=hT.ext ab;clear ab))
         refine SW.bD rfl rfl rfl rfl rfl fun b w6 aj hb hB => ?_
         have m6:aQ A c≠some b:=fun e=>by have:=hX.lt_size _ e;omega
         (replace hw:=Ext.trans hw aj;replace ar:=ar.ext aj;replace ax:=ax.ext aj;replace cl:=cl.ext aj;replace hX:=hX.ext aj;replace hT:=hT.ext aj);skip;refine SW.db rfl rfl (fI A l.length c w.heap.size l _ hX (bF l (x.At+pw (q-1))) sd (jT ty x.At q) b hB m6 (by omega) hw.size) fun v w7 hv => ?_
         obtain ⟨A2,c2,rfl,gf,hg⟩:=hv;have hG:=hX.gr hg;replace hw:=aF hw hg (Nat.le_refl _) hX.aL;replace cl:=cl.grown hg (fun e=>cG e.symm);(replace ar:=ar.ay hG rfl;replace ax:=ax.ay hG rfl;replace hT:=hT.ay hG rfl);clear hg hG hX
         have yJ:aQ A2 c2≠some pf:=gf.CH (x:=⟨x.At,q-1,ty⟩) cl (by omega) fun y hy e=>by
          have g1:=(iW.cV y hy).1;have g2:=bH g1.1 g1.2.1;simp only at e;rcases iW.BZ y hy with g|g<;>omega
         rw [← Gr] at gf;rw [← Gr];refine Wz ?_;refine SW.bB (i:=2) ar rfl rfl rfl rfl fun w8 cU hg => ?_
         have hG:=ar.gr hg;replace hw:=hw.own bM hg;replace ax:=ax.grown hg (by simpa using o6.symm);(replace cl:=cl.ay hG rfl;replace gf:=gf.ay hG rfl;replace hT:=hT.ay hG rfl);refine Wz ?_;exact ae.again (q-1,mX ty x.At q l,A2,c2) ⟨rfl,rfl,rfl,rfl,trivial⟩ (by simp only;omega) ⟨hw,cU,ax,cl,gf,hT,iW,by simp only;omega,qY,by simp only;omega,yJ⟩
       ·obtain rfl:o=q:=by omega
        have xf:l=AS:=by
         rw [← qY,show (o-o).toNat=0 by omega];rfl
        rw [xf] at hX;rw [xf] at ar;refine Wz ?_;refine CW.jf 3 5 (fun w2=>aI w2 pf 77 [.int .i64 x.At,.int .i64 o,.int .i64 ty]) mixed (by kernel_rfl) fun w1 ab aG => ?_
        replace hw:=Ext.trans hw ab;replace ar:=ar.ext ab;replace ax:=ax.ext ab;replace cl:=cl.ext ab;replace hX:=hX.ext ab;replace hT:=hT.ext ab;clear ab;refine Wf ?_;refine SF.dM 1 [] aG rfl (by kernel_rfl) (by kernel_rfl) (by kernel_rfl) (aC rfl) (fun w2 hS=>aC rfl) rfl ?_;refine SF.dM 2 [] aG rfl (by kernel_rfl) (by kernel_rfl) (by kernel_rfl) (ak rfl (cl.cell (i:=0) (v := .int .i64 x.At) rfl)) (fun w2 hS=>ak rfl (hS.cell (i:=0) (v := .int .i64 x.At) rfl)) rfl ?_;refine SF.turn rfl (by kernel_rfl) rfl ?_;refine SW.ap ax rfl rfl rfl rfl (cw ⟨s.aV,s.To,⟨A,AS.length,c⟩,s.Types⟩) fun w5 bL hg => ?_
        have hG:=ax.gr hg;have hS:=cl.ay hG rfl;replace hw:=hw.own dr hg;(replace hX:=hX.ay hG rfl;replace hT:=hT.ay hG rfl);refine SW.nil (ae.sg hS ?_);refine SG.one 4 rfl (by kernel_rfl) rfl ?_;repeat (refine SW.pure rfl rfl ?_)
        refine SW.nil (ae.sg hS ?_);refine SG.last rfl (by kernel_rfl) (by kernel_rfl) ?_;refine Wz ?_;exact ae.dB rfl rfl rfl rfl bL rfl ⟨_,rfl,hw,_,iT,⟨s.aV,s.To,⟨A,AS.length,c⟩,s.Types⟩,rfl,⟨sF,sT,hX,hT⟩⟩
   ·have ra:=nz;unfold fy at ra;rcases (show t<0∨(0≤t∧2<t) by omega) with g|g
    all_goals
     repeat' (first|refine Wz ?_|(refine SW.call rfl rfl (c1 _ hw) ?_;intro v w1 ab hv;subst hv;replace hw:=Ext.trans hw ab;replace ar:=ar.ext ab;replace ax:=ax.ext ab;clear ab))
     refine SW.ap ax rfl rfl rfl rfl (cw .zero) fun w5 bL hg => ?_
     replace hw:=hw.own dr hg;refine Wz ?_;exact ae.dB rfl rfl rfl rfl bL rfl ⟨_,rfl,hw,_,.kind hq ho nz,ic.zero 2 _ _⟩
  ·rcases (show o<0∨(0≤o∧4<o) by omega) with g|g
   all_goals
    repeat' (first|refine Wz ?_|(refine SW.call rfl rfl (c1 _ hw) ?_;intro v w1 ab hv;subst hv;replace hw:=Ext.trans hw ab;replace ar:=ar.ext ab;replace ax:=ax.ext ab;clear ab))
    refine SW.ap ax rfl rfl rfl rfl (cw .zero) fun w5 bL hg => ?_
    replace hw:=hw.own dr hg;refine Wz ?_;exact ae.dB rfl rfl rfl rfl bL rfl ⟨_,rfl,hw,_,.range hq ho,ic.zero 1 _ _⟩
open Go.RowKit
theorem vD : Tryz.prog.globalNamed "paddock/buddy.others" = some 0 := by kernel_rfl
theorem xg:(Tryz.prog.globals[0]?).map (·.type)=some 168:=by kernel_rfl
set_option maxRecDepth 100000 in
theorem vE {W:World} {cs:List Value} {fuel:Nat} {p:List MemPlace} {enc:TypeId×Value→Unit} {base:Nat} {spare:Nat→Bool} {held:Bool} (h:DataW.trod enc Tryz.prog W base spare held fuel 168 cs=some (Rows.laid_paddock_buddy_others,p)) :
 cs=[.int .i64 2,.int .i64 1,.int .i64 2,.int .i64 0,.int .i64 0,.int .i64 1]:=by
 have c2:Tryz.prog.cellsOf 167=2:=by kernel_rfl
 have c6:Tryz.prog.cellsOf 168=6:=by kernel_rfl
 have c1:Tryz.prog.cellsOf 3=1:=by kernel_rfl
 obtain ⟨xs,m,rfl,hx,hlen,hn,Hx⟩:=DataW.trod_array Tryz.underlying168 h;rw [c6] at hlen;rw [c2] at Hx;simp only [Prod.mk.injEq] at hx
 have pair:∀ (a b:Value) (u v:Int) (x:DataW Unit×List MemPlace),DataW.trod enc Tryz.prog W base spare held m 167 [a,b]=some x→x.1 = .agg [.lit (.int .i64 u),.lit (.int .i64 v)]→a = .int .i64 u∧b = .int .i64 v:=by
  intro a b u v x hx e;obtain ⟨ys,k,rfl,rfl,_,hk,he⟩:=DataW.trod_array Tryz.underlying167 hx;rw [c1] at he
  match ys,hk with
  | [y0,y1],_ =>
    have h0:=he 0 (by decide);have h1:=he 1 (by decide);obtain ⟨z0,e0,f0,_⟩:=DataW.trod_int Tryz.underlying3 (show DataW.trod enc Tryz.prog W base spare held k 3 [a]=some y0 from h0);obtain ⟨z1,e1,f1,_⟩:=DataW.trod_int Tryz.underlying3 (show DataW.trod enc Tryz.prog W base spare held k 3 [b]=some y1 from h1);rw [f0,f1] at e;simp at e e0 e1;rw [e0,e1,e.1,e.2];exact ⟨rfl,rfl⟩
 match cs,hlen,xs,hn with
 | [a,b,c,d,e,f],_,[x0,x1,x2],_ =>
   have h0:=Hx 0 (by decide);have h1:=Hx 1 (by decide);have h2:=Hx 2 (by decide);have kH:=hx.1;simp only [Rows.laid_paddock_buddy_others,List.map_cons,List.map_nil,DataW.agg.injEq,List.cons.injEq,and_true] at kH;obtain ⟨rfl,rfl⟩:=pair a b 2 1 x0 h0 kH.1.symm;obtain ⟨rfl,rfl⟩:=pair c d 2 0 x1 h1 kH.2.1.symm;obtain ⟨rfl,rfl⟩:=pair e f 0 1 x2 h2 kH.2.2.symm
   rfl
theorem xh {W : World} (h : laidMetH Tryz.prog [("paddock/buddy.others", Rows.laid_paddock_buddy_others)] W) : pe W := by
 rw [MakeChecks.laidMetH_plain _ _ _ (by kernel_rfl)] at h;obtain ⟨ps,⟨g0,t0,Ad,f0,p0,q0,AG,Hy,JE,LL,_⟩,_,_⟩:=h;obtain rfl:=Option.some.inj (vD.symm.trans AG);obtain rfl:=Option.some.inj (xg.symm.trans Hy);have hc:=vE LL;refine ⟨fun k hk j v hv => ?_⟩
 have uF:∀ i,W.cell? ⟨0,i,none⟩=Ad.toList[i]?:=fun i=>by
  have:=World.var?_cell AG JE i
  simpa using this
 rw [add_add,c9,uF,hc];rcases (show k=0∨k=1∨k=2 by omega) with rfl|rfl|rfl
 all_goals
  match j,hv with
  | 0,hv=>simpa [mV,mW] using hv
  | 1,hv=>simpa [mV,mW] using hv
open Go.ChangeShapes Go.WideShapes Go.ChangeAt Go.RowKit Go.Deep Go.Joins
theorem own:ownKnob Tryz.prog.godebug=none:=by kernel_rfl
theorem laidOut:laidOutB Tryz.prog=true:=by kernel_rfl
theorem n7 {H:Type} {enc:TypeId×Value→H} {P:Program} (hl:laidOutB P=true) {W W':World} (hb:Below W.heap.size W W') :
 ∀ (ts:List TypeId) (vs:List Value) (ds:List (DataW H)) (ps:List MemPlace),(∀ t∈ts,P.readableRec t=true∧t<P.types.size) →
  DataW.TrodAll enc P W 0 (fun _=>true) true ts vs ds ps→(∀ x∈ps,x.block<W.heap.size)→DataW.TrodAll enc P W' 0 (fun b=>decide (b<W.heap.size)) true ts vs ds ps
 | [],[],[],_,_,h,_=>h
 | t::ts,v::vs,d::ds,ps,Iq,h,c8=>by
   obtain ⟨p,q,h1,h2,rfl⟩:=h
   exact ⟨p,q,Below.trod hl (Iq t (by simp)).1 (Iq t (by simp)).2 h1 hb (fun x hx=>c8 x (by simp [hx])),
    n7 hl hb ts vs ds q (fun u hu=>Iq u (by simp [hu])) h2 (fun x hx=>c8 x (by simp [hx])),rfl⟩
 | [],_::_,_,_,_,h,_=>by simp [DataW.TrodAll] at h
 | [],[],_::_,_,_,h,_=>by simp [DataW.TrodAll] at h
 | _::_,[],_,_,_,h,_=>by simp [DataW.TrodAll] at h
 | _::_,_::_,[],_,_,h,_=>by simp [DataW.TrodAll] at h
theorem AT {H:Type} {enc:TypeId×Value→H} {P:Program} {f:Func} {s:ChangeSpec} {L2:FuncId} {W:World} {args:Array Value} {ds gs:List (DataW H)} {before:List MemPlace} {tb:TypeId}
 (hl:laidOutB P=true) (Iq:∀ t∈f.params.toList,P.readableRec t=true∧t<P.types.size) (hr:f.resultTypes = #[tb]) (hb:P.underlying tb=some .bool) (hv:s.vars=[])
 (Kn:(s.fn H (ds++[])).results=[.lit (.bool true)]∧(s.fn H (ds++[])).args=ds∧(s.fn H (ds++[])).vars=[])
 (hW:DataW.Whole enc P f.params.toList s.vars false W args.toList ds gs before) (h:bt P L2 args.toList W fun v _=>v = .bool true) :
 Calls P L2 args W fun e W' => ∃ v,e = .returned v∧s.post enc P f false true false false W args v W':=by
 have Ir:=hW;obtain ⟨p,q,hA,hV,rfl,_,_⟩:=hW;rw [hv] at hV;obtain ⟨rfl,rfl⟩:=trodVars_none hV;simp only [List.append_nil] at Ir;have c8:∀ x∈p,x.block<W.heap.size:=fun x hx=>by simpa using Ir.lt x hx
 refine Calls.mono h.out ?_;rintro e W' ⟨v,rfl,hx,rfl⟩
 obtain ⟨s1,s2,s3⟩:=Kn;refine ⟨_,rfl,ds,[],p,[],p,[],Ir,?_,?_,?_,Below.frame hx _,fun h=>by cases h⟩
 ·rw [s1,hr];exact trodAll_mk1 (shut_bool hb true)
 ·rw [s2];exact n7 hl hx _ _ _ _ Iq hA c8
 ·rw [s3,hv]
  rfl
end Go.Proofs.YtjimadiidbkohaaGreatDoor
set_option maxRecDepth 100000
namespace Go.Proofs.YtjimadiidbkohaaGreatDoor
open Go.ChangeShapes Go.WideShapes Go.ChangeAt Go.RowKit Go.Deep Go.Joins
def sx (z:Int) : Prop := -9223372036854775808≤z∧z≤9223372036854775807
section
variable {H:Type} {enc:TypeId×Value→H} {W:World} {base:Nat} {spare:Nat→Bool} {held:Bool} {fuel:Nat} {cs:List Value} {x:DataW H×List MemPlace}
theorem in64_of_wf {z:Int} (h:(Lit.int .i64 z).wf=true) : sx z:=by
 have h1:IntKind.i64.min = -9223372036854775808:=rfl
 have h2:IntKind.i64.max=9223372036854775807:=rfl
 simp only [Lit.wf,Bool.and_eq_true,decide_eq_true_eq] at h;unfold sx;omega
theorem gK {t:TypeId} (ht:Tryz.prog.underlying t=some (.int .i64)) (h:DataW.trod enc Tryz.prog W base spare held fuel t cs=some x) : ∃ z:Int,cs=bf z∧sx z:=by
 obtain ⟨z,rfl,_,hw⟩:=DataW.trod_int ht h;exact ⟨z,rfl,in64_of_wf hw⟩
end
section
variable {H:Type} {P:Program}
theorem CM {ts:List TypeId} {ds:List (DataW H)} (h:(DataW.weightsEach P ts ds).all (· ≤ reachBytes)=true) {j:Nat} {t:TypeId} {d:DataW H} (ht:ts[j]?=some t) (hd:ds[j]?=some d) : ∀ y∈d.weights P t,y≤reachBytes:=fun y hy=>by
 simpa using List.all_eq_true.1 h _ (DataW.weights_mem_each ht hd y hy)
theorem fh {t:TypeId} {fs:Array Field} {parts:List (DataW H)} (hu:P.underlying t=some (.struct fs)) {j:Nat} {tj:TypeId} {dj:DataW H} (ht:(fs.toList.map (·.type))[j]?=some tj) (hd:parts[j]?=some dj) (h:∀ y∈(DataW.agg parts).weights P t,y≤reachBytes) : ∀ y∈dj.weights P tj,y≤reachBytes:=fun y hy=>by
 apply h;simp only [DataW.weights,hu];exact DataW.weights_mem_each ht hd y hy
end
section
variable {H:Type} {enc:TypeId×Value→H} {W:World} {base:Nat} {spare:Nat→Bool} {held:Bool} {fuel:Nat} {cs:List Value} {x:DataW H×List MemPlace}
theorem CN (h:DataW.trod enc Tryz.prog W base spare held fuel 77 cs=some x) : ∃ r:Block,cs=az r∧True:=by
 obtain ⟨xs,n,_,_,hlen,jV,hf⟩:=DataW.trod_struct Tryz.underlying77 h;have hc:Tryz.prog.cellsOf 77=3:=by kernel_rfl
 have hi:Tryz.prog.cellsOf 3=1:=by kernel_rfl
 rw [hc] at hlen
 match cs,hlen with
 | [c0,c1,c2],_ =>
   match xs,jV with
   | [y0,y1,y2],_ =>
     have h0:DataW.trod enc Tryz.prog W base spare held n 3 (List.take (Tryz.prog.cellsOf 3) (List.drop 0 [c0,c1,c2]))=some y0:=hf 0 _ rfl
     have h1:DataW.trod enc Tryz.prog W base spare held n 3 (List.take (Tryz.prog.cellsOf 3) (List.drop 1 [c0,c1,c2]))=some y1:=hf 1 _ rfl
     have h2:DataW.trod enc Tryz.prog W base spare held n 3 (List.take (Tryz.prog.cellsOf 3) (List.drop 2 [c0,c1,c2]))=some y2:=hf 2 _ rfl
     rw [hi] at h0 h1 h2;obtain ⟨a,ha,wa⟩:=gK Tryz.underlying3 h0;obtain ⟨b,hb,wb⟩:=gK Tryz.underlying3 h1;obtain ⟨c,B4,wc⟩:=gK Tryz.underlying3 h2;simp [bf] at ha hb B4;subst ha hb B4;exact ⟨⟨a,b,c⟩,rfl,trivial⟩
end
end Go.Proofs.YtjimadiidbkohaaGreatDoor
set_option maxRecDepth 100000
namespace Go.Proofs.YtjimadiidbkohaaGreatDoor
open Go.ChangeShapes Go.WideShapes Go.ChangeAt Go.RowKit Go.Deep Go.Joins
section
variable {H:Type} {enc:TypeId×Value→H} {W:World} {base:Nat} {spare:Nat→Bool} {held:Bool} {fuel:Nat} {cs:List Value} {x:DataW H×List MemPlace}
theorem m7 {P:Program} {e:TypeId}:∀ {l:List (DataW H)} {d:DataW H},d∈l → ∀ n∈d.weights P e,n∈DataW.weightsAll P e l
 | a::r,d,h,n,hn=>by
   simp only [DataW.weightsAll,List.mem_append];rcases List.mem_cons.1 h with rfl|h
   ·exact .inl hn
   ·exact .inr (m7 h n hn)
theorem rF {α β:Type} {R : α → β → Prop}:∀ (l:List α),(∀ a∈l,∃ b,R a b) → ∃ bs:List β,eH R l bs
 | [],_=>⟨[],.nil⟩
 | a::r,h=>by
   obtain ⟨b,hb⟩:=h a (by simp);obtain ⟨bs,tL⟩:=rF r (fun x hx=>h x (by simp [hx]));refine ⟨b::bs,by simp [tL.len],fun i h1 h2 => ?_⟩;cases i with
   | zero=>exact hb
   | succ i=>exact tL.get i (by simpa using h1) (by simpa using h2)
theorem fJ {α:Type} {t e sz b:Nat} [S:bw Tryz.prog t e sz] (hc:Tryz.prog.cellsOf e=sz) (uC:Tryz.prog.bytesOf e=b) {en : α → List Value} {Good : α → Prop}
 (Hx:∀ fuel cs x,DataW.trod enc Tryz.prog W base spare held fuel e cs=some x→(∀ y∈x.1.weights Tryz.prog e,y≤reachBytes) → ∃ a : α,cs=en a∧Good a) (h:DataW.trod enc Tryz.prog W base spare held fuel t cs=some x) (hw:∀ y∈x.1.weights Tryz.prog t,y≤reachBytes) :
 ∃ A n c l,cs=[.slice A n c]∧Sl W sz en A n l∧n*b≤140737488351232 ∧ ∀ a∈l,Good a:=by
 rcases open_slice S.ky h with ⟨h1,h2⟩|⟨a,len,cap,m,k,D,Pl,h1,hb,hl,hm,JB,hx,hi⟩
 ·exact ⟨none,0,0,[],h1,Sl.dS _ _ _ _,by simp,by simp⟩
 ·have OP:len≤m:=by rw [JB];split<;>omega
  have kH:x.1 = .slice ((List.range len).map D) ((List.range (m-len)).map fun j=>D (len+j)):=by rw [hx]
  have Nd:len*b≤140737488351232:=by
   have:=hw ((((List.range len).map D).length+((List.range (m-len)).map fun j=>D (len+j)).length)*Tryz.prog.bytesOf e) (by rw [kH];simp [DataW.weights,S.ky])
   rw [uC] at this;simp only [reachBytes] at this;refine Nat.le_trans (Nat.mul_le_mul_right _ ?_) this;simp
  have hex:∀ i,i<len → ∃ q : α,Good q ∧ ∀ j u,(en q)[j]?=some u→W.cell? ((a.add (i*sz)).add j)=some u:=fun i c8=>by
   obtain ⟨cs',gU,ht⟩:=hi i (by omega)
   obtain ⟨q,rfl,hg⟩:=Hx _ _ _ ht (fun y hy=>by
    apply hw;rw [kH];simp only [DataW.weights,S.ky,List.mem_cons,List.mem_append];exact .inr (.inl (m7 (List.mem_map.2 ⟨i,by simpa using c8,rfl⟩) y hy)))
   obtain ⟨_,Is,o7⟩:=World.cells?_some gU;rw [hc] at Is o7;refine ⟨q,hg,fun j u hu => ?_⟩
   have hj:j<(en q).length:=by
    rcases Nat.lt_or_ge j (en q).length with h|h
    ·exact h
    ·simp [List.getElem?_eq_none h] at hu
   rw [o7 j (by omega)];exact hu
  by_cases h0:len=0
  ·subst h0;exact ⟨some a,0,cap,[],h1,Sl.dS _ _ _ _,by simp,by simp⟩
  have Nf:∃ f:Nat → α,∀ i,i<len→Good (f i) ∧ ∀ j u,(en (f i))[j]?=some u→W.cell? ((a.add (i*sz)).add j)=some u:=by
   have cG:Nonempty α := ⟨(hex 0 (by omega)).choose⟩
   exact ⟨fun i=>if h:i<len then (hex i h).choose else Classical.choice cG,fun i h=>by simp only [h,dif_pos];exact (hex i h).choose_spec⟩
  obtain ⟨f,hf⟩:=Nf;refine ⟨some a,len,cap,(List.range len).map f,h1,⟨by simp,fun _=>rfl,fun i ol j u hu => ?_⟩,Nd,?_⟩
  ·simp at ol;exact (hf i ol).2 j u (by simpa using hu)
  ·intro q hq;obtain ⟨i,ol,rfl⟩:=List.mem_map.1 hq;exact (hf i (by simpa using ol)).1
theorem ph {t:TypeId} (ht:Tryz.prog.underlying t=some (.int .i64)) : ∀ fuel cs x,DataW.trod enc Tryz.prog W base spare held fuel t cs=some x→(∀ y∈x.1.weights Tryz.prog t,y≤reachBytes) → ∃ z:Int,cs=bf z∧sx z:=fun _ _ _ h _=>gK ht h
theorem uN:∀ fuel cs x,DataW.trod enc Tryz.prog W base spare held fuel 77 cs=some x→(∀ y∈x.1.weights Tryz.prog 77,y≤reachBytes) → ∃ r:Block,cs=az r∧True:=fun _ _ _ h _=>CN h
def aq.ou (z:aq) : Prop:=sx z.aV∧sx z.To∧z.ag.length*24≤140737488351232∧z.Types.length*8≤140737488351232
theorem CO:∀ fuel cs x,DataW.trod enc Tryz.prog W base spare held fuel 59 cs=some x→(∀ y∈x.1.weights Tryz.prog 59,y≤reachBytes) → ∃ r:ct,cs=bo r ∧ ∃ z:aq,tY W r z∧z.ou:=by
 intro fuel cs x h hw;obtain ⟨xs,n,_,rfl,hlen,jV,hf⟩:=DataW.trod_struct Tryz.underlying59 h;have hc:Tryz.prog.cellsOf 59=4:=by kernel_rfl
 have hi:Tryz.prog.cellsOf 3=1:=by kernel_rfl
 have EA:Tryz.prog.cellsOf 25=1:=by kernel_rfl
 have It:Tryz.prog.cellsOf 22=1:=by kernel_rfl
 rw [hc] at hlen
 match cs,hlen with
 | [c0,c1,c2,c3],_ =>
   match xs,jV with
   | [y0,y1,y2,y3],_ =>
     have h0:DataW.trod enc Tryz.prog W base spare held n 3 (List.take (Tryz.prog.cellsOf 3) (List.drop 0 [c0,c1,c2,c3]))=some y0:=hf 0 _ rfl
     have h1:DataW.trod enc Tryz.prog W base spare held n 3 (List.take (Tryz.prog.cellsOf 3) (List.drop 1 [c0,c1,c2,c3]))=some y1:=hf 1 _ rfl
     have h2:DataW.trod enc Tryz.prog W base spare held n 25 (List.take (Tryz.prog.cellsOf 25) (List.drop 2 [c0,c1,c2,c3]))=some y2:=hf 2 _ rfl
     have h3:DataW.trod enc Tryz.prog W base spare held n 22 (List.take (Tryz.prog.cellsOf 22) (List.drop 3 [c0,c1,c2,c3]))=some y3:=hf 3 _ rfl
     rw [hi] at h0 h1;rw [EA] at h2;rw [It] at h3;have w2:=fh Tryz.underlying59 (j:=2) rfl rfl hw;have w3:=fh Tryz.underlying59 (j:=3) rfl rfl hw;obtain ⟨a,ha,wa⟩:=gK Tryz.underlying3 h0;obtain ⟨b,hb,wb⟩:=gK Tryz.underlying3 h1;obtain ⟨A2,n2,k2,l2,e2,s2,b2,_⟩:=fJ (t:=25) (b:=24) (by kernel_rfl) (by kernel_rfl) uN h2 w2;obtain ⟨A3,n3,k3,l3,e3,s3,b3,_⟩:=fJ (t:=22) (b:=8) (by kernel_rfl) (by kernel_rfl) (ph Tryz.underlying3) h3 w3;simp [bf] at ha hb e2 e3;subst ha hb e2 e3;refine ⟨⟨a,b,⟨A2,n2,k2⟩,⟨A3,n3,k3⟩⟩,rfl,⟨a,b,l2,l3⟩,⟨rfl,rfl,s2,s3⟩,wa,wb,?_,?_⟩
     ·simp only [s2.len];exact b2
     ·simp only [s3.len];exact b3
theorem CP:∀ fuel cs x,DataW.trod enc Tryz.prog W base spare held fuel 62 cs=some x→(∀ y∈x.1.weights Tryz.prog 62,y≤reachBytes) → ∃ r:bO,cs=bp r ∧ ∃ l:aA,Fl W r l∧l.aw.length*8≤140737488351232:=by
 intro fuel cs x h hw;obtain ⟨xs,n,_,rfl,hlen,jV,hf⟩:=DataW.trod_struct Tryz.underlying62 h;have hc:Tryz.prog.cellsOf 62=4:=by kernel_rfl
 have hi:Tryz.prog.cellsOf 3=1:=by kernel_rfl
 have It:Tryz.prog.cellsOf 22=1:=by kernel_rfl
 rw [hc] at hlen
 match cs,hlen with
 | [c0,c1,c2,c3],_ =>
   match xs,jV with
   | [y0,y1,y2,y3],_ =>
     have h0:DataW.trod enc Tryz.prog W base spare held n 3 (List.take (Tryz.prog.cellsOf 3) (List.drop 0 [c0,c1,c2,c3]))=some y0:=hf 0 _ rfl
     have h1:DataW.trod enc Tryz.prog W base spare held n 3 (List.take (Tryz.prog.cellsOf 3) (List.drop 1 [c0,c1,c2,c3]))=some y1:=hf 1 _ rfl
     have h2:DataW.trod enc Tryz.prog W base spare held n 3 (List.take (Tryz.prog.cellsOf 3) (List.drop 2 [c0,c1,c2,c3]))=some y2:=hf 2 _ rfl
     have h3:DataW.trod enc Tryz.prog W base spare held n 22 (List.take (Tryz.prog.cellsOf 22) (List.drop 3 [c0,c1,c2,c3]))=some y3:=hf 3 _ rfl
     rw [hi] at h0 h1 h2;rw [It] at h3;have w3:=fh Tryz.underlying62 (j:=3) rfl rfl hw;obtain ⟨a,ha,wa⟩:=gK Tryz.underlying3 h0;obtain ⟨b,hb,wb⟩:=gK Tryz.underlying3 h1;obtain ⟨c,B4,wc⟩:=gK Tryz.underlying3 h2;obtain ⟨A3,n3,k3,l3,e3,s3,b3,_⟩:=fJ (t:=22) (b:=8) (by kernel_rfl) (by kernel_rfl) (ph Tryz.underlying3) h3 w3;simp [bf] at ha hb B4 e3;subst ha hb B4 e3;refine ⟨⟨a,b,c,⟨A3,n3,k3⟩⟩,rfl,⟨a,b,c,l3⟩,⟨rfl,rfl,rfl,s3⟩,?_⟩;simp only [s3.len];exact b3
structure Heap.ou (h:Heap) : Prop where
 small:h.small
 cx:∀ z∈h.aN,z.ou
theorem CQ:∀ fuel cs x,DataW.trod enc Tryz.prog W base spare held fuel 27 cs=some x→(∀ y∈x.1.weights Tryz.prog 27,y≤reachBytes) → ∃ r:eI,cs=bm r ∧ ∃ h:Heap,wH W r h∧h.ou:=by
 intro fuel cs x h hw;obtain ⟨xs,n,_,rfl,hlen,jV,hf⟩:=DataW.trod_struct Tryz.underlying27 h;have hc:Tryz.prog.cellsOf 27=5:=by kernel_rfl
 have hi:Tryz.prog.cellsOf 3=1:=by kernel_rfl
 have Iu:Tryz.prog.cellsOf 22=1:=by kernel_rfl
 have EA:Tryz.prog.cellsOf 23=1:=by kernel_rfl
 have It:Tryz.prog.cellsOf 24=1:=by kernel_rfl
 have Ko:Tryz.prog.cellsOf 25=1:=by kernel_rfl
 rw [hc] at hlen
 match cs,hlen with
 | [c0,c1,c2,c3,c4],_ =>
   match xs,jV with
   | [y0,y1,y2,y3,y4],_ =>
     have h0:DataW.trod enc Tryz.prog W base spare held n 23 (List.take (Tryz.prog.cellsOf 23) (List.drop 0 [c0,c1,c2,c3,c4]))=some y0:=hf 0 _ rfl
     have h1:DataW.trod enc Tryz.prog W base spare held n 22 (List.take (Tryz.prog.cellsOf 22) (List.drop 1 [c0,c1,c2,c3,c4]))=some y1:=hf 1 _ rfl
     have h2:DataW.trod enc Tryz.prog W base spare held n 3 (List.take (Tryz.prog.cellsOf 3) (List.drop 2 [c0,c1,c2,c3,c4]))=some y2:=hf 2 _ rfl
     have h3:DataW.trod enc Tryz.prog W base spare held n 24 (List.take (Tryz.prog.cellsOf 24) (List.drop 3 [c0,c1,c2,c3,c4]))=some y3:=hf 3 _ rfl
     have h4:DataW.trod enc Tryz.prog W base spare held n 25 (List.take (Tryz.prog.cellsOf 25) (List.drop 4 [c0,c1,c2,c3,c4]))=some y4:=hf 4 _ rfl
     rw [EA] at h0;rw [Iu] at h1;rw [hi] at h2;rw [It] at h3;rw [Ko] at h4;have w0:=fh Tryz.underlying27 (j:=0) rfl rfl hw;have w1:=fh Tryz.underlying27 (j:=1) rfl rfl hw;have w3:=fh Tryz.underlying27 (j:=3) rfl rfl hw;have w4:=fh Tryz.underlying27 (j:=4) rfl rfl hw;obtain ⟨A0,n0,k0,l0,e0,s0,b0,g0⟩:=fJ (t:=23) (b:=64) (by kernel_rfl) (by kernel_rfl) CO h0 w0;obtain ⟨A1,n1,k1,l1,e1,s1,b1,_⟩:=fJ (t:=22) (b:=8) (by kernel_rfl) (by kernel_rfl) (ph Tryz.underlying3) h1 w1;obtain ⟨b,hb,wb⟩:=gK Tryz.underlying3 h2;obtain ⟨A3,n3,k3,l3,e3,s3,b3,g3⟩:=fJ (t:=24) (b:=48) (by kernel_rfl) (by kernel_rfl) CP h3 w3;obtain ⟨A4,n4,k4,l4,e4,s4,b4,_⟩:=fJ (t:=25) (b:=24) (by kernel_rfl) (by kernel_rfl) uN h4 w4;obtain ⟨Z,hZ⟩:=rF l0 g0;obtain ⟨L,hL⟩:=rF l3 g3;simp [bf] at e0 e1 hb e3 e4;subst e0 e1 hb e3 e4;refine ⟨⟨⟨A0,n0,k0⟩,⟨A1,n1,k1⟩,b,⟨A3,n3,k3⟩,⟨A4,n4,k4⟩⟩,rfl,⟨Z,l1,b,L,l4⟩,⟨rfl,s1,s4,⟨l0,s0,hZ.mono fun _ _ h=>h.1⟩,⟨l3,s3,hL.mono fun _ _ h=>h.1⟩⟩,⟨?_,?_,?_,?_,?_,?_⟩,?_⟩
     ·simp only [← hZ.len,s0.len];omega
     ·simp only [s1.len];omega
     ·simp only [← hL.len,s3.len];omega
     ·simp only [s4.len];omega
     ·intro z hz;obtain ⟨i,hi,rfl⟩:=List.getElem_of_mem hz;have:=(hZ.get i (by have:=hZ.len;simp only at hi;omega) hi).2
      exact ⟨by have:=this.2.2.1;simp only at this ⊢;omega,by have:=this.2.2.2;simp only at this ⊢;omega⟩
     ·intro z hz;obtain ⟨i,hi,rfl⟩:=List.getElem_of_mem hz;have:=(hL.get i (by have:=hL.len;simp only at hi;omega) hi).2
      simp only at this ⊢;omega
     ·intro z hz;obtain ⟨i,hi,rfl⟩:=List.getElem_of_mem hz;exact (hZ.get i (by have:=hZ.len;simp only at hi;omega) hi).2
end
end Go.Proofs.YtjimadiidbkohaaGreatDoor
