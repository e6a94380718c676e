/-
  Texts of the claim SlabBulks, part 23: what its theorem leans on.
-/
import Derived.Test.YtjimadiidbkohaaGreatDoorPackSlabBulks7
import Derived.Test.YtjimadiidbkohaaGreatDoorPackSlabBulks22
import Derived.Test.YtjimadiidbkohaaGreatDoorPackSlabBulks2
import Derived.Test.YtjimadiidbkohaaGreatDoorPackSlabBulks12
import Derived.Test.YtjimadiidbkohaaGreatDoorPackSlabBulks16
import Derived.Test.YtjimadiidbkohaaGreatDoorPackSlabBulks18
import Derived.Test.YtjimadiidbkohaaGreatDoorPackSlabBulks11
set_option linter.unusedVariables false
set_option linter.unusedSimpArgs false
namespace Go.Proofs.YtjimadiidbkohaaGreatDoor
open Go.RowKit
def BM (T:List Int) (i:Nat) (t:Int) (c:Nat) : List Int:=if c=0 then T else if c=1 then T.set i t else (T.set i t).set (i+1) t
theorem BN {T:List Int} {i:Nat} {t:Int} {c:Nat} (hc:c<2) : (BM T i t c).set (i+c) t=BM T i t (c+1):=by
 rcases (show c=0∨c=1 by omega) with rfl|rfl<;>simp [BM]
def Ca (b:Block) : Nat:=if b.Order=4 then 2 else 1
theorem DP {z:aq} {b:Block} {t:Int} (h2 : 2≤b.Order) : BM z.Types (jB z b) t (Ca b)=dD z b t:=by
 unfold BM Ca dD;by_cases h:b.Order=4
 ·rw [if_pos h,if_neg (by omega),if_neg (by omega),if_neg (by omega),if_pos h]
 ·rw [if_neg h,if_neg (by omega),if_pos rfl,if_neg (by omega),if_neg h]
theorem Hg {b:Block} (h2 : 2≤b.Order) (h4:b.Order≤4) (hm:b.At % pw b.Order=0) : (b.At+pw b.Order-1) / 8*8=mD b-8∧mD b-8=b.At / 8*8+8*(Ca b:Int)-8:=by
 unfold mD Ca;rcases dZ (show 0≤b.Order by omega) h4 with ⟨e1,e2⟩|⟨e1,e2⟩|⟨e1,e2⟩|⟨e1,e2⟩|⟨e1,e2⟩<;>rw [e2] at hm ⊢<;>split<;>omega
theorem BO {z:aq} {b:Block} {t:Int} {st:Bool} (h:b.Order<2) : eQ z b t st=z.ag∧(if st=true then dD z b t else z.Types)=z.Types∧k6 z t st b=b.Ty:=by
 refine ⟨?_,?_,?_⟩
 ·unfold eQ eJ;rw [if_pos h];split<;>rfl
 ·unfold dD;rw [if_pos h];split<;>rfl
 ·unfold k6;rw [if_neg (by omega)]
set_option maxHeartbeats 8000000 in
theorem qU (r:ct) (z:aq) (o t:Int) (w:World) (hr:tY w r z) (hf:(r.ag.n+1)*24≤140737488355328) (ht:r.Types.n*8≤140737488355328) (h1 : -9223372036854775808≤r.aV∧r.aV≤9223372036854775807) (h2 : -9223372036854775808≤r.To∧r.To≤9223372036854775807) :
 bt Tryz.prog 90 [.agg (bo r).toArray,.int .i64 o,.int .i64 t] w fun v w' => ∃ u,fV z o t u∧ic w.heap.size u v w':=by
 refine aM Tryz.func90 rfl Tryz.ntmps90 rfl ?_;refine CW.seq (CW.region (SW.box rfl rfl fun b3 w1 hw bM ar => ?_));refine SW.alloc rfl fun b6 w2 cJ fb ax => ?_
 have dr:w.heap.size≤b6:=Nat.le_trans hw.size fb
 have o6:b3≠b6:=by have:=ar.lt;omega
 (replace hw:=Ext.trans hw cJ;replace ar:=ar.ext cJ);have eF:=hr.from_;have eT:=hr.ka;have Co:=hr.free.len;have Hs:=hr.types.len;obtain ⟨q,hq⟩ : ∃ q,ev z=q:=⟨_,rfl⟩
 have c1:∀ w',Ext w w'→bt Tryz.prog 78 [.agg (bo r).toArray] w' fun v _=>v = .bool q:=fun w' h=>by
  have:=kG r z w' (hr.ext h) (by omega) (by omega) h1 h2
  rwa [hq] at this
 cases q
 ·repeat' (first|refine Wz ?_|(refine CW.bG rfl ?_)|(refine SW.call rfl rfl (c1 _ hw) ?_;intro v w1 ab hv;subst hv;replace hw:=Ext.trans hw ab;replace ar:=ar.ext ab;replace ax:=ax.ext ab;clear ab))
  refine SW.ap ax rfl rfl rfl rfl (cw .zero) fun w5 bL hg => ?_
  replace hw:=hw.own dr hg;refine Wz ?_;exact ae.dB rfl rfl rfl rfl bL rfl ⟨_,rfl,hw,_,.bad hq,ic.zero 8 _ _⟩
 ·have hz:=dw.1 hq;obtain ⟨o1,o2,o3,o4,o5⟩:=hz.ok;by_cases ho : 0≤o∧o≤4
  ·by_cases nz:fy t
   ·have ra:=nz;unfold fy at ra;repeat' (first|refine Wz ?_|(refine CW.bA rfl ?_)|((first|refine SW.call rfl rfl (c1 _ hw) ?_|refine SW.call rfl rfl (bK _ _ _ _) ?_);intro v w1 ab hv;subst hv;replace hw:=Ext.trans hw ab;replace ar:=ar.ext ab;replace ax:=ax.ext ab;clear ab))
    all_goals try omega
    refine SW.call rfl rfl (lW r z _ (hr.ext hw) (by omega) ht) fun v w4 iS hv => ?_
    obtain ⟨s,rfl,hs⟩:=hv;replace hs:=hs.low hw.size;(replace hw:=Ext.trans hw iS;replace ar:=ar.ext iS;replace ax:=ax.ext iS);clear c1;skip;refine SW.alloc rfl fun b9 w5 jJ MF bl => ?_
    have Lr:w.heap.size≤b9:=Nat.le_trans hw.size MF
    have Jf:b3≠b9:=by have:=ar.lt;omega
    have DQ:b6≠b9:=by have:=ax.lt;omega
    (replace hw:=Ext.trans hw jJ;replace ar:=ar.ext jJ;replace ax:=ax.ext jJ;replace hs:=hs.ext jJ);skip;refine SW.ap bl rfl rfl rfl rfl (cw s) fun w5 gz hg => ?_
    have hG:=bl.gr hg;replace hw:=hw.own Lr hg;have hX:=hs.free.ay hG rfl;have hT:=hs.types.ay hG rfl;replace ax:=ax.grown hg (by simpa using DQ);replace ar:=ar.grown hg (by simpa using Jf);replace bl:=gz;have sF:=hs.from_;have sT:=hs.ka;have es:s.ag.n=z.ag.length:=hs.free.len.symm
    have et:s.Types.n=z.Types.length:=hs.types.len.symm
    clear gz hg hG hs jJ MF;refine Wz ?_;refine SW.alloc rfl fun nE w5 jJ Jg aW => ?_
    have yg:w.heap.size≤nE:=Nat.le_trans hw.size Jg
    have pH:aQ s.ag.A s.ag.c≠some nE:=fun e=>by have:=hX.lt_size _ e;omega
    (replace hw:=Ext.trans hw jJ;replace ar:=ar.ext jJ;replace ax:=ax.ext jJ;replace bl:=bl.ext jJ;replace hX:=hX.ext jJ;replace hT:=hT.ext jJ);skip;refine SW.ap aW rfl rfl rfl rfl (fO.one (enc:=az) ⟨0,0,0⟩) fun w6 iQ hg => ?_
    have hG:=aW.gr hg;replace hw:=hw.own yg hg;replace hX:=hX.grown hg (.inr pH);(replace ar:=ar.ay hG rfl;replace ax:=ax.ay hG rfl;replace bl:=bl.ay hG rfl;replace hT:=hT.ay hG rfl);replace aW:=iQ;clear iQ hg hG jJ Jg;have AR:=kf hz
    have Jh:∀ (i j:Nat) (hj:j<z.ag.length) (kX:i<j),(z.ag[i]'(by omega)).At≤z.ag[j].At:=fun i j hj kX=>by
     have g1:=fB (lx hz) hj kX;have g2:=(hz.cV i (by omega)).1;have g3:=bH g2.1 g2.2.1;omega
    have cL:∀ p u w',Sl w' 3 az s.ag.A s.ag.n z.ag→bt Tryz.prog 118 [.slice s.ag.A s.ag.n s.ag.c,.int .i64 p,.int .i64 u] w' fun v _ => ∃ x,nr (gk p u) z.ag x∧v = .tuple #[.agg (az x.1).toArray,.bool x.2]:=fun p u w' h=>wy _ _ _ z.ag p u w' h (by omega) Jh
    have Ji:∀ p u,z.ag.any (gk p u)=false → ∀ w',Sl w' 3 az s.ag.A s.ag.n z.ag→bt Tryz.prog 118 [.slice s.ag.A s.ag.n s.ag.c,.int .i64 p,.int .i64 u] w' fun v _=>v = .tuple #[.agg (az ⟨0,0,0⟩).toArray,.bool false]:=fun p u ha w' h=>(cL p u w' h).mono fun v w2 _ hv=>by
     obtain ⟨x,hx,rfl⟩:=hv;rw [hx.Fb ha]
    have Jj:∀ p u (k:Nat) (hk:k<z.ag.length) (x:Block),z.ag[k]=x→gk p u z.ag[k]=true→(∀ (j:Nat) (hj:j<z.ag.length),j<k→gk p u z.ag[j]=false) → ∀ w',Sl w' 3 az s.ag.A s.ag.n z.ag→bt Tryz.prog 118 [.slice s.ag.A s.ag.n s.ag.c,.int .i64 p,.int .i64 u] w' fun v _=>v = .tuple #[.agg (az x).toArray,.bool true]:=fun p u k hk x hx hp hb w' h=>(cL p u w' h).mono fun v w2 _ hv=>by
     obtain ⟨y,hy,rfl⟩:=hv;rw [hy.Hf hk hp hb,hx]
    clear cL;refine Wz ?_
    obtain ⟨K,hK⟩ : ∃ K:Env→World→Prop,K=fun L' w' => ∃ (f:Bool) (x:Block),eE L' [(1,.int .i64 o),(2,.int .i64 t),(3,.pointer (some ⟨b3,0,none⟩)),(6,.pointer (some ⟨b6,0,none⟩)),(9,.pointer (some ⟨b9,0,none⟩)),(10,.pointer (some ⟨nE,0,none⟩)),(11,.bool f)]∧Ext w w'∧aI w' b3 59 (bo r)∧aI w' b6 59 (bo .zero)∧aI w' b9 59 (bo s)∧aI w' nE 77 (az x) ∧
     Own w' w.heap.size 77 3 az s.ag.A s.ag.n s.ag.c z.ag∧Own w' w.heap.size 3 1 bf s.Types.A s.Types.n s.Types.c z.Types∧((f=false ∧ ∀ m,m<5→eK z.ag o t m=false) ∨ ∃ (k:Nat) (hk:k<z.ag.length),f=true∧x=z.ag[k]∧eg z.ag o t (some (k,false))):=⟨_,rfl⟩
    refine CW.wR K ?_ ?_
    ·refine CW.loop (fun u:Nat×Bool×Block=>[(1,.int .i64 o),(2,.int .i64 t),(3,.pointer (some ⟨b3,0,none⟩)),(6,.pointer (some ⟨b6,0,none⟩)),(9,.pointer (some ⟨b9,0,none⟩)),(10,.pointer (some ⟨nE,0,none⟩)),(11,.bool u.2.1),(12,.int .i64 (o+(u.1:Int)))])
      (fun u w'=>Ext w w'∧aI w' b3 59 (bo r)∧aI w' b6 59 (bo .zero)∧aI w' b9 59 (bo s)∧aI w' nE 77 (az u.2.2)∧Own w' w.heap.size 77 3 az s.ag.A s.ag.n s.ag.c z.ag∧Own w' w.heap.size 3 1 bf s.Types.A s.Types.n s.Types.c z.Types∧(u.1:Int)≤5-o ∧
        ((u.2.1=false ∧ ∀ m,m<u.1→eK z.ag o t m=false) ∨ ∃ (k:Nat) (hk:k<z.ag.length),u.2.1=true∧u.2.2=z.ag[k]∧eg z.ag o t (some (k,false)))) (fun u=>if u.2.1=true then 0 else 7-u.1) (0,false,⟨0,0,0⟩)
      ⟨rfl,rfl,rfl,rfl,rfl,rfl,rfl,congrArg (fun z=>some (Value.int .i64 z)) (by simp),trivial⟩ ⟨hw,ar,ax,bl,aW,hX,hT,by simp only;omega,.inl ⟨rfl,fun m h=>by simp only at h;omega⟩⟩ ?_
     clear hw ar ax bl aW hX hT;rintro ⟨j,f,x⟩ w' ⟨hw,ar,ax,bl,aW,hX,hT,hj,hI⟩
     simp only at aW hj hI ⊢;rcases hI with ⟨rfl,hI⟩|⟨k,hk,rfl,FM,hP⟩
     ·by_cases hp:o+(j:Int)≤4
      ·have CJ:j<5:=by omega
       have Gm:=wZ (l:=z.ag) (o:=o) (t:=t) CJ hp;cases dO:z.ag.any (gk (o+(j:Int)) t)
       ·have c2:=Ji (o+(j:Int)) t dO;repeat' (first|refine Wz ?_|(refine CW.bG rfl ?_)|(refine SW.call rfl rfl (c2 _ hX.sl) ?_;intro v w1 ab hv;subst hv;replace hw:=Ext.trans hw ab;replace ar:=ar.ext ab;replace ax:=ax.ext ab;replace bl:=bl.ext ab;replace aW:=aW.ext ab;replace hX:=hX.ext ab;replace hT:=hT.ext ab;clear ab))
        refine SW.ap aW rfl rfl rfl rfl (fO.one (enc:=az) ⟨0,0,0⟩) fun w6 iQ hg => ?_
        have hG:=aW.gr hg;replace hw:=hw.own yg hg;replace hX:=hX.grown hg (.inr pH);(replace ar:=ar.ay hG rfl;replace ax:=ax.ay hG rfl;replace bl:=bl.ay hG rfl;replace hT:=hT.ay hG rfl);refine Wz ?_;refine ae.again (j+1,false,⟨0,0,0⟩) ⟨rfl,rfl,rfl,rfl,rfl,rfl,rfl,congrArg (fun z=>some (Value.int .i64 z)) (by simp only;omega),trivial⟩ (by simp<;>omega) ⟨hw,ar,ax,bl,iQ,hX,hT,by simp only;omega,.inl ⟨rfl,fun m h => ?_⟩⟩;simp only at h;by_cases e:m=j
        ·subst e;rw [Gm,dO]
        ·exact hI m (by omega)
       ·obtain ⟨k,hk,ym,mO,rE⟩:=nA dO;obtain ⟨y,hy⟩ : ∃ y,z.ag[k]=y:=⟨_,rfl⟩;have c2:=Jj (o+(j:Int)) t k hk y hy ym mO;repeat' (first|refine Wz ?_|(refine CW.bG rfl ?_)|(refine SW.call rfl rfl (c2 _ hX.sl) ?_;intro v w1 ab hv;subst hv;replace hw:=Ext.trans hw ab;replace ar:=ar.ext ab;replace ax:=ax.ext ab;replace bl:=bl.ext ab;replace aW:=aW.ext ab;replace hX:=hX.ext ab;replace hT:=hT.ext ab;clear ab))
        refine SW.ap aW rfl rfl rfl rfl (fO.one (enc:=az) y) fun w6 iQ hg => ?_
        have hG:=aW.gr hg;replace hw:=hw.own yg hg;replace hX:=hX.grown hg (.inr pH);(replace ar:=ar.ay hG rfl;replace ax:=ax.ay hG rfl;replace bl:=bl.ay hG rfl;replace hT:=hT.ay hG rfl)
        have hP:eg z.ag o t (some (k,false)):=by
         have:=eg.hit (l:=z.ag) (o:=o) (t:=t) (n:=j) (k:=k) (by omega) (by rw [Gm,dO]) hI hk (by rw [lY CJ,sk CJ];exact ym) (by rw [lY CJ,sk CJ];exact mO)
         rwa [decide_eq_false (by omega)] at this
        refine Wz ?_;exact ae.again (j+1,true,y) ⟨rfl,rfl,rfl,rfl,rfl,rfl,rfl,congrArg (fun z=>some (Value.int .i64 z)) (by simp only;omega),trivial⟩ (by simp<;>omega) ⟨hw,ar,ax,bl,iQ,hX,hT,by simp only;omega,.inr ⟨k,hk,rfl,hy.symm,hP⟩⟩
      ·refine Wz ?_
       have Gp:∀ m,m<5→eK z.ag o t m=false:=fun m hm=>by
        by_cases e:m<j
        ·exact hI m e
        ·exact sq (by rw [lY hm];omega)
       exact ae.kz (K:=K) (by rw [hK];exact ⟨false,x,⟨rfl,rfl,rfl,rfl,rfl,rfl,rfl,trivial⟩,hw,ar,ax,bl,aW,hX,hT,.inl ⟨rfl,Gp⟩⟩)
     ·by_cases hp:o+(j:Int)≤4
      all_goals
       repeat' (first|refine Wz ?_|(refine CW.bA rfl ?_))
       exact ae.kz (K:=K) (by rw [hK];exact ⟨true,x,⟨rfl,rfl,rfl,rfl,rfl,rfl,rfl,trivial⟩,hw,ar,ax,bl,aW,hX,hT,.inr ⟨k,hk,rfl,FM,hP⟩⟩)
    ·clear hw ar ax bl aW hX hT;subst hK;rintro L' w' ⟨f0,x0,fe,hw,ar,ax,bl,aW,hX,hT,CK⟩
     refine ae.sub fe ?_;clear fe;refine Wz ?_
     obtain ⟨K,hK⟩ : ∃ K:Env→World→Prop,K=fun L' w' => ∃ (f:Bool) (x:Block) (F:List Block) (T:List Int),eE L' [(1,.int .i64 o),(2,.int .i64 t),(3,.pointer (some ⟨b3,0,none⟩)),(6,.pointer (some ⟨b6,0,none⟩)),(9,.pointer (some ⟨b9,0,none⟩)),(10,.pointer (some ⟨nE,0,none⟩)),(11,.bool f)]∧Ext w w'∧aI w' b3 59 (bo r)∧aI w' b6 59 (bo .zero)∧aI w' b9 59 (bo s)∧aI w' nE 77 (az x) ∧
      Own w' w.heap.size 77 3 az s.ag.A s.ag.n s.ag.c F∧Own w' w.heap.size 3 1 bf s.Types.A s.Types.n s.Types.c T∧((f=false ∧ ∀ m,m<15→eK z.ag o t m=false) ∨ ∃ (k:Nat) (st:Bool) (hk:k<z.ag.length),f=true∧x=⟨z.ag[k].At,z.ag[k].Order,k6 z t st z.ag[k]⟩∧eg z.ag o t (some (k,st))∧F=eQ z z.ag[k] t st∧T=if st=true then dD z z.ag[k] t else z.Types):=⟨_,rfl⟩
     refine CW.wR K ?_ ?_
     ·refine CW.loop (fun u:Nat×Bool×Block×List Block×List Int=>[(1,.int .i64 o),(2,.int .i64 t),(3,.pointer (some ⟨b3,0,none⟩)),(6,.pointer (some ⟨b6,0,none⟩)),(9,.pointer (some ⟨b9,0,none⟩)),(10,.pointer (some ⟨nE,0,none⟩)),(11,.bool u.2.1),(13,.int .i64 (4-(u.1:Int)))])
       (fun u w'=>Ext w w'∧aI w' b3 59 (bo r)∧aI w' b6 59 (bo .zero)∧aI w' b9 59 (bo s)∧aI w' nE 77 (az u.2.2.1)∧Own w' w.heap.size 77 3 az s.ag.A s.ag.n s.ag.c u.2.2.2.1∧Own w' w.heap.size 3 1 bf s.Types.A s.Types.n s.Types.c u.2.2.2.2∧(u.1:Int)≤5-o ∧
         ((u.2.1=false∧(∀ m,m<5+2*u.1→eK z.ag o t m=false)∧u.2.2.2.1=z.ag∧u.2.2.2.2=z.Types) ∨ ∃ (k:Nat) (st:Bool) (hk:k<z.ag.length),u.2.1=true∧u.2.2.1=⟨z.ag[k].At,z.ag[k].Order,k6 z t st z.ag[k]⟩∧eg z.ag o t (some (k,st))∧u.2.2.2.1=eQ z z.ag[k] t st∧u.2.2.2.2=if st=true then dD z z.ag[k] t else z.Types)) (fun u=>if u.2.1=true then 0 else 7-u.1) (0,f0,x0,z.ag,z.Types)
       ⟨rfl,rfl,rfl,rfl,rfl,rfl,rfl,rfl,trivial⟩ ⟨hw,ar,ax,bl,aW,hX,hT,by simp only;omega,?_⟩ ?_
      ·rcases CK with ⟨rfl,CK⟩|⟨k,hk,rfl,rfl,hP⟩
       ·exact .inl ⟨rfl,fun m h=>CK m (by simp only at h;omega),rfl,rfl⟩
       ·exact .inr ⟨k,false,hk,rfl,by simp [k6],hP,rfl,rfl⟩
      clear hw ar ax bl aW hX hT CK;rintro ⟨j,f,x,F,T⟩ w' ⟨hw,ar,ax,bl,aW,hX,hT,hj,hI⟩
      simp only at aW hX hT hj hI ⊢;rcases hI with ⟨rfl,hI,rfl,rfl⟩|⟨k,st,hk,rfl,FM,hP,hF,Ex⟩
      ·by_cases hp:o≤4-(j:Int)
       ·have Hv:=xa (l:=z.ag) (t:=t) hp;have Ey:=xb (l:=z.ag) (t:=t) hp;repeat' (first|refine Wz ?_|(refine CW.bG rfl ?_))
        refine SW.call rfl rfl (tz t _ nz) fun v w4 aj hv => ?_
        obtain ⟨U,rfl,hU⟩:=hv;replace hU:=hU.low hw.size;(replace hw:=Ext.trans hw aj;replace ar:=ar.ext aj;replace ax:=ax.ext aj;replace bl:=bl.ext aj;replace aW:=aW.ext aj;replace hX:=hX.ext aj;replace hT:=hT.ext aj);refine Wz ?_
        obtain ⟨K2,Hh⟩ : ∃ K2:Env→World→Prop,K2=fun L' w' => ∃ (f:Bool) (x:Block),eE L' [(1,.int .i64 o),(2,.int .i64 t),(3,.pointer (some ⟨b3,0,none⟩)),(6,.pointer (some ⟨b6,0,none⟩)),(9,.pointer (some ⟨b9,0,none⟩)),(10,.pointer (some ⟨nE,0,none⟩)),(11,.bool f),(13,.int .i64 (4-(j:Int)))]∧Ext w w'∧aI w' b3 59 (bo r)∧aI w' b6 59 (bo .zero)∧aI w' b9 59 (bo s)∧aI w' nE 77 (az x) ∧
         Own w' w.heap.size 77 3 az s.ag.A s.ag.n s.ag.c z.ag∧Own w' w.heap.size 3 1 bf s.Types.A s.Types.n s.Types.c z.Types∧((f=false ∧ ∀ m,m<5+2*(j+1)→eK z.ag o t m=false) ∨ ∃ (k:Nat) (hk:k<z.ag.length),f=true∧x=z.ag[k]∧z.ag[k].Order=4-(j:Int)∧eg z.ag o t (some (k,true))):=⟨_,rfl⟩
        refine CW.wR K2 ?_ ?_
        ·refine CW.loop (fun u:Nat×Bool×Block=>[(1,.int .i64 o),(2,.int .i64 t),(3,.pointer (some ⟨b3,0,none⟩)),(6,.pointer (some ⟨b6,0,none⟩)),(9,.pointer (some ⟨b9,0,none⟩)),(10,.pointer (some ⟨nE,0,none⟩)),(11,.bool u.2.1),(13,.int .i64 (4-(j:Int))),(14,.slice U 2 2),(15,.int .i64 (u.1:Int))])
          (fun u w'=>u.1≤2∧Ext w w'∧aI w' b3 59 (bo r)∧aI w' b6 59 (bo .zero)∧aI w' b9 59 (bo s)∧aI w' nE 77 (az u.2.2)∧Own w' w.heap.size 77 3 az s.ag.A s.ag.n s.ag.c z.ag∧Own w' w.heap.size 3 1 bf s.Types.A s.Types.n s.Types.c z.Types∧Own w' w.heap.size 3 1 bf U 2 2 [mV t,mW t] ∧
            ((u.2.1=false ∧ ∀ m,m<5+2*j+u.1→eK z.ag o t m=false) ∨ ∃ (k:Nat) (hk:k<z.ag.length),u.2.1=true∧u.2.2=z.ag[k]∧z.ag[k].Order=4-(j:Int)∧eg z.ag o t (some (k,true)))) (fun u=>if u.2.1=true then 0 else 7-u.1) (0,false,x)
          ⟨rfl,rfl,rfl,rfl,rfl,rfl,rfl,rfl,rfl,rfl,trivial⟩ ⟨by simp only;omega,hw,ar,ax,bl,aW,hX,hT,hU,.inl ⟨rfl,hI⟩⟩ ?_
         clear hw ar ax bl aW hX hT hU hI;rintro ⟨v,f,x⟩ w' ⟨L0,hw,ar,ax,bl,aW,hX,hT,hU,hI⟩
         simp only at L0 aW hI ⊢;rcases hI with ⟨rfl,hI⟩|⟨k,hk,rfl,FM,FR,hP⟩
         ·rcases (show v=0∨v=1∨v=2 by omega) with rfl|rfl|rfl
          ·have hV : 0<2:=by omega
           have Oi:=hU.sl.base;cases dO:z.ag.any (gk (4-(j:Int)) (mV t))
           ·have c2:=Ji (4-(j:Int)) (mV t) dO;repeat' (first|refine Wz ?_|(refine CW.bG rfl ?_))
            refine CW.jf 11 12 (fun _=>True) mixed (by kernel_rfl) fun w1 ab aG => ?_
            replace hw:=Ext.trans hw ab;replace ar:=ar.ext ab;replace ax:=ax.ext ab;replace bl:=bl.ext ab;replace aW:=aW.ext ab;replace hX:=hX.ext ab;replace hT:=hT.ext ab;replace hU:=hU.ext ab;clear ab;refine Wf ?_;refine SF.take 6 [] [] aG rfl (by kernel_rfl) (by kernel_rfl) (by kernel_rfl) ?_;repeat ((show SW _ _ _ _ (⟨_,Op.load _ _,_,_,_,none⟩::_) _ _;refine SW.st (ak rfl (hU.sl.one hV (u := .int .i64 (mV t)) rfl)) rfl ?_))
            refine SW.ai ?_;refine SF.one 7 rfl (by kernel_rfl) rfl ?_;refine SW.call rfl rfl (c2 _ hX.sl) fun v w4 aj hv => ?_
            subst hv;(replace hw:=Ext.trans hw aj;replace ar:=ar.ext aj;replace ax:=ax.ext aj;replace bl:=bl.ext aj;replace aW:=aW.ext aj;replace hX:=hX.ext aj;replace hT:=hT.ext aj;replace hU:=hU.ext aj);refine SW.nil (ae.sf aj ?_);refine Wf ?_;refine SF.dM 10 [] aG rfl (by kernel_rfl) (by kernel_rfl) (by kernel_rfl) (bd rfl) (fun w2 hS=>bd rfl) rfl ?_;refine SF.turn rfl (by kernel_rfl) rfl ?_;refine SW.ap aW rfl rfl rfl rfl (fO.one (enc:=az) ⟨0,0,0⟩) fun w6 iQ hg => ?_
            have hG:=aW.gr hg;have hS:True:=trivial
            replace hw:=hw.own yg hg;replace hX:=hX.grown hg (.inr pH);(replace ar:=ar.ay hG rfl;replace ax:=ax.ay hG rfl;replace bl:=bl.ay hG rfl;replace hT:=hT.ay hG rfl;replace hU:=hU.ay hG rfl);refine SW.nil (ae.sg hS ?_);refine SG.last rfl (by kernel_rfl) (by kernel_rfl) ?_;refine Wz ?_;refine ae.again (0+1,false,⟨0,0,0⟩) ⟨rfl,rfl,rfl,rfl,rfl,rfl,rfl,rfl,rfl,rfl,trivial⟩ (by simp<;>omega) ⟨by simp only;omega,hw,ar,ax,bl,iQ,hX,hT,hU,.inl ⟨rfl,fun m h => ?_⟩⟩;simp only at h;by_cases e:m=5+2*j+0
            ·subst e;exact Hv.trans dO
            ·exact hI m (by omega)
           ·obtain ⟨k,hk,ym,mO,rE⟩:=nA dO;obtain ⟨y,hy⟩ : ∃ y,z.ag[k]=y:=⟨_,rfl⟩;have c2:=Jj (4-(j:Int)) (mV t) k hk y hy ym mO
            have hP:eg z.ag o t (some (k,true)):=by
             have:=eg.hit (l:=z.ag) (o:=o) (t:=t) (n:=5+2*j+0) (k:=k) (by omega) (Hv.trans dO) hI hk (by have e1:=pa (o:=o) (j:=j);have e2:=sn (t:=t) (j:=j);(try simp only [Nat.add_zero] at *);rw [e1,e2];exact ym) (by have e1:=pa (o:=o) (j:=j);have e2:=sn (t:=t) (j:=j);(try simp only [Nat.add_zero] at *);rw [e1,e2];exact mO)
             rwa [decide_eq_true (by omega)] at this
            have FR:=(lA.1 ym).1;repeat' (first|refine Wz ?_|(refine CW.bG rfl ?_))
            refine CW.jf 11 12 (fun _=>True) mixed (by kernel_rfl) fun w1 ab aG => ?_
            replace hw:=Ext.trans hw ab;replace ar:=ar.ext ab;replace ax:=ax.ext ab;replace bl:=bl.ext ab;replace aW:=aW.ext ab;replace hX:=hX.ext ab;replace hT:=hT.ext ab;replace hU:=hU.ext ab;clear ab;refine Wf ?_;refine SF.take 6 [] [] aG rfl (by kernel_rfl) (by kernel_rfl) (by kernel_rfl) ?_;repeat ((show SW _ _ _ _ (⟨_,Op.load _ _,_,_,_,none⟩::_) _ _;refine SW.st (ak rfl (hU.sl.one hV (u := .int .i64 (mV t)) rfl)) rfl ?_))
            refine SW.ai ?_;refine SF.one 7 rfl (by kernel_rfl) rfl ?_;refine SW.call rfl rfl (c2 _ hX.sl) fun v w4 aj hv => ?_
            subst hv;(replace hw:=Ext.trans hw aj;replace ar:=ar.ext aj;replace ax:=ax.ext aj;replace bl:=bl.ext aj;replace aW:=aW.ext aj;replace hX:=hX.ext aj;replace hT:=hT.ext aj;replace hU:=hU.ext aj);refine SW.nil (ae.sf aj ?_);refine Wf ?_;refine SF.dM 10 [] aG rfl (by kernel_rfl) (by kernel_rfl) (by kernel_rfl) (bd rfl) (fun w2 hS=>bd rfl) rfl ?_;refine SF.turn rfl (by kernel_rfl) rfl ?_;refine SW.ap aW rfl rfl rfl rfl (fO.one (enc:=az) y) fun w6 iQ hg => ?_
            have hG:=aW.gr hg;have hS:True:=trivial
            replace hw:=hw.own yg hg;replace hX:=hX.grown hg (.inr pH);(replace ar:=ar.ay hG rfl;replace ax:=ax.ay hG rfl;replace bl:=bl.ay hG rfl;replace hT:=hT.ay hG rfl;replace hU:=hU.ay hG rfl);refine SW.nil (ae.sg hS ?_);refine SG.last rfl (by kernel_rfl) (by kernel_rfl) ?_;refine Wz ?_;exact ae.again (0+1,true,y) ⟨rfl,rfl,rfl,rfl,rfl,rfl,rfl,rfl,rfl,rfl,trivial⟩ (by simp<;>omega) ⟨by simp only;omega,hw,ar,ax,bl,iQ,hX,hT,hU,.inr ⟨k,hk,rfl,hy.symm,FR,hP⟩⟩
          ·have hV : 1<2:=by omega
           have Oi:=hU.sl.base;cases dO:z.ag.any (gk (4-(j:Int)) (mW t))
           ·have c2:=Ji (4-(j:Int)) (mW t) dO;repeat' (first|refine Wz ?_|(refine CW.bG rfl ?_))
            refine CW.jf 11 12 (fun _=>True) mixed (by kernel_rfl) fun w1 ab aG => ?_
            replace hw:=Ext.trans hw ab;replace ar:=ar.ext ab;replace ax:=ax.ext ab;replace bl:=bl.ext ab;replace aW:=aW.ext ab;replace hX:=hX.ext ab;replace hT:=hT.ext ab;replace hU:=hU.ext ab;clear ab;refine Wf ?_;refine SF.take 6 [] [] aG rfl (by kernel_rfl) (by kernel_rfl) (by kernel_rfl) ?_;repeat ((show SW _ _ _ _ (⟨_,Op.load _ _,_,_,_,none⟩::_) _ _;refine SW.st (ak rfl (hU.sl.one hV (u := .int .i64 (mW t)) rfl)) rfl ?_))
            refine SW.ai ?_;refine SF.one 7 rfl (by kernel_rfl) rfl ?_;refine SW.call rfl rfl (c2 _ hX.sl) fun v w4 aj hv => ?_
            subst hv;(replace hw:=Ext.trans hw aj;replace ar:=ar.ext aj;replace ax:=ax.ext aj;replace bl:=bl.ext aj;replace aW:=aW.ext aj;replace hX:=hX.ext aj;replace hT:=hT.ext aj;replace hU:=hU.ext aj);refine SW.nil (ae.sf aj ?_);refine Wf ?_;refine SF.dM 10 [] aG rfl (by kernel_rfl) (by kernel_rfl) (by kernel_rfl) (bd rfl) (fun w2 hS=>bd rfl) rfl ?_;refine SF.turn rfl (by kernel_rfl) rfl ?_;refine SW.ap aW rfl rfl rfl rfl (fO.one (enc:=az) ⟨0,0,0⟩) fun w6 iQ hg => ?_
            have hG:=aW.gr hg;have hS:True:=trivial
            replace hw:=hw.own yg hg;replace hX:=hX.grown hg (.inr pH);(replace ar:=ar.ay hG rfl;replace ax:=ax.ay hG rfl;replace bl:=bl.ay hG rfl;replace hT:=hT.ay hG rfl;replace hU:=hU.ay hG rfl);refine SW.nil (ae.sg hS ?_);refine SG.last rfl (by kernel_rfl) (by kernel_rfl) ?_;refine Wz ?_;refine ae.again (1+1,false,⟨0,0,0⟩) ⟨rfl,rfl,rfl,rfl,rfl,rfl,rfl,rfl,rfl,rfl,trivial⟩ (by simp<;>omega) ⟨by simp only;omega,hw,ar,ax,bl,iQ,hX,hT,hU,.inl ⟨rfl,fun m h => ?_⟩⟩;simp only at h;by_cases e:m=5+2*j+1
            ·subst e;exact Ey.trans dO
            ·exact hI m (by omega)
           ·obtain ⟨k,hk,ym,mO,rE⟩:=nA dO;obtain ⟨y,hy⟩ : ∃ y,z.ag[k]=y:=⟨_,rfl⟩;have c2:=Jj (4-(j:Int)) (mW t) k hk y hy ym mO
            have hP:eg z.ag o t (some (k,true)):=by
             have:=eg.hit (l:=z.ag) (o:=o) (t:=t) (n:=5+2*j+1) (k:=k) (by omega) (Ey.trans dO) hI hk (by have e1:=pb (o:=o) (j:=j);have e2:=so (t:=t) (j:=j);(try simp only [Nat.add_zero] at *);rw [e1,e2];exact ym) (by have e1:=pb (o:=o) (j:=j);have e2:=so (t:=t) (j:=j);(try simp only [Nat.add_zero] at *);rw [e1,e2];exact mO)
             rwa [decide_eq_true (by omega)] at this
            have FR:=(lA.1 ym).1;repeat' (first|refine Wz ?_|(refine CW.bG rfl ?_))
            refine CW.jf 11 12 (fun _=>True) mixed (by kernel_rfl) fun w1 ab aG => ?_
            replace hw:=Ext.trans hw ab;replace ar:=ar.ext ab;replace ax:=ax.ext ab;replace bl:=bl.ext ab;replace aW:=aW.ext ab;replace hX:=hX.ext ab;replace hT:=hT.ext ab;replace hU:=hU.ext ab;clear ab;refine Wf ?_;refine SF.take 6 [] [] aG rfl (by kernel_rfl) (by kernel_rfl) (by kernel_rfl) ?_;repeat ((show SW _ _ _ _ (⟨_,Op.load _ _,_,_,_,none⟩::_) _ _;refine SW.st (ak rfl (hU.sl.one hV (u := .int .i64 (mW t)) rfl)) rfl ?_))
            refine SW.ai ?_;refine SF.one 7 rfl (by kernel_rfl) rfl ?_;refine SW.call rfl rfl (c2 _ hX.sl) fun v w4 aj hv => ?_
            subst hv;(replace hw:=Ext.trans hw aj;replace ar:=ar.ext aj;replace ax:=ax.ext aj;replace bl:=bl.ext aj;replace aW:=aW.ext aj;replace hX:=hX.ext aj;replace hT:=hT.ext aj;replace hU:=hU.ext aj);refine SW.nil (ae.sf aj ?_);refine Wf ?_;refine SF.dM 10 [] aG rfl (by kernel_rfl) (by kernel_rfl) (by kernel_rfl) (bd rfl) (fun w2 hS=>bd rfl) rfl ?_;refine SF.turn rfl (by kernel_rfl) rfl ?_;refine SW.ap aW rfl rfl rfl rfl (fO.one (enc:=az) y) fun w6 iQ hg => ?_
            have hG:=aW.gr hg;have hS:True:=trivial
            replace hw:=hw.own yg hg;replace hX:=hX.grown hg (.inr pH);(replace ar:=ar.ay hG rfl;replace ax:=ax.ay hG rfl;replace bl:=bl.ay hG rfl;replace hT:=hT.ay hG rfl;replace hU:=hU.ay hG rfl);refine SW.nil (ae.sg hS ?_);refine SG.last rfl (by kernel_rfl) (by kernel_rfl) ?_;refine Wz ?_;exact ae.again (1+1,true,y) ⟨rfl,rfl,rfl,rfl,rfl,rfl,rfl,rfl,rfl,rfl,trivial⟩ (by simp<;>omega) ⟨by simp only;omega,hw,ar,ax,bl,iQ,hX,hT,hU,.inr ⟨k,hk,rfl,hy.symm,FR,hP⟩⟩
          ·refine Wz ?_;exact ae.kz (K:=K2) (by rw [Hh];exact ⟨false,x,⟨rfl,rfl,rfl,rfl,rfl,rfl,rfl,rfl,trivial⟩,hw,ar,ax,bl,aW,hX,hT,.inl ⟨rfl,fun m h=>hI m (by omega)⟩⟩)
         ·rcases (show v<2∨v=2 by omega) with Bq|Bq
          all_goals
           repeat' (first|refine Wz ?_|(refine CW.bA rfl ?_))
           exact ae.kz (K:=K2) (by rw [Hh];exact ⟨true,x,⟨rfl,rfl,rfl,rfl,rfl,rfl,rfl,rfl,trivial⟩,hw,ar,ax,bl,aW,hX,hT,.inr ⟨k,hk,rfl,FM,FR,hP⟩⟩)
        ·clear hw ar ax bl aW hX hT hU hI Hv Ey;subst Hh;rintro L' w' ⟨f,x,fe,hw,ar,ax,bl,aW,hX,hT,hI⟩
         refine ae.sub fe ?_;clear fe Ji Jj;rcases hI with ⟨rfl,hI⟩|⟨k,hk,rfl,rfl,FR,hP⟩
         ·refine Wz ?_;exact ae.again (j+1,false,x,z.ag,z.Types) ⟨rfl,rfl,rfl,rfl,rfl,rfl,rfl,congrArg (fun z=>some (Value.int .i64 z)) (by simp only;omega),trivial⟩ (by simp<;>omega) ⟨hw,ar,ax,bl,aW,hX,hT,by simp only;omega,.inl ⟨rfl,hI,rfl,rfl⟩⟩
         ·by_cases J9 : 4-(j:Int)<2
          ·obtain ⟨q1,q2,q3⟩:=BO (z:=z) (b:=z.ag[k]) (t:=t) (st:=true) (by omega);refine Wz ?_;exact ae.again (j+1,true,z.ag[k],z.ag,z.Types) ⟨rfl,rfl,rfl,rfl,rfl,rfl,rfl,congrArg (fun z=>some (Value.int .i64 z)) (by simp only;omega),trivial⟩ (by simp<;>omega) ⟨hw,ar,ax,bl,aW,hX,hT,by simp only;omega,.inr ⟨k,true,hk,rfl,by simp only [q3],hP,q1.symm,q2.symm⟩⟩
          ·have Oj : 2≤4-(j:Int):=by omega
           obtain ⟨⟨f1,f2,f3,f4,f5⟩,f6⟩:=hz.cV k hk
           have kR:∃ (k':Nat) (st:Bool) (oV:k'<z.ag.length),(⟨z.ag[k].At,z.ag[k].Order,t⟩ : Block)=⟨z.ag[k'].At,z.ag[k'].Order,k6 z t st z.ag[k']⟩∧eg z.ag o t (some (k',st))∧eJ z.ag z.ag[k] t=eQ z z.ag[k'] t st∧dD z z.ag[k] t=if st=true then dD z z.ag[k'] t else z.Types :=
            ⟨k,true,hk,by unfold k6;rw [if_pos ⟨rfl,by omega⟩],hP,rfl,rfl⟩
           obtain ⟨x,hx⟩ : ∃ x,z.ag[k]=x:=⟨_,rfl⟩;simp only [hx] at FR f1 f2 f3 f4 f5 aW kR;have cP:∀ w',bt Tryz.prog 81 [.int .i64 (4-(j:Int))] w' fun v _=>v = .int .i64 (pw x.Order):=fun w'=>by rw [FR];exact dh _ (by omega) w'
           have KX:=bH f1 f2;obtain ⟨pW,Fw⟩:=Hg (b:=x) (by omega) f2 f5;have Ok:∀ c:Nat,(x.At / 8*8+8*(c:Int)-z.aV) / 8=((jB z x+c:Nat) : Int):=fun c=>by unfold jB;omega
           have AH:∀ c:Nat,c<Ca x→jB z x+c<s.Types.n:=fun c hc=>by
            unfold Ca at hc;unfold jB;have hlen:=hz.len;rcases dZ f1 f2 with ⟨e1,e2⟩|⟨e1,e2⟩|⟨e1,e2⟩|⟨e1,e2⟩|⟨e1,e2⟩<;>rw [e2] at f5<;>split at hc<;>omega
           have tT:Ca x≤2:=by unfold Ca;split<;>omega
           repeat' (first|refine Wz ?_|((apply CW.aP mixed;(· kernel_rfl);rotate_left;intro w1 ab;replace hw:=Ext.trans hw ab;replace ar:=ar.ext ab;replace ax:=ax.ext ab;replace bl:=bl.ext ab;replace aW:=aW.ext ab;replace hX:=hX.ext ab;replace hT:=hT.ext ab;clear ab;rotate_right))|refine SW.bq rfl rfl (fun w1 ab=>(cP _)) ?_|exact SW.bx rfl)
           refine CW.loop (fun c:Nat=>[(1,.int .i64 o),(2,.int .i64 t),(3,.pointer (some ⟨b3,0,none⟩)),(6,.pointer (some ⟨b6,0,none⟩)),(9,.pointer (some ⟨b9,0,none⟩)),(10,.pointer (some ⟨nE,0,none⟩)),(11,.bool true),(13,.int .i64 (4-(j:Int))),(16,.int .i64 (x.At / 8*8)),(17,.int .i64 (mD x-8)),(18,.int .i64 (x.At / 8*8+8*(c:Int)))])
            (fun c w'=>c≤Ca x∧Ext w w'∧aI w' b3 59 (bo r)∧aI w' b6 59 (bo .zero)∧aI w' b9 59 (bo s)∧aI w' nE 77 (az x) ∧
              Own w' w.heap.size 77 3 az s.ag.A s.ag.n s.ag.c z.ag∧Own w' w.heap.size 3 1 bf s.Types.A s.Types.n s.Types.c (BM z.Types (jB z x) t c)) (fun c=>Ca x-c) 0
            ⟨rfl,rfl,rfl,rfl,rfl,rfl,rfl,rfl,rfl,congrArg (fun z=>some (Value.int .i64 z)) pW,congrArg (fun z=>some (Value.int .i64 z)) (by omega),trivial⟩ ⟨by omega,hw,ar,ax,bl,aW,hX,hT⟩ ?_
           clear hw ar ax bl aW hX hT;rintro c w' ⟨hc,hw,ar,ax,bl,aW,hX,hT⟩
           by_cases MG:c<Ca x
           ·have Na:=Ok c;have ck:=AH c MG;have M8:=hT.sl.base;repeat' (first|refine Wz ?_|refine SW.st (aZ (jB z x+c) rfl rfl (by assumption) (by omega) (by omega)) rfl ?_)
            refine SW.j8 (jB z x+c) hT rfl rfl ck fun w5 Ew hg => ?_
            have hG:=hT.gr hg;replace hw:=aF hw hg (Nat.le_refl _) hT.aL;(replace ar:=ar.ay hG rfl;replace ax:=ax.ay hG rfl;replace bl:=bl.ay hG rfl;replace aW:=aW.ay hG rfl;replace hX:=hX.ay hG rfl);rw [BN (by omega)] at Ew;refine Wz ?_;exact ae.again (c+1) ⟨rfl,rfl,rfl,rfl,rfl,rfl,rfl,rfl,rfl,rfl,congrArg (fun z=>some (Value.int .i64 z)) (by omega),trivial⟩ (by omega) ⟨by omega,hw,ar,ax,bl,aW,hX,Ew⟩
           ·obtain rfl:c=Ca x:=by omega
            rw [DP (by omega)] at hT;refine Wz ?_;obtain ⟨f,hf⟩ : ∃ f,B3 (x.At / 8*8) (mD x) t=f:=⟨_,rfl⟩
            refine CW.loop (fun i:Nat=>[(1,.int .i64 o),(2,.int .i64 t),(3,.pointer (some ⟨b3,0,none⟩)),(6,.pointer (some ⟨b6,0,none⟩)),(9,.pointer (some ⟨b9,0,none⟩)),(10,.pointer (some ⟨nE,0,none⟩)),(11,.bool true),(13,.int .i64 (4-(j:Int))),(16,.int .i64 (x.At / 8*8)),(17,.int .i64 (mD x-8)),(19,.int .i64 (i:Int))])
             (fun i w'=>i≤s.ag.n∧Ext w w'∧aI w' b3 59 (bo r)∧aI w' b6 59 (bo .zero)∧aI w' b9 59 (bo s)∧aI w' nE 77 (az x) ∧
               Own w' w.heap.size 77 3 az s.ag.A s.ag.n s.ag.c (jb f z.ag i)∧Own w' w.heap.size 3 1 bf s.Types.A s.Types.n s.Types.c (dD z x t)) (fun i=>s.ag.n-i) 0
             ⟨rfl,rfl,rfl,rfl,rfl,rfl,rfl,rfl,rfl,rfl,rfl,trivial⟩ ⟨by omega,hw,ar,ax,bl,aW,by rw [su];exact hX,hT⟩ ?_
            clear hw ar ax bl aW hX hT hc MG;rintro i w' ⟨hi,hw,ar,ax,bl,aW,hX,hT⟩
            have hA:=hX.sl.base;by_cases ck:i<s.ag.n
            ·have kM:i<z.ag.length:=by omega
             obtain ⟨g1,g2,g3,g4,g5⟩:=(hz.cV i kM).1;obtain ⟨y,hy⟩ : ∃ y,z.ag[i]=y:=⟨_,rfl⟩;have k7:=p9 (f:=f) kM;rw [hy] at g1 g2 g3 g4 g5 k7;have Nb:=bH g1 g2;have y0:∀ w2,Own w2 w.heap.size 77 3 az s.ag.A s.ag.n s.ag.c (jb f z.ag i)→w2.cell? (((s.ag.A.getD default).add (i*3)).add 0)=some (.int .i64 y.At):=fun w2 h=>h.sl.dA ck (by rw [k7];rfl)
             have y1:∀ w2,Own w2 w.heap.size 77 3 az s.ag.A s.ag.n s.ag.c (jb f z.ag i)→w2.cell? (((s.ag.A.getD default).add (i*3)).add 1)=some (.int .i64 y.Order):=fun w2 h=>h.sl.dA ck (by rw [k7];rfl)
             have cY:∀ w',bt Tryz.prog 81 [.int .i64 y.Order] w' fun v _=>v = .int .i64 (pw y.Order):=fun w'=>dh _ (by omega) w'
             by_cases xd:x.At / 8*8≤y.At∧y.At+pw y.Order≤mD x
             ·have Gn:f y=⟨y.At,y.Order,t⟩:=by rw [← hf];unfold B3;rw [if_pos xd]
              repeat' (first|refine Wz ?_|((apply CW.aP mixed;(· kernel_rfl);rotate_left;intro w1 ab;replace hw:=Ext.trans hw ab;replace ar:=ar.ext ab;replace ax:=ax.ext ab;replace bl:=bl.ext ab;replace aW:=aW.ext ab;replace hX:=hX.ext ab;replace hT:=hT.ext ab;clear ab;rotate_right))|refine SW.st (ak rfl (y0 _ hX)) rfl ?_|refine SW.st (ak rfl (y1 _ hX)) rfl ?_|refine SW.bq rfl rfl (fun w1 ab=>(bK _ _ _ _)) ?_|refine SW.bq rfl rfl (fun w1 ab=>(cY _)) ?_|exact SW.bx rfl)
              all_goals try omega
              refine SW.ig i 2 ⟨y.At,y.Order,t⟩ hX rfl rfl rfl ck (by decide) rfl (by rw [k7];rfl) fun w5 tJ hg => ?_
              have hG:=hX.gr hg;replace hw:=aF hw hg (Nat.le_refl _) hX.aL;replace aW:=aW.grown hg (fun e=>pH e.symm);(replace ar:=ar.ay hG rfl;replace ax:=ax.ay hG rfl;replace bl:=bl.ay hG rfl;replace hT:=hT.ay hG rfl);rw [← Gn,← hy,qa kM] at tJ;refine Wz ?_;exact ae.again (i+1) ⟨rfl,rfl,rfl,rfl,rfl,rfl,rfl,rfl,rfl,rfl,rfl,trivial⟩ (by omega) ⟨by omega,hw,ar,ax,bl,aW,tJ,hT⟩
             ·have Gn:f y=y:=by rw [← hf];unfold B3;rw [if_neg xd]
              have Fq:=ss (f:=f) kM (by rw [hy];exact Gn);obtain ⟨bI,MH⟩ : ∃ bI,decide (x.At / 8*8≤y.At∧y.At≤mD x-8+7)=bI:=⟨_,rfl⟩
              have cI:∀ w',bt Tryz.prog 20 [.int .i64 y.At,.int .i64 (x.At / 8*8),.int .i64 (mD x-8+7)] w' fun v _=>v = .bool bI:=fun w'=>by
               have:=bK y.At (x.At / 8*8) (mD x-8+7) w'
               rwa [MH] at this
              cases bI
              ·repeat' (first|refine Wz ?_|((apply CW.aP mixed;(· kernel_rfl);rotate_left;intro w1 ab;replace hw:=Ext.trans hw ab;replace ar:=ar.ext ab;replace ax:=ax.ext ab;replace bl:=bl.ext ab;replace aW:=aW.ext ab;replace hX:=hX.ext ab;replace hT:=hT.ext ab;clear ab;rotate_right))|refine SW.st (ak rfl (y0 _ hX)) rfl ?_|refine SW.bq rfl rfl (fun w1 ab=>(cI _)) ?_|exact SW.bx rfl)
               exact ae.again (i+1) ⟨rfl,rfl,rfl,rfl,rfl,rfl,rfl,rfl,rfl,rfl,rfl,trivial⟩ (by omega) ⟨by omega,hw,ar,ax,bl,aW,by rw [Fq];exact hX,hT⟩
              ·have O0:=of_decide_eq_true MH;repeat' (first|refine Wz ?_|((apply CW.aP mixed;(· kernel_rfl);rotate_left;intro w1 ab;replace hw:=Ext.trans hw ab;replace ar:=ar.ext ab;replace ax:=ax.ext ab;replace bl:=bl.ext ab;replace aW:=aW.ext ab;replace hX:=hX.ext ab;replace hT:=hT.ext ab;clear ab;rotate_right))|refine SW.st (ak rfl (y0 _ hX)) rfl ?_|refine SW.st (ak rfl (y1 _ hX)) rfl ?_|refine SW.bq rfl rfl (fun w1 ab=>(cI _)) ?_|refine SW.bq rfl rfl (fun w1 ab=>(cY _)) ?_|exact SW.bx rfl)
               exact ae.again (i+1) ⟨rfl,rfl,rfl,rfl,rfl,rfl,rfl,rfl,rfl,rfl,rfl,trivial⟩ (by omega) ⟨by omega,hw,ar,ax,bl,aW,by rw [Fq];exact hX,hT⟩
            ·obtain rfl:i=s.ag.n:=by omega
             rw [es,uL,← hf] at hX;have zL:Own w' w.heap.size 77 3 az s.ag.A s.ag.n s.ag.c (eJ z.ag x t):=by rw [eJ,if_neg (by omega),es];exact hX
             refine Wz ?_;refine SW.bB (i:=2) aW rfl rfl rfl rfl fun w6 iQ hg => ?_
             have hG:=aW.gr hg;replace hw:=hw.own yg hg;replace zL:=zL.grown hg (.inr pH);(replace ar:=ar.ay hG rfl;replace ax:=ax.ay hG rfl;replace bl:=bl.ay hG rfl;replace hT:=hT.ay hG rfl);refine Wz ?_;exact ae.again (j+1,true,⟨x.At,x.Order,t⟩,eJ z.ag x t,dD z x t) ⟨rfl,rfl,rfl,rfl,rfl,rfl,rfl,congrArg (fun z=>some (Value.int .i64 z)) (by simp only;omega),trivial⟩ (by simp<;>omega) ⟨hw,ar,ax,bl,iQ,zL,hT,by simp only;omega,.inr (by obtain ⟨k',st,oV,e1,e2,e3,e4⟩:=kR;exact ⟨k',st,oV,rfl,e1,e2,e3,e4⟩)⟩
       ·refine Wz ?_
        have Gp:∀ m,m<15→eK z.ag o t m=false:=fun m hm=>by
         by_cases e:m<5+2*j
         ·exact hI m e
         ·exact xc (j:=j) (by omega) (by omega)
        exact ae.kz (K:=K) (by rw [hK];exact ⟨false,x,z.ag,z.Types,⟨rfl,rfl,rfl,rfl,rfl,rfl,rfl,trivial⟩,hw,ar,ax,bl,aW,hX,hT,.inl ⟨rfl,Gp⟩⟩)
      ·by_cases hp:o≤4-(j:Int)
       all_goals
        repeat' (first|refine Wz ?_|(refine CW.bA rfl ?_))
        exact ae.kz (K:=K) (by rw [hK];exact ⟨true,x,F,T,⟨rfl,rfl,rfl,rfl,rfl,rfl,rfl,trivial⟩,hw,ar,ax,bl,aW,hX,hT,.inr ⟨k,st,hk,rfl,FM,hP,hF,Ex⟩⟩)
     ·clear hw ar ax bl aW hX hT CK;subst hK;rintro L' w' ⟨f,x,F,T,fe,hw,ar,ax,bl,aW,hX,hT,hI⟩
      refine ae.sub fe ?_;clear fe Ji Jj;rcases hI with ⟨rfl,hI⟩|⟨k,st,hk,rfl,rfl,hP,rfl,Ex⟩
      ·repeat' (first|refine Wz ?_|(refine CW.bG rfl ?_))
       refine SW.ap ax rfl rfl rfl rfl (cw .zero) fun w5 bL hg => ?_
       replace hw:=hw.own dr hg;refine Wz ?_;exact ae.dB rfl rfl rfl rfl bL rfl ⟨_,rfl,hw,_,.room hq ho nz (.vB hI),ic.zero 6 _ _⟩
      ·obtain ⟨_,Hw,JD⟩:=hP.ord;obtain ⟨l1,l2,l3⟩:=pd hz (b:=z.ag[k]) nz st;have Ez:k<(eQ z z.ag[k] t st).length:=by omega
       have AQ:(eQ z z.ag[k] t st)[k]=⟨z.ag[k].At,z.ag[k].Order,k6 z t st z.ag[k]⟩:=pZ hz nz st hk
       obtain ⟨⟨f1,f2,f3,f4,f5⟩,f6⟩:=hz.cV k hk;have iT:fV z o t (mY z o t z.ag[k] k st,z.ag[k].At,0) := .ok hq ho nz hk hP
       have hJ:=pY l2 l3 Ez;have Ht:(eQ z z.ag[k] t st).eraseIdx k=da (eQ z z.ag[k] t st) z.ag[k].At z.ag[k].Order:=nX l2 l3 Ez (by rw [AQ]) (by rw [AQ])
       rw [AQ] at hJ;have Cp:fy (k6 z t st z.ag[k]):=by unfold k6;split<;>assumption
       obtain ⟨ty,Gq⟩ : ∃ ty,k6 z t st z.ag[k]=ty:=⟨_,rfl⟩
       have Il:mY z o t z.ag[k] k st=⟨z.aV,z.To,ji ty z.ag[k].At (z.ag[k].Order-o).toNat z.ag[k].Order ((eQ z z.ag[k] t st).eraseIdx k),T⟩:=by
        rw [Ex,← Gq];rfl
       rw [Il] at iT;rw [Gq] at aW Cp;clear Il Gq Ex hP AQ l2 l3;obtain ⟨F,hF⟩ : ∃ F,eQ z z.ag[k] t st=F:=⟨_,rfl⟩;simp only [hF] at hX l1 Ez hJ iT Ht;obtain ⟨x,hx⟩ : ∃ x,z.ag[k]=x:=⟨_,rfl⟩;simp only [hx] at hJ iT f1 f2 f3 f4 f5 Hw JD Ht aW;clear f6;repeat' (first|refine Wz ?_|(refine CW.bA rfl ?_))
       refine SW.call rfl rfl (qE s.ag.A s.ag.n s.ag.c F x.At x.Order _ hX.sl (by omega)) fun v w5 aj hv => ?_
       obtain ⟨B,c',rfl,hW⟩:=hv;rw [← Ht] at hW;rw [← Ht];replace hW:=hW.low hw.size;(replace hw:=Ext.trans hw aj;replace ar:=ar.ext aj;replace ax:=ax.ext aj;replace bl:=bl.ext aj;replace aW:=aW.ext aj;replace hT:=hT.ext aj);clear hX;refine Wz ?_;refine SW.bB (i:=2) bl rfl rfl rfl rfl fun w7 gz hg => ?_
       have hG:=bl.gr hg;replace hw:=hw.own Lr hg;replace ax:=ax.grown hg (by simpa using DQ);(replace aW:=aW.ay hG rfl;replace hW:=hW.ay hG rfl;replace hT:=hT.ay hG rfl);replace bl:aI w7 b9 59 [.int .i64 s.aV,.int .i64 s.To,.slice B (F.eraseIdx k).length c',.slice s.Types.A s.Types.n s.Types.c]:=gz;replace aW:aI w7 nE 77 [.int .i64 x.At,.int .i64 x.Order,.int .i64 ty]:=aW;clear gz hg hG ar;have O1:(F.eraseIdx k).length≤F.length:=List.length_eraseIdx_le F k
       refine Wz ?_;obtain ⟨AS,CL⟩ : ∃ AS,ji ty x.At (x.Order-o).toNat x.Order (F.eraseIdx k)=AS:=⟨_,rfl⟩;rw [CL] at iT
       refine CW.loop (fun u:Int×List Block×Option Addr×Nat=>[(1,.int .i64 o),(6,.pointer (some ⟨b6,0,none⟩)),(9,.pointer (some ⟨b9,0,none⟩)),(10,.pointer (some ⟨nE,0,none⟩)),(20,.int .i64 (u.1-1))])
        (fun u w'=>Ext w w'∧aI w' b9 59 [.int .i64 s.aV,.int .i64 s.To,.slice u.2.2.1 u.2.1.length u.2.2.2,.slice s.Types.A s.Types.n s.Types.c]∧aI w' b6 59 (bo .zero)∧aI w' nE 77 [.int .i64 x.At,.int .i64 x.Order,.int .i64 ty] ∧
          Own w' w.heap.size 77 3 az u.2.2.1 u.2.1.length u.2.2.2 u.2.1∧Own w' w.heap.size 3 1 bf s.Types.A s.Types.n s.Types.c T∧vw z.aV z.To u.2.1 x.At u.1∧o≤u.1∧ji ty x.At (u.1-o).toNat u.1 u.2.1=AS∧(u.2.1.length:Int)+u.1≤300) (fun u=>(u.1-o).toNat) (x.Order,F.eraseIdx k,B,c')
        ⟨rfl,rfl,rfl,rfl,rfl,trivial⟩ ⟨hw,bl,ax,aW,hW,hT,hJ,Hw,CL,by simp only;omega⟩ ?_
       clear hw bl ax aW hW hT hJ;rintro ⟨q,l,A,c⟩ w' ⟨hw,bl,ax,aW,hX,hT,hJ,Km,qY,hlen⟩
       simp only at bl hX hJ Km qY hlen ⊢;have O2:=hJ.fit.2.1;by_cases Nc:o<q
       ·obtain ⟨k1,k2,k3,k4,k5⟩:=hJ.fit;obtain ⟨iW,Ip⟩:=sr hJ o1 o3 o5 (by omega) Cp;rw [show (q-o).toNat=(q-1-o).toNat+1 by omega,ji] at qY;have Fj:=bH (o:=q-1) (by omega) (by omega);have LV:=Cy Ip;have cP:∀ w',bt Tryz.prog 81 [.int .i64 (q-1)] w' fun v _=>v = .int .i64 (pw (q-1)):=fun w'=>dh _ (by omega) w'
        have Gr:=uK ty x.At q l;refine Wz ?_;refine CW.any 12 mixed (cq (by kernel_rfl)) rfl fun w1 ab aG => ?_
        replace hw:=Ext.trans hw ab;replace ax:=ax.ext ab;replace bl:=bl.ext ab;replace aW:=aW.ext ab;replace hX:=hX.ext ab;replace hT:=hT.ext ab;clear ab;refine Wa ?_;refine SA.one 5 rfl (by kernel_rfl) rfl ?_;refine SW.call rfl rfl (cP _) fun v w4 aj hv => ?_
        subst hv;(replace hw:=Ext.trans hw aj;replace ax:=ax.ext aj;replace bl:=bl.ext aj;replace aW:=aW.ext aj;replace hX:=hX.ext aj;replace hT:=hT.ext aj);refine SW.nil (ae.sa aj ?_);refine Wa ?_;refine SA.one 11 rfl (by kernel_rfl) rfl ?_;refine SW.call rfl rfl (kY A l.length c l ⟨x.At+pw (q-1),q-1,ty⟩ _ hX.sl (by omega)) fun v w4 aj hv => ?_
        obtain ⟨B2,c2,rfl,gf⟩:=hv;replace gf:=gf.low hw.size;(replace hw:=Ext.trans hw aj;replace ax:=ax.ext aj;replace bl:=bl.ext aj;replace aW:=aW.ext aj;replace hT:=hT.ext aj);refine SW.nil (ae.sa aj ?_);refine SA.done (by kernel_rfl) ?_;rw [LV] at gf;replace gf:Own _ w.heap.size 77 3 az B2 (l.length+1) c2 (mX ty x.At q l):=gf;rw [← Gr] at gf;rw [← Gr];refine Wz ?_;refine SW.bB (i:=2) bl rfl rfl rfl rfl fun w8 gz hg => ?_
        have hG:=bl.gr hg;replace hw:=hw.own Lr hg;replace ax:=ax.grown hg (by simpa using DQ);(replace aW:=aW.ay hG rfl;replace gf:=gf.ay hG rfl;replace hT:=hT.ay hG rfl);refine Wz ?_;exact ae.again (q-1,mX ty x.At q l,B2,c2) ⟨rfl,rfl,rfl,rfl,rfl,trivial⟩ (by simp only;omega) ⟨hw,gz,ax,aW,gf,hT,iW,by simp only;omega,qY,by simp only;omega⟩
       ·obtain rfl:o=q:=by omega
        have xf:l=AS:=by
         rw [← qY,show (o-o).toNat=0 by omega];rfl
        rw [xf] at hX;rw [xf] at bl;refine Wz ?_;refine CW.jf 3 5 (fun w2=>aI w2 nE 77 [.int .i64 x.At,.int .i64 x.Order,.int .i64 ty]) mixed (by kernel_rfl) fun w1 ab aG => ?_
        replace hw:=Ext.trans hw ab;replace ax:=ax.ext ab;replace bl:=bl.ext ab;replace aW:=aW.ext ab;replace hX:=hX.ext ab;replace hT:=hT.ext ab;clear ab;refine Wf ?_;refine SF.dM 1 [] aG rfl (by kernel_rfl) (by kernel_rfl) (by kernel_rfl) (aC rfl) (fun w2 hS=>aC rfl) rfl ?_;refine SF.dM 2 [] aG rfl (by kernel_rfl) (by kernel_rfl) (by kernel_rfl) (ak rfl (aW.cell (i:=0) (v := .int .i64 x.At) rfl)) (fun w2 hS=>ak rfl (hS.cell (i:=0) (v := .int .i64 x.At) rfl)) rfl ?_;refine SF.turn rfl (by kernel_rfl) rfl ?_;refine SW.ap ax rfl rfl rfl rfl (cw ⟨s.aV,s.To,⟨A,AS.length,c⟩,s.Types⟩) fun w5 bL hg => ?_
        have hG:=ax.gr hg;have hS:=aW.ay hG rfl;replace hw:=hw.own dr hg;(replace hX:=hX.ay hG rfl;replace hT:=hT.ay hG rfl);refine SW.nil (ae.sg hS ?_);refine SG.one 4 rfl (by kernel_rfl) rfl ?_;repeat (refine SW.pure rfl rfl ?_)
        refine SW.nil (ae.sg hS ?_);refine SG.last rfl (by kernel_rfl) (by kernel_rfl) ?_;refine Wz ?_;exact ae.dB rfl rfl rfl rfl bL rfl ⟨_,rfl,hw,_,iT,⟨s.aV,s.To,⟨A,AS.length,c⟩,s.Types⟩,rfl,⟨sF,sT,hX,hT⟩⟩
   ·have ra:=nz;unfold fy at ra;repeat' (first|refine Wz ?_|(refine CW.bA rfl ?_)|((first|refine SW.call rfl rfl (c1 _ hw) ?_|refine SW.call rfl rfl (bK _ _ _ _) ?_);intro v w1 ab hv;subst hv;replace hw:=Ext.trans hw ab;replace ar:=ar.ext ab;replace ax:=ax.ext ab;clear ab))
    all_goals try omega
    refine SW.ap ax rfl rfl rfl rfl (cw .zero) fun w5 bL hg => ?_
    replace hw:=hw.own dr hg;refine Wz ?_;exact ae.dB rfl rfl rfl rfl bL rfl ⟨_,rfl,hw,_,.kind hq ho nz,ic.zero 2 _ _⟩
  ·repeat' (first|refine Wz ?_|(refine CW.bA rfl ?_)|((first|refine SW.call rfl rfl (c1 _ hw) ?_|refine SW.call rfl rfl (bK _ _ _ _) ?_);intro v w1 ab hv;subst hv;replace hw:=Ext.trans hw ab;replace ar:=ar.ext ab;replace ax:=ax.ext ab;clear ab))
   all_goals try omega
   refine SW.ap ax rfl rfl rfl rfl (cw .zero) fun w5 bL hg => ?_
   replace hw:=hw.own dr hg;refine Wz ?_;exact ae.dB rfl rfl rfl rfl bL rfl ⟨_,rfl,hw,_,.range hq ho,ic.zero 1 _ _⟩
open Go.RowKit
def lN (x:aA) (L:List aA) : List aA:=L.filter fun l => !decide (dk l x)
theorem vj {L:List aA} {x:aA} {i:Nat} (hi:i<L.length) : lN x (L.take (i+1))=if dk L[i] x then lN x (L.take i) else lN x (L.take i)++[L[i]]:=by
 unfold lN;rw [List.take_succ_eq_append_getElem hi,List.filter_append];by_cases h:dk L[i] x
 ·simp [h]
 ·simp [h]
theorem DR (x:aA) (L:List aA) (i:Nat) : (lN x (L.take i)).length≤i:=by
 unfold lN;exact Nat.le_trans (List.length_filter_le _ _) (by rw [List.length_take];omega)
theorem qV {L:List aA} {x:aA} (hs:rH L) : lN x L=if bU L x=true then L.eraseIdx (a9 L x) else L:=by
 unfold lN;split
 ·rename_i h;obtain ⟨hk,mc⟩:=jt h;have e:L=L.take (a9 L x)++L[a9 L x]::L.drop (a9 L x+1):=by rw [← List.drop_eq_getElem_cons hk,List.take_append_drop]
  have h1:(L.take (a9 L x)).filter (fun l => !decide (dk l x))=L.take (a9 L x):=by
   rw [List.filter_eq_self];intro z hz;obtain ⟨j,hj,rfl⟩:=List.getElem_of_mem hz;rw [List.length_take] at hj;rw [List.getElem_take];have:=(j7 (ma (L:=L) (x:=x) (k:=j) (by omega))).1
   simpa using this
  have h2:(L.drop (a9 L x+1)).filter (fun l => !decide (dk l x))=L.drop (a9 L x+1):=by
   rw [List.filter_eq_self];intro z hz;obtain ⟨j,hj,rfl⟩:=List.getElem_of_mem hz;rw [List.length_drop] at hj;rw [List.getElem_drop];have:=hs.get (show a9 L x+1+j<L.length by omega) (show a9 L x<a9 L x+1+j by omega)
   have hn : ¬ dk L[a9 L x+1+j] x:=by unfold bz dk at *;omega
   simpa using hn
  rw [List.eraseIdx_eq_take_drop_succ]
  conv=>lhs;rw [e]
  rw [List.filter_append,List.filter_cons,h1,h2];simp [mc]
 ·rename_i h;rw [List.filter_eq_self];intro z hz;obtain ⟨j,hj,rfl⟩:=List.getElem_of_mem hz;have : ¬ dk L[j] x:=fun hh=>h (CV hs hj hh).2
  simpa using this
set_option maxHeartbeats 16000000 in
theorem wz (r:eI) (L:List aA) (ls:List bO) (x:aA) (y:bO) (lo:Nat) (w:World) (hl:cQ w lo r.av ls L) (hy:kA w lo y x) (fG:lo≤w.heap.size) (cG:y.aw.n=0) (hn:(r.av.n+1)*48≤140737488355328) :
 bt Tryz.prog 88 [.agg (bm r).toArray,.int .i64 y.dU,.int .i64 y.aq,.int .i64 y.Ty,.slice y.aw.A y.aw.n y.aw.c] w fun v w' => ∃ s R,v = .agg (bm ⟨r.aN,r.bJ,r.bX,s,r.Live⟩).toArray∧cQ w' lo s R (lN x L):=by
 refine aM Tryz.func88 rfl Tryz.ntmps88 rfl ?_;refine CW.seq (CW.region (SW.box rfl rfl fun b5 w1 hw iC cg => ?_));have nP:=iC;refine SW.alloc rfl fun nE w2 cJ uT aW => ?_
 have xB:w.heap.size≤nE:=Nat.le_trans hw.size uT
 have vO:b5≠nE:=by have:=cg.lt;omega
 (replace hw:=Ext.trans hw cJ;replace cg:=cg.ext cJ);obtain ⟨l1,l2⟩:=hl.rd.len;have hA:=hl.row.sl.base;have y1:=hy.cpu;have y2:=hy.fC;have y3:=hy.ty;refine Wz ?_;refine SW.alloc rfl fun sv w1 ab qN bC => ?_
 skip;refine SW.ap bC rfl rfl rfl rfl (sy y) fun w2 mZ hg => ?_
 have aj:=ab.own qN hg;have pr:w.heap.size≤sv:=Nat.le_trans hw.size qN
 replace hw:=Ext.trans hw aj;replace cg:=cg.ext aj;replace aW:=aW.ext aj;replace bC:=mZ;clear mZ ab hg aj;refine Wz ?_;replace bC:aI w2 sv 62 (bp y):=bC;have q0:true=decide ((y.aw.n:Int)=0):=by rw [decide_eq_true (by omega)]
 refine CW.loop (fun t:Nat×Option Addr×Nat×List bO=>[(1,.int .i64 y.dU),(2,.int .i64 y.aq),(3,.int .i64 y.Ty),(5,.pointer (some ⟨b5,0,none⟩)),(10,.pointer (some ⟨nE,0,none⟩)),(11,.pointer (some ⟨sv,0,none⟩)),(12,.slice t.2.1 (lN x (L.take t.1)).length t.2.2.1),(13,.bool true),(14,.int .i64 (t.1:Int))])
  (fun t w'=>t.1≤r.av.n∧Ext w w'∧aI w' b5 27 (bm r)∧aI w' nE 27 (bm .zero)∧aI w' sv 62 (bp y)∧Own w' (sv+1) 62 4 bp t.2.1 (lN x (L.take t.1)).length t.2.2.1 t.2.2.2∧ki w' lo t.2.2.2 (lN x (L.take t.1))) (fun t=>r.av.n-t.1) (0,none,0,[])
  ⟨rfl,rfl,rfl,rfl,rfl,rfl,rfl,by rw [q0];rfl,rfl,trivial⟩ ⟨by omega,hw,cg,aW,bC,Own.dS _ _ _ _ _ _,ki.nil _ _⟩ ?_
 clear hw cg aW bC;rintro ⟨i,A,c,R⟩ w' ⟨hi,hw,cg,aW,bC,hO,hE⟩
 simp only at hi hO hE ⊢;have hlen:=DR x L i;have y6:∀ m:Nat,m≤r.av.n→(m+1)*48≤140737488355328∧m+1≤9223372036854775807:=fun m hm=>by omega
 by_cases ck:i<r.av.n
 ·have qM:(lN x (L.take i)).length≤r.av.n:=by omega
  have kM:i<L.length:=by omega
  have lE:i<ls.length:=by omega
  have xu:=hl.each.get i lE kM;have e1:=xu.cpu;have e2:=xu.fC;have e3:=xu.ty;have g0:=hl.row.sl.dA ck (j:=0) (u := .int .i64 ls[i].dU) rfl;have g1:=hl.row.sl.dA ck (j:=1) (u := .int .i64 ls[i].aq) rfl;have g2:=hl.row.sl.dA ck (j:=2) (u := .int .i64 ls[i].Ty) rfl;by_cases hk:dk L[i] x
  ·have ee:lN x (L.take (i+1))=lN x (L.take i):=by rw [vj kM,if_pos hk]
   obtain ⟨k1,k2,k3⟩:=id hk;repeat' (first|refine Wz ?_|(first|refine CW.bA rfl ?_|(apply CW.aP mixed;(· kernel_rfl);rotate_left;intro w1 ab;replace hw:=Ext.trans hw ab;replace cg:=cg.ext ab;replace aW:=aW.ext ab;replace bC:=bC.ext ab;replace hO:=hO.ext ab;replace hE:=hE.ext ab;clear ab;rotate_right))|refine SW.skip rfl rfl rfl rfl ?_|refine SW.st (ao hw rfl g0) rfl ?_|refine SW.st (ao hw rfl g1) rfl ?_|refine SW.st (ao hw rfl g2) rfl ?_|exact SW.bx rfl)
   all_goals try omega
   exact ae.again (i+1,A,c,R) ⟨rfl,rfl,rfl,rfl,rfl,rfl,by simp only;rw [ee];rfl,rfl,rfl,trivial⟩ (by simp only;omega) ⟨by simp only;omega,hw,cg,aW,bC,by simp only;rw [ee];exact hO,by simp only;rw [ee];exact hE⟩
  ·have IG : ¬ (ls[i].dU=y.dU∧ls[i].aq=y.aq∧ls[i].Ty=y.Ty):=by unfold dk at hk;omega
   have ee:lN x (L.take (i+1))=lN x (L.take i)++[L[i]]:=by rw [vj kM,if_neg hk]
   have el:(lN x (L.take (i+1))).length=(lN x (L.take i)).length+1:=by rw [ee];simp
   repeat' (first|refine Wz ?_|((apply CW.aP mixed;(· kernel_rfl);rotate_left;intro w1 ab;replace hw:=Ext.trans hw ab;replace cg:=cg.ext ab;replace aW:=aW.ext ab;replace bC:=bC.ext ab;replace hO:=hO.ext ab;replace hE:=hE.ext ab;clear ab;rotate_right))|refine SW.bZ rfl rfl rfl (fun h => ?_) (fun h => ?_)|refine SW.skip rfl rfl rfl rfl ?_|refine SW.st (ao hw rfl g0) rfl ?_|refine SW.st (ao hw rfl g1) rfl ?_|refine SW.st (ao hw rfl g2) rfl ?_|refine SW.st (aH hw rfl rfl ((hl.row.sl.all ck))) rfl ?_|exact SW.bx rfl)
   all_goals try omega
   all_goals
    refine SW.bD rfl rfl rfl rfl rfl fun b w4 aj hb hB => ?_
    (replace hw:=Ext.trans hw aj;replace cg:=cg.ext aj;replace aW:=aW.ext aj;replace bC:=bC.ext aj;replace hO:=hO.ext aj;replace hE:=hE.ext aj);refine SW.append hO (aI.lj (enc:=bp) (x:=ls[i]) hB) bC.lt rfl rfl rfl (y6 _ qM).1 (y6 _ qM).2 fun A2 c2 w5 gi hg => ?_
    have hG:=hO.gr hg;replace hw:=aF hw hg (Nat.le_trans pr (Nat.le_succ _)) hO.aL;replace bC:=bC.grown hg (fun e=>Nat.not_succ_le_self _ (hO.aL sv e.symm));(replace cg:=cg.ay hG rfl;replace aW:=aW.ay hG rfl;replace hE:=hE.ay hG rfl);refine Wz ?_;refine ae.again (i+1,A2,c2,R++[ls[i]]) ⟨rfl,rfl,rfl,rfl,rfl,rfl,by simp only;rw [el];rfl,rfl,rfl,trivial⟩ (by simp only;omega) ⟨by simp only;omega,hw,cg,aW,bC,by simp only;rw [el];exact gi,?_⟩;simp only;rw [ee];exact hE.snoc ((hl.each.get i lE kM).ext hw)
 ·have ei:i=L.length:=by omega
  subst ei;rw [List.take_of_length_le (Nat.le_refl _)] at hO hE;rw [List.take_of_length_le (Nat.le_refl _)];repeat' (first|refine Wz ?_|(refine CW.bA rfl ?_))
  refine SW.bB (i:=3) cg rfl rfl rfl rfl fun w6 gl hg => ?_
  have hG:=cg.gr hg;replace hw:=hw.own nP hg;replace aW:=aW.grown hg (by simpa using Ne.symm vO);(replace hO:=hO.ay hG rfl;replace hE:=hE.ay hG rfl);refine Wz ?_;refine SW.ap aW rfl rfl rfl rfl (cS ⟨r.aN,r.bJ,r.bX,⟨A,_,c⟩,r.Live⟩) fun w7 bL hg => ?_
  have hG:=aW.gr hg;replace hw:=hw.own xB hg;(replace hO:=hO.ay hG rfl;replace hE:=hE.ay hG rfl);refine Wz ?_;exact ae.mn rfl rfl bL rfl ⟨_,rfl,hw,⟨A,_,c⟩,R,rfl,⟨hO.low (by omega),hE.each⟩⟩
def BP (L:List aA) (x:aA) : List aA:=if x.aw=[] then lN x L else jM L x
theorem j0 (r:eI) (L:List aA) (ls:List bO) (x:aA) (y:bO) (lo:Nat) (w:World) (hl:cQ w lo r.av ls L) (hy:kA w lo y x) (hs:rH L) (fG:lo≤w.heap.size) (hn:(r.av.n+1)*48≤140737488355328) :
 bt Tryz.prog 88 [.agg (bm r).toArray,.int .i64 y.dU,.int .i64 y.aq,.int .i64 y.Ty,.slice y.aw.A y.aw.n y.aw.c] w fun v w' => ∃ s R,v = .agg (bm ⟨r.aN,r.bJ,r.bX,s,r.Live⟩).toArray∧cQ w' lo s R (BP L x):=by
 have rI:=hy.cu.len;unfold BP;split
 ·rename_i h;rw [h] at rI;exact wz r L ls x y lo w hl hy fG (by simpa using rI.symm) hn
 ·rename_i h;exact xA r L ls x y lo w hl hy hs fG (by rw [← rI];exact List.length_pos_iff.2 h) hn
theorem DS {L:List aA} {x:aA} {pg:List Int} (hs:rH L) (hk:bU L x=true) : BP L (dn x pg.dropLast)=rn L x pg:=by
 obtain ⟨e1,e2⟩:=jD (L:=L) (kr (x:=x) (pg:=pg.dropLast));unfold BP rn;by_cases h:pg.length≤1
 ·have h0:pg.dropLast=[]:=List.eq_nil_of_length_eq_zero (by rw [List.length_dropLast];omega)
  rw [if_pos h,if_pos (by simpa [dn] using h0),qV hs,if_pos (by rw [← e2];exact hk),e1]
 ·have h0 : ¬ pg.dropLast=[]:=fun e=>by
   have:=congrArg List.length e
   rw [List.length_dropLast] at this;simp at this;omega
  rw [if_neg h,if_neg (by simpa [dn] using h0),ov (by rw [← e2];exact hk),e1]
theorem qx {L:List aA} {x:aA} {pg:List Int} (hs:rH L) (hk:bU L x=false) : BP L (dn x pg)=gn L x pg:=by
 obtain ⟨e1,e2⟩:=jD (L:=L) (kr (x:=x) (pg:=pg));unfold BP gn;by_cases h:pg=[]
 ·rw [if_pos h,if_pos (by simpa [dn] using h),qV hs,if_neg (by rw [← e2,hk];simp)]
 ·rw [if_neg h,if_neg (by simpa [dn] using h)]
open Go.RowKit
structure RQ (wb w:World) (k:HK) (p:HP) (s:aq×aq) (L:List aA) : Prop where
 zs:ec w wb.heap.size k.g k.c p.u0 p.u1 s
 cn:Own w wb.heap.size 3 1 bf k.m.A k.m.n k.m.c k.M
 live:Own w wb.heap.size 77 3 az k.lv.A k.lv.n k.lv.c k.V
 ls:cQ w wb.heap.size p.li p.ls L
 base:Ext wb w
section
variable {wb w w':World} {k:HK} {p:HP} {s:aq×aq} {L:List aA} {t:TypeId} {b:Nat}
theorem RQ.ext (h:RQ wb w k p s L) (hx:Ext w w') : RQ wb w' k p s L:=⟨h.zs.ext hx,h.cn.ext hx,h.live.ext hx,h.ls.ext hx,h.base.trans hx⟩
theorem RQ.own (h:RQ wb w k p s L) (hg:w.grownBy w' (some b)) (hb:wb.heap.size≤b) (hG:nY w w' t) (cG:(Nat.beq t 59 || (Nat.beq t 3 || (Nat.beq t 77 || Nat.beq t 62)))=false) : RQ wb w' k p s L:=by
 simp only [Bool.or_eq_false_iff] at cG;obtain ⟨h1,h2,h3,h4⟩:=cG;exact ⟨h.zs.ay hG (by simp [h1,h2,h3]),h.cn.ay hG h2,h.live.ay hG h3,h.ls.ay hG (by simp [h2,h4]),h.base.own hb hg⟩
theorem RQ.fC (h:RQ wb w k p s L) (hv:VS s) {zi:Nat} (hz:zi<2) : ∃ u,[p.u0,p.u1][zi]'hz=u∧fa w wb.heap.size u (rm s zi):=by
 rcases Nat.lt_or_ge zi 1 with h1|h1
 ·obtain rfl:zi=0:=by omega
  exact ⟨p.u0,rfl,h.zs.z0⟩
 ·obtain rfl:zi=1:=by omega
  exact ⟨p.u1,rfl,h.zs.z1⟩
theorem RQ.BA {zi:Nat} {u:ct} {z:aq} (h:RQ wb w k p s L) (hz:zi<2) (hO:Own w' wb.heap.size 59 4 bo (some ⟨k.g,0,none⟩) 2 k.c ([p.u0,p.u1].set zi u)) (hg:w.grownBy w' (some k.g)) (hn:fa w wb.heap.size u z) : RQ wb w' k (ku p zi u) (la s (zi:Int) z) L:=by
 have hG:=h.zs.gr hg;have tM:=hn.ay hG rfl;have hx:Ext wb w':=h.base.own h.zs.yQ hg
 unfold ku la;by_cases jc:zi=0
 ·subst jc;simp only [if_true,Int.natCast_zero] at *;exact ⟨⟨hO,tM,h.zs.z1.ay hG rfl,h.zs.yQ,h.zs.pos⟩,h.cn.ay hG rfl,h.live.ay hG rfl,h.ls.ay hG rfl,hx⟩
 ·obtain rfl:zi=1:=by omega
  have e1 : ¬ ((1:Nat)=0):=by omega
  have e2 : ¬ (((1:Nat) : Int)=0):=by omega
  simp only [if_neg e1,if_neg e2] at *;exact ⟨⟨hO,h.zs.z0.ay hG rfl,tM,h.zs.yQ,h.zs.pos⟩,h.cn.ay hG rfl,h.live.ay hG rfl,h.ls.ay hG rfl,hx⟩
theorem RQ.low (h:RQ wb w k p s L) : wb.heap.size≤w.heap.size:=h.base.size
end
set_option maxHeartbeats 1000000 in
theorem tA (k:HK) (p:HP) (s:aq×aq) (L:List aA) (m0 m1:Int) (zi:Nat) (o f:Int) (wb w:World) (Q:RQ wb w k p s L) (hM:n9 k.M m0 m1) (hv:VS s) (jc:zi<2) (ho : 0≤o∧o≤4) (hf : 0≤f∧f≤15) :
 bt Tryz.prog 89 [.agg (bm (k.h p)).toArray,.int .i64 (zi:Int),.int .i64 o,.int .i64 f] w fun v _=>v = .bool (decide (dv m0 m1 s zi o f)):=by
 refine aM Tryz.func89 rfl Tryz.ntmps89 rfl ?_;refine CW.seq (CW.region (SW.box rfl rfl fun b1 w1 hw ik aB => ?_));obtain ⟨uz,GY,nK⟩:=Q.fC hv jc;have uU:=hv.rm (zi:Int);obtain ⟨z,hz⟩ : ∃ z,rm s (zi:Int)=z:=⟨_,rfl⟩;rw [hz] at nK uU;obtain ⟨q1,q2,q3,q4⟩:=kN nK uU;have hA:=Q.zs.row.sl.base;have fz:=Q.zs.row.sl.dA jc (j:=2) (show (bo ([p.u0,p.u1][zi]'jc))[2]?=some (Value.slice uz.ag.A uz.ag.n uz.ag.c) by rw [GY];rfl)
 have iT:∀ b∈z.ag,0≤b.Order∧b.Order≤4:=fun b hb=>by
  obtain ⟨j,hj,rfl⟩:=List.getElem_of_mem hb;exact ⟨(uU.cV j hj).1.1,(uU.cV j hj).1.2.1⟩
 obtain ⟨hd,yn⟩ : ∃ hd,nn m0 m1 s zi f=hd:=⟨_,rfl⟩;obtain ⟨a1,a2,a3,a4,a5⟩:=hv.l8.ok
 have cH:∀ w',Ext w w'→bt Tryz.prog 117 [.agg (bm (k.h p)).toArray,.int .i64 (zi:Int),.int .i64 f] w' fun v _=>v = .int .i64 hd:=fun w' hx=>by
  have:=xY.wk (k.h p) p.u0 p.u1 s k.M m0 m1 zi f w' (Q.cn.ext hx).sl (Q.zs.row.ext hx).sl hM Q.zs.z1.from_ Q.zs.z1.ka ⟨by omega,by omega⟩ ⟨by omega,by omega⟩ jc hf
  rwa [yn] at this
 have N0 : 0≤hd∧hd≤512:=by
  rw [← yn];have h1:=hM.b0;have h2:=hM.b1;unfold nn;(repeat' split)<;>omega
 have AR:=kf uU;have La:=jr uU z.ag.length (Nat.le_refl _);rw [List.take_length] at La;have N1:=bH ho.1 ho.2;have hE:dv m0 m1 s zi o f↔hd≤dK z.ag-pw o:=by unfold dv;rw [yn,hz]
 obtain ⟨q,hq⟩ : ∃ q,decide (dv m0 m1 s zi o f)=q:=⟨_,rfl⟩;rw [hq];have HB:decide (hd≤dK z.ag-pw o)=q:=by rw [← hq];exact decide_eq_decide.2 hE.symm
 repeat' (first|refine Wz ?_|((apply CW.aP mixed;(· kernel_rfl);rotate_left;intro w1 ab;replace hw:=Ext.trans hw ab;replace aB:=aB.ext ab;clear ab;rotate_right))|refine SW.st (ao hw rfl fz) rfl ?_|refine SW.bq rfl rfl (fun w1 ab=>(yY _ _ _ _ _ (nK.free.ext (Ext.trans hw ab)).sl iT (by omega))) ?_|refine SW.bq rfl rfl (fun w1 ab=>(dh _ (by omega) _)) ?_|refine SW.bq rfl rfl (fun w1 ab=>(cH _ (Ext.trans hw ab))) ?_|exact SW.bx rfl)
 refine ae.aO rfl rfl ⟨_,rfl,hw,?_⟩;rw [← HB]
end Go.Proofs.YtjimadiidbkohaaGreatDoor
