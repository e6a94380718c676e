/-
  Texts of the claim SlabAllocs, part 23: what its theorem leans on.
-/
import Derived.Test.YtjimadiidbkohaaGreatDoorPackSlabAllocs6
import Derived.Test.YtjimadiidbkohaaGreatDoorPackSlabAllocs18
import Derived.Test.YtjimadiidbkohaaGreatDoorPackSlabAllocs2
import Derived.Test.YtjimadiidbkohaaGreatDoorPackSlabAllocs7
import Derived.Test.YtjimadiidbkohaaGreatDoorPackSlabAllocs12
import Derived.Test.YtjimadiidbkohaaGreatDoorPackSlabAllocs16
set_option linter.unusedVariables false
set_option linter.unusedSimpArgs false
namespace Go.Proofs.YtjimadiidbkohaaGreatDoor
open Go.RowKit
inductive nc (p:Block→Bool) (l:List Block) : Block×Bool→Prop
 | hit {k:Nat} (hk:k<l.length) (hp:p l[k]=true) (hf:∀ (j:Nat) (hj:j<l.length),j<k→p l[j]=false) : nc p l (l[k],true)
 | vj (hf:∀ (j:Nat) (hj:j<l.length),p l[j]=false) : nc p l (⟨0,0,0⟩,false)
theorem nc.GR {p:Block→Bool} {l:List Block} {u:Block×Bool} (h:nc p l u) {k:Nat} (hk:k<l.length) (hp:p l[k]=true) (hf:∀ (j:Nat) (hj:j<l.length),j<k→p l[j]=false) : u=(l[k],true):=by
 cases h with
 | @hit k' oO zG tL =>
   rcases Nat.lt_trichotomy k k' with h|h|h
   ·rw [tL k hk h] at hp;cases hp
   ·subst h;rfl
   ·rw [hf k' oO h] at zG;cases zG
 | vj tL=>rw [tL k hk] at hp;cases hp
theorem nc.EM {p:Block→Bool} {l:List Block} {u:Block×Bool} (h:nc p l u) (ha:l.any p=false) : u=(⟨0,0,0⟩,false):=by
 cases h with
 | @hit k' oO zG tL =>
   have:=List.any_eq_false.1 ha _ (List.getElem_mem oO)
   exact absurd zG (by simpa using this)
 | vj=>rfl
set_option maxHeartbeats 2000000 in
theorem vZ (A:Option Addr) (n c:Nat) (l:List Block) (o t:Int) (w:World) (hl:Sl w 3 az A n l) (hn:n≤9223372036854775807) (hs:∀ (i j:Nat) (hj:j<l.length) (kP:i<j),(l[i]'(by omega)).At≤l[j].At) :
 bt Tryz.prog 118 [.slice A n c,.int .i64 o,.int .i64 t] w fun v _ => ∃ u,nc (fV o t) l u∧v = .tuple #[.agg (az u.1).toArray,.bool u.2]:=by
 refine aL Tryz.func118 rfl Tryz.ntmps118 rfl ?_;have hw:=Ext.refl w;refine CW.seq (CW.region (SW.alloc rfl fun b6 w1 ab di ax => ?_));replace hw:=Ext.trans hw ab;clear ab;refine Wz ?_;refine SW.alloc rfl fun b8 w1 ab Mb bu => ?_
 have jl:w.heap.size≤b8:=Nat.le_trans hw.size Mb
 have cG:b6≠b8:=by have:=ax.lt;omega
 (replace hw:=Ext.trans hw ab;replace ax:=ax.ext ab);skip;refine SW.ap bu rfl rfl rfl rfl (fB.one (enc:=az) ⟨0,0,0⟩) fun w2 iQ hg => ?_
 replace hw:=hw.own jl hg;replace ax:=ax.grown hg (by simpa using cG);replace bu:=iQ;clear iQ hg ab Mb;have hA:=hl.base;have ma:=hl.len;refine Wz ?_
 refine CW.loop (fun u:Nat×Block×Bool=>[(0,.slice A n c),(1,.int .i64 o),(2,.int .i64 t),(6,.pointer (some ⟨b6,0,none⟩)),(8,.pointer (some ⟨b8,0,none⟩)),(9,.bool u.2.2),(10,.int .i64 (u.1:Int))])
  (fun u w'=>u.1≤n∧Ext w w'∧aJ w' b6 77 (az ⟨0,0,0⟩)∧aJ w' b8 77 (az u.2.1)∧((u.2.2=false∧u.2.1=⟨0,0,0⟩ ∧ ∀ (j:Nat) (hj:j<l.length),j<u.1→fV o t l[j]=false) ∨ ∃ (k:Nat) (hk:k<l.length),k<u.1∧u.2.2=true∧u.2.1=l[k]∧fV o t l[k]=true ∧ ∀ (j:Nat) (hj:j<l.length),j<k→fV o t l[j]=false))
  (fun u=>n-u.1) (0,⟨0,0,0⟩,false) ⟨rfl,rfl,rfl,rfl,rfl,rfl,rfl,trivial⟩ ⟨by simp only;omega,hw,ax,bu,.inl ⟨rfl,rfl,fun j hj h=>by simp only at h;omega⟩⟩ ?_
 clear hw ax bu;rintro ⟨i,x,f⟩ w' ⟨hi,hw,ax,bu,hI⟩
 simp only at hi bu hI ⊢;by_cases cf:i<n
 ·have kE:i<l.length:=by omega
  obtain ⟨y,hy⟩ : ∃ y,l[i]=y:=⟨_,rfl⟩;have g0:=hl.dv cf (j:=0) (u := .int .i64 y.At) (by rw [hy];rfl);have g1:=hl.dv cf (j:=1) (u := .int .i64 y.Order) (by rw [hy];rfl);have g2:=hl.dv cf (j:=2) (u := .int .i64 y.Ty) (by rw [hy];rfl);have gA:=hl.all cf;simp only [hy] at gA
  have Fs:fV o t l[i]=false→(f=false∧x=⟨0,0,0⟩ ∧ ∀ (j:Nat) (hj:j<l.length),j<i+1→fV o t l[j]=false) ∨ ∃ (k:Nat) (hk:k<l.length),k<i+1∧f=true∧x=l[k]∧fV o t l[k]=true ∧ ∀ (j:Nat) (hj:j<l.length),j<k→fV o t l[j]=false:=fun hm=>by
   rcases hI with ⟨h1,h2,h3⟩|⟨k,hk,h1,h2⟩
   ·refine .inl ⟨h1,h2,fun j hj h => ?_⟩;by_cases e:j=i
    ·subst e;exact hm
    ·exact h3 j hj (by omega)
   ·exact .inr ⟨k,hk,by omega,h2⟩
  by_cases h1:y.Order=o
  ·by_cases h2:y.Ty=t
   ·have hp:fV o t l[i]=true:=lh.2 ⟨by rw [hy];exact h1,by rw [hy];exact h2⟩
    rcases hI with ⟨rfl,rfl,h3⟩|⟨k,hk,qO,rfl,hx,h4,h5⟩
    ·repeat' (first|refine Wz ?_|((apply CW.aO mixed;(· kernel_rfl);rotate_left;intro w1 ab;replace hw:=Ext.trans hw ab;replace ax:=ax.ext ab;replace bu:=bu.ext ab;clear ab;rotate_right))|refine SW.skip rfl rfl rfl rfl ?_|refine SW.st (ao hw rfl g1) rfl ?_|refine SW.st (ao hw rfl g2) rfl ?_|refine SW.st (aH hw rfl rfl gA) rfl ?_|exact SW.bx rfl)
     refine SW.ap bu rfl rfl rfl rfl (fB.one (enc:=az) y) fun w2 iQ hg => ?_
     replace hw:=hw.own jl hg;replace ax:=ax.grown hg (by simpa using cG);refine Wz ?_;exact ae.again (i+1,y,true) ⟨rfl,rfl,rfl,rfl,rfl,rfl,rfl,trivial⟩ (by simp only;omega) ⟨by simp only;omega,hw,ax,iQ,.inr ⟨i,kE,by simp only;omega,rfl,hy.symm,hp,h3⟩⟩
    ·have hle:=hs k i kE qO;rw [hy,← hx] at hle;repeat' (first|refine Wz ?_|((apply CW.aO mixed;(· kernel_rfl);rotate_left;intro w1 ab;replace hw:=Ext.trans hw ab;replace ax:=ax.ext ab;replace bu:=bu.ext ab;clear ab;rotate_right))|refine SW.want rfl rfl ?_|refine SW.st (ao hw rfl g0) rfl ?_|refine SW.st (ao hw rfl g1) rfl ?_|refine SW.st (ao hw rfl g2) rfl ?_|exact SW.bx rfl)
     all_goals try omega
     exact ae.again (i+1,x,true) ⟨rfl,rfl,rfl,rfl,rfl,rfl,rfl,trivial⟩ (by simp only;omega) ⟨by simp only;omega,hw,ax,bu,.inr ⟨k,hk,by simp only;omega,rfl,hx,h4,h5⟩⟩
   ·have hm:=Fs (by cases e:fV o t l[i];rfl;exact absurd (hy ▸ (lh.1 e).2) h2);repeat' (first|refine Wz ?_|((apply CW.aO mixed;(· kernel_rfl);rotate_left;intro w1 ab;replace hw:=Ext.trans hw ab;replace ax:=ax.ext ab;replace bu:=bu.ext ab;clear ab;rotate_right))|refine SW.st (ao hw rfl g1) rfl ?_|refine SW.st (ao hw rfl g2) rfl ?_|exact SW.bx rfl)
    all_goals try omega
    exact ae.again (i+1,x,f) ⟨rfl,rfl,rfl,rfl,rfl,rfl,rfl,trivial⟩ (by simp only;omega) ⟨by simp only;omega,hw,ax,bu,hm⟩
  ·have hm:=Fs (by cases e:fV o t l[i];rfl;exact absurd (hy ▸ (lh.1 e).1) h1);repeat' (first|refine Wz ?_|((apply CW.aO mixed;(· kernel_rfl);rotate_left;intro w1 ab;replace hw:=Ext.trans hw ab;replace ax:=ax.ext ab;replace bu:=bu.ext ab;clear ab;rotate_right))|refine SW.st (ao hw rfl g1) rfl ?_|exact SW.bx rfl)
   all_goals try omega
   exact ae.again (i+1,x,f) ⟨rfl,rfl,rfl,rfl,rfl,rfl,rfl,trivial⟩ (by simp only;omega) ⟨by simp only;omega,hw,ax,bu,hm⟩
 ·refine Wz ?_;refine SW.ap ax rfl rfl rfl rfl (fB.one (enc:=az) x) fun w2 bP hg => ?_
  replace hw:=hw.own di hg;refine Wz ?_;refine ae.fH rfl rfl rfl bP rfl ⟨_,rfl,hw,(x,f),?_,rfl⟩;rcases hI with ⟨rfl,rfl,h3⟩|⟨k,hk,qO,rfl,rfl,h4,h5⟩
  ·exact .vj fun j hj=>h3 j hj (by omega)
  ·exact .hit hk h4 h5
theorem tm (t:Int) (w:World) (ht:fi t) :
 bt Tryz.prog 119 [.int .i64 t] w fun v w' => ∃ A,v = .slice A 2 2∧Own w' w.heap.size 3 1 bh A 2 2 [mN t,mO t]:=by
 refine aL Tryz.func119 rfl Tryz.ntmps119 rfl ?_;have hw:=Ext.refl w;unfold fi at ht;rcases (show t=0∨t=1∨t=2 by omega) with rfl|rfl|rfl
 ·refine Wz ?_;refine SW.vU (enc:=bh) 2 1 rfl rfl rfl rfl rfl rfl fun g w1 ab hg hO => ?_
  refine Wz ?_;exact ae.aN rfl rfl ⟨_,rfl,ab,_,rfl,hO⟩
 ·refine Wz ?_;refine SW.vU (enc:=bh) 2 0 rfl rfl rfl rfl rfl rfl fun g w1 ab hg hO => ?_
  refine Wz ?_;exact ae.aN rfl rfl ⟨_,rfl,ab,_,rfl,hO⟩
 ·refine Wz ?_;refine SW.vU (enc:=bh) 0 1 rfl rfl rfl rfl rfl rfl fun g w1 ab hg hO => ?_
  refine Wz ?_;exact ae.aN rfl rfl ⟨_,rfl,ab,_,rfl,hO⟩
open Go.RowKit
def Bl (T:List Int) (i:Nat) (t:Int) (c:Nat) : List Int:=if c=0 then T else if c=1 then T.set i t else (T.set i t).set (i+1) t
theorem Bm {T:List Int} {i:Nat} {t:Int} {c:Nat} (hc:c<2) : (Bl T i t c).set (i+c) t=Bl T i t (c+1):=by
 rcases (show c=0∨c=1 by omega) with rfl|rfl<;>simp [Bl]
def BH (b:Block) : Nat:=if b.Order=4 then 2 else 1
theorem Dn {z:aq} {b:Block} {t:Int} (h2 : 2≤b.Order) : Bl z.Types (jm z b) t (BH b)=dz z b t:=by
 unfold Bl BH dz;by_cases h:b.Order=4
 ·rw [if_pos h,if_neg (by omega),if_neg (by omega),if_neg (by omega),if_pos h]
 ·rw [if_neg h,if_neg (by omega),if_pos rfl,if_neg (by omega),if_neg h]
theorem GS {b:Block} (h2 : 2≤b.Order) (h4:b.Order≤4) (hm:b.At % pw b.Order=0) : (b.At+pw b.Order-1) / 8*8=mq b-8∧mq b-8=b.At / 8*8+8*(BH b:Int)-8:=by
 unfold mq BH;rcases eg (show 0≤b.Order by omega) h4 with ⟨e1,e2⟩|⟨e1,e2⟩|⟨e1,e2⟩|⟨e1,e2⟩|⟨e1,e2⟩<;>rw [e2] at hm ⊢<;>split<;>omega
theorem Bn {z:aq} {b:Block} {t:Int} {st:Bool} (h:b.Order<2) : eD z b t st=z.ag∧(if st=true then dz z b t else z.Types)=z.Types∧kS z t st b=b.Ty:=by
 refine ⟨?_,?_,?_⟩
 ·unfold eD eA;rw [if_pos h];split<;>rfl
 ·unfold dz;rw [if_pos h];split<;>rfl
 ·unfold kS;rw [if_neg (by omega)]
set_option maxHeartbeats 8000000 in
theorem qM (r:cq) (z:aq) (o t:Int) (w:World) (hr:tN w r z) (hf:(r.ag.n+1)*24≤140737488355328) (ht:r.Types.n*8≤140737488355328) (h1 : -9223372036854775808≤r.aW∧r.aW≤9223372036854775807) (h2 : -9223372036854775808≤r.To∧r.To≤9223372036854775807) :
 bt Tryz.prog 90 [.agg (bo r).toArray,.int .i64 o,.int .i64 t] w fun v w' => ∃ u,gl z o t u∧gE w.heap.size u v w':=by
 refine aL Tryz.func90 rfl Tryz.ntmps90 rfl ?_;refine CW.seq (CW.region (SW.box rfl rfl fun b3 w1 hw bK ar => ?_));refine SW.alloc rfl fun b6 w2 cw eW ax => ?_
 have di:w.heap.size≤b6:=Nat.le_trans hw.size eW
 have oT:b3≠b6:=by have:=ar.lt;omega
 (replace hw:=Ext.trans hw cw;replace ar:=ar.ext cw);have eF:=hr.from_;have eT:=hr.jZ;have BW:=hr.free.len;have G5:=hr.types.len;obtain ⟨q,hq⟩ : ∃ q,dZ z=q:=⟨_,rfl⟩
 have c1:∀ w',Ext w w'→bt Tryz.prog 78 [.agg (bo r).toArray] w' fun v _=>v = .bool q:=fun w' h=>by
  have:=ky r z w' (hr.ext h) (by omega) (by omega) h1 h2
  rwa [hq] at this
 cases q
 ·repeat' (first|refine Wz ?_|(refine CW.bF rfl ?_)|(refine SW.call rfl rfl (c1 _ hw) ?_;intro v w1 ab hv;subst hv;replace hw:=Ext.trans hw ab;replace ar:=ar.ext ab;replace ax:=ax.ext ab;clear ab))
  refine SW.ap ax rfl rfl rfl rfl (ct .zero) fun w5 bP hg => ?_
  replace hw:=hw.own di hg;refine Wz ?_;exact ae.dl rfl rfl rfl rfl bP rfl ⟨_,rfl,hw,_,.bad hq,gE.zero 8 _ _⟩
 ·have hz:=dC.1 hq;obtain ⟨o1,o2,o3,o4,o5⟩:=hz.ok;by_cases ho : 0≤o∧o≤4
  ·by_cases nn:fi t
   ·have qT:=nn;unfold fi at qT;repeat' (first|refine Wz ?_|(refine CW.bA rfl ?_)|((first|refine SW.call rfl rfl (c1 _ hw) ?_|refine SW.call rfl rfl (bM _ _ _ _) ?_);intro v w1 ab hv;subst hv;replace hw:=Ext.trans hw ab;replace ar:=ar.ext ab;replace ax:=ax.ext ab;clear ab))
    all_goals try omega
    refine SW.call rfl rfl (lL r z _ (hr.ext hw) (by omega) ht) fun v w4 iG hv => ?_
    obtain ⟨s,rfl,hs⟩:=hv;replace hs:=hs.low hw.size;(replace hw:=Ext.trans hw iG;replace ar:=ar.ext iG;replace ax:=ax.ext iG);clear c1;skip;refine SW.alloc rfl fun b9 w5 jv Mc bk => ?_
    have KS:w.heap.size≤b9:=Nat.le_trans hw.size Mc
    have IT:b3≠b9:=by have:=ar.lt;omega
    have Dp:b6≠b9:=by have:=ax.lt;omega
    (replace hw:=Ext.trans hw jv;replace ar:=ar.ext jv;replace ax:=ax.ext jv;replace hs:=hs.ext jv);skip;refine SW.ap bk rfl rfl rfl rfl (ct s) fun w5 gg hg => ?_
    have hG:=bk.gr hg;replace hw:=hw.own KS hg;have hX:=hs.free.ay hG rfl;have hT:=hs.types.ay hG rfl;replace ax:=ax.grown hg (by simpa using Dp);replace ar:=ar.grown hg (by simpa using IT);replace bk:=gg;have sF:=hs.from_;have sT:=hs.jZ;have es:s.ag.n=z.ag.length:=hs.free.len.symm
    have et:s.Types.n=z.Types.length:=hs.types.len.symm
    clear gg hg hG hs jv Mc;refine Wz ?_;refine SW.alloc rfl fun kn w5 jv IU aP => ?_
    have xH:w.heap.size≤kn:=Nat.le_trans hw.size IU
    have jr:aT s.ag.A s.ag.c≠some kn:=fun e=>by have:=hX.lt_size _ e;omega
    (replace hw:=Ext.trans hw jv;replace ar:=ar.ext jv;replace ax:=ax.ext jv;replace bk:=bk.ext jv;replace hX:=hX.ext jv;replace hT:=hT.ext jv);skip;refine SW.ap aP rfl rfl rfl rfl (fB.one (enc:=az) ⟨0,0,0⟩) fun w6 dW hg => ?_
    have hG:=aP.gr hg;replace hw:=hw.own xH hg;replace hX:=hX.grown hg (.inr jr);(replace ar:=ar.ay hG rfl;replace ax:=ax.ay hG rfl;replace bk:=bk.ay hG rfl;replace hT:=hT.ay hG rfl);replace aP:=dW;clear dW hg hG jv IU;have Ap:=j3 hz
    have IV:∀ (i j:Nat) (hj:j<z.ag.length) (kP:i<j),(z.ag[i]'(by omega)).At≤z.ag[j].At:=fun i j hj kP=>by
     have g1:=fk (ld hz) hj kP;have g2:=(hz.cU i (by omega)).1;have g3:=bG g2.1 g2.2.1;omega
    have cL:∀ p u w',Sl w' 3 az s.ag.A s.ag.n z.ag→bt Tryz.prog 118 [.slice s.ag.A s.ag.n s.ag.c,.int .i64 p,.int .i64 u] w' fun v _ => ∃ x,nc (fV p u) z.ag x∧v = .tuple #[.agg (az x.1).toArray,.bool x.2]:=fun p u w' h=>vZ _ _ _ z.ag p u w' h (by omega) IV
    have IW:∀ p u,z.ag.any (fV p u)=false → ∀ w',Sl w' 3 az s.ag.A s.ag.n z.ag→bt Tryz.prog 118 [.slice s.ag.A s.ag.n s.ag.c,.int .i64 p,.int .i64 u] w' fun v _=>v = .tuple #[.agg (az ⟨0,0,0⟩).toArray,.bool false]:=fun p u ha w' h=>(cL p u w' h).mono fun v w2 _ hv=>by
     obtain ⟨x,hx,rfl⟩:=hv;rw [hx.EM ha]
    have IX:∀ p u (k:Nat) (hk:k<z.ag.length) (x:Block),z.ag[k]=x→fV p u z.ag[k]=true→(∀ (j:Nat) (hj:j<z.ag.length),j<k→fV p u z.ag[j]=false) → ∀ w',Sl w' 3 az s.ag.A s.ag.n z.ag→bt Tryz.prog 118 [.slice s.ag.A s.ag.n s.ag.c,.int .i64 p,.int .i64 u] w' fun v _=>v = .tuple #[.agg (az x).toArray,.bool true]:=fun p u k hk x hx hp hb w' h=>(cL p u w' h).mono fun v w2 _ hv=>by
     obtain ⟨y,hy,rfl⟩:=hv;rw [hy.GR hk hp hb,hx]
    clear cL;refine Wz ?_
    obtain ⟨K,hK⟩ : ∃ K:Env→World→Prop,K=fun L' w' => ∃ (f:Bool) (x:Block),ev L' [(1,.int .i64 o),(2,.int .i64 t),(3,.pointer (some ⟨b3,0,none⟩)),(6,.pointer (some ⟨b6,0,none⟩)),(9,.pointer (some ⟨b9,0,none⟩)),(10,.pointer (some ⟨kn,0,none⟩)),(11,.bool f)]∧Ext w w'∧aJ w' b3 59 (bo r)∧aJ w' b6 59 (bo .zero)∧aJ w' b9 59 (bo s)∧aJ w' kn 77 (az x) ∧
     Own w' w.heap.size 77 3 az s.ag.A s.ag.n s.ag.c z.ag∧Own w' w.heap.size 3 1 bh s.Types.A s.Types.n s.Types.c z.Types∧((f=false ∧ ∀ m,m<5→eB z.ag o t m=false) ∨ ∃ (k:Nat) (hk:k<z.ag.length),f=true∧x=z.ag[k]∧dT z.ag o t (some (k,false))):=⟨_,rfl⟩
    refine CW.wq K ?_ ?_
    ·refine CW.loop (fun u:Nat×Bool×Block=>[(1,.int .i64 o),(2,.int .i64 t),(3,.pointer (some ⟨b3,0,none⟩)),(6,.pointer (some ⟨b6,0,none⟩)),(9,.pointer (some ⟨b9,0,none⟩)),(10,.pointer (some ⟨kn,0,none⟩)),(11,.bool u.2.1),(12,.int .i64 (o+(u.1:Int)))])
      (fun u w'=>Ext w w'∧aJ w' b3 59 (bo r)∧aJ w' b6 59 (bo .zero)∧aJ w' b9 59 (bo s)∧aJ w' kn 77 (az u.2.2)∧Own w' w.heap.size 77 3 az s.ag.A s.ag.n s.ag.c z.ag∧Own w' w.heap.size 3 1 bh s.Types.A s.Types.n s.Types.c z.Types∧(u.1:Int)≤5-o ∧
        ((u.2.1=false ∧ ∀ m,m<u.1→eB z.ag o t m=false) ∨ ∃ (k:Nat) (hk:k<z.ag.length),u.2.1=true∧u.2.2=z.ag[k]∧dT z.ag o t (some (k,false)))) (fun u=>if u.2.1=true then 0 else 7-u.1) (0,false,⟨0,0,0⟩)
      ⟨rfl,rfl,rfl,rfl,rfl,rfl,rfl,congrArg (fun z=>some (Value.int .i64 z)) (by simp),trivial⟩ ⟨hw,ar,ax,bk,aP,hX,hT,by simp only;omega,.inl ⟨rfl,fun m h=>by simp only at h;omega⟩⟩ ?_
     clear hw ar ax bk aP hX hT;rintro ⟨j,f,x⟩ w' ⟨hw,ar,ax,bk,aP,hX,hT,hj,hI⟩
     simp only at aP hj hI ⊢;rcases hI with ⟨rfl,hI⟩|⟨k,hk,rfl,Fl,hP⟩
     ·by_cases hp:o+(j:Int)≤4
      ·have Ci:j<5:=by omega
       have FY:=wD (l:=z.ag) (o:=o) (t:=t) Ci hp;cases dS:z.ag.any (fV (o+(j:Int)) t)
       ·have c2:=IW (o+(j:Int)) t dS;repeat' (first|refine Wz ?_|(refine CW.bF rfl ?_)|(refine SW.call rfl rfl (c2 _ hX.sl) ?_;intro v w1 ab hv;subst hv;replace hw:=Ext.trans hw ab;replace ar:=ar.ext ab;replace ax:=ax.ext ab;replace bk:=bk.ext ab;replace aP:=aP.ext ab;replace hX:=hX.ext ab;replace hT:=hT.ext ab;clear ab))
        refine SW.ap aP rfl rfl rfl rfl (fB.one (enc:=az) ⟨0,0,0⟩) fun w6 dW hg => ?_
        have hG:=aP.gr hg;replace hw:=hw.own xH hg;replace hX:=hX.grown hg (.inr jr);(replace ar:=ar.ay hG rfl;replace ax:=ax.ay hG rfl;replace bk:=bk.ay hG rfl;replace hT:=hT.ay hG rfl);refine Wz ?_;refine ae.again (j+1,false,⟨0,0,0⟩) ⟨rfl,rfl,rfl,rfl,rfl,rfl,rfl,congrArg (fun z=>some (Value.int .i64 z)) (by simp only;omega),trivial⟩ (by simp<;>omega) ⟨hw,ar,ax,bk,dW,hX,hT,by simp only;omega,.inl ⟨rfl,fun m h => ?_⟩⟩;simp only at h;by_cases e:m=j
        ·subst e;rw [FY,dS]
        ·exact hI m (by omega)
       ·obtain ⟨k,hk,xN,mG,qX⟩:=nq dS;obtain ⟨y,hy⟩ : ∃ y,z.ag[k]=y:=⟨_,rfl⟩;have c2:=IX (o+(j:Int)) t k hk y hy xN mG;repeat' (first|refine Wz ?_|(refine CW.bF rfl ?_)|(refine SW.call rfl rfl (c2 _ hX.sl) ?_;intro v w1 ab hv;subst hv;replace hw:=Ext.trans hw ab;replace ar:=ar.ext ab;replace ax:=ax.ext ab;replace bk:=bk.ext ab;replace aP:=aP.ext ab;replace hX:=hX.ext ab;replace hT:=hT.ext ab;clear ab))
        refine SW.ap aP rfl rfl rfl rfl (fB.one (enc:=az) y) fun w6 dW hg => ?_
        have hG:=aP.gr hg;replace hw:=hw.own xH hg;replace hX:=hX.grown hg (.inr jr);(replace ar:=ar.ay hG rfl;replace ax:=ax.ay hG rfl;replace bk:=bk.ay hG rfl;replace hT:=hT.ay hG rfl)
        have hP:dT z.ag o t (some (k,false)):=by
         have:=dT.hit (l:=z.ag) (o:=o) (t:=t) (n:=j) (k:=k) (by omega) (by rw [FY,dS]) hI hk (by rw [lN Ci,r6 Ci];exact xN) (by rw [lN Ci,r6 Ci];exact mG)
         rwa [decide_eq_false (by omega)] at this
        refine Wz ?_;exact ae.again (j+1,true,y) ⟨rfl,rfl,rfl,rfl,rfl,rfl,rfl,congrArg (fun z=>some (Value.int .i64 z)) (by simp only;omega),trivial⟩ (by simp<;>omega) ⟨hw,ar,ax,bk,dW,hX,hT,by simp only;omega,.inr ⟨k,hk,rfl,hy.symm,hP⟩⟩
      ·refine Wz ?_
       have F0:∀ m,m<5→eB z.ag o t m=false:=fun m hm=>by
        by_cases e:m<j
        ·exact hI m e
        ·exact r9 (by rw [lN hm];omega)
       exact ae.kq (K:=K) (by rw [hK];exact ⟨false,x,⟨rfl,rfl,rfl,rfl,rfl,rfl,rfl,trivial⟩,hw,ar,ax,bk,aP,hX,hT,.inl ⟨rfl,F0⟩⟩)
     ·by_cases hp:o+(j:Int)≤4
      all_goals
       repeat' (first|refine Wz ?_|(refine CW.bA rfl ?_))
       exact ae.kq (K:=K) (by rw [hK];exact ⟨true,x,⟨rfl,rfl,rfl,rfl,rfl,rfl,rfl,trivial⟩,hw,ar,ax,bk,aP,hX,hT,.inr ⟨k,hk,rfl,Fl,hP⟩⟩)
    ·clear hw ar ax bk aP hX hT;subst hK;rintro L' w' ⟨f0,x0,fq,hw,ar,ax,bk,aP,hX,hT,Cj⟩
     refine ae.sub fq ?_;clear fq;refine Wz ?_
     obtain ⟨K,hK⟩ : ∃ K:Env→World→Prop,K=fun L' w' => ∃ (f:Bool) (x:Block) (F:List Block) (T:List Int),ev L' [(1,.int .i64 o),(2,.int .i64 t),(3,.pointer (some ⟨b3,0,none⟩)),(6,.pointer (some ⟨b6,0,none⟩)),(9,.pointer (some ⟨b9,0,none⟩)),(10,.pointer (some ⟨kn,0,none⟩)),(11,.bool f)]∧Ext w w'∧aJ w' b3 59 (bo r)∧aJ w' b6 59 (bo .zero)∧aJ w' b9 59 (bo s)∧aJ w' kn 77 (az x) ∧
      Own w' w.heap.size 77 3 az s.ag.A s.ag.n s.ag.c F∧Own w' w.heap.size 3 1 bh s.Types.A s.Types.n s.Types.c T∧((f=false ∧ ∀ m,m<15→eB z.ag o t m=false) ∨ ∃ (k:Nat) (st:Bool) (hk:k<z.ag.length),f=true∧x=⟨z.ag[k].At,z.ag[k].Order,kS z t st z.ag[k]⟩∧dT z.ag o t (some (k,st))∧F=eD z z.ag[k] t st∧T=if st=true then dz z z.ag[k] t else z.Types):=⟨_,rfl⟩
     refine CW.wq K ?_ ?_
     ·refine CW.loop (fun u:Nat×Bool×Block×List Block×List Int=>[(1,.int .i64 o),(2,.int .i64 t),(3,.pointer (some ⟨b3,0,none⟩)),(6,.pointer (some ⟨b6,0,none⟩)),(9,.pointer (some ⟨b9,0,none⟩)),(10,.pointer (some ⟨kn,0,none⟩)),(11,.bool u.2.1),(13,.int .i64 (4-(u.1:Int)))])
       (fun u w'=>Ext w w'∧aJ w' b3 59 (bo r)∧aJ w' b6 59 (bo .zero)∧aJ w' b9 59 (bo s)∧aJ w' kn 77 (az u.2.2.1)∧Own w' w.heap.size 77 3 az s.ag.A s.ag.n s.ag.c u.2.2.2.1∧Own w' w.heap.size 3 1 bh s.Types.A s.Types.n s.Types.c u.2.2.2.2∧(u.1:Int)≤5-o ∧
         ((u.2.1=false∧(∀ m,m<5+2*u.1→eB z.ag o t m=false)∧u.2.2.2.1=z.ag∧u.2.2.2.2=z.Types) ∨ ∃ (k:Nat) (st:Bool) (hk:k<z.ag.length),u.2.1=true∧u.2.2.1=⟨z.ag[k].At,z.ag[k].Order,kS z t st z.ag[k]⟩∧dT z.ag o t (some (k,st))∧u.2.2.2.1=eD z z.ag[k] t st∧u.2.2.2.2=if st=true then dz z z.ag[k] t else z.Types)) (fun u=>if u.2.1=true then 0 else 7-u.1) (0,f0,x0,z.ag,z.Types)
       ⟨rfl,rfl,rfl,rfl,rfl,rfl,rfl,rfl,trivial⟩ ⟨hw,ar,ax,bk,aP,hX,hT,by simp only;omega,?_⟩ ?_
      ·rcases Cj with ⟨rfl,Cj⟩|⟨k,hk,rfl,rfl,hP⟩
       ·exact .inl ⟨rfl,fun m h=>Cj m (by simp only at h;omega),rfl,rfl⟩
       ·exact .inr ⟨k,false,hk,rfl,by simp [kS],hP,rfl,rfl⟩
      clear hw ar ax bk aP hX hT Cj;rintro ⟨j,f,x,F,T⟩ w' ⟨hw,ar,ax,bk,aP,hX,hT,hj,hI⟩
      simp only at aP hX hT hj hI ⊢;rcases hI with ⟨rfl,hI,rfl,rfl⟩|⟨k,st,hk,rfl,Fl,hP,hF,D7⟩
      ·by_cases hp:o≤4-(j:Int)
       ·have G9:=wF (l:=z.ag) (t:=t) hp;have D8:=wG (l:=z.ag) (t:=t) hp;repeat' (first|refine Wz ?_|(refine CW.bF rfl ?_))
        refine SW.call rfl rfl (tm t _ nn) fun v w4 aj hv => ?_
        obtain ⟨U,rfl,hU⟩:=hv;replace hU:=hU.low hw.size;(replace hw:=Ext.trans hw aj;replace ar:=ar.ext aj;replace ax:=ax.ext aj;replace bk:=bk.ext aj;replace aP:=aP.ext aj;replace hX:=hX.ext aj;replace hT:=hT.ext aj);refine Wz ?_
        obtain ⟨K2,GU⟩ : ∃ K2:Env→World→Prop,K2=fun L' w' => ∃ (f:Bool) (x:Block),ev L' [(1,.int .i64 o),(2,.int .i64 t),(3,.pointer (some ⟨b3,0,none⟩)),(6,.pointer (some ⟨b6,0,none⟩)),(9,.pointer (some ⟨b9,0,none⟩)),(10,.pointer (some ⟨kn,0,none⟩)),(11,.bool f),(13,.int .i64 (4-(j:Int)))]∧Ext w w'∧aJ w' b3 59 (bo r)∧aJ w' b6 59 (bo .zero)∧aJ w' b9 59 (bo s)∧aJ w' kn 77 (az x) ∧
         Own w' w.heap.size 77 3 az s.ag.A s.ag.n s.ag.c z.ag∧Own w' w.heap.size 3 1 bh s.Types.A s.Types.n s.Types.c z.Types∧((f=false ∧ ∀ m,m<5+2*(j+1)→eB z.ag o t m=false) ∨ ∃ (k:Nat) (hk:k<z.ag.length),f=true∧x=z.ag[k]∧z.ag[k].Order=4-(j:Int)∧dT z.ag o t (some (k,true))):=⟨_,rfl⟩
        refine CW.wq K2 ?_ ?_
        ·refine CW.loop (fun u:Nat×Bool×Block=>[(1,.int .i64 o),(2,.int .i64 t),(3,.pointer (some ⟨b3,0,none⟩)),(6,.pointer (some ⟨b6,0,none⟩)),(9,.pointer (some ⟨b9,0,none⟩)),(10,.pointer (some ⟨kn,0,none⟩)),(11,.bool u.2.1),(13,.int .i64 (4-(j:Int))),(14,.slice U 2 2),(15,.int .i64 (u.1:Int))])
          (fun u w'=>u.1≤2∧Ext w w'∧aJ w' b3 59 (bo r)∧aJ w' b6 59 (bo .zero)∧aJ w' b9 59 (bo s)∧aJ w' kn 77 (az u.2.2)∧Own w' w.heap.size 77 3 az s.ag.A s.ag.n s.ag.c z.ag∧Own w' w.heap.size 3 1 bh s.Types.A s.Types.n s.Types.c z.Types∧Own w' w.heap.size 3 1 bh U 2 2 [mN t,mO t] ∧
            ((u.2.1=false ∧ ∀ m,m<5+2*j+u.1→eB z.ag o t m=false) ∨ ∃ (k:Nat) (hk:k<z.ag.length),u.2.1=true∧u.2.2=z.ag[k]∧z.ag[k].Order=4-(j:Int)∧dT z.ag o t (some (k,true)))) (fun u=>if u.2.1=true then 0 else 7-u.1) (0,false,x)
          ⟨rfl,rfl,rfl,rfl,rfl,rfl,rfl,rfl,rfl,rfl,trivial⟩ ⟨by simp only;omega,hw,ar,ax,bk,aP,hX,hT,hU,.inl ⟨rfl,hI⟩⟩ ?_
         clear hw ar ax bk aP hX hT hU hI;rintro ⟨v,f,x⟩ w' ⟨Lw,hw,ar,ax,bk,aP,hX,hT,hU,hI⟩
         simp only at Lw aP hI ⊢;rcases hI with ⟨rfl,hI⟩|⟨k,hk,rfl,Fl,Ft,hP⟩
         ·rcases (show v=0∨v=1∨v=2 by omega) with rfl|rfl|rfl
          ·have hV : 0<2:=by omega
           have NU:=hU.sl.base;cases dS:z.ag.any (fV (4-(j:Int)) (mN t))
           ·have c2:=IW (4-(j:Int)) (mN t) dS;repeat' (first|refine Wz ?_|(refine CW.bF rfl ?_))
            refine CW.iO 11 12 (fun _=>True) mixed (by kernel_rfl) fun w1 ab aG => ?_
            replace hw:=Ext.trans hw ab;replace ar:=ar.ext ab;replace ax:=ax.ext ab;replace bk:=bk.ext ab;replace aP:=aP.ext ab;replace hX:=hX.ext ab;replace hT:=hT.ext ab;replace hU:=hU.ext ab;clear ab;refine Wf ?_;refine SF.take 6 [] [] aG rfl (by kernel_rfl) (by kernel_rfl) (by kernel_rfl) ?_;repeat ((show SW _ _ _ _ (⟨_,Op.load _ _,_,_,_,none⟩::_) _ _;refine SW.st (ak rfl (hU.sl.one hV (u := .int .i64 (mN t)) rfl)) rfl ?_))
            refine SW.ah ?_;refine SF.one 7 rfl (by kernel_rfl) rfl ?_;refine SW.call rfl rfl (c2 _ hX.sl) fun v w4 aj hv => ?_
            subst hv;(replace hw:=Ext.trans hw aj;replace ar:=ar.ext aj;replace ax:=ax.ext aj;replace bk:=bk.ext aj;replace aP:=aP.ext aj;replace hX:=hX.ext aj;replace hT:=hT.ext aj;replace hU:=hU.ext aj);refine SW.nil (ae.sf aj ?_);refine Wf ?_;refine SF.dG 10 [] aG rfl (by kernel_rfl) (by kernel_rfl) (by kernel_rfl) (bc rfl) (fun w2 hS=>bc rfl) rfl ?_;refine SF.turn rfl (by kernel_rfl) rfl ?_;refine SW.ap aP rfl rfl rfl rfl (fB.one (enc:=az) ⟨0,0,0⟩) fun w6 dW hg => ?_
            have hG:=aP.gr hg;have hS:True:=trivial
            replace hw:=hw.own xH hg;replace hX:=hX.grown hg (.inr jr);(replace ar:=ar.ay hG rfl;replace ax:=ax.ay hG rfl;replace bk:=bk.ay hG rfl;replace hT:=hT.ay hG rfl;replace hU:=hU.ay hG rfl);refine SW.nil (ae.sg hS ?_);refine SG.last rfl (by kernel_rfl) (by kernel_rfl) ?_;refine Wz ?_;refine ae.again (0+1,false,⟨0,0,0⟩) ⟨rfl,rfl,rfl,rfl,rfl,rfl,rfl,rfl,rfl,rfl,trivial⟩ (by simp<;>omega) ⟨by simp only;omega,hw,ar,ax,bk,dW,hX,hT,hU,.inl ⟨rfl,fun m h => ?_⟩⟩;simp only at h;by_cases e:m=5+2*j+0
            ·subst e;exact G9.trans dS
            ·exact hI m (by omega)
           ·obtain ⟨k,hk,xN,mG,qX⟩:=nq dS;obtain ⟨y,hy⟩ : ∃ y,z.ag[k]=y:=⟨_,rfl⟩;have c2:=IX (4-(j:Int)) (mN t) k hk y hy xN mG
            have hP:dT z.ag o t (some (k,true)):=by
             have:=dT.hit (l:=z.ag) (o:=o) (t:=t) (n:=5+2*j+0) (k:=k) (by omega) (G9.trans dS) hI hk (by have e1:=oW (o:=o) (j:=j);have e2:=r7 (t:=t) (j:=j);(try simp only [Nat.add_zero] at *);rw [e1,e2];exact xN) (by have e1:=oW (o:=o) (j:=j);have e2:=r7 (t:=t) (j:=j);(try simp only [Nat.add_zero] at *);rw [e1,e2];exact mG)
             rwa [decide_eq_true (by omega)] at this
            have Ft:=(lh.1 xN).1;repeat' (first|refine Wz ?_|(refine CW.bF rfl ?_))
            refine CW.iO 11 12 (fun _=>True) mixed (by kernel_rfl) fun w1 ab aG => ?_
            replace hw:=Ext.trans hw ab;replace ar:=ar.ext ab;replace ax:=ax.ext ab;replace bk:=bk.ext ab;replace aP:=aP.ext ab;replace hX:=hX.ext ab;replace hT:=hT.ext ab;replace hU:=hU.ext ab;clear ab;refine Wf ?_;refine SF.take 6 [] [] aG rfl (by kernel_rfl) (by kernel_rfl) (by kernel_rfl) ?_;repeat ((show SW _ _ _ _ (⟨_,Op.load _ _,_,_,_,none⟩::_) _ _;refine SW.st (ak rfl (hU.sl.one hV (u := .int .i64 (mN t)) rfl)) rfl ?_))
            refine SW.ah ?_;refine SF.one 7 rfl (by kernel_rfl) rfl ?_;refine SW.call rfl rfl (c2 _ hX.sl) fun v w4 aj hv => ?_
            subst hv;(replace hw:=Ext.trans hw aj;replace ar:=ar.ext aj;replace ax:=ax.ext aj;replace bk:=bk.ext aj;replace aP:=aP.ext aj;replace hX:=hX.ext aj;replace hT:=hT.ext aj;replace hU:=hU.ext aj);refine SW.nil (ae.sf aj ?_);refine Wf ?_;refine SF.dG 10 [] aG rfl (by kernel_rfl) (by kernel_rfl) (by kernel_rfl) (bc rfl) (fun w2 hS=>bc rfl) rfl ?_;refine SF.turn rfl (by kernel_rfl) rfl ?_;refine SW.ap aP rfl rfl rfl rfl (fB.one (enc:=az) y) fun w6 dW hg => ?_
            have hG:=aP.gr hg;have hS:True:=trivial
            replace hw:=hw.own xH hg;replace hX:=hX.grown hg (.inr jr);(replace ar:=ar.ay hG rfl;replace ax:=ax.ay hG rfl;replace bk:=bk.ay hG rfl;replace hT:=hT.ay hG rfl;replace hU:=hU.ay hG rfl);refine SW.nil (ae.sg hS ?_);refine SG.last rfl (by kernel_rfl) (by kernel_rfl) ?_;refine Wz ?_;exact ae.again (0+1,true,y) ⟨rfl,rfl,rfl,rfl,rfl,rfl,rfl,rfl,rfl,rfl,trivial⟩ (by simp<;>omega) ⟨by simp only;omega,hw,ar,ax,bk,dW,hX,hT,hU,.inr ⟨k,hk,rfl,hy.symm,Ft,hP⟩⟩
          ·have hV : 1<2:=by omega
           have NU:=hU.sl.base;cases dS:z.ag.any (fV (4-(j:Int)) (mO t))
           ·have c2:=IW (4-(j:Int)) (mO t) dS;repeat' (first|refine Wz ?_|(refine CW.bF rfl ?_))
            refine CW.iO 11 12 (fun _=>True) mixed (by kernel_rfl) fun w1 ab aG => ?_
            replace hw:=Ext.trans hw ab;replace ar:=ar.ext ab;replace ax:=ax.ext ab;replace bk:=bk.ext ab;replace aP:=aP.ext ab;replace hX:=hX.ext ab;replace hT:=hT.ext ab;replace hU:=hU.ext ab;clear ab;refine Wf ?_;refine SF.take 6 [] [] aG rfl (by kernel_rfl) (by kernel_rfl) (by kernel_rfl) ?_;repeat ((show SW _ _ _ _ (⟨_,Op.load _ _,_,_,_,none⟩::_) _ _;refine SW.st (ak rfl (hU.sl.one hV (u := .int .i64 (mO t)) rfl)) rfl ?_))
            refine SW.ah ?_;refine SF.one 7 rfl (by kernel_rfl) rfl ?_;refine SW.call rfl rfl (c2 _ hX.sl) fun v w4 aj hv => ?_
            subst hv;(replace hw:=Ext.trans hw aj;replace ar:=ar.ext aj;replace ax:=ax.ext aj;replace bk:=bk.ext aj;replace aP:=aP.ext aj;replace hX:=hX.ext aj;replace hT:=hT.ext aj;replace hU:=hU.ext aj);refine SW.nil (ae.sf aj ?_);refine Wf ?_;refine SF.dG 10 [] aG rfl (by kernel_rfl) (by kernel_rfl) (by kernel_rfl) (bc rfl) (fun w2 hS=>bc rfl) rfl ?_;refine SF.turn rfl (by kernel_rfl) rfl ?_;refine SW.ap aP rfl rfl rfl rfl (fB.one (enc:=az) ⟨0,0,0⟩) fun w6 dW hg => ?_
            have hG:=aP.gr hg;have hS:True:=trivial
            replace hw:=hw.own xH hg;replace hX:=hX.grown hg (.inr jr);(replace ar:=ar.ay hG rfl;replace ax:=ax.ay hG rfl;replace bk:=bk.ay hG rfl;replace hT:=hT.ay hG rfl;replace hU:=hU.ay hG rfl);refine SW.nil (ae.sg hS ?_);refine SG.last rfl (by kernel_rfl) (by kernel_rfl) ?_;refine Wz ?_;refine ae.again (1+1,false,⟨0,0,0⟩) ⟨rfl,rfl,rfl,rfl,rfl,rfl,rfl,rfl,rfl,rfl,trivial⟩ (by simp<;>omega) ⟨by simp only;omega,hw,ar,ax,bk,dW,hX,hT,hU,.inl ⟨rfl,fun m h => ?_⟩⟩;simp only at h;by_cases e:m=5+2*j+1
            ·subst e;exact D8.trans dS
            ·exact hI m (by omega)
           ·obtain ⟨k,hk,xN,mG,qX⟩:=nq dS;obtain ⟨y,hy⟩ : ∃ y,z.ag[k]=y:=⟨_,rfl⟩;have c2:=IX (4-(j:Int)) (mO t) k hk y hy xN mG
            have hP:dT z.ag o t (some (k,true)):=by
             have:=dT.hit (l:=z.ag) (o:=o) (t:=t) (n:=5+2*j+1) (k:=k) (by omega) (D8.trans dS) hI hk (by have e1:=oX (o:=o) (j:=j);have e2:=r8 (t:=t) (j:=j);(try simp only [Nat.add_zero] at *);rw [e1,e2];exact xN) (by have e1:=oX (o:=o) (j:=j);have e2:=r8 (t:=t) (j:=j);(try simp only [Nat.add_zero] at *);rw [e1,e2];exact mG)
             rwa [decide_eq_true (by omega)] at this
            have Ft:=(lh.1 xN).1;repeat' (first|refine Wz ?_|(refine CW.bF rfl ?_))
            refine CW.iO 11 12 (fun _=>True) mixed (by kernel_rfl) fun w1 ab aG => ?_
            replace hw:=Ext.trans hw ab;replace ar:=ar.ext ab;replace ax:=ax.ext ab;replace bk:=bk.ext ab;replace aP:=aP.ext ab;replace hX:=hX.ext ab;replace hT:=hT.ext ab;replace hU:=hU.ext ab;clear ab;refine Wf ?_;refine SF.take 6 [] [] aG rfl (by kernel_rfl) (by kernel_rfl) (by kernel_rfl) ?_;repeat ((show SW _ _ _ _ (⟨_,Op.load _ _,_,_,_,none⟩::_) _ _;refine SW.st (ak rfl (hU.sl.one hV (u := .int .i64 (mO t)) rfl)) rfl ?_))
            refine SW.ah ?_;refine SF.one 7 rfl (by kernel_rfl) rfl ?_;refine SW.call rfl rfl (c2 _ hX.sl) fun v w4 aj hv => ?_
            subst hv;(replace hw:=Ext.trans hw aj;replace ar:=ar.ext aj;replace ax:=ax.ext aj;replace bk:=bk.ext aj;replace aP:=aP.ext aj;replace hX:=hX.ext aj;replace hT:=hT.ext aj;replace hU:=hU.ext aj);refine SW.nil (ae.sf aj ?_);refine Wf ?_;refine SF.dG 10 [] aG rfl (by kernel_rfl) (by kernel_rfl) (by kernel_rfl) (bc rfl) (fun w2 hS=>bc rfl) rfl ?_;refine SF.turn rfl (by kernel_rfl) rfl ?_;refine SW.ap aP rfl rfl rfl rfl (fB.one (enc:=az) y) fun w6 dW hg => ?_
            have hG:=aP.gr hg;have hS:True:=trivial
            replace hw:=hw.own xH hg;replace hX:=hX.grown hg (.inr jr);(replace ar:=ar.ay hG rfl;replace ax:=ax.ay hG rfl;replace bk:=bk.ay hG rfl;replace hT:=hT.ay hG rfl;replace hU:=hU.ay hG rfl);refine SW.nil (ae.sg hS ?_);refine SG.last rfl (by kernel_rfl) (by kernel_rfl) ?_;refine Wz ?_;exact ae.again (1+1,true,y) ⟨rfl,rfl,rfl,rfl,rfl,rfl,rfl,rfl,rfl,rfl,trivial⟩ (by simp<;>omega) ⟨by simp only;omega,hw,ar,ax,bk,dW,hX,hT,hU,.inr ⟨k,hk,rfl,hy.symm,Ft,hP⟩⟩
          ·refine Wz ?_;exact ae.kq (K:=K2) (by rw [GU];exact ⟨false,x,⟨rfl,rfl,rfl,rfl,rfl,rfl,rfl,rfl,trivial⟩,hw,ar,ax,bk,aP,hX,hT,.inl ⟨rfl,fun m h=>hI m (by omega)⟩⟩)
         ·rcases (show v<2∨v=2 by omega) with AV|AV
          all_goals
           repeat' (first|refine Wz ?_|(refine CW.bA rfl ?_))
           exact ae.kq (K:=K2) (by rw [GU];exact ⟨true,x,⟨rfl,rfl,rfl,rfl,rfl,rfl,rfl,rfl,trivial⟩,hw,ar,ax,bk,aP,hX,hT,.inr ⟨k,hk,rfl,Fl,Ft,hP⟩⟩)
        ·clear hw ar ax bk aP hX hT hU hI G9 D8;subst GU;rintro L' w' ⟨f,x,fq,hw,ar,ax,bk,aP,hX,hT,hI⟩
         refine ae.sub fq ?_;clear fq IW IX;rcases hI with ⟨rfl,hI⟩|⟨k,hk,rfl,rfl,Ft,hP⟩
         ·refine Wz ?_;exact ae.again (j+1,false,x,z.ag,z.Types) ⟨rfl,rfl,rfl,rfl,rfl,rfl,rfl,congrArg (fun z=>some (Value.int .i64 z)) (by simp only;omega),trivial⟩ (by simp<;>omega) ⟨hw,ar,ax,bk,aP,hX,hT,by simp only;omega,.inl ⟨rfl,hI,rfl,rfl⟩⟩
         ·by_cases JJ : 4-(j:Int)<2
          ·obtain ⟨q1,q2,q3⟩:=Bn (z:=z) (b:=z.ag[k]) (t:=t) (st:=true) (by omega);refine Wz ?_;exact ae.again (j+1,true,z.ag[k],z.ag,z.Types) ⟨rfl,rfl,rfl,rfl,rfl,rfl,rfl,congrArg (fun z=>some (Value.int .i64 z)) (by simp only;omega),trivial⟩ (by simp<;>omega) ⟨hw,ar,ax,bk,aP,hX,hT,by simp only;omega,.inr ⟨k,true,hk,rfl,by simp only [q3],hP,q1.symm,q2.symm⟩⟩
          ·have NV : 2≤4-(j:Int):=by omega
           obtain ⟨⟨f1,f2,f3,f4,f5⟩,f6⟩:=hz.cU k hk
           have kI:∃ (k':Nat) (st:Bool) (oO:k'<z.ag.length),(⟨z.ag[k].At,z.ag[k].Order,t⟩ : Block)=⟨z.ag[k'].At,z.ag[k'].Order,kS z t st z.ag[k']⟩∧dT z.ag o t (some (k',st))∧eA z.ag z.ag[k] t=eD z z.ag[k'] t st∧dz z z.ag[k] t=if st=true then dz z z.ag[k'] t else z.Types :=
            ⟨k,true,hk,by unfold kS;rw [if_pos ⟨rfl,by omega⟩],hP,rfl,rfl⟩
           obtain ⟨x,hx⟩ : ∃ x,z.ag[k]=x:=⟨_,rfl⟩;simp only [hx] at Ft f1 f2 f3 f4 f5 aP kI;have cP:∀ w',bt Tryz.prog 81 [.int .i64 (4-(j:Int))] w' fun v _=>v = .int .i64 (pw x.Order):=fun w'=>by rw [Ft];exact dc _ (by omega) w'
           have Kw:=bG f1 f2;obtain ⟨wy,LF⟩:=GS (b:=x) (by omega) f2 f5;have NW:∀ c:Nat,(x.At / 8*8+8*(c:Int)-z.aW) / 8=((jm z x+c:Nat) : Int):=fun c=>by unfold jm;omega
           have Af:∀ c:Nat,c<BH x→jm z x+c<s.Types.n:=fun c hc=>by
            unfold BH at hc;unfold jm;have hlen:=hz.len;rcases eg f1 f2 with ⟨e1,e2⟩|⟨e1,e2⟩|⟨e1,e2⟩|⟨e1,e2⟩|⟨e1,e2⟩<;>rw [e2] at f5<;>split at hc<;>omega
           have tH:BH x≤2:=by unfold BH;split<;>omega
           repeat' (first|refine Wz ?_|((apply CW.aO mixed;(· kernel_rfl);rotate_left;intro w1 ab;replace hw:=Ext.trans hw ab;replace ar:=ar.ext ab;replace ax:=ax.ext ab;replace bk:=bk.ext ab;replace aP:=aP.ext ab;replace hX:=hX.ext ab;replace hT:=hT.ext ab;clear ab;rotate_right))|refine SW.bq rfl rfl (fun w1 ab=>(cP _)) ?_|exact SW.bx rfl)
           refine CW.loop (fun c:Nat=>[(1,.int .i64 o),(2,.int .i64 t),(3,.pointer (some ⟨b3,0,none⟩)),(6,.pointer (some ⟨b6,0,none⟩)),(9,.pointer (some ⟨b9,0,none⟩)),(10,.pointer (some ⟨kn,0,none⟩)),(11,.bool true),(13,.int .i64 (4-(j:Int))),(16,.int .i64 (x.At / 8*8)),(17,.int .i64 (mq x-8)),(18,.int .i64 (x.At / 8*8+8*(c:Int)))])
            (fun c w'=>c≤BH x∧Ext w w'∧aJ w' b3 59 (bo r)∧aJ w' b6 59 (bo .zero)∧aJ w' b9 59 (bo s)∧aJ w' kn 77 (az x) ∧
              Own w' w.heap.size 77 3 az s.ag.A s.ag.n s.ag.c z.ag∧Own w' w.heap.size 3 1 bh s.Types.A s.Types.n s.Types.c (Bl z.Types (jm z x) t c)) (fun c=>BH x-c) 0
            ⟨rfl,rfl,rfl,rfl,rfl,rfl,rfl,rfl,rfl,congrArg (fun z=>some (Value.int .i64 z)) wy,congrArg (fun z=>some (Value.int .i64 z)) (by omega),trivial⟩ ⟨by omega,hw,ar,ax,bk,aP,hX,hT⟩ ?_
           clear hw ar ax bk aP hX hT;rintro c w' ⟨hc,hw,ar,ax,bk,aP,hX,hT⟩
           by_cases Me:c<BH x
           ·have MH:=NW c;have cf:=Af c Me;have MF:=hT.sl.base;repeat' (first|refine Wz ?_|refine SW.st (aY (jm z x+c) rfl rfl (by assumption) (by omega) (by omega)) rfl ?_)
            refine SW.jX (jm z x+c) hT rfl rfl cf fun w5 D6 hg => ?_
            have hG:=hT.gr hg;replace hw:=aE hw hg (Nat.le_refl _) hT.aM;(replace ar:=ar.ay hG rfl;replace ax:=ax.ay hG rfl;replace bk:=bk.ay hG rfl;replace aP:=aP.ay hG rfl;replace hX:=hX.ay hG rfl);rw [Bm (by omega)] at D6;refine Wz ?_;exact ae.again (c+1) ⟨rfl,rfl,rfl,rfl,rfl,rfl,rfl,rfl,rfl,rfl,congrArg (fun z=>some (Value.int .i64 z)) (by omega),trivial⟩ (by omega) ⟨by omega,hw,ar,ax,bk,aP,hX,D6⟩
           ·obtain rfl:c=BH x:=by omega
            rw [Dn (by omega)] at hT;refine Wz ?_;obtain ⟨f,hf⟩ : ∃ f,BA (x.At / 8*8) (mq x) t=f:=⟨_,rfl⟩
            refine CW.loop (fun i:Nat=>[(1,.int .i64 o),(2,.int .i64 t),(3,.pointer (some ⟨b3,0,none⟩)),(6,.pointer (some ⟨b6,0,none⟩)),(9,.pointer (some ⟨b9,0,none⟩)),(10,.pointer (some ⟨kn,0,none⟩)),(11,.bool true),(13,.int .i64 (4-(j:Int))),(16,.int .i64 (x.At / 8*8)),(17,.int .i64 (mq x-8)),(19,.int .i64 (i:Int))])
             (fun i w'=>i≤s.ag.n∧Ext w w'∧aJ w' b3 59 (bo r)∧aJ w' b6 59 (bo .zero)∧aJ w' b9 59 (bo s)∧aJ w' kn 77 (az x) ∧
               Own w' w.heap.size 77 3 az s.ag.A s.ag.n s.ag.c (iL f z.ag i)∧Own w' w.heap.size 3 1 bh s.Types.A s.Types.n s.Types.c (dz z x t)) (fun i=>s.ag.n-i) 0
             ⟨rfl,rfl,rfl,rfl,rfl,rfl,rfl,rfl,rfl,rfl,rfl,trivial⟩ ⟨by omega,hw,ar,ax,bk,aP,by rw [sd];exact hX,hT⟩ ?_
            clear hw ar ax bk aP hX hT hc Me;rintro i w' ⟨hi,hw,ar,ax,bk,aP,hX,hT⟩
            have hA:=hX.sl.base;by_cases cf:i<s.ag.n
            ·have kE:i<z.ag.length:=by omega
             obtain ⟨g1,g2,g3,g4,g5⟩:=(hz.cU i kE).1;obtain ⟨y,hy⟩ : ∃ y,z.ag[i]=y:=⟨_,rfl⟩;have kT:=pS (f:=f) kE;rw [hy] at g1 g2 g3 g4 g5 kT;have MI:=bG g1 g2;have y0:∀ w2,Own w2 w.heap.size 77 3 az s.ag.A s.ag.n s.ag.c (iL f z.ag i)→w2.cell? (((s.ag.A.getD default).add (i*3)).add 0)=some (.int .i64 y.At):=fun w2 h=>h.sl.dv cf (by rw [kT];rfl)
             have y1:∀ w2,Own w2 w.heap.size 77 3 az s.ag.A s.ag.n s.ag.c (iL f z.ag i)→w2.cell? (((s.ag.A.getD default).add (i*3)).add 1)=some (.int .i64 y.Order):=fun w2 h=>h.sl.dv cf (by rw [kT];rfl)
             have cY:∀ w',bt Tryz.prog 81 [.int .i64 y.Order] w' fun v _=>v = .int .i64 (pw y.Order):=fun w'=>dc _ (by omega) w'
             by_cases wI:x.At / 8*8≤y.At∧y.At+pw y.Order≤mq x
             ·have FZ:f y=⟨y.At,y.Order,t⟩:=by rw [← hf];unfold BA;rw [if_pos wI]
              repeat' (first|refine Wz ?_|((apply CW.aO mixed;(· kernel_rfl);rotate_left;intro w1 ab;replace hw:=Ext.trans hw ab;replace ar:=ar.ext ab;replace ax:=ax.ext ab;replace bk:=bk.ext ab;replace aP:=aP.ext ab;replace hX:=hX.ext ab;replace hT:=hT.ext ab;clear ab;rotate_right))|refine SW.st (ak rfl (y0 _ hX)) rfl ?_|refine SW.st (ak rfl (y1 _ hX)) rfl ?_|refine SW.bq rfl rfl (fun w1 ab=>(bM _ _ _ _)) ?_|refine SW.bq rfl rfl (fun w1 ab=>(cY _)) ?_|exact SW.bx rfl)
              all_goals try omega
              refine SW.gH i 2 ⟨y.At,y.Order,t⟩ hX rfl rfl rfl cf (by decide) rfl (by rw [kT];rfl) fun w5 tA hg => ?_
              have hG:=hX.gr hg;replace hw:=aE hw hg (Nat.le_refl _) hX.aM;replace aP:=aP.grown hg (fun e=>jr e.symm);(replace ar:=ar.ay hG rfl;replace ax:=ax.ay hG rfl;replace bk:=bk.ay hG rfl;replace hT:=hT.ay hG rfl);rw [← FZ,← hy,pT kE] at tA;refine Wz ?_;exact ae.again (i+1) ⟨rfl,rfl,rfl,rfl,rfl,rfl,rfl,rfl,rfl,rfl,rfl,trivial⟩ (by omega) ⟨by omega,hw,ar,ax,bk,aP,tA,hT⟩
             ·have FZ:f y=y:=by rw [← hf];unfold BA;rw [if_neg wI]
              have EZ:=sc (f:=f) kE (by rw [hy];exact FZ);obtain ⟨bI,Mf⟩ : ∃ bI,decide (x.At / 8*8≤y.At∧y.At≤mq x-8+7)=bI:=⟨_,rfl⟩
              have cI:∀ w',bt Tryz.prog 20 [.int .i64 y.At,.int .i64 (x.At / 8*8),.int .i64 (mq x-8+7)] w' fun v _=>v = .bool bI:=fun w'=>by
               have:=bM y.At (x.At / 8*8) (mq x-8+7) w'
               rwa [Mf] at this
              cases bI
              ·repeat' (first|refine Wz ?_|((apply CW.aO mixed;(· kernel_rfl);rotate_left;intro w1 ab;replace hw:=Ext.trans hw ab;replace ar:=ar.ext ab;replace ax:=ax.ext ab;replace bk:=bk.ext ab;replace aP:=aP.ext ab;replace hX:=hX.ext ab;replace hT:=hT.ext ab;clear ab;rotate_right))|refine SW.st (ak rfl (y0 _ hX)) rfl ?_|refine SW.bq rfl rfl (fun w1 ab=>(cI _)) ?_|exact SW.bx rfl)
               exact ae.again (i+1) ⟨rfl,rfl,rfl,rfl,rfl,rfl,rfl,rfl,rfl,rfl,rfl,trivial⟩ (by omega) ⟨by omega,hw,ar,ax,bk,aP,by rw [EZ];exact hX,hT⟩
              ·have OD:=of_decide_eq_true Mf;repeat' (first|refine Wz ?_|((apply CW.aO mixed;(· kernel_rfl);rotate_left;intro w1 ab;replace hw:=Ext.trans hw ab;replace ar:=ar.ext ab;replace ax:=ax.ext ab;replace bk:=bk.ext ab;replace aP:=aP.ext ab;replace hX:=hX.ext ab;replace hT:=hT.ext ab;clear ab;rotate_right))|refine SW.st (ak rfl (y0 _ hX)) rfl ?_|refine SW.st (ak rfl (y1 _ hX)) rfl ?_|refine SW.bq rfl rfl (fun w1 ab=>(cI _)) ?_|refine SW.bq rfl rfl (fun w1 ab=>(cY _)) ?_|exact SW.bx rfl)
               exact ae.again (i+1) ⟨rfl,rfl,rfl,rfl,rfl,rfl,rfl,rfl,rfl,rfl,rfl,trivial⟩ (by omega) ⟨by omega,hw,ar,ax,bk,aP,by rw [EZ];exact hX,hT⟩
            ·obtain rfl:i=s.ag.n:=by omega
             rw [es,uw,← hf] at hX;have EN:Own w' w.heap.size 77 3 az s.ag.A s.ag.n s.ag.c (eA z.ag x t):=by rw [eA,if_neg (by omega),es];exact hX
             refine Wz ?_;refine SW.bB (i:=2) aP rfl rfl rfl rfl fun w6 dW hg => ?_
             have hG:=aP.gr hg;replace hw:=hw.own xH hg;replace EN:=EN.grown hg (.inr jr);(replace ar:=ar.ay hG rfl;replace ax:=ax.ay hG rfl;replace bk:=bk.ay hG rfl;replace hT:=hT.ay hG rfl);refine Wz ?_;exact ae.again (j+1,true,⟨x.At,x.Order,t⟩,eA z.ag x t,dz z x t) ⟨rfl,rfl,rfl,rfl,rfl,rfl,rfl,congrArg (fun z=>some (Value.int .i64 z)) (by simp only;omega),trivial⟩ (by simp<;>omega) ⟨hw,ar,ax,bk,dW,EN,hT,by simp only;omega,.inr (by obtain ⟨k',st,oO,e1,e2,e3,e4⟩:=kI;exact ⟨k',st,oO,rfl,e1,e2,e3,e4⟩)⟩
       ·refine Wz ?_
        have F0:∀ m,m<15→eB z.ag o t m=false:=fun m hm=>by
         by_cases e:m<5+2*j
         ·exact hI m e
         ·exact wH (j:=j) (by omega) (by omega)
        exact ae.kq (K:=K) (by rw [hK];exact ⟨false,x,z.ag,z.Types,⟨rfl,rfl,rfl,rfl,rfl,rfl,rfl,trivial⟩,hw,ar,ax,bk,aP,hX,hT,.inl ⟨rfl,F0⟩⟩)
      ·by_cases hp:o≤4-(j:Int)
       all_goals
        repeat' (first|refine Wz ?_|(refine CW.bA rfl ?_))
        exact ae.kq (K:=K) (by rw [hK];exact ⟨true,x,F,T,⟨rfl,rfl,rfl,rfl,rfl,rfl,rfl,trivial⟩,hw,ar,ax,bk,aP,hX,hT,.inr ⟨k,st,hk,rfl,Fl,hP,hF,D7⟩⟩)
     ·clear hw ar ax bk aP hX hT Cj;subst hK;rintro L' w' ⟨f,x,F,T,fq,hw,ar,ax,bk,aP,hX,hT,hI⟩
      refine ae.sub fq ?_;clear fq IW IX;rcases hI with ⟨rfl,hI⟩|⟨k,st,hk,rfl,rfl,hP,rfl,D7⟩
      ·repeat' (first|refine Wz ?_|(refine CW.bF rfl ?_))
       refine SW.ap ax rfl rfl rfl rfl (ct .zero) fun w5 bP hg => ?_
       replace hw:=hw.own di hg;refine Wz ?_;exact ae.dl rfl rfl rfl rfl bP rfl ⟨_,rfl,hw,_,.room hq ho nn (.vj hI),gE.zero 6 _ _⟩
      ·obtain ⟨_,Ha,Jf⟩:=hP.ord;obtain ⟨l1,l2,l3⟩:=oY hz (b:=z.ag[k]) nn st;have D9:k<(eD z z.ag[k] t st).length:=by omega
       have Ao:(eD z z.ag[k] t st)[k]=⟨z.ag[k].At,z.ag[k].Order,kS z t st z.ag[k]⟩:=pQ hz nn st hk
       obtain ⟨⟨f1,f2,f3,f4,f5⟩,f6⟩:=hz.cU k hk;have jc:gl z o t (mQ z o t z.ag[k] k st,z.ag[k].At,0) := .ok hq ho nn hk hP
       have hJ:=pP l2 l3 D9;have G7:(eD z z.ag[k] t st).eraseIdx k=c8 (eD z z.ag[k] t st) z.ag[k].At z.ag[k].Order:=nQ l2 l3 D9 (by rw [Ao]) (by rw [Ao])
       rw [Ao] at hJ;have BX:fi (kS z t st z.ag[k]):=by unfold kS;split<;>assumption
       obtain ⟨ty,F1⟩ : ∃ ty,kS z t st z.ag[k]=ty:=⟨_,rfl⟩
       have HQ:mQ z o t z.ag[k] k st=⟨z.aW,z.To,iR ty z.ag[k].At (z.ag[k].Order-o).toNat z.ag[k].Order ((eD z z.ag[k] t st).eraseIdx k),T⟩:=by
        rw [D7,← F1];rfl
       rw [HQ] at jc;rw [F1] at aP BX;clear HQ F1 D7 hP Ao l2 l3;obtain ⟨F,hF⟩ : ∃ F,eD z z.ag[k] t st=F:=⟨_,rfl⟩;simp only [hF] at hX l1 D9 hJ jc G7;obtain ⟨x,hx⟩ : ∃ x,z.ag[k]=x:=⟨_,rfl⟩;simp only [hx] at hJ jc f1 f2 f3 f4 f5 Ha Jf G7 aP;clear f6;repeat' (first|refine Wz ?_|(refine CW.bA rfl ?_))
       refine SW.call rfl rfl (qu s.ag.A s.ag.n s.ag.c F x.At x.Order _ hX.sl (by omega)) fun v w5 aj hv => ?_
       obtain ⟨B,c',rfl,hW⟩:=hv;rw [← G7] at hW;rw [← G7];replace hW:=hW.low hw.size;(replace hw:=Ext.trans hw aj;replace ar:=ar.ext aj;replace ax:=ax.ext aj;replace bk:=bk.ext aj;replace aP:=aP.ext aj;replace hT:=hT.ext aj);clear hX;refine Wz ?_;refine SW.bB (i:=2) bk rfl rfl rfl rfl fun w7 gg hg => ?_
       have hG:=bk.gr hg;replace hw:=hw.own KS hg;replace ax:=ax.grown hg (by simpa using Dp);(replace aP:=aP.ay hG rfl;replace hW:=hW.ay hG rfl;replace hT:=hT.ay hG rfl);replace bk:aJ w7 b9 59 [.int .i64 s.aW,.int .i64 s.To,.slice B (F.eraseIdx k).length c',.slice s.Types.A s.Types.n s.Types.c]:=gg;replace aP:aJ w7 kn 77 [.int .i64 x.At,.int .i64 x.Order,.int .i64 ty]:=aP;clear gg hg hG ar;have OE:(F.eraseIdx k).length≤F.length:=List.length_eraseIdx_le F k
       refine Wz ?_;obtain ⟨Aq,Ck⟩ : ∃ Aq,iR ty x.At (x.Order-o).toNat x.Order (F.eraseIdx k)=Aq:=⟨_,rfl⟩;rw [Ck] at jc
       refine CW.loop (fun u:Int×List Block×Option Addr×Nat=>[(1,.int .i64 o),(6,.pointer (some ⟨b6,0,none⟩)),(9,.pointer (some ⟨b9,0,none⟩)),(10,.pointer (some ⟨kn,0,none⟩)),(20,.int .i64 (u.1-1))])
        (fun u w'=>Ext w w'∧aJ w' b9 59 [.int .i64 s.aW,.int .i64 s.To,.slice u.2.2.1 u.2.1.length u.2.2.2,.slice s.Types.A s.Types.n s.Types.c]∧aJ w' b6 59 (bo .zero)∧aJ w' kn 77 [.int .i64 x.At,.int .i64 x.Order,.int .i64 ty] ∧
          Own w' w.heap.size 77 3 az u.2.2.1 u.2.1.length u.2.2.2 u.2.1∧Own w' w.heap.size 3 1 bh s.Types.A s.Types.n s.Types.c T∧ve z.aW z.To u.2.1 x.At u.1∧o≤u.1∧iR ty x.At (u.1-o).toNat u.1 u.2.1=Aq∧(u.2.1.length:Int)+u.1≤300) (fun u=>(u.1-o).toNat) (x.Order,F.eraseIdx k,B,c')
        ⟨rfl,rfl,rfl,rfl,rfl,trivial⟩ ⟨hw,bk,ax,aP,hW,hT,hJ,Ha,Ck,by simp only;omega⟩ ?_
       clear hw bk ax aP hW hT hJ;rintro ⟨q,l,A,c⟩ w' ⟨hw,bk,ax,aP,hX,hT,hJ,JW,qQ,hlen⟩
       simp only at bk hX hJ JW qQ hlen ⊢;have OF:=hJ.fit.2.1;by_cases MJ:o<q
       ·obtain ⟨k1,k2,k3,k4,k5⟩:=hJ.fit;obtain ⟨jL,HU⟩:=sb hJ o1 o3 o5 (by omega) BX;rw [show (q-o).toNat=(q-1-o).toNat+1 by omega,iR] at qQ;have EU:=bG (o:=q-1) (by omega) (by omega);have Ls:=B7 HU;have cP:∀ w',bt Tryz.prog 81 [.int .i64 (q-1)] w' fun v _=>v = .int .i64 (pw (q-1)):=fun w'=>dc _ (by omega) w'
        have F2:=uv ty x.At q l;refine Wz ?_;refine CW.any 12 mixed (cl (by kernel_rfl)) rfl fun w1 ab aG => ?_
        replace hw:=Ext.trans hw ab;replace ax:=ax.ext ab;replace bk:=bk.ext ab;replace aP:=aP.ext ab;replace hX:=hX.ext ab;replace hT:=hT.ext ab;clear ab;refine Wa ?_;refine SA.one 5 rfl (by kernel_rfl) rfl ?_;refine SW.call rfl rfl (cP _) fun v w4 aj hv => ?_
        subst hv;(replace hw:=Ext.trans hw aj;replace ax:=ax.ext aj;replace bk:=bk.ext aj;replace aP:=aP.ext aj;replace hX:=hX.ext aj;replace hT:=hT.ext aj);refine SW.nil (ae.sa aj ?_);refine Wa ?_;refine SA.one 11 rfl (by kernel_rfl) rfl ?_;refine SW.call rfl rfl (kQ A l.length c l ⟨x.At+pw (q-1),q-1,ty⟩ _ hX.sl (by omega)) fun v w4 aj hv => ?_
        obtain ⟨B2,c2,rfl,gx⟩:=hv;replace gx:=gx.low hw.size;(replace hw:=Ext.trans hw aj;replace ax:=ax.ext aj;replace bk:=bk.ext aj;replace aP:=aP.ext aj;replace hT:=hT.ext aj);refine SW.nil (ae.sa aj ?_);refine SA.done (by kernel_rfl) ?_;rw [Ls] at gx;replace gx:Own _ w.heap.size 77 3 az B2 (l.length+1) c2 (mP ty x.At q l):=gx;rw [← F2] at gx;rw [← F2];refine Wz ?_;refine SW.bB (i:=2) bk rfl rfl rfl rfl fun w8 gg hg => ?_
        have hG:=bk.gr hg;replace hw:=hw.own KS hg;replace ax:=ax.grown hg (by simpa using Dp);(replace aP:=aP.ay hG rfl;replace gx:=gx.ay hG rfl;replace hT:=hT.ay hG rfl);refine Wz ?_;exact ae.again (q-1,mP ty x.At q l,B2,c2) ⟨rfl,rfl,rfl,rfl,rfl,trivial⟩ (by simp only;omega) ⟨hw,gg,ax,aP,gx,hT,jL,by simp only;omega,qQ,by simp only;omega⟩
       ·obtain rfl:o=q:=by omega
        have wK:l=Aq:=by
         rw [← qQ,show (o-o).toNat=0 by omega];rfl
        rw [wK] at hX;rw [wK] at bk;refine Wz ?_;refine CW.iO 3 5 (fun w2=>aJ w2 kn 77 [.int .i64 x.At,.int .i64 x.Order,.int .i64 ty]) mixed (by kernel_rfl) fun w1 ab aG => ?_
        replace hw:=Ext.trans hw ab;replace ax:=ax.ext ab;replace bk:=bk.ext ab;replace aP:=aP.ext ab;replace hX:=hX.ext ab;replace hT:=hT.ext ab;clear ab;refine Wf ?_;refine SF.dG 1 [] aG rfl (by kernel_rfl) (by kernel_rfl) (by kernel_rfl) (aC rfl) (fun w2 hS=>aC rfl) rfl ?_;refine SF.dG 2 [] aG rfl (by kernel_rfl) (by kernel_rfl) (by kernel_rfl) (ak rfl (aP.cell (i:=0) (v := .int .i64 x.At) rfl)) (fun w2 hS=>ak rfl (hS.cell (i:=0) (v := .int .i64 x.At) rfl)) rfl ?_;refine SF.turn rfl (by kernel_rfl) rfl ?_;refine SW.ap ax rfl rfl rfl rfl (ct ⟨s.aW,s.To,⟨A,Aq.length,c⟩,s.Types⟩) fun w5 bP hg => ?_
        have hG:=ax.gr hg;have hS:=aP.ay hG rfl;replace hw:=hw.own di hg;(replace hX:=hX.ay hG rfl;replace hT:=hT.ay hG rfl);refine SW.nil (ae.sg hS ?_);refine SG.one 4 rfl (by kernel_rfl) rfl ?_;repeat (refine SW.pure rfl rfl ?_)
        refine SW.nil (ae.sg hS ?_);refine SG.last rfl (by kernel_rfl) (by kernel_rfl) ?_;refine Wz ?_;exact ae.dl rfl rfl rfl rfl bP rfl ⟨_,rfl,hw,_,jc,⟨s.aW,s.To,⟨A,Aq.length,c⟩,s.Types⟩,rfl,⟨sF,sT,hX,hT⟩⟩
   ·have qT:=nn;unfold fi at qT;repeat' (first|refine Wz ?_|(refine CW.bA rfl ?_)|((first|refine SW.call rfl rfl (c1 _ hw) ?_|refine SW.call rfl rfl (bM _ _ _ _) ?_);intro v w1 ab hv;subst hv;replace hw:=Ext.trans hw ab;replace ar:=ar.ext ab;replace ax:=ax.ext ab;clear ab))
    all_goals try omega
    refine SW.ap ax rfl rfl rfl rfl (ct .zero) fun w5 bP hg => ?_
    replace hw:=hw.own di hg;refine Wz ?_;exact ae.dl rfl rfl rfl rfl bP rfl ⟨_,rfl,hw,_,.kind hq ho nn,gE.zero 2 _ _⟩
  ·repeat' (first|refine Wz ?_|(refine CW.bA rfl ?_)|((first|refine SW.call rfl rfl (c1 _ hw) ?_|refine SW.call rfl rfl (bM _ _ _ _) ?_);intro v w1 ab hv;subst hv;replace hw:=Ext.trans hw ab;replace ar:=ar.ext ab;replace ax:=ax.ext ab;clear ab))
   all_goals try omega
   refine SW.ap ax rfl rfl rfl rfl (ct .zero) fun w5 bP hg => ?_
   replace hw:=hw.own di hg;refine Wz ?_;exact ae.dl rfl rfl rfl rfl bP rfl ⟨_,rfl,hw,_,.range hq ho,gE.zero 1 _ _⟩
open Go.RowKit
def lE (x:aB) (L:List aB) : List aB:=L.filter fun l => !decide (df l x)
theorem uW {L:List aB} {x:aB} {i:Nat} (hi:i<L.length) : lE x (L.take (i+1))=if df L[i] x then lE x (L.take i) else lE x (L.take i)++[L[i]]:=by
 unfold lE;rw [List.take_succ_eq_append_getElem hi,List.filter_append];by_cases h:df L[i] x
 ·simp [h]
 ·simp [h]
theorem Dq (x:aB) (L:List aB) (i:Nat) : (lE x (L.take i)).length≤i:=by
 unfold lE;exact Nat.le_trans (List.length_filter_le _ _) (by rw [List.length_take];omega)
theorem qN {L:List aB} {x:aB} (hs:rz L) : lE x L=if bT L x=true then L.eraseIdx (a8 L x) else L:=by
 unfold lE;split
 ·rename_i h;obtain ⟨hk,lT⟩:=je h;have e:L=L.take (a8 L x)++L[a8 L x]::L.drop (a8 L x+1):=by rw [← List.drop_eq_getElem_cons hk,List.take_append_drop]
  have h1:(L.take (a8 L x)).filter (fun l => !decide (df l x))=L.take (a8 L x):=by
   rw [List.filter_eq_self];intro z hz;obtain ⟨j,hj,rfl⟩:=List.getElem_of_mem hz;rw [List.length_take] at hj;rw [List.getElem_take];have:=(jV (lS (L:=L) (x:=x) (k:=j) (by omega))).1
   simpa using this
  have h2:(L.drop (a8 L x+1)).filter (fun l => !decide (df l x))=L.drop (a8 L x+1):=by
   rw [List.filter_eq_self];intro z hz;obtain ⟨j,hj,rfl⟩:=List.getElem_of_mem hz;rw [List.length_drop] at hj;rw [List.getElem_drop];have:=hs.get (show a8 L x+1+j<L.length by omega) (show a8 L x<a8 L x+1+j by omega)
   have hn : ¬ df L[a8 L x+1+j] x:=by unfold bz df at *;omega
   simpa using hn
  rw [List.eraseIdx_eq_take_drop_succ]
  conv=>lhs;rw [e]
  rw [List.filter_append,List.filter_cons,h1,h2];simp [lT]
 ·rename_i h;rw [List.filter_eq_self];intro z hz;obtain ⟨j,hj,rfl⟩:=List.getElem_of_mem hz;have : ¬ df L[j] x:=fun hh=>h (Cu hs hj hh).2
  simpa using this
set_option maxHeartbeats 16000000 in
theorem v3 (r:ez) (L:List aB) (ls:List bL) (x:aB) (y:bL) (lo:Nat) (w:World) (hl:cJ w lo r.av ls L) (hy:kr w lo y x) (fC:lo≤w.heap.size) (cG:y.aw.n=0) (hn:(r.av.n+1)*48≤140737488355328) :
 bt Tryz.prog 88 [.agg (bm r).toArray,.int .i64 y.dL,.int .i64 y.aq,.int .i64 y.Ty,.slice y.aw.A y.aw.n y.aw.c] w fun v w' => ∃ s R,v = .agg (bm ⟨r.aQ,r.bH,r.bW,s,r.Live⟩).toArray∧cJ w' lo s R (lE x L):=by
 refine aL Tryz.func88 rfl Tryz.ntmps88 rfl ?_;refine CW.seq (CW.region (SW.box rfl rfl fun b5 w1 hw ig cd => ?_));have nE:=ig;refine SW.alloc rfl fun kn w2 cw kG aP => ?_
 have lu:w.heap.size≤kn:=Nat.le_trans hw.size kG
 have vz:b5≠kn:=by have:=cd.lt;omega
 (replace hw:=Ext.trans hw cw;replace cd:=cd.ext cw);obtain ⟨l1,l2⟩:=hl.rd.len;have hA:=hl.row.sl.base;have y1:=hy.cpu;have y2:=hy.fp;have y3:=hy.ty;refine Wz ?_;refine SW.alloc rfl fun se w1 ab qE bC => ?_
 skip;refine SW.ap bC rfl rfl rfl rfl (sn y) fun w2 mR hg => ?_
 have aj:=ab.own qE hg;have pf:w.heap.size≤se:=Nat.le_trans hw.size qE
 replace hw:=Ext.trans hw aj;replace cd:=cd.ext aj;replace aP:=aP.ext aj;replace bC:=mR;clear mR ab hg aj;refine Wz ?_;replace bC:aJ w2 se 62 (bp y):=bC;have q0:true=decide ((y.aw.n:Int)=0):=by rw [decide_eq_true (by omega)]
 refine CW.loop (fun t:Nat×Option Addr×Nat×List bL=>[(1,.int .i64 y.dL),(2,.int .i64 y.aq),(3,.int .i64 y.Ty),(5,.pointer (some ⟨b5,0,none⟩)),(10,.pointer (some ⟨kn,0,none⟩)),(11,.pointer (some ⟨se,0,none⟩)),(12,.slice t.2.1 (lE x (L.take t.1)).length t.2.2.1),(13,.bool true),(14,.int .i64 (t.1:Int))])
  (fun t w'=>t.1≤r.av.n∧Ext w w'∧aJ w' b5 27 (bm r)∧aJ w' kn 27 (bm .zero)∧aJ w' se 62 (bp y)∧Own w' (se+1) 62 4 bp t.2.1 (lE x (L.take t.1)).length t.2.2.1 t.2.2.2∧j7 w' lo t.2.2.2 (lE x (L.take t.1))) (fun t=>r.av.n-t.1) (0,none,0,[])
  ⟨rfl,rfl,rfl,rfl,rfl,rfl,rfl,by rw [q0];rfl,rfl,trivial⟩ ⟨by omega,hw,cd,aP,bC,Own.eR _ _ _ _ _ _,j7.nil _ _⟩ ?_
 clear hw cd aP bC;rintro ⟨i,A,c,R⟩ w' ⟨hi,hw,cd,aP,bC,hO,hE⟩
 simp only at hi hO hE ⊢;have hlen:=Dq x L i;have yC:∀ m:Nat,m≤r.av.n→(m+1)*48≤140737488355328∧m+1≤9223372036854775807:=fun m hm=>by omega
 by_cases cf:i<r.av.n
 ·have qD:(lE x (L.take i)).length≤r.av.n:=by omega
  have kE:i<L.length:=by omega
  have ln:i<ls.length:=by omega
  have wY:=hl.each.get i ln kE;have e1:=wY.cpu;have e2:=wY.fp;have e3:=wY.ty;have g0:=hl.row.sl.dv cf (j:=0) (u := .int .i64 ls[i].dL) rfl;have g1:=hl.row.sl.dv cf (j:=1) (u := .int .i64 ls[i].aq) rfl;have g2:=hl.row.sl.dv cf (j:=2) (u := .int .i64 ls[i].Ty) rfl;by_cases hk:df L[i] x
  ·have ee:lE x (L.take (i+1))=lE x (L.take i):=by rw [uW kE,if_pos hk]
   obtain ⟨k1,k2,k3⟩:=id hk;repeat' (first|refine Wz ?_|(first|refine CW.bA rfl ?_|(apply CW.aO mixed;(· kernel_rfl);rotate_left;intro w1 ab;replace hw:=Ext.trans hw ab;replace cd:=cd.ext ab;replace aP:=aP.ext ab;replace bC:=bC.ext ab;replace hO:=hO.ext ab;replace hE:=hE.ext ab;clear ab;rotate_right))|refine SW.skip rfl rfl rfl rfl ?_|refine SW.st (ao hw rfl g0) rfl ?_|refine SW.st (ao hw rfl g1) rfl ?_|refine SW.st (ao hw rfl g2) rfl ?_|exact SW.bx rfl)
   all_goals try omega
   exact ae.again (i+1,A,c,R) ⟨rfl,rfl,rfl,rfl,rfl,rfl,by simp only;rw [ee];rfl,rfl,rfl,trivial⟩ (by simp only;omega) ⟨by simp only;omega,hw,cd,aP,bC,by simp only;rw [ee];exact hO,by simp only;rw [ee];exact hE⟩
  ·have Ii : ¬ (ls[i].dL=y.dL∧ls[i].aq=y.aq∧ls[i].Ty=y.Ty):=by unfold df at hk;omega
   have ee:lE x (L.take (i+1))=lE x (L.take i)++[L[i]]:=by rw [uW kE,if_neg hk]
   have el:(lE x (L.take (i+1))).length=(lE x (L.take i)).length+1:=by rw [ee];simp
   repeat' (first|refine Wz ?_|((apply CW.aO mixed;(· kernel_rfl);rotate_left;intro w1 ab;replace hw:=Ext.trans hw ab;replace cd:=cd.ext ab;replace aP:=aP.ext ab;replace bC:=bC.ext ab;replace hO:=hO.ext ab;replace hE:=hE.ext ab;clear ab;rotate_right))|refine SW.cb rfl rfl rfl (fun h => ?_) (fun h => ?_)|refine SW.skip rfl rfl rfl rfl ?_|refine SW.st (ao hw rfl g0) rfl ?_|refine SW.st (ao hw rfl g1) rfl ?_|refine SW.st (ao hw rfl g2) rfl ?_|refine SW.st (aH hw rfl rfl ((hl.row.sl.all cf))) rfl ?_|exact SW.bx rfl)
   all_goals try omega
   all_goals
    refine SW.bJ rfl rfl rfl rfl rfl fun b w4 aj hb hB => ?_
    (replace hw:=Ext.trans hw aj;replace cd:=cd.ext aj;replace aP:=aP.ext aj;replace bC:=bC.ext aj;replace hO:=hO.ext aj;replace hE:=hE.ext aj);refine SW.append hO (aJ.mb (enc:=bp) (x:=ls[i]) hB) bC.lt rfl rfl rfl (yC _ qD).1 (yC _ qD).2 fun A2 c2 w5 fT hg => ?_
    have hG:=hO.gr hg;replace hw:=aE hw hg (Nat.le_trans pf (Nat.le_succ _)) hO.aM;replace bC:=bC.grown hg (fun e=>Nat.not_succ_le_self _ (hO.aM se e.symm));(replace cd:=cd.ay hG rfl;replace aP:=aP.ay hG rfl;replace hE:=hE.ay hG rfl);refine Wz ?_;refine ae.again (i+1,A2,c2,R++[ls[i]]) ⟨rfl,rfl,rfl,rfl,rfl,rfl,by simp only;rw [el];rfl,rfl,rfl,trivial⟩ (by simp only;omega) ⟨by simp only;omega,hw,cd,aP,bC,by simp only;rw [el];exact fT,?_⟩;simp only;rw [ee];exact hE.snoc ((hl.each.get i ln kE).ext hw)
 ·have ei:i=L.length:=by omega
  subst ei;rw [List.take_of_length_le (Nat.le_refl _)] at hO hE;rw [List.take_of_length_le (Nat.le_refl _)];repeat' (first|refine Wz ?_|(refine CW.bA rfl ?_))
  refine SW.bB (i:=3) cd rfl rfl rfl rfl fun w6 fW hg => ?_
  have hG:=cd.gr hg;replace hw:=hw.own nE hg;replace aP:=aP.grown hg (by simpa using Ne.symm vz);(replace hO:=hO.ay hG rfl;replace hE:=hE.ay hG rfl);refine Wz ?_;refine SW.ap aP rfl rfl rfl rfl (cQ ⟨r.aQ,r.bH,r.bW,⟨A,_,c⟩,r.Live⟩) fun w7 bP hg => ?_
  have hG:=aP.gr hg;replace hw:=hw.own lu hg;(replace hO:=hO.ay hG rfl;replace hE:=hE.ay hG rfl);refine Wz ?_;exact ae.me rfl rfl bP rfl ⟨_,rfl,hw,⟨A,_,c⟩,R,rfl,⟨hO.low (by omega),hE.each⟩⟩
def Bo (L:List aB) (x:aB) : List aB:=if x.aw=[] then lE x L else jx L x
theorem jP (r:ez) (L:List aB) (ls:List bL) (x:aB) (y:bL) (lo:Nat) (w:World) (hl:cJ w lo r.av ls L) (hy:kr w lo y x) (hs:rz L) (fC:lo≤w.heap.size) (hn:(r.av.n+1)*48≤140737488355328) :
 bt Tryz.prog 88 [.agg (bm r).toArray,.int .i64 y.dL,.int .i64 y.aq,.int .i64 y.Ty,.slice y.aw.A y.aw.n y.aw.c] w fun v w' => ∃ s R,v = .agg (bm ⟨r.aQ,r.bH,r.bW,s,r.Live⟩).toArray∧cJ w' lo s R (Bo L x):=by
 have sB:=hy.cr.len;unfold Bo;split
 ·rename_i h;rw [h] at sB;exact v3 r L ls x y lo w hl hy fC (by simpa using sB.symm) hn
 ·rename_i h;exact xe r L ls x y lo w hl hy hs fC (by rw [← sB];exact List.length_pos_iff.2 h) hn
theorem Dr {L:List aB} {x:aB} {pg:List Int} (hs:rz L) (hk:bT L x=true) : Bo L (dk x pg.dropLast)=re L x pg:=by
 obtain ⟨e1,e2⟩:=jn (L:=L) (kd (x:=x) (pg:=pg.dropLast));unfold Bo re;by_cases h:pg.length≤1
 ·have h0:pg.dropLast=[]:=List.eq_nil_of_length_eq_zero (by rw [List.length_dropLast];omega)
  rw [if_pos h,if_pos (by simpa [dk] using h0),qN hs,if_pos (by rw [← e2];exact hk),e1]
 ·have h0 : ¬ pg.dropLast=[]:=fun e=>by
   have:=congrArg List.length e
   rw [List.length_dropLast] at this;simp at this;omega
  rw [if_neg h,if_neg (by simpa [dk] using h0),oh (by rw [← e2];exact hk),e1]
theorem qo {L:List aB} {x:aB} {pg:List Int} (hs:rz L) (hk:bT L x=false) : Bo L (dk x pg)=fX L x pg:=by
 obtain ⟨e1,e2⟩:=jn (L:=L) (kd (x:=x) (pg:=pg));unfold Bo fX;by_cases h:pg=[]
 ·rw [if_pos h,if_pos (by simpa [dk] using h),qN hs,if_neg (by rw [← e2,hk];simp)]
 ·rw [if_neg h,if_neg (by simpa [dk] using h)]
end Go.Proofs.YtjimadiidbkohaaGreatDoor
