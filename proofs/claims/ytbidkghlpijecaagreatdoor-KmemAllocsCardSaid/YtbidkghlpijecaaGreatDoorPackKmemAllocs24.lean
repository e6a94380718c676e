/-
  Texts of the claim KmemAllocs, part 24: what its theorem leans on.
-/
import Derived.Test.YtbidkghlpijecaaGreatDoorPackKmemAllocs20
import Derived.Test.YtbidkghlpijecaaGreatDoorPackKmemAllocs21
import Derived.Test.YtbidkghlpijecaaGreatDoorPackKmemAllocs23
import Derived.Test.YtbidkghlpijecaaGreatDoorPackKmemAllocs2
import Derived.Test.YtbidkghlpijecaaGreatDoorPackKmemAllocs15
set_option linter.unusedVariables false
set_option linter.unusedSimpArgs false
namespace Go.Proofs.YtbidkghlpijecaaGreatDoor
open Go.RowKit
def zQ (G:Nat→Prop) (wb w0:World) (r:dQ) (s:aE) (i:Nat) (c:bf) (cpu:Nat) (v:Value) (w':World) : Prop :=
 ∃ m,kz s c cpu m∧Ext wb w'∧(∀ j x,aJ w0 j 44 x→aJ w' j 44 x)∧(∀ j x,G j→aJ w0 j 3 x→aJ w' j 3 x) ∧
  ((m.1=none∧m.2≠0∧v = .tuple #[.agg (aR r).toArray,.int .i64 0,.int .i64 m.2]) ∨
   ∃ M,m=(some M,0) ∧ ∃ X H cs',v = .tuple #[.agg (aR ⟨X,H,r.aa⟩).toArray,.int .i64 (fj M.c M.k).fT,.int .i64 0]∧SX w' wb.heap.size ⟨X,H,r.aa⟩ (ct (iI s M.ws) i (M.h,kr M.c cpu M.k (M.ws.getD (fj M.c M.k).fT.toNat 0))) cs'∧SJ G w' wb.heap.size ⟨X,H,r.aa⟩ (ct (iI s M.ws) i (M.h,kr M.c cpu M.k (M.ws.getD (fj M.c M.k).fT.toNat 0))) cs')
set_option maxHeartbeats 8000000 in
theorem r4 (G:Nat→Prop) (wb w:World) (r:dQ) (s:aE) (cs:List dr) (i cpu:Nat) (hf:s.kh) (hi:i<s.aa.length) (hM:nX s s.aa[i])
 (hx:Ext wb w) (hS:SX w wb.heap.size r s cs) (hJ:SJ G w wb.heap.size r s cs) (Ft:∀ g,G g→g<w.heap.size) (nY:cpu<s.aa[i].au.length) :
 gX Tryz.prog 156 [.agg (aR r).toArray,.int .i64 (i:Int),.int .i64 (cpu:Int)] w (zQ G wb w r s i s.aa[i] cpu):=by
 refine dB Tryz.func156 rfl Tryz.ntmps156 rfl ?_;refine CW.seq (CW.region (SW.box rfl rfl fun b3 w1 hw bH aq => ?_));refine SW.alloc rfl fun b6 w3 jW eg aw => ?_
 have cu:w.heap.size≤b6:=Nat.le_trans hw.size eg
 have cG:b6≠b3:=by have:=aq.lt;omega
 (replace hw:=Ext.trans hw jW;replace aq:=aq.ext jW);have hm:=hM.most;have h1:=hf.jh;have Ia:=hM.words;have e0:=oK hi;have h2:=hf.Lx hi;have q4:=h2.small.a8;have fy:=hx.size;have El:=qD hM;obtain ⟨e1,e2⟩:=hS.len;have jE:i<cs.length:=by omega
 have cf:i<r.aa.n:=by omega
 have LP:=hS.row.sl.base;have Ht:=hS.words.len;have hC:=hS.each.get i jE hi;have rz:=hC.order;have vo:=hC.size;have rJ:=hC.ji;have q1:=hC.aS.len;have q3:=hC.a8.len;have FJ:cpu<cs[i].au.n:=by omega
 have Kq:=hC.aS.sl.base;have ON:=hC.a8.sl.base;have yf:=vl hM nY;have Fu:=hS.Ax;clear hC;obtain ⟨o,ho⟩ : ∃ o,uD s.aa[i] cpu=o:=⟨_,rfl⟩;obtain ⟨t,ht⟩ : ∃ t,s.aa[i].au[cpu]=t:=⟨_,rfl⟩;have gT:(s.aa[i].au.getD cpu 0)=t:=by rw [← ht];simp [nY]
 rw [ho,ht] at yf;have gA:∀ w',SX w' wb.heap.size r s cs→w'.cell? ((((cs[i].au.A).getD default).add (cpu*1)))=some (Value.int .i64 t):=fun w' h=>(h.each.get i jE hi).a8.sl.one FJ (by rw [show s.aa[i].au[cpu]=t from ht];rfl)
 replace hS:=hS.ext hw;replace hJ:=hJ.ext hw;repeat' (first|refine Wz ?_|refine SW.st (aW rfl rfl ((hS.row.sl.all cf))) rfl ?_)
 refine SW.alloc rfl fun b9 w1 ab ox bk => ?_
 skip;refine SW.ak bk rfl rfl rfl rfl (sO cs[i]) fun w2 gi hg => ?_
 have aj:=ab.own ox hg;have ry:w.heap.size≤b9:=Nat.le_trans hw.size ox
 replace hw:=Ext.trans hw aj;replace aq:=aq.ext aj;replace aw:=aw.ext aj;replace hS:=hS.ext aj;replace hJ:=hJ.ext aj;replace bk:=gi;clear gi ab hg aj;refine SW.nil (ae.seq ?_);refine CW.seq (CW.region ?_);refine SW.pure rfl rfl ?_;refine SW.nil (ae.seq ?_);refine CW.seq ?_;obtain ⟨K1,Ks⟩ : ∃ K:Env→World→Prop,K=fun L' w' => ∃ kk:Int,((0≤kk∧fM s.aa[i] cpu=kk)∨(kk = -1∧fM s.aa[i] cpu=idxOf (jN s.aa[i]) s.aa[i].ai))∧ez L' [(1,.int .i64 (i:Int)),(2,.int .i64 (cpu:Int)),(3,.pointer (some ⟨b3,0,none⟩)),(6,.pointer (some ⟨b6,0,none⟩)),(9,.pointer (some ⟨b9,0,none⟩)),(10,.int .i64 kk)]∧Ext w w'∧aJ w' b3 44 (aR r)∧aJ w' b6 44 (aR .zero)∧aJ w' b9 89 (dh cs[i])∧SX w' wb.heap.size r s cs∧SJ G w' wb.heap.size r s cs:=⟨_,rfl⟩
 refine CW.cut K1 ?_ ?_
 ·rcases yf with ⟨FZ,Io⟩|⟨FZ,k,hk,Io,LR⟩
  ·have lK:fM s.aa[i] cpu=idxOf (jN s.aa[i]) s.aa[i].ai:=by
    unfold fM;rw [ho,if_neg (by omega)]
   repeat' (first|refine Wz ?_|refine SW.st (ao rfl (gA _ hS)) rfl ?_)
   all_goals try omega
   exact ae.cut (K:=K1) (by rw [Ks];exact ⟨-1,.inr ⟨rfl,lK⟩,⟨rfl,rfl,rfl,rfl,rfl,rfl,trivial⟩,hw,aq,aw,bk,hS,hJ⟩)
  ·subst Io;have cb:k<cs[i].ai.n:=by omega
   obtain ⟨y,hy⟩ : ∃ y,s.aa[i].ai[k]=y:=⟨_,rfl⟩;have C9:=(hM.zD _ (List.getElem_mem hk)).free;rw [hy] at C9;have gF:∀ w',SX w' wb.heap.size r s cs→w'.cell? ((((cs[i].ai.A).getD default).add (k*3)).add 1)=some (Value.int .i64 y.ag):=fun w' h=>(h.each.get i jE hi).aS.sl.dA cb (j:=1) (show (aY (s.aa[i].ai[k]'(by omega)))[1]?=some (Value.int .i64 y.ag) by rw [hy];rfl)
   have Nk:fj s.aa[i] ((k:Int)).toNat=y:=by rw [show ((k:Int)).toNat=k by omega,gb hk,hy]
   have hC:=hS.each.get i jE hi
   have cF:∀ w',Ext w2 w'→bo Tryz.prog 200 [.agg (dh cs[i]).toArray,.int .i64 t] w' fun v _=>v = .int .i64 (k:Int):=fun w' h=>by
    have:=tA cs[i] s.aa[i].ai t w' (hC.aS.sl.ext h) (by omega)
    unfold uD at ho;rw [gT] at ho;rwa [ho] at this
   have Cl:=hw;replace hw:=Ext.refl w2;by_cases fH : 0<y.ag
   ·have lK:fM s.aa[i] cpu=k:=by
     unfold fM;rw [ho,if_pos ⟨by omega,by rw [Nk];exact fH⟩]
    repeat' (first|refine Wz ?_|((apply CW.aP mixed;(· kernel_rfl);rotate_left;intro w1 ab;replace hw:=Ext.trans hw ab;replace aq:=aq.ext ab;replace aw:=aw.ext ab;replace bk:=bk.ext ab;replace hS:=hS.ext ab;replace hJ:=hJ.ext ab;clear ab;rotate_right))|refine SW.st (ao rfl (gA _ hS)) rfl ?_|refine SW.st (ao rfl (gF _ hS)) rfl ?_|refine SW.br rfl rfl (fun w1 ab=>(cF _ (Ext.trans hw ab))) ?_|exact SW.bx rfl)
    all_goals try omega
    replace hw:=Ext.trans Cl hw;exact ae.cut (K:=K1) (by rw [Ks];exact ⟨k,.inl ⟨by omega,lK⟩,⟨rfl,rfl,rfl,rfl,rfl,rfl,trivial⟩,hw,aq,aw,bk,hS,hJ⟩)
   ·have lK:fM s.aa[i] cpu=idxOf (jN s.aa[i]) s.aa[i].ai:=by
     unfold fM;rw [ho,if_neg (by rw [Nk];omega)]
    repeat' (first|refine Wz ?_|((apply CW.aP mixed;(· kernel_rfl);rotate_left;intro w1 ab;replace hw:=Ext.trans hw ab;replace aq:=aq.ext ab;replace aw:=aw.ext ab;replace bk:=bk.ext ab;replace hS:=hS.ext ab;replace hJ:=hJ.ext ab;clear ab;rotate_right))|refine SW.st (ao rfl (gA _ hS)) rfl ?_|refine SW.st (ao rfl (gF _ hS)) rfl ?_|refine SW.br rfl rfl (fun w1 ab=>(cF _ (Ext.trans hw ab))) ?_|exact SW.bx rfl)
    all_goals try omega
    replace hw:=Ext.trans Cl hw;exact ae.cut (K:=K1) (by rw [Ks];exact ⟨-1,.inr ⟨rfl,lK⟩,⟨rfl,rfl,rfl,rfl,rfl,rfl,trivial⟩,hw,aq,aw,bk,hS,hJ⟩)
 ·clear hw aq aw bk hS hJ yf;subst Ks;rintro L' w5 ⟨kk,wy,fv,hw,aq,aw,bk,hS,hJ⟩
  refine ae.sub fv ?_;obtain ⟨z,hz⟩ : ∃ z,fM s.aa[i] cpu=z:=⟨_,rfl⟩;rw [hz] at wy;refine Wz ?_;obtain ⟨K2,HF⟩ : ∃ K:Env→World→Prop,K=fun L' w'=>ez L' [(1,.int .i64 (i:Int)),(2,.int .i64 (cpu:Int)),(3,.pointer (some ⟨b3,0,none⟩)),(6,.pointer (some ⟨b6,0,none⟩)),(9,.pointer (some ⟨b9,0,none⟩)),(10,.int .i64 z)]∧Ext w w'∧aJ w' b3 44 (aR r)∧aJ w' b6 44 (aR .zero)∧aJ w' b9 89 (dh cs[i])∧SX w' wb.heap.size r s cs∧SJ G w' wb.heap.size r s cs:=⟨_,rfl⟩
  refine CW.wR K2 ?_ ?_
  ·refine CW.loop (fun t:Nat×Int=>[(1,.int .i64 (i:Int)),(2,.int .i64 (cpu:Int)),(3,.pointer (some ⟨b3,0,none⟩)),(6,.pointer (some ⟨b6,0,none⟩)),(9,.pointer (some ⟨b9,0,none⟩)),(10,.int .i64 t.2),(11,.int .i64 (t.1:Int))])
    (fun t w'=>t.1≤cs[i].ai.n∧((0≤t.2∧z=t.2)∨(t.2 = -1∧z=idxOf (jN s.aa[i]) s.aa[i].ai ∧ ∀ (j:Nat) (hj:j<s.aa[i].ai.length),j<t.1→jN s.aa[i] s.aa[i].ai[j]=false))∧Ext w w'∧aJ w' b3 44 (aR r)∧aJ w' b6 44 (aR .zero)∧aJ w' b9 89 (dh cs[i])∧SX w' wb.heap.size r s cs∧SJ G w' wb.heap.size r s cs) (fun t=>cs[i].ai.n-t.1) (0,kk)
    ⟨rfl,rfl,rfl,rfl,rfl,rfl,rfl,trivial⟩ ⟨Nat.zero_le _,by
     rcases wy with h|h
     ·exact .inl h
     ·exact .inr ⟨h.1,h.2,fun j hj h0=>absurd h0 (Nat.not_lt_zero _)⟩,hw,aq,aw,bk,hS,hJ⟩ ?_
   clear hw aq aw bk hS hJ fv wy kk;rintro ⟨j,kk⟩ w6 ⟨hj,wy,hw,aq,aw,bk,hS,hJ⟩
   simp only at hj wy ⊢;by_cases je:j<cs[i].ai.n
   ·rcases wy with ⟨p7,rfl⟩|⟨rfl,iP,lf⟩
    ·refine Wz ?_;all_goals try omega
     exact ae.kx (by rw [HF];exact ⟨⟨rfl,rfl,rfl,rfl,rfl,rfl,trivial⟩,hw,aq,aw,bk,hS,hJ⟩)
    ·have kV:j<s.aa[i].ai.length:=by omega
     obtain ⟨y,hy⟩ : ∃ y,s.aa[i].ai[j]=y:=⟨_,rfl⟩
     have gy:∀ w',SX w' wb.heap.size r s cs → ∀ k v,(aY y)[k]?=some v→w'.cell? ((((cs[i].ai.A).getD default).add (j*3)).add k)=some v:=fun w' h k v hv=>by
      refine (h.each.get i jE hi).aS.sl.all je k v ?_;rw [show (s.aa[i].ai[j]'(by omega))=y from hy];exact hv
     obtain ⟨t2,ER⟩ : ∃ t2,decide (y.At∈s.aa[i].au)=t2:=⟨_,rfl⟩;have hC:=hS.each.get i jE hi
     have cT:∀ w',Ext w6 w'→bo Tryz.prog 120 [.agg (dh cs[i]).toArray,.int .i64 y.At] w' fun v _=>v = .bool t2:=fun w' hx=>by
      have:=B5 cs[i] s.aa[i] y.At w' (hC.rd.ext hx) (by omega)
      rwa [ER] at this
     have GG:jN s.aa[i] y=(decide (0<y.ag) && !t2):=by unfold jN;rw [ER]
     have Cl:=hw;replace hw:=Ext.refl w6
     have jK:∀ b,jN s.aa[i] y=b→b=false → ∀ (k:Nat) (hk:k<s.aa[i].ai.length),k<j+1→jN s.aa[i] s.aa[i].ai[k]=false:=fun b h1 h2 k hk h=>by
      by_cases e:k=j
      ·subst e;rw [hy,h1,h2]
      ·exact lf k hk (by omega)
     by_cases fH : 0<y.ag
     ·cases t2
      ·have O5:z=(j:Int):=by
        rw [iP];exact ib kV (by rw [hy,GG,decide_eq_true fH];rfl) lf
       repeat' (first|refine Wz ?_|(first|refine CW.bO rfl ?_|(apply CW.aP mixed;(· kernel_rfl);rotate_left;intro w1 ab;replace hw:=Ext.trans hw ab;replace aq:=aq.ext ab;replace aw:=aw.ext ab;replace bk:=bk.ext ab;replace hS:=hS.ext ab;replace hJ:=hJ.ext ab;clear ab;rotate_right))|refine SW.st (ao rfl (gy _ hS 1 (.int .i64 y.ag) rfl)) rfl ?_|refine SW.st (ao rfl (gy _ hS 0 (.int .i64 y.At) rfl)) rfl ?_|refine SW.br rfl rfl (fun w1 ab=>(cT _ (Ext.trans hw ab))) ?_|exact SW.bx rfl)
       all_goals try omega
       replace hw:=Ext.trans Cl hw;exact ae.again (j+1,(j:Int)) ⟨rfl,rfl,rfl,rfl,rfl,rfl,rfl,trivial⟩ (by simp only;omega) ⟨by simp only;omega,.inl ⟨by simp only;omega,O5⟩,hw,aq,aw,bk,hS,hJ⟩
      ·repeat' (first|refine Wz ?_|(first|refine CW.bB rfl ?_|(apply CW.aP mixed;(· kernel_rfl);rotate_left;intro w1 ab;replace hw:=Ext.trans hw ab;replace aq:=aq.ext ab;replace aw:=aw.ext ab;replace bk:=bk.ext ab;replace hS:=hS.ext ab;replace hJ:=hJ.ext ab;clear ab;rotate_right))|refine SW.st (ao rfl (gy _ hS 1 (.int .i64 y.ag) rfl)) rfl ?_|refine SW.st (ao rfl (gy _ hS 0 (.int .i64 y.At) rfl)) rfl ?_|refine SW.br rfl rfl (fun w1 ab=>(cT _ (Ext.trans hw ab))) ?_|exact SW.bx rfl)
       all_goals try omega
       replace hw:=Ext.trans Cl hw;exact ae.again (j+1,(-1:Int)) ⟨rfl,rfl,rfl,rfl,rfl,rfl,rfl,trivial⟩ (by simp only;omega) ⟨by simp only;omega,.inr ⟨rfl,iP,jK _ GG (by simp)⟩,hw,aq,aw,bk,hS,hJ⟩
     ·repeat' (first|refine Wz ?_|((apply CW.aP mixed;(· kernel_rfl);rotate_left;intro w1 ab;replace hw:=Ext.trans hw ab;replace aq:=aq.ext ab;replace aw:=aw.ext ab;replace bk:=bk.ext ab;replace hS:=hS.ext ab;replace hJ:=hJ.ext ab;clear ab;rotate_right))|refine SW.st (ao rfl (gy _ hS 1 (.int .i64 y.ag) rfl)) rfl ?_|exact SW.bx rfl)
      all_goals try omega
      replace hw:=Ext.trans Cl hw;exact ae.again (j+1,(-1:Int)) ⟨rfl,rfl,rfl,rfl,rfl,rfl,rfl,trivial⟩ (by simp only;omega) ⟨by simp only;omega,.inr ⟨rfl,iP,jK _ GG (by rw [decide_eq_false fH];rfl)⟩,hw,aq,aw,bk,hS,hJ⟩
   ·have A6:kk=z:=by
     rcases wy with ⟨p7,h⟩|⟨h,iP,lf⟩
     ·exact h.symm
     ·rw [h,iP];exact (fq fun k hk=>lf k hk (by omega)).1.symm
    subst A6;refine Wz ?_;all_goals try omega
    exact ae.kx (by rw [HF];exact ⟨⟨rfl,rfl,rfl,rfl,rfl,rfl,trivial⟩,hw,aq,aw,bk,hS,hJ⟩)
  ·clear hw aq aw bk hS hJ fv wy;subst HF;rintro L' w6 ⟨fv,hw,aq,aw,bk,hS,hJ⟩
   refine ae.sub fv ?_;refine ae.seq ?_;refine CW.seq ?_
   obtain ⟨K3,Kt⟩ : ∃ K:Env→World→Prop,K=fun L' w' => ∃ M X H cs',kz s s.aa[i] cpu (some M,0)∧ez L' [(1,.int .i64 (i:Int)),(2,.int .i64 (cpu:Int)),(3,.pointer (some ⟨b3,0,none⟩)),(6,.pointer (some ⟨b6,0,none⟩)),(10,.int .i64 (M.k:Int))]∧Ext wb w'∧aJ w' b3 44 (aR ⟨X,H,r.aa⟩)∧aJ w' b6 44 (aR .zero) ∧
    SX w' wb.heap.size ⟨X,H,r.aa⟩ (ct (iI s M.ws) i (M.h,M.c)) cs'∧SJ G w' wb.heap.size ⟨X,H,r.aa⟩ (ct (iI s M.ws) i (M.h,M.c)) cs'∧(∀ j x,aJ w j 44 x→aJ w' j 44 x)∧(∀ j x,G j→aJ w j 3 x→aJ w' j 3 x)∧w.heap.size≤w'.heap.size:=⟨_,rfl⟩
   refine CW.KG K3 ?_ ?_
   ·by_cases sZ : 0≤z
    ·obtain ⟨k,rfl⟩:=Int.eq_ofNat_of_zero_le sZ;refine Wz ?_;all_goals try omega
     rw [← e0] at hS hJ;exact ae.kx (by rw [Kt];exact ⟨⟨s.Words,s.Heap,s.aa[i],k⟩,r.Words,r.Heap,cs,.DE hz,⟨rfl,rfl,rfl,rfl,rfl,trivial⟩,hx.trans hw,aq,aw,hS,hJ,fun j x h=>h.ext hw,fun j x _ h=>h.ext hw,hw.size⟩)
    ·have rK:fM s.aa[i] cpu<0:=by omega
     repeat' (first|refine Wz ?_|refine SW.st (aW rfl rfl ((fY aq))) rfl ?_)
     all_goals try omega
     refine SW.call rfl rfl (om r.Heap s.Heap (cpu:Int) cs[i].Order 0 _ hS.heap.rd h1.small h1.ve) fun v w7 aj hv => ?_
     obtain ⟨u,hu,H,rfl,hH⟩:=hv;replace hH:=hH.low hw.size;obtain ⟨e,he⟩ : ∃ e,u.2.2=e:=⟨_,rfl⟩;obtain ⟨at',gh⟩ : ∃ a,u.2.1=a:=⟨_,rfl⟩;rw [he,gh];rw [rz] at hu;(replace hw:=Ext.trans hw aj;replace aq:=aq.ext aj;replace aw:=aw.ext aj;replace bk:=bk.ext aj;replace hS:=hS.ext aj;replace hJ:=hJ.ext aj);refine Wz ?_;refine SW.alloc rfl fun rc w1 ab ol bl => ?_
     skip;refine SW.ak bl rfl rfl rfl rfl (cn H) fun w2 fD hg => ?_
     have aj:=ab.own ol hg;have fO:w.heap.size≤rc:=Nat.le_trans hw.size ol
     replace hw:=Ext.trans hw aj;replace aq:=aq.ext aj;replace aw:=aw.ext aj;replace bk:=bk.ext aj;replace hS:=hS.ext aj;replace hJ:=hJ.ext aj;replace hH:=hH.ext aj;replace bl:=fD;clear fD ab hg aj;by_cases Fv:e=0
     ·subst Fv;have qO:=hu.at_ he;rw [gh] at qO;refine Wz ?_;all_goals try omega
      refine SW.call rfl rfl (xY r.Words.A r.Words.n r.Words.c s.Words (16*at') cs[i].bg cs[i].cm _ hS.words.sl (by omega)) fun v w8 aj hv => ?_
      rw [ia,vo,rJ] at hv;have L9:=hw.size;(replace hw:=Ext.trans hw aj;replace aq:=aq.ext aj;replace aw:=aw.ext aj;replace bk:=bk.ext aj;replace bl:=bl.ext aj;replace hS:=hS.ext aj;replace hJ:=hJ.ext aj;replace hH:=hH.ext aj);by_cases hc:gj s.Words.length (16*at') s.aa[i].bg s.aa[i].cm
      ·have kb:=hc;unfold gj at kb;rw [if_pos (by rw [Ht] at kb;exact kb)] at hv;obtain ⟨XA,Xc,rfl,hX⟩:=hv;replace hX:=hX.low L9;refine Wz ?_;all_goals try omega
       refine SW.lJ 1 aq rfl rfl rfl (Nat.le_of_ble_eq_true rfl) (cn H) (aR ⟨r.Words,H,r.aa⟩) rfl fun w9 cK hg => ?_
       have hG:=aq.gr hg;have Eb:∀ j x,aJ w j 44 x→aJ w9 j 44 x:=fun j x h=>(h.ext hw).grown hg (by have:=h.lt;simp;omega)
       have Ec:∀ j x,G j→aJ w j 3 x→aJ w9 j 3 x:=fun j x hj h=>(h.ext hw).grown hg (by have:=h.lt;simp;omega)
       replace hw:=hw.own bH hg;replace aw:=aw.grown hg (by simpa using cG);(replace bk:=bk.ay hG rfl;replace hS:=hS.ay hG rfl;replace hJ:=hJ.ay hG rfl;replace hH:=hH.ay hG rfl;replace hX:=hX.ay hG rfl);refine Wz ?_;refine SW.bA (i:=0) cK rfl rfl rfl rfl fun mw Gh hg => ?_
       have hG:=cK.gr hg;have pM:∀ j x,aJ w j 44 x→aJ mw j 44 x:=fun j x h=>(Eb j x h).grown hg (by have:=h.lt;simp;omega)
       have JT:∀ j x,G j→aJ w j 3 x→aJ mw j 3 x:=fun j x hj h=>(Ec j x hj h).grown hg (by have:=h.lt;simp;omega)
       replace hw:=hw.own bH hg;replace aw:=aw.grown hg (by simpa using cG);(replace bk:=bk.ay hG rfl;replace hS:=hS.ay hG rfl;replace hJ:=hJ.ay hG rfl;replace hH:=hH.ay hG rfl;replace hX:=hX.ay hG rfl);have aq:aJ mw b3 44 (aR ⟨⟨XA,r.Words.n,Xc⟩,H,r.aa⟩):=Gh
       rw [← e0] at hS;obtain ⟨Fz,jR⟩:=nW.fresh (p:=(s.Heap,s.aa[i])) (X:=⟨XA,r.Words.n,Xc⟩) (H:=H) (h':=u.1) (m:=w.heap.size) hS fy Fu (fun g hg=>⟨Ft g hg,fun u hu=>hJ.sep u hu g hg⟩) hX hH;clear hS hX hH hJ hG hg cK Gh;have FA:=hw.size;have Et:=hx.trans hw;refine Wz ?_;clear hw
       refine CW.loop (fun t:Nat×Option Addr×Nat=>[(1,.int .i64 (i:Int)),(2,.int .i64 (cpu:Int)),(3,.pointer (some ⟨b3,0,none⟩)),(6,.pointer (some ⟨b6,0,none⟩)),(9,.pointer (some ⟨b9,0,none⟩)),(10,.int .i64 (t.1:Int)),(13,.int .i64 at'),(16,.slice t.2.1 t.1 t.2.2)])
        (fun t w'=>t.1≤cs[i].ai.n∧(∀ (j:Nat) (hj:j<s.aa[i].ai.length),j<t.1→s.aa[i].ai[j].At<at')∧Ext mw w'∧Own w' mw.heap.size 91 3 aY t.2.1 t.1 t.2.2 (s.aa[i].ai.take t.1)) (fun t=>cs[i].ai.n-t.1) (0,none,0)
        ⟨rfl,rfl,rfl,rfl,rfl,rfl,rfl,rfl,trivial⟩ ⟨Nat.zero_le _,fun j hj h=>absurd h (Nat.not_lt_zero _),Ext.refl _,by simpa using Own.eJ _ _ _ _ _ _⟩ ?_
       rintro ⟨k,A,c⟩ qG ⟨hk,de,hw,hL⟩
       simp only at hk de hL ⊢;have oN:=Fz.get jE hi;simp only at oN;have gS:=oN.aS.sl;have PL:=oN.aS.le;by_cases cb:k<cs[i].ai.n
       ·have dk:k<s.aa[i].ai.length:=by omega
        obtain ⟨y,hy⟩ : ∃ y,s.aa[i].ai[k]=y:=⟨_,rfl⟩;have gA:=gS.dA cb (j:=0) (show (aY (s.aa[i].ai[k]'(by omega)))[0]?=some (Value.int .i64 y.At) by rw [hy];rfl);by_cases Gb:y.At<at'
        ·repeat' (first|refine Wz ?_|refine SW.st (ap hw rfl (bk.cell (i:=4) (v := .slice cs[i].ai.A cs[i].ai.n cs[i].ai.c) rfl)) rfl ?_|refine SW.st (ap hw rfl gA) rfl ?_|refine SW.st (aH hw rfl rfl ((gS.all cb))) rfl ?_)
         all_goals try omega
         refine SW.bK rfl rfl rfl rfl rfl fun b Ck aj hb HC => ?_
         (replace hw:=Ext.trans hw aj;replace hL:=hL.ext aj);refine SW.append hL (aJ.mo (enc:=aY) HC) hw.size rfl rfl rfl (by omega) (by omega) fun A2 c2 Nl fU hg => ?_
         replace hw:=aF hw hg (Nat.le_refl _) hL.aM;refine Wz ?_;refine ae.again (k+1,A2,c2) ⟨rfl,rfl,rfl,rfl,rfl,rfl,rfl,rfl,trivial⟩ (by simp only;omega) ⟨by simp only;omega,fun j hj h => ?_,hw,?_⟩
         ·by_cases e:j=k
          ·subst e;rw [hy];exact Gb
          ·exact de j hj (by simp only at h;omega)
         ·rw [List.take_succ_eq_append_getElem (by omega)];exact fU
        ·have uG:lI s.aa[i] at'=k:=nL (by omega) de (fun h=>by rw [hy];exact Gb)
         repeat' (first|refine Wz ?_|refine SW.st (ap hw rfl (bk.cell (i:=4) (v := .slice cs[i].ai.A cs[i].ai.n cs[i].ai.c) rfl)) rfl ?_|refine SW.st (ap hw rfl gA) rfl ?_|refine SW.st (ap hw rfl (bk.cell (i:=2) (v := .int .i64 cs[i].cm) rfl)) rfl ?_)
         all_goals try omega
         have tg:=mh s.aa[i] at';have uq:(s.aa[i].ai.take k).length=k:=by rw [List.length_take];omega
         refine SW.bK rfl rfl rfl rfl rfl fun bn Ck aj JB DS => ?_
         (replace hw:=Ext.trans hw aj;replace hL:=hL.ext aj);refine SW.append hL (aJ.mo (enc:=aY) (x:=⟨at',cs[i].cm,16*at'⟩) DS) hw.size rfl rfl rfl (by omega) (by omega) fun A2 c2 Nl JU hg => ?_
         replace hw:=aF hw hg (Nat.le_refl _) hL.aM;repeat' (first|refine Wz ?_|refine SW.st (ap hw rfl (bk.cell (i:=4) (v := .slice cs[i].ai.A cs[i].ai.n cs[i].ai.c) rfl)) rfl ?_|(refine SW.st (bh (k:=k) rfl rfl (by omega) (by omega)) rfl ?_))
         have JV:=((Fz.get jE hi).aS.sl).ext hw;simp only at JV;refine SW.append JU (JV.drop k cs[i].ai.c (by omega) (by omega)) hw.size rfl rfl rfl (by omega) (by omega) fun A3 c3 O6 JW hg => ?_
         replace hw:=aF hw hg (Nat.le_refl _) JU.aM;have HJ:(s.aa[i].ai.take k++[(⟨at',cs[i].cm,16*at'⟩ : Slab)])++s.aa[i].ai.drop k=aV s.aa[i].ai k ⟨at',cs[i].cm,16*at'⟩:=rfl
         rw [HJ,show k+1+(cs[i].ai.n-k)=cs[i].ai.n+1 by omega] at JW;rw [show k+1+(cs[i].ai.n-k)=cs[i].ai.n+1 by omega];repeat' (first|refine Wz ?_|refine SW.st (ap hw rfl (aq.cell (i:=6) (v := .slice r.aa.A r.aa.n r.aa.c) rfl)) rfl ?_)
         have tX:=Fz.tD (Nat.le_trans fy FA) jE hi hw JW;have dw:=tX.row;have cK:=aq.ext hw;have gq:=aw.ext hw;have HL:=jR.ext hw;refine SW.gR i 4 ⟨cs[i].Names,cs[i].bg,cs[i].cm,cs[i].Order,⟨A3,cs[i].ai.n+1,c3⟩,cs[i].au⟩ dw rfl rfl rfl cf (by decide) rfl rfl fun O7 fL wH => ?_
         have tS:=dw.gr wH;have Ma:=tX.qB fL wH;have HM:=aF (Et.trans hw) wH (Nat.le_refl _) dw.aM;(replace cK:=cK.ay tS rfl;replace gq:=gq.ay tS rfl;replace HL:=HL.ay tS rfl)
         have DU:=HL.rows (s':=ct (iI s (jc s.Words (16*at') s.aa[i].bg s.aa[i].cm)) i (u.1,eI s.aa[i] at')) (cs':=cs.set i ⟨cs[i].Names,cs[i].bg,cs[i].cm,cs[i].Order,⟨A3,cs[i].ai.n+1,c3⟩,cs[i].au⟩) rfl (fun u hu=>by
          rcases List.mem_or_eq_of_mem_set hu with hu|rfl
          ·exact ⟨u,hu,rfl⟩
          ·exact ⟨cs[i],List.getElem_mem jE,rfl⟩)
         have pR:eI s.aa[i] at'=⟨s.aa[i].Names,s.aa[i].bg,s.aa[i].cm,s.aa[i].Order,aV s.aa[i].ai k ⟨at',cs[i].cm,16*at'⟩,s.aa[i].au⟩:=by
          unfold eI;rw [uG,rJ]
         have gw:=kz.new rK hu he (by rw [gh];exact hc);rw [gh] at gw;refine Wz ?_;refine ae.kx ?_;rw [Kt];refine ⟨_,⟨XA,r.Words.n,Xc⟩,H,_,gw,⟨rfl,rfl,rfl,rfl,by rw [uG];rfl,trivial⟩,HM,cK,gq,?_,DU,fun j x h=>((pM j x h).ext hw).ay tS rfl,fun j x hj h=>((JT j x hj h).ext hw).ay tS rfl,Nat.le_trans FA (Nat.le_trans hw.size wH.size)⟩;simp only;rw [pR];exact Ma
       ·have wy:k=cs[i].ai.n:=by omega
        have uG:lI s.aa[i] at'=k:=nL (by omega) (fun j hj h=>de j hj (by omega)) (fun h=>by omega)
        repeat' (first|refine Wz ?_|refine SW.st (ap hw rfl (bk.cell (i:=4) (v := .slice cs[i].ai.A cs[i].ai.n cs[i].ai.c) rfl)) rfl ?_|refine SW.st (ap hw rfl (bk.cell (i:=2) (v := .int .i64 cs[i].cm) rfl)) rfl ?_)
        all_goals try omega
        have tg:=mh s.aa[i] at';have uq:(s.aa[i].ai.take k).length=k:=by rw [List.length_take];omega
        refine SW.bK rfl rfl rfl rfl rfl fun bn Ck aj JB DS => ?_
        (replace hw:=Ext.trans hw aj;replace hL:=hL.ext aj);refine SW.append hL (aJ.mo (enc:=aY) (x:=⟨at',cs[i].cm,16*at'⟩) DS) hw.size rfl rfl rfl (by omega) (by omega) fun A2 c2 Nl JU hg => ?_
        replace hw:=aF hw hg (Nat.le_refl _) hL.aM;repeat' (first|refine Wz ?_|refine SW.st (ap hw rfl (bk.cell (i:=4) (v := .slice cs[i].ai.A cs[i].ai.n cs[i].ai.c) rfl)) rfl ?_|(refine SW.st (bh (k:=k) rfl rfl (by omega) (by omega)) rfl ?_))
        have JV:=((Fz.get jE hi).aS.sl).ext hw;simp only at JV;refine SW.append JU (JV.drop k cs[i].ai.c (by omega) (by omega)) hw.size rfl rfl rfl (by omega) (by omega) fun A3 c3 O6 JW hg => ?_
        replace hw:=aF hw hg (Nat.le_refl _) JU.aM;have HJ:(s.aa[i].ai.take k++[(⟨at',cs[i].cm,16*at'⟩ : Slab)])++s.aa[i].ai.drop k=aV s.aa[i].ai k ⟨at',cs[i].cm,16*at'⟩:=rfl
        rw [HJ,show k+1+(cs[i].ai.n-k)=cs[i].ai.n+1 by omega] at JW;rw [show k+1+(cs[i].ai.n-k)=cs[i].ai.n+1 by omega];repeat' (first|refine Wz ?_|refine SW.st (ap hw rfl (aq.cell (i:=6) (v := .slice r.aa.A r.aa.n r.aa.c) rfl)) rfl ?_)
        have tX:=Fz.tD (Nat.le_trans fy FA) jE hi hw JW;have dw:=tX.row;have cK:=aq.ext hw;have gq:=aw.ext hw;have HL:=jR.ext hw;refine SW.gR i 4 ⟨cs[i].Names,cs[i].bg,cs[i].cm,cs[i].Order,⟨A3,cs[i].ai.n+1,c3⟩,cs[i].au⟩ dw rfl rfl rfl cf (by decide) rfl rfl fun O7 fL wH => ?_
        have tS:=dw.gr wH;have Ma:=tX.qB fL wH;have HM:=aF (Et.trans hw) wH (Nat.le_refl _) dw.aM;(replace cK:=cK.ay tS rfl;replace gq:=gq.ay tS rfl;replace HL:=HL.ay tS rfl)
        have DU:=HL.rows (s':=ct (iI s (jc s.Words (16*at') s.aa[i].bg s.aa[i].cm)) i (u.1,eI s.aa[i] at')) (cs':=cs.set i ⟨cs[i].Names,cs[i].bg,cs[i].cm,cs[i].Order,⟨A3,cs[i].ai.n+1,c3⟩,cs[i].au⟩) rfl (fun u hu=>by
         rcases List.mem_or_eq_of_mem_set hu with hu|rfl
         ·exact ⟨u,hu,rfl⟩
         ·exact ⟨cs[i],List.getElem_mem jE,rfl⟩)
        have pR:eI s.aa[i] at'=⟨s.aa[i].Names,s.aa[i].bg,s.aa[i].cm,s.aa[i].Order,aV s.aa[i].ai k ⟨at',cs[i].cm,16*at'⟩,s.aa[i].au⟩:=by
         unfold eI;rw [uG,rJ]
        have gw:=kz.new rK hu he (by rw [gh];exact hc);rw [gh] at gw;refine Wz ?_;refine ae.kx ?_;rw [Kt];refine ⟨_,⟨XA,r.Words.n,Xc⟩,H,_,gw,⟨rfl,rfl,rfl,rfl,by rw [uG];rfl,trivial⟩,HM,cK,gq,?_,DU,fun j x h=>((pM j x h).ext hw).ay tS rfl,fun j x hj h=>((JT j x hj h).ext hw).ay tS rfl,Nat.le_trans FA (Nat.le_trans hw.size wH.size)⟩;simp only;rw [pR];exact Ma
      ·have kb:=hc;unfold gj at kb;rw [if_neg (by rw [Ht] at kb;exact kb)] at hv;subst hv;have gw:=kz.chain rK hu he (by rw [gh];exact hc);refine Wz ?_;all_goals try omega
       refine SW.ak aw rfl rfl rfl rfl (cr r) fun w9 bF hg => ?_
       have Eb:∀ j x,aJ w j 44 x→aJ w9 j 44 x:=fun j x h=>(h.ext hw).grown hg (by have:=h.lt;simp;omega)
       have Ec:∀ j x,G j→aJ w j 3 x→aJ w9 j 3 x:=fun j x hj h=>(h.ext hw).grown hg (by have:=h.lt;simp;omega)
       replace hw:=hw.own cu hg;refine Wz ?_;refine ae.Ac ?_;refine Wz ?_;exact ae.cl rfl rfl rfl rfl bF rfl ⟨_,rfl,_,gw,hx.trans hw,Eb,Ec,.inl ⟨rfl,by simp,rfl⟩⟩
     ·have gw:=kz.room rK hu (by rw [he];exact Fv);refine Wz ?_;all_goals try omega
      refine SW.ak aw rfl rfl rfl rfl (cr r) fun w9 bF hg => ?_
      have Eb:∀ j x,aJ w j 44 x→aJ w9 j 44 x:=fun j x h=>(h.ext hw).grown hg (by have:=h.lt;simp;omega)
      have Ec:∀ j x,G j→aJ w j 3 x→aJ w9 j 3 x:=fun j x hj h=>(h.ext hw).grown hg (by have:=h.lt;simp;omega)
      replace hw:=hw.own cu hg;refine Wz ?_;refine ae.Ac ?_;refine Wz ?_;exact ae.cl rfl rfl rfl rfl bF rfl ⟨_,rfl,_,gw,hx.trans hw,Eb,Ec,.inl ⟨rfl,by simp only;rw [he];exact Fv,by simp only;rw [he];rfl⟩⟩
   ·clear hw aq aw bk hS hJ fv;subst Kt;rintro L' w7 ⟨M,X,H,cs',gw,fv,O8,aq,aw,hS,hJ,re,rm,vt⟩
    refine ae.sub fv ?_;have jh:=gw.GH hM M rfl;obtain ⟨e3,e4⟩:=hS.rows;simp only [iI] at e3;have lc:i<cs'.length:=by omega
    have dk:=jh.hk;have JI:=jh.first
    have C9:=jh.free;have O9:=jh.len;obtain ⟨y,hy⟩ : ∃ y,M.c.ai[M.k]=y:=⟨_,rfl⟩;have Ip:fj M.c M.k=y:=by rw [gb dk,hy]
    rw [hy] at JI C9;obtain ⟨an,Hz⟩:=Int.eq_ofNat_of_zero_le JI.1;have Nm:M.c.au.length=s.aa[i].au.length:=by cases gw<;>rfl
    have hX:=hS;clear hS;have hC:=hX.get lc hi;simp only at hC;have q5:M.c.ai.length=cs'[i].ai.n:=hC.aS.len
    have q6:M.c.au.length=cs'[i].au.n:=hC.a8.len
    have q7:M.ws.length=X.n:=hX.words.len
    have nF:M.k<cs'[i].ai.n:=by omega
    have D0:cpu<cs'[i].au.n:=by omega
    have HA:an<M.ws.length:=by omega
    have HB:an<X.n:=by omega
    have JF:=hC.aS.sl.base;have JG:=hC.a8.sl.base;have Pa:=hX.words.sl.base;have Mb:=hC.aS.lt_size
    have gy:∀ j v,(aY y)[j]?=some v→w7.cell? ((((cs'[i].ai.A).getD default).add (M.k*3)).add j)=some v:=fun j v hv=>by
     refine hC.aS.sl.all nF j v ?_;rw [show (M.c.ai[M.k]'(by omega))=y from hy];exact hv
    clear hC;have hw:=Ext.refl w7;repeat' (first|refine Wz ?_|refine SW.st (ao rfl (hX.row.sl.dA cf (j:=4) (u := .slice cs'[i].ai.A cs'[i].ai.n cs'[i].ai.c) rfl)) rfl ?_|refine SW.st (aW rfl rfl gy) rfl ?_)
    refine SW.alloc rfl fun JX w8 Pb Gi mj => ?_
    refine SW.ak mj rfl rfl rfl rfl (fw.one (enc:=aY) y) fun w9 Gj hg => ?_
    have aj:=Pb.own Gi hg;have Nn:w7.heap.size≤JX:=Gi
    (replace hw:=Ext.trans hw aj;replace aq:=aq.ext aj;replace aw:=aw.ext aj;replace hX:=hX.ext aj;replace hJ:=hJ.ext aj);clear mj hg gy;have mj:aJ w9 JX 91 (aY y):=Gj
    clear Gj;refine Wz ?_;refine CW.iS 10 10 (fun _=>True) mixed (by kernel_rfl) fun w1 ab aG => ?_
    replace hw:=Ext.trans hw ab;replace aq:=aq.ext ab;replace aw:=aw.ext ab;replace mj:=mj.ext ab;replace hX:=hX.ext ab;replace hJ:=hJ.ext ab;clear ab;refine SF.take 0 [] [] aG rfl (by kernel_rfl) (by kernel_rfl) (by kernel_rfl) ?_;repeat ((show SW _ _ _ _ (⟨_,Op.fieldAddr _ _ _,_,_,_,none⟩::_) _ _;refine SW.st (aD rfl) rfl ?_))
    refine SW.ah ?_;refine SF.take 1 [] [] aG rfl (by kernel_rfl) (by kernel_rfl) (by kernel_rfl) ?_;repeat ((show SW _ _ _ _ (⟨_,Op.load _ _,_,_,_,none⟩::_) _ _;refine SW.st (ao rfl (aq.cell (i:=6) (v := .slice r.aa.A r.aa.n r.aa.c) rfl)) rfl ?_))
    refine SW.ah ?_;refine SF.take 2 [] [] aG rfl (by kernel_rfl) (by kernel_rfl) (by kernel_rfl) ?_;repeat (refine SW.pure rfl rfl ?_)
    refine SW.ah ?_;refine SF.take 3 [] [] aG rfl (by kernel_rfl) (by kernel_rfl) (by kernel_rfl) ?_;repeat ((show SW _ _ _ _ (⟨_,Op.indexAddr _ _ _,_,_,_,none⟩::_) _ _;refine SW.st (bj rfl rfl (by assumption) (by omega)) rfl ?_))
    refine SW.ah ?_;refine SF.take 4 [] [] aG rfl (by kernel_rfl) (by kernel_rfl) (by kernel_rfl) ?_;repeat ((show SW _ _ _ _ (⟨_,Op.fieldAddr _ _ _,_,_,_,none⟩::_) _ _;refine SW.st (aD rfl) rfl ?_))
    refine SW.ah ?_;refine SF.take 5 [] [] aG rfl (by kernel_rfl) (by kernel_rfl) (by kernel_rfl) ?_;repeat ((show SW _ _ _ _ (⟨_,Op.load _ _,_,_,_,none⟩::_) _ _;refine SW.st (ao rfl (hX.row.sl.dA cf (j:=5) (u := .slice cs'[i].au.A cs'[i].au.n cs'[i].au.c) rfl)) rfl ?_))
    refine SW.ah ?_;refine SF.take 6 [] [] aG rfl (by kernel_rfl) (by kernel_rfl) (by kernel_rfl) ?_;repeat (refine SW.pure rfl rfl ?_)
    refine SW.ah ?_;refine SF.take 7 [] [] aG rfl (by kernel_rfl) (by kernel_rfl) (by kernel_rfl) ?_;repeat ((show SW _ _ _ _ (⟨_,Op.fieldAddr _ _ _,_,_,_,none⟩::_) _ _;refine SW.st (aD rfl) rfl ?_))
    refine SW.ah ?_;refine SF.take 8 [] [] aG rfl (by kernel_rfl) (by kernel_rfl) (by kernel_rfl) ?_;repeat ((show SW _ _ _ _ (⟨_,Op.load _ _,_,_,_,none⟩::_) _ _;refine SW.st (ao rfl (mj.cell (i:=0) (v := .int .i64 y.At) rfl)) rfl ?_))
    refine SW.ah ?_;refine SF.take 9 [] [] aG rfl (by kernel_rfl) (by kernel_rfl) (by kernel_rfl) ?_;repeat ((show SW _ _ _ _ (⟨_,Op.indexAddr _ _ _,_,_,_,none⟩::_) _ _;refine SW.st (bj rfl rfl (by assumption) (by omega)) rfl ?_))
    refine SW.ah ?_;refine SF.last rfl (by kernel_rfl) (by kernel_rfl) ?_;have hC:=hX.get lc hi;simp only at hC;refine SW.j4 cpu hC.a8 rfl rfl D0 fun mw hO hg => ?_
    have hG:=hC.a8.gr hg;have DY:=hX.act hJ lc hi hO hg;have kw:=aF (O8.trans hw) hg (Nat.le_refl _) hC.a8.aM;have Ed:∀ j x,aJ w j 44 x→aJ mw j 44 x:=fun j x h=>((re j x h).ext hw).ay hG rfl
    have Ee:∀ j x,G j→aJ w j 3 x→aJ mw j 3 x:=fun j x hj h=>((rm j x hj h).ext hw).grown hg (hJ.ne hj lc)
    (replace aq:=aq.ay hG rfl;replace aw:=aw.ay hG rfl;replace mj:=mj.ay hG rfl);clear hX hJ hC hw;have hX:=DY.1;have Mc:=DY.2;clear DY hO hg hG;have hw:=Ext.refl mw;have gW:∀ w',SX w' wb.heap.size ⟨X,H,r.aa⟩ (ct (iI s M.ws) i (M.h,⟨M.c.Names,M.c.bg,M.c.cm,M.c.Order,M.c.ai,M.c.au.set cpu y.At⟩)) cs'→w'.cell? ((X.A.getD default).add (an*1))=some (Value.int .i64 M.ws[an]):=fun w' h=>h.words.sl.one HB (u := .int .i64 M.ws[an]) rfl
    have g2:∀ w',aJ w' JX 91 (aY y)→w'.cell? ((⟨JX,0,none⟩ : Addr).add 2)=some (Value.int .i64 (an:Int)):=fun w' h=>h.cell (i:=2) (by rw [← Hz];rfl)
    refine Wz ?_;refine CW.iS 20 20 (fun _=>True) mixed (by kernel_rfl) fun w1 ab aG => ?_
    replace hw:=Ext.trans hw ab;replace aq:=aq.ext ab;replace aw:=aw.ext ab;replace mj:=mj.ext ab;replace hX:=hX.ext ab;clear ab;refine SF.take 0 [] [] aG rfl (by kernel_rfl) (by kernel_rfl) (by kernel_rfl) ?_;repeat ((show SW _ _ _ _ (⟨_,Op.fieldAddr _ _ _,_,_,_,none⟩::_) _ _;refine SW.st (aD rfl) rfl ?_))
    refine SW.ah ?_;refine SF.take 1 [] [] aG rfl (by kernel_rfl) (by kernel_rfl) (by kernel_rfl) ?_;repeat ((show SW _ _ _ _ (⟨_,Op.load _ _,_,_,_,none⟩::_) _ _;refine SW.st (ao rfl (aq.cell (i:=6) (v := .slice r.aa.A r.aa.n r.aa.c) rfl)) rfl ?_))
    refine SW.ah ?_;refine SF.take 2 [] [] aG rfl (by kernel_rfl) (by kernel_rfl) (by kernel_rfl) ?_;repeat (refine SW.pure rfl rfl ?_)
    refine SW.ah ?_;refine SF.take 3 [] [] aG rfl (by kernel_rfl) (by kernel_rfl) (by kernel_rfl) ?_;repeat ((show SW _ _ _ _ (⟨_,Op.indexAddr _ _ _,_,_,_,none⟩::_) _ _;refine SW.st (bj rfl rfl (by assumption) (by omega)) rfl ?_))
    refine SW.ah ?_;refine SF.take 4 [] [] aG rfl (by kernel_rfl) (by kernel_rfl) (by kernel_rfl) ?_;repeat ((show SW _ _ _ _ (⟨_,Op.fieldAddr _ _ _,_,_,_,none⟩::_) _ _;refine SW.st (aD rfl) rfl ?_))
    refine SW.ah ?_;refine SF.take 5 [] [] aG rfl (by kernel_rfl) (by kernel_rfl) (by kernel_rfl) ?_;repeat ((show SW _ _ _ _ (⟨_,Op.load _ _,_,_,_,none⟩::_) _ _;refine SW.st (ao rfl (hX.row.sl.dA cf (j:=4) (u := .slice cs'[i].ai.A cs'[i].ai.n cs'[i].ai.c) rfl)) rfl ?_))
    refine SW.ah ?_;refine SF.take 6 [] [] aG rfl (by kernel_rfl) (by kernel_rfl) (by kernel_rfl) ?_;repeat (refine SW.pure rfl rfl ?_)
    refine SW.ah ?_;refine SF.take 7 [] [] aG rfl (by kernel_rfl) (by kernel_rfl) (by kernel_rfl) ?_;repeat ((show SW _ _ _ _ (⟨_,Op.fieldAddr _ _ _,_,_,_,none⟩::_) _ _;refine SW.st (aD rfl) rfl ?_))
    refine SW.ah ?_;refine SF.take 8 [] [] aG rfl (by kernel_rfl) (by kernel_rfl) (by kernel_rfl) ?_;repeat ((show SW _ _ _ _ (⟨_,Op.load _ _,_,_,_,none⟩::_) _ _;refine SW.st (ao rfl (mj.cell (i:=0) (v := .int .i64 y.At) rfl)) rfl ?_))
    refine SW.ah ?_;refine SF.take 9 [] [] aG rfl (by kernel_rfl) (by kernel_rfl) (by kernel_rfl) ?_;repeat ((show SW _ _ _ _ (⟨_,Op.fieldAddr _ _ _,_,_,_,none⟩::_) _ _;refine SW.st (aD rfl) rfl ?_))
    refine SW.ah ?_;refine SF.take 10 [] [] aG rfl (by kernel_rfl) (by kernel_rfl) (by kernel_rfl) ?_;repeat ((show SW _ _ _ _ (⟨_,Op.load _ _,_,_,_,none⟩::_) _ _;refine SW.st (ao rfl (mj.cell (i:=1) (v := .int .i64 y.ag) rfl)) rfl ?_))
    refine SW.ah ?_;refine SF.take 11 [] [] aG rfl (by kernel_rfl) (by kernel_rfl) (by kernel_rfl) ?_;repeat ((show SW _ _ _ _ (⟨_,Op.binOp _ _ _ _ _,_,_,_,none⟩::_) _ _;refine SW.st (iy rfl rfl (by omega) (by omega)) rfl ?_))
    refine SW.ah ?_;refine SF.take 12 [] [] aG rfl (by kernel_rfl) (by kernel_rfl) (by kernel_rfl) ?_;repeat ((show SW _ _ _ _ (⟨_,Op.fieldAddr _ _ _,_,_,_,none⟩::_) _ _;refine SW.st (aD rfl) rfl ?_))
    refine SW.ah ?_;refine SF.take 13 [] [] aG rfl (by kernel_rfl) (by kernel_rfl) (by kernel_rfl) ?_;repeat ((show SW _ _ _ _ (⟨_,Op.load _ _,_,_,_,none⟩::_) _ _;refine SW.st (ao rfl (aq.cell (i:=0) (v := .slice X.A X.n X.c) rfl)) rfl ?_))
    refine SW.ah ?_;refine SF.take 14 [] [] aG rfl (by kernel_rfl) (by kernel_rfl) (by kernel_rfl) ?_;repeat ((show SW _ _ _ _ (⟨_,Op.fieldAddr _ _ _,_,_,_,none⟩::_) _ _;refine SW.st (aD rfl) rfl ?_))
    refine SW.ah ?_;refine SF.take 15 [] [] aG rfl (by kernel_rfl) (by kernel_rfl) (by kernel_rfl) ?_;repeat ((show SW _ _ _ _ (⟨_,Op.load _ _,_,_,_,none⟩::_) _ _;refine SW.st (ao rfl (g2 _ mj)) rfl ?_))
    refine SW.ah ?_;refine SF.take 16 [] [] aG rfl (by kernel_rfl) (by kernel_rfl) (by kernel_rfl) ?_;repeat ((show SW _ _ _ _ (⟨_,Op.indexAddr _ _ _,_,_,_,none⟩::_) _ _;refine SW.st (bj rfl rfl (by assumption) (by omega)) rfl ?_))
    refine SW.ah ?_;refine SF.take 17 [] [] aG rfl (by kernel_rfl) (by kernel_rfl) (by kernel_rfl) ?_;repeat ((show SW _ _ _ _ (⟨_,Op.load _ _,_,_,_,none⟩::_) _ _;refine SW.st (ao rfl (gW _ hX)) rfl ?_))
    refine SW.ah ?_;refine SF.take 18 [] [] aG rfl (by kernel_rfl) (by kernel_rfl) (by kernel_rfl) ?_;repeat ((show SW _ _ _ _ (⟨_,Op.build _ _,_,_,_,none⟩::_) _ _;refine SW.st (fR rfl rfl) rfl ?_))
    refine SW.ah ?_;refine SF.take 19 [] [] aG rfl (by kernel_rfl) (by kernel_rfl) (by kernel_rfl) ?_;repeat ((show SW _ _ _ _ (⟨_,Op.indexAddr _ _ _,_,_,_,none⟩::_) _ _;refine SW.st (bj rfl rfl (by assumption) (by omega)) rfl ?_))
    refine SW.ah ?_;refine SF.last rfl (by kernel_rfl) (by kernel_rfl) ?_;have hC:=hX.get lc hi;simp only at hC;refine SW.ik (enc:=aY) M.k ⟨y.At,y.ag-1,M.ws[an]⟩ hC.aS rfl rfl nF fun qG hO hg => ?_
    have hG:=hC.aS.gr hg;have HN:=hX.AE lc hi hO hg;have Me:=(Mc.ext hw).ay hG rfl;replace kw:=aF (kw.trans hw) hg (Nat.le_refl _) hC.aS.aM;replace Ed:∀ j x,aJ w j 44 x→aJ qG j 44 x:=fun j x h=>((Ed j x h).ext hw).ay hG rfl
    replace Ee:∀ j x,G j→aJ w j 3 x→aJ qG j 3 x:=fun j x hj h=>((Ee j x hj h).ext hw).ay hG rfl
    replace mj:=mj.grown hg (fun e=>by have:=Mb _ e.symm;omega);(replace aq:=aq.ay hG rfl;replace aw:=aw.ay hG rfl)
    have xN:kr M.c cpu M.k (M.ws.getD (fj M.c M.k).fT.toNat 0)=⟨M.c.Names,M.c.bg,M.c.cm,M.c.Order,M.c.ai.set M.k ⟨y.At,y.ag-1,M.ws[an]⟩,M.c.au.set cpu y.At⟩:=by
     unfold kr;rw [Ip,Hz];simp [HA]
    clear hX hC hw hO hg hG;have hw:=Ext.refl qG;refine Wz ?_;refine CW.iS 3 5 (fun w2=>aJ w2 JX 91 (aY y)) mixed (by kernel_rfl) fun w1 ab aG => ?_
    replace hw:=Ext.trans hw ab;replace aq:=aq.ext ab;replace aw:=aw.ext ab;replace mj:=mj.ext ab;replace HN:=HN.ext ab;clear ab;refine SF.take 0 [] [] aG rfl (by kernel_rfl) (by kernel_rfl) (by kernel_rfl) ?_;repeat ((show SW _ _ _ _ (⟨_,Op.load _ _,_,_,_,none⟩::_) _ _;refine SW.st (aW rfl rfl ((fun _ _=>aq.cell))) rfl ?_))
    refine SW.ah ?_;refine SF.dK 1 [] aG rfl (by kernel_rfl) (by kernel_rfl) (by kernel_rfl) (aD rfl) (fun w2 hS=>aD rfl) rfl ?_;refine SF.dK 2 [] aG rfl (by kernel_rfl) (by kernel_rfl) (by kernel_rfl) (ao rfl (g2 _ mj)) (fun w2 hS=>ao rfl (g2 _ hS)) rfl ?_;refine SF.turn rfl (by kernel_rfl) rfl ?_;refine SW.ak aw rfl rfl rfl rfl (cr ⟨X,H,r.aa⟩) fun Ck bF hg => ?_
    have hG:=aw.gr hg;have hS:=mj.ay hG rfl;have Mf:=HN.ay hG rfl;have Mg:=(Me.ext hw).ay hG rfl;have Mh:=(kw.trans hw).own (Nat.le_trans fy cu) hg;have JY:∀ j x,aJ w j 44 x→aJ Ck j 44 x:=fun j x h=>((Ed j x h).ext hw).grown hg (by have:=h.lt;simp;omega)
    have JZ:∀ j x,G j→aJ w j 3 x→aJ Ck j 3 x:=fun j x hj h=>((Ee j x hj h).ext hw).grown hg (by have:=h.lt;simp;omega)
    refine SW.nil (ae.sg hS ?_);refine SG.one 4 rfl (by kernel_rfl) rfl ?_;repeat (refine SW.pure rfl rfl ?_)
    refine SW.nil (ae.sg hS ?_);refine SG.last rfl (by kernel_rfl) (by kernel_rfl) ?_;refine Wz ?_;exact ae.cl rfl rfl rfl rfl bF rfl ⟨_,rfl,_,gw,Mh,JY,JZ,.inr ⟨M,rfl,X,H,cs',by rw [Ip,Hz],by rw [xN];exact ⟨Mf,Mg.rows rfl fun u hu=>⟨u,hu,rfl⟩⟩⟩⟩
open Go.RowKit
section
variable {P:Program} {L:Env} {w:World} {d:Option Nat} {T:TypeId} {pos:String} {af:Array Edge} {g:Option (Nat×Bool)}
theorem Ef {t ty:TypeId} {x y:Operand} {a:ByteArray} (hx:bR L x=some (.string a)) (hy:bR L y=some (.string a)) : St P ⟨d,.binOp .neq t x y ty,T,pos,af,g⟩ L w (.bool false) :=
 ⟨fun _ A hA w' _=>by
  have e1:=hA.eval hx;have e2:=hA.eval hy;generalize A.eval = ρ at *
  have h1:(binOp .neq t (.string a) (.string a)).run P w' = .ok (.bool false) w':=by
   have:binOp .neq t (.string a) (.string a)=Op.stringOp .neq a a:=by simp [binOp]
   rw [this];simp [Op.stringOp,pure]
  simp [execOp,e1,e2,eqGuard,h1]⟩
theorem FB {t k ty:TypeId} [c:sn P t k] {x y:Operand} (xs:List Int) (hx:bR L x=some (.agg (xs.map (Value.int .i64)).toArray)) (hy:bR L y=some (.agg (xs.map (Value.int .i64)).toArray)) (h1:Nat.beq xs.length k=true) :
 St P ⟨d,.binOp .neq t x y ty,T,pos,af,g⟩ L w (.bool false):=(Cv xs xs hx hy h1 h1).eq (by simp)
end
def Slab.yB (r:Slab) : List Int:=[r.At,r.ag,r.fT]
set_option maxHeartbeats 4000000 in
theorem nw (r q:dQ) (s:aE) (w:World) (ha:qR w r s) (hb:qR w q s) (hs:s.small) :
 bo Tryz.prog 23 [.agg (aR r).toArray,.agg (aR q).toArray] w fun v _=>v = .bool true:=by
 refine aI Tryz.func23 rfl Tryz.ntmps23 rfl ?_;refine CW.seq (CW.region (SW.box rfl rfl fun b2 w1 hw g7 aL => ?_));refine SW.box rfl rfl fun b3 w2 cq bH aq => ?_
 (replace hw:=Ext.trans hw cq;replace aL:=aL.ext cq);obtain ⟨cs,hc⟩:=ha.dn;obtain ⟨cs',kb⟩:=hb.dn;obtain ⟨z1,z2⟩:=hc.len;obtain ⟨z3,z4⟩:=kb.len;have s1:=hs.words;have s3:=hs.dn;have m1:=ha.words.len
 have cM:∀ w',Ext w w'→bo Tryz.prog 53 [.slice r.Words.A r.Words.n r.Words.c,.slice q.Words.A q.Words.n q.Words.c] w' fun v _=>v = .bool true:=fun w' hx=>by
  have:=iA _ _ _ _ r.Words.c q.Words.c _ _ w' (ha.words.ext hx) (hb.words.ext hx) (by omega)
  simpa using this
 have cH:∀ w',Ext w w'→bo Tryz.prog 54 [.agg (bm r.Heap).toArray,.agg (bm q.Heap).toArray] w' fun v _=>v = .bool true:=fun w' hx=>vM _ _ _ w' (ha.heap.ext hx) (hb.heap.ext hx) hs.heap
 repeat' (first|refine Wz ?_|(refine CW.bB rfl ?_)|refine SW.want rfl rfl ?_|refine SW.st (aW rfl rfl ((fY aL))) rfl ?_|refine SW.st (aW rfl rfl ((fY aq))) rfl ?_|((first|refine SW.call rfl rfl (cM _ hw) ?_|refine SW.call rfl rfl (cH _ hw) ?_);intro v w1 ab hv;subst hv;replace hw:=Ext.trans hw ab;replace aL:=aL.ext ab;replace aq:=aq.ext ab;clear ab))
 all_goals try omega
 clear cM cH
 refine CW.loop (fun k:Nat=>[(2,.pointer (some ⟨b2,0,none⟩)),(3,.pointer (some ⟨b3,0,none⟩)),(5,.int .i64 (k:Int))]) (fun k w'=>k≤r.aa.n∧Ext w w'∧aJ w' b2 44 (aR r)∧aJ w' b3 44 (aR q)) (fun k=>r.aa.n-k) 0
  ⟨rfl,rfl,rfl,trivial⟩ ⟨by omega,hw,aL,aq⟩ ?_
 clear hw aL aq;rintro k w' ⟨hk,hw,aL,aq⟩
 have hA:=hc.row.base;have hB:=kb.row.base;by_cases cb:k<r.aa.n
 ·have CZ:k<q.aa.n:=by omega
  have gn:=hc.each.get k (by omega) (by omega);have uI:=kb.each.get k (by omega) (by omega);have sm:=hs.each _ (List.getElem_mem (show k<s.aa.length by omega));have q1:=gn.names.len;have q2:=gn.aS.len;have q3:=gn.a8.len;have PM:=uI.names.len;have PN:=uI.aS.len;have q4:=sm.names;have q5:=sm.aS;have q6:=sm.a8;have g1:=gn.size;have g2:=gn.ji;have g3:=gn.order;have g4:=uI.size;have g5:=uI.ji;have g6:=uI.order
  have cP:∀ w',Ext w w'→bo Tryz.prog 53 [.slice cs[k].au.A cs[k].au.n cs[k].au.c,.slice cs'[k].au.A cs'[k].au.n cs'[k].au.c] w' fun v _=>v = .bool true:=fun w' hx=>by
   have:=iA _ _ _ _ cs[k].au.c cs'[k].au.c _ _ w' (gn.a8.ext hx) (uI.a8.ext hx) (by omega)
   simpa using this
  repeat' (first|refine Wz ?_|refine SW.st (aH hw rfl rfl ((hc.row.all cb))) rfl ?_)
  refine SW.alloc rfl fun b6 w1 ab eg aw => ?_
  skip;refine SW.ak aw rfl rfl rfl rfl (sO _) fun w2 gq hg => ?_
  have aj:=ab.own eg hg;have cu:w.heap.size≤b6:=Nat.le_trans hw.size eg
  replace hw:=Ext.trans hw aj;replace aL:=aL.ext aj;replace aq:=aq.ext aj;replace aw:=gq;clear gq ab hg aj;repeat' (first|refine Wz ?_|refine SW.st (aH hw rfl rfl ((kb.row.all CZ))) rfl ?_)
  refine SW.alloc rfl fun b7 w1 ab lm jY => ?_
  skip;refine SW.ak jY rfl rfl rfl rfl (sO _) fun w2 dJ hg => ?_
  have aj:=ab.own lm hg;have rr:w.heap.size≤b7:=Nat.le_trans hw.size lm
  replace hw:=Ext.trans hw aj;replace aL:=aL.ext aj;replace aq:=aq.ext aj;replace aw:=aw.ext aj;replace jY:=dJ;clear dJ ab hg aj;repeat' (first|refine Wz ?_|(refine CW.bB rfl ?_)|(refine SW.call rfl rfl (cP _ hw) ?_;intro v w1 ab hv;subst hv;replace hw:=Ext.trans hw ab;replace aL:=aL.ext ab;replace aq:=aq.ext ab;replace aw:=aw.ext ab;replace jY:=jY.ext ab;clear ab))
  all_goals try omega
  clear cP
  refine CW.loop (fun j:Nat=>[(2,.pointer (some ⟨b2,0,none⟩)),(3,.pointer (some ⟨b3,0,none⟩)),(5,.int .i64 (k:Int)),(6,.pointer (some ⟨b6,0,none⟩)),(7,.pointer (some ⟨b7,0,none⟩)),(8,.int .i64 (j:Int))])
   (fun j w'=>j≤cs[k].Names.n∧Ext w w'∧aJ w' b2 44 (aR r)∧aJ w' b3 44 (aR q)∧aJ w' b6 89 (dh cs[k])∧aJ w' b7 89 (dh cs'[k])) (fun j=>cs[k].Names.n-j) 0
   ⟨rfl,rfl,rfl,rfl,rfl,rfl,trivial⟩ ⟨by omega,hw,aL,aq,aw,jY⟩ ?_
  clear hw aL aq aw jY;rintro j w' ⟨hj,hw,aL,aq,aw,jY⟩
  have rX:=gn.names.base;have Kc:=uI.names.base;by_cases je:j<cs[k].Names.n
  ·have HO:j<cs'[k].Names.n:=by omega
   repeat' (first|refine Wz ?_|((apply CW.aP mixed;(· kernel_rfl);rotate_left;intro w1 ab;replace hw:=Ext.trans hw ab;replace aL:=aL.ext ab;replace aq:=aq.ext ab;replace aw:=aw.ext ab;replace jY:=jY.ext ab;clear ab;rotate_right))|refine SW.st (ap hw rfl (gn.names.one je rfl)) rfl ?_|refine SW.st (ap hw rfl (uI.names.one HO rfl)) rfl ?_|(refine SW.st (Ef rfl rfl) rfl ?_)|exact SW.bx rfl)
   exact ae.again (j+1) ⟨rfl,rfl,rfl,rfl,rfl,rfl,trivial⟩ (by omega) ⟨by omega,hw,aL,aq,aw,jY⟩
  ·refine Wz ?_;clear je hj rX Kc
   refine CW.loop (fun j:Nat=>[(2,.pointer (some ⟨b2,0,none⟩)),(3,.pointer (some ⟨b3,0,none⟩)),(5,.int .i64 (k:Int)),(6,.pointer (some ⟨b6,0,none⟩)),(7,.pointer (some ⟨b7,0,none⟩)),(9,.int .i64 (j:Int))])
    (fun j w'=>j≤cs[k].ai.n∧Ext w w'∧aJ w' b2 44 (aR r)∧aJ w' b3 44 (aR q)∧aJ w' b6 89 (dh cs[k])∧aJ w' b7 89 (dh cs'[k])) (fun j=>cs[k].ai.n-j) 0
    ⟨rfl,rfl,rfl,rfl,rfl,rfl,trivial⟩ ⟨by omega,hw,aL,aq,aw,jY⟩ ?_
   clear hw aL aq aw jY;rintro j w' ⟨hj,hw,aL,aq,aw,jY⟩
   have rX:=gn.aS.base;have Kc:=uI.aS.base;by_cases je:j<cs[k].ai.n
   ·have HO:j<cs'[k].ai.n:=by omega
    repeat' (first|refine Wz ?_|((apply CW.aP mixed;(· kernel_rfl);rotate_left;intro w1 ab;replace hw:=Ext.trans hw ab;replace aL:=aL.ext ab;replace aq:=aq.ext ab;replace aw:=aw.ext ab;replace jY:=jY.ext ab;clear ab;rotate_right))|refine SW.st (aH hw rfl rfl ((gn.aS.all je))) rfl ?_|refine SW.st (aH hw rfl rfl ((uI.aS.all HO))) rfl ?_|(refine SW.st (FB (Slab.yB (s.aa[k]).ai[j]) rfl rfl rfl) rfl ?_)|exact SW.bx rfl)
    exact ae.again (j+1) ⟨rfl,rfl,rfl,rfl,rfl,rfl,trivial⟩ (by omega) ⟨by omega,hw,aL,aq,aw,jY⟩
   ·refine Wz ?_;exact ae.again (k+1) ⟨rfl,rfl,rfl,trivial⟩ (by omega) ⟨by omega,hw,aL,aq⟩
 ·refine Wz ?_;exact ae.aO rfl rfl ⟨_,rfl,hw,rfl⟩
open Go.RowKit
def ml (G:Nat→Prop) (lo:Nat) (s:aE) (i cpu:Nat) (m:Option Es×Int) (Q:dQ) (a e:Int) (w:World) : Prop :=
 (m.1=none∧m.2≠0∧e=m.2∧a=0) ∨
 ∃ M cs',m=(some M,0)∧a=(fj M.c M.k).fT∧e=0∧SX w lo Q (ct (iI s M.ws) i (M.h,kr M.c cpu M.k (M.ws.getD (fj M.c M.k).fT.toNat 0))) cs'∧SJ G w lo Q (ct (iI s M.ws) i (M.h,kr M.c cpu M.k (M.ws.getD (fj M.c M.k).fT.toNat 0))) cs'
theorem ml.ext {G:Nat→Prop} {lo:Nat} {s:aE} {i cpu:Nat} {m:Option Es×Int} {Q:dQ} {a e:Int} {w w':World} (h:ml G lo s i cpu m Q a e w) (hx:Ext w w') : ml G lo s i cpu m Q a e w':=by
 rcases h with h|⟨M,cs',h1,h2,h3,h4⟩
 ·exact .inl h
 ·exact .inr ⟨M,cs',h1,h2,h3,h4.1.ext hx,h4.2.ext hx⟩
theorem ml.H9 {G:Nat→Prop} {lo:Nat} {s:aE} {i cpu:Nat} {m:Option Es×Int} {Q:dQ} {a e:Int} {w w':World} (h:ml G lo s i cpu m Q a e w) (hG:oa w w' 44) : ml G lo s i cpu m Q a e w':=by
 rcases h with h|⟨M,cs',h1,h2,h3,h4⟩
 ·exact .inl h
 ·exact .inr ⟨M,cs',h1,h2,h3,h4.1.ay hG rfl,h4.2.ay hG rfl⟩
theorem zQ.form {G:Nat→Prop} {wb w0:World} {r:dQ} {s:aE} {i:Nat} {c:bf} {cpu:Nat} {v:Value} {w':World} (h:zQ G wb w0 r s i c cpu v w') :
 ∃ m Q a e,v = .tuple #[.agg (aR Q).toArray,.int .i64 a,.int .i64 e]∧kz s c cpu m∧Ext wb w'∧(∀ j x,aJ w0 j 44 x→aJ w' j 44 x)∧(∀ j x,G j→aJ w0 j 3 x→aJ w' j 3 x)∧ml G wb.heap.size s i cpu m Q a e w':=by
 obtain ⟨m,h1,h2,h3,Np,h4⟩:=h;rcases h4 with ⟨h5,h6,h7⟩|⟨M,h5,X,H,cs',h6,h7⟩
 ·exact ⟨m,_,_,_,h7,h1,h2,h3,Np,.inl ⟨h5,h6,rfl,rfl⟩⟩
 ·exact ⟨m,_,_,_,h6,h1,h2,h3,Np,.inr ⟨M,cs',h5,rfl,rfl,h7⟩⟩
set_option maxHeartbeats 4000000 in
theorem B6 (r:dQ) (s:aE) (n:ByteArray) (cpu:Int) (w:World) (hr:qR w r s) (hf:s.kh) :
 bo Tryz.prog 68 [.agg (aR r).toArray,.string n,.int .i64 cpu] w fun v w' => ∃ u,mi s n cpu u ∧ ∃ q,v = .tuple #[.agg (aR q).toArray,.int .i64 u.2.1,.int .i64 u.2.2]∧na w' w.heap.size q u.1:=by
 refine aI Tryz.func68 rfl Tryz.ntmps68 rfl ?_;have hs:=hf.small;refine CW.seq (CW.region (SW.box rfl rfl fun b3 w1 hw bH aq => ?_));refine SW.alloc rfl fun b6 w3 jW eg aw => ?_
 have cu:w.heap.size≤b6:=Nat.le_trans hw.size eg
 have cG:b6≠b3:=by have:=aq.lt;omega
 have hz:∀ w',na w' w.heap.size dQ.zero aE.zero:=fun w'=>⟨Own.eJ _ _ _ _ _ _,iD.zero w' _,⟨[],dX.nil _ _⟩⟩
 (replace hw:=Ext.trans hw jW;replace aq:=aq.ext jW);obtain ⟨e,hE⟩ : ∃ e,me s n cpu=e:=⟨_,rfl⟩
 have cA:∀ w',Ext w w'→bo Tryz.prog 119 [.agg (aR r).toArray,.string n,.int .i64 cpu] w' fun v _=>v = .int .i64 e:=fun w' hx=>by
  have:=wA r s n cpu w' (hr.ext hx) hf
  rwa [hE] at this
 by_cases he:e=0
 ·subst he;obtain ⟨hq,ht,LU,sK⟩:=wq hE;obtain ⟨i,hi,_,_,rA⟩:=jT ht;have hM:=lD.1 hq;obtain ⟨c,rfl⟩:=Int.eq_ofNat_of_zero_le LU;have OU:=(hM.each i hi).may.a8;have nY:c<s.aa[i].au.length:=by omega
  repeat' (first|refine Wz ?_|(refine SW.call rfl rfl (cA _ hw) ?_;intro v w1 ab hv;subst hv;replace hw:=Ext.trans hw ab;replace aq:=aq.ext ab;replace aw:=aw.ext ab;clear ab))
  all_goals try omega
  refine CW.iS 6 14 (fun _=>True) mixed (by kernel_rfl) fun w1 ab aG => ?_
  replace hw:=Ext.trans hw ab;replace aq:=aq.ext ab;replace aw:=aw.ext ab;clear ab;refine Wf ?_;refine SF.two 1 11 rfl rfl (by kernel_rfl) rfl rfl ?_ ?_
  ·refine SW.call rfl rfl (gL r s _ (hr.ext hw) hs) fun v w6 aj hv => ?_
   obtain ⟨q,cs,rfl,hO,hI⟩:=hv;replace hO:=hO.low hw.size;replace hI:=hI.low hw.size;(replace hw:=Ext.trans hw aj;replace aq:=aq.ext aj;replace aw:=aw.ext aj);try replace aN:=aN.ext aj
   refine SW.nil (ae.sf aj ?_);refine SF.two 4 11 rfl rfl (by kernel_rfl) rfl rfl ?_ ?_
   ·refine SW.call rfl rfl (kO r s n _ (hr.ext hw) hs) fun v w7 aj hv => ?_
    rw [rA] at hv;subst hv;(replace hw:=Ext.trans hw aj;replace aq:=aq.ext aj;replace aw:=aw.ext aj;replace hO:=hO.ext aj;replace hI:=hI.ext aj);try replace aN:=aN.ext aj
    refine SW.nil (ae.sf aj ?_);refine SF.Jz 11 rfl rfl (by kernel_rfl) rfl rfl ?_ ?_
    ·refine SW.da rfl rfl (r4 (fun _=>False) w _ q s cs i c hf hi (nX.of hM hi) hw hO hI.sj (fun _ h=>h.elim) nY) fun v w8 hv => ?_
     obtain ⟨m,Q,a,e,rfl,gw,Et,pM,_,cU⟩:=hv.form;replace aw:=pM _ _ aw;try replace aN:=pM _ _ aN
     clear hw aq hO hI;have hw:=Et;have hS:True:=trivial
     refine SW.nil (ae.sg hS ?_);refine SG.jI 7 aG rfl (by kernel_rfl) (by kernel_rfl) rfl hS (fun _=>ba rfl) rfl ?_;refine SG.jI 8 aG rfl (by kernel_rfl) (by kernel_rfl) rfl hS (fun _=>ba rfl) rfl ?_;refine SG.jI 9 aG rfl (by kernel_rfl) (by kernel_rfl) rfl hS (fun _=>ba rfl) rfl ?_;refine SG.jI 10 aG rfl (by kernel_rfl) (by kernel_rfl) rfl hS (fun _=>ba rfl) rfl ?_;refine SG.one 11 rfl (by kernel_rfl) rfl ?_;refine SW.alloc rfl fun jM w9 aj ij aN => ?_
     have jw:b6≠jM:=fun e=>absurd aw.lt (by omega)
     have ki:w.heap.size≤jM:=Nat.le_trans hw.size ij
     replace aw:=aw.ext aj;try replace aq:=aq.ext aj
     try replace hO:=hO.ext aj
     try replace hI:=hI.ext aj
     try replace cU:=cU.ext aj
     replace hw:=Ext.trans hw aj;have hS:True:=trivial
     refine SW.nil (ae.sg hS ?_);refine SG.one 12 rfl (by kernel_rfl) rfl ?_;refine SW.ak aN rfl rfl rfl rfl (cr Q) fun mw dF hg => ?_
     have hG:=aN.gr hg;replace aw:=aw.grown hg (by simpa using jw);replace hw:=hw.own ki hg;replace cU:=cU.H9 hG;replace aN:=dF;clear dF hg hG;have hS:True:=trivial
     refine SW.nil (ae.sg hS ?_);refine SG.one 13 rfl (by kernel_rfl) rfl ?_;repeat (refine SW.pure rfl rfl ?_)
     refine SW.nil (ae.sg hS ?_);refine SG.last rfl (by kernel_rfl) (by kernel_rfl) ?_;have hP:=mi.Fg hE rA hi (by simpa using gw);rcases cU with ⟨hn,r9,rfl,rfl⟩|⟨M,cs',rfl,rfl,rfl,hX,_⟩
     ·obtain ⟨m1,e⟩:=m;simp only at hn r9 hP;subst hn;simp only [ks] at hP;refine Wz ?_;all_goals try omega
      refine SW.ak aw rfl rfl rfl rfl (cr .zero) fun qG bF hg => ?_
      replace hw:=hw.own cu hg;refine Wz ?_;exact ae.cl rfl rfl rfl rfl bF rfl ⟨_,rfl,hw,_,hP,.zero,rfl,hz _⟩
     ·simp only [ks] at hP;refine Wz ?_;refine SW.ak aw rfl rfl rfl rfl (cr Q) fun qG bF hg => ?_
      have hG:=aw.gr hg;replace hw:=hw.own cu hg;replace hX:=hX.ay hG rfl;refine Wz ?_;exact ae.cl rfl rfl rfl rfl bF rfl ⟨_,rfl,hw,_,hP,_,rfl,by simpa using hX.xT⟩
    ·refine SW.alloc rfl fun jM w9 aj ij aN => ?_
     have jw:b6≠jM:=fun e=>absurd aw.lt (by omega)
     have ki:w.heap.size≤jM:=Nat.le_trans hw.size ij
     replace aw:=aw.ext aj;try replace aq:=aq.ext aj
     try replace hO:=hO.ext aj
     try replace hI:=hI.ext aj
     try replace cU:=cU.ext aj
     replace hw:=Ext.trans hw aj;have hS:True:=trivial
     refine SW.nil (ae.sf aj ?_);refine SF.turn rfl (by kernel_rfl) rfl ?_;refine SW.da rfl rfl (r4 (fun _=>False) w _ q s cs i c hf hi (nX.of hM hi) hw hO hI.sj (fun _ h=>h.elim) nY) fun v w8 hv => ?_
     obtain ⟨m,Q,a,e,rfl,gw,Et,pM,_,cU⟩:=hv.form;replace aw:=pM _ _ aw;try replace aN:=pM _ _ aN
     clear hw aq hO hI;have hw:=Et;have hS:True:=trivial
     refine SW.nil (ae.sg hS ?_);refine SG.one 7 rfl (by kernel_rfl) rfl ?_;repeat (refine SW.pure rfl rfl ?_)
     refine SW.nil (ae.sg hS ?_);refine SG.jI 8 aG rfl (by kernel_rfl) (by kernel_rfl) rfl hS (fun _=>ba rfl) rfl ?_;refine SG.jI 9 aG rfl (by kernel_rfl) (by kernel_rfl) rfl hS (fun _=>ba rfl) rfl ?_;refine SG.jI 10 aG rfl (by kernel_rfl) (by kernel_rfl) rfl hS (fun _=>ba rfl) rfl ?_;refine SG.one 12 rfl (by kernel_rfl) rfl ?_;refine SW.ak aN rfl rfl rfl rfl (cr Q) fun mw dF hg => ?_
     have hG:=aN.gr hg;replace aw:=aw.grown hg (by simpa using jw);replace hw:=hw.own ki hg;replace cU:=cU.H9 hG;replace aN:=dF;clear dF hg hG;have hS:True:=trivial
     refine SW.nil (ae.sg hS ?_);refine SG.one 13 rfl (by kernel_rfl) rfl ?_;repeat (refine SW.pure rfl rfl ?_)
     refine SW.nil (ae.sg hS ?_);refine SG.last rfl (by kernel_rfl) (by kernel_rfl) ?_;have hP:=mi.Fg hE rA hi (by simpa using gw);rcases cU with ⟨hn,r9,rfl,rfl⟩|⟨M,cs',rfl,rfl,rfl,hX,_⟩
     ·obtain ⟨m1,e⟩:=m;simp only at hn r9 hP;subst hn;simp only [ks] at hP;refine Wz ?_;all_goals try omega
      refine SW.ak aw rfl rfl rfl rfl (cr .zero) fun qG bF hg => ?_
      replace hw:=hw.own cu hg;refine Wz ?_;exact ae.cl rfl rfl rfl rfl bF rfl ⟨_,rfl,hw,_,hP,.zero,rfl,hz _⟩
     ·simp only [ks] at hP;refine Wz ?_;refine SW.ak aw rfl rfl rfl rfl (cr Q) fun qG bF hg => ?_
      have hG:=aw.gr hg;replace hw:=hw.own cu hg;replace hX:=hX.ay hG rfl;refine Wz ?_;exact ae.cl rfl rfl rfl rfl bF rfl ⟨_,rfl,hw,_,hP,_,rfl,by simpa using hX.xT⟩
   ·refine SW.alloc rfl fun jM w9 aj ij aN => ?_
    have jw:b6≠jM:=fun e=>absurd aw.lt (by omega)
    have ki:w.heap.size≤jM:=Nat.le_trans hw.size ij
    replace aw:=aw.ext aj;try replace aq:=aq.ext aj
    try replace hO:=hO.ext aj
    try replace hI:=hI.ext aj
    try replace cU:=cU.ext aj
    replace hw:=Ext.trans hw aj;have hS:True:=trivial
    refine SW.nil (ae.sf aj ?_);refine SF.one 4 rfl (by kernel_rfl) rfl ?_;refine SW.call rfl rfl (kO r s n _ (hr.ext hw) hs) fun v w7 aj hv => ?_
    rw [rA] at hv;subst hv;(replace hw:=Ext.trans hw aj;replace aq:=aq.ext aj;replace aw:=aw.ext aj;replace hO:=hO.ext aj;replace hI:=hI.ext aj);try replace aN:=aN.ext aj
    refine SW.nil (ae.sf aj ?_);refine SF.turn rfl (by kernel_rfl) rfl ?_;refine SW.da rfl rfl (r4 (fun _=>False) w _ q s cs i c hf hi (nX.of hM hi) hw hO hI.sj (fun _ h=>h.elim) nY) fun v w8 hv => ?_
    obtain ⟨m,Q,a,e,rfl,gw,Et,pM,_,cU⟩:=hv.form;replace aw:=pM _ _ aw;try replace aN:=pM _ _ aN
    clear hw aq hO hI;have hw:=Et;have hS:True:=trivial
    refine SW.nil (ae.sg hS ?_);refine SG.one 7 rfl (by kernel_rfl) rfl ?_;repeat (refine SW.pure rfl rfl ?_)
    refine SW.nil (ae.sg hS ?_);refine SG.jI 8 aG rfl (by kernel_rfl) (by kernel_rfl) rfl hS (fun _=>ba rfl) rfl ?_;refine SG.jI 9 aG rfl (by kernel_rfl) (by kernel_rfl) rfl hS (fun _=>ba rfl) rfl ?_;refine SG.jI 10 aG rfl (by kernel_rfl) (by kernel_rfl) rfl hS (fun _=>ba rfl) rfl ?_;refine SG.one 12 rfl (by kernel_rfl) rfl ?_;refine SW.ak aN rfl rfl rfl rfl (cr Q) fun mw dF hg => ?_
    have hG:=aN.gr hg;replace aw:=aw.grown hg (by simpa using jw);replace hw:=hw.own ki hg;replace cU:=cU.H9 hG;replace aN:=dF;clear dF hg hG;have hS:True:=trivial
    refine SW.nil (ae.sg hS ?_);refine SG.one 13 rfl (by kernel_rfl) rfl ?_;repeat (refine SW.pure rfl rfl ?_)
    refine SW.nil (ae.sg hS ?_);refine SG.last rfl (by kernel_rfl) (by kernel_rfl) ?_;have hP:=mi.Fg hE rA hi (by simpa using gw);rcases cU with ⟨hn,r9,rfl,rfl⟩|⟨M,cs',rfl,rfl,rfl,hX,_⟩
    ·obtain ⟨m1,e⟩:=m;simp only at hn r9 hP;subst hn;simp only [ks] at hP;refine Wz ?_;all_goals try omega
     refine SW.ak aw rfl rfl rfl rfl (cr .zero) fun qG bF hg => ?_
     replace hw:=hw.own cu hg;refine Wz ?_;exact ae.cl rfl rfl rfl rfl bF rfl ⟨_,rfl,hw,_,hP,.zero,rfl,hz _⟩
    ·simp only [ks] at hP;refine Wz ?_;refine SW.ak aw rfl rfl rfl rfl (cr Q) fun qG bF hg => ?_
     have hG:=aw.gr hg;replace hw:=hw.own cu hg;replace hX:=hX.ay hG rfl;refine Wz ?_;exact ae.cl rfl rfl rfl rfl bF rfl ⟨_,rfl,hw,_,hP,_,rfl,by simpa using hX.xT⟩
  ·refine SW.alloc rfl fun jM w9 aj ij aN => ?_
   have jw:b6≠jM:=fun e=>absurd aw.lt (by omega)
   have ki:w.heap.size≤jM:=Nat.le_trans hw.size ij
   replace aw:=aw.ext aj;try replace aq:=aq.ext aj
   try replace hO:=hO.ext aj
   try replace hI:=hI.ext aj
   try replace cU:=cU.ext aj
   replace hw:=Ext.trans hw aj;have hS:True:=trivial
   refine SW.nil (ae.sf aj ?_);refine SF.one 1 rfl (by kernel_rfl) rfl ?_;refine SW.call rfl rfl (gL r s _ (hr.ext hw) hs) fun v w6 aj hv => ?_
   obtain ⟨q,cs,rfl,hO,hI⟩:=hv;replace hO:=hO.low hw.size;replace hI:=hI.low hw.size;(replace hw:=Ext.trans hw aj;replace aq:=aq.ext aj;replace aw:=aw.ext aj);try replace aN:=aN.ext aj
   refine SW.nil (ae.sf aj ?_);refine SF.one 4 rfl (by kernel_rfl) rfl ?_;refine SW.call rfl rfl (kO r s n _ (hr.ext hw) hs) fun v w7 aj hv => ?_
   rw [rA] at hv;subst hv;(replace hw:=Ext.trans hw aj;replace aq:=aq.ext aj;replace aw:=aw.ext aj;replace hO:=hO.ext aj;replace hI:=hI.ext aj);try replace aN:=aN.ext aj
   refine SW.nil (ae.sf aj ?_);refine SF.turn rfl (by kernel_rfl) rfl ?_;refine SW.da rfl rfl (r4 (fun _=>False) w _ q s cs i c hf hi (nX.of hM hi) hw hO hI.sj (fun _ h=>h.elim) nY) fun v w8 hv => ?_
   obtain ⟨m,Q,a,e,rfl,gw,Et,pM,_,cU⟩:=hv.form;replace aw:=pM _ _ aw;try replace aN:=pM _ _ aN
   clear hw aq hO hI;have hw:=Et;have hS:True:=trivial
   refine SW.nil (ae.sg hS ?_);refine SG.one 7 rfl (by kernel_rfl) rfl ?_;repeat (refine SW.pure rfl rfl ?_)
   refine SW.nil (ae.sg hS ?_);refine SG.jI 8 aG rfl (by kernel_rfl) (by kernel_rfl) rfl hS (fun _=>ba rfl) rfl ?_;refine SG.jI 9 aG rfl (by kernel_rfl) (by kernel_rfl) rfl hS (fun _=>ba rfl) rfl ?_;refine SG.jI 10 aG rfl (by kernel_rfl) (by kernel_rfl) rfl hS (fun _=>ba rfl) rfl ?_;refine SG.one 12 rfl (by kernel_rfl) rfl ?_;refine SW.ak aN rfl rfl rfl rfl (cr Q) fun mw dF hg => ?_
   have hG:=aN.gr hg;replace aw:=aw.grown hg (by simpa using jw);replace hw:=hw.own ki hg;replace cU:=cU.H9 hG;replace aN:=dF;clear dF hg hG;have hS:True:=trivial
   refine SW.nil (ae.sg hS ?_);refine SG.one 13 rfl (by kernel_rfl) rfl ?_;repeat (refine SW.pure rfl rfl ?_)
   refine SW.nil (ae.sg hS ?_);refine SG.last rfl (by kernel_rfl) (by kernel_rfl) ?_;have hP:=mi.Fg hE rA hi (by simpa using gw);rcases cU with ⟨hn,r9,rfl,rfl⟩|⟨M,cs',rfl,rfl,rfl,hX,_⟩
   ·obtain ⟨m1,e⟩:=m;simp only at hn r9 hP;subst hn;simp only [ks] at hP;refine Wz ?_;all_goals try omega
    refine SW.ak aw rfl rfl rfl rfl (cr .zero) fun qG bF hg => ?_
    replace hw:=hw.own cu hg;refine Wz ?_;exact ae.cl rfl rfl rfl rfl bF rfl ⟨_,rfl,hw,_,hP,.zero,rfl,hz _⟩
   ·simp only [ks] at hP;refine Wz ?_;refine SW.ak aw rfl rfl rfl rfl (cr Q) fun qG bF hg => ?_
    have hG:=aw.gr hg;replace hw:=hw.own cu hg;replace hX:=hX.ay hG rfl;refine Wz ?_;exact ae.cl rfl rfl rfl rfl bF rfl ⟨_,rfl,hw,_,hP,_,rfl,by simpa using hX.xT⟩
 ·have hP:=mi.ask (s:=s) (n:=n) (cpu:=cpu) (by rw [hE];exact he);rw [hE] at hP;repeat' (first|refine Wz ?_|(refine SW.call rfl rfl (cA _ hw) ?_;intro v w1 ab hv;subst hv;replace hw:=Ext.trans hw ab;replace aq:=aq.ext ab;replace aw:=aw.ext ab;clear ab))
  all_goals try omega
  refine SW.ak aw rfl rfl rfl rfl (cr .zero) fun w6 bF hg => ?_
  replace hw:=hw.own cu hg;refine Wz ?_;exact ae.cl rfl rfl rfl rfl bF rfl ⟨_,rfl,hw,_,hP,.zero,rfl,hz _⟩
theorem mi.small {s:aE} {n:ByteArray} {cpu:Int} {u:aE×Int×Int} (x:mi s n cpu u) (hf:s.kh) : u.1.small:=by
 cases x with
 | ask=>exact aE.km
 | Fg h e hi hm =>
   have:=qD (.of (lD.1 (wq h).1) hi)
   exact xZ hi hm hf (by omega)
end Go.Proofs.YtbidkghlpijecaaGreatDoor
