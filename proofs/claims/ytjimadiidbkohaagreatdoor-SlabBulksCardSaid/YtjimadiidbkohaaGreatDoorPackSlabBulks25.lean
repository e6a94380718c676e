/-
  Texts of the claim SlabBulks, part 25: what its theorem leans on.
-/
import Derived.Test.YtjimadiidbkohaaGreatDoorPackSlabBulks22
import Derived.Test.YtjimadiidbkohaaGreatDoorPackSlabBulks24
import Derived.Test.YtjimadiidbkohaaGreatDoorPackSlabBulks2
import Derived.Test.YtjimadiidbkohaaGreatDoorPackSlabBulks8
set_option linter.unusedVariables false
set_option linter.unusedSimpArgs false
namespace Go.Proofs.YtjimadiidbkohaaGreatDoor
open Go.RowKit
def zM (G:Nat→Prop) (wb w0:World) (r:dP) (s:aE) (i:Nat) (c:bg) (cpu:Nat) (v:Value) (w':World) : Prop :=
 ∃ m,jZ s c cpu m∧Ext wb w'∧(∀ j x,aI w0 j 30 x→aI w' j 30 x)∧(∀ j x,G j→aI w0 j 3 x→aI w' j 3 x) ∧
  ((m.1=none∧m.2≠0∧v = .tuple #[.agg (aT r).toArray,.int .i64 0,.int .i64 m.2]) ∨
   ∃ M,m=(some M,0) ∧ ∃ X H cs',v = .tuple #[.agg (aT ⟨X,H,r.aa⟩).toArray,.int .i64 (c7 M.c M.k).dg,.int .i64 0]∧SX w' wb.heap.size ⟨X,H,r.aa⟩ (bQ (fL s M.ws) i (M.h,fv M.c cpu M.k (M.ws.getD (c7 M.c M.k).dg.toNat 0))) cs'∧SJ G w' wb.heap.size ⟨X,H,r.aa⟩ (bQ (fL s M.ws) i (M.h,fv M.c cpu M.k (M.ws.getD (c7 M.c M.k).dg.toNat 0))) cs')
set_option maxHeartbeats 8000000 in
theorem wC (G:Nat→Prop) (wb w:World) (r:dP) (s:aE) (cs:List de) (i cpu:Nat) (hf:s.gL) (hi:i<s.aa.length) (hM:mi s s.aa[i])
 (hx:Ext wb w) (hS:SX w wb.heap.size r s cs) (hJ:SJ G w wb.heap.size r s cs) (E6:∀ g,G g→g<w.heap.size) (oG:cpu<s.aa[i].au.length) :
 il Tryz.prog 17 [.agg (aT r).toArray,.int .i64 (i:Int),.int .i64 (cpu:Int)] w (zM G wb w r s i s.aa[i] cpu):=by
 refine dC Tryz.func17 rfl Tryz.ntmps17 rfl ?_;refine CW.seq (CW.region (SW.box rfl rfl fun b3 w1 hw bM ar => ?_));refine SW.alloc rfl fun b6 w3 j2 fb ax => ?_
 have dr:w.heap.size≤b6:=Nat.le_trans hw.size fb
 have cG:b6≠b3:=by have:=ar.lt;omega
 (replace hw:=Ext.trans hw j2;replace ar:=ar.ext j2);have hm:=hM.most;have h1:=hf.iT;have HC:=hM.words;have e0:=oB hi;have h2:=hf.KU hi;have q4:=h2.small.ba;have fG:=hx.size;have Dc:=qt hM;obtain ⟨e1,e2⟩:=hS.len;have jP:i<cs.length:=by omega
 have ck:i<r.aa.n:=by omega
 have Lm:=hS.row.sl.base;have G6:=hS.words.len;have hC:=hS.each.get i jP hi;have re:=hC.order;have vi:=hC.size;have rq:=hC.fk;have q1:=hC.aR.len;have q3:=hC.ba.len;have Fm:cpu<cs[i].au.n:=by omega
 have JT:=hC.aR.sl.base;have Ob:=hC.ba.sl.base;have yf:=ve hM oG;have BJ:=hS.v9;clear hC;obtain ⟨o,ho⟩ : ∃ o,uo s.aa[i] cpu=o:=⟨_,rfl⟩;obtain ⟨t,ht⟩ : ∃ t,s.aa[i].au[cpu]=t:=⟨_,rfl⟩;have gT:(s.aa[i].au.getD cpu 0)=t:=by rw [← ht];simp [oG]
 rw [ho,ht] at yf;have gA:∀ w',SX w' wb.heap.size r s cs→w'.cell? ((((cs[i].au.A).getD default).add (cpu*1)))=some (Value.int .i64 t):=fun w' h=>(h.each.get i jP hi).ba.sl.one Fm (by rw [show s.aa[i].au[cpu]=t from ht];rfl)
 replace hS:=hS.ext hw;replace hJ:=hJ.ext hw;repeat' (first|refine Wz ?_|refine SW.st (aY rfl rfl ((hS.row.sl.all ck))) rfl ?_)
 refine SW.alloc rfl fun b9 w1 ab om bl => ?_
 skip;refine SW.ap bl rfl rfl rfl rfl (sB cs[i]) fun w2 gz hg => ?_
 have aj:=ab.own om hg;have rc:w.heap.size≤b9:=Nat.le_trans hw.size om
 replace hw:=Ext.trans hw aj;replace ar:=ar.ext aj;replace ax:=ax.ext aj;replace hS:=hS.ext aj;replace hJ:=hJ.ext aj;replace bl:=gz;clear gz ab hg aj;refine SW.nil (ae.seq ?_);refine CW.seq (CW.region ?_);refine SW.pure rfl rfl ?_;refine SW.nil (ae.seq ?_);refine CW.seq ?_;obtain ⟨K1,JW⟩ : ∃ K:Env→World→Prop,K=fun L' w' => ∃ kk:Int,((0≤kk∧fZ s.aa[i] cpu=kk)∨(kk = -1∧fZ s.aa[i] cpu=idxOf (jU s.aa[i]) s.aa[i].ah))∧eE L' [(1,.int .i64 (i:Int)),(2,.int .i64 (cpu:Int)),(3,.pointer (some ⟨b3,0,none⟩)),(6,.pointer (some ⟨b6,0,none⟩)),(9,.pointer (some ⟨b9,0,none⟩)),(10,.int .i64 kk)]∧Ext w w'∧aI w' b3 30 (aT r)∧aI w' b6 30 (aT .zero)∧aI w' b9 46 (df cs[i])∧SX w' wb.heap.size r s cs∧SJ G w' wb.heap.size r s cs:=⟨_,rfl⟩
 refine CW.cut K1 ?_ ?_
 ·rcases yf with ⟨Hy,HL⟩|⟨Hy,k,hk,HL,Lo⟩
  ·have lM:fZ s.aa[i] cpu=idxOf (jU s.aa[i]) s.aa[i].ah:=by
    unfold fZ;rw [ho,if_neg (by omega)]
   repeat' (first|refine Wz ?_|refine SW.st (ak rfl (gA _ hS)) rfl ?_)
   all_goals try omega
   exact ae.cut (K:=K1) (by rw [JW];exact ⟨-1,.inr ⟨rfl,lM⟩,⟨rfl,rfl,rfl,rfl,rfl,rfl,trivial⟩,hw,ar,ax,bl,hS,hJ⟩)
  ·subst HL;have cb:k<cs[i].ah.n:=by omega
   obtain ⟨y,hy⟩ : ∃ y,s.aa[i].ah[k]=y:=⟨_,rfl⟩;have C9:=(hM.rp _ (List.getElem_mem hk)).free;rw [hy] at C9;have gF:∀ w',SX w' wb.heap.size r s cs→w'.cell? ((((cs[i].ah.A).getD default).add (k*3)).add 1)=some (Value.int .i64 y.ag):=fun w' h=>(h.each.get i jP hi).aR.sl.dA cb (j:=1) (show (a8 (s.aa[i].ah[k]'(by omega)))[1]?=some (Value.int .i64 y.ag) by rw [hy];rfl)
   have MO:c7 s.aa[i] ((k:Int)).toNat=y:=by rw [show ((k:Int)).toNat=k by omega,fK hk,hy]
   have hC:=hS.each.get i jP hi
   have cF:∀ w',Ext w2 w'→bt Tryz.prog 28 [.agg (df cs[i]).toArray,.int .i64 t] w' fun v _=>v = .int .i64 (k:Int):=fun w' h=>by
    have:=tg cs[i] s.aa[i].ah t w' (hC.aR.sl.ext h) (by omega)
    unfold uo at ho;rw [gT] at ho;rwa [ho] at this
   have B9:=hw;replace hw:=Ext.refl w2;by_cases fH : 0<y.ag
   ·have lM:fZ s.aa[i] cpu=k:=by
     unfold fZ;rw [ho,if_pos ⟨by omega,by rw [MO];exact fH⟩]
    repeat' (first|refine Wz ?_|((apply CW.aP mixed;(· kernel_rfl);rotate_left;intro w1 ab;replace hw:=Ext.trans hw ab;replace ar:=ar.ext ab;replace ax:=ax.ext ab;replace bl:=bl.ext ab;replace hS:=hS.ext ab;replace hJ:=hJ.ext ab;clear ab;rotate_right))|refine SW.st (ak rfl (gA _ hS)) rfl ?_|refine SW.st (ak rfl (gF _ hS)) rfl ?_|refine SW.bq rfl rfl (fun w1 ab=>(cF _ (Ext.trans hw ab))) ?_|exact SW.bx rfl)
    all_goals try omega
    replace hw:=Ext.trans B9 hw;exact ae.cut (K:=K1) (by rw [JW];exact ⟨k,.inl ⟨by omega,lM⟩,⟨rfl,rfl,rfl,rfl,rfl,rfl,trivial⟩,hw,ar,ax,bl,hS,hJ⟩)
   ·have lM:fZ s.aa[i] cpu=idxOf (jU s.aa[i]) s.aa[i].ah:=by
     unfold fZ;rw [ho,if_neg (by rw [MO];omega)]
    repeat' (first|refine Wz ?_|((apply CW.aP mixed;(· kernel_rfl);rotate_left;intro w1 ab;replace hw:=Ext.trans hw ab;replace ar:=ar.ext ab;replace ax:=ax.ext ab;replace bl:=bl.ext ab;replace hS:=hS.ext ab;replace hJ:=hJ.ext ab;clear ab;rotate_right))|refine SW.st (ak rfl (gA _ hS)) rfl ?_|refine SW.st (ak rfl (gF _ hS)) rfl ?_|refine SW.bq rfl rfl (fun w1 ab=>(cF _ (Ext.trans hw ab))) ?_|exact SW.bx rfl)
    all_goals try omega
    replace hw:=Ext.trans B9 hw;exact ae.cut (K:=K1) (by rw [JW];exact ⟨-1,.inr ⟨rfl,lM⟩,⟨rfl,rfl,rfl,rfl,rfl,rfl,trivial⟩,hw,ar,ax,bl,hS,hJ⟩)
 ·clear hw ar ax bl hS hJ yf;subst JW;rintro L' w5 ⟨kk,wq,fe,hw,ar,ax,bl,hS,hJ⟩
  refine ae.sub fe ?_;obtain ⟨z,hz⟩ : ∃ z,fZ s.aa[i] cpu=z:=⟨_,rfl⟩;rw [hz] at wq;refine Wz ?_;obtain ⟨K2,Hh⟩ : ∃ K:Env→World→Prop,K=fun L' w'=>eE L' [(1,.int .i64 (i:Int)),(2,.int .i64 (cpu:Int)),(3,.pointer (some ⟨b3,0,none⟩)),(6,.pointer (some ⟨b6,0,none⟩)),(9,.pointer (some ⟨b9,0,none⟩)),(10,.int .i64 z)]∧Ext w w'∧aI w' b3 30 (aT r)∧aI w' b6 30 (aT .zero)∧aI w' b9 46 (df cs[i])∧SX w' wb.heap.size r s cs∧SJ G w' wb.heap.size r s cs:=⟨_,rfl⟩
  refine CW.wR K2 ?_ ?_
  ·refine CW.loop (fun t:Nat×Int=>[(1,.int .i64 (i:Int)),(2,.int .i64 (cpu:Int)),(3,.pointer (some ⟨b3,0,none⟩)),(6,.pointer (some ⟨b6,0,none⟩)),(9,.pointer (some ⟨b9,0,none⟩)),(10,.int .i64 t.2),(11,.int .i64 (t.1:Int))])
    (fun t w'=>t.1≤cs[i].ah.n∧((0≤t.2∧z=t.2)∨(t.2 = -1∧z=idxOf (jU s.aa[i]) s.aa[i].ah ∧ ∀ (j:Nat) (hj:j<s.aa[i].ah.length),j<t.1→jU s.aa[i] s.aa[i].ah[j]=false))∧Ext w w'∧aI w' b3 30 (aT r)∧aI w' b6 30 (aT .zero)∧aI w' b9 46 (df cs[i])∧SX w' wb.heap.size r s cs∧SJ G w' wb.heap.size r s cs) (fun t=>cs[i].ah.n-t.1) (0,kk)
    ⟨rfl,rfl,rfl,rfl,rfl,rfl,rfl,trivial⟩ ⟨Nat.zero_le _,by
     rcases wq with h|h
     ·exact .inl h
     ·exact .inr ⟨h.1,h.2,fun j hj h0=>absurd h0 (Nat.not_lt_zero _)⟩,hw,ar,ax,bl,hS,hJ⟩ ?_
   clear hw ar ax bl hS hJ fe wq kk;rintro ⟨j,kk⟩ w6 ⟨hj,wq,hw,ar,ax,bl,hS,hJ⟩
   simp only at hj wq ⊢;by_cases jo:j<cs[i].ah.n
   ·rcases wq with ⟨pS,rfl⟩|⟨rfl,jc,ll⟩
    ·refine Wz ?_;all_goals try omega
     exact ae.kz (by rw [Hh];exact ⟨⟨rfl,rfl,rfl,rfl,rfl,rfl,trivial⟩,hw,ar,ax,bl,hS,hJ⟩)
    ·have kW:j<s.aa[i].ah.length:=by omega
     obtain ⟨y,hy⟩ : ∃ y,s.aa[i].ah[j]=y:=⟨_,rfl⟩
     have gy:∀ w',SX w' wb.heap.size r s cs → ∀ k v,(a8 y)[k]?=some v→w'.cell? ((((cs[i].ah.A).getD default).add (j*3)).add k)=some v:=fun w' h k v hv=>by
      refine (h.each.get i jP hi).aR.sl.all jo k v ?_;rw [show (s.aa[i].ah[j]'(by omega))=y from hy];exact hv
     obtain ⟨t2,Ey⟩ : ∃ t2,decide (y.At∈s.aa[i].au)=t2:=⟨_,rfl⟩;have hC:=hS.each.get i jP hi
     have cT:∀ w',Ext w6 w'→bt Tryz.prog 29 [.agg (df cs[i]).toArray,.int .i64 y.At] w' fun v _=>v = .bool t2:=fun w' hx=>by
      have:=BU cs[i] s.aa[i] y.At w' (hC.rd.ext hx) (by omega)
      rwa [Ey] at this
     have Gj:jU s.aa[i] y=(decide (0<y.ag) && !t2):=by unfold jU;rw [Ey]
     have B9:=hw;replace hw:=Ext.refl w6
     have jS:∀ b,jU s.aa[i] y=b→b=false → ∀ (k:Nat) (hk:k<s.aa[i].ah.length),k<j+1→jU s.aa[i] s.aa[i].ah[k]=false:=fun b h1 h2 k hk h=>by
      by_cases e:k=j
      ·subst e;rw [hy,h1,h2]
      ·exact ll k hk (by omega)
     by_cases fH : 0<y.ag
     ·cases t2
      ·have Ox:z=(j:Int):=by
        rw [jc];exact iw kW (by rw [hy,Gj,decide_eq_true fH];rfl) ll
       repeat' (first|refine Wz ?_|(first|refine CW.bG rfl ?_|(apply CW.aP mixed;(· kernel_rfl);rotate_left;intro w1 ab;replace hw:=Ext.trans hw ab;replace ar:=ar.ext ab;replace ax:=ax.ext ab;replace bl:=bl.ext ab;replace hS:=hS.ext ab;replace hJ:=hJ.ext ab;clear ab;rotate_right))|refine SW.st (ak rfl (gy _ hS 1 (.int .i64 y.ag) rfl)) rfl ?_|refine SW.st (ak rfl (gy _ hS 0 (.int .i64 y.At) rfl)) rfl ?_|refine SW.bq rfl rfl (fun w1 ab=>(cT _ (Ext.trans hw ab))) ?_|exact SW.bx rfl)
       all_goals try omega
       replace hw:=Ext.trans B9 hw;exact ae.again (j+1,(j:Int)) ⟨rfl,rfl,rfl,rfl,rfl,rfl,rfl,trivial⟩ (by simp only;omega) ⟨by simp only;omega,.inl ⟨by simp only;omega,Ox⟩,hw,ar,ax,bl,hS,hJ⟩
      ·repeat' (first|refine Wz ?_|(first|refine CW.bA rfl ?_|(apply CW.aP mixed;(· kernel_rfl);rotate_left;intro w1 ab;replace hw:=Ext.trans hw ab;replace ar:=ar.ext ab;replace ax:=ax.ext ab;replace bl:=bl.ext ab;replace hS:=hS.ext ab;replace hJ:=hJ.ext ab;clear ab;rotate_right))|refine SW.st (ak rfl (gy _ hS 1 (.int .i64 y.ag) rfl)) rfl ?_|refine SW.st (ak rfl (gy _ hS 0 (.int .i64 y.At) rfl)) rfl ?_|refine SW.bq rfl rfl (fun w1 ab=>(cT _ (Ext.trans hw ab))) ?_|exact SW.bx rfl)
       all_goals try omega
       replace hw:=Ext.trans B9 hw;exact ae.again (j+1,(-1:Int)) ⟨rfl,rfl,rfl,rfl,rfl,rfl,rfl,trivial⟩ (by simp only;omega) ⟨by simp only;omega,.inr ⟨rfl,jc,jS _ Gj (by simp)⟩,hw,ar,ax,bl,hS,hJ⟩
     ·repeat' (first|refine Wz ?_|((apply CW.aP mixed;(· kernel_rfl);rotate_left;intro w1 ab;replace hw:=Ext.trans hw ab;replace ar:=ar.ext ab;replace ax:=ax.ext ab;replace bl:=bl.ext ab;replace hS:=hS.ext ab;replace hJ:=hJ.ext ab;clear ab;rotate_right))|refine SW.st (ak rfl (gy _ hS 1 (.int .i64 y.ag) rfl)) rfl ?_|exact SW.bx rfl)
      all_goals try omega
      replace hw:=Ext.trans B9 hw;exact ae.again (j+1,(-1:Int)) ⟨rfl,rfl,rfl,rfl,rfl,rfl,rfl,trivial⟩ (by simp only;omega) ⟨by simp only;omega,.inr ⟨rfl,jc,jS _ Gj (by rw [decide_eq_false fH];rfl)⟩,hw,ar,ax,bl,hS,hJ⟩
   ·have AU:kk=z:=by
     rcases wq with ⟨pS,h⟩|⟨h,jc,ll⟩
     ·exact h.symm
     ·rw [h,jc];exact (fA fun k hk=>ll k hk (by omega)).1.symm
    subst AU;refine Wz ?_;all_goals try omega
    exact ae.kz (by rw [Hh];exact ⟨⟨rfl,rfl,rfl,rfl,rfl,rfl,trivial⟩,hw,ar,ax,bl,hS,hJ⟩)
  ·clear hw ar ax bl hS hJ fe wq;subst Hh;rintro L' w6 ⟨fe,hw,ar,ax,bl,hS,hJ⟩
   refine ae.sub fe ?_;refine ae.seq ?_;refine CW.seq ?_
   obtain ⟨K3,JX⟩ : ∃ K:Env→World→Prop,K=fun L' w' => ∃ M X H cs',jZ s s.aa[i] cpu (some M,0)∧eE L' [(1,.int .i64 (i:Int)),(2,.int .i64 (cpu:Int)),(3,.pointer (some ⟨b3,0,none⟩)),(6,.pointer (some ⟨b6,0,none⟩)),(10,.int .i64 (M.k:Int))]∧Ext wb w'∧aI w' b3 30 (aT ⟨X,H,r.aa⟩)∧aI w' b6 30 (aT .zero) ∧
    SX w' wb.heap.size ⟨X,H,r.aa⟩ (bQ (fL s M.ws) i (M.h,M.c)) cs'∧SJ G w' wb.heap.size ⟨X,H,r.aa⟩ (bQ (fL s M.ws) i (M.h,M.c)) cs'∧(∀ j x,aI w j 30 x→aI w' j 30 x)∧(∀ j x,G j→aI w j 3 x→aI w' j 3 x)∧w.heap.size≤w'.heap.size:=⟨_,rfl⟩
   refine CW.Kc K3 ?_ ?_
   ·by_cases sQ : 0≤z
    ·obtain ⟨k,rfl⟩:=Int.eq_ofNat_of_zero_le sQ;refine Wz ?_;all_goals try omega
     rw [← e0] at hS hJ;exact ae.kz (by rw [JX];exact ⟨⟨s.Words,s.Heap,s.aa[i],k⟩,r.Words,r.Heap,cs,.Aq hz,⟨rfl,rfl,rfl,rfl,rfl,trivial⟩,hx.trans hw,ar,ax,hS,hJ,fun j x h=>h.ext hw,fun j x _ h=>h.ext hw,hw.size⟩)
    ·have ru:fZ s.aa[i] cpu<0:=by omega
     repeat' (first|refine Wz ?_|refine SW.st (aY rfl rfl ((iq ar))) rfl ?_)
     all_goals try omega
     refine SW.call rfl rfl (uv r.Heap s.Heap (cpu:Int) cs[i].Order 0 _ hS.heap.rd h1.small h1.qI) fun v w7 aj hv => ?_
     obtain ⟨u,hu,H,rfl,hH⟩:=hv;replace hH:=hH.low hw.size;obtain ⟨e,he⟩ : ∃ e,u.2.2=e:=⟨_,rfl⟩;obtain ⟨at',iB⟩ : ∃ a,u.2.1=a:=⟨_,rfl⟩;rw [he,iB];rw [re] at hu;(replace hw:=Ext.trans hw aj;replace ar:=ar.ext aj;replace ax:=ax.ext aj;replace bl:=bl.ext aj;replace hS:=hS.ext aj;replace hJ:=hJ.ext aj);refine Wz ?_;refine SW.alloc rfl fun nq w1 ab mv aX => ?_
     skip;refine SW.ap aX rfl rfl rfl rfl (cS H) fun w2 dI hg => ?_
     have aj:=ab.own mv hg;have eD:w.heap.size≤nq:=Nat.le_trans hw.size mv
     replace hw:=Ext.trans hw aj;replace ar:=ar.ext aj;replace ax:=ax.ext aj;replace bl:=bl.ext aj;replace hS:=hS.ext aj;replace hJ:=hJ.ext aj;replace hH:=hH.ext aj;replace aX:=dI;clear dI ab hg aj;by_cases E7:e=0
     ·subst E7;have o7:=hu.at_ he;rw [iB] at o7;refine Wz ?_;all_goals try omega
      refine SW.call rfl rfl (xW r.Words.A r.Words.n r.Words.c s.Words (16*at') cs[i].bh cs[i].cj _ hS.words.sl (by omega)) fun v w8 aj hv => ?_
      rw [ir,vi,rq] at hv;have LB:=hw.size;(replace hw:=Ext.trans hw aj;replace ar:=ar.ext aj;replace ax:=ax.ext aj;replace bl:=bl.ext aj;replace aX:=aX.ext aj;replace hS:=hS.ext aj;replace hJ:=hJ.ext aj;replace hH:=hH.ext aj);by_cases hc:fD s.Words.length (16*at') s.aa[i].bh s.aa[i].cj
      ·have iV:=hc;unfold fD at iV;rw [if_pos (by rw [G6] at iV;exact iV)] at hv;obtain ⟨XA,Xc,rfl,hX⟩:=hv;replace hX:=hX.low LB;refine Wz ?_;all_goals try omega
       refine SW.qw 1 ar rfl rfl rfl (Nat.le_of_ble_eq_true rfl) (cS H) (aT ⟨r.Words,H,r.aa⟩) rfl fun w9 cU hg => ?_
       have hG:=ar.gr hg;have DW:∀ j x,aI w j 30 x→aI w9 j 30 x:=fun j x h=>(h.ext hw).grown hg (by have:=h.lt;simp;omega)
       have DX:∀ j x,G j→aI w j 3 x→aI w9 j 3 x:=fun j x hj h=>(h.ext hw).grown hg (by have:=h.lt;simp;omega)
       replace hw:=hw.own bM hg;replace ax:=ax.grown hg (by simpa using cG);(replace bl:=bl.ay hG rfl;replace hS:=hS.ay hG rfl;replace hJ:=hJ.ay hG rfl;replace hH:=hH.ay hG rfl;replace hX:=hX.ay hG rfl);refine Wz ?_;refine SW.bB (i:=0) cU rfl rfl rfl rfl fun lP FV hg => ?_
       have hG:=cU.gr hg;have Jp:∀ j x,aI w j 30 x→aI lP j 30 x:=fun j x h=>(DW j x h).grown hg (by have:=h.lt;simp;omega)
       have Jq:∀ j x,G j→aI w j 3 x→aI lP j 3 x:=fun j x hj h=>(DX j x hj h).grown hg (by have:=h.lt;simp;omega)
       replace hw:=hw.own bM hg;replace ax:=ax.grown hg (by simpa using cG);(replace bl:=bl.ay hG rfl;replace hS:=hS.ay hG rfl;replace hJ:=hJ.ay hG rfl;replace hH:=hH.ay hG rfl;replace hX:=hX.ay hG rfl);have ar:aI lP b3 30 (aT ⟨⟨XA,r.Words.n,Xc⟩,H,r.aa⟩):=FV
       rw [← e0] at hS;obtain ⟨zL,iW⟩:=nD.fresh (p:=(s.Heap,s.aa[i])) (X:=⟨XA,r.Words.n,Xc⟩) (H:=H) (h':=u.1) (m:=w.heap.size) hS fG BJ (fun g hg=>⟨E6 g hg,fun u hu=>hJ.sep u hu g hg⟩) hX hH;clear hS hX hH hJ hG hg cU FV;have Fc:=hw.size;have MP:=hx.trans hw;refine Wz ?_;clear hw
       refine CW.loop (fun t:Nat×Option Addr×Nat=>[(1,.int .i64 (i:Int)),(2,.int .i64 (cpu:Int)),(3,.pointer (some ⟨b3,0,none⟩)),(6,.pointer (some ⟨b6,0,none⟩)),(9,.pointer (some ⟨b9,0,none⟩)),(10,.int .i64 (t.1:Int)),(13,.int .i64 at'),(16,.slice t.2.1 t.1 t.2.2)])
        (fun t w'=>t.1≤cs[i].ah.n∧(∀ (j:Nat) (hj:j<s.aa[i].ah.length),j<t.1→s.aa[i].ah[j].At<at')∧Ext lP w'∧Own w' lP.heap.size 48 3 a8 t.2.1 t.1 t.2.2 (s.aa[i].ah.take t.1)) (fun t=>cs[i].ah.n-t.1) (0,none,0)
        ⟨rfl,rfl,rfl,rfl,rfl,rfl,rfl,rfl,trivial⟩ ⟨Nat.zero_le _,fun j hj h=>absurd h (Nat.not_lt_zero _),Ext.refl _,by simpa using Own.dS _ _ _ _ _ _⟩ ?_
       rintro ⟨k,A,c⟩ vh ⟨hk,c8,hw,hL⟩
       simp only at hk c8 hL ⊢;have oD:=zL.get jP hi;simp only at oD;have gS:=oD.aR.sl;have O6:=oD.aR.le;by_cases cb:k<cs[i].ah.n
       ·have di:k<s.aa[i].ah.length:=by omega
        obtain ⟨y,hy⟩ : ∃ y,s.aa[i].ah[k]=y:=⟨_,rfl⟩;have gA:=gS.dA cb (j:=0) (show (a8 (s.aa[i].ah[k]'(by omega)))[0]?=some (Value.int .i64 y.At) by rw [hy];rfl);by_cases FP:y.At<at'
        ·repeat' (first|refine Wz ?_|refine SW.st (ao hw rfl (bl.cell (i:=4) (v := .slice cs[i].ah.A cs[i].ah.n cs[i].ah.c) rfl)) rfl ?_|refine SW.st (ao hw rfl gA) rfl ?_|refine SW.st (aH hw rfl rfl ((gS.all cb))) rfl ?_)
         all_goals try omega
         refine SW.bD rfl rfl rfl rfl rfl fun b DF aj hb He => ?_
         (replace hw:=Ext.trans hw aj;replace hL:=hL.ext aj);refine SW.append hL (aI.lj (enc:=a8) He) hw.size rfl rfl rfl (by omega) (by omega) fun A2 c2 FW gi hg => ?_
         replace hw:=aF hw hg (Nat.le_refl _) hL.aL;refine Wz ?_;refine ae.again (k+1,A2,c2) ⟨rfl,rfl,rfl,rfl,rfl,rfl,rfl,rfl,trivial⟩ (by simp only;omega) ⟨by simp only;omega,fun j hj h => ?_,hw,?_⟩
         ·by_cases e:j=k
          ·subst e;rw [hy];exact FP
          ·exact c8 j hj (by simp only at h;omega)
         ·rw [List.take_succ_eq_append_getElem (by omega)];exact gi
        ·have uu:iD s.aa[i] at'=k:=nI (by omega) c8 (fun h=>by rw [hy];exact FP)
         repeat' (first|refine Wz ?_|refine SW.st (ao hw rfl (bl.cell (i:=4) (v := .slice cs[i].ah.A cs[i].ah.n cs[i].ah.c) rfl)) rfl ?_|refine SW.st (ao hw rfl gA) rfl ?_|refine SW.st (ao hw rfl (bl.cell (i:=2) (v := .int .i64 cs[i].cj) rfl)) rfl ?_)
         all_goals try omega
         have rI:=kQ s.aa[i] at';have ud:(s.aa[i].ah.take k).length=k:=by rw [List.length_take];omega
         refine SW.bD rfl rfl rfl rfl rfl fun bn DF aj E8 wo => ?_
         (replace hw:=Ext.trans hw aj;replace hL:=hL.ext aj);refine SW.append hL (aI.lj (enc:=a8) (x:=⟨at',cs[i].cj,16*at'⟩) wo) hw.size rfl rfl rfl (by omega) (by omega) fun A2 c2 FW Jr hg => ?_
         replace hw:=aF hw hg (Nat.le_refl _) hL.aL;repeat' (first|refine Wz ?_|refine SW.st (ao hw rfl (bl.cell (i:=4) (v := .slice cs[i].ah.A cs[i].ah.n cs[i].ah.c) rfl)) rfl ?_|(refine SW.st (bi (k:=k) rfl rfl (by omega) (by omega)) rfl ?_))
         have Js:=((zL.get jP hi).aR.sl).ext hw;simp only at Js;refine SW.append Jr (Js.drop k cs[i].ah.c (by omega) (by omega)) hw.size rfl rfl rfl (by omega) (by omega) fun A3 c3 JY Jt hg => ?_
         replace hw:=aF hw hg (Nat.le_refl _) Jr.aL;have Hl:(s.aa[i].ah.take k++[(⟨at',cs[i].cj,16*at'⟩ : Slab)])++s.aa[i].ah.drop k=aU s.aa[i].ah k ⟨at',cs[i].cj,16*at'⟩:=rfl
         rw [Hl,show k+1+(cs[i].ah.n-k)=cs[i].ah.n+1 by omega] at Jt;rw [show k+1+(cs[i].ah.n-k)=cs[i].ah.n+1 by omega];repeat' (first|refine Wz ?_|refine SW.st (ao hw rfl (ar.cell (i:=6) (v := .slice r.aa.A r.aa.n r.aa.c) rfl)) rfl ?_)
         have tI:=zL.tf (Nat.le_trans fG Fc) jP hi hw Jt;have dz:=tI.row;have cU:=ar.ext hw;have gH:=ax.ext hw;have Hm:=iW.ext hw;refine SW.ig i 4 ⟨cs[i].Names,cs[i].bh,cs[i].cj,cs[i].Order,⟨A3,cs[i].ah.n+1,c3⟩,cs[i].au⟩ dz rfl rfl rfl ck (by decide) rfl rfl fun JZ fX wD => ?_
         have tD:=dz.gr wD;have LC:=tI.qk fX wD;have Hn:=aF (MP.trans hw) wD (Nat.le_refl _) dz.aL;(replace cU:=cU.ay tD rfl;replace gH:=gH.ay tD rfl;replace Hm:=Hm.ay tD rfl)
         have DI:=Hm.rows (s':=bQ (fL s (ez s.Words (16*at') s.aa[i].bh s.aa[i].cj)) i (u.1,ed s.aa[i] at')) (cs':=cs.set i ⟨cs[i].Names,cs[i].bh,cs[i].cj,cs[i].Order,⟨A3,cs[i].ah.n+1,c3⟩,cs[i].au⟩) rfl (fun u hu=>by
          rcases List.mem_or_eq_of_mem_set hu with hu|rfl
          ·exact ⟨u,hu,rfl⟩
          ·exact ⟨cs[i],List.getElem_mem jP,rfl⟩)
         have pJ:ed s.aa[i] at'=⟨s.aa[i].Names,s.aa[i].bh,s.aa[i].cj,s.aa[i].Order,aU s.aa[i].ah k ⟨at',cs[i].cj,16*at'⟩,s.aa[i].au⟩:=by
          unfold ed;rw [uu,rq]
         have fE:=jZ.new ru hu he (by rw [iB];exact hc);rw [iB] at fE;refine Wz ?_;refine ae.kz ?_;rw [JX];refine ⟨_,⟨XA,r.Words.n,Xc⟩,H,_,fE,⟨rfl,rfl,rfl,rfl,by rw [uu];rfl,trivial⟩,Hn,cU,gH,?_,DI,fun j x h=>((Jp j x h).ext hw).ay tD rfl,fun j x hj h=>((Jq j x hj h).ext hw).ay tD rfl,Nat.le_trans Fc (Nat.le_trans hw.size wD.size)⟩;simp only;rw [pJ];exact LC
       ·have wq:k=cs[i].ah.n:=by omega
        have uu:iD s.aa[i] at'=k:=nI (by omega) (fun j hj h=>c8 j hj (by omega)) (fun h=>by omega)
        repeat' (first|refine Wz ?_|refine SW.st (ao hw rfl (bl.cell (i:=4) (v := .slice cs[i].ah.A cs[i].ah.n cs[i].ah.c) rfl)) rfl ?_|refine SW.st (ao hw rfl (bl.cell (i:=2) (v := .int .i64 cs[i].cj) rfl)) rfl ?_)
        all_goals try omega
        have rI:=kQ s.aa[i] at';have ud:(s.aa[i].ah.take k).length=k:=by rw [List.length_take];omega
        refine SW.bD rfl rfl rfl rfl rfl fun bn DF aj E8 wo => ?_
        (replace hw:=Ext.trans hw aj;replace hL:=hL.ext aj);refine SW.append hL (aI.lj (enc:=a8) (x:=⟨at',cs[i].cj,16*at'⟩) wo) hw.size rfl rfl rfl (by omega) (by omega) fun A2 c2 FW Jr hg => ?_
        replace hw:=aF hw hg (Nat.le_refl _) hL.aL;repeat' (first|refine Wz ?_|refine SW.st (ao hw rfl (bl.cell (i:=4) (v := .slice cs[i].ah.A cs[i].ah.n cs[i].ah.c) rfl)) rfl ?_|(refine SW.st (bi (k:=k) rfl rfl (by omega) (by omega)) rfl ?_))
        have Js:=((zL.get jP hi).aR.sl).ext hw;simp only at Js;refine SW.append Jr (Js.drop k cs[i].ah.c (by omega) (by omega)) hw.size rfl rfl rfl (by omega) (by omega) fun A3 c3 JY Jt hg => ?_
        replace hw:=aF hw hg (Nat.le_refl _) Jr.aL;have Hl:(s.aa[i].ah.take k++[(⟨at',cs[i].cj,16*at'⟩ : Slab)])++s.aa[i].ah.drop k=aU s.aa[i].ah k ⟨at',cs[i].cj,16*at'⟩:=rfl
        rw [Hl,show k+1+(cs[i].ah.n-k)=cs[i].ah.n+1 by omega] at Jt;rw [show k+1+(cs[i].ah.n-k)=cs[i].ah.n+1 by omega];repeat' (first|refine Wz ?_|refine SW.st (ao hw rfl (ar.cell (i:=6) (v := .slice r.aa.A r.aa.n r.aa.c) rfl)) rfl ?_)
        have tI:=zL.tf (Nat.le_trans fG Fc) jP hi hw Jt;have dz:=tI.row;have cU:=ar.ext hw;have gH:=ax.ext hw;have Hm:=iW.ext hw;refine SW.ig i 4 ⟨cs[i].Names,cs[i].bh,cs[i].cj,cs[i].Order,⟨A3,cs[i].ah.n+1,c3⟩,cs[i].au⟩ dz rfl rfl rfl ck (by decide) rfl rfl fun JZ fX wD => ?_
        have tD:=dz.gr wD;have LC:=tI.qk fX wD;have Hn:=aF (MP.trans hw) wD (Nat.le_refl _) dz.aL;(replace cU:=cU.ay tD rfl;replace gH:=gH.ay tD rfl;replace Hm:=Hm.ay tD rfl)
        have DI:=Hm.rows (s':=bQ (fL s (ez s.Words (16*at') s.aa[i].bh s.aa[i].cj)) i (u.1,ed s.aa[i] at')) (cs':=cs.set i ⟨cs[i].Names,cs[i].bh,cs[i].cj,cs[i].Order,⟨A3,cs[i].ah.n+1,c3⟩,cs[i].au⟩) rfl (fun u hu=>by
         rcases List.mem_or_eq_of_mem_set hu with hu|rfl
         ·exact ⟨u,hu,rfl⟩
         ·exact ⟨cs[i],List.getElem_mem jP,rfl⟩)
        have pJ:ed s.aa[i] at'=⟨s.aa[i].Names,s.aa[i].bh,s.aa[i].cj,s.aa[i].Order,aU s.aa[i].ah k ⟨at',cs[i].cj,16*at'⟩,s.aa[i].au⟩:=by
         unfold ed;rw [uu,rq]
        have fE:=jZ.new ru hu he (by rw [iB];exact hc);rw [iB] at fE;refine Wz ?_;refine ae.kz ?_;rw [JX];refine ⟨_,⟨XA,r.Words.n,Xc⟩,H,_,fE,⟨rfl,rfl,rfl,rfl,by rw [uu];rfl,trivial⟩,Hn,cU,gH,?_,DI,fun j x h=>((Jp j x h).ext hw).ay tD rfl,fun j x hj h=>((Jq j x hj h).ext hw).ay tD rfl,Nat.le_trans Fc (Nat.le_trans hw.size wD.size)⟩;simp only;rw [pJ];exact LC
      ·have iV:=hc;unfold fD at iV;rw [if_neg (by rw [G6] at iV;exact iV)] at hv;subst hv;have fE:=jZ.chain ru hu he (by rw [iB];exact hc);refine Wz ?_;all_goals try omega
       refine SW.ap ax rfl rfl rfl rfl (dH r) fun w9 bL hg => ?_
       have DW:∀ j x,aI w j 30 x→aI w9 j 30 x:=fun j x h=>(h.ext hw).grown hg (by have:=h.lt;simp;omega)
       have DX:∀ j x,G j→aI w j 3 x→aI w9 j 3 x:=fun j x hj h=>(h.ext hw).grown hg (by have:=h.lt;simp;omega)
       replace hw:=hw.own dr hg;refine Wz ?_;refine ae.z6 ?_;refine Wz ?_;exact ae.dB rfl rfl rfl rfl bL rfl ⟨_,rfl,_,fE,hx.trans hw,DW,DX,.inl ⟨rfl,by simp,rfl⟩⟩
     ·have fE:=jZ.room ru hu (by rw [he];exact E7);refine Wz ?_;all_goals try omega
      refine SW.ap ax rfl rfl rfl rfl (dH r) fun w9 bL hg => ?_
      have DW:∀ j x,aI w j 30 x→aI w9 j 30 x:=fun j x h=>(h.ext hw).grown hg (by have:=h.lt;simp;omega)
      have DX:∀ j x,G j→aI w j 3 x→aI w9 j 3 x:=fun j x hj h=>(h.ext hw).grown hg (by have:=h.lt;simp;omega)
      replace hw:=hw.own dr hg;refine Wz ?_;refine ae.z6 ?_;refine Wz ?_;exact ae.dB rfl rfl rfl rfl bL rfl ⟨_,rfl,_,fE,hx.trans hw,DW,DX,.inl ⟨rfl,by simp only;rw [he];exact E7,by simp only;rw [he];rfl⟩⟩
   ·clear hw ar ax bl hS hJ fe;subst JX;rintro L' w7 ⟨M,X,H,cs',fE,fe,LD,ar,ax,hS,hJ,lL,nM,uB⟩
    refine ae.sub fe ?_;have iT:=fE.Fp hM M rfl;obtain ⟨e3,e4⟩:=hS.rows;simp only [fL] at e3;have lg:i<cs'.length:=by omega
    have di:=iT.hk;have Je:=iT.first
    have C9:=iT.free;have Oy:=iT.len;obtain ⟨y,hy⟩ : ∃ y,M.c.ah[M.k]=y:=⟨_,rfl⟩;have HM:c7 M.c M.k=y:=by rw [fK di,hy]
    rw [hy] at Je C9;obtain ⟨an,Hb⟩:=Int.eq_ofNat_of_zero_le Je.1;have MQ:M.c.au.length=s.aa[i].au.length:=by cases fE<;>rfl
    have hX:=hS;clear hS;have hC:=hX.get lg hi;simp only at hC;have q5:M.c.ah.length=cs'[i].ah.n:=hC.aR.len
    have q6:M.c.au.length=cs'[i].au.n:=hC.ba.len
    have q7:M.ws.length=X.n:=hX.words.len
    have nC:M.k<cs'[i].ah.n:=by omega
    have DO:cpu<cs'[i].au.n:=by omega
    have Hc:an<M.ws.length:=by omega
    have Hd:an<X.n:=by omega
    have Jb:=hC.aR.sl.base;have Jc:=hC.ba.sl.base;have Oz:=hX.words.sl.base;have LF:=hC.aR.lt_size
    have gy:∀ j v,(a8 y)[j]?=some v→w7.cell? ((((cs'[i].ah.A).getD default).add (M.k*3)).add j)=some v:=fun j v hv=>by
     refine hC.aR.sl.all nC j v ?_;rw [show (M.c.ah[M.k]'(by omega))=y from hy];exact hv
    clear hC;have hw:=Ext.refl w7;repeat' (first|refine Wz ?_|refine SW.st (ak rfl (hX.row.sl.dA ck (j:=4) (u := .slice cs'[i].ah.A cs'[i].ah.n cs'[i].ah.c) rfl)) rfl ?_|refine SW.st (aY rfl rfl gy) rfl ?_)
    refine SW.alloc rfl fun Ju w8 OA FX mj => ?_
    refine SW.ap mj rfl rfl rfl rfl (fO.one (enc:=a8) y) fun w9 FY hg => ?_
    have aj:=OA.own FX hg;have MR:w7.heap.size≤Ju:=FX
    (replace hw:=Ext.trans hw aj;replace ar:=ar.ext aj;replace ax:=ax.ext aj;replace hX:=hX.ext aj;replace hJ:=hJ.ext aj);clear mj hg gy;have mj:aI w9 Ju 48 (a8 y):=FY
    clear FY;refine Wz ?_;refine CW.jf 10 10 (fun _=>True) mixed (by kernel_rfl) fun w1 ab aG => ?_
    replace hw:=Ext.trans hw ab;replace ar:=ar.ext ab;replace ax:=ax.ext ab;replace mj:=mj.ext ab;replace hX:=hX.ext ab;replace hJ:=hJ.ext ab;clear ab;refine SF.take 0 [] [] aG rfl (by kernel_rfl) (by kernel_rfl) (by kernel_rfl) ?_;repeat ((show SW _ _ _ _ (⟨_,Op.fieldAddr _ _ _,_,_,_,none⟩::_) _ _;refine SW.st (aC rfl) rfl ?_))
    refine SW.ai ?_;refine SF.take 1 [] [] aG rfl (by kernel_rfl) (by kernel_rfl) (by kernel_rfl) ?_;repeat ((show SW _ _ _ _ (⟨_,Op.load _ _,_,_,_,none⟩::_) _ _;refine SW.st (ak rfl (ar.cell (i:=6) (v := .slice r.aa.A r.aa.n r.aa.c) rfl)) rfl ?_))
    refine SW.ai ?_;refine SF.take 2 [] [] aG rfl (by kernel_rfl) (by kernel_rfl) (by kernel_rfl) ?_;repeat (refine SW.pure rfl rfl ?_)
    refine SW.ai ?_;refine SF.take 3 [] [] aG rfl (by kernel_rfl) (by kernel_rfl) (by kernel_rfl) ?_;repeat ((show SW _ _ _ _ (⟨_,Op.indexAddr _ _ _,_,_,_,none⟩::_) _ _;refine SW.st (bk rfl rfl (by assumption) (by omega)) rfl ?_))
    refine SW.ai ?_;refine SF.take 4 [] [] aG rfl (by kernel_rfl) (by kernel_rfl) (by kernel_rfl) ?_;repeat ((show SW _ _ _ _ (⟨_,Op.fieldAddr _ _ _,_,_,_,none⟩::_) _ _;refine SW.st (aC rfl) rfl ?_))
    refine SW.ai ?_;refine SF.take 5 [] [] aG rfl (by kernel_rfl) (by kernel_rfl) (by kernel_rfl) ?_;repeat ((show SW _ _ _ _ (⟨_,Op.load _ _,_,_,_,none⟩::_) _ _;refine SW.st (ak rfl (hX.row.sl.dA ck (j:=5) (u := .slice cs'[i].au.A cs'[i].au.n cs'[i].au.c) rfl)) rfl ?_))
    refine SW.ai ?_;refine SF.take 6 [] [] aG rfl (by kernel_rfl) (by kernel_rfl) (by kernel_rfl) ?_;repeat (refine SW.pure rfl rfl ?_)
    refine SW.ai ?_;refine SF.take 7 [] [] aG rfl (by kernel_rfl) (by kernel_rfl) (by kernel_rfl) ?_;repeat ((show SW _ _ _ _ (⟨_,Op.fieldAddr _ _ _,_,_,_,none⟩::_) _ _;refine SW.st (aC rfl) rfl ?_))
    refine SW.ai ?_;refine SF.take 8 [] [] aG rfl (by kernel_rfl) (by kernel_rfl) (by kernel_rfl) ?_;repeat ((show SW _ _ _ _ (⟨_,Op.load _ _,_,_,_,none⟩::_) _ _;refine SW.st (ak rfl (mj.cell (i:=0) (v := .int .i64 y.At) rfl)) rfl ?_))
    refine SW.ai ?_;refine SF.take 9 [] [] aG rfl (by kernel_rfl) (by kernel_rfl) (by kernel_rfl) ?_;repeat ((show SW _ _ _ _ (⟨_,Op.indexAddr _ _ _,_,_,_,none⟩::_) _ _;refine SW.st (bk rfl rfl (by assumption) (by omega)) rfl ?_))
    refine SW.ai ?_;refine SF.last rfl (by kernel_rfl) (by kernel_rfl) ?_;have hC:=hX.get lg hi;simp only at hC;refine SW.j8 cpu hC.ba rfl rfl DO fun lP hO hg => ?_
    have hG:=hC.ba.gr hg;have DM:=hX.act hJ lg hi hO hg;have kw:=aF (LD.trans hw) hg (Nat.le_refl _) hC.ba.aL;have DY:∀ j x,aI w j 30 x→aI lP j 30 x:=fun j x h=>((lL j x h).ext hw).ay hG rfl
    have DZ:∀ j x,G j→aI w j 3 x→aI lP j 3 x:=fun j x hj h=>((nM j x hj h).ext hw).grown hg (hJ.ne hj lg)
    (replace ar:=ar.ay hG rfl;replace ax:=ax.ay hG rfl;replace mj:=mj.ay hG rfl);clear hX hJ hC hw;have hX:=DM.1;have LG:=DM.2;clear DM hO hg hG;have hw:=Ext.refl lP;have gW:∀ w',SX w' wb.heap.size ⟨X,H,r.aa⟩ (bQ (fL s M.ws) i (M.h,⟨M.c.Names,M.c.bh,M.c.cj,M.c.Order,M.c.ah,M.c.au.set cpu y.At⟩)) cs'→w'.cell? ((X.A.getD default).add (an*1))=some (Value.int .i64 M.ws[an]):=fun w' h=>h.words.sl.one Hd (u := .int .i64 M.ws[an]) rfl
    have g2:∀ w',aI w' Ju 48 (a8 y)→w'.cell? ((⟨Ju,0,none⟩ : Addr).add 2)=some (Value.int .i64 (an:Int)):=fun w' h=>h.cell (i:=2) (by rw [← Hb];rfl)
    refine Wz ?_;refine CW.jf 20 20 (fun _=>True) mixed (by kernel_rfl) fun w1 ab aG => ?_
    replace hw:=Ext.trans hw ab;replace ar:=ar.ext ab;replace ax:=ax.ext ab;replace mj:=mj.ext ab;replace hX:=hX.ext ab;clear ab;refine SF.take 0 [] [] aG rfl (by kernel_rfl) (by kernel_rfl) (by kernel_rfl) ?_;repeat ((show SW _ _ _ _ (⟨_,Op.fieldAddr _ _ _,_,_,_,none⟩::_) _ _;refine SW.st (aC rfl) rfl ?_))
    refine SW.ai ?_;refine SF.take 1 [] [] aG rfl (by kernel_rfl) (by kernel_rfl) (by kernel_rfl) ?_;repeat ((show SW _ _ _ _ (⟨_,Op.load _ _,_,_,_,none⟩::_) _ _;refine SW.st (ak rfl (ar.cell (i:=6) (v := .slice r.aa.A r.aa.n r.aa.c) rfl)) rfl ?_))
    refine SW.ai ?_;refine SF.take 2 [] [] aG rfl (by kernel_rfl) (by kernel_rfl) (by kernel_rfl) ?_;repeat (refine SW.pure rfl rfl ?_)
    refine SW.ai ?_;refine SF.take 3 [] [] aG rfl (by kernel_rfl) (by kernel_rfl) (by kernel_rfl) ?_;repeat ((show SW _ _ _ _ (⟨_,Op.indexAddr _ _ _,_,_,_,none⟩::_) _ _;refine SW.st (bk rfl rfl (by assumption) (by omega)) rfl ?_))
    refine SW.ai ?_;refine SF.take 4 [] [] aG rfl (by kernel_rfl) (by kernel_rfl) (by kernel_rfl) ?_;repeat ((show SW _ _ _ _ (⟨_,Op.fieldAddr _ _ _,_,_,_,none⟩::_) _ _;refine SW.st (aC rfl) rfl ?_))
    refine SW.ai ?_;refine SF.take 5 [] [] aG rfl (by kernel_rfl) (by kernel_rfl) (by kernel_rfl) ?_;repeat ((show SW _ _ _ _ (⟨_,Op.load _ _,_,_,_,none⟩::_) _ _;refine SW.st (ak rfl (hX.row.sl.dA ck (j:=4) (u := .slice cs'[i].ah.A cs'[i].ah.n cs'[i].ah.c) rfl)) rfl ?_))
    refine SW.ai ?_;refine SF.take 6 [] [] aG rfl (by kernel_rfl) (by kernel_rfl) (by kernel_rfl) ?_;repeat (refine SW.pure rfl rfl ?_)
    refine SW.ai ?_;refine SF.take 7 [] [] aG rfl (by kernel_rfl) (by kernel_rfl) (by kernel_rfl) ?_;repeat ((show SW _ _ _ _ (⟨_,Op.fieldAddr _ _ _,_,_,_,none⟩::_) _ _;refine SW.st (aC rfl) rfl ?_))
    refine SW.ai ?_;refine SF.take 8 [] [] aG rfl (by kernel_rfl) (by kernel_rfl) (by kernel_rfl) ?_;repeat ((show SW _ _ _ _ (⟨_,Op.load _ _,_,_,_,none⟩::_) _ _;refine SW.st (ak rfl (mj.cell (i:=0) (v := .int .i64 y.At) rfl)) rfl ?_))
    refine SW.ai ?_;refine SF.take 9 [] [] aG rfl (by kernel_rfl) (by kernel_rfl) (by kernel_rfl) ?_;repeat ((show SW _ _ _ _ (⟨_,Op.fieldAddr _ _ _,_,_,_,none⟩::_) _ _;refine SW.st (aC rfl) rfl ?_))
    refine SW.ai ?_;refine SF.take 10 [] [] aG rfl (by kernel_rfl) (by kernel_rfl) (by kernel_rfl) ?_;repeat ((show SW _ _ _ _ (⟨_,Op.load _ _,_,_,_,none⟩::_) _ _;refine SW.st (ak rfl (mj.cell (i:=1) (v := .int .i64 y.ag) rfl)) rfl ?_))
    refine SW.ai ?_;refine SF.take 11 [] [] aG rfl (by kernel_rfl) (by kernel_rfl) (by kernel_rfl) ?_;repeat ((show SW _ _ _ _ (⟨_,Op.binOp _ _ _ _ _,_,_,_,none⟩::_) _ _;refine SW.st (iI rfl rfl (by omega) (by omega)) rfl ?_))
    refine SW.ai ?_;refine SF.take 12 [] [] aG rfl (by kernel_rfl) (by kernel_rfl) (by kernel_rfl) ?_;repeat ((show SW _ _ _ _ (⟨_,Op.fieldAddr _ _ _,_,_,_,none⟩::_) _ _;refine SW.st (aC rfl) rfl ?_))
    refine SW.ai ?_;refine SF.take 13 [] [] aG rfl (by kernel_rfl) (by kernel_rfl) (by kernel_rfl) ?_;repeat ((show SW _ _ _ _ (⟨_,Op.load _ _,_,_,_,none⟩::_) _ _;refine SW.st (ak rfl (ar.cell (i:=0) (v := .slice X.A X.n X.c) rfl)) rfl ?_))
    refine SW.ai ?_;refine SF.take 14 [] [] aG rfl (by kernel_rfl) (by kernel_rfl) (by kernel_rfl) ?_;repeat ((show SW _ _ _ _ (⟨_,Op.fieldAddr _ _ _,_,_,_,none⟩::_) _ _;refine SW.st (aC rfl) rfl ?_))
    refine SW.ai ?_;refine SF.take 15 [] [] aG rfl (by kernel_rfl) (by kernel_rfl) (by kernel_rfl) ?_;repeat ((show SW _ _ _ _ (⟨_,Op.load _ _,_,_,_,none⟩::_) _ _;refine SW.st (ak rfl (g2 _ mj)) rfl ?_))
    refine SW.ai ?_;refine SF.take 16 [] [] aG rfl (by kernel_rfl) (by kernel_rfl) (by kernel_rfl) ?_;repeat ((show SW _ _ _ _ (⟨_,Op.indexAddr _ _ _,_,_,_,none⟩::_) _ _;refine SW.st (bk rfl rfl (by assumption) (by omega)) rfl ?_))
    refine SW.ai ?_;refine SF.take 17 [] [] aG rfl (by kernel_rfl) (by kernel_rfl) (by kernel_rfl) ?_;repeat ((show SW _ _ _ _ (⟨_,Op.load _ _,_,_,_,none⟩::_) _ _;refine SW.st (ak rfl (gW _ hX)) rfl ?_))
    refine SW.ai ?_;refine SF.take 18 [] [] aG rfl (by kernel_rfl) (by kernel_rfl) (by kernel_rfl) ?_;repeat ((show SW _ _ _ _ (⟨_,Op.build _ _,_,_,_,none⟩::_) _ _;refine SW.st (gh rfl rfl) rfl ?_))
    refine SW.ai ?_;refine SF.take 19 [] [] aG rfl (by kernel_rfl) (by kernel_rfl) (by kernel_rfl) ?_;repeat ((show SW _ _ _ _ (⟨_,Op.indexAddr _ _ _,_,_,_,none⟩::_) _ _;refine SW.st (bk rfl rfl (by assumption) (by omega)) rfl ?_))
    refine SW.ai ?_;refine SF.last rfl (by kernel_rfl) (by kernel_rfl) ?_;have hC:=hX.get lg hi;simp only at hC;refine SW.iA (enc:=a8) M.k ⟨y.At,y.ag-1,M.ws[an]⟩ hC.aR rfl rfl nC fun vh hO hg => ?_
    have hG:=hC.aR.gr hg;have Ho:=hX.Ay lg hi hO hg;have LH:=(LG.ext hw).ay hG rfl;replace kw:=aF (kw.trans hw) hg (Nat.le_refl _) hC.aR.aL;replace DY:∀ j x,aI w j 30 x→aI vh j 30 x:=fun j x h=>((DY j x h).ext hw).ay hG rfl
    replace DZ:∀ j x,G j→aI w j 3 x→aI vh j 3 x:=fun j x hj h=>((DZ j x hj h).ext hw).ay hG rfl
    replace mj:=mj.grown hg (fun e=>by have:=LF _ e.symm;omega);(replace ar:=ar.ay hG rfl;replace ax:=ax.ay hG rfl)
    have xS:fv M.c cpu M.k (M.ws.getD (c7 M.c M.k).dg.toNat 0)=⟨M.c.Names,M.c.bh,M.c.cj,M.c.Order,M.c.ah.set M.k ⟨y.At,y.ag-1,M.ws[an]⟩,M.c.au.set cpu y.At⟩:=by
     unfold fv;rw [HM,Hb];simp [Hc]
    clear hX hC hw hO hg hG;have hw:=Ext.refl vh;refine Wz ?_;refine CW.jf 3 5 (fun w2=>aI w2 Ju 48 (a8 y)) mixed (by kernel_rfl) fun w1 ab aG => ?_
    replace hw:=Ext.trans hw ab;replace ar:=ar.ext ab;replace ax:=ax.ext ab;replace mj:=mj.ext ab;replace Ho:=Ho.ext ab;clear ab;refine SF.take 0 [] [] aG rfl (by kernel_rfl) (by kernel_rfl) (by kernel_rfl) ?_;repeat ((show SW _ _ _ _ (⟨_,Op.load _ _,_,_,_,none⟩::_) _ _;refine SW.st (aY rfl rfl ((fun _ _=>ar.cell))) rfl ?_))
    refine SW.ai ?_;refine SF.dM 1 [] aG rfl (by kernel_rfl) (by kernel_rfl) (by kernel_rfl) (aC rfl) (fun w2 hS=>aC rfl) rfl ?_;refine SF.dM 2 [] aG rfl (by kernel_rfl) (by kernel_rfl) (by kernel_rfl) (ak rfl (g2 _ mj)) (fun w2 hS=>ak rfl (g2 _ hS)) rfl ?_;refine SF.turn rfl (by kernel_rfl) rfl ?_;refine SW.ap ax rfl rfl rfl rfl (dH ⟨X,H,r.aa⟩) fun DF bL hg => ?_
    have hG:=ax.gr hg;have hS:=mj.ay hG rfl;have LI:=Ho.ay hG rfl;have LJ:=(LH.ext hw).ay hG rfl;have LK:=(kw.trans hw).own (Nat.le_trans fG dr) hg;have Jv:∀ j x,aI w j 30 x→aI DF j 30 x:=fun j x h=>((DY j x h).ext hw).grown hg (by have:=h.lt;simp;omega)
    have Jw:∀ j x,G j→aI w j 3 x→aI DF j 3 x:=fun j x hj h=>((DZ j x hj h).ext hw).grown hg (by have:=h.lt;simp;omega)
    refine SW.nil (ae.sg hS ?_);refine SG.one 4 rfl (by kernel_rfl) rfl ?_;repeat (refine SW.pure rfl rfl ?_)
    refine SW.nil (ae.sg hS ?_);refine SG.last rfl (by kernel_rfl) (by kernel_rfl) ?_;refine Wz ?_;exact ae.dB rfl rfl rfl rfl bL rfl ⟨_,rfl,_,fE,LK,Jv,Jw,.inr ⟨M,rfl,X,H,cs',by rw [HM,Hb],by rw [xS];exact ⟨LI,LJ.rows rfl fun u hu=>⟨u,hu,rfl⟩⟩⟩⟩
open Go.RowKit
section
variable {P:Program} {L:Env} {w:World} {d:Option Nat} {T:TypeId} {pos:String} {af:Array Edge} {g:Option (Nat×Bool)}
theorem D0 {t ty:TypeId} {x y:Operand} {a:ByteArray} (hx:cd L x=some (.string a)) (hy:cd L y=some (.string a)) : St P ⟨d,.binOp .neq t x y ty,T,pos,af,g⟩ L w (.bool false) :=
 ⟨fun _ A hA w' _=>by
  have e1:=hA.eval hx;have e2:=hA.eval hy;generalize A.eval = ρ at *
  have h1:(binOp .neq t (.string a) (.string a)).run P w' = .ok (.bool false) w':=by
   have:binOp .neq t (.string a) (.string a)=Op.stringOp .neq a a:=by simp [binOp]
   rw [this];simp [Op.stringOp,pure]
  simp [execOp,e1,e2,eqGuard,h1]⟩
theorem Fe {t k ty:TypeId} [c:r4 P t k] {x y:Operand} (xs:List Int) (hx:cd L x=some (.agg (xs.map (Value.int .i64)).toArray)) (hy:cd L y=some (.agg (xs.map (Value.int .i64)).toArray)) (h1:Nat.beq xs.length k=true) :
 St P ⟨d,.binOp .neq t x y ty,T,pos,af,g⟩ L w (.bool false):=(Cj xs xs hx hy h1 h1).eq (by simp)
end
def Slab.yw (r:Slab) : List Int:=[r.At,r.ag,r.dg]
set_option maxHeartbeats 4000000 in
theorem ns (r q:dP) (s:aE) (w:World) (ha:rG w r s) (hb:rG w q s) (hs:s.small) :
 bt Tryz.prog 8 [.agg (aT r).toArray,.agg (aT q).toArray] w fun v _=>v = .bool true:=by
 refine aM Tryz.func8 rfl Tryz.ntmps8 rfl ?_;refine CW.seq (CW.region (SW.box rfl rfl fun b2 w1 hw im aK => ?_));refine SW.box rfl rfl fun b3 w2 cJ bM ar => ?_
 (replace hw:=Ext.trans hw cJ;replace aK:=aK.ext cJ);obtain ⟨cs,hc⟩:=ha.dW;obtain ⟨cs',iV⟩:=hb.dW;obtain ⟨z1,z2⟩:=hc.len;obtain ⟨z3,z4⟩:=iV.len;have s1:=hs.words;have s3:=hs.dW;have m1:=ha.words.len
 have cM:∀ w',Ext w w'→bt Tryz.prog 11 [.slice r.Words.A r.Words.n r.Words.c,.slice q.Words.A q.Words.n q.Words.c] w' fun v _=>v = .bool true:=fun w' hx=>by
  have:=gv _ _ _ _ r.Words.c q.Words.c _ _ w' (ha.words.ext hx) (hb.words.ext hx) (by omega)
  simpa using this
 have cH:∀ w',Ext w w'→bt Tryz.prog 19 [.agg (bm r.Heap).toArray,.agg (bm q.Heap).toArray] w' fun v _=>v = .bool true:=fun w' hx=>vF _ _ _ w' (ha.heap.ext hx) (hb.heap.ext hx) hs.heap
 repeat' (first|refine Wz ?_|(refine CW.bA rfl ?_)|refine SW.want rfl rfl ?_|refine SW.st (aY rfl rfl ((iq aK))) rfl ?_|refine SW.st (aY rfl rfl ((iq ar))) rfl ?_|((first|refine SW.call rfl rfl (cM _ hw) ?_|refine SW.call rfl rfl (cH _ hw) ?_);intro v w1 ab hv;subst hv;replace hw:=Ext.trans hw ab;replace aK:=aK.ext ab;replace ar:=ar.ext ab;clear ab))
 all_goals try omega
 clear cM cH
 refine CW.loop (fun k:Nat=>[(2,.pointer (some ⟨b2,0,none⟩)),(3,.pointer (some ⟨b3,0,none⟩)),(5,.int .i64 (k:Int))]) (fun k w'=>k≤r.aa.n∧Ext w w'∧aI w' b2 30 (aT r)∧aI w' b3 30 (aT q)) (fun k=>r.aa.n-k) 0
  ⟨rfl,rfl,rfl,trivial⟩ ⟨by omega,hw,aK,ar⟩ ?_
 clear hw aK ar;rintro k w' ⟨hk,hw,aK,ar⟩
 have hA:=hc.row.base;have hB:=iV.row.base;by_cases cb:k<r.aa.n
 ·have CS:k<q.aa.n:=by omega
  have gu:=hc.each.get k (by omega) (by omega);have uw:=iV.each.get k (by omega) (by omega);have sm:=hs.each _ (List.getElem_mem (show k<s.aa.length by omega));have q1:=gu.names.len;have q2:=gu.aR.len;have q3:=gu.ba.len;have O7:=uw.names.len;have O8:=uw.aR.len;have q4:=sm.names;have q5:=sm.aR;have q6:=sm.ba;have g1:=gu.size;have g2:=gu.fk;have g3:=gu.order;have g4:=uw.size;have g5:=uw.fk;have g6:=uw.order
  have cP:∀ w',Ext w w'→bt Tryz.prog 11 [.slice cs[k].au.A cs[k].au.n cs[k].au.c,.slice cs'[k].au.A cs'[k].au.n cs'[k].au.c] w' fun v _=>v = .bool true:=fun w' hx=>by
   have:=gv _ _ _ _ cs[k].au.c cs'[k].au.c _ _ w' (gu.ba.ext hx) (uw.ba.ext hx) (by omega)
   simpa using this
  repeat' (first|refine Wz ?_|refine SW.st (aH hw rfl rfl ((hc.row.all cb))) rfl ?_)
  refine SW.alloc rfl fun b6 w1 ab fb ax => ?_
  skip;refine SW.ap ax rfl rfl rfl rfl (sB _) fun w2 gH hg => ?_
  have aj:=ab.own fb hg;have dr:w.heap.size≤b6:=Nat.le_trans hw.size fb
  replace hw:=Ext.trans hw aj;replace aK:=aK.ext aj;replace ar:=ar.ext aj;replace ax:=gH;clear gH ab hg aj;repeat' (first|refine Wz ?_|refine SW.st (aH hw rfl rfl ((iV.row.all CS))) rfl ?_)
  refine SW.alloc rfl fun b7 w1 ab lu j4 => ?_
  skip;refine SW.ap j4 rfl rfl rfl rfl (sB _) fun w2 dL hg => ?_
  have aj:=ab.own lu hg;have q9:w.heap.size≤b7:=Nat.le_trans hw.size lu
  replace hw:=Ext.trans hw aj;replace aK:=aK.ext aj;replace ar:=ar.ext aj;replace ax:=ax.ext aj;replace j4:=dL;clear dL ab hg aj;repeat' (first|refine Wz ?_|(refine CW.bA rfl ?_)|(refine SW.call rfl rfl (cP _ hw) ?_;intro v w1 ab hv;subst hv;replace hw:=Ext.trans hw ab;replace aK:=aK.ext ab;replace ar:=ar.ext ab;replace ax:=ax.ext ab;replace j4:=j4.ext ab;clear ab))
  all_goals try omega
  clear cP
  refine CW.loop (fun j:Nat=>[(2,.pointer (some ⟨b2,0,none⟩)),(3,.pointer (some ⟨b3,0,none⟩)),(5,.int .i64 (k:Int)),(6,.pointer (some ⟨b6,0,none⟩)),(7,.pointer (some ⟨b7,0,none⟩)),(8,.int .i64 (j:Int))])
   (fun j w'=>j≤cs[k].Names.n∧Ext w w'∧aI w' b2 30 (aT r)∧aI w' b3 30 (aT q)∧aI w' b6 46 (df cs[k])∧aI w' b7 46 (df cs'[k])) (fun j=>cs[k].Names.n-j) 0
   ⟨rfl,rfl,rfl,rfl,rfl,rfl,trivial⟩ ⟨by omega,hw,aK,ar,ax,j4⟩ ?_
  clear hw aK ar ax j4;rintro j w' ⟨hj,hw,aK,ar,ax,j4⟩
  have rN:=gu.names.base;have JK:=uw.names.base;by_cases jo:j<cs[k].Names.n
  ·have Hp:j<cs'[k].Names.n:=by omega
   repeat' (first|refine Wz ?_|((apply CW.aP mixed;(· kernel_rfl);rotate_left;intro w1 ab;replace hw:=Ext.trans hw ab;replace aK:=aK.ext ab;replace ar:=ar.ext ab;replace ax:=ax.ext ab;replace j4:=j4.ext ab;clear ab;rotate_right))|refine SW.st (ao hw rfl (gu.names.one jo rfl)) rfl ?_|refine SW.st (ao hw rfl (uw.names.one Hp rfl)) rfl ?_|(refine SW.st (D0 rfl rfl) rfl ?_)|exact SW.bx rfl)
   exact ae.again (j+1) ⟨rfl,rfl,rfl,rfl,rfl,rfl,trivial⟩ (by omega) ⟨by omega,hw,aK,ar,ax,j4⟩
  ·refine Wz ?_;clear jo hj rN JK
   refine CW.loop (fun j:Nat=>[(2,.pointer (some ⟨b2,0,none⟩)),(3,.pointer (some ⟨b3,0,none⟩)),(5,.int .i64 (k:Int)),(6,.pointer (some ⟨b6,0,none⟩)),(7,.pointer (some ⟨b7,0,none⟩)),(9,.int .i64 (j:Int))])
    (fun j w'=>j≤cs[k].ah.n∧Ext w w'∧aI w' b2 30 (aT r)∧aI w' b3 30 (aT q)∧aI w' b6 46 (df cs[k])∧aI w' b7 46 (df cs'[k])) (fun j=>cs[k].ah.n-j) 0
    ⟨rfl,rfl,rfl,rfl,rfl,rfl,trivial⟩ ⟨by omega,hw,aK,ar,ax,j4⟩ ?_
   clear hw aK ar ax j4;rintro j w' ⟨hj,hw,aK,ar,ax,j4⟩
   have rN:=gu.aR.base;have JK:=uw.aR.base;by_cases jo:j<cs[k].ah.n
   ·have Hp:j<cs'[k].ah.n:=by omega
    repeat' (first|refine Wz ?_|((apply CW.aP mixed;(· kernel_rfl);rotate_left;intro w1 ab;replace hw:=Ext.trans hw ab;replace aK:=aK.ext ab;replace ar:=ar.ext ab;replace ax:=ax.ext ab;replace j4:=j4.ext ab;clear ab;rotate_right))|refine SW.st (aH hw rfl rfl ((gu.aR.all jo))) rfl ?_|refine SW.st (aH hw rfl rfl ((uw.aR.all Hp))) rfl ?_|(refine SW.st (Fe (Slab.yw (s.aa[k]).ah[j]) rfl rfl rfl) rfl ?_)|exact SW.bx rfl)
    exact ae.again (j+1) ⟨rfl,rfl,rfl,rfl,rfl,rfl,trivial⟩ (by omega) ⟨by omega,hw,aK,ar,ax,j4⟩
   ·refine Wz ?_;exact ae.again (k+1) ⟨rfl,rfl,rfl,trivial⟩ (by omega) ⟨by omega,hw,aK,ar⟩
 ·refine Wz ?_;exact ae.aO rfl rfl ⟨_,rfl,hw,rfl⟩
open Go.RowKit
def ml (G:Nat→Prop) (lo:Nat) (s:aE) (i cpu:Nat) (m:Option By×Int) (Q:dP) (a e:Int) (w:World) : Prop :=
 (m.1=none∧m.2≠0∧e=m.2∧a=0) ∨
 ∃ M cs',m=(some M,0)∧a=(c7 M.c M.k).dg∧e=0∧SX w lo Q (bQ (fL s M.ws) i (M.h,fv M.c cpu M.k (M.ws.getD (c7 M.c M.k).dg.toNat 0))) cs'∧SJ G w lo Q (bQ (fL s M.ws) i (M.h,fv M.c cpu M.k (M.ws.getD (c7 M.c M.k).dg.toNat 0))) cs'
theorem ml.ext {G:Nat→Prop} {lo:Nat} {s:aE} {i cpu:Nat} {m:Option By×Int} {Q:dP} {a e:Int} {w w':World} (h:ml G lo s i cpu m Q a e w) (hx:Ext w w') : ml G lo s i cpu m Q a e w':=by
 rcases h with h|⟨M,cs',h1,h2,h3,h4⟩
 ·exact .inl h
 ·exact .inr ⟨M,cs',h1,h2,h3,h4.1.ext hx,h4.2.ext hx⟩
theorem ml.IE {G:Nat→Prop} {lo:Nat} {s:aE} {i cpu:Nat} {m:Option By×Int} {Q:dP} {a e:Int} {w w':World} (h:ml G lo s i cpu m Q a e w) (hG:nY w w' 30) : ml G lo s i cpu m Q a e w':=by
 rcases h with h|⟨M,cs',h1,h2,h3,h4⟩
 ·exact .inl h
 ·exact .inr ⟨M,cs',h1,h2,h3,h4.1.ay hG rfl,h4.2.ay hG rfl⟩
theorem zM.form {G:Nat→Prop} {wb w0:World} {r:dP} {s:aE} {i:Nat} {c:bg} {cpu:Nat} {v:Value} {w':World} (h:zM G wb w0 r s i c cpu v w') :
 ∃ m Q a e,v = .tuple #[.agg (aT Q).toArray,.int .i64 a,.int .i64 e]∧jZ s c cpu m∧Ext wb w'∧(∀ j x,aI w0 j 30 x→aI w' j 30 x)∧(∀ j x,G j→aI w0 j 3 x→aI w' j 3 x)∧ml G wb.heap.size s i cpu m Q a e w':=by
 obtain ⟨m,h1,h2,h3,MS,h4⟩:=h;rcases h4 with ⟨h5,h6,h7⟩|⟨M,h5,X,H,cs',h6,h7⟩
 ·exact ⟨m,_,_,_,h7,h1,h2,h3,MS,.inl ⟨h5,h6,rfl,rfl⟩⟩
 ·exact ⟨m,_,_,_,h6,h1,h2,h3,MS,.inr ⟨M,cs',h5,rfl,rfl,h7⟩⟩
end Go.Proofs.YtjimadiidbkohaaGreatDoor
