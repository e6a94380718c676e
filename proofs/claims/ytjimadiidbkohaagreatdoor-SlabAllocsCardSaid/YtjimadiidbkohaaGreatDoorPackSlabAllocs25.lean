/-
  Texts of the claim SlabAllocs, part 25: what its theorem leans on.
-/
import Derived.Test.YtjimadiidbkohaaGreatDoorPackSlabAllocs22
import Derived.Test.YtjimadiidbkohaaGreatDoorPackSlabAllocs24
import Derived.Test.YtjimadiidbkohaaGreatDoorPackSlabAllocs2
import Derived.Test.YtjimadiidbkohaaGreatDoorPackSlabAllocs8
set_option linter.unusedVariables false
set_option linter.unusedSimpArgs false
namespace Go.Proofs.YtjimadiidbkohaaGreatDoor
open Go.RowKit
def zj (G:Nat→Prop) (wb w0:World) (r:dV) (s:aF) (i:Nat) (c:bd) (cpu:Nat) (v:Value) (w':World) : Prop :=
 ∃ m,ks s c cpu m∧Ext wb w'∧(∀ j x,aJ w0 j 30 x→aJ w' j 30 x)∧(∀ j x,G j→aJ w0 j 3 x→aJ w' j 3 x) ∧
  ((m.1=none∧m.2≠0∧v = .tuple #[.agg (aU r).toArray,.int .i64 0,.int .i64 m.2]) ∨
   ∃ M,m=(some M,0) ∧ ∃ X H cs',v = .tuple #[.agg (aU ⟨X,H,r.aa⟩).toArray,.int .i64 (fg M.c M.k).fR,.int .i64 0]∧SX w' wb.heap.size ⟨X,H,r.aa⟩ (cm (iE s M.ws) i (M.h,kf M.c cpu M.k (M.ws.getD (fg M.c M.k).fR.toNat 0))) cs'∧SJ G w' wb.heap.size ⟨X,H,r.aa⟩ (cm (iE s M.ws) i (M.h,kf M.c cpu M.k (M.ws.getD (fg M.c M.k).fR.toNat 0))) cs')
set_option maxHeartbeats 8000000 in
theorem rG (G:Nat→Prop) (wb w:World) (r:dV) (s:aF) (cs:List dn) (i cpu:Nat) (hf:s.lA) (hi:i<s.aa.length) (hM:nJ s s.aa[i])
 (hx:Ext wb w) (hS:SX w wb.heap.size r s cs) (hJ:SJ G w wb.heap.size r s cs) (EH:∀ g,G g→g<w.heap.size) (nL:cpu<s.aa[i].au.length) :
 gL Tryz.prog 17 [.agg (aU r).toArray,.int .i64 (i:Int),.int .i64 (cpu:Int)] w (zj G wb w r s i s.aa[i] cpu):=by
 refine dw Tryz.func17 rfl Tryz.ntmps17 rfl ?_;refine CW.seq (CW.region (SW.box rfl rfl fun b3 w1 hw bK ar => ?_));refine SW.alloc rfl fun b6 w3 jQ eW ax => ?_
 have di:w.heap.size≤b6:=Nat.le_trans hw.size eW
 have cG:b6≠b3:=by have:=ar.lt;omega
 (replace hw:=Ext.trans hw jQ;replace ar:=ar.ext jQ);have hm:=hM.most;have h1:=hf.jc;have Hh:=hM.words;have e0:=ou hi;have h2:=hf.Kt hi;have q4:=h2.small.a9;have fC:=hx.size;have DD:=qg hM;obtain ⟨e1,e2⟩:=hS.len;have jA:i<cs.length:=by omega
 have cf:i<r.aa.n:=by omega
 have KL:=hS.row.sl.base;have GH:=hS.words.len;have hC:=hS.each.get i jA hi;have qW:=hC.order;have uV:=hC.size;have rh:=hC.jd;have q1:=hC.aR.len;have q3:=hC.a9.len;have EX:cpu<cs[i].au.n:=by omega
 have Jv:=hC.aR.sl.base;have NM:=hC.a9.sl.base;have xG:=uS hM nL;have EI:=hS.zW;clear hC;obtain ⟨o,ho⟩ : ∃ o,ub s.aa[i] cpu=o:=⟨_,rfl⟩;obtain ⟨t,ht⟩ : ∃ t,s.aa[i].au[cpu]=t:=⟨_,rfl⟩;have gT:(s.aa[i].au.getD cpu 0)=t:=by rw [← ht];simp [nL]
 rw [ho,ht] at xG;have gA:∀ w',SX w' wb.heap.size r s cs→w'.cell? ((((cs[i].au.A).getD default).add (cpu*1)))=some (Value.int .i64 t):=fun w' h=>(h.each.get i jA hi).a9.sl.one EX (by rw [show s.aa[i].au[cpu]=t from ht];rfl)
 replace hS:=hS.ext hw;replace hJ:=hJ.ext hw;repeat' (first|refine Wz ?_|refine SW.st (aX rfl rfl ((hS.row.sl.all cf))) rfl ?_)
 refine SW.alloc rfl fun b9 w1 ab oa bk => ?_
 skip;refine SW.ap bk rfl rfl rfl rfl (sq cs[i]) fun w2 gg hg => ?_
 have aj:=ab.own oa hg;have qV:w.heap.size≤b9:=Nat.le_trans hw.size oa
 replace hw:=Ext.trans hw aj;replace ar:=ar.ext aj;replace ax:=ax.ext aj;replace hS:=hS.ext aj;replace hJ:=hJ.ext aj;replace bk:=gg;clear gg ab hg aj;refine SW.nil (ae.seq ?_);refine CW.seq (CW.region ?_);refine SW.pure rfl rfl ?_;refine SW.nil (ae.seq ?_);refine CW.seq ?_;obtain ⟨K1,Jy⟩ : ∃ K:Env→World→Prop,K=fun L' w' => ∃ kk:Int,((0≤kk∧fL s.aa[i] cpu=kk)∨(kk = -1∧fL s.aa[i] cpu=idxOf (jH s.aa[i]) s.aa[i].ai))∧ev L' [(1,.int .i64 (i:Int)),(2,.int .i64 (cpu:Int)),(3,.pointer (some ⟨b3,0,none⟩)),(6,.pointer (some ⟨b6,0,none⟩)),(9,.pointer (some ⟨b9,0,none⟩)),(10,.int .i64 kk)]∧Ext w w'∧aJ w' b3 30 (aU r)∧aJ w' b6 30 (aU .zero)∧aJ w' b9 46 (db cs[i])∧SX w' wb.heap.size r s cs∧SJ G w' wb.heap.size r s cs:=⟨_,rfl⟩
 refine CW.cut K1 ?_ ?_
 ·rcases xG with ⟨Hc,Hp⟩|⟨Hc,k,hk,Hp,KN⟩
  ·have lD:fL s.aa[i] cpu=idxOf (jH s.aa[i]) s.aa[i].ai:=by
    unfold fL;rw [ho,if_neg (by omega)]
   repeat' (first|refine Wz ?_|refine SW.st (ak rfl (gA _ hS)) rfl ?_)
   all_goals try omega
   exact ae.cut (K:=K1) (by rw [Jy];exact ⟨-1,.inr ⟨rfl,lD⟩,⟨rfl,rfl,rfl,rfl,rfl,rfl,trivial⟩,hw,ar,ax,bk,hS,hJ⟩)
  ·subst Hp;have bY:k<cs[i].ai.n:=by omega
   obtain ⟨y,hy⟩ : ∃ y,s.aa[i].ai[k]=y:=⟨_,rfl⟩;have CI:=(hM.yV _ (List.getElem_mem hk)).free;rw [hy] at CI;have gF:∀ w',SX w' wb.heap.size r s cs→w'.cell? ((((cs[i].ai.A).getD default).add (k*3)).add 1)=some (Value.int .i64 y.ag):=fun w' h=>(h.each.get i jA hi).aR.sl.dv bY (j:=1) (show (aZ (s.aa[i].ai[k]'(by omega)))[1]?=some (Value.int .i64 y.ag) by rw [hy];rfl)
   have Mn:fg s.aa[i] ((k:Int)).toNat=y:=by rw [show ((k:Int)).toNat=k by omega,fZ hk,hy]
   have hC:=hS.each.get i jA hi
   have cF:∀ w',Ext w2 w'→bt Tryz.prog 28 [.agg (db cs[i]).toArray,.int .i64 t] w' fun v _=>v = .int .i64 (k:Int):=fun w' h=>by
    have:=sZ cs[i] s.aa[i].ai t w' (hC.aR.sl.ext h) (by omega)
    unfold ub at ho;rw [gT] at ho;rwa [ho] at this
   have BG:=hw;replace hw:=Ext.refl w2;by_cases fG : 0<y.ag
   ·have lD:fL s.aa[i] cpu=k:=by
     unfold fL;rw [ho,if_pos ⟨by omega,by rw [Mn];exact fG⟩]
    repeat' (first|refine Wz ?_|((apply CW.aO mixed;(· kernel_rfl);rotate_left;intro w1 ab;replace hw:=Ext.trans hw ab;replace ar:=ar.ext ab;replace ax:=ax.ext ab;replace bk:=bk.ext ab;replace hS:=hS.ext ab;replace hJ:=hJ.ext ab;clear ab;rotate_right))|refine SW.st (ak rfl (gA _ hS)) rfl ?_|refine SW.st (ak rfl (gF _ hS)) rfl ?_|refine SW.bq rfl rfl (fun w1 ab=>(cF _ (Ext.trans hw ab))) ?_|exact SW.bx rfl)
    all_goals try omega
    replace hw:=Ext.trans BG hw;exact ae.cut (K:=K1) (by rw [Jy];exact ⟨k,.inl ⟨by omega,lD⟩,⟨rfl,rfl,rfl,rfl,rfl,rfl,trivial⟩,hw,ar,ax,bk,hS,hJ⟩)
   ·have lD:fL s.aa[i] cpu=idxOf (jH s.aa[i]) s.aa[i].ai:=by
     unfold fL;rw [ho,if_neg (by rw [Mn];omega)]
    repeat' (first|refine Wz ?_|((apply CW.aO mixed;(· kernel_rfl);rotate_left;intro w1 ab;replace hw:=Ext.trans hw ab;replace ar:=ar.ext ab;replace ax:=ax.ext ab;replace bk:=bk.ext ab;replace hS:=hS.ext ab;replace hJ:=hJ.ext ab;clear ab;rotate_right))|refine SW.st (ak rfl (gA _ hS)) rfl ?_|refine SW.st (ak rfl (gF _ hS)) rfl ?_|refine SW.bq rfl rfl (fun w1 ab=>(cF _ (Ext.trans hw ab))) ?_|exact SW.bx rfl)
    all_goals try omega
    replace hw:=Ext.trans BG hw;exact ae.cut (K:=K1) (by rw [Jy];exact ⟨-1,.inr ⟨rfl,lD⟩,⟨rfl,rfl,rfl,rfl,rfl,rfl,trivial⟩,hw,ar,ax,bk,hS,hJ⟩)
 ·clear hw ar ax bk hS hJ xG;subst Jy;rintro L' w5 ⟨kk,vV,fq,hw,ar,ax,bk,hS,hJ⟩
  refine ae.sub fq ?_;obtain ⟨z,hz⟩ : ∃ z,fL s.aa[i] cpu=z:=⟨_,rfl⟩;rw [hz] at vV;refine Wz ?_;obtain ⟨K2,GU⟩ : ∃ K:Env→World→Prop,K=fun L' w'=>ev L' [(1,.int .i64 (i:Int)),(2,.int .i64 (cpu:Int)),(3,.pointer (some ⟨b3,0,none⟩)),(6,.pointer (some ⟨b6,0,none⟩)),(9,.pointer (some ⟨b9,0,none⟩)),(10,.int .i64 z)]∧Ext w w'∧aJ w' b3 30 (aU r)∧aJ w' b6 30 (aU .zero)∧aJ w' b9 46 (db cs[i])∧SX w' wb.heap.size r s cs∧SJ G w' wb.heap.size r s cs:=⟨_,rfl⟩
  refine CW.wq K2 ?_ ?_
  ·refine CW.loop (fun t:Nat×Int=>[(1,.int .i64 (i:Int)),(2,.int .i64 (cpu:Int)),(3,.pointer (some ⟨b3,0,none⟩)),(6,.pointer (some ⟨b6,0,none⟩)),(9,.pointer (some ⟨b9,0,none⟩)),(10,.int .i64 t.2),(11,.int .i64 (t.1:Int))])
    (fun t w'=>t.1≤cs[i].ai.n∧((0≤t.2∧z=t.2)∨(t.2 = -1∧z=idxOf (jH s.aa[i]) s.aa[i].ai ∧ ∀ (j:Nat) (hj:j<s.aa[i].ai.length),j<t.1→jH s.aa[i] s.aa[i].ai[j]=false))∧Ext w w'∧aJ w' b3 30 (aU r)∧aJ w' b6 30 (aU .zero)∧aJ w' b9 46 (db cs[i])∧SX w' wb.heap.size r s cs∧SJ G w' wb.heap.size r s cs) (fun t=>cs[i].ai.n-t.1) (0,kk)
    ⟨rfl,rfl,rfl,rfl,rfl,rfl,rfl,trivial⟩ ⟨Nat.zero_le _,by
     rcases vV with h|h
     ·exact .inl h
     ·exact .inr ⟨h.1,h.2,fun j hj h0=>absurd h0 (Nat.not_lt_zero _)⟩,hw,ar,ax,bk,hS,hJ⟩ ?_
   clear hw ar ax bk hS hJ fq vV kk;rintro ⟨j,kk⟩ w6 ⟨hj,vV,hw,ar,ax,bk,hS,hJ⟩
   simp only at hj vV ⊢;by_cases iZ:j<cs[i].ai.n
   ·rcases vV with ⟨pJ,rfl⟩|⟨rfl,iM,k6⟩
    ·refine Wz ?_;all_goals try omega
     exact ae.kq (by rw [GU];exact ⟨⟨rfl,rfl,rfl,rfl,rfl,rfl,trivial⟩,hw,ar,ax,bk,hS,hJ⟩)
    ·have kO:j<s.aa[i].ai.length:=by omega
     obtain ⟨y,hy⟩ : ∃ y,s.aa[i].ai[j]=y:=⟨_,rfl⟩
     have gy:∀ w',SX w' wb.heap.size r s cs → ∀ k v,(aZ y)[k]?=some v→w'.cell? ((((cs[i].ai.A).getD default).add (j*3)).add k)=some v:=fun w' h k v hv=>by
      refine (h.each.get i jA hi).aR.sl.all iZ k v ?_;rw [show (s.aa[i].ai[j]'(by omega))=y from hy];exact hv
     obtain ⟨t2,D8⟩ : ∃ t2,decide (y.At∈s.aa[i].au)=t2:=⟨_,rfl⟩;have hC:=hS.each.get i jA hi
     have cT:∀ w',Ext w6 w'→bt Tryz.prog 29 [.agg (db cs[i]).toArray,.int .i64 y.At] w' fun v _=>v = .bool t2:=fun w' hx=>by
      have:=Bs cs[i] s.aa[i] y.At w' (hC.rd.ext hx) (by omega)
      rwa [D8] at this
     have FU:jH s.aa[i] y=(decide (0<y.ag) && !t2):=by unfold jH;rw [D8]
     have BG:=hw;replace hw:=Ext.refl w6
     have jF:∀ b,jH s.aa[i] y=b→b=false → ∀ (k:Nat) (hk:k<s.aa[i].ai.length),k<j+1→jH s.aa[i] s.aa[i].ai[k]=false:=fun b h1 h2 k hk h=>by
      by_cases e:k=j
      ·subst e;rw [hy,h1,h2]
      ·exact k6 k hk (by omega)
     by_cases fG : 0<y.ag
     ·cases t2
      ·have N5:z=(j:Int):=by
        rw [iM];exact gX kO (by rw [hy,FU,decide_eq_true fG];rfl) k6
       repeat' (first|refine Wz ?_|(first|refine CW.bF rfl ?_|(apply CW.aO mixed;(· kernel_rfl);rotate_left;intro w1 ab;replace hw:=Ext.trans hw ab;replace ar:=ar.ext ab;replace ax:=ax.ext ab;replace bk:=bk.ext ab;replace hS:=hS.ext ab;replace hJ:=hJ.ext ab;clear ab;rotate_right))|refine SW.st (ak rfl (gy _ hS 1 (.int .i64 y.ag) rfl)) rfl ?_|refine SW.st (ak rfl (gy _ hS 0 (.int .i64 y.At) rfl)) rfl ?_|refine SW.bq rfl rfl (fun w1 ab=>(cT _ (Ext.trans hw ab))) ?_|exact SW.bx rfl)
       all_goals try omega
       replace hw:=Ext.trans BG hw;exact ae.again (j+1,(j:Int)) ⟨rfl,rfl,rfl,rfl,rfl,rfl,rfl,trivial⟩ (by simp only;omega) ⟨by simp only;omega,.inl ⟨by simp only;omega,N5⟩,hw,ar,ax,bk,hS,hJ⟩
      ·repeat' (first|refine Wz ?_|(first|refine CW.bA rfl ?_|(apply CW.aO mixed;(· kernel_rfl);rotate_left;intro w1 ab;replace hw:=Ext.trans hw ab;replace ar:=ar.ext ab;replace ax:=ax.ext ab;replace bk:=bk.ext ab;replace hS:=hS.ext ab;replace hJ:=hJ.ext ab;clear ab;rotate_right))|refine SW.st (ak rfl (gy _ hS 1 (.int .i64 y.ag) rfl)) rfl ?_|refine SW.st (ak rfl (gy _ hS 0 (.int .i64 y.At) rfl)) rfl ?_|refine SW.bq rfl rfl (fun w1 ab=>(cT _ (Ext.trans hw ab))) ?_|exact SW.bx rfl)
       all_goals try omega
       replace hw:=Ext.trans BG hw;exact ae.again (j+1,(-1:Int)) ⟨rfl,rfl,rfl,rfl,rfl,rfl,rfl,trivial⟩ (by simp only;omega) ⟨by simp only;omega,.inr ⟨rfl,iM,jF _ FU (by simp)⟩,hw,ar,ax,bk,hS,hJ⟩
     ·repeat' (first|refine Wz ?_|((apply CW.aO mixed;(· kernel_rfl);rotate_left;intro w1 ab;replace hw:=Ext.trans hw ab;replace ar:=ar.ext ab;replace ax:=ax.ext ab;replace bk:=bk.ext ab;replace hS:=hS.ext ab;replace hJ:=hJ.ext ab;clear ab;rotate_right))|refine SW.st (ak rfl (gy _ hS 1 (.int .i64 y.ag) rfl)) rfl ?_|exact SW.bx rfl)
      all_goals try omega
      replace hw:=Ext.trans BG hw;exact ae.again (j+1,(-1:Int)) ⟨rfl,rfl,rfl,rfl,rfl,rfl,rfl,trivial⟩ (by simp only;omega) ⟨by simp only;omega,.inr ⟨rfl,iM,jF _ FU (by rw [decide_eq_false fG];rfl)⟩,hw,ar,ax,bk,hS,hJ⟩
   ·have As:kk=z:=by
     rcases vV with ⟨pJ,h⟩|⟨h,iM,k6⟩
     ·exact h.symm
     ·rw [h,iM];exact (fj fun k hk=>k6 k hk (by omega)).1.symm
    subst As;refine Wz ?_;all_goals try omega
    exact ae.kq (by rw [GU];exact ⟨⟨rfl,rfl,rfl,rfl,rfl,rfl,trivial⟩,hw,ar,ax,bk,hS,hJ⟩)
  ·clear hw ar ax bk hS hJ fq vV;subst GU;rintro L' w6 ⟨fq,hw,ar,ax,bk,hS,hJ⟩
   refine ae.sub fq ?_;refine ae.seq ?_;refine CW.seq ?_
   obtain ⟨K3,Jz⟩ : ∃ K:Env→World→Prop,K=fun L' w' => ∃ M X H cs',ks s s.aa[i] cpu (some M,0)∧ev L' [(1,.int .i64 (i:Int)),(2,.int .i64 (cpu:Int)),(3,.pointer (some ⟨b3,0,none⟩)),(6,.pointer (some ⟨b6,0,none⟩)),(10,.int .i64 (M.k:Int))]∧Ext wb w'∧aJ w' b3 30 (aU ⟨X,H,r.aa⟩)∧aJ w' b6 30 (aU .zero) ∧
    SX w' wb.heap.size ⟨X,H,r.aa⟩ (cm (iE s M.ws) i (M.h,M.c)) cs'∧SJ G w' wb.heap.size ⟨X,H,r.aa⟩ (cm (iE s M.ws) i (M.h,M.c)) cs'∧(∀ j x,aJ w j 30 x→aJ w' j 30 x)∧(∀ j x,G j→aJ w j 3 x→aJ w' j 3 x)∧w.heap.size≤w'.heap.size:=⟨_,rfl⟩
   refine CW.JM K3 ?_ ?_
   ·by_cases sI : 0≤z
    ·obtain ⟨k,rfl⟩:=Int.eq_ofNat_of_zero_le sI;refine Wz ?_;all_goals try omega
     rw [← e0] at hS hJ;exact ae.kq (by rw [Jz];exact ⟨⟨s.Words,s.Heap,s.aa[i],k⟩,r.Words,r.Heap,cs,.CZ hz,⟨rfl,rfl,rfl,rfl,rfl,trivial⟩,hx.trans hw,ar,ax,hS,hJ,fun j x h=>h.ext hw,fun j x _ h=>h.ext hw,hw.size⟩)
    ·have rj:fL s.aa[i] cpu<0:=by omega
     repeat' (first|refine Wz ?_|refine SW.st (aX rfl rfl ((gR ar))) rfl ?_)
     all_goals try omega
     refine SW.call rfl rfl (ug r.Heap s.Heap (cpu:Int) cs[i].Order 0 _ hS.heap.rd h1.small h1.uC) fun v w7 aj hv => ?_
     obtain ⟨u,hu,H,rfl,hH⟩:=hv;replace hH:=hH.low hw.size;obtain ⟨e,he⟩ : ∃ e,u.2.2=e:=⟨_,rfl⟩;obtain ⟨at',ie⟩ : ∃ a,u.2.1=a:=⟨_,rfl⟩;rw [he,ie];rw [qW] at hu;(replace hw:=Ext.trans hw aj;replace ar:=ar.ext aj;replace ax:=ax.ext aj;replace bk:=bk.ext aj;replace hS:=hS.ext aj;replace hJ:=hJ.ext aj);refine Wz ?_;refine SW.alloc rfl fun qI w1 ab nW bl => ?_
     skip;refine SW.ap bl rfl rfl rfl rfl (cQ H) fun w2 fy hg => ?_
     have aj:=ab.own nW hg;have fM:w.heap.size≤qI:=Nat.le_trans hw.size nW
     replace hw:=Ext.trans hw aj;replace ar:=ar.ext aj;replace ax:=ax.ext aj;replace bk:=bk.ext aj;replace hS:=hS.ext aj;replace hJ:=hJ.ext aj;replace hH:=hH.ext aj;replace bl:=fy;clear fy ab hg aj;by_cases EJ:e=0
     ·subst EJ;have ur:=hu.at_ he;rw [ie] at ur;refine Wz ?_;all_goals try omega
      refine SW.call rfl rfl (xw r.Words.A r.Words.n r.Words.c s.Words (16*at') cs[i].bf cs[i].ck _ hS.words.sl (by omega)) fun v w8 aj hv => ?_
      rw [gU,uV,rh] at hv;have La:=hw.size;(replace hw:=Ext.trans hw aj;replace ar:=ar.ext aj;replace ax:=ax.ext aj;replace bk:=bk.ext aj;replace bl:=bl.ext aj;replace hS:=hS.ext aj;replace hJ:=hJ.ext aj;replace hH:=hH.ext aj);by_cases hc:gh s.Words.length (16*at') s.aa[i].bf s.aa[i].ck
      ·have j4:=hc;unfold gh at j4;rw [if_pos (by rw [GH] at j4;exact j4)] at hv;obtain ⟨XA,Xc,rfl,hX⟩:=hv;replace hX:=hX.low La;refine Wz ?_;all_goals try omega
       refine SW.qk 1 ar rfl rfl rfl (Nat.le_of_ble_eq_true rfl) (cQ H) (aU ⟨r.Words,H,r.aa⟩) rfl fun w9 cS hg => ?_
       have hG:=ar.gr hg;have Dv:∀ j x,aJ w j 30 x→aJ w9 j 30 x:=fun j x h=>(h.ext hw).grown hg (by have:=h.lt;simp;omega)
       have Dw:∀ j x,G j→aJ w j 3 x→aJ w9 j 3 x:=fun j x hj h=>(h.ext hw).grown hg (by have:=h.lt;simp;omega)
       replace hw:=hw.own bK hg;replace ax:=ax.grown hg (by simpa using cG);(replace bk:=bk.ay hG rfl;replace hS:=hS.ay hG rfl;replace hJ:=hJ.ay hG rfl;replace hH:=hH.ay hG rfl;replace hX:=hX.ay hG rfl);refine Wz ?_;refine SW.bB (i:=0) cS rfl rfl rfl rfl fun mw Fx hg => ?_
       have hG:=cS.gr hg;have pu:∀ j x,aJ w j 30 x→aJ mw j 30 x:=fun j x h=>(Dv j x h).grown hg (by have:=h.lt;simp;omega)
       have I3:∀ j x,G j→aJ w j 3 x→aJ mw j 3 x:=fun j x hj h=>(Dw j x hj h).grown hg (by have:=h.lt;simp;omega)
       replace hw:=hw.own bK hg;replace ax:=ax.grown hg (by simpa using cG);(replace bk:=bk.ay hG rfl;replace hS:=hS.ay hG rfl;replace hJ:=hJ.ay hG rfl;replace hH:=hH.ay hG rfl;replace hX:=hX.ay hG rfl);have ar:aJ mw b3 30 (aU ⟨⟨XA,r.Words.n,Xc⟩,H,r.aa⟩):=Fx
       rw [← e0] at hS;obtain ⟨EN,jL⟩:=nH.fresh (p:=(s.Heap,s.aa[i])) (X:=⟨XA,r.Words.n,Xc⟩) (H:=H) (h':=u.1) (m:=w.heap.size) hS fC EI (fun g hg=>⟨EH g hg,fun u hu=>hJ.sep u hu g hg⟩) hX hH;clear hS hX hH hJ hG hg cS Fx;have EO:=hw.size;have DI:=hx.trans hw;refine Wz ?_;clear hw
       refine CW.loop (fun t:Nat×Option Addr×Nat=>[(1,.int .i64 (i:Int)),(2,.int .i64 (cpu:Int)),(3,.pointer (some ⟨b3,0,none⟩)),(6,.pointer (some ⟨b6,0,none⟩)),(9,.pointer (some ⟨b9,0,none⟩)),(10,.int .i64 (t.1:Int)),(13,.int .i64 at'),(16,.slice t.2.1 t.1 t.2.2)])
        (fun t w'=>t.1≤cs[i].ai.n∧(∀ (j:Nat) (hj:j<s.aa[i].ai.length),j<t.1→s.aa[i].ai[j].At<at')∧Ext mw w'∧Own w' mw.heap.size 48 3 aZ t.2.1 t.1 t.2.2 (s.aa[i].ai.take t.1)) (fun t=>cs[i].ai.n-t.1) (0,none,0)
        ⟨rfl,rfl,rfl,rfl,rfl,rfl,rfl,rfl,trivial⟩ ⟨Nat.zero_le _,fun j hj h=>absurd h (Nat.not_lt_zero _),Ext.refl _,by simpa using Own.eR _ _ _ _ _ _⟩ ?_
       rintro ⟨k,A,c⟩ rf ⟨hk,c9,hw,hL⟩
       simp only at hk c9 hL ⊢;have ox:=EN.get jA hi;simp only at ox;have gS:=ox.aR.sl;have OJ:=ox.aR.le;by_cases bY:k<cs[i].ai.n
       ·have de:k<s.aa[i].ai.length:=by omega
        obtain ⟨y,hy⟩ : ∃ y,s.aa[i].ai[k]=y:=⟨_,rfl⟩;have gA:=gS.dv bY (j:=0) (show (aZ (s.aa[i].ai[k]'(by omega)))[0]?=some (Value.int .i64 y.At) by rw [hy];rfl);by_cases Fq:y.At<at'
        ·repeat' (first|refine Wz ?_|refine SW.st (ao hw rfl (bk.cell (i:=4) (v := .slice cs[i].ai.A cs[i].ai.n cs[i].ai.c) rfl)) rfl ?_|refine SW.st (ao hw rfl gA) rfl ?_|refine SW.st (aH hw rfl rfl ((gS.all bY))) rfl ?_)
         all_goals try omega
         refine SW.bJ rfl rfl rfl rfl rfl fun b Fp aj hb GQ => ?_
         (replace hw:=Ext.trans hw aj;replace hL:=hL.ext aj);refine SW.append hL (aJ.mb (enc:=aZ) GQ) hw.size rfl rfl rfl (by omega) (by omega) fun A2 c2 Mo fT hg => ?_
         replace hw:=aE hw hg (Nat.le_refl _) hL.aM;refine Wz ?_;refine ae.again (k+1,A2,c2) ⟨rfl,rfl,rfl,rfl,rfl,rfl,rfl,rfl,trivial⟩ (by simp only;omega) ⟨by simp only;omega,fun j hj h => ?_,hw,?_⟩
         ·by_cases e:j=k
          ·subst e;rw [hy];exact Fq
          ·exact c9 j hj (by simp only at h;omega)
         ·rw [List.take_succ_eq_append_getElem (by omega)];exact fT
        ·have ue:lC s.aa[i] at'=k:=ny (by omega) c9 (fun h=>by rw [hy];exact Fq)
         repeat' (first|refine Wz ?_|refine SW.st (ao hw rfl (bk.cell (i:=4) (v := .slice cs[i].ai.A cs[i].ai.n cs[i].ai.c) rfl)) rfl ?_|refine SW.st (ao hw rfl gA) rfl ?_|refine SW.st (ao hw rfl (bk.cell (i:=2) (v := .int .i64 cs[i].ck) rfl)) rfl ?_)
         all_goals try omega
         have sB:=l7 s.aa[i] at';have tS:(s.aa[i].ai.take k).length=k:=by rw [List.length_take];omega
         refine SW.bJ rfl rfl rfl rfl rfl fun bn Fp aj IJ De => ?_
         (replace hw:=Ext.trans hw aj;replace hL:=hL.ext aj);refine SW.append hL (aJ.mb (enc:=aZ) (x:=⟨at',cs[i].ck,16*at'⟩) De) hw.size rfl rfl rfl (by omega) (by omega) fun A2 c2 Mo I4 hg => ?_
         replace hw:=aE hw hg (Nat.le_refl _) hL.aM;repeat' (first|refine Wz ?_|refine SW.st (ao hw rfl (bk.cell (i:=4) (v := .slice cs[i].ai.A cs[i].ai.n cs[i].ai.c) rfl)) rfl ?_|(refine SW.st (bg (k:=k) rfl rfl (by omega) (by omega)) rfl ?_))
         have I5:=((EN.get jA hi).aR.sl).ext hw;simp only at I5;refine SW.append I4 (I5.drop k cs[i].ai.c (by omega) (by omega)) hw.size rfl rfl rfl (by omega) (by omega) fun A3 c3 N6 I6 hg => ?_
         replace hw:=aE hw hg (Nat.le_refl _) I4.aM;have GY:(s.aa[i].ai.take k++[(⟨at',cs[i].ck,16*at'⟩ : Slab)])++s.aa[i].ai.drop k=aV s.aa[i].ai k ⟨at',cs[i].ck,16*at'⟩:=rfl
         rw [GY,show k+1+(cs[i].ai.n-k)=cs[i].ai.n+1 by omega] at I6;rw [show k+1+(cs[i].ai.n-k)=cs[i].ai.n+1 by omega];repeat' (first|refine Wz ?_|refine SW.st (ao hw rfl (ar.cell (i:=6) (v := .slice r.aa.A r.aa.n r.aa.c) rfl)) rfl ?_)
         have tz:=EN.sY (Nat.le_trans fC EO) jA hi hw I6;have dt:=tz.row;have cS:=ar.ext hw;have gp:=ax.ext hw;have GZ:=jL.ext hw;refine SW.gH i 4 ⟨cs[i].Names,cs[i].bf,cs[i].ck,cs[i].Order,⟨A3,cs[i].ai.n+1,c3⟩,cs[i].au⟩ dt rfl rfl rfl cf (by decide) rfl rfl fun N7 fJ v8 => ?_
         have tu:=dt.gr v8;have Lb:=tz.p9 fJ v8;have G0:=aE (DI.trans hw) v8 (Nat.le_refl _) dt.aM;(replace cS:=cS.ay tu rfl;replace gp:=gp.ay tu rfl;replace GZ:=GZ.ay tu rfl)
         have Dg:=GZ.rows (s':=cm (iE s (iX s.Words (16*at') s.aa[i].bf s.aa[i].ck)) i (u.1,eG s.aa[i] at')) (cs':=cs.set i ⟨cs[i].Names,cs[i].bf,cs[i].ck,cs[i].Order,⟨A3,cs[i].ai.n+1,c3⟩,cs[i].au⟩) rfl (fun u hu=>by
          rcases List.mem_or_eq_of_mem_set hu with hu|rfl
          ·exact ⟨u,hu,rfl⟩
          ·exact ⟨cs[i],List.getElem_mem jA,rfl⟩)
         have pA:eG s.aa[i] at'=⟨s.aa[i].Names,s.aa[i].bf,s.aa[i].ck,s.aa[i].Order,aV s.aa[i].ai k ⟨at',cs[i].ck,16*at'⟩,s.aa[i].au⟩:=by
          unfold eG;rw [ue,rh]
         have gv:=ks.new rj hu he (by rw [ie];exact hc);rw [ie] at gv;refine Wz ?_;refine ae.kq ?_;rw [Jz];refine ⟨_,⟨XA,r.Words.n,Xc⟩,H,_,gv,⟨rfl,rfl,rfl,rfl,by rw [ue];rfl,trivial⟩,G0,cS,gp,?_,Dg,fun j x h=>((pu j x h).ext hw).ay tu rfl,fun j x hj h=>((I3 j x hj h).ext hw).ay tu rfl,Nat.le_trans EO (Nat.le_trans hw.size v8.size)⟩;simp only;rw [pA];exact Lb
       ·have vV:k=cs[i].ai.n:=by omega
        have ue:lC s.aa[i] at'=k:=ny (by omega) (fun j hj h=>c9 j hj (by omega)) (fun h=>by omega)
        repeat' (first|refine Wz ?_|refine SW.st (ao hw rfl (bk.cell (i:=4) (v := .slice cs[i].ai.A cs[i].ai.n cs[i].ai.c) rfl)) rfl ?_|refine SW.st (ao hw rfl (bk.cell (i:=2) (v := .int .i64 cs[i].ck) rfl)) rfl ?_)
        all_goals try omega
        have sB:=l7 s.aa[i] at';have tS:(s.aa[i].ai.take k).length=k:=by rw [List.length_take];omega
        refine SW.bJ rfl rfl rfl rfl rfl fun bn Fp aj IJ De => ?_
        (replace hw:=Ext.trans hw aj;replace hL:=hL.ext aj);refine SW.append hL (aJ.mb (enc:=aZ) (x:=⟨at',cs[i].ck,16*at'⟩) De) hw.size rfl rfl rfl (by omega) (by omega) fun A2 c2 Mo I4 hg => ?_
        replace hw:=aE hw hg (Nat.le_refl _) hL.aM;repeat' (first|refine Wz ?_|refine SW.st (ao hw rfl (bk.cell (i:=4) (v := .slice cs[i].ai.A cs[i].ai.n cs[i].ai.c) rfl)) rfl ?_|(refine SW.st (bg (k:=k) rfl rfl (by omega) (by omega)) rfl ?_))
        have I5:=((EN.get jA hi).aR.sl).ext hw;simp only at I5;refine SW.append I4 (I5.drop k cs[i].ai.c (by omega) (by omega)) hw.size rfl rfl rfl (by omega) (by omega) fun A3 c3 N6 I6 hg => ?_
        replace hw:=aE hw hg (Nat.le_refl _) I4.aM;have GY:(s.aa[i].ai.take k++[(⟨at',cs[i].ck,16*at'⟩ : Slab)])++s.aa[i].ai.drop k=aV s.aa[i].ai k ⟨at',cs[i].ck,16*at'⟩:=rfl
        rw [GY,show k+1+(cs[i].ai.n-k)=cs[i].ai.n+1 by omega] at I6;rw [show k+1+(cs[i].ai.n-k)=cs[i].ai.n+1 by omega];repeat' (first|refine Wz ?_|refine SW.st (ao hw rfl (ar.cell (i:=6) (v := .slice r.aa.A r.aa.n r.aa.c) rfl)) rfl ?_)
        have tz:=EN.sY (Nat.le_trans fC EO) jA hi hw I6;have dt:=tz.row;have cS:=ar.ext hw;have gp:=ax.ext hw;have GZ:=jL.ext hw;refine SW.gH i 4 ⟨cs[i].Names,cs[i].bf,cs[i].ck,cs[i].Order,⟨A3,cs[i].ai.n+1,c3⟩,cs[i].au⟩ dt rfl rfl rfl cf (by decide) rfl rfl fun N7 fJ v8 => ?_
        have tu:=dt.gr v8;have Lb:=tz.p9 fJ v8;have G0:=aE (DI.trans hw) v8 (Nat.le_refl _) dt.aM;(replace cS:=cS.ay tu rfl;replace gp:=gp.ay tu rfl;replace GZ:=GZ.ay tu rfl)
        have Dg:=GZ.rows (s':=cm (iE s (iX s.Words (16*at') s.aa[i].bf s.aa[i].ck)) i (u.1,eG s.aa[i] at')) (cs':=cs.set i ⟨cs[i].Names,cs[i].bf,cs[i].ck,cs[i].Order,⟨A3,cs[i].ai.n+1,c3⟩,cs[i].au⟩) rfl (fun u hu=>by
         rcases List.mem_or_eq_of_mem_set hu with hu|rfl
         ·exact ⟨u,hu,rfl⟩
         ·exact ⟨cs[i],List.getElem_mem jA,rfl⟩)
        have pA:eG s.aa[i] at'=⟨s.aa[i].Names,s.aa[i].bf,s.aa[i].ck,s.aa[i].Order,aV s.aa[i].ai k ⟨at',cs[i].ck,16*at'⟩,s.aa[i].au⟩:=by
         unfold eG;rw [ue,rh]
        have gv:=ks.new rj hu he (by rw [ie];exact hc);rw [ie] at gv;refine Wz ?_;refine ae.kq ?_;rw [Jz];refine ⟨_,⟨XA,r.Words.n,Xc⟩,H,_,gv,⟨rfl,rfl,rfl,rfl,by rw [ue];rfl,trivial⟩,G0,cS,gp,?_,Dg,fun j x h=>((pu j x h).ext hw).ay tu rfl,fun j x hj h=>((I3 j x hj h).ext hw).ay tu rfl,Nat.le_trans EO (Nat.le_trans hw.size v8.size)⟩;simp only;rw [pA];exact Lb
      ·have j4:=hc;unfold gh at j4;rw [if_neg (by rw [GH] at j4;exact j4)] at hv;subst hv;have gv:=ks.chain rj hu he (by rw [ie];exact hc);refine Wz ?_;all_goals try omega
       refine SW.ap ax rfl rfl rfl rfl (dD r) fun w9 bP hg => ?_
       have Dv:∀ j x,aJ w j 30 x→aJ w9 j 30 x:=fun j x h=>(h.ext hw).grown hg (by have:=h.lt;simp;omega)
       have Dw:∀ j x,G j→aJ w j 3 x→aJ w9 j 3 x:=fun j x hj h=>(h.ext hw).grown hg (by have:=h.lt;simp;omega)
       replace hw:=hw.own di hg;refine Wz ?_;refine ae.zA ?_;refine Wz ?_;exact ae.dl rfl rfl rfl rfl bP rfl ⟨_,rfl,_,gv,hx.trans hw,Dv,Dw,.inl ⟨rfl,by simp,rfl⟩⟩
     ·have gv:=ks.room rj hu (by rw [he];exact EJ);refine Wz ?_;all_goals try omega
      refine SW.ap ax rfl rfl rfl rfl (dD r) fun w9 bP hg => ?_
      have Dv:∀ j x,aJ w j 30 x→aJ w9 j 30 x:=fun j x h=>(h.ext hw).grown hg (by have:=h.lt;simp;omega)
      have Dw:∀ j x,G j→aJ w j 3 x→aJ w9 j 3 x:=fun j x hj h=>(h.ext hw).grown hg (by have:=h.lt;simp;omega)
      replace hw:=hw.own di hg;refine Wz ?_;refine ae.zA ?_;refine Wz ?_;exact ae.dl rfl rfl rfl rfl bP rfl ⟨_,rfl,_,gv,hx.trans hw,Dv,Dw,.inl ⟨rfl,by simp only;rw [he];exact EJ,by simp only;rw [he];rfl⟩⟩
   ·clear hw ar ax bk hS hJ fq;subst Jz;rintro L' w7 ⟨M,X,H,cs',gv,fq,N8,ar,ax,hS,hJ,qJ,qO,ui⟩
    refine ae.sub fq ?_;have jc:=gv.FV hM M rfl;obtain ⟨e3,e4⟩:=hS.rows;simp only [iE] at e3;have kY:i<cs'.length:=by omega
    have de:=jc.hk;have IS:=jc.first
    have CI:=jc.free;have N9:=jc.len;obtain ⟨y,hy⟩ : ∃ y,M.c.ai[M.k]=y:=⟨_,rfl⟩;have Hq:fg M.c M.k=y:=by rw [fZ de,hy]
    rw [hy] at IS CI;obtain ⟨an,GN⟩:=Int.eq_ofNat_of_zero_le IS.1;have Mp:M.c.au.length=s.aa[i].au.length:=by cases gv<;>rfl
    have hX:=hS;clear hS;have hC:=hX.get kY hi;simp only at hC;have q5:M.c.ai.length=cs'[i].ai.n:=hC.aR.len
    have q6:M.c.au.length=cs'[i].au.n:=hC.a9.len
    have q7:M.ws.length=X.n:=hX.words.len
    have ns:M.k<cs'[i].ai.n:=by omega
    have Dm:cpu<cs'[i].au.n:=by omega
    have GO:an<M.ws.length:=by omega
    have GP:an<X.n:=by omega
    have IP:=hC.aR.sl.base;have IQ:=hC.a9.sl.base;have Oa:=hX.words.sl.base;have Lc:=hC.aR.lt_size
    have gy:∀ j v,(aZ y)[j]?=some v→w7.cell? ((((cs'[i].ai.A).getD default).add (M.k*3)).add j)=some v:=fun j v hv=>by
     refine hC.aR.sl.all ns j v ?_;rw [show (M.c.ai[M.k]'(by omega))=y from hy];exact hv
    clear hC;have hw:=Ext.refl w7;repeat' (first|refine Wz ?_|refine SW.st (ak rfl (hX.row.sl.dv cf (j:=4) (u := .slice cs'[i].ai.A cs'[i].ai.n cs'[i].ai.c) rfl)) rfl ?_|refine SW.st (aX rfl rfl gy) rfl ?_)
    refine SW.alloc rfl fun I7 w8 Ob Fy l8 => ?_
    refine SW.ap l8 rfl rfl rfl rfl (fB.one (enc:=aZ) y) fun w9 Fz hg => ?_
    have aj:=Ob.own Fy hg;have Mq:w7.heap.size≤I7:=Fy
    (replace hw:=Ext.trans hw aj;replace ar:=ar.ext aj;replace ax:=ax.ext aj;replace hX:=hX.ext aj;replace hJ:=hJ.ext aj);clear l8 hg gy;have l8:aJ w9 I7 48 (aZ y):=Fz
    clear Fz;refine Wz ?_;refine CW.iO 10 10 (fun _=>True) mixed (by kernel_rfl) fun w1 ab aG => ?_
    replace hw:=Ext.trans hw ab;replace ar:=ar.ext ab;replace ax:=ax.ext ab;replace l8:=l8.ext ab;replace hX:=hX.ext ab;replace hJ:=hJ.ext ab;clear ab;refine SF.take 0 [] [] aG rfl (by kernel_rfl) (by kernel_rfl) (by kernel_rfl) ?_;repeat ((show SW _ _ _ _ (⟨_,Op.fieldAddr _ _ _,_,_,_,none⟩::_) _ _;refine SW.st (aC rfl) rfl ?_))
    refine SW.ah ?_;refine SF.take 1 [] [] aG rfl (by kernel_rfl) (by kernel_rfl) (by kernel_rfl) ?_;repeat ((show SW _ _ _ _ (⟨_,Op.load _ _,_,_,_,none⟩::_) _ _;refine SW.st (ak rfl (ar.cell (i:=6) (v := .slice r.aa.A r.aa.n r.aa.c) rfl)) rfl ?_))
    refine SW.ah ?_;refine SF.take 2 [] [] aG rfl (by kernel_rfl) (by kernel_rfl) (by kernel_rfl) ?_;repeat (refine SW.pure rfl rfl ?_)
    refine SW.ah ?_;refine SF.take 3 [] [] aG rfl (by kernel_rfl) (by kernel_rfl) (by kernel_rfl) ?_;repeat ((show SW _ _ _ _ (⟨_,Op.indexAddr _ _ _,_,_,_,none⟩::_) _ _;refine SW.st (bj rfl rfl (by assumption) (by omega)) rfl ?_))
    refine SW.ah ?_;refine SF.take 4 [] [] aG rfl (by kernel_rfl) (by kernel_rfl) (by kernel_rfl) ?_;repeat ((show SW _ _ _ _ (⟨_,Op.fieldAddr _ _ _,_,_,_,none⟩::_) _ _;refine SW.st (aC rfl) rfl ?_))
    refine SW.ah ?_;refine SF.take 5 [] [] aG rfl (by kernel_rfl) (by kernel_rfl) (by kernel_rfl) ?_;repeat ((show SW _ _ _ _ (⟨_,Op.load _ _,_,_,_,none⟩::_) _ _;refine SW.st (ak rfl (hX.row.sl.dv cf (j:=5) (u := .slice cs'[i].au.A cs'[i].au.n cs'[i].au.c) rfl)) rfl ?_))
    refine SW.ah ?_;refine SF.take 6 [] [] aG rfl (by kernel_rfl) (by kernel_rfl) (by kernel_rfl) ?_;repeat (refine SW.pure rfl rfl ?_)
    refine SW.ah ?_;refine SF.take 7 [] [] aG rfl (by kernel_rfl) (by kernel_rfl) (by kernel_rfl) ?_;repeat ((show SW _ _ _ _ (⟨_,Op.fieldAddr _ _ _,_,_,_,none⟩::_) _ _;refine SW.st (aC rfl) rfl ?_))
    refine SW.ah ?_;refine SF.take 8 [] [] aG rfl (by kernel_rfl) (by kernel_rfl) (by kernel_rfl) ?_;repeat ((show SW _ _ _ _ (⟨_,Op.load _ _,_,_,_,none⟩::_) _ _;refine SW.st (ak rfl (l8.cell (i:=0) (v := .int .i64 y.At) rfl)) rfl ?_))
    refine SW.ah ?_;refine SF.take 9 [] [] aG rfl (by kernel_rfl) (by kernel_rfl) (by kernel_rfl) ?_;repeat ((show SW _ _ _ _ (⟨_,Op.indexAddr _ _ _,_,_,_,none⟩::_) _ _;refine SW.st (bj rfl rfl (by assumption) (by omega)) rfl ?_))
    refine SW.ah ?_;refine SF.last rfl (by kernel_rfl) (by kernel_rfl) ?_;have hC:=hX.get kY hi;simp only at hC;refine SW.jX cpu hC.a9 rfl rfl Dm fun mw hO hg => ?_
    have hG:=hC.a9.gr hg;have Dk:=hX.act hJ kY hi hO hg;have kj:=aE (N8.trans hw) hg (Nat.le_refl _) hC.a9.aM;have Dx:∀ j x,aJ w j 30 x→aJ mw j 30 x:=fun j x h=>((qJ j x h).ext hw).ay hG rfl
    have Dy:∀ j x,G j→aJ w j 3 x→aJ mw j 3 x:=fun j x hj h=>((qO j x hj h).ext hw).grown hg (hJ.ne hj kY)
    (replace ar:=ar.ay hG rfl;replace ax:=ax.ay hG rfl;replace l8:=l8.ay hG rfl);clear hX hJ hC hw;have hX:=Dk.1;have Ld:=Dk.2;clear Dk hO hg hG;have hw:=Ext.refl mw;have gW:∀ w',SX w' wb.heap.size ⟨X,H,r.aa⟩ (cm (iE s M.ws) i (M.h,⟨M.c.Names,M.c.bf,M.c.ck,M.c.Order,M.c.ai,M.c.au.set cpu y.At⟩)) cs'→w'.cell? ((X.A.getD default).add (an*1))=some (Value.int .i64 M.ws[an]):=fun w' h=>h.words.sl.one GP (u := .int .i64 M.ws[an]) rfl
    have g2:∀ w',aJ w' I7 48 (aZ y)→w'.cell? ((⟨I7,0,none⟩ : Addr).add 2)=some (Value.int .i64 (an:Int)):=fun w' h=>h.cell (i:=2) (by rw [← GN];rfl)
    refine Wz ?_;refine CW.iO 20 20 (fun _=>True) mixed (by kernel_rfl) fun w1 ab aG => ?_
    replace hw:=Ext.trans hw ab;replace ar:=ar.ext ab;replace ax:=ax.ext ab;replace l8:=l8.ext ab;replace hX:=hX.ext ab;clear ab;refine SF.take 0 [] [] aG rfl (by kernel_rfl) (by kernel_rfl) (by kernel_rfl) ?_;repeat ((show SW _ _ _ _ (⟨_,Op.fieldAddr _ _ _,_,_,_,none⟩::_) _ _;refine SW.st (aC rfl) rfl ?_))
    refine SW.ah ?_;refine SF.take 1 [] [] aG rfl (by kernel_rfl) (by kernel_rfl) (by kernel_rfl) ?_;repeat ((show SW _ _ _ _ (⟨_,Op.load _ _,_,_,_,none⟩::_) _ _;refine SW.st (ak rfl (ar.cell (i:=6) (v := .slice r.aa.A r.aa.n r.aa.c) rfl)) rfl ?_))
    refine SW.ah ?_;refine SF.take 2 [] [] aG rfl (by kernel_rfl) (by kernel_rfl) (by kernel_rfl) ?_;repeat (refine SW.pure rfl rfl ?_)
    refine SW.ah ?_;refine SF.take 3 [] [] aG rfl (by kernel_rfl) (by kernel_rfl) (by kernel_rfl) ?_;repeat ((show SW _ _ _ _ (⟨_,Op.indexAddr _ _ _,_,_,_,none⟩::_) _ _;refine SW.st (bj rfl rfl (by assumption) (by omega)) rfl ?_))
    refine SW.ah ?_;refine SF.take 4 [] [] aG rfl (by kernel_rfl) (by kernel_rfl) (by kernel_rfl) ?_;repeat ((show SW _ _ _ _ (⟨_,Op.fieldAddr _ _ _,_,_,_,none⟩::_) _ _;refine SW.st (aC rfl) rfl ?_))
    refine SW.ah ?_;refine SF.take 5 [] [] aG rfl (by kernel_rfl) (by kernel_rfl) (by kernel_rfl) ?_;repeat ((show SW _ _ _ _ (⟨_,Op.load _ _,_,_,_,none⟩::_) _ _;refine SW.st (ak rfl (hX.row.sl.dv cf (j:=4) (u := .slice cs'[i].ai.A cs'[i].ai.n cs'[i].ai.c) rfl)) rfl ?_))
    refine SW.ah ?_;refine SF.take 6 [] [] aG rfl (by kernel_rfl) (by kernel_rfl) (by kernel_rfl) ?_;repeat (refine SW.pure rfl rfl ?_)
    refine SW.ah ?_;refine SF.take 7 [] [] aG rfl (by kernel_rfl) (by kernel_rfl) (by kernel_rfl) ?_;repeat ((show SW _ _ _ _ (⟨_,Op.fieldAddr _ _ _,_,_,_,none⟩::_) _ _;refine SW.st (aC rfl) rfl ?_))
    refine SW.ah ?_;refine SF.take 8 [] [] aG rfl (by kernel_rfl) (by kernel_rfl) (by kernel_rfl) ?_;repeat ((show SW _ _ _ _ (⟨_,Op.load _ _,_,_,_,none⟩::_) _ _;refine SW.st (ak rfl (l8.cell (i:=0) (v := .int .i64 y.At) rfl)) rfl ?_))
    refine SW.ah ?_;refine SF.take 9 [] [] aG rfl (by kernel_rfl) (by kernel_rfl) (by kernel_rfl) ?_;repeat ((show SW _ _ _ _ (⟨_,Op.fieldAddr _ _ _,_,_,_,none⟩::_) _ _;refine SW.st (aC rfl) rfl ?_))
    refine SW.ah ?_;refine SF.take 10 [] [] aG rfl (by kernel_rfl) (by kernel_rfl) (by kernel_rfl) ?_;repeat ((show SW _ _ _ _ (⟨_,Op.load _ _,_,_,_,none⟩::_) _ _;refine SW.st (ak rfl (l8.cell (i:=1) (v := .int .i64 y.ag) rfl)) rfl ?_))
    refine SW.ah ?_;refine SF.take 11 [] [] aG rfl (by kernel_rfl) (by kernel_rfl) (by kernel_rfl) ?_;repeat ((show SW _ _ _ _ (⟨_,Op.binOp _ _ _ _ _,_,_,_,none⟩::_) _ _;refine SW.st (iu rfl rfl (by omega) (by omega)) rfl ?_))
    refine SW.ah ?_;refine SF.take 12 [] [] aG rfl (by kernel_rfl) (by kernel_rfl) (by kernel_rfl) ?_;repeat ((show SW _ _ _ _ (⟨_,Op.fieldAddr _ _ _,_,_,_,none⟩::_) _ _;refine SW.st (aC rfl) rfl ?_))
    refine SW.ah ?_;refine SF.take 13 [] [] aG rfl (by kernel_rfl) (by kernel_rfl) (by kernel_rfl) ?_;repeat ((show SW _ _ _ _ (⟨_,Op.load _ _,_,_,_,none⟩::_) _ _;refine SW.st (ak rfl (ar.cell (i:=0) (v := .slice X.A X.n X.c) rfl)) rfl ?_))
    refine SW.ah ?_;refine SF.take 14 [] [] aG rfl (by kernel_rfl) (by kernel_rfl) (by kernel_rfl) ?_;repeat ((show SW _ _ _ _ (⟨_,Op.fieldAddr _ _ _,_,_,_,none⟩::_) _ _;refine SW.st (aC rfl) rfl ?_))
    refine SW.ah ?_;refine SF.take 15 [] [] aG rfl (by kernel_rfl) (by kernel_rfl) (by kernel_rfl) ?_;repeat ((show SW _ _ _ _ (⟨_,Op.load _ _,_,_,_,none⟩::_) _ _;refine SW.st (ak rfl (g2 _ l8)) rfl ?_))
    refine SW.ah ?_;refine SF.take 16 [] [] aG rfl (by kernel_rfl) (by kernel_rfl) (by kernel_rfl) ?_;repeat ((show SW _ _ _ _ (⟨_,Op.indexAddr _ _ _,_,_,_,none⟩::_) _ _;refine SW.st (bj rfl rfl (by assumption) (by omega)) rfl ?_))
    refine SW.ah ?_;refine SF.take 17 [] [] aG rfl (by kernel_rfl) (by kernel_rfl) (by kernel_rfl) ?_;repeat ((show SW _ _ _ _ (⟨_,Op.load _ _,_,_,_,none⟩::_) _ _;refine SW.st (ak rfl (gW _ hX)) rfl ?_))
    refine SW.ah ?_;refine SF.take 18 [] [] aG rfl (by kernel_rfl) (by kernel_rfl) (by kernel_rfl) ?_;repeat ((show SW _ _ _ _ (⟨_,Op.build _ _,_,_,_,none⟩::_) _ _;refine SW.st (fQ rfl rfl) rfl ?_))
    refine SW.ah ?_;refine SF.take 19 [] [] aG rfl (by kernel_rfl) (by kernel_rfl) (by kernel_rfl) ?_;repeat ((show SW _ _ _ _ (⟨_,Op.indexAddr _ _ _,_,_,_,none⟩::_) _ _;refine SW.st (bj rfl rfl (by assumption) (by omega)) rfl ?_))
    refine SW.ah ?_;refine SF.last rfl (by kernel_rfl) (by kernel_rfl) ?_;have hC:=hX.get kY hi;simp only at hC;refine SW.ib (enc:=aZ) M.k ⟨y.At,y.ag-1,M.ws[an]⟩ hC.aR rfl rfl ns fun rf hO hg => ?_
    have hG:=hC.aR.gr hg;have G1:=hX.z7 kY hi hO hg;have Le:=(Ld.ext hw).ay hG rfl;replace kj:=aE (kj.trans hw) hg (Nat.le_refl _) hC.aR.aM;replace Dx:∀ j x,aJ w j 30 x→aJ rf j 30 x:=fun j x h=>((Dx j x h).ext hw).ay hG rfl
    replace Dy:∀ j x,G j→aJ w j 3 x→aJ rf j 3 x:=fun j x hj h=>((Dy j x hj h).ext hw).ay hG rfl
    replace l8:=l8.grown hg (fun e=>by have:=Lc _ e.symm;omega);(replace ar:=ar.ay hG rfl;replace ax:=ax.ay hG rfl)
    have xr:kf M.c cpu M.k (M.ws.getD (fg M.c M.k).fR.toNat 0)=⟨M.c.Names,M.c.bf,M.c.ck,M.c.Order,M.c.ai.set M.k ⟨y.At,y.ag-1,M.ws[an]⟩,M.c.au.set cpu y.At⟩:=by
     unfold kf;rw [Hq,GN];simp [GO]
    clear hX hC hw hO hg hG;have hw:=Ext.refl rf;refine Wz ?_;refine CW.iO 3 5 (fun w2=>aJ w2 I7 48 (aZ y)) mixed (by kernel_rfl) fun w1 ab aG => ?_
    replace hw:=Ext.trans hw ab;replace ar:=ar.ext ab;replace ax:=ax.ext ab;replace l8:=l8.ext ab;replace G1:=G1.ext ab;clear ab;refine SF.take 0 [] [] aG rfl (by kernel_rfl) (by kernel_rfl) (by kernel_rfl) ?_;repeat ((show SW _ _ _ _ (⟨_,Op.load _ _,_,_,_,none⟩::_) _ _;refine SW.st (aX rfl rfl ((fun _ _=>ar.cell))) rfl ?_))
    refine SW.ah ?_;refine SF.dG 1 [] aG rfl (by kernel_rfl) (by kernel_rfl) (by kernel_rfl) (aC rfl) (fun w2 hS=>aC rfl) rfl ?_;refine SF.dG 2 [] aG rfl (by kernel_rfl) (by kernel_rfl) (by kernel_rfl) (ak rfl (g2 _ l8)) (fun w2 hS=>ak rfl (g2 _ hS)) rfl ?_;refine SF.turn rfl (by kernel_rfl) rfl ?_;refine SW.ap ax rfl rfl rfl rfl (dD ⟨X,H,r.aa⟩) fun Fp bP hg => ?_
    have hG:=ax.gr hg;have hS:=l8.ay hG rfl;have Lg:=G1.ay hG rfl;have Lh:=(Le.ext hw).ay hG rfl;have Li:=(kj.trans hw).own (Nat.le_trans fC di) hg;have I8:∀ j x,aJ w j 30 x→aJ Fp j 30 x:=fun j x h=>((Dx j x h).ext hw).grown hg (by have:=h.lt;simp;omega)
    have I9:∀ j x,G j→aJ w j 3 x→aJ Fp j 3 x:=fun j x hj h=>((Dy j x hj h).ext hw).grown hg (by have:=h.lt;simp;omega)
    refine SW.nil (ae.sg hS ?_);refine SG.one 4 rfl (by kernel_rfl) rfl ?_;repeat (refine SW.pure rfl rfl ?_)
    refine SW.nil (ae.sg hS ?_);refine SG.last rfl (by kernel_rfl) (by kernel_rfl) ?_;refine Wz ?_;exact ae.dl rfl rfl rfl rfl bP rfl ⟨_,rfl,_,gv,Li,I8,I9,.inr ⟨M,rfl,X,H,cs',by rw [Hq,GN],by rw [xr];exact ⟨Lg,Lh.rows rfl fun u hu=>⟨u,hu,rfl⟩⟩⟩⟩
open Go.RowKit
section
variable {P:Program} {L:Env} {w:World} {d:Option Nat} {T:TypeId} {pos:String} {af:Array Edge} {g:Option (Nat×Bool)}
theorem Dz {t ty:TypeId} {x y:Operand} {a:ByteArray} (hx:ca L x=some (.string a)) (hy:ca L y=some (.string a)) : St P ⟨d,.binOp .neq t x y ty,T,pos,af,g⟩ L w (.bool false) :=
 ⟨fun _ A hA w' _=>by
  have e1:=hA.eval hx;have e2:=hA.eval hy;generalize A.eval = ρ at *
  have h1:(binOp .neq t (.string a) (.string a)).run P w' = .ok (.bool false) w':=by
   have:binOp .neq t (.string a) (.string a)=Op.stringOp .neq a a:=by simp [binOp]
   rw [this];simp [Op.stringOp,pure]
  simp [execOp,e1,e2,eqGuard,h1]⟩
theorem EP {t k ty:TypeId} [c:rS P t k] {x y:Operand} (xs:List Int) (hx:ca L x=some (.agg (xs.map (Value.int .i64)).toArray)) (hy:ca L y=some (.agg (xs.map (Value.int .i64)).toArray)) (h1:Nat.beq xs.length k=true) :
 St P ⟨d,.binOp .neq t x y ty,T,pos,af,g⟩ L w (.bool false):=(BQ xs xs hx hy h1 h1).eq (by simp)
end
def Slab.xU (r:Slab) : List Int:=[r.At,r.ag,r.fR]
set_option maxHeartbeats 4000000 in
theorem nd (r q:dV) (s:aF) (w:World) (ha:ry w r s) (hb:ry w q s) (hs:s.small) :
 bt Tryz.prog 8 [.agg (aU r).toArray,.agg (aU q).toArray] w fun v _=>v = .bool true:=by
 refine aL Tryz.func8 rfl Tryz.ntmps8 rfl ?_;refine CW.seq (CW.region (SW.box rfl rfl fun b2 w1 hw gQ aK => ?_));refine SW.box rfl rfl fun b3 w2 cw bK ar => ?_
 (replace hw:=Ext.trans hw cw;replace aK:=aK.ext cw);obtain ⟨cs,hc⟩:=ha.dN;obtain ⟨cs',j4⟩:=hb.dN;obtain ⟨z1,z2⟩:=hc.len;obtain ⟨z3,z4⟩:=j4.len;have s1:=hs.words;have s3:=hs.dN;have m1:=ha.words.len
 have cM:∀ w',Ext w w'→bt Tryz.prog 11 [.slice r.Words.A r.Words.n r.Words.c,.slice q.Words.A q.Words.n q.Words.c] w' fun v _=>v = .bool true:=fun w' hx=>by
  have:=iw _ _ _ _ r.Words.c q.Words.c _ _ w' (ha.words.ext hx) (hb.words.ext hx) (by omega)
  simpa using this
 have cH:∀ w',Ext w w'→bt Tryz.prog 19 [.agg (bm r.Heap).toArray,.agg (bm q.Heap).toArray] w' fun v _=>v = .bool true:=fun w' hx=>vn _ _ _ w' (ha.heap.ext hx) (hb.heap.ext hx) hs.heap
 repeat' (first|refine Wz ?_|(refine CW.bA rfl ?_)|refine SW.want rfl rfl ?_|refine SW.st (aX rfl rfl ((gR aK))) rfl ?_|refine SW.st (aX rfl rfl ((gR ar))) rfl ?_|((first|refine SW.call rfl rfl (cM _ hw) ?_|refine SW.call rfl rfl (cH _ hw) ?_);intro v w1 ab hv;subst hv;replace hw:=Ext.trans hw ab;replace aK:=aK.ext ab;replace ar:=ar.ext ab;clear ab))
 all_goals try omega
 clear cM cH
 refine CW.loop (fun k:Nat=>[(2,.pointer (some ⟨b2,0,none⟩)),(3,.pointer (some ⟨b3,0,none⟩)),(5,.int .i64 (k:Int))]) (fun k w'=>k≤r.aa.n∧Ext w w'∧aJ w' b2 30 (aU r)∧aJ w' b3 30 (aU q)) (fun k=>r.aa.n-k) 0
  ⟨rfl,rfl,rfl,trivial⟩ ⟨by omega,hw,aK,ar⟩ ?_
 clear hw aK ar;rintro k w' ⟨hk,hw,aK,ar⟩
 have hA:=hc.row.base;have hB:=j4.row.base;by_cases bY:k<r.aa.n
 ·have Cr:k<q.aa.n:=by omega
  have gb:=hc.each.get k (by omega) (by omega);have uh:=j4.each.get k (by omega) (by omega);have sm:=hs.each _ (List.getElem_mem (show k<s.aa.length by omega));have q1:=gb.names.len;have q2:=gb.aR.len;have q3:=gb.a9.len;have OK:=uh.names.len;have OL:=uh.aR.len;have q4:=sm.names;have q5:=sm.aR;have q6:=sm.a9;have g1:=gb.size;have g2:=gb.jd;have g3:=gb.order;have g4:=uh.size;have g5:=uh.jd;have g6:=uh.order
  have cP:∀ w',Ext w w'→bt Tryz.prog 11 [.slice cs[k].au.A cs[k].au.n cs[k].au.c,.slice cs'[k].au.A cs'[k].au.n cs'[k].au.c] w' fun v _=>v = .bool true:=fun w' hx=>by
   have:=iw _ _ _ _ cs[k].au.c cs'[k].au.c _ _ w' (gb.a9.ext hx) (uh.a9.ext hx) (by omega)
   simpa using this
  repeat' (first|refine Wz ?_|refine SW.st (aH hw rfl rfl ((hc.row.all bY))) rfl ?_)
  refine SW.alloc rfl fun b6 w1 ab eW ax => ?_
  skip;refine SW.ap ax rfl rfl rfl rfl (sq _) fun w2 gp hg => ?_
  have aj:=ab.own eW hg;have di:w.heap.size≤b6:=Nat.le_trans hw.size eW
  replace hw:=Ext.trans hw aj;replace aK:=aK.ext aj;replace ar:=ar.ext aj;replace ax:=gp;clear gp ab hg aj;repeat' (first|refine Wz ?_|refine SW.st (aH hw rfl rfl ((j4.row.all Cr))) rfl ?_)
  refine SW.alloc rfl fun b7 w1 ab lc jS => ?_
  skip;refine SW.ap jS rfl rfl rfl rfl (sq _) fun w2 dF hg => ?_
  have aj:=ab.own lc hg;have qS:w.heap.size≤b7:=Nat.le_trans hw.size lc
  replace hw:=Ext.trans hw aj;replace aK:=aK.ext aj;replace ar:=ar.ext aj;replace ax:=ax.ext aj;replace jS:=dF;clear dF ab hg aj;repeat' (first|refine Wz ?_|(refine CW.bA rfl ?_)|(refine SW.call rfl rfl (cP _ hw) ?_;intro v w1 ab hv;subst hv;replace hw:=Ext.trans hw ab;replace aK:=aK.ext ab;replace ar:=ar.ext ab;replace ax:=ax.ext ab;replace jS:=jS.ext ab;clear ab))
  all_goals try omega
  clear cP
  refine CW.loop (fun j:Nat=>[(2,.pointer (some ⟨b2,0,none⟩)),(3,.pointer (some ⟨b3,0,none⟩)),(5,.int .i64 (k:Int)),(6,.pointer (some ⟨b6,0,none⟩)),(7,.pointer (some ⟨b7,0,none⟩)),(8,.int .i64 (j:Int))])
   (fun j w'=>j≤cs[k].Names.n∧Ext w w'∧aJ w' b2 30 (aU r)∧aJ w' b3 30 (aU q)∧aJ w' b6 46 (db cs[k])∧aJ w' b7 46 (db cs'[k])) (fun j=>cs[k].Names.n-j) 0
   ⟨rfl,rfl,rfl,rfl,rfl,rfl,trivial⟩ ⟨by omega,hw,aK,ar,ax,jS⟩ ?_
  clear hw aK ar ax jS;rintro j w' ⟨hj,hw,aK,ar,ax,jS⟩
  have rE:=gb.names.base;have Jm:=uh.names.base;by_cases iZ:j<cs[k].Names.n
  ·have G3:j<cs'[k].Names.n:=by omega
   repeat' (first|refine Wz ?_|((apply CW.aO mixed;(· kernel_rfl);rotate_left;intro w1 ab;replace hw:=Ext.trans hw ab;replace aK:=aK.ext ab;replace ar:=ar.ext ab;replace ax:=ax.ext ab;replace jS:=jS.ext ab;clear ab;rotate_right))|refine SW.st (ao hw rfl (gb.names.one iZ rfl)) rfl ?_|refine SW.st (ao hw rfl (uh.names.one G3 rfl)) rfl ?_|(refine SW.st (Dz rfl rfl) rfl ?_)|exact SW.bx rfl)
   exact ae.again (j+1) ⟨rfl,rfl,rfl,rfl,rfl,rfl,trivial⟩ (by omega) ⟨by omega,hw,aK,ar,ax,jS⟩
  ·refine Wz ?_;clear iZ hj rE Jm
   refine CW.loop (fun j:Nat=>[(2,.pointer (some ⟨b2,0,none⟩)),(3,.pointer (some ⟨b3,0,none⟩)),(5,.int .i64 (k:Int)),(6,.pointer (some ⟨b6,0,none⟩)),(7,.pointer (some ⟨b7,0,none⟩)),(9,.int .i64 (j:Int))])
    (fun j w'=>j≤cs[k].ai.n∧Ext w w'∧aJ w' b2 30 (aU r)∧aJ w' b3 30 (aU q)∧aJ w' b6 46 (db cs[k])∧aJ w' b7 46 (db cs'[k])) (fun j=>cs[k].ai.n-j) 0
    ⟨rfl,rfl,rfl,rfl,rfl,rfl,trivial⟩ ⟨by omega,hw,aK,ar,ax,jS⟩ ?_
   clear hw aK ar ax jS;rintro j w' ⟨hj,hw,aK,ar,ax,jS⟩
   have rE:=gb.aR.base;have Jm:=uh.aR.base;by_cases iZ:j<cs[k].ai.n
   ·have G3:j<cs'[k].ai.n:=by omega
    repeat' (first|refine Wz ?_|((apply CW.aO mixed;(· kernel_rfl);rotate_left;intro w1 ab;replace hw:=Ext.trans hw ab;replace aK:=aK.ext ab;replace ar:=ar.ext ab;replace ax:=ax.ext ab;replace jS:=jS.ext ab;clear ab;rotate_right))|refine SW.st (aH hw rfl rfl ((gb.aR.all iZ))) rfl ?_|refine SW.st (aH hw rfl rfl ((uh.aR.all G3))) rfl ?_|(refine SW.st (EP (Slab.xU (s.aa[k]).ai[j]) rfl rfl rfl) rfl ?_)|exact SW.bx rfl)
    exact ae.again (j+1) ⟨rfl,rfl,rfl,rfl,rfl,rfl,trivial⟩ (by omega) ⟨by omega,hw,aK,ar,ax,jS⟩
   ·refine Wz ?_;exact ae.again (k+1) ⟨rfl,rfl,rfl,trivial⟩ (by omega) ⟨by omega,hw,aK,ar⟩
 ·refine Wz ?_;exact ae.aN rfl rfl ⟨_,rfl,hw,rfl⟩
end Go.Proofs.YtjimadiidbkohaaGreatDoor
