/- Part 6 of what topEnds_holds leans on. -/
import Derived.Test.YtenhkiaaebnggaaGreatDoorPackTopEnds5
set_option linter.unusedVariables false
set_option linter.unusedSimpArgs false
set_option linter.defProp false
open Go.Proofs.Tryz
namespace Go.Proofs.YtenhkiaaebnggaaGreatDoor
open Go.RowKit
def P1 (G:Nat->Prop) (wb w0:World) (b:Nat) (r:de) (s:ag) (i:Nat) (c:aN) (cpu:Nat) (v:Value) (w':World) : Prop :=
 ∃ u,cU s.Heap (cpu:Int) c.Order 0 u ∧
  ((u.2.2≠0∧v = .tuple #[.int .i64 0,.int .i64 u.2.2]∧Ext w0 w')∨(u.2.2=0 ∧ ¬ jz s.Words.length (16*u.2.1) c.ay c.bL∧v = .tuple #[.int .i64 0,.int .i64 1]∧Ext w0 w') ∨
   (u.2.2=0∧jz s.Words.length (16*u.2.1) c.ay c.bL∧v = .tuple #[.int .i64 (fe c u.2.1:Int),.int .i64 0]∧Ext wb w'∧(∀ j x,j≠b->aR w0 j 44 x->aR w' j 44 x)∧(∀ j x,aR w0 j 123 x->aR w' j 123 x)∧(∀ j x,aR w0 j 3 x->aR w' j 3 x) ∧
    ∃ X H cs',aR w' b 44 (aK ⟨X,H,r.aa⟩)∧SX w' wb.heap.size ⟨X,H,r.aa⟩ (bz (nz s (dH s.Words (16*u.2.1) c.ay c.bL)) i (u.1,ee c u.2.1)) cs'∧SJ G w' wb.heap.size ⟨X,H,r.aa⟩ (bz (nz s (dH s.Words (16*u.2.1) c.ay c.bL)) i (u.1,ee c u.2.1)) cs'))
set_option maxHeartbeats 8000000 in
def NQ (G:Nat->Prop) (wb w0:World) (b:Nat) (r:de) (s:ag) (cs:List dT) (i cpu:Nat) (hf:s.cS) (hi:i<s.aa.length) (hM:rA s s.aa[i]) (fh:m9 w0)
 (hx:Ext wb w0) (hb:aR w0 b 44 (aK r)) (rC:wb.heap.size<=b) (hS:SX w0 wb.heap.size r s cs) (U0:∀ g,G g->g<w0.heap.size ∧ ∀ u∈cs,aG u.ak.A u.ak.c≠some g) (wT:(s.aa[i].ab.length+1)*24<=140737488355328) :
 iO prog 163 [.pointer (some ⟨b,0,none⟩),.int .i64 (i:Int),.int .i64 (cpu:Int)] w0 (P1 G wb w0 b r s i s.aa[i] cpu):=by
 refine dc func163 rfl ntmps163 rfl ?_;have h1:=hf.mm;have hm:=hM.most;have TC:=hM.words;have Ih:=hS.Jy;have dt:=hx.size;have e0:=mJ hi;obtain ⟨e1,e2⟩:=hS.len;have ol:i<cs.length:=by omega
 have cx:i<r.aa.n:=by omega
 have G1:=hS.row.sl.base;have Wc:=hS.words.len;have hC:=hS.each.get i ol hi;have ym:=hC.order;have Q4:=hC.size;have Ii:=hC.per;have q1:=hC.aB.len;have MY:=bV hM.lay;have hw:=Ext.refl w0;clear hC;refine Wz ?_
 focus
  refine CW.gB 15 17 (fun _=>True) mixed (by kernel_rfl) fun w1 ah aI => ?_
  obtain ⟨hw,hb,hS⟩:=cd ah hw hb hS;clear ah;refine Wp 0 [] [] aI rfl rfl ?_;refine Wt 1 [] [] aI rfl (aF rfl) ?_;refine Wt 2 [] [] aI rfl (az rfl) ?_;refine Wt 3 [] [] aI rfl (aY rfl rfl ((mH hb))) ?_;refine Wp 4 [] [] aI rfl rfl ?_;refine Wp 5 [] [] aI rfl rfl ?_;refine Wt 6 [] [] aI rfl (aF rfl) ?_;refine Wt 7 [] [] aI rfl (az rfl) ?_;refine Wt 8 [] [] aI rfl (aP rfl (hS.row.sl.jF cx (j:=3) (u := .int .i64 cs[i].Order) rfl)) ?_;refine SF.two 9 14 rfl rfl (by kernel_rfl) rfl rfl ?_ ?_
  focus
   refine Wk (qG r.Heap s.Heap (cpu:Int) cs[i].Order 0 _ hS.heap.rd h1.small h1.u6 (fh.ext hw)) fun v w4 ar hv => ?_
   obtain ⟨u,hu,H,rfl,hH⟩:=hv;have hH:=hH.low hw.size;obtain ⟨e,he⟩ : ∃ e,u.2.2=e:=⟨_,rfl⟩;obtain ⟨at',mR⟩ : ∃ a,u.2.1=a:=⟨_,rfl⟩;rw [he,mR];(obtain ⟨hw,hb,hS⟩:=cd ar hw hb hS);try have bF:=bF.ext ar
   refine SW.nil (ae.sf ar ?_);refine Wp 10 [] [] aI rfl rfl ?_;refine Wp 11 [] [] aI rfl rfl ?_;refine Wi 12 [] aI rfl (bi rfl) (fun w2 hS=>bi rfl) ?_;refine SF.jl 13 [] aI rfl (by kernel_rfl) (by kernel_rfl) (by kernel_rfl) (bi rfl) (fun w2 hS=>bi rfl) rfl ?_;refine SF.bZ 14 ?_;refine SW.alloc rfl fun b9 w4 ar oz bF => ?_
   have sy:=hw.up oz
   try have hH:=hH.ext ar
   (obtain ⟨hw,hb,hS⟩:=cd ar hw hb hS);refine SW.nil (ae.sf ar ?_);refine SF.iA ?_;refine Wg bF (ed H) fun w5 j5 hg => ?_
   have hG:=bF.gr hg;have hw:=hw.own sy hg;(obtain ⟨hb,hH,hS⟩:=cd hG hb hH hS);have bF:=j5;clear j5 hg hG;have F2:=hS;have hS:True:=trivial
   refine SW.nil (ae.sg hS ?_);refine SG.bZ 16 ?_;repeat (refine SW.pure rfl rfl ?_)
   refine SW.nil (ae.sg hS ?_)
  rotate_left
  focus
   refine SW.alloc rfl fun b9 w4 ar oz bF => ?_
   have sy:=hw.up oz
   try have hH:=hH.ext ar
   (obtain ⟨hw,hb,hS⟩:=cd ar hw hb hS);refine SW.nil (ae.sf ar ?_);refine SF.bZ 9 ?_;refine Wk (qG r.Heap s.Heap (cpu:Int) cs[i].Order 0 _ hS.heap.rd h1.small h1.u6 (fh.ext hw)) fun v w4 ar hv => ?_
   obtain ⟨u,hu,H,rfl,hH⟩:=hv;have hH:=hH.low hw.size;obtain ⟨e,he⟩ : ∃ e,u.2.2=e:=⟨_,rfl⟩;obtain ⟨at',mR⟩ : ∃ a,u.2.1=a:=⟨_,rfl⟩;rw [he,mR];(obtain ⟨hw,hb,hS⟩:=cd ar hw hb hS);try have bF:=bF.ext ar
   refine SW.nil (ae.sf ar ?_);refine Wp 10 [] [] aI rfl rfl ?_;refine Wp 11 [] [] aI rfl rfl ?_;refine Wi 12 [] aI rfl (bi rfl) (fun w2 hS=>bi rfl) ?_;refine SF.jl 13 [] aI rfl (by kernel_rfl) (by kernel_rfl) (by kernel_rfl) (bi rfl) (fun w2 hS=>bi rfl) rfl ?_;refine SF.iA ?_;refine Wg bF (ed H) fun w5 j5 hg => ?_
   have hG:=bF.gr hg;have hw:=hw.own sy hg;(obtain ⟨hb,hH,hS⟩:=cd hG hb hH hS);have bF:=j5;clear j5 hg hG;have F2:=hS;have hS:True:=trivial
   refine SW.nil (ae.sg hS ?_);refine SG.bZ 16 ?_;repeat (refine SW.pure rfl rfl ?_)
   refine SW.nil (ae.sg hS ?_)
  rotate_left
  all_goals
   refine SG.ff ?_;have hS:=F2;clear F2;rw [ym] at hu;by_cases ZM:e=0
   ·subst ZM;have kZ:=hu.at_ he;rw [mR] at kZ;refine Wz ?_;all_goals try omega
    by_cases hc:jz s.Words.length (16*at') s.aa[i].ay s.aa[i].bL
    ·refine CW.any 19 mixed (db (by kernel_rfl)) rfl fun w1 ah aI => ?_
     obtain ⟨hw,hb,bF,hH,hS⟩:=fH ah hw hb bF hH hS;clear ah;refine Wq 0 aI rfl rfl ?_;refine Wu 1 aI rfl (aF rfl) ?_;refine Wu 2 aI rfl (az rfl) ?_;refine Wu 3 aI rfl (aP rfl (hb.cell (i:=0) (v := .slice r.Words.A r.Words.n r.Words.c) rfl)) ?_;refine Wq 4 aI rfl rfl ?_;refine Wu 5 aI rfl (pG rfl rfl (by omega) (by omega)) ?_;refine Wq 6 aI rfl rfl ?_;refine Wu 7 aI rfl (aF rfl) ?_;refine Wu 8 aI rfl (az rfl) ?_;refine Wu 9 aI rfl (aP rfl (hS.row.sl.jF cx (j:=1) (u := .int .i64 cs[i].ay) rfl)) ?_;refine Wq 10 aI rfl rfl ?_;refine Wu 11 aI rfl (aF rfl) ?_;refine Wu 12 aI rfl (az rfl) ?_;refine Wu 13 aI rfl (aP rfl (hS.row.sl.jF cx (j:=2) (u := .int .i64 cs[i].bL) rfl)) ?_;refine SA.bZ 14 ?_;refine Wk (CT r.Words.A r.Words.n r.Words.c s.Words (at'*16) cs[i].ay cs[i].bL _ hS.words.sl (by omega)) fun v w6 ar hv => ?_
     have iq:=hc;unfold jz at iq;rw [uL,show at'*16=16*at' by omega,Q4,Ii,if_pos (by rw [Wc] at iq;exact iq)] at hv;obtain ⟨XA,Xc,rfl,hX⟩:=hv;have hX:=hX.low hw.size;(obtain ⟨hw,hb,bF,hH,hS⟩:=fH ar hw hb bF hH hS);refine SW.nil (ae.sa ar ?_);refine Wq 15 aI rfl rfl ?_;refine Wq 16 aI rfl rfl ?_;refine Wq 17 aI rfl rfl ?_;refine Wq 18 aI rfl rfl ?_;refine SA.fZ ?_;refine Wz ?_;refine SW.gE 1 hb rfl rfl rfl (ae2 rfl) (ed H) (aK ⟨r.Words,H,r.aa⟩) rfl fun w7 iL hg => ?_
     have hG:=hb.gr hg;have uO:∀ j x,j≠b->aR w0 j 44 x->aR w7 j 44 x:=fun j x hj h=>(h.ext hw).grown hg (by simpa using hj)
     have OO:∀ j x,aR w0 j 123 x->aR w7 j 123 x:=fun j x h=>(h.ext hw).aJ hG rfl
     have G7:∀ j x,aR w0 j 3 x->aR w7 j 3 x:=fun j x h=>(h.ext hw).aJ hG rfl
     have hx:=(hx.trans hw).own rC hg;(obtain ⟨hH,hX,hS⟩:=cd hG hH hX hS);refine Wz ?_;refine Wb (i:=0) iL fun w8 U1 hg => ?_
     have hG:=iL.gr hg;have uO:∀ j x,j≠b->aR w0 j 44 x->aR w8 j 44 x:=fun j x hj h=>(uO j x hj h).grown hg (by simpa using hj)
     have OO:∀ j x,aR w0 j 123 x->aR w8 j 123 x:=fun j x h=>(OO j x h).aJ hG rfl
     have G7:∀ j x,aR w0 j 3 x->aR w8 j 3 x:=fun j x h=>(G7 j x h).aJ hG rfl
     have hx:=hx.own rC hg;(obtain ⟨hH,hX,hS⟩:=cd hG hH hX hS);have hb:aR w8 b 44 (aK ⟨⟨XA,r.Words.n,Xc⟩,H,r.aa⟩):=U1;rw [<- e0] at hS;obtain ⟨za,xJ⟩:=ru.fresh (p:=(s.Heap,s.aa[i])) (X:=⟨XA,r.Words.n,Xc⟩) (H:=H) (h':=u.1) (m:=w0.heap.size) hS dt Ih U0 hX hH;clear hS hX hH hw hG hg iL U1 bF;have hw:=Ext.refl w8;refine Wz ?_
     refine CW.loop (fun k:Nat=>[(8,.pointer (some ((r.aa.A.getD default).add (i*6)))),(10,.int .i64 at'),(13,.int .i64 (k:Int))])
      (fun k w'=>w'=w8∧k<=cs[i].ab.n ∧ ∀ (j:Nat) (hj:j<s.aa[i].ab.length),j<k->s.aa[i].ab[j].At<at') (fun k=>cs[i].ab.n-k) 0
      ⟨rfl,rfl,rfl,trivial⟩ ⟨rfl,afc _,fun j hj h=>by omega⟩ ?_
     rintro k w' ⟨UE,hk,e8⟩
     subst UE;have Ce:=za.get ol hi;simp only at Ce;have TK:=Ce.aB.sl.base;by_cases gC:k<cs[i].ab.n
     ·have iR:k<s.aa[i].ab.length:=by omega
      obtain ⟨y,hy⟩ : ∃ y,s.aa[i].ab[k]=y:=⟨_,rfl⟩;have gA:=Ce.aB.sl.jF gC (j:=0) (show (bd (s.aa[i].ab[k]'(by omega)))[0]?=some (Value.int .i64 y.At) by rw [hy];rfl);by_cases ZN:y.At<at'
      ·repeat' (first|refine Wz ?_|refine Wl (za.row.sl.jF cx (j:=4) (u := .slice cs[i].ab.A cs[i].ab.n cs[i].ab.c) rfl) ?_|refine Wl gA ?_)
       all_goals try omega
       exact ae.again (k+1) ⟨rfl,rfl,rfl,trivial⟩ (by omega) ⟨rfl,by omega,fun j hj h=>by
        by_cases e:j=k
        ·subst e;rw [hy];exact ZN
        ·exact e8 j hj (by omega)⟩
      ·have Nc:fe s.aa[i] at'=k:=Jv (by omega) e8 (fun h=>by rw [hy];exact ZN)
       repeat' (first|refine Wz ?_|refine Wl (za.row.sl.jF cx (j:=4) (u := .slice cs[i].ab.A cs[i].ab.n cs[i].ab.c) rfl) ?_|refine Wl gA ?_)
       all_goals try omega
       refine CW.gB 15 18 (fun _=>True) mixed (by kernel_rfl) fun w1 ah aI => ?_
       obtain ⟨hw,hb,za,xJ⟩:=dJ ah hw hb za xJ;clear ah;refine Wi 0 [] aI rfl (bi rfl) (fun w2 hS=>bi rfl) ?_;refine Wp 1 [4,3,2] [] aI rfl rfl ?_;refine Wt 2 [4,3] [] aI rfl (aF rfl) ?_;refine Wt 3 [4] [] aI rfl (az rfl) ?_;refine Wt 4 [] [] aI rfl (aP rfl (za.row.sl.jF cx (j:=4) (u := .slice cs[i].ab.A cs[i].ab.n cs[i].ab.c) rfl)) ?_;refine Wp 5 [] [] aI rfl rfl ?_;refine Wp 6 [14,13] [] aI rfl rfl ?_;refine Wp 7 [14,13,10,9,8] [] aI rfl rfl ?_;refine Wt 8 [14,13,10,9] [] aI rfl (aF rfl) ?_;refine Wt 9 [14,13,10] [] aI rfl (az rfl) ?_;refine Wt 10 [14,13] [] aI rfl (aP rfl (za.row.sl.jF cx (j:=2) (u := .int .i64 cs[i].bL) rfl)) ?_;refine Wp 11 [14,13,12] [] aI rfl rfl ?_;refine Wt 12 [14,13] [] aI rfl (pG rfl rfl (by omega) (by omega)) ?_;refine Wt 13 [14] [] aI rfl (jb rfl rfl) ?_;refine SF.bZ 14 ?_;refine SW.dR rfl rfl rfl rfl rfl fun bn w9 ar U2 P2 => ?_
       have wJ:aG cs[i].ab.A cs[i].ab.c≠some bn:=fun e=>absurd ((za.get ol hi).aB.lt_size _ e) (by omega)
       (obtain ⟨hw,hb,za,xJ⟩:=dJ ar hw hb za xJ);refine SW.nil (ae.sf ar ?_);refine SF.iA ?_;have Ce:=za.get ol hi;simp only at Ce;refine SW.dK rfl rfl (sZ _ _ _ wb.heap.size s.aa[i].ab _ Ce.aB k (by omega) ⟨at',cs[i].bL,at'*16⟩ bn P2 wJ (by omega) (aev hx.size hw.size)) fun v oP hv => ?_
       obtain ⟨A2,c2,rfl,bg,hg,P3⟩:=hv;have hG:=Ce.aB.gr hg;have U3:=za.C2 ol hi bg hg P3;have Lh:=aD (hx.trans hw) hg (aew _) Ce.aB.aW;have Sw:∀ j x,j≠b->aR w0 j 44 x->aR oP j 44 x:=fun j x hj h=>((uO j x hj h).ext hw).aJ hG rfl
       have Sx:∀ j x,aR w0 j 123 x->aR oP j 123 x:=fun j x h=>((OO j x h).ext hw).aJ hG rfl
       have Sy:∀ j x,aR w0 j 3 x->aR oP j 3 x:=fun j x h=>((G7 j x h).ext hw).aJ hG rfl
       (obtain ⟨hb,xJ⟩:=cT hG hb xJ);have hS:True:=trivial
       refine SW.nil (ae.sg hS ?_);refine SG.bZ 16 ?_;repeat ((show SW _ _ _ _ (⟨_,Op.nilCheck _,_,_,_,none⟩::_) _ _;refine SW.st (aF rfl) rfl ?_))
       refine SW.nil (ae.sg hS ?_);refine SG.bZ 17 ?_;repeat ((show SW _ _ _ _ (⟨_,Op.fieldAddr _ _ _,_,_,_,none⟩::_) _ _;refine SW.st (az rfl) rfl ?_))
       refine SW.nil (ae.sg hS ?_);refine SG.ff ?_;have fP:=U3.row;refine SW.gH i 4 ⟨cs[i].Names,cs[i].ay,cs[i].bL,cs[i].Order,⟨A2,cs[i].ab.n+1,c2⟩,cs[i].ak⟩ fP rfl rfl rfl cx (by decide) rfl rfl fun qH ke Cf => ?_
       have vX:=fP.gr Cf;have X6:=U3.Eh ke Cf;have Lh:=aD Lh Cf (aew _) fP.aW;(obtain ⟨hb,xJ⟩:=cT vX hb xJ)
       have X7:=xJ.rows (s':=bz (nz s (dH s.Words (16*at') s.aa[i].ay s.aa[i].bL)) i (u.1,ee s.aa[i] at')) (cs':=cs.set i ⟨cs[i].Names,cs[i].ay,cs[i].bL,cs[i].Order,⟨A2,cs[i].ab.n+1,c2⟩,cs[i].ak⟩) rfl (fun u hu=>by
        rcases aeI hu with hu|rfl
        ·exact ⟨u,hu,rfl⟩
        ·exact ⟨cs[i],aet ol,rfl⟩)
       have Tw:ee s.aa[i] at'=⟨s.aa[i].Names,s.aa[i].ay,s.aa[i].bL,s.aa[i].Order,aM s.aa[i].ab k ⟨at',cs[i].bL,at'*16⟩,s.aa[i].ak⟩:=by
        unfold ee;rw [Nc,Ii,show at'*16=16*at' by omega]
       refine Wz ?_;refine ae.dl rfl rfl rfl ⟨_,rfl,u,hu,.inr (.inr ⟨he,by rw [mR];exact hc,by rw [mR,Nc],Lh,fun j x hj h=>(Sw j x hj h).aJ vX rfl,fun j x h=>(Sx j x h).aJ vX rfl,fun j x h=>(Sy j x h).aJ vX rfl,⟨XA,r.Words.n,Xc⟩,H,_,hb,?_,by rw [mR];exact X7⟩)⟩;rw [mR,Tw];exact X6
     ·have Wd:k=cs[i].ab.n:=by omega
      have Nc:fe s.aa[i] at'=k:=Jv (by omega) (fun j hj h=>e8 j hj (by omega)) (fun h=>by omega)
      repeat' (first|refine Wz ?_|refine Wl (za.row.sl.jF cx (j:=4) (u := .slice cs[i].ab.A cs[i].ab.n cs[i].ab.c) rfl) ?_)
      all_goals try omega
      refine CW.gB 15 18 (fun _=>True) mixed (by kernel_rfl) fun w1 ah aI => ?_
      obtain ⟨hw,hb,za,xJ⟩:=dJ ah hw hb za xJ;clear ah;refine Wi 0 [] aI rfl (bi rfl) (fun w2 hS=>bi rfl) ?_;refine Wp 1 [4,3,2] [] aI rfl rfl ?_;refine Wt 2 [4,3] [] aI rfl (aF rfl) ?_;refine Wt 3 [4] [] aI rfl (az rfl) ?_;refine Wt 4 [] [] aI rfl (aP rfl (za.row.sl.jF cx (j:=4) (u := .slice cs[i].ab.A cs[i].ab.n cs[i].ab.c) rfl)) ?_;refine Wp 5 [] [] aI rfl rfl ?_;refine Wp 6 [14,13] [] aI rfl rfl ?_;refine Wp 7 [14,13,10,9,8] [] aI rfl rfl ?_;refine Wt 8 [14,13,10,9] [] aI rfl (aF rfl) ?_;refine Wt 9 [14,13,10] [] aI rfl (az rfl) ?_;refine Wt 10 [14,13] [] aI rfl (aP rfl (za.row.sl.jF cx (j:=2) (u := .int .i64 cs[i].bL) rfl)) ?_;refine Wp 11 [14,13,12] [] aI rfl rfl ?_;refine Wt 12 [14,13] [] aI rfl (pG rfl rfl (by omega) (by omega)) ?_;refine Wt 13 [14] [] aI rfl (jb rfl rfl) ?_;refine SF.bZ 14 ?_;refine SW.dR rfl rfl rfl rfl rfl fun bn w9 ar U2 P2 => ?_
      have wJ:aG cs[i].ab.A cs[i].ab.c≠some bn:=fun e=>absurd ((za.get ol hi).aB.lt_size _ e) (by omega)
      (obtain ⟨hw,hb,za,xJ⟩:=dJ ar hw hb za xJ);refine SW.nil (ae.sf ar ?_);refine SF.iA ?_;have Ce:=za.get ol hi;simp only at Ce;refine SW.dK rfl rfl (sZ _ _ _ wb.heap.size s.aa[i].ab _ Ce.aB k (by omega) ⟨at',cs[i].bL,at'*16⟩ bn P2 wJ (by omega) (aev hx.size hw.size)) fun v oP hv => ?_
      obtain ⟨A2,c2,rfl,bg,hg,P3⟩:=hv;have hG:=Ce.aB.gr hg;have U3:=za.C2 ol hi bg hg P3;have Lh:=aD (hx.trans hw) hg (aew _) Ce.aB.aW;have Sw:∀ j x,j≠b->aR w0 j 44 x->aR oP j 44 x:=fun j x hj h=>((uO j x hj h).ext hw).aJ hG rfl
      have Sx:∀ j x,aR w0 j 123 x->aR oP j 123 x:=fun j x h=>((OO j x h).ext hw).aJ hG rfl
      have Sy:∀ j x,aR w0 j 3 x->aR oP j 3 x:=fun j x h=>((G7 j x h).ext hw).aJ hG rfl
      (obtain ⟨hb,xJ⟩:=cT hG hb xJ);have hS:True:=trivial
      refine SW.nil (ae.sg hS ?_);refine SG.bZ 16 ?_;repeat ((show SW _ _ _ _ (⟨_,Op.nilCheck _,_,_,_,none⟩::_) _ _;refine SW.st (aF rfl) rfl ?_))
      refine SW.nil (ae.sg hS ?_);refine SG.bZ 17 ?_;repeat ((show SW _ _ _ _ (⟨_,Op.fieldAddr _ _ _,_,_,_,none⟩::_) _ _;refine SW.st (az rfl) rfl ?_))
      refine SW.nil (ae.sg hS ?_);refine SG.ff ?_;have fP:=U3.row;refine SW.gH i 4 ⟨cs[i].Names,cs[i].ay,cs[i].bL,cs[i].Order,⟨A2,cs[i].ab.n+1,c2⟩,cs[i].ak⟩ fP rfl rfl rfl cx (by decide) rfl rfl fun qH ke Cf => ?_
      have vX:=fP.gr Cf;have X6:=U3.Eh ke Cf;have Lh:=aD Lh Cf (aew _) fP.aW;(obtain ⟨hb,xJ⟩:=cT vX hb xJ)
      have X7:=xJ.rows (s':=bz (nz s (dH s.Words (16*at') s.aa[i].ay s.aa[i].bL)) i (u.1,ee s.aa[i] at')) (cs':=cs.set i ⟨cs[i].Names,cs[i].ay,cs[i].bL,cs[i].Order,⟨A2,cs[i].ab.n+1,c2⟩,cs[i].ak⟩) rfl (fun u hu=>by
       rcases aeI hu with hu|rfl
       ·exact ⟨u,hu,rfl⟩
       ·exact ⟨cs[i],aet ol,rfl⟩)
      have Tw:ee s.aa[i] at'=⟨s.aa[i].Names,s.aa[i].ay,s.aa[i].bL,s.aa[i].Order,aM s.aa[i].ab k ⟨at',cs[i].bL,at'*16⟩,s.aa[i].ak⟩:=by
       unfold ee;rw [Nc,Ii,show at'*16=16*at' by omega]
      refine Wz ?_;refine ae.dl rfl rfl rfl ⟨_,rfl,u,hu,.inr (.inr ⟨he,by rw [mR];exact hc,by rw [mR,Nc],Lh,fun j x hj h=>(Sw j x hj h).aJ vX rfl,fun j x h=>(Sx j x h).aJ vX rfl,fun j x h=>(Sy j x h).aJ vX rfl,⟨XA,r.Words.n,Xc⟩,H,_,hb,?_,by rw [mR];exact X7⟩)⟩;rw [mR,Tw];exact X6
    ·refine CW.any 19 mixed (db (by kernel_rfl)) rfl fun w1 ah aI => ?_
     obtain ⟨hw,hb,bF,hH,hS⟩:=fH ah hw hb bF hH hS;clear ah;refine Wq 0 aI rfl rfl ?_;refine Wu 1 aI rfl (aF rfl) ?_;refine Wu 2 aI rfl (az rfl) ?_;refine Wu 3 aI rfl (aP rfl (hb.cell (i:=0) (v := .slice r.Words.A r.Words.n r.Words.c) rfl)) ?_;refine Wq 4 aI rfl rfl ?_;refine Wu 5 aI rfl (pG rfl rfl (by omega) (by omega)) ?_;refine Wq 6 aI rfl rfl ?_;refine Wu 7 aI rfl (aF rfl) ?_;refine Wu 8 aI rfl (az rfl) ?_;refine Wu 9 aI rfl (aP rfl (hS.row.sl.jF cx (j:=1) (u := .int .i64 cs[i].ay) rfl)) ?_;refine Wq 10 aI rfl rfl ?_;refine Wu 11 aI rfl (aF rfl) ?_;refine Wu 12 aI rfl (az rfl) ?_;refine Wu 13 aI rfl (aP rfl (hS.row.sl.jF cx (j:=2) (u := .int .i64 cs[i].bL) rfl)) ?_;refine SA.bZ 14 ?_;refine Wk (CT r.Words.A r.Words.n r.Words.c s.Words (at'*16) cs[i].ay cs[i].bL _ hS.words.sl (by omega)) fun v w6 ar hv => ?_
     have iq:=hc;unfold jz at iq;rw [uL,show at'*16=16*at' by omega,Q4,Ii,if_neg (by rw [Wc] at iq;exact iq)] at hv;subst hv;(obtain ⟨hw,hb,bF,hH,hS⟩:=fH ar hw hb bF hH hS);refine SW.nil (ae.sa ar ?_);refine Wq 15 aI rfl rfl ?_;refine Wq 16 aI rfl rfl ?_;refine Wq 17 aI rfl rfl ?_;refine Wq 18 aI rfl rfl ?_;refine SA.fZ ?_;refine Wz ?_;exact ae.dl rfl rfl rfl ⟨_,rfl,u,hu,.inr (.inl ⟨he,by rw [mR];exact hc,rfl,hw⟩)⟩
   ·refine Wz ?_;all_goals try omega
    exact ae.dl rfl rfl rfl ⟨_,rfl,u,hu,.inl ⟨by rw [he];exact ZM,by rw [he];rfl,hw⟩⟩
set_option maxHeartbeats 4000000 in
def mM (r:de) (s:ag) (w:World) (hr:zU w r s) (hs:s.small) :
 bI prog 13 [.agg (aK r).toArray] w fun v w' => ∃ q zr,v = .agg (aK q).toArray∧SX w' w.heap.size q s zr∧SI w' w.heap.size q s zr:=by
 refine Wj func13 ntmps13 ?_;refine Ww fun b1 w1 hw lD aX => ?_;refine SW.alloc rfl fun b2 w2 bq eW aq => ?_
 have vo:=hw.up eW
 have Pk:b2≠b1:=by have:=aX.lt;omega
 (obtain ⟨hw,aX⟩:=cT bq hw aX);obtain ⟨cs,hc⟩:=hr.bo;have TC:=hr.words.len;have s1:=hs.words;have s3:=hs.bo;obtain ⟨c1,c2⟩:=hc.len;refine Wz ?_
 obtain ⟨K,hK⟩ : ∃ K:Env->World->Prop,K=fun L' w' => ∃ X c1 G b3 m1 m2,iM L' [(1,.pointer (some ⟨b1,0,none⟩)),(2,.pointer (some ⟨b2,0,none⟩)),(3,.pointer (some ⟨b3,0,none⟩))]∧Ext w w'∧aR w' b1 44 (aK r)∧aR w' b2 44 (aK .zero) ∧
  aR w' b3 44 (aK ⟨⟨X,r.Words.n,c1⟩,G,.nil⟩)∧Own w' w.heap.size 3 1 bt X r.Words.n c1 s.Words∧jY w' m1 m2 G s.Heap∧(w.heap.size<=m1∧m1<=m2∧m2<=w'.heap.size ∧ ∀ g,aG X c1=some g->g<m1)∧w.heap.size<=b3∧b1≠b3∧b2≠b3:=⟨_,rfl⟩
 refine CW.cut K ?_ ?_
 ·focus
   refine CW.any 8 mixed (db (by kernel_rfl)) rfl fun w1 ah aI => ?_
   obtain ⟨hw,aX,aq⟩:=cd ah hw aX aq;clear ah;refine Wa ?_;refine Wu 4 aI rfl (aY rfl rfl ((mH aX))) ?_;refine SA.two 2 7 rfl rfl (by kernel_rfl) rfl rfl ?_ ?_
   focus
    refine Wk (dC _ _ _ _ _ (hr.words.ext hw) (by omega)) fun v w4 ar hv => ?_
    obtain ⟨X,c4,rfl,hX⟩:=hv;have hX:=hX.low hw.size;obtain ⟨hw,aX,aq⟩:=cd ar hw aX aq;try have ao:=ao.ext ar
    refine SW.nil (ae.sa ar ?_);refine SA.two 5 7 rfl rfl (by kernel_rfl) rfl rfl ?_ ?_
    focus
     refine Wk (mG _ _ _ (hr.heap.ext hw) hs.heap) fun v w4 ar hv => ?_
     obtain ⟨G,rfl,hY⟩:=hv;have U4:∃ m1 m2,w.heap.size<=m1∧m1<=m2∧m2<=w4.heap.size∧(∀ g,aG X c4=some g->g<m1)∧jY w4 m1 m2 G s.Heap:=⟨_,_,hw.size,ar.size,aew _,hX.lt_size,hY.vK⟩
     clear hY;obtain ⟨m1,m2,HV,F3,xm,U5,hY⟩:=U4;obtain ⟨hX,hw,aX,aq⟩:=dJ ar hX hw aX aq;try have ao:=ao.ext ar
     refine SW.nil (ae.sa ar ?_);refine Wa ?_;refine SA.bZ 7 ?_;refine SW.alloc rfl fun b3 w4 ar cg ao => ?_
     have gm:=hw.up cg
     try have xm:=aev xm ar.size
     have rX:b1≠b3:=by have:=aX.lt;omega
     have pN:b2≠b3:=by have:=aq.lt;omega
     obtain ⟨hw,aX,aq⟩:=cd ar hw aX aq;try have hX:=hX.ext ar
     try have hY:=hY.ext ar
     refine SW.nil (ae.sa ar ?_)
    rotate_left
    focus
     refine SW.alloc rfl fun b3 w4 ar cg ao => ?_
     have gm:=hw.up cg
     try have xm:=aev xm ar.size
     have rX:b1≠b3:=by have:=aX.lt;omega
     have pN:b2≠b3:=by have:=aq.lt;omega
     obtain ⟨hw,aX,aq⟩:=cd ar hw aX aq;try have hX:=hX.ext ar
     try have hY:=hY.ext ar
     refine SW.nil (ae.sa ar ?_);refine SA.bZ 5 ?_;refine Wk (mG _ _ _ (hr.heap.ext hw) hs.heap) fun v w4 ar hv => ?_
     obtain ⟨G,rfl,hY⟩:=hv;have U4:∃ m1 m2,w.heap.size<=m1∧m1<=m2∧m2<=w4.heap.size∧(∀ g,aG X c4=some g->g<m1)∧jY w4 m1 m2 G s.Heap:=⟨_,_,hw.size,ar.size,aew _,hX.lt_size,hY.vK⟩
     clear hY;obtain ⟨m1,m2,HV,F3,xm,U5,hY⟩:=U4;obtain ⟨hX,hw,aX,aq⟩:=dJ ar hX hw aX aq;try have ao:=ao.ext ar
     refine SW.nil (ae.sa ar ?_);refine Wa ?_
    rotate_left
   rotate_left 2
   focus
    refine SW.alloc rfl fun b3 w4 ar cg ao => ?_
    have gm:=hw.up cg
    try have xm:=aev xm ar.size
    have rX:b1≠b3:=by have:=aX.lt;omega
    have pN:b2≠b3:=by have:=aq.lt;omega
    obtain ⟨hw,aX,aq⟩:=cd ar hw aX aq;try have hX:=hX.ext ar
    try have hY:=hY.ext ar
    refine SW.nil (ae.sa ar ?_);refine SA.bZ 2 ?_;refine Wk (dC _ _ _ _ _ (hr.words.ext hw) (by omega)) fun v w4 ar hv => ?_
    obtain ⟨X,c4,rfl,hX⟩:=hv;have hX:=hX.low hw.size;obtain ⟨hw,aX,aq⟩:=cd ar hw aX aq;try have ao:=ao.ext ar
    refine SW.nil (ae.sa ar ?_);refine SA.bZ 5 ?_;refine Wk (mG _ _ _ (hr.heap.ext hw) hs.heap) fun v w4 ar hv => ?_
    obtain ⟨G,rfl,hY⟩:=hv;have U4:∃ m1 m2,w.heap.size<=m1∧m1<=m2∧m2<=w4.heap.size∧(∀ g,aG X c4=some g->g<m1)∧jY w4 m1 m2 G s.Heap:=⟨_,_,hw.size,ar.size,aew _,hX.lt_size,hY.vK⟩
    clear hY;obtain ⟨m1,m2,HV,F3,xm,U5,hY⟩:=U4;obtain ⟨hX,hw,aX,aq⟩:=dJ ar hX hw aX aq;try have ao:=ao.ext ar
    refine SW.nil (ae.sa ar ?_);refine Wa ?_
   rotate_left
   all_goals
    refine SA.fZ ?_;skip;refine Wg ao (aU ⟨⟨X,r.Words.n,c4⟩,G,.nil⟩) fun w5 cK hg => ?_
    have hG:=ao.gr hg;have U6:=aev xm hg.size;have hw:=hw.own gm hg;(obtain ⟨hX,hY⟩:=cT hG hX hY);have aX:=aX.grown hg (by simpa using rX);have aq:=aq.grown hg (by simpa using pN);refine Wz ?_;exact ae.cut (K:=K) (by rw [hK];exact ⟨X,c4,G,b3,m1,m2,⟨rfl,rfl,rfl,trivial⟩,hw,aX,aq,cK,hX,hY,⟨HV,F3,U6,U5⟩,gm,rX,pN⟩)
 ·clear aX aq hw;subst hK;rintro L' w' ⟨X,c4,G,b3,m1,m2,jc,hw,aX,aq,ao,hX,hY,⟨HV,F3,U6,U5⟩,gm,rX,pN⟩
  refine ae.sub jc ?_;refine Wz ?_
  refine CW.loop (fun s:Nat×Option Addr×Nat×List dT=>[(2,.pointer (some ⟨b2,0,none⟩)),(3,.pointer (some ⟨b3,0,none⟩)),(14,.slice r.aa.A r.aa.n r.aa.c),(15,.int .i64 (r.aa.n:Int)),(16,.int .i64 (s.1:Int))])
   (fun t w'=>t.1<=r.aa.n∧m2<=w'.heap.size∧Ext w w'∧aR w' b2 44 (aK .zero)∧aR w' b3 44 (aK ⟨⟨X,r.Words.n,c4⟩,G,⟨t.2.1,t.1,t.2.2.1⟩⟩)∧Own w' w.heap.size 3 1 bt X r.Words.n c4 s.Words∧jY w' m1 m2 G s.Heap ∧
     fI w' m2 ⟨t.2.1,t.1,t.2.2.1⟩ t.2.2.2 (s.aa.take t.1)∧yx ⟨X,r.Words.n,c4⟩ t.2.2.2) (fun t=>r.aa.n-t.1) (0,none,0,[]) ⟨rfl,rfl,rfl,rfl,rfl,trivial⟩ ⟨by omega,U6,hw,aq,ao,hX,hY,fI.nil _ _,yx.nil _⟩ ?_
  clear aX aq ao hX hY hw jc;rintro ⟨k,A,c,zr⟩ w' ⟨hk,U6,hw,aq,ao,hX,hY,hO,yq⟩
  simp only at hk ao hO yq ⊢;have hA:=hc.row.base;by_cases gC:k<r.aa.n
  ·have kf:=hc.each.get k (by omega) (by omega);have q:=hs.each _ (aet (show k<s.aa.length by omega));have q1:=kf.names.len;have q2:=kf.aB.len;have q3:=kf.aV.len;have q4:=q.names;have q5:=q.aB;have q6:=q.aV;have HU:=hO.row.lt_size;repeat' (first|refine Wz ?_|refine Wo hw ((hc.row.all gC)) ?_)
   refine SW.alloc rfl fun b5 w1 ah gI aL => ?_
   skip;refine Wg aL (Cz _) fun w2 fa hg => ?_
   have ar:=ah.own gI hg;have jR:=hw.up gI
   obtain ⟨hw,aq,ao,hX,hY,hO⟩:=jh ar hw aq ao hX hY hO;have aL:=fa;clear fa ah hg ar;have U7:m2<=b5:=aev U6 gI
   refine Wz ?_;refine CW.any 10 mixed (db (by kernel_rfl)) rfl fun w1 ah aI => ?_
   obtain ⟨hw,aq,ao,aL,hX,hY,hO⟩:=ue ah hw aq ao aL hX hY hO;clear ah;refine Wa ?_;refine SA.bZ 2 ?_;refine Wk (vJ _ _ _ _ _ (kf.names.ext hw) (by omega)) fun v w4 ar hv => ?_
   obtain ⟨N,n4,rfl,hN⟩:=hv;have J1:=hO.Zr (b:=⟨N,cs[k].Names.n,n4⟩) hN.aW;have hN:=hN.low (aev U7 (afK aL.lt));(obtain ⟨hw,aq,ao,aL,hX,hY,hO⟩:=ue ar hw aq ao aL hX hY hO);refine SW.nil (ae.sa ar ?_);refine Wa ?_;refine SA.bZ 5 ?_;refine Wk (uh _ _ _ _ _ (kf.aB.ext hw) (by omega)) fun v w4 ar hv => ?_
   obtain ⟨M,m4,rfl,hM⟩:=hv;have kD:=hO.Zs (b:=⟨M,cs[k].ab.n,m4⟩) hM.aW;have hM:=hM.low (aev U7 (afK aL.lt));(obtain ⟨hw,aq,ao,aL,hX,hY,hO,hN⟩:=DH ar hw aq ao aL hX hY hO hN);refine SW.nil (ae.sa ar ?_);refine SA.bZ 8 ?_;refine Wk (dC _ _ _ _ _ (kf.aV.ext hw) (by omega)) fun v w4 ar hv => ?_
   obtain ⟨Q,q7,rfl,hQ⟩:=hv;have MT:=hO.Zt (b:=⟨Q,cs[k].ak.n,q7⟩) hQ.aW;have vq:=qt (a:=⟨X,r.Words.n,c4⟩) (b:=⟨Q,cs[k].ak.n,q7⟩) hX hQ.aW;have hQ:=hQ.low (aev U7 (afK aL.lt));(obtain ⟨hw,aq,ao,aL,hX,hY,hO,hN,hM⟩:=Mx ar hw aq ao aL hX hY hO hN hM);refine SW.nil (ae.sa ar ?_);refine SA.fZ ?_;refine Wb (i:=0) aL fun w6 fa hg => ?_
   have hG:=aL.gr hg;have hw:=hw.own jR hg;have hO:=hO.eV aL hg HU gI;(obtain ⟨aq,ao,hX,hY,hN,hM,hQ⟩:=ue hG aq ao hX hY hN hM hQ);have aL:=fa;clear fa hg hG;refine Wz ?_;refine Wb (i:=4) aL fun w6 fa hg => ?_
   have hG:=aL.gr hg;have hw:=hw.own jR hg;have hO:=hO.eV aL hg HU gI;(obtain ⟨aq,ao,hX,hY,hN,hM,hQ⟩:=ue hG aq ao hX hY hN hM hQ);have aL:=fa;clear fa hg hG;refine Wz ?_;refine Wb (i:=5) aL fun w6 fa hg => ?_
   have hG:=aL.gr hg;have hw:=hw.own jR hg;have hO:=hO.eV aL hg HU gI;(obtain ⟨aq,ao,hX,hY,hN,hM,hQ⟩:=ue hG aq ao hX hY hN hM hQ);have aL:=fa;clear fa hg hG;refine Wz ?_;refine SW.dR rfl rfl rfl rfl rfl fun b w6 ar hb hB => ?_
   (obtain ⟨hw,aq,ao,hX,hY,hO,hN,hM,hQ⟩:=Mx ar hw aq ao hX hY hO hN hM hQ);refine SW.append hO.row (aR.wv (enc:=fu) (x:=⟨⟨N,_,n4⟩,cs[k].ay,cs[k].bL,cs[k].Order,⟨M,_,m4⟩,⟨Q,_,q7⟩⟩) hB) (aev U7 (aev (afK aL.lt) ar.size)) rfl rfl rfl (by simp only;omega) (by simp only;omega) fun A2 c2 w5 lO hg => ?_
   have hG:=hO.row.gr hg;have hm6:=aev (aev U7 (aev (afK aL.lt) ar.size)) hg.size;have hw:=aD hw hg (aev HV F3) hO.row.aW;(obtain ⟨aq,ao,hX,hY,hN,hM,hQ⟩:=ue hG aq ao hX hY hN hM hQ);have hE:=hO.each.mono fun _ _ h=>h.aJ hG rfl
   refine Wz ?_;refine Wb (i:=6) ao fun w6 ef hg => ?_
   have hG:=ao.gr hg;have hw:=hw.own gm hg;have aq:=aq.grown hg (by simpa using pN);(obtain ⟨hX,hY,hN,hM,hQ,lO⟩:=jh hG hX hY hN hM hQ lO);have hE:=hE.mono fun _ _ h=>h.aJ hG rfl
   refine Wz ?_;refine ae.again (k+1,A2,c2,zr++[⟨⟨N,_,n4⟩,cs[k].ay,cs[k].bL,cs[k].Order,⟨M,_,m4⟩,⟨Q,_,q7⟩⟩]) ⟨rfl,rfl,rfl,rfl,rfl,trivial⟩ (by simp only;omega) ⟨by simp only;omega,aev hm6 hg.size,hw,aq,ef,hX,hY,⟨lO,?_⟩,yq.snoc (fun u hu=>⟨J1 u hu,kD u hu,MT u hu⟩) vq⟩;rw [aeA (by omega)];exact hE.snoc ⟨kf.size,kf.per,kf.order,hN,hM,hQ⟩
  ·obtain rfl:k=r.aa.n:=by omega
   rw [aeF (by omega)] at hO;refine Wz ?_;refine Wg aq (aU _) fun w5 cK hg => ?_
   have hG:=aq.gr hg;have hw:=hw.own vo hg;(obtain ⟨hX,hY,hO⟩:=cd hG hX hY hO);refine Wz ?_;exact ae.EW rfl rfl cK rfl ⟨_,rfl,hw,⟨_,G,_⟩,zr,rfl,⟨hX,hY.own.low HV,hO.row.low (aev HV F3),hO.each.mono fun _ _ h=>h.low (aev HV F3),yq.pair⟩,⟨m1,m2,HV,F3,U5,hY,hO.each⟩⟩
set_option maxHeartbeats 2000000 in
def vY (r:de) (s:ag) (n:ByteArray) (cpu:Int) (w:World) (hr:zU w r s) (hf:s.cS) (Mi:n.size<=140737488351232) :
 bI prog 95 [.agg (aK r).toArray,.string n,.int .i64 cpu] w (Sc w.heap.size s n cpu):=by
 refine uA func95 rfl ntmps95 rfl ?_;have hs:=hf.small;refine CW.seq (CW.region (SW.box rfl rfl fun b3 w1 hw cg ao => ?_));refine SW.alloc rfl fun b6 w3 nL dv ap => ?_
 have cQ:=hw.up dv
 (obtain ⟨hw,ao⟩:=cT nL hw ao);obtain ⟨q,hq⟩ : ∃ q,gg s=q:=⟨_,rfl⟩
 have c1:∀ w',Ext w w'->bI prog 41 [.agg (aK r).toArray] w' fun v _=>v = .int .i64 (if q then 0 else 8):=fun w' hx=>by
  have:=mI r s w' (hr.ext hx) hf
  rwa [hq] at this
 cases q
 ·simp only [Bool.false_eq_true,if_false] at c1;repeat' (first|refine Wz ?_|(refine Wk (c1 _ hw) ?_;intro v w1 ah hv;subst hv;obtain ⟨hw,ao,ap⟩:=cd ah hw ao ap;clear ah))
  refine SW.bw ap rfl rfl rfl rfl (aU .zero) fun w5 cK hg => ?_
  have hw:=hw.own cQ hg;refine Wz ?_;exact ae.fp rfl rfl rfl rfl cK rfl ⟨_,rfl,hw,.inl ⟨by rw [Nl hq];decide,by rw [Nl hq];rfl⟩⟩
 ·simp only [if_true] at c1;obtain ⟨t,ht⟩ : ∃ t,s.aa.any (dr n)=t:=⟨_,rfl⟩;obtain ⟨ix,oe⟩ : ∃ ix,idxOf (dr n) s.aa=ix:=⟨_,rfl⟩
  have c3:∀ w',Ext w w'->bI prog 43 [.agg (aK r).toArray,.string n] w' fun v _=>v = .tuple #[.int .i64 ix,.bool t]:=fun w' hx=>by
   have:=CJ r s n w' (hr.ext hx) hs
   rwa [ht,oe] at this
  cases t
  ·repeat' (first|refine Wz ?_|(refine CW.gG rfl ?_)|((first|refine Wk (c1 _ hw) ?_|refine Wk (c3 _ hw) ?_);intro v w1 ah hv;subst hv;obtain ⟨hw,ao,ap⟩:=cd ah hw ao ap;clear ah))
   refine SW.bw ap rfl rfl rfl rfl (aU .zero) fun w5 cK hg => ?_
   have hw:=hw.own cQ hg;refine Wz ?_;exact ae.fp rfl rfl rfl rfl cK rfl ⟨_,rfl,hw,.inl ⟨by rw [Nm hq ht];decide,by rw [Nm hq ht];rfl⟩⟩
  ·have qQ:=hr.heap.cpus;by_cases hc : 0<=cpu∧cpu<s.Heap.bJ
   ·repeat' (first|refine Wz ?_|(refine CW.gj rfl ?_)|((first|refine Wk (c1 _ hw) ?_|refine Wk (c3 _ hw) ?_);intro v w1 ah hv;subst hv;obtain ⟨hw,ao,ap⟩:=cd ah hw ao ap;clear ah))
    all_goals try omega
    refine Wk (mM r s _ (hr.ext hw) hs) fun v w6 ar hv => ?_
    obtain ⟨q,zr,rfl,hO,hI⟩:=hv;have hO:=hO.low hw.size;have hI:=hI.low hw.size;(obtain ⟨hw,ap⟩:=cT ar hw ap);refine Wz ?_;refine SW.bw ap rfl rfl rfl rfl (aU q) fun w5 cK hg => ?_
    have hG:=ap.gr hg;have hw:=hw.own cQ hg;(obtain ⟨hO,hI⟩:=cT hG hO hI);refine Wz ?_;exact ae.fp rfl rfl rfl rfl cK rfl ⟨_,rfl,hw,.inr ⟨Au hq ht hc,q,zr,by rw [oe];rfl,hO,hI⟩⟩
   ·rcases (show cpu<0∨(0<=cpu∧s.Heap.bJ<=cpu) by omega) with g|g
    all_goals
     repeat' (first|refine Wz ?_|(refine CW.gj rfl ?_)|((first|refine Wk (c1 _ hw) ?_|refine Wk (c3 _ hw) ?_);intro v w1 ah hv;subst hv;obtain ⟨hw,ao,ap⟩:=cd ah hw ao ap;clear ah))
     all_goals try omega
     refine SW.bw ap rfl rfl rfl rfl (aU .zero) fun w5 cK hg => ?_
     have hw:=hw.own cQ hg;refine Wz ?_;exact ae.fp rfl rfl rfl rfl cK rfl ⟨_,rfl,hw,.inl ⟨by rw [Nn hq ht hc];decide,by rw [Nn hq ht hc];rfl⟩⟩
variable {s:ag} {l':List Slab} {i lo:Nat} {w w':World}
def F4 (x:Slab) (b8:Nat) (ad:Addr) (A:Option Addr) (n c:Nat) (l:List Int) (w:World) (h8:aR w b8 123 [.pointer (some ad)]) (hp:w.cell? (ad.add 5)=some (.slice A n c)) (hl:Sl w 1 bt A n l) (hn:n<=9223372036854775807) :
 bI prog 162 ([.agg (bd x).toArray]++[.pointer (some ⟨b8,0,none⟩)]) w fun v _=>v = .bool (decide (0<x.ai) && !decide (x.At∈l)):=by
 refine Wj func162 ntmps162 ?_;refine Ww fun b2 w1 hw eW aq => ?_;have AQ:=h8.cell (i:=0) (v := .pointer (some ad)) rfl;rw [add_zero] at AQ;obtain ⟨q,hq⟩ : ∃ q,decide (x.At∈l)=q:=⟨_,rfl⟩
 have cC:∀ w',Ext w w'->bI prog 120 [.slice A n c,.int .i64 x.At] w' fun v _=>v = .bool q:=fun w' hx=>by
  have:=iy _ _ c _ x.At _ (hl.ext hx) hn
  rwa [hq] at this
 by_cases hf : 0<x.ai
 ·repeat' (first|refine Wz ?_|((apply CW.bH mixed;(· kernel_rfl);rotate_left;intro w1 ah;obtain ⟨hw,aq⟩:=cT ah hw aq;clear ah;rotate_right))|refine Wn hw AQ ?_|refine Wn hw hp ?_|refine SW.dI rfl rfl (fun w1 ah=>(cC _ (hw.trans ah))) ?_|exact SW.eU rfl)
  all_goals try omega
  exact ae.bh rfl rfl ⟨_,rfl,hw,by rw [hq,decide_eq_true hf];simp⟩
 ·repeat' (first|refine Wz ?_|((apply CW.bH mixed;(· kernel_rfl);rotate_left;intro w1 ah;obtain ⟨hw,aq⟩:=cT ah hw aq;clear ah;rotate_right))|exact SW.eU rfl)
  all_goals try omega
  exact ae.bh rfl rfl ⟨_,rfl,hw,by rw [decide_eq_false hf];simp⟩
def Cg (c:aN) (cpu k:Nat) : aN:=⟨c.Names,c.ay,c.bL,c.Order,c.ab,c.ak.set cpu (iH c k).At⟩
def U8 (G:Nat->Prop) (wb w0:World) (b:Nat) (r:de) (s:ag) (i:Nat) (c:aN) (cpu:Nat) (v:Value) (w':World) : Prop :=
 ∃ m,r9 s c cpu m∧Ext wb w'∧(∀ j x,j≠b->aR w0 j 44 x->aR w' j 44 x)∧(∀ j x,G j->aR w0 j 3 x->aR w' j 3 x) ∧
  ((m.1=none∧m.2≠0∧v = .tuple #[.int .i64 0,.int .i64 m.2]) ∨
   ∃ M,m=(some M,0)∧v = .tuple #[.int .i64 (M.k:Int),.int .i64 0] ∧ ∃ X H cs',aR w' b 44 (aK ⟨X,H,r.aa⟩)∧SX w' wb.heap.size ⟨X,H,r.aa⟩ (bz (nz s M.ws) i (M.h,Cg M.c cpu M.k)) cs'∧SJ G w' wb.heap.size ⟨X,H,r.aa⟩ (bz (nz s M.ws) i (M.h,Cg M.c cpu M.k)) cs')
set_option maxHeartbeats 8000000 in
def Ij (G:Nat->Prop) (wb w0:World) (b:Nat) (r:de) (s:ag) (cs:List dT) (i cpu:Nat) (hf:s.cS) (hi:i<s.aa.length) (hM:rA s s.aa[i]) (fh:m9 w0)
 (hx:Ext wb w0) (hb:aR w0 b 44 (aK r)) (rC:wb.heap.size<=b) (hS:SX w0 wb.heap.size r s cs) (hJ:SJ G w0 wb.heap.size r s cs) (U0:∀ g,G g->g<w0.heap.size) (qA:cpu<s.aa[i].ak.length) (wT:(s.aa[i].ab.length+1)*24<=140737488355328) :
 iO prog 140 [.pointer (some ⟨b,0,none⟩),.int .i64 (i:Int),.int .i64 (cpu:Int)] w0 (U8 G wb w0 b r s i s.aa[i] cpu):=by
 refine dc func140 rfl ntmps140 rfl ?_;have hm:=hM.most;have e0:=mJ hi;have h2:=hf.PJ hi;have q4:=h2.small.aV;have dt:=hx.size;obtain ⟨e1,e2⟩:=hS.len;have ol:i<cs.length:=by omega
 have cx:i<r.aa.n:=by omega
 have G1:=hS.row.sl.base;have hC:=hS.each.get i ol hi;have q1:=hC.aB.len;have q3:=hC.aV.len;have Tt:cpu<cs[i].ak.n:=by omega
 have TK:=hC.aB.sl.base;have U9:=hC.aV.sl.base;have P4:=KR hM qA;have gT:(s.aa[i].ak.getD cpu 0)=s.aa[i].ak[cpu]:=by simp [qA]
 clear hC;have hw:=Ext.refl w0;refine Wz ?_;refine SW.alloc rfl fun b8 w1 ah nV bf => ?_
 have gq:=hw.up nV
 (obtain ⟨hw,hb,hS,hJ⟩:=dJ ah hw hb hS hJ);refine Wb (i:=0) bf fun w2 rD hg => ?_
 have hG:=bf.gr hg;have hw:=hw.own gq hg;(obtain ⟨hb,hS,hJ⟩:=cd hG hb hS hJ);have bf:aR w2 b8 123 [.pointer (some ((r.aa.A.getD default).add (i*6)))]:=rD;clear rD hG hg
 have AQ:∀ w',aR w' b8 123 [.pointer (some ((r.aa.A.getD default).add (i*6)))]->w'.cell? ⟨b8,0,none⟩=some (.pointer (some ((r.aa.A.getD default).add (i*6)))):=fun w' h=>by
  have:=h.cell (i:=0) (v := .pointer (some ((r.aa.A.getD default).add (i*6)))) rfl
  rwa [add_zero] at this
 obtain ⟨o,ho⟩ : ∃ o,Em s.aa[i] cpu=o:=⟨_,rfl⟩;obtain ⟨t,ht⟩ : ∃ t,s.aa[i].ak[cpu]=t:=⟨_,rfl⟩;rw [ho,ht] at P4;have gA:∀ w',SX w' wb.heap.size r s cs->w'.cell? ((((cs[i].ak.A).getD default).add (cpu*1)))=some (Value.int .i64 t):=fun w' h=>(h.each.get i ol hi).aV.sl.one Tt (by rw [show s.aa[i].ak[cpu]=t from ht];rfl)
 have hC:=hS.each.get i ol hi
 have cF:∀ w',Ext w2 w'->bI prog 132 [.agg (fu cs[i]).toArray,.int .i64 t] w' fun v _=>v = .int .i64 o:=fun w' h=>by
  have:=Fu cs[i] s.aa[i].ab t w' (hC.aB.sl.ext h) (by omega)
  unfold Em at ho;rw [gT,ht] at ho;rwa [ho] at this
 have OV:=hw;have hw:=Ext.refl w2;by_cases hA:∃ (k:Nat) (hk:k<s.aa[i].ab.length),o=k∧0<s.aa[i].ab[k].ai
 ·obtain ⟨k,hk,rfl,lH⟩:=hA;have gC:k<cs[i].ab.n:=by omega
  obtain ⟨y,hy⟩ : ∃ y,s.aa[i].ab[k]=y:=⟨_,rfl⟩;rw [hy] at lH;have gF:∀ w',SX w' wb.heap.size r s cs->w'.cell? ((((cs[i].ab.A).getD default).add (k*3)).add 1)=some (Value.int .i64 y.ai):=fun w' h=>(h.each.get i ol hi).aB.sl.jF gC (j:=1) (show (bd (s.aa[i].ab[k]'(by omega)))[1]?=some (Value.int .i64 y.ai) by rw [hy];rfl)
  have JC:qz s.aa[i] cpu=k:=by
   unfold qz;rw [ho,if_pos ⟨by omega,by rw [show ((k:Int)).toNat=k by omega,fB hk,hy];exact lH⟩]
  repeat' (first|refine Wz ?_|((apply CW.bH mixed;(· kernel_rfl);rotate_left;intro w1 ah;obtain ⟨hw,hb,bf,hS,hJ⟩:=fH ah hw hb bf hS hJ;clear ah;rotate_right))|refine Wl (AQ _ bf) ?_|refine Wm ((hS.row.sl.all cx)) ?_|refine Wl (hS.row.sl.jF cx (j:=5) (u := .slice cs[i].ak.A cs[i].ak.n cs[i].ak.c) rfl) ?_|refine Wl (gA _ hS) ?_|refine Wl (hS.row.sl.jF cx (j:=4) (u := .slice cs[i].ab.A cs[i].ab.n cs[i].ab.c) rfl) ?_|refine Wl (gF _ hS) ?_|refine SW.dI rfl rfl (fun w1 ah=>(cF _ (hw.trans ah))) ?_|exact SW.eU rfl)
  all_goals try omega
  have hw:=OV.trans hw;rcases P4 with ⟨_,h⟩|⟨_,k2,yV,h,Ch⟩
  ·omega
  ·obtain rfl:k=k2:=by omega
   rw [hy] at Ch
   have Sz:Cg s.aa[i] cpu k=s.aa[i]:=by
    unfold Cg;rw [fB hk,hy,Ch,<- ht,afb]
   refine ae.dl rfl rfl rfl ⟨_,rfl,_,.u7 JC,hx.trans hw,fun j x hj h=>h.ext hw,fun j x hj h=>h.ext hw,.inr ⟨_,rfl,rfl,r.Words,r.Heap,cs,hb,?_⟩⟩;simp only;rw [Sz];rw [<- e0] at hS hJ;exact ⟨hS,hJ⟩
 ·have yj : ¬ (0<=o∧0<(iH s.aa[i] o.toNat).ai):=fun h=>by
   rcases P4 with ⟨_,h1⟩|⟨_,k2,yV,h1,_⟩
   ·omega
   ·refine hA ⟨k2,yV,h1,?_⟩;have:=h.2
    rwa [show o.toNat=k2 by omega,fB yV] at this
  rcases P4 with ⟨_,NR⟩|⟨_,k2,yV,NR,abO⟩
  focus
   repeat' (first|refine Wz ?_|((apply CW.bH mixed;(· kernel_rfl);rotate_left;intro w1 ah;obtain ⟨hw,hb,bf,hS,hJ⟩:=fH ah hw hb bf hS hJ;clear ah;rotate_right))|refine Wl (AQ _ bf) ?_|refine Wm ((hS.row.sl.all cx)) ?_|refine Wl (hS.row.sl.jF cx (j:=5) (u := .slice cs[i].ak.A cs[i].ak.n cs[i].ak.c) rfl) ?_|refine Wl (gA _ hS) ?_|refine Wl (hS.row.sl.jF cx (j:=4) (u := .slice cs[i].ab.A cs[i].ab.n cs[i].ab.c) rfl) ?_|refine SW.dI rfl rfl (fun w1 ah=>(cF _ (hw.trans ah))) ?_|(refine SW.st (iX (vs:=[.pointer (some ⟨b8,0,none⟩)]) rfl) rfl ?_)|exact SW.eU rfl)
   all_goals try omega
  rotate_left
  focus
   have X8:k2<cs[i].ab.n:=by omega
   obtain ⟨y2,UL⟩ : ∃ y2,s.aa[i].ab[k2]=y2:=⟨_,rfl⟩;have abP : ¬ 0<y2.ai:=fun h=>hA ⟨k2,yV,NR,by rw [UL];exact h⟩
   have gF2:∀ w',SX w' wb.heap.size r s cs->w'.cell? ((((cs[i].ab.A).getD default).add (k2*3)).add 1)=some (Value.int .i64 y2.ai):=fun w' h=>(h.each.get i ol hi).aB.sl.jF X8 (j:=1) (show (bd (s.aa[i].ab[k2]'(by omega)))[1]?=some (Value.int .i64 y2.ai) by rw [UL];rfl)
   subst NR;repeat' (first|refine Wz ?_|((apply CW.bH mixed;(· kernel_rfl);rotate_left;intro w1 ah;obtain ⟨hw,hb,bf,hS,hJ⟩:=fH ah hw hb bf hS hJ;clear ah;rotate_right))|refine Wl (AQ _ bf) ?_|refine Wm ((hS.row.sl.all cx)) ?_|refine Wl (hS.row.sl.jF cx (j:=5) (u := .slice cs[i].ak.A cs[i].ak.n cs[i].ak.c) rfl) ?_|refine Wl (gA _ hS) ?_|refine Wl (hS.row.sl.jF cx (j:=4) (u := .slice cs[i].ab.A cs[i].ab.n cs[i].ab.c) rfl) ?_|refine Wl (gF2 _ hS) ?_|refine SW.dI rfl rfl (fun w1 ah=>(cF _ (hw.trans ah))) ?_|(refine SW.st (iX (vs:=[.pointer (some ⟨b8,0,none⟩)]) rfl) rfl ?_)|exact SW.eU rfl)
   all_goals try omega
  all_goals
   have hw:=OV.trans hw;clear OV cF hC;have hC:=hS.each.get i ol hi;have Va:=hS.row.sl.jF cx (j:=5) (u := .slice cs[i].ak.A cs[i].ak.n cs[i].ak.c) rfl;refine Wk (jW _ _ _ s.aa[i].ab _ hC.aB.sl _ [.pointer (some ⟨b8,0,none⟩)] (CU s.aa[i]) (fun x => .agg (bd x).toArray) (fun x=>rfl) (fun x pe w1 lj=>F4 x b8 _ cs[i].ak.A cs[i].ak.n cs[i].ak.c s.aa[i].ak w1 (bf.ext lj) (lj.cell Va) (hC.aV.sl.ext lj) (by omega)) (by omega)) fun v w9 ar hv => ?_
   subst hv;(obtain ⟨hw,hb,bf,hS,hJ⟩:=fH ar hw hb bf hS hJ);clear hC Va;obtain ⟨z,hz⟩ : ∃ z,idxOf (CU s.aa[i]) s.aa[i].ab=z:=⟨_,rfl⟩;rw [hz]
   have JC:qz s.aa[i] cpu=z:=by
    unfold qz;rw [ho,if_neg yj,hz]
   by_cases MU : 0<=z
   ·obtain ⟨k,rfl⟩:=aeE MU;obtain ⟨hk,lH⟩:=Jw JC;have gC:k<cs[i].ab.n:=by omega
    obtain ⟨y,hy⟩ : ∃ y,s.aa[i].ab[k]=y:=⟨_,rfl⟩;have gY:∀ w',SX w' wb.heap.size r s cs->w'.cell? ((((cs[i].ab.A).getD default).add (k*3)).add 0)=some (Value.int .i64 y.At):=fun w' h=>(h.each.get i ol hi).aB.sl.jF gC (j:=0) (show (bd (s.aa[i].ab[k]'(by omega)))[0]?=some (Value.int .i64 y.At) by rw [hy];rfl)
    refine Wz ?_;all_goals try omega
    refine CW.gB 14 14 (fun _=>True) mixed (by kernel_rfl) fun w1 ah aI => ?_
    obtain ⟨hw,hb,bf,hS,hJ⟩:=fH ah hw hb bf hS hJ;clear ah;refine Wt 0 [] [] aI rfl (aP rfl (AQ _ bf)) ?_;refine Wt 1 [] [] aI rfl (aF rfl) ?_;refine Wt 2 [] [] aI rfl (az rfl) ?_;refine Wt 3 [] [] aI rfl (aP rfl (hS.row.sl.jF cx (j:=5) (u := .slice cs[i].ak.A cs[i].ak.n cs[i].ak.c) rfl)) ?_;refine Wp 4 [] [] aI rfl rfl ?_;refine Wt 5 [] [] aI rfl (aP rfl (AQ _ bf)) ?_;refine Wt 6 [] [] aI rfl (aF rfl) ?_;refine Wt 7 [] [] aI rfl (az rfl) ?_;refine Wt 8 [] [] aI rfl (aP rfl (hS.row.sl.jF cx (j:=4) (u := .slice cs[i].ab.A cs[i].ab.n cs[i].ab.c) rfl)) ?_;refine Wp 9 [] [] aI rfl rfl ?_;refine Wt 10 [] [] aI rfl (cf rfl rfl (by assumption) (by omega)) ?_;refine Wt 11 [] [] aI rfl (az rfl) ?_;refine Wt 12 [] [] aI rfl (aP rfl (gY _ hS)) ?_;refine Wt 13 [] [] aI rfl (cf rfl rfl (by assumption) (by omega)) ?_;refine SF.ff ?_;have hC:=hS.each.get i ol hi;refine SW.qT cpu hC.aV rfl rfl Tt fun oP hO hg => ?_
    have hG:=hC.aV.gr hg;rw [<- e0] at hS hJ;have X9:=hS.act hJ ol hi hO hg;have Ya:=aD (hx.trans hw) hg (aew _) hC.aV.aW;have hb:=hb.aJ hG rfl;refine Wz ?_;refine ae.dl rfl rfl rfl ⟨_,rfl,_,.u7 JC,Ya,fun j x hj h=>(h.ext hw).aJ hG rfl,fun j x hj h=>(h.ext hw).grown hg (hJ.ne hj ol),.inr ⟨_,rfl,rfl,r.Words,r.Heap,cs,hb,?_⟩⟩
    have Sz:Cg s.aa[i] cpu k=⟨s.aa[i].Names,s.aa[i].ay,s.aa[i].bL,s.aa[i].Order,s.aa[i].ab,s.aa[i].ak.set cpu y.At⟩:=by
     unfold Cg;rw [fB hk,hy]
    simp only;rw [Sz];exact X9
   ·have SB:qz s.aa[i] cpu<0:=by omega
    refine Wz ?_;all_goals try omega
    refine SW.dK rfl rfl (NQ G wb _ b r s cs i cpu hf hi hM (fh.ext hw) (hx.trans hw) hb rC hS (fun g hg=>⟨afp (U0 g hg) hw.size,fun u hu=>hJ.sep u hu g hg⟩) wT) fun v oP hv => ?_
    obtain ⟨⟨h',at',e⟩,hu,hv⟩:=hv;simp only at hv;rcases hv with ⟨he,rfl,Es⟩|⟨rfl,Yb,rfl,Es⟩|⟨rfl,kf,rfl,Es,uO,OO,G7,X,H,cs',iL,Ky,Qy⟩
    ·refine Wz ?_;all_goals try omega
     exact ae.dl rfl rfl rfl ⟨_,rfl,_,.room SB hu he,(hx.trans hw).trans Es,fun j x hj h=>(h.ext hw).ext Es,fun j x hj h=>(h.ext hw).ext Es,.inl ⟨rfl,he,rfl⟩⟩
    ·refine Wz ?_;all_goals try omega
     exact ae.dl rfl rfl rfl ⟨_,rfl,_,.chain SB hu rfl Yb,(hx.trans hw).trans Es,fun j x hj h=>(h.ext hw).ext Es,fun j x hj h=>(h.ext hw).ext Es,.inl ⟨rfl,by simp,rfl⟩⟩
    ·have bf:=OO _ _ bf;obtain ⟨e3,e4⟩:=Ky.rows;have Ci:i<cs'.length:=by simp only [nz] at e3;omega
     obtain ⟨k,Wd⟩ : ∃ k,fe s.aa[i] at'=k:=⟨_,rfl⟩
     obtain ⟨c1,Cx⟩ : ∃ c1,ee s.aa[i] at'=c1:=⟨_,rfl⟩
     have Ee:=pA s.aa[i] at'
     have EI:c1.ab.length=s.aa[i].ab.length+1:=by
      rw [<- Cx];exact di _ Ee _
     have D9:k<c1.ab.length:=by omega
     have ZO:c1.ab[k]=⟨at',s.aa[i].bL,16*at'⟩:=by
      subst Cx;subst Wd;exact FT Ee D9
     have Vb:c1.ak=s.aa[i].ak:=by rw [<- Cx];rfl
     have yC:=r9.new SB hu rfl kf;rw [Cx] at Ky Qy;rw [Wd];simp only [Cx,Wd] at yC;have hC:=Ky.get Ci hi;simp only at hC;have q5:=hC.aB.len;have q6:=hC.aV.len;have gC:k<cs'[i].ab.n:=by omega
     have Yc:cpu<cs'[i].ak.n:=by rw [<- q6,Vb];exact qA
     have abR:=hC.aB.sl.base;have abS:=hC.aV.sl.base;have gY:∀ w',SX w' wb.heap.size ⟨X,H,r.aa⟩ (bz (nz s (dH s.Words (16*at') s.aa[i].ay s.aa[i].bL)) i (h',c1)) cs'->w'.cell? ((((cs'[i].ab.A).getD default).add (k*3)).add 0)=some (Value.int .i64 at'):=fun w' h=>(h.get Ci hi).aB.sl.jF gC (j:=0) (show (bd (c1.ab[k]'(by omega)))[0]?=some (Value.int .i64 at') by rw [ZO];rfl)
     clear hC hS hJ hb;have ZP:=hw;have hw:=Ext.refl oP;refine Wz ?_;all_goals try omega
     refine CW.gB 14 14 (fun _=>True) mixed (by kernel_rfl) fun w1 ah aI => ?_
     obtain ⟨hw,iL,bf,Ky,Qy⟩:=fH ah hw iL bf Ky Qy;clear ah;refine Wt 0 [] [] aI rfl (aP rfl (AQ _ bf)) ?_;refine Wt 1 [] [] aI rfl (aF rfl) ?_;refine Wt 2 [] [] aI rfl (az rfl) ?_;refine Wt 3 [] [] aI rfl (aP rfl (Ky.row.sl.jF cx (j:=5) (u := .slice cs'[i].ak.A cs'[i].ak.n cs'[i].ak.c) rfl)) ?_;refine Wp 4 [] [] aI rfl rfl ?_;refine Wt 5 [] [] aI rfl (aP rfl (AQ _ bf)) ?_;refine Wt 6 [] [] aI rfl (aF rfl) ?_;refine Wt 7 [] [] aI rfl (az rfl) ?_;refine Wt 8 [] [] aI rfl (aP rfl (Ky.row.sl.jF cx (j:=4) (u := .slice cs'[i].ab.A cs'[i].ab.n cs'[i].ab.c) rfl)) ?_;refine Wp 9 [] [] aI rfl rfl ?_;refine Wt 10 [] [] aI rfl (cf rfl rfl (by assumption) (by omega)) ?_;refine Wt 11 [] [] aI rfl (az rfl) ?_;refine Wt 12 [] [] aI rfl (aP rfl (gY _ Ky)) ?_;refine Wt 13 [] [] aI rfl (cf rfl rfl (by assumption) (by omega)) ?_;refine SF.ff ?_;have hC:=Ky.get Ci hi;simp only at hC;refine SW.qT cpu hC.aV rfl rfl Yc fun qH hO hg => ?_
     have hG:=hC.aV.gr hg;have X9:=Ky.act Qy Ci hi hO hg;have Ya:=aD (Es.trans hw) hg (aew _) hC.aV.aW;have iL:=iL.aJ hG rfl;refine Wz ?_;refine ae.dl rfl rfl rfl ⟨_,rfl,_,yC,Ya,fun j x hj h=>((uO j x hj (h.ext ZP)).ext hw).aJ hG rfl,fun j x hj h=>((G7 j x (h.ext ZP)).ext hw).grown hg (Qy.ne hj Ci),.inr ⟨_,rfl,rfl,X,H,cs',iL,?_⟩⟩
     have Sz:Cg c1 cpu k=⟨c1.Names,c1.ay,c1.bL,c1.Order,c1.ab,c1.ak.set cpu at'⟩:=by
      unfold Cg;rw [fB D9,ZO]
     simp only;rw [Sz];exact X9
def SC (G:Nat->Prop) (wb w0:World) (b:Nat) (r:de) (s:ag) (i:Nat) (c:aN) (cpu:Nat) (v:Value) (w':World) : Prop :=
 ∃ m,r9 s c cpu m∧Ext wb w'∧(∀ j x,j≠b->aR w0 j 44 x->aR w' j 44 x)∧(∀ j x,G j->aR w0 j 3 x->aR w' j 3 x) ∧
  ((m.1=none∧m.2≠0∧v = .tuple #[.int .i64 0,.int .i64 m.2]) ∨
   ∃ M,m=(some M,0)∧v = .tuple #[.int .i64 (iH M.c M.k).cj,.int .i64 0] ∧ ∃ X H cs',aR w' b 44 (aK ⟨X,H,r.aa⟩)∧SX w' wb.heap.size ⟨X,H,r.aa⟩ (bz (nz s M.ws) i (M.h,dL M.c cpu M.k (M.ws.getD (iH M.c M.k).cj.toNat 0))) cs'∧SJ G w' wb.heap.size ⟨X,H,r.aa⟩ (bz (nz s M.ws) i (M.h,dL M.c cpu M.k (M.ws.getD (iH M.c M.k).cj.toNat 0))) cs')
def ru.P5 {r:de} {cs:List dT} {p:Heap×aN} (h:SX w lo r (bz s i p) cs) (hi:i<cs.length) (mo:i<s.aa.length) (hO:Own w' lo 107 3 bd cs[i].ab.A cs[i].ab.n cs[i].ab.c l') (hg:w.grownBy w' (aG cs[i].ab.A cs[i].ab.c)) :
 SX w' lo r (bz s i (p.1,⟨p.2.Names,p.2.ay,p.2.bL,p.2.Order,l',p.2.ak⟩)) cs:=by
 have:=h.Ej hi mo hO hg
 have e:cs.set i ⟨cs[i].Names,cs[i].ay,cs[i].bL,cs[i].Order,⟨cs[i].ab.A,cs[i].ab.n,cs[i].ab.c⟩,cs[i].ak⟩=cs:=afb hi
 rwa [e] at this
set_option maxHeartbeats 4000000 in
def JD (G:Nat->Prop) (wb w0:World) (b:Nat) (r:de) (s:ag) (cs:List dT) (i cpu:Nat) (hf:s.cS) (hi:i<s.aa.length) (hM:rA s s.aa[i]) (fh:m9 w0)
 (hx:Ext wb w0) (hb:aR w0 b 44 (aK r)) (rC:wb.heap.size<=b) (hS:SX w0 wb.heap.size r s cs) (hJ:SJ G w0 wb.heap.size r s cs) (U0:∀ g,G g->g<w0.heap.size) (qA:cpu<s.aa[i].ak.length) (wT:(s.aa[i].ab.length+1)*24<=140737488355328) :
 iO prog 96 [.pointer (some ⟨b,0,none⟩),.int .i64 (i:Int),.int .i64 (cpu:Int)] w0 (SC G wb w0 b r s i s.aa[i] cpu):=by
 refine dc func96 rfl ntmps96 rfl ?_;have hm:=hM.most;have G1:=hS.row.sl.base;obtain ⟨e1,e2⟩:=hS.len;have cx:i<r.aa.n:=by omega
 refine Wz ?_;refine SW.dK rfl rfl (Ij G wb _ b r s cs i cpu hf hi hM fh hx hb rC hS hJ U0 qA wT) fun v w1 hv => ?_
 obtain ⟨m,yC,lj,uO,G7,hv⟩:=hv;rcases hv with ⟨hn,he,rfl⟩|⟨M,rfl,rfl,X,H,cs',aX,SD,hJ1⟩
 ·have hw:=Ext.refl w1;refine Wz ?_;all_goals try omega
  exact ae.dl rfl rfl rfl ⟨_,rfl,m,yC,lj,uO,G7,.inl ⟨hn,he,rfl⟩⟩
 ·have mm:=yC.RM hM M rfl;obtain ⟨e3,e4⟩:=SD.rows;simp only [nz] at e3;have Ci:i<cs'.length:=by omega
  obtain ⟨k,hk⟩ : ∃ k,M.k=k:=⟨_,rfl⟩;have iR:=mm.hk;have ZQ:=mm.first
  have Un:=mm.free;have TC:=mm.len;obtain ⟨y,hy⟩ : ∃ y,M.c.ab[M.k]=y:=⟨_,rfl⟩;have Yd:iH M.c M.k=y:=by rw [fB iR,hy]
  rw [hy] at ZQ Un;obtain ⟨an,NS⟩:=aeE ZQ.1;have hC:=SD.get Ci hi;simp only [Cg] at hC;have q1:M.c.ab.length=cs'[i].ab.n:=hC.aB.len
  have q2:=SD.words.len;have ZR:X.n=M.ws.length:=q2.symm
  have pY:M.k<cs'[i].ab.n:=by omega
  have TK:=hC.aB.sl.base;have ZS:=SD.words.sl.base;have g2:=hC.aB.sl.jF pY (j:=2) (show (bd (M.c.ab[M.k]'(by omega)))[2]?=some (Value.int .i64 (an:Int)) by rw [hy,<- NS];rfl);have NT:an<M.ws.length:=by omega
  have Ye:an<X.n:=by omega
  have gW:=SD.words.sl.one Ye (u := .int .i64 M.ws[an]) rfl;have hw:=Ext.refl w1;repeat' (first|refine Wz ?_|refine Wl (SD.row.sl.jF cx (j:=4) (u := .slice cs'[i].ab.A cs'[i].ab.n cs'[i].ab.c) rfl) ?_|refine Wl g2 ?_|refine Wl gW ?_)
  all_goals try omega
  refine SW.gH M.k 2 ⟨y.At,y.ai,M.ws[an]⟩ hC.aB rfl rfl rfl pY (by decide) rfl (by simp only [hy];rfl) fun w8 TL Ss => ?_
  have g8:=TL.sl.jF pY (j:=1) (show (bd ((M.c.ab.set M.k ⟨y.At,y.ai,M.ws[an]⟩)[M.k]'(by rw [ae0];exact iR)))[1]?=some (Value.int .i64 y.ai) by rw [agd];rfl);repeat' (first|refine Wz ?_|refine Wl g8 ?_)
  refine SW.gH M.k 1 ⟨y.At,y.ai-1,M.ws[an]⟩ TL rfl rfl rfl pY (by decide) rfl (by simp only [List.getElem_set_self];rfl) fun w9 Q5 Q6 => ?_
  have xG:=bC Ss Q6 (.inl rfl);rw [afY] at Q5;have OW:=hC.aB.gr xG;have oY:=SD.P5 Ci hi Q5 xG;have hx9:=aD lj xG (aew _) hC.aB.aW;have aX:=aX.aJ OW rfl;refine Wz ?_;refine ae.dl rfl rfl rfl ⟨_,rfl,_,yC,hx9,fun j x hj h=>(uO j x hj h).aJ OW rfl,fun j x hj h=>(G7 j x hj h).aJ OW rfl,.inr ⟨M,rfl,by rw [Yd,NS],X,H,cs',aX,?_⟩⟩
  have Sz:dL M.c cpu M.k (M.ws.getD (iH M.c M.k).cj.toNat 0)=⟨M.c.Names,M.c.ay,M.c.bL,M.c.Order,M.c.ab.set M.k ⟨y.At,y.ai-1,M.ws[an]⟩,M.c.ak.set cpu y.At⟩:=by
   unfold dL;rw [Yd,NS];simp [NT]
  rw [Sz];simp only [Cg,Yd] at oY;exact ⟨oY,(hJ1.aJ OW rfl).rows rfl fun u hu=>⟨u,hu,rfl⟩⟩
set_option maxHeartbeats 4000000 in
def pV (r:de) (s:ag) (n:ByteArray) (cpu:Int) (w:World) (hr:zU w r s) (hf:s.cS) (Mi:n.size<=140737488351232) (fh:m9 w) :
 bI prog 51 [.agg (aK r).toArray,.string n,.int .i64 cpu] w fun v w' => ∃ u,pR s n cpu u ∧ ∃ q,v = .tuple #[.agg (aK q).toArray,.int .i64 u.2.1,.int .i64 u.2.2]∧jj w' w.heap.size q u.1:=by
 refine Wj func51 ntmps51 ?_;refine Ww fun b3 w1 hw cg ao => ?_;refine SW.alloc rfl fun b6 w3 nL dv ap => ?_
 have cQ:=hw.up dv
 have bG:b6≠b3:=by have:=ao.lt;omega
 have hz:∀ w',jj w' w.heap.size de.zero ag.zero:=fun w'=>⟨Own.fC _ _ _ _ _ _,jP.zero w' _,⟨[],fI.nil _ _⟩⟩
 (obtain ⟨hw,ao⟩:=cT nL hw ao);refine Wz ?_;refine Wk (vY r s n cpu _ (hr.ext hw) hf Mi) fun v w4 ar hv => ?_
 have nq:=hw.size;(obtain ⟨hw,ao,ap⟩:=cd ar hw ao ap);rcases hv with ⟨he,rfl⟩|⟨he,q,cs,rfl,hO,hI⟩
 ·have hP:=pR.ask he;obtain ⟨e,hE⟩ : ∃ e,gV s n cpu=e:=⟨_,rfl⟩;rw [hE] at he hP;rw [hE];refine Wz ?_;refine Wg ao (aU .zero) fun w5 ef hg => ?_
  have ap:=ap.grown hg (by simpa using bG);have hw:=hw.own cg hg;refine Wz ?_;all_goals try omega
  refine Wg ap (aU .zero) fun w6 cK hg => ?_
  have hw:=hw.own cQ hg;refine Wz ?_;exact ae.fp rfl rfl rfl rfl cK rfl ⟨_,rfl,hw,_,hP,.zero,rfl,hz _⟩
 ·have hO:=hO.low nq;have hI:=hI.low nq;obtain ⟨hq,ht,V5,Cx⟩:=lc he;obtain ⟨i,hi,_,_,oe⟩:=iF ht;have hM:=iE.1 hq;have hm:=hM.most;obtain ⟨c,rfl⟩:=aeE V5;have KT:=(hM.each i hi).may.aV;have qA:c<s.aa[i].ak.length:=by omega
  have hB:=rA.of hM hi;have wT:=tD hB;rw [oe];refine Wz ?_;refine Wg ao (aU q) fun w5 ef hg => ?_
  have hG:=ao.gr hg;have ap:=ap.grown hg (by simpa using bG);have hw:=hw.own cg hg;(obtain ⟨hO,hI⟩:=cT hG hO hI);have ao:=ef;clear ef hG hg;refine Wz ?_;refine SW.dK rfl rfl (JD (fun _=>False) w _ b3 q s cs i c hf hi hB (fh.ext hw) hw ao cg hO hI.sj (fun _ h=>h.elim) qA (by omega)) fun v w6 hv => ?_
  obtain ⟨m,yC,hx6,uO,_,hv⟩:=hv;have hP:=pR.EO he oe hi (by simpa using yC);have ap:=uO _ _ bG ap;clear hw;have hw:=hx6;rcases hv with ⟨hn,iv,rfl⟩|⟨M,rfl,rfl,X,H,cs',hb,hS,_⟩
  ·obtain ⟨m1,e⟩:=m;simp only at hn iv hP;subst hn;simp only [mv] at hP;refine Wz ?_;all_goals try omega
   refine Wg ap (aU .zero) fun w7 cK hg => ?_
   have hw:=hw.own cQ hg;refine Wz ?_;exact ae.fp rfl rfl rfl rfl cK rfl ⟨_,rfl,hw,_,hP,.zero,rfl,hz _⟩
  ·simp only [mv] at hP;refine Wz ?_;refine Wg ap (aU ⟨X,H,q.aa⟩) fun w7 cK hg => ?_
   have hG:=ap.gr hg;have hw:=hw.own cQ hg;have hS:=hS.aJ hG rfl;refine Wz ?_;exact ae.fp rfl rfl rfl rfl cK rfl ⟨_,rfl,hw,_,hP,_,rfl,by simpa using hS.xd⟩
section
variable {wb w w':World} {k:HK} {p:HP} {s:aj×aj} {L:List aS} {t:TypeId} {b:Nat}
end
section
variable {P:Program} {L:Env} {w:World} {d:Option Nat} {T:TypeId} {pos:String} {af:Array Edge} {g:Option (Nat×Bool)}
end
variable {n:ByteArray} {cpu:Int}
def pR.small {u:ag×Int×Int} (x:pR s n cpu u) (hf:s.cS) : u.1.small:=by
 cases x with
 | ask=>exact ag.kh
 | EO h e hi hm =>
   have:=tD (.of (iE.1 (lc h).1) hi)
   exact xR hi hm hf (by omega)
variable {j:Nat}
def Cj (n:Int) : Int:=if n<=16 then 0 else if n<=32 then 1 else if n<=64 then 2 else if n<=128 then 3 else 4
inductive fv (s:ag) (cpu n:Int) : ag×Int×Int->Prop where
 | bad (h:gg s=false) : fv s cpu n (.zero,0,8)
 | range (h:gg s=true) (hn:n<1) : fv s cpu n (.zero,0,1)
 | size (h:gg s=true) (hn : 256<n) : fv s cpu n (.zero,0,9)
 | obj {u:ag×Int×Int} (h:gg s=true) (hn : 1<=n∧n<=32) (ho:pR s (jx n) cpu u) : fv s cpu n u
 | fault {u:Heap×Int×Int} (h:gg s=true) (hn : 32<n∧n<=256) (ha:cU s.Heap cpu (Cj n) 0 u) (he:u.2.2≠0) : fv s cpu n (.zero,0,u.2.2)
 | bD {u:Heap×Int×Int} (h:gg s=true) (hn : 32<n∧n<=256) (ha:cU s.Heap cpu (Cj n) 0 u) (he:u.2.2=0) : fv s cpu n (oN s u.1,16*u.2.1,0)
def fv.dm {n:Int} {u v:ag×Int×Int} (x:fv s cpu n u) (y:fv s cpu n v) : u=v:=by
 cases x with
 | bad h=>cases y with
   | bad=>rfl
   | range h'|size h'|obj h'|fault h'|bD h'=>rw [h] at h';cases h'
 | range h hn=>cases y with
   | bad h'=>rw [h] at h';cases h'
   | range=>rfl
   | size _ kA|obj _ kA|fault _ kA|bD _ kA=>omega
 | size h hn=>cases y with
   | bad h'=>rw [h] at h';cases h'
   | size=>rfl
   | range _ kA|obj _ kA|fault _ kA|bD _ kA=>omega
 | obj h hn ho=>cases y with
   | bad h'=>rw [h] at h';cases h'
   | obj _ _ ou=>exact ho.dm ou
   | range _ kA|size _ kA|fault _ kA|bD _ kA=>omega
 | fault h hn ha he=>cases y with
   | bad h'=>rw [h] at h';cases h'
   | fault _ _ mR=>rw [ha.dm mR]
   | bD _ _ mR iv=>rw [ha.dm mR] at he;exact absurd iv he
   | range _ kA|size _ kA|obj _ kA=>omega
 | bD h hn ha he=>cases y with
   | bad h'=>rw [h] at h';cases h'
   | bD _ _ mR=>rw [ha.dm mR]
   | fault _ _ mR iv=>rw [ha.dm mR] at he;exact absurd he iv
   | range _ kA|size _ kA|obj _ kA=>omega
def NU {n:Int} (hj:j<6) (h1:∀ m,m<j->kP m<n) (h2:n<=kP j) : jx n=eJ (kP j)∧n<=32:=by
 have a0:=h1 0;have a1:=h1 1;have a2:=h1 2;have a3:=h1 3;have a4:=h1 4;unfold kP at *;rcases (show j=0∨j=1∨j=2∨j=3∨j=4∨j=5 by omega) with rfl|rfl|rfl|rfl|rfl|rfl
 all_goals
  simp only [Nat.reduceLT,forall_const,Int.reducePow,false_implies] at a0 a1 a2 a3 a4 h2;refine ⟨?_,by omega⟩;unfold jx;repeat' split
  all_goals first|(exfalso;omega)|rfl
def Li {n:Int} (h1:∀ m,m<6->kP m<n) : jx n=⟨#[]⟩∧32<n:=by
 have a5:=h1 5 (by omega);unfold kP at a5;simp only [Int.reducePow] at a5;refine ⟨?_,a5⟩;unfold jx;repeat' split
 all_goals first|(exfalso;omega)|rfl
def SE {n:Int} (hj:j<5) (h1:∀ m:Nat,m<j->16*pw (m:Int)<n) (h2:n<=16*pw (j:Int)) : Cj n=(j:Int)∧n<=256:=by
 have a0:=h1 0;have a1:=h1 1;have a2:=h1 2;have a3:=h1 3;have p0:pw ((0:Nat) : Int)=1:=by decide
 have p1:pw ((1:Nat) : Int)=2:=by decide
 have p2:pw ((2:Nat) : Int)=4:=by decide
 have p3:pw ((3:Nat) : Int)=8:=by decide
 have p4:pw ((4:Nat) : Int)=16:=by decide
 rw [p0] at a0;rw [p1] at a1;rw [p2] at a2;rw [p3] at a3;rcases (show j=0∨j=1∨j=2∨j=3∨j=4 by omega) with rfl|rfl|rfl|rfl|rfl
 all_goals
  first|rw [p0] at h2|rw [p1] at h2|rw [p2] at h2|rw [p3] at h2|rw [p4] at h2
  refine ⟨?_,by omega⟩;unfold Cj;repeat' split
  all_goals first|(exfalso;omega)|rfl
def P6 {n:Int} (h1:∀ m:Nat,m<5->16*pw (m:Int)<n) : 256<n:=by
 have:=h1 4 (by omega)
 rw [show pw ((4:Nat) : Int)=16 by decide] at this;omega
def F5 (n:Int) : (jx n).size<=140737488351232:=by
 unfold jx;split
 ·decide
 split
 ·decide
 split
 ·decide
 split
 ·decide
 split
 ·decide
 split
 ·decide
 ·decide
structure cr where
 Kind:Int
 gl:Int
 N:Int
 M:Int
 At:Int
 Flags:Int
 Name:ByteArray
variable {α β:Type} {u:ag×Int} {ys:List β}
def dV (c:aN) (k:Nat) : aN:=⟨c.Names.eraseIdx k,c.ay,c.bL,c.Order,c.ab,c.ak⟩
def C5 (c:aN) : Bool:=c.ab.any fun x=>decide (x.ai<c.bL)
inductive sb (s:ag) (n:ByteArray) : ag×Int->Prop where
 | ask (h:gV s n 0≠0) : sb s n (.zero,gV s n 0)
 | name {i:Nat} (h:gV s n 0=0) (e:idxOf (dr n) s.aa=i) (hi:i<s.aa.length) (hl : 1<s.aa[i].Names.length) : sb s n (bz s i (s.Heap,dV s.aa[i] (kg s.aa[i].Names n)),0)
 | busy {i:Nat} (h:gV s n 0=0) (e:idxOf (dr n) s.aa=i) (hi:i<s.aa.length) (hl : ¬ 1<s.aa[i].Names.length) (hb:C5 s.aa[i]=true) : sb s n (.zero,7)
 | cache {i:Nat} (h:gV s n 0=0) (e:idxOf (dr n) s.aa=i) (hi:i<s.aa.length) (hl : ¬ 1<s.aa[i].Names.length) (hb:C5 s.aa[i]=false) : sb s n (⟨s.Words,(dU s.aa[i].ab.length (s.Heap,jL s.aa[i])).1,s.aa.eraseIdx i⟩,0)
def sb.dm {v:ag×Int} (x:sb s n u) (y:sb s n v) : u=v:=by
 cases x with
 | ask h=>cases y with
   | ask=>rfl
   | name h'|busy h'|cache h'=>exact absurd h' h
 | @name i h e hi hl=>cases y with
   | ask h'=>exact absurd h h'
   | @name j h' e' hj BE =>
     obtain rfl:i=j:=by omega
     rfl
   | @busy j h' e' hj BE =>
     obtain rfl:i=j:=by omega
     exact absurd hl BE
   | @cache j h' e' hj BE =>
     obtain rfl:i=j:=by omega
     exact absurd hl BE
 | @busy i h e hi hl hb=>cases y with
   | ask h'=>exact absurd h h'
   | @name j h' e' hj BE =>
     obtain rfl:i=j:=by omega
     exact absurd BE hl
   | busy=>rfl
   | @cache j h' e' hj BE iL =>
     obtain rfl:i=j:=by omega
     rw [hb] at iL;cases iL
 | @cache i h e hi hl hb=>cases y with
   | ask h'=>exact absurd h h'
   | @name j h' e' hj BE =>
     obtain rfl:i=j:=by omega
     exact absurd BE hl
   | @busy j h' e' hj BE iL =>
     obtain rfl:i=j:=by omega
     rw [hb] at iL;cases iL
   | @cache j h' e' hj BE iL =>
     obtain rfl:i=j:=by omega
     rfl
def sb.small (x:sb s n u) (hf:s.cS) : u.1.small:=by
 cases x with
 | ask|busy=>exact ag.kh
 | @name i h e hi hl =>
   have hc:=hf.PJ hi;have h1:=hc.small.names;have h2:=afr s.aa[i].Names (kg s.aa[i].Names n);exact sU hf.small _ hf.mm ⟨⟨by simp only [dV];omega,hc.small.aB,hc.small.aV⟩,hc.at_⟩
 | @cache i h e hi hl hb =>
   have h1:=(oH s.aa[i].ab.length (p:=(s.Heap,jL s.aa[i])) hf.mm (hf.PJ hi).idle).1;have h2:=hf.small.bo;have h3:=afr s.aa i;exact ⟨hf.small.words,h1.small,by simp only;omega,fun c hc=>hf.small.each c (ae4 hc)⟩
def F6 {l:List ByteArray} (hs:Ef l) (hm:n∈l) : ∃ hk:kg l n<l.length,l[kg l n]=n ∧ ∀ (j:Nat) (hj:j<l.length),l[j]=n->j=kg l n:=by
 have key:∀ (j:Nat) (hj:j<l.length),l[j]=n->kg l n=j:=fun j hj e=>CI (by omega) (fun i hi o6=>by rw [<- e];exact hs i j hi hj o6) (fun h=>by rw [e];exact DW n)
 obtain ⟨i,hi,e⟩:=aeu hm;have h:=key i hi e;refine ⟨by omega,?_,fun j hj e=>(key j hj e).symm⟩;simp only [h];exact e
def fK.SH {R : α -> β -> Prop} {xs:List α} (h:fK R xs ys) (i:Nat) : fK R (xs.eraseIdx i) (ys.eraseIdx i):=by
 refine ⟨by rw [afz,afz,h.len],fun j h1 h2 => ?_⟩;have hl:=h.len;rw [afz] at h1 h2;rw [afw,afw];split
 ·exact h.get j _ _
 ·exact h.get (j+1) _ _
def xV {p:Heap×aN}:(bz s i p).aa.eraseIdx i=s.aa.eraseIdx i:=by
 simp only [bz];exact List.eraseIdx_set_eq
set_option maxHeartbeats 4000000 in
def AR (A:Option Addr) (n c lo:Nat) (l:List Slab) (w:World) (hO:Own w lo 107 3 bd A n c l) (i:Nat) (hi:i<n) (hn:n<=1000000000000000000) (dt:lo<=w.heap.size) :
 iO prog 141 [.slice A n c,.int .i64 (i:Int),.int .i64 ((i+1:Nat) : Int)] w fun v w'=>v = .slice A (n-1) c∧Own w' lo 107 3 bd A (n-1) c (l.eraseIdx i)∧w.grownBy w' (aG A c):=by
 refine dc func141 rfl ntmps141 rfl ?_;have hle:=hO.le;have mx:=hO.len;have hA:=hO.sl.base;have E1:w.grownBy w (aG A c):=World.grownBy.refl _ _
 repeat' (first|refine Wz ?_|(refine SW.st (oc (i:=i) (j:=i+1) (k:=n) rfl rfl rfl rfl (by omega) (by omega) (by omega)) rfl ?_))
 all_goals try omega
 have hw:=Ext.refl w;have e0:i+(n-(i+1))=n-1:=by omega
 have el:l.take i++l.drop (i+1)=l.eraseIdx i:=by rw [aeR]
 refine CW.any 6 mixed (db (by kernel_rfl)) rfl fun w1 ah aI => ?_
 obtain ⟨hw,hO⟩:=cT ah hw hO;clear ah;refine Wa ?_;refine Wu 2 aI rfl (cW (k:=i) rfl rfl (by omega)) ?_;refine Wa ?_;refine Wu 5 aI rfl (aZ (k:=i+1) rfl rfl (by omega) (by omega)) ?_;refine SA.fZ ?_;refine SW.qd (hO.pre (i:=i) (by omega)) (hO.sl.drop (i+1) c (by omega) (by omega)) (by omega) rfl rfl rfl fun w2 bg hg => ?_
 rw [e0,el] at bg;rw [e0];have DL:=(hw.gr (aG A c));repeat' (first|refine Wz ?_|(refine SW.st (iN (i:=n-1) (j:=n) rfl rfl rfl (by omega) (by omega)) rfl ?_))
 obtain ⟨g,rest,rfl,h1,h2,h3,h4,h5,h6⟩:=bg.opened (by omega);have nK:((l.eraseIdx i).flatMap bd).length=(n-1)*3:=by rw [aQ,bg.len]
 refine SW.clear ((n-1)*3) h2 rfl (by rw [aeD,nK];omega) (fun h0 => ?_) (by decide) fun w3 cs kK hB oZ => ?_
 ·rw [if_neg (by omega)];simp [cJ]
 ·have e7:=eH ((l.eraseIdx i).flatMap bd) (rest.take ((n-(n-1))*3)) (rest.drop ((n-(n-1))*3)) cs (by rw [kK];simp;omega) (o:=(n-1)*3) nK.symm;rw [aey (List.flatMap _ _),aex] at e7;rw [e7,aey] at hB;have BM:=Own.closed (l:=l.eraseIdx i) bg.len hB (by rw [aeD,kK];simp;omega) h4 (by omega) h5 h1;rw [<- h6] at oZ;have xG:=bC (bC DL hg (.inl rfl)) oZ (.inl rfl);refine Wz ?_;exact ae.bh rfl rfl ⟨_,rfl,rfl,BM,xG⟩
set_option maxHeartbeats 4000000 in
def tX (A:Option Addr) (n c lo:Nat) (l:List ByteArray) (w:World) (hO:Own w lo 9 1 encStr A n c l) (i:Nat) (hi:i<n) (hn:n<=1000000000000000000) (dt:lo<=w.heap.size) :
 iO prog 115 [.slice A n c,.int .i64 (i:Int),.int .i64 ((i+1:Nat) : Int)] w fun v w'=>v = .slice A (n-1) c∧Own w' lo 9 1 encStr A (n-1) c (l.eraseIdx i)∧w.grownBy w' (aG A c):=by
 refine dc func115 rfl ntmps115 rfl ?_;have hle:=hO.le;have mx:=hO.len;have hA:=hO.sl.base;have E1:w.grownBy w (aG A c):=World.grownBy.refl _ _
 repeat' (first|refine Wz ?_|(refine SW.st (oc (i:=i) (j:=i+1) (k:=n) rfl rfl rfl rfl (by omega) (by omega) (by omega)) rfl ?_))
 all_goals try omega
 have hw:=Ext.refl w;have e0:i+(n-(i+1))=n-1:=by omega
 have el:l.take i++l.drop (i+1)=l.eraseIdx i:=by rw [aeR]
 refine CW.any 6 mixed (db (by kernel_rfl)) rfl fun w1 ah aI => ?_
 obtain ⟨hw,hO⟩:=cT ah hw hO;clear ah;refine Wa ?_;refine Wu 2 aI rfl (cW (k:=i) rfl rfl (by omega)) ?_;refine Wa ?_;refine Wu 5 aI rfl (aZ (k:=i+1) rfl rfl (by omega) (by omega)) ?_;refine SA.fZ ?_;refine SW.qd (hO.pre (i:=i) (by omega)) (hO.sl.drop (i+1) c (by omega) (by omega)) (by omega) rfl rfl rfl fun w2 bg hg => ?_
 rw [e0,el] at bg;rw [e0];have DL:=(hw.gr (aG A c));repeat' (first|refine Wz ?_|(refine SW.st (iN (i:=n-1) (j:=n) rfl rfl rfl (by omega) (by omega)) rfl ?_))
 obtain ⟨g,rest,rfl,h1,h2,h3,h4,h5,h6⟩:=bg.opened (by omega);have nK:((l.eraseIdx i).flatMap encStr).length=(n-1)*1:=by rw [aQ,bg.len]
 refine SW.clear ((n-1)*1) h2 rfl (by rw [aeD,nK];omega) (fun h0 => ?_) (by decide) fun w3 cs kK hB oZ => ?_
 ·rw [if_neg (by omega)];simp [cJ]
 ·have e7:=eH ((l.eraseIdx i).flatMap encStr) (rest.take ((n-(n-1))*1)) (rest.drop ((n-(n-1))*1)) cs (by rw [kK];simp;omega) (o:=(n-1)*1) nK.symm;rw [aey (List.flatMap _ _),aex] at e7;rw [e7,aey] at hB;have BM:=Own.closed (l:=l.eraseIdx i) bg.len hB (by rw [aeD,kK];simp;omega) h4 (by omega) h5 h1;rw [<- h6] at oZ;have xG:=bC (bC DL hg (.inl rfl)) oZ (.inl rfl);refine Wz ?_;exact ae.bh rfl rfl ⟨_,rfl,rfl,BM,xG⟩
set_option maxHeartbeats 4000000 in
def AS (A:Option Addr) (n c lo:Nat) (l:List dT) (w:World) (hO:Own w lo 103 6 fu A n c l) (i:Nat) (hi:i<n) (hn:n<=1000000000000000000) (dt:lo<=w.heap.size) :
 iO prog 117 [.slice A n c,.int .i64 (i:Int),.int .i64 ((i+1:Nat) : Int)] w fun v w'=>v = .slice A (n-1) c∧Own w' lo 103 6 fu A (n-1) c (l.eraseIdx i)∧w.grownBy w' (aG A c):=by
 refine dc func117 rfl ntmps117 rfl ?_;have hle:=hO.le;have mx:=hO.len;have hA:=hO.sl.base;have E1:w.grownBy w (aG A c):=World.grownBy.refl _ _
 repeat' (first|refine Wz ?_|(refine SW.st (oc (i:=i) (j:=i+1) (k:=n) rfl rfl rfl rfl (by omega) (by omega) (by omega)) rfl ?_))
 all_goals try omega
 have hw:=Ext.refl w;have e0:i+(n-(i+1))=n-1:=by omega
 have el:l.take i++l.drop (i+1)=l.eraseIdx i:=by rw [aeR]
 refine CW.any 6 mixed (db (by kernel_rfl)) rfl fun w1 ah aI => ?_
 obtain ⟨hw,hO⟩:=cT ah hw hO;clear ah;refine Wa ?_;refine Wu 2 aI rfl (cW (k:=i) rfl rfl (by omega)) ?_;refine Wa ?_;refine Wu 5 aI rfl (aZ (k:=i+1) rfl rfl (by omega) (by omega)) ?_;refine SA.fZ ?_;refine SW.qd (hO.pre (i:=i) (by omega)) (hO.sl.drop (i+1) c (by omega) (by omega)) (by omega) rfl rfl rfl fun w2 bg hg => ?_
 rw [e0,el] at bg;rw [e0];have DL:=(hw.gr (aG A c));repeat' (first|refine Wz ?_|(refine SW.st (iN (i:=n-1) (j:=n) rfl rfl rfl (by omega) (by omega)) rfl ?_))
 obtain ⟨g,rest,rfl,h1,h2,h3,h4,h5,h6⟩:=bg.opened (by omega);have nK:((l.eraseIdx i).flatMap fu).length=(n-1)*6:=by rw [aQ,bg.len]
 refine SW.clear ((n-1)*6) h2 rfl (by rw [aeD,nK];omega) (fun h0 => ?_) (by decide) fun w3 cs kK hB oZ => ?_
 ·rw [if_neg (by omega)];simp [cJ]
 ·have e7:=eH ((l.eraseIdx i).flatMap fu) (rest.take ((n-(n-1))*6)) (rest.drop ((n-(n-1))*6)) cs (by rw [kK];simp;omega) (o:=(n-1)*6) nK.symm;rw [aey (List.flatMap _ _),aex] at e7;rw [e7,aey] at hB;have BM:=Own.closed (l:=l.eraseIdx i) bg.len hB (by rw [aeD,kK];simp;omega) h4 (by omega) h5 h1;rw [<- h6] at oZ;have xG:=bC (bC DL hg (.inl rfl)) oZ (.inl rfl);refine Wz ?_;exact ae.bh rfl rfl ⟨_,rfl,rfl,BM,xG⟩
variable {k:Nat}
structure Sh (wb w w':World) (b:Nat) (r:de) (H:jH) (s:ag) (i:Nat) (p:Heap×aN) (cs:List dT) : Prop where
 ext:Ext wb w'
 eV:aR w' b 44 (aK ⟨r.Words,H,r.aa⟩)
 sx:SX w' wb.heap.size ⟨r.Words,H,r.aa⟩ (bz s i p) cs
 kp:∀ j x,j≠b->aR w j 44 x->aR w' j 44 x
set_option maxHeartbeats 4000000 in
def xW (wb w0:World) (b:Nat) (r:de) (s:ag) (cs:List dT) (i k:Nat) (p:Heap×aN) (cpu:Int)
 (hx:Ext wb w0) (hb:aR w0 b 44 (aK r)) (rC:wb.heap.size<=b) (hS:SX w0 wb.heap.size r (bz s i p) cs) (hi:i<s.aa.length) (hn:s.aa.length<=1000000) (hk:k<p.2.ab.length) (h1:Mg p.1) (h2:FO p.2) :
 iO prog 98 [.pointer (some ⟨b,0,none⟩),.int .i64 (i:Int),.int .i64 (k:Int),.int .i64 cpu] w0 fun v w'=>v = .tuple #[] ∧ ∃ H cs',Sh wb w0 w' b r H s i ((fq p.1 cpu p.2.ab[k].At).2,eY p.2 k) cs':=by
 refine dc func98 rfl ntmps98 rfl ?_;obtain ⟨e1,e2⟩:=hS.rows;have ol:i<cs.length:=by omega
 have cx:i<r.aa.n:=by omega
 have G1:=hS.row.sl.base;have hC:=hS.get ol hi;have q1:=hC.aB.len;have q2:=h2.small.aB;have pY:k<cs[i].ab.n:=by omega
 have TK:=hC.aB.sl.base;have kZ:=h2.at_ _ (aet hk);obtain ⟨x,Nh⟩ : ∃ x,p.2.ab[k]=x:=⟨_,rfl⟩;have gA:=hC.aB.sl.jF pY (j:=0) (show (bd (p.2.ab[k]'(by omega)))[0]?=some (Value.int .i64 x.At) by rw [Nh];rfl);rw [Nh] at kZ ⊢;have hw:=Ext.refl w0;have uO:∀ j x,j≠b->aR w0 j 44 x->aR w0 j 44 x:=fun _ _ _ h=>h
 refine Wz ?_;refine CW.gB 20 20 (fun _=>True) mixed (by kernel_rfl) fun w1 ah aI => ?_
 obtain ⟨hw,hb,hS⟩:=cd ah hw hb hS;clear ah;refine Wf ?_;refine Wt 4 [] [] aI rfl (aY rfl rfl ((mH hb))) ?_;refine Wf ?_;refine Wt 9 [] [] aI rfl (aP rfl (hS.row.sl.jF cx (j:=4) (u := .slice cs[i].ab.A cs[i].ab.n cs[i].ab.c) rfl)) ?_;refine Wf ?_;refine Wt 13 [] [] aI rfl (mX hw rfl gA) ?_;refine SF.bZ 14 ?_;refine Wk (vL r.Heap p.1 cpu x.At _ hS.heap.rd h1.small h1.u6 kZ) fun v w4 ar hv => ?_
 obtain ⟨H,rfl,hH⟩:=hv;have hH:=hH.low (aev hx.size hw.size);(obtain ⟨hw,hb,hS⟩:=cd ar hw hb hS);refine SW.nil (ae.sf ar ?_);refine Wf ?_;refine SF.Cq 17 aI rfl (by kernel_rfl) (by kernel_rfl) rfl (fun _=>bi rfl) rfl ?_;refine Wf ?_;refine SF.ff ?_;refine SW.gE 1 hb rfl rfl rfl (ae2 rfl) (ed H) (aK ⟨r.Words,H,r.aa⟩) rfl fun w5 aL hg => ?_
 have hG:=hb.gr hg;have hx:=(hx.trans hw).own rC hg;have Yf:∀ j x,j≠b->aR w0 j 44 x->aR w5 j 44 x:=fun j x hj h=>(h.ext hw).grown hg (by simpa using hj)
 have Yg:SX w5 wb.heap.size ⟨r.Words,H,r.aa⟩ (bz s i ((fq p.1 cpu x.At).2,p.2)) cs:=(hS.aJ hG rfl).Sd (hH.aJ hG rfl)
 clear hw uO hS hb hC gA;have hw:=Ext.refl w5;have hC:=Yg.get ol hi;repeat' (first|refine Wz ?_|refine Wl (Yg.row.sl.jF cx (j:=4) (u := .slice cs[i].ab.A cs[i].ab.n cs[i].ab.c) rfl) ?_)
 refine SW.dK rfl rfl (AR _ _ _ wb.heap.size _ _ hC.aB k pY (by omega) hx.size) fun v w6 hv => ?_
 obtain ⟨rfl,hO6,uB⟩:=hv;have yY:=hC.aB.gr uB;have ZT:=Yg.Ej ol hi hO6 uB;have ap:=aL.aJ yY rfl;have hx:=aD hx uB (aew _) hC.aB.aW;have Yh:∀ j x,j≠b->aR w0 j 44 x->aR w6 j 44 x:=fun j x hj h=>(Yf j x hj h).aJ yY rfl
 have fP:=ZT.row;refine Wz ?_;refine SW.gH i 4 ⟨cs[i].Names,cs[i].ay,cs[i].bL,cs[i].Order,⟨cs[i].ab.A,cs[i].ab.n-1,cs[i].ab.c⟩,cs[i].ak⟩ fP rfl rfl rfl cx (by decide) rfl rfl fun w7 ke NJ => ?_
 have vZ:=fP.gr NJ;have hS7:=ZT.Eh ke NJ;have hx:=aD hx NJ (aew _) fP.aW;refine Wz ?_;exact ae.qi rfl ⟨_,rfl,rfl,H,_,hx,ap.aJ vZ rfl,hS7,fun j x hj h=>(Yh j x hj h).aJ vZ rfl⟩
def Lj {l:List Int} (hk:k<l.length) : (List.replicate k (-1)++l.drop k).set k (-1)=List.replicate (k+1) (-1)++l.drop (k+1):=by
 rw [agy hk,afu _ _ (by simp),afv,agC,List.set_cons_zero,List.replicate_succ'];simp
set_option maxHeartbeats 4000000 in
def AT (wb w0:World) (b:Nat) (r:de) (s:ag) (cs:List dT) (i:Nat) (hf:s.cS)
 (hx:Ext wb w0) (hb:aR w0 b 44 (aK r)) (rC:wb.heap.size<=b) (hS:SX w0 wb.heap.size r s cs) (hI:SI w0 wb.heap.size r s cs) (hi:i<s.aa.length) (hn:s.aa.length<=1000000) :
 iO prog 99 [.pointer (some ⟨b,0,none⟩),.int .i64 (i:Int)] w0 fun v w'=>v = .tuple #[] ∧ ∃ H cs',Sh wb w0 w' b r H s i (dU s.aa[i].ab.length (s.Heap,jL s.aa[i])) cs':=by
 refine dc func99 rfl ntmps99 rfl ?_;have h1:=hf.mm;have h2:=hf.PJ hi;have e0:=mJ hi;obtain ⟨c,hc⟩ : ∃ c,s.aa[i]=c:=⟨_,rfl⟩;rw [hc] at h2 e0 ⊢;rw [<- e0] at hS hI;obtain ⟨e1,e2⟩:=hS.rows;have ol:i<cs.length:=by omega
 have cx:i<r.aa.n:=by omega
 have G1:=hS.row.sl.base;have hC:=hS.get ol hi;have q1:=hC.aV.len;have q2:=h2.small.aV;have q3:=hC.aB.len;have q4:=h2.small.aB;have U9:=hC.aV.sl.base;obtain ⟨u,hu⟩ : ∃ u,cs[i]=u:=⟨_,rfl⟩;rw [hu] at hC q1 q3 U9;have hw:=Ext.refl w0;simp only at hC q1 q3;have gU:=hS.row.sl.jF cx (j:=5) (show (fu cs[i])[5]?=some (Value.slice u.ak.A u.ak.n u.ak.c) by rw [hu];rfl);repeat' (first|refine Wz ?_|refine Wl gU ?_)
 clear gU;obtain ⟨K,hK⟩ : ∃ K:Env->World->Prop,K=fun L' w'=>iM L' [(0,.pointer (some ⟨b,0,none⟩)),(1,.int .i64 (i:Int)),(4,.pointer (some ((r.aa.A.getD default).add (i*6))))]∧Ext wb w'∧aR w' b 44 (aK r)∧SX w' wb.heap.size r (bz s i (s.Heap,jL c)) cs∧(∀ j x,aR w0 j 44 x->aR w' j 44 x):=⟨_,rfl⟩
 refine CW.J5 K ?_ ?_
 ·refine CW.loop (fun k:Nat=>[(0,.pointer (some ⟨b,0,none⟩)),(1,.int .i64 (i:Int)),(4,.pointer (some ((r.aa.A.getD default).add (i*6)))),(17,.int .i64 (u.ak.n:Int)),(18,.int .i64 (k:Int))])
   (fun k w'=>k<=u.ak.n∧Ext wb w'∧aR w' b 44 (aK r)∧SX w' wb.heap.size r (bz s i (s.Heap,⟨c.Names,c.ay,c.bL,c.Order,c.ab,List.replicate k (-1)++c.ak.drop k⟩)) cs∧SI w' wb.heap.size r (bz s i (s.Heap,⟨c.Names,c.ay,c.bL,c.Order,c.ab,List.replicate k (-1)++c.ak.drop k⟩)) cs∧(∀ j x,aR w0 j 44 x->aR w' j 44 x)) (fun k=>u.ak.n-k) 0
   ⟨rfl,rfl,rfl,rfl,rfl,trivial⟩ ⟨by omega,hx,hb,by simpa using hS,by simpa using hI,fun _ _ h=>h⟩ ?_
  clear hw hx hb hS hI hC U9;rintro k w1 ⟨hk,hx,hb,hS,hI,uO⟩
  have hw:=Ext.refl w1;have hC:=hS.get ol hi;rw [hu] at hC;have U9:=hC.aV.sl.base;by_cases gC:k<u.ak.n
  ·have gU:=hS.row.sl.jF cx (j:=5) (show (fu cs[i])[5]?=some (Value.slice u.ak.A u.ak.n u.ak.c) by rw [hu];rfl);repeat' (first|refine Wz ?_|refine Wl gU ?_)
   refine SW.qT k hC.aV rfl rfl gC fun w2 hO hg => ?_
   have hG:=hC.aV.gr hg;simp only at hO;rw [Lj (by omega)] at hO;have ZU:=hS.No hI ol hi (by rw [hu];exact hO) (by rw [hu];exact hg);have hx:=aD hx hg (aew _) hC.aV.aW;have hb:=hb.aJ hG rfl;refine Wz ?_;exact ae.again (k+1) ⟨rfl,rfl,rfl,rfl,rfl,trivial⟩ (by omega) ⟨by omega,hx,hb,ZU.1,ZU.2,fun j x h=>(uO j x h).aJ hG rfl⟩
  ·obtain rfl:k=u.ak.n:=by omega
   refine Wz ?_;refine ae.mD ?_;rw [hK];refine ⟨⟨rfl,rfl,rfl,trivial⟩,hx,hb,?_,uO⟩
   have e3:List.replicate u.ak.n (-1)++c.ak.drop u.ak.n=List.replicate c.ak.length (-1):=by
    rw [q1,List.drop_of_length_le (by omega),afU]
   rw [e3] at hS;exact hS
 ·clear hw hx hb hS hI hC U9;subst hK;rintro L' w1 ⟨jc,hx,hb,hS,uO⟩
  refine ae.sub jc ?_;have hC:=hS.get ol hi;have hw:=Ext.refl w1;have q5:=hC.aB.len;have q6:(jL c).ab=c.ab:=rfl
  rw [q6] at q5;repeat' (first|refine Wz ?_|refine Wl (hS.row.sl.jF cx (j:=4) (u := .slice cs[i].ab.A cs[i].ab.n cs[i].ab.c) rfl) ?_)
  have h3:=h2.idle
  refine CW.loop (fun t:Nat×jH×List dT×Heap×aN=>[(0,.pointer (some ⟨b,0,none⟩)),(1,.int .i64 (i:Int)),(4,.pointer (some ((r.aa.A.getD default).add (i*6)))),(6,.int .i64 ((t.1:Int)-1))])
   (fun t w'=>t.1<=t.2.2.2.2.ab.length∧Ext wb w'∧aR w' b 44 (aK ⟨r.Words,t.2.1,r.aa⟩)∧SX w' wb.heap.size ⟨r.Words,t.2.1,r.aa⟩ (bz s i t.2.2.2) t.2.2.1∧Mg t.2.2.2.1∧FO t.2.2.2.2∧dU c.ab.length (s.Heap,jL c)=dU t.1 t.2.2.2∧(∀ j x,j≠b->aR w0 j 44 x->aR w' j 44 x)) (fun t=>t.1) (c.ab.length,r.Heap,cs,s.Heap,jL c)
   ?_ ⟨aew _,hx,hb,hS,h1,h3,rfl,fun j x _ h=>uO j x h⟩ ?_
  ·exact ⟨rfl,rfl,rfl,congrArg (fun z=>some (Value.int .i64 z)) (show ((cs[i].ab.n:Nat) : Int)-1=((c.ab.length:Nat) : Int)-1 by omega),trivial⟩
  clear hw hx hb hS hC uO jc h1 h2 h3 q5;rintro ⟨k,H,cs',h,c'⟩ w2 ⟨hk,hx,hb,hS,h1,h2,zG,uO⟩
  simp only at hk hb hS h1 h2 zG ⊢;have hw:=Ext.refl w2;obtain ⟨e3,e4⟩:=hS.rows;have Ci:i<cs'.length:=by omega
  have hC:=hS.get Ci hi;have q7:=hC.aB.len;have q8:=h2.small.aB;have q9:=hC.per;have TK:=hC.aB.sl.base;have G1:=hS.row.sl.base;simp only at hC q7 q8 q9 G1;cases k with
  | zero =>
    refine Wz ?_;exact ae.qi rfl ⟨_,rfl,rfl,H,cs',hx,hb,by rw [zG];exact hS,uO⟩
  | succ k =>
    have ek:((k+1:Nat) : Int)-1=(k:Int):=by omega
    rw [ek];have pY:k<c'.ab.length:=by omega
    have gC:k<cs'[i].ab.n:=by omega
    obtain ⟨y,hy⟩ : ∃ y,c'.ab[k]=y:=⟨_,rfl⟩;have gF:=hC.aB.sl.jF gC (j:=1) (show (bd (c'.ab[k]'(by omega)))[1]?=some (Value.int .i64 y.ai) by rw [hy];rfl);by_cases JE:y.ai=c'.bL
    ·repeat' (first|refine Wz ?_|((apply CW.bH mixed;(· kernel_rfl);rotate_left;intro w1 ah;obtain ⟨hw,hb,hS⟩:=cd ah hw hb hS;clear ah;rotate_right))|refine Wl (hS.row.sl.jF cx (j:=4) (u := .slice cs'[i].ab.A cs'[i].ab.n cs'[i].ab.c) rfl) ?_|refine Wl (hS.row.sl.jF cx (j:=2) (u := .int .i64 cs'[i].bL) rfl) ?_|refine Wl gF ?_|exact SW.eU rfl)
     all_goals try omega
     refine SW.dK rfl rfl (xW wb _ b ⟨r.Words,H,r.aa⟩ s cs' i k (h,c') 0 (hx.trans hw) hb rC hS hi hn pY h1 h2) fun v w3 hv => ?_
     obtain ⟨rfl,H',We,hh⟩:=hv;rw [hy] at hh;refine Wz ?_;refine ae.again (k,H',We,(fq h 0 y.At).2,eY c' k) ⟨rfl,rfl,rfl,rfl,trivial⟩ (by simp only;omega) ⟨?_,hh.ext,hh.eV,hh.sx,h1.free _ _,h2.cut _,?_,fun j x hj hB=>hh.kp j x hj ((uO j x hj hB).ext hw)⟩
     ·simp only [eY];rw [afN pY];omega
     ·rw [zG,sS pY (by rw [hy];exact JE),hy]
    ·repeat' (first|refine Wz ?_|((apply CW.bH mixed;(· kernel_rfl);rotate_left;intro w1 ah;obtain ⟨hw,hb,hS⟩:=cd ah hw hb hS;clear ah;rotate_right))|refine Wl (hS.row.sl.jF cx (j:=4) (u := .slice cs'[i].ab.A cs'[i].ab.n cs'[i].ab.c) rfl) ?_|refine Wl (hS.row.sl.jF cx (j:=2) (u := .int .i64 cs'[i].bL) rfl) ?_|refine Wl gF ?_|exact SW.eU rfl)
     all_goals try omega
     refine ae.again (k,H,cs',h,c') ⟨rfl,rfl,rfl,congrArg (fun z=>some (Value.int .i64 z)) (by omega),trivial⟩ (by simp only;omega) ⟨by simp only;omega,hx.trans hw,hb,hS,h1,h2,?_,fun j x hj hB=>(uO j x hj hB).ext hw⟩;rw [zG,rv pY (by rw [hy];exact JE)]
noncomputable def ie (s:ag) (n:ByteArray) : ag×Int:=if gV s n 0=0 then (if h:(idxOf (dr n) s.aa).toNat<s.aa.length then (bz s (idxOf (dr n) s.aa).toNat (dU s.aa[(idxOf (dr n) s.aa).toNat].ab.length (s.Heap,jL s.aa[(idxOf (dr n) s.aa).toNat])),0) else (.zero,0)) else (.zero,gV s n 0)
def rE (h:gV s n 0=0) (hi:i<s.aa.length) (e:idxOf (dr n) s.aa=(i:Int)) : ie s n=(bz s i (dU s.aa[i].ab.length (s.Heap,jL s.aa[i])),0):=by
 have e1:(idxOf (dr n) s.aa).toNat=i:=by omega
 unfold ie;rw [if_pos h];subst e1;rw [dif_pos hi]
def AU (h:gV s n 0≠0) : ie s n=(.zero,gV s n 0):=by unfold ie;rw [if_neg h]
set_option maxHeartbeats 2000000 in
def AV (r:de) (s:ag) (n:ByteArray) (w:World) (hr:zU w r s) (hf:s.cS) (Mi:n.size<=140737488351232) :
 bI prog 53 [.agg (aK r).toArray,.string n] w fun v w'=>gR w.heap.size (ie s n) v w':=by
 refine Wj func53 ntmps53 ?_;refine Ww fun b2 w1 hw eW aq => ?_;refine SW.alloc rfl fun b4 w3 nL fw aE => ?_
 have dQ:=hw.up fw
 have bG:b4≠b2:=by have:=aq.lt;omega
 (obtain ⟨hw,aq⟩:=cT nL hw aq);refine Wz ?_;refine Wk (vY r s n 0 _ (hr.ext hw) hf Mi) fun v w4 ar hv => ?_
 have nq:=hw.size;(obtain ⟨hw,aq,aE⟩:=cd ar hw aq aE);rcases hv with ⟨he,rfl⟩|⟨he,q,cs,rfl,hO,hI⟩
 ·obtain ⟨e,hE⟩ : ∃ e,gV s n 0=e:=⟨_,rfl⟩;have hV:=AU he;rw [hE] at he hV;rw [hE];refine Wz ?_;refine Wg aq (aU .zero) fun w5 lF hg => ?_
  have aE:=aE.grown hg (by simpa using bG);have hw:=hw.own eW hg;refine Wz ?_;all_goals try omega
  refine Wg aE (aU .zero) fun w6 cK hg => ?_
  have hw:=hw.own dQ hg;refine Wz ?_;exact ae.dj rfl rfl rfl cK rfl ⟨_,rfl,hw,by rw [hV];exact gR.zero e _ _⟩
 ·have hO:=hO.low nq;have hI:=hI.low nq;obtain ⟨hq,ht,_⟩:=lc he;obtain ⟨i,hi,_,_,oe⟩:=iF ht;have hV:=rE he hi oe;have hm:=(iE.1 hq).most;rw [oe];refine Wz ?_;refine Wg aq (aU q) fun w5 lF hg => ?_
  have hG:=aq.gr hg;have aE:=aE.grown hg (by simpa using bG);have hw:=hw.own eW hg;(obtain ⟨hO,hI⟩:=cT hG hO hI);have aq:=lF;clear lF hG hg;refine Wz ?_;refine SW.dK rfl rfl (AT w _ b2 q s cs i hf hw aq eW hO hI hi (by omega)) fun v w6 hv => ?_
  obtain ⟨rfl,H,cs',hh⟩:=hv;have hw:=hh.ext;have aE:=hh.kp _ _ bG aE;have hb:=hh.eV;have Yi:=hh.sx;refine Wz ?_;refine Wg aE (aU ⟨q.Words,H,q.aa⟩) fun w7 cK hg => ?_
  have hG:=aE.gr hg;have hw:=hw.own dQ hg;have Yi:=Yi.aJ hG rfl;refine Wz ?_;exact ae.dj rfl rfl rfl cK rfl ⟨_,rfl,hw,by rw [hV];exact ⟨_,rfl,Yi.xd⟩⟩
def s5 (l:List Int) (t f k:Nat) : List Int:=l.take t++(l.drop f).take k++l.drop (t+k)
def xn {l:List Int} {t f:Nat} (h1:t+k<=l.length) (h2:f+k<=l.length) : (s5 l t f k).length=l.length:=by simp [s5];omega
def Lk {l:List Int} {t f:Nat} (h1:t+k<=l.length) (h2:f+k<=l.length) (j:Nat) : (s5 l t f k)[j]?=if j<t then l[j]? else if j<t+k then l[f+(j-t)]? else l[j]?:=by
 have e1:(l.take t).length=t:=by simp;omega
 have e2:((l.drop f).take k).length=k:=by simp;omega
 unfold s5;by_cases ha:j<t
 ·rw [if_pos ha,ae8 (by rw [aeD];omega),ae8 (by omega),af4 ha]
 ·rw [if_neg ha];by_cases hb:j<t+k
  ·rw [if_pos hb,ae8 (by rw [aeD];omega),afd (by omega),e1,af4 (by omega),af2]
  ·rw [if_neg hb,afd (by rw [aeD];omega),aeD,e1,e2,af2];congr 1
   omega
def zb (lo:Nat) (n:Nat) (l:List Int) (x y z:Int) (v:Value) (w:World) : Prop :=
 if 0<=x∧0<=y∧0<=z∧x+z<=n∧y+z<=n then ∃ A c,v = .tuple #[.slice A n c,.int .i64 0]∧Own w lo 3 1 bt A n c (s5 l x.toNat y.toNat z.toNat) else v = .tuple #[.slice none 0 0,.int .i64 1]
set_option maxHeartbeats 4000000 in
def NV (A:Option Addr) (n c:Nat) (l:List Int) (x y z:Int) (w:World) (hl:Sl w 1 bt A n l) (hn:n*8<=140737488355328) (hc:n<=c) :
 bI prog 68 [.slice A n c,.int .i64 x,.int .i64 y,.int .i64 z] w (zb w.heap.size n l x y z):=by
 refine Wj func68 ntmps68 ?_;have hw:=Ext.refl w;have kA:n<=2305843009213693952:=by omega
 by_cases hx : 0<=x∧0<=y∧0<=z∧x+z<=n∧y+z<=n
 ·obtain ⟨h1,h2,h3,h4,h5⟩:=id hx;obtain ⟨t,rfl⟩:=aeE h1;obtain ⟨f,rfl⟩:=aeE h2;obtain ⟨k,rfl⟩:=aeE h3;have mx:=hl.len;repeat' (first|refine Wz ?_|(refine Wk (qW _ _ _ _ _ _ kA) ?_;intro v w1 ah hv;subst hv;have hw:=hw.trans ah;clear ah))
  all_goals try omega
  refine Wk (dC _ _ _ _ _ (hl.ext hw) hn) fun v w1 ah hv => ?_
  obtain ⟨A1,c1,rfl,hO⟩:=hv;have hO:=hO.low hw.size;have hw:=hw.trans ah;refine Wz ?_;have hle:=hO.le;have pr:=hO.sl.base;have hA:=hl.base;obtain ⟨K,hK⟩ : ∃ K:Env->World->Prop,K=fun L' w'=>iM L' [(10,.slice A1 n c1)]∧Ext w w'∧Own w' w.heap.size 3 1 bt A1 n c1 (s5 l t f k):=⟨_,rfl⟩
  refine CW.RD K ?_ ?_
  ·by_cases G9:c1=0
   ·have h0:n=0:=by omega
    subst G9 h0;obtain rfl:t=0:=by omega
    obtain rfl:f=0:=by omega
    obtain rfl:k=0:=by omega
    have TG:l=[]:=aeN mx
    subst TG;refine CW.any 12 mixed (db (by kernel_rfl)) rfl fun w1 ah aI => ?_
    obtain ⟨hw,hO⟩:=cT ah hw hO;clear ah;refine Wa ?_;refine Wu 5 aI rfl (iN (i:=0) (j:=0) rfl rfl rfl (by omega) (by omega)) ?_;refine Wa ?_;refine Wu 11 aI rfl (iN (i:=0) (j:=0) rfl rfl rfl (by omega) (by omega)) ?_;refine SA.fZ ?_;refine SW.T1 rfl rfl rfl (by omega) ?_;refine Wz ?_;exact ae.mD (K:=K) (by rw [hK];exact ⟨⟨rfl,trivial⟩,hw,by simpa [s5] using hO⟩)
   ·obtain ⟨g,rest,rfl,Qs,dB,oZ,yi,ES,uB⟩:=hO.opened (by omega);have h9:=(hl.drop f c (by omega) (by omega)).pre (i:=k) (by omega)
    have e1:l.flatMap bt=(l.take t).flatMap bt++((l.drop t).take k).flatMap bt++(l.drop (t+k)).flatMap bt:=by
     rw [<- aeM,<- aeM];congr 1
     rw [aey,<- afB,aex,aex]
    have e2:∀ q:List Int,(q.flatMap bt).length=q.length:=fun q=>by rw [aQ (sz:=1)];omega
    refine CW.any 12 mixed (db (by kernel_rfl)) rfl fun w1 ah aI => ?_
    obtain ⟨hw,hO,dB⟩:=cd ah hw hO dB;clear ah;refine Wa ?_;refine Wu 5 aI rfl (iN (i:=t) (j:=t+k) rfl rfl rfl (by omega) (by omega)) ?_;refine Wa ?_;refine Wu 11 aI rfl (iN (i:=f) (j:=f+k) rfl rfl rfl (by omega) (by omega)) ?_;refine SA.fZ ?_;refine SW.copy (k:=k) t (((l.drop f).take k).flatMap bt) dB rfl rfl rfl (by omega) (by rw [e2];simp;omega) (by rw [aeD,e2,e2];simp;omega) (fun h0=>⟨?_,(if c=f then A else A.map (·.add (f*1))).getD default,?_,fun j v hv => ?_⟩) (fun v hv => ?_) fun w6 Vc hg => ?_
    ·rw [if_neg (by omega)];simp [cJ]
    ·have:=h9.base h0
     obtain ⟨a,ha⟩:=aeZ.1 this;rw [ha];rfl
    ·exact du (by omega) (h9.ext hw) j v hv
    ·obtain ⟨u,_,hu⟩:=aeK.1 hv;exact iK.one (enc:=bt) u v hu
    ·rw [<- uB] at hg;have hw:=aD hw hg (aew _) hO.aW;rw [e1,aey,eH _ _ _ _ (by rw [e2,e2];simp;omega) (by rw [e2];simp;omega),<- aey,<- aeM,<- aeM] at Vc;have hO:=Own.closed (l:=s5 l t f k) (by rw [xn (by omega) (by omega)];exact mx) Vc oZ yi (by omega) ES Qs;refine Wz ?_;exact ae.mD (K:=K) (by rw [hK];exact ⟨⟨rfl,trivial⟩,hw,hO⟩)
  ·clear hw hO;subst hK;rintro L' w' ⟨jc,hw,hO⟩
   refine ae.sub jc ?_;refine Wz ?_;refine ae.dl rfl rfl rfl ⟨_,rfl,hw,?_⟩;unfold zb;rw [if_pos hx];exact ⟨A1,c1,rfl,hO⟩
 ·repeat' (first|refine Wz ?_|refine SW.Dy rfl rfl rfl (fun h => ?_) (fun h => ?_)|(refine Wk (qW _ _ _ _ _ _ kA) ?_;intro v w1 ah hv;subst hv;have hw:=hw.trans ah;clear ah))
  all_goals try omega
  all_goals
   refine ae.dl rfl rfl rfl ⟨_,rfl,hw,?_⟩;unfold zb;rw [if_neg hx]
variable {a:Int}
def Ck (l:List Int) (t f k:Int) : List Int:=if 0<=t∧0<=f∧0<=k∧t+k<=l.length∧f+k<=l.length then s5 l t.toNat f.toNat k.toNat else []
def F7 (s:ag) (t f k:Int) : ag:=⟨Ck s.Words t f k,s.Heap,s.aa⟩
inductive nW (s:ag) (cpu a n:Int) : ag×Int×Int->Prop
 | size {z:Int×Int} (h:jT s a z) (he:z.2≠0) : nW s cpu a n (.zero,0,z.2)
 | range {z:Int×Int} (h:jT s a z) (he:z.2=0) (hc : ¬ (kj s cpu∧1<=n)) : nW s cpu a n (.zero,0,1)
 | stay {z:Int×Int} (h:jT s a z) (he:z.2=0) (hc:kj s cpu∧1<=n) (hn:n<=z.1) : nW s cpu a n (s,a,0)
 | fault {z:Int×Int} {v:ag×Int×Int} (h:jT s a z) (he:z.2=0) (hc:kj s cpu∧1<=n) (hn : ¬ n<=z.1) (hv:fv s cpu n v) (EM:v.2.2≠0) : nW s cpu a n (.zero,0,v.2.2)
 | free {z:Int×Int} {v:ag×Int×Int} {u:ag×Int} (h:jT s a z) (he:z.2=0) (hc:kj s cpu∧1<=n) (hn : ¬ n<=z.1) (hv:fv s cpu n v) (EM:v.2.2=0) (hu:jU (F7 v.1 v.2.1 a z.1) cpu a u) (SK:u.2≠0) : nW s cpu a n (.zero,0,u.2)
 | ok {z:Int×Int} {v:ag×Int×Int} {u:ag×Int} (h:jT s a z) (he:z.2=0) (hc:kj s cpu∧1<=n) (hn : ¬ n<=z.1) (hv:fv s cpu n v) (EM:v.2.2=0) (hu:jU (F7 v.1 v.2.1 a z.1) cpu a u) (SK:u.2=0) : nW s cpu a n (u.1,v.2.1,0)
def nW.dm {n:Int} {u v:ag×Int×Int} (x:nW s cpu a n u) (y:nW s cpu a n v) : u=v:=by
 cases x with
 | size h he=>cases y with
   | size h' iv=>obtain rfl:=h.dm h';rfl
   | range h' iv iq=>obtain rfl:=h.dm h';exact absurd iv he
   | stay h' iv iq kA=>obtain rfl:=h.dm h';exact absurd iv he
   | fault h' iv iq kA tV pW=>obtain rfl:=h.dm h';exact absurd iv he
   | free h' iv iq kA tV pW uK xo=>obtain rfl:=h.dm h';exact absurd iv he
   | ok h' iv iq kA tV pW uK xo=>obtain rfl:=h.dm h';exact absurd iv he
 | range h he hc=>cases y with
   | size h' iv=>obtain rfl:=h.dm h';exact absurd he iv
   | range h' iv iq=>rfl
   | stay h' iv iq kA=>exact absurd iq hc
   | fault h' iv iq kA tV pW=>exact absurd iq hc
   | free h' iv iq kA tV pW uK xo=>exact absurd iq hc
   | ok h' iv iq kA tV pW uK xo=>exact absurd iq hc
 | stay h he hc hn=>cases y with
   | size h' iv=>obtain rfl:=h.dm h';exact absurd he iv
   | range h' iv iq=>exact absurd hc iq
   | stay h' iv iq kA=>obtain rfl:=h.dm h';rfl
   | fault h' iv iq kA tV pW=>obtain rfl:=h.dm h';exact absurd hn kA
   | free h' iv iq kA tV pW uK xo=>obtain rfl:=h.dm h';exact absurd hn kA
   | ok h' iv iq kA tV pW uK xo=>obtain rfl:=h.dm h';exact absurd hn kA
 | fault h he hc hn hv EM=>cases y with
   | size h' iv=>obtain rfl:=h.dm h';exact absurd he iv
   | range h' iv iq=>exact absurd hc iq
   | stay h' iv iq kA=>obtain rfl:=h.dm h';exact absurd kA hn
   | fault h' iv iq kA tV pW=>rw [hv.dm tV]
   | free h' iv iq kA tV pW uK xo=>obtain rfl:=hv.dm tV;exact absurd pW EM
   | ok h' iv iq kA tV pW uK xo=>obtain rfl:=hv.dm tV;exact absurd pW EM
 | free h he hc hn hv EM hu SK=>cases y with
   | size h' iv=>obtain rfl:=h.dm h';exact absurd he iv
   | range h' iv iq=>exact absurd hc iq
   | stay h' iv iq kA=>obtain rfl:=h.dm h';exact absurd kA hn
   | fault h' iv iq kA tV pW=>obtain rfl:=hv.dm tV;exact absurd EM pW
   | free h' iv iq kA tV pW uK xo=>obtain rfl:=h.dm h';obtain rfl:=hv.dm tV;rw [hu.dm uK]
   | ok h' iv iq kA tV pW uK xo=>obtain rfl:=h.dm h';obtain rfl:=hv.dm tV;obtain rfl:=hu.dm uK;exact absurd xo SK
 | ok h he hc hn hv EM hu SK=>cases y with
   | size h' iv=>obtain rfl:=h.dm h';exact absurd he iv
   | range h' iv iq=>exact absurd hc iq
   | stay h' iv iq kA=>obtain rfl:=h.dm h';exact absurd kA hn
   | fault h' iv iq kA tV pW=>obtain rfl:=hv.dm tV;exact absurd EM pW
   | free h' iv iq kA tV pW uK xo=>obtain rfl:=h.dm h';obtain rfl:=hv.dm tV;obtain rfl:=hu.dm uK;exact absurd SK xo
   | ok h' iv iq kA tV pW uK xo=>obtain rfl:=h.dm h';obtain rfl:=hv.dm tV;rw [hu.dm uK]
def lp (c:aN) (x:Slab) (a:Int) : Prop:=16*x.At<=a∧a<16*x.At+16*pw c.Order
instance (c:aN) (x:Slab) (a:Int) : Decidable (lp c x a):=inferInstanceAs (Decidable (_∧_))
def AW (l:List Block) (p:Int) : Bool:=l.any fun b=>decide (b.At<=p) && decide (p<b.At+pw b.Order)
inductive gu (s:ag) (a:Int) : Bool->Prop
 | out (h : ¬ (0<=a∧a<s.Words.length)) : gu s a false
 | pQ {c:aN} {x:Slab} {u:Int×Int×Int} (h : 0<=a∧a<s.Words.length) (hc:c∈s.aa) (hx:x∈c.ab) (hi:lp c x a) (hF:im s (a-(a-x.At*16) % c.ay) u) : gu s a (decide (u.2.2=0))
 | bD (h : 0<=a∧a<s.Words.length) (hn:∀ c∈s.aa,∀ x∈c.ab,¬ lp c x a) : gu s a (AW s.Heap.Live (a / 16))
def rF (m:Int) : Prop := -1099511627776<=m∧m<=1099511627776
instance (m:Int) : Decidable (rF m):=inferInstanceAs (Decidable (_∧_))
inductive mw (s:ag) (a:cr) : ag×Int×Int->Prop
 | no (h:gu s a.At false) : mw s a (s,0,4)
 | read (h:gu s a.At true) (hk:a.Kind=14) : mw s a (s,s.Words.getD a.At.toNat 0,0)
 | range (h:gu s a.At true) (hk:a.Kind≠14) (hm : ¬ rF a.M) : mw s a (s,0,1)
 | write (h:gu s a.At true) (hk:a.Kind≠14) (hm:rF a.M) : mw s a (⟨s.Words.set a.At.toNat a.M,s.Heap,s.aa⟩,0,0)
def s8 (n:ByteArray) : Bool:=n.data.toList.head? == some 107
inductive eK (s:ag) (a:cr) : ag×Int×List Int×Int->Prop
 | me {u:ag×Int} (hk:a.Kind=3) (h:lU s a.Name a.N a.M u) : eK s a (u.1,0,[],u.2)
 | form (hk:a.Kind=4) (hn:s8 a.Name=true) : eK s a (s,0,[],3)
 | kv {u:ag×Int} (hk:a.Kind=4) (hn:s8 a.Name=false) (h:sb s a.Name u) : eK s a (u.1,0,[],u.2)
 | new {u:ag×Int×Int} (hk:a.Kind=5) (h:pR s a.Name a.gl u) : eK s a (u.1,u.2.1,[],u.2.2)
 | drop {u:ag×Int} (hk:a.Kind=6) (h:pP s a.Name a.gl a.At u) : eK s a (u.1,0,[],u.2)
 | shrink (hk:a.Kind=7) : eK s a ((ie s a.Name).1,0,[],(ie s a.Name).2)
 | bulk {u:ag×List Int×Int} (hk:a.Kind=15) (h:oM s a.Name a.gl a.N u) : eK s a (u.1,0,u.2.1,u.2.2)
def eK.dm {a:cr} {u v:ag×Int×List Int×Int} (x:eK s a u) (y:eK s a v) : u=v:=by
 cases x with
 | me hk h=>cases y with
   | me _ h'=>rw [h.dm h']
   | form bP|kv bP|new bP|drop bP|shrink bP|bulk bP=>omega
 | form hk h=>cases y with
   | form=>rfl
   | kv _ h'=>rw [h] at h';cases h'
   | me bP|new bP|drop bP|shrink bP|bulk bP=>omega
 | kv hk hn h=>cases y with
   | form _ h'=>rw [hn] at h';cases h'
   | kv _ _ h'=>rw [h.dm h']
   | me bP|new bP|drop bP|shrink bP|bulk bP=>omega
 | new hk h=>cases y with
   | new _ h'=>rw [h.dm h']
   | me bP|form bP|kv bP|drop bP|shrink bP|bulk bP=>omega
 | drop hk h=>cases y with
   | drop _ h'=>rw [h.dm h']
   | me bP|form bP|kv bP|new bP|shrink bP|bulk bP=>omega
 | shrink hk=>cases y with
   | shrink=>rfl
   | me bP|form bP|kv bP|new bP|drop bP|bulk bP=>omega
 | bulk hk h=>cases y with
   | bulk _ h'=>rw [h.dm h']
   | me bP|form bP|kv bP|new bP|drop bP|shrink bP=>omega
def jj.aJ {t:Nat} {r:de} (h:jj w lo r s) (hG:se w w' t) (bG:(Nat.beq t 3 || (Nat.beq t 143 || (Nat.beq t 113 || (Nat.beq t 155 || (Nat.beq t 103 || (Nat.beq t 9 || Nat.beq t 107))))))=false) : jj w' lo r s:=by
 simp only [Bool.or_eq_false_iff] at bG;obtain ⟨h1,h2,h3,h4,h5,h6,h7⟩:=bG;obtain ⟨cs,hc⟩:=h.bo;exact ⟨h.words.aJ hG h1,h.heap.aJ hG (by simp [h1,h2,h3,h4]),⟨cs,hc.aJ hG (by simp [h1,h5,h6,h7])⟩⟩
variable {R:Ending->World->Prop} {fn:Func} {cs:List Value} {b m m' tb' ZV:Nat} {P:Program}
structure j8 where
 Code:Int
 N:Int
 L:List Int
structure qI where
 Code:Int
 N:Int
 L:fY
def dZ (a:cr) : List Value:=[.int .i64 a.Kind,.int .i64 a.gl,.int .i64 a.N,.int .i64 a.M,.int .i64 a.At,.int .i64 a.Flags,.string a.Name]
instance:iK dZ 7:=⟨fun _=>rfl,fun r u hu=>by simp [dZ] at hu;rcases hu with rfl|rfl|rfl|rfl|rfl|rfl|rfl<;>rfl⟩
def ck (r:qI) : List Value:=[.int .i64 r.Code,.int .i64 r.N,r.L.v]
instance:iK ck 3:=⟨fun _=>rfl,fun r u hu=>by simp [ck,fY.v] at hu;rcases hu with rfl|rfl|rfl<;>rfl⟩
def fE (r:qI) : ∀ v∈ck r,v.oneCell'=true:=iK.one (enc:=ck) r
def Q7 (r:cr) : ∀ v∈dZ r,v.oneCell'=true:=iK.one (enc:=dZ) r
structure dy (s:ag) : Prop where
 cS:s.cS
 may:aA s
structure kH (w:World) (lo:Nat) (r:qI) (x:j8) : Prop where
 code:r.Code=x.Code
 n:r.N=x.N
 list:Own w lo 3 1 bt r.L.A r.L.n r.L.c x.L
section
variable {w w':World} {lo oV t:Nat} {r:qI} {x:j8}
def kH.ext (h:kH w lo r x) (hx:Ext w w') : kH w' lo r x:=⟨h.code,h.n,h.list.ext hx⟩
def kH.low (h:kH w lo r x) (hl:oV<=lo) : kH w oV r x:=⟨h.code,h.n,h.list.low hl⟩
def kH.aJ (h:kH w lo r x) (hG:se w w' t) (bG:Nat.beq t 3=false) : kH w' lo r x:=⟨h.code,h.n,h.list.aJ hG bG⟩
def kH.plain (w:World) (lo:Nat) (c n:Int) : kH w lo ⟨c,n,.nil⟩ ⟨c,n,[]⟩:=⟨rfl,rfl,Own.fC _ _ _ _ _ _⟩
end
structure jf (w:World) (lo:Nat) (A:Option Addr) (n c:Nat) (rs:List qI) (xs:List j8) : Prop where
 row:Own w lo 56 3 ck A n c rs
 each:fK (kH w lo) rs xs
section
variable {w w':World} {lo oV t n c:Nat} {A:Option Addr} {rs:List qI} {xs:List j8}
def jf.ext (h:jf w lo A n c rs xs) (hx:Ext w w') : jf w' lo A n c rs xs:=⟨h.row.ext hx,h.each.mono fun _ _ h=>h.ext hx⟩
def jf.low (h:jf w lo A n c rs xs) (hl:oV<=lo) : jf w oV A n c rs xs:=⟨h.row.low hl,h.each.mono fun _ _ h=>h.low hl⟩
def jf.aJ (h:jf w lo A n c rs xs) (hG:se w w' t) (bG:(Nat.beq t 56 || Nat.beq t 3)=false) : jf w' lo A n c rs xs:=by
 simp only [Bool.or_eq_false_iff] at bG;exact ⟨h.row.aJ hG bG.1,h.each.mono fun _ _ h=>h.aJ hG bG.2⟩
def jf.len (h:jf w lo A n c rs xs) : xs.length=n:=by rw [<- h.each.len,h.row.len]
end
def ms (e:Int) (s t:ag) : ag:=if e=0 then t else s
inductive pB (s:ag) (a:cr) : ag×Int->Prop
 | range (h : ¬ (0<=a.At∧a.At<256)) : pB s a (s,1)
 | no (h : 0<=a.At∧a.At<256) (hw:cV s (a.At*16)=false) : pB s a (s,4)
 | ok (h : 0<=a.At∧a.At<256) (hw:cV s (a.At*16)=true) (he:(fq s.Heap a.gl a.At).1=0) : pB s a (oN s (fq s.Heap a.gl a.At).2,0)
 | fault (h : 0<=a.At∧a.At<256) (hw:cV s (a.At*16)=true) (he:(fq s.Heap a.gl a.At).1≠0) : pB s a (s,(fq s.Heap a.gl a.At).1)
inductive cu (s:ag) (a:cr) : ag×j8->Prop
 | bD {u:Heap×Int×Int} (hk:a.Kind=1) (h:cU s.Heap a.gl a.N a.Flags u) : cu s a (ms u.2.2 s (oN s u.1),⟨u.2.2,u.2.1,[]⟩)
 | nX {u:ag×Int} (hk:a.Kind=2) (h:pB s a u) : cu s a (ms u.2 s u.1,⟨u.2,0,[]⟩)
 | drain (hk:a.Kind=12) : cu s a (ms (ln s.Heap).1 s (oN s (ln s.Heap).2),⟨(ln s.Heap).1,0,[]⟩)
 | fL {u:ag×Int×Int} (hk:a.Kind=8) (h:fv s a.gl a.N u) : cu s a (ms u.2.2 s u.1,⟨u.2.2,u.2.1,[]⟩)
 | kW {u:ag×Int} (hk:a.Kind=9) (h:jU s a.gl a.At u) : cu s a (ms u.2 s u.1,⟨u.2,0,[]⟩)
 | oQ {u:Int×Int} (hk:a.Kind=10) (h:jT s a.At u) : cu s a (s,⟨u.2,u.1,[]⟩)
 | bo {u:ag×Int×List Int×Int} (hk:(3<=a.Kind∧a.Kind<=7)∨a.Kind=15) (h:eK s a u) : cu s a (ms u.2.2.2 s u.1,⟨u.2.2.2,u.2.1,u.2.2.1⟩)
 | eA {u:ag×Int×Int} (hk:a.Kind=11) (h:nW s a.gl a.At a.N u) : cu s a (ms u.2.2 s u.1,⟨u.2.2,u.2.1,[]⟩)
 | word {u:ag×Int×Int} (hk:a.Kind=13∨a.Kind=14) (h:mw s a u) : cu s a (ms u.2.2 s u.1,⟨u.2.2,u.2.1,[]⟩)
 | Ik (hk:a.Kind<1∨15<a.Kind) : cu s a (s,⟨2,0,[]⟩)
inductive jN:ag->List cr->List j8->ag->Prop
 | nil (s:ag) : jN s [] [] s
 | snoc {s t:ag} {l:List cr} {xs:List j8} {a:cr} {u:ag×j8} (h:jN s l xs t) (hu:cu t a u) : jN s (l++[a]) (xs++[u.2]) u.1
def jN.len {t:ag} {l:List cr} {xs:List j8} (h:jN s l xs t) : xs.length=l.length:=by
 induction h with
 | nil=>rfl
 | snoc h hu ih=>simp [ih]
def jN.Q8 {t:ag} {l:List cr} {a:cr} {xs:List j8} (h:jN s (l++[a]) xs t) : ∃ ys m u,jN s l ys m∧cu m a u∧xs=ys++[u.2]∧t=u.1:=by
 generalize e:l++[a]=l' at h
 cases h with
 | nil=>simp at e
 | snoc h hu =>
   obtain ⟨rfl,e2⟩:=List.append_inj' e rfl;simp only [List.cons.injEq,and_true] at e2;subst e2;exact ⟨_,_,_,h,hu,rfl,rfl⟩
def s9 (I:ag->Prop) (a:cr) : Prop := ∀ s u,I s->cu s a u->I u.1
def jN.jQ {I:ag->Prop} {t:ag} {l:List cr} {xs:List j8} (h:jN s l xs t) : I s->(∀ a∈l,s9 I a)->I t:=by
 induction h with
 | nil=>exact fun h _=>h
 | snoc h hu ih=>exact fun hs hl=>hl _ (by simp) _ _ (ih hs fun a ha=>hl a (by simp [ha])) hu
def P7 (lo:Nat) (u:ag×j8) (v:Value) (w:World) : Prop := ∃ q x,v = .tuple #[.agg (aK q).toArray,.agg (ck x).toArray]∧jj w lo q u.1∧kH w lo x u.2
def fM (I:ag->Prop) (a:cr) : Prop := ∀ (r:de) (s:ag) (lo:Nat) (w:World),jj w lo r s->lo<=w.heap.size->I s->iQ w->m9 w ->
 bI prog 12 [.agg (aK r).toArray,.agg (dZ a).toArray] w fun v w' => ∃ u,cu s a u∧P7 lo u v w'
def ae.nG {n:Nat} {L:Env} {t t' ty b' tb:Nat} {cs':List Value} [c:fG P ty m] [c':fG P ZV m'] (hr:fn.results = #[.cell t ty,.cell t' ZV]) (hv:get L t=some (.pointer (some ⟨b,0,none⟩))) (tV:get L t'=some (.pointer (some ⟨b',0,none⟩)))
 (hB:aR w b tb cs) (wA:aR w b' tb' cs') (hl:Nat.beq cs.length m=true) (BE:Nat.beq cs'.length m'=true) (h:R (.returned (.tuple #[.agg cs.toArray,.agg cs'.toArray])) w) : ae n (bodyPost P fn R) .ret L w :=
 ⟨fun a ha=>⟨ha.defers,_,by simpa using mY.results (rs:=[.cell t ty,.cell t' ZV]) hr (.cell c hv hB (aeY hl) (.cell c' tV wA (aeY BE) .nil)) ha,h⟩⟩
variable {fl o:Int} {c:aN} {l:List Block}
def iI (h:gf l) {b:Block} (hb:b∈l) : o8 l b.At=b.Order:=by
 obtain ⟨k,hk,rfl⟩:=aeu hb;obtain ⟨e1,e2⟩:=rm (k7 h) hk (rfl:l[k].At=l[k].At);rw [Ag e2 (by rw [e1];exact hk)];simp only [e1]
def Et {x:Int} (h:∀ b∈l,b.At≠x) : o8 l x = -1:=Ea (Ad fun k hk=>h _ (aet hk))
def uP {m:List Block} (hl:gf l) (hm:gf m) {x:Int} (h:∀ b:Block,b.At=x->(b∈l↔b∈m)) : o8 m x=o8 l x:=by
 by_cases e:∃ b∈l,b.At=x
 ·obtain ⟨b,hb,rfl⟩:=e;rw [iI hl hb,iI hm ((h b rfl).1 hb)]
 ·have e1:∀ b∈l,b.At≠x:=fun b hb he=>e ⟨b,hb,he⟩
  rw [Et e1,Et fun b hb he=>e1 b ((h b he).2 hb) he]
def JF {h:Heap} (hm:bK h) : ∀ z∈h.bl,fV z:=by
 obtain ⟨z0,z1,h1,h2,h3,h4,h5,h6,_⟩:=hm.cq;obtain ⟨a1,a2,a3,_⟩:=h2.ok;obtain ⟨b1,b2,b3,_⟩:=h3.ok;rw [h1];intro z hz;simp only [List.mem_cons,List.not_mem_nil,or_false] at hz;unfold fV;rcases hz with rfl|rfl<;>omega
def Il (hI:dy s) {h:Heap} (hm:bK h) (hs:h.small) (hc:h.bJ=s.Heap.bJ) (hl:∀ c∈s.aa,∀ x∈c.ab,o8 h.Live x.At=o8 s.Heap.Live x.At) : dy (oN s h):=by
 have hf:=hI.cS;have hM:=hI.may;refine ⟨⟨⟨hf.small.words,hs,hf.small.bo,hf.small.each⟩,JF hm,hf.aB,hf.names⟩,hM.words,hm,hM.most,fun i hi => ?_⟩;have hC:=hM.each i hi;refine ⟨⟨hC.may.lay,hC.may.names,hC.may.aV.trans hc.symm,fun k hk => ?_,hC.may.cX⟩,hC.size,hC.names,hC.aB⟩;have hS:=hC.may.aB k hk;exact ⟨(hl _ (aet hi) _ (aet hk)).trans hS.live,hS.next,hS.chain⟩
def om (hM:aA s) (hc:c∈s.aa) {x:Slab} (hx:x∈c.ab) : ∃ b∈s.Heap.Live,b.At=x.At:=by
 obtain ⟨i,hi,rfl⟩:=aeu hc;obtain ⟨k,hk,rfl⟩:=aeu hx;have hC:=(hM.each i hi).may;have h1:=(hC.aB k hk).live;have h2:=bV hC.lay;rcases Classical.em (∃ b∈s.Heap.Live,b.At=s.aa[i].ab[k].At) with h|h
 ·exact h
 ·rw [Et fun b hb e=>h ⟨b,hb,e⟩] at h1;omega
def cU.from_ {h:Heap} {u:Heap×Int×Int} (a:cU h cpu o fl u) (h0:u.2.2=0) : bK h∧u.1.bJ=h.bJ∧(∃ t,lf t∧u.1.Live=dX h u.2.1 o t) ∧ ∀ b∈h.Live,b.At≠u.2.1:=by
 obtain ⟨y0,y1,s,c1,c2,c3,c4,c5,c7,c8,c9,ZA⟩:=a.ku h0
 have hm:bK h:=by
  cases a with
  | bad|range|form|room=>simp at h0
  | once hb|gQ hb=>exact bT.1 hb
 refine ⟨hm,c8,c5,?_⟩;cases a with
 | bad|range|form|room=>simp at h0
 | @once z0 z1 r hb hr ht hz ha =>
   rw [c1] at hz;simp only [List.cons.injEq,and_true] at hz;obtain ⟨rfl,rfl⟩:=hz;obtain ⟨i,e,h1,h2⟩:=qy c2 (ha.found c2.d.start.vs).2;exact c2.tC e h2
 | @gQ z0 z1 r hb hr ht hz ha h2 =>
   rw [c1] at hz;simp only [List.cons.injEq,and_true] at hz;obtain ⟨rfl,rfl⟩:=hz;obtain ⟨i,e,h1,h3⟩:=oK c2 (h2.found (fX c2.d).vs).2;exact c2.tC e h3
def mf {h:Heap} (hm:bK h) (hf:bM h.Live a=true) : (gK h cpu a).bJ=h.bJ∧(gK h cpu a).Live=h.Live.eraseIdx (bE h.Live a)∧(gK h cpu a).dP=h.dP:=by
 obtain ⟨z0,z1,f⟩:=gL hm;obtain ⟨hk,_⟩:=jJ hf;by_cases ho : 0<h.Live[bE h.Live a].Order
 ·rw [rn f.d.cq hk rfl ho];exact ⟨rfl,rfl,rfl⟩
 ·rw [rp f.d.cq hk rfl ho];unfold kT;split<;>exact ⟨rfl,rfl,rfl⟩
def jB (h:gf l) (hf:bM l a=true) {b:Block}:b∈l.eraseIdx (bE l a)↔b∈l∧b.At≠a:=by
 obtain ⟨hk,QQ⟩:=jJ hf;have hu:=k7 h;rw [MV hu hk QQ rfl];unfold mS;simp only [List.mem_filter,Bool.not_eq_true',<- Bool.not_eq_true,kn];constructor
 ·rintro ⟨h1,h2⟩
  refine ⟨h1,fun e=>h2 ⟨e,?_⟩⟩;have e1:=iI h h1;have e2:=iI h (aet hk);rw [QQ] at e2;rw [e,e2] at e1;exact e1.symm
 ·rintro ⟨h1,h2⟩
  exact ⟨h1,fun e=>h2 e.1⟩
def Eu {a:cr} (hk:a.Kind=1) : s9 dy a:=fun s u hI h=>by
 cases h with
 | @bD u hk h =>
   by_cases he:u.2.2=0
   ·simp only [ms,if_pos he];obtain ⟨hm,e2,⟨t,_,e3⟩,e4⟩:=h.from_ he;have lA:=h.may he;refine Il hI lA (h.small hI.cS.small.heap) e2 fun c hc x hx => ?_
    obtain ⟨b,hb,Wh⟩:=om hI.may hc hx;refine uP hm.live lA.live fun y hy => ?_
    rw [e3];constructor
    ·exact fun h=>by unfold dX aM;rw [aey,aeC];rw [<- aex (bE s.Heap.Live u.2.1) s.Heap.Live,aeC] at h;rcases h with h|h;exact .inl h;exact .inr (afg _ h)
    ·intro h;rcases wM h with rfl|h
     ·exact absurd (Wh.trans hy.symm) (e4 b hb)
     ·exact h
   ·simp only [ms,if_neg he];exact hI
 | nX bP|drain bP|fL bP|kW bP|oQ bP|bo bP|eA bP|word bP|Ik bP=>omega
def Im (hI:dy s) (hc : 0<=cpu∧cpu<s.Heap.bJ) (hw:cV s (a*16)=true) : dy (oN s (gK s.Heap cpu a)):=by
 have hm:=hI.may.heap;have Wr:a*16 / 16=a:=by omega
 obtain ⟨hf,h0,_⟩:=dG hw;rw [Wr] at hf;have lA:=tG hm hc hf;obtain ⟨p1,p2,p3⟩:=mf (cpu:=cpu) hm hf;have ri:=xP s.Heap cpu a hI.cS.small.heap;rw [lS (bT.2 hm) hc hf] at ri;refine Il hI lA ri p1 fun c iq x hx => ?_
 have bG:x.At≠a:=fun e=>by
  unfold cV at hw;rw [Wr] at hw;simp only [Bool.and_eq_true,Bool.not_eq_true',<- Bool.not_eq_true] at hw;refine hw.2.1 ?_;unfold mV;rw [aeG];refine ⟨c,iq,?_⟩;unfold ur;rw [aeG];exact ⟨x,hx,decide_eq_true e⟩
 refine uP hm.live lA.live fun y hy => ?_
 rw [p2,jB hm.live hf];exact ⟨fun h=>⟨h,by rw [hy];exact bG⟩,fun h=>h.1⟩
def xX {a:cr} (hk:a.Kind=2) : s9 dy a:=fun s u hI h=>by
 cases h with
 | @nX u hk h =>
   cases h with
   | range|no|fault=>simp [ms];exact hI
   | ok h hw he =>
     simp only [ms,if_true];have hm:=hI.may.heap;obtain ⟨hf,_,_⟩:=dG hw;rw [show a.At*16 / 16=a.At by omega] at hf;by_cases hc : 0<=a.gl∧a.gl<s.Heap.bJ
     ·rw [lS (bT.2 hm) hc hf];exact Im hI hc hw
     ·rw [yW (bT.2 hm) hc] at he;exact absurd he (by simp)
 | bD bP|drain bP|fL bP|kW bP|oQ bP|bo bP|eA bP|word bP|Ik bP=>omega
def rG {a:cr} (hk:a.Kind=12) : s9 dy a:=fun s u hI h=>by
 cases h with
 | drain hk =>
   have hm:=hI.may.heap;obtain ⟨z0,z1,h1,_⟩:=hm.cq;have ri:=Ep s.Heap hI.cS.small.heap;rw [sX (bT.2 hm) h1] at ri ⊢;simp only [ms,if_true];exact Il hI (KY hm h1) ri rfl fun c hc x hx=>rfl
 | bD bP|nX bP|fL bP|kW bP|oQ bP|bo bP|eA bP|word bP|Ik bP=>omega
variable {per size:Int} {c':aN} {acc:List Int}
def gZ {h:Heap} (hm:bK h) {a b:Block} (ha:a∈h.Live) (hb:b∈h.Live) (bG:a.At≠b.At) : a.At+pw a.Order<=b.At∨b.At+pw b.Order<=a.At:=by
 obtain ⟨z0,z1,f⟩:=gL hm;rcases agD a.At (b.At+pw b.Order) with h1|h1
 ·rcases agD b.At (a.At+pw a.Order) with h2|h2
  ·exfalso;obtain ⟨k,hk,rfl⟩:=aeu ha;have la:=(f.live.each k hk);have lb:=f.live.all b hb;have pa:=cM la.1.1 la.1.2;have pb:=cM lb.1.1 lb.1.2
   have Yj:b∈h.Live.eraseIdx k:=by
    obtain ⟨j,hj,rfl⟩:=aeu hb;have my:j≠k:=fun e=>by subst e;exact bG rfl
    rw [afE];exact ⟨j,hj,my,rfl⟩
   have h3:=f.Sj (max h.Live[k].At b.At).toNat;have h4:=tE hk (max h.Live[k].At b.At).toNat;have h5:=PQ Yj (i:=(max h.Live[k].At b.At).toNat) (by have:=la.2.1;have:=lb.2.1;omega);have h6:=(rB (a:=h.Live[k].At) (o:=h.Live[k].Order) (i:=(max h.Live[k].At b.At).toNat)).2 (by have:=la.2.1;have:=lb.2.1;omega);unfold uN at h3;omega
  ·exact .inl h2
 ·exact .inr h1
def g7 (hM:aA s) (hc:c∈s.aa) {x:Slab} (hx:x∈c.ab) : ∃ b∈s.Heap.Live,b.At=x.At∧b.Order=c.Order:=by
 obtain ⟨b,hb,e⟩:=om hM hc hx;refine ⟨b,hb,e,?_⟩;obtain ⟨i,hi,rfl⟩:=aeu hc;obtain ⟨k,hk,rfl⟩:=aeu hx;have h1:=((hM.each i hi).may.aB k hk).live;rw [<- e,iI hM.heap.live hb] at h1;exact h1
def mN {t:Int} (hl:dp size=(o,per,0)) (h:iu size per t a=true) : 16*t<=a∧a<16*(t+pw o):=by
 have hp:=kr hl;unfold iu at h;simp only [Bool.and_eq_true,decide_eq_true_eq] at h;obtain ⟨p,ep⟩ : ∃ p,per*size=p:=⟨_,rfl⟩;rw [ep] at hp h;rcases hp with ⟨rfl,h2⟩|⟨rfl,h2⟩|⟨rfl,h2⟩
 ·have:pw 0=1:=by decide
  omega
 ·have:pw 1=2:=by decide
  omega
 ·have:pw 2=4:=by decide
  omega
def px (c:aN) : List Int:=c.ab.map fun x=>x.At
def da (cs:List aN) : aH cs=(cs.map px).flatten:=by unfold aH;rw [afT];rfl
def xY {l:List Slab} (ha:acc.Nodup) : tv acc l↔(acc++l.map fun x=>x.At).Nodup:=by
 constructor
 ·intro h
  have key:∀ k,k<=l.length->(acc++(l.take k).map fun x=>x.At).Nodup:=by
   intro k;induction k with
   | zero=>intro _;simpa using ha
   | succ k ih =>
     intro hk;rw [aeA (by omega),aeV,<- aey,afe];refine ⟨ih (by omega),by simp,fun a ha b hb => ?_⟩;simp only [List.map_cons,List.map_nil,List.mem_singleton] at hb;subst hb;exact fun e=>h k (by omega) (e ▸ ha)
  have:=key _ (aew _)
  rwa [afk] at this
 ·intro h k hk hm;have e:l=l.take k++l[k]::l.drop (k+1):=by simp
  rw [e,aeV,<- aey,afe] at h;exact h.2.2 _ hm _ (by rw [afO];exact List.mem_cons_self) rfl
def jt:(∀ (i:Nat) (h:i<s.aa.length),tv (aH (s.aa.take i)) s.aa[i].ab)↔(aH s.aa).Nodup:=by
 have step:∀ i (h:i<s.aa.length),aH (s.aa.take (i+1))=aH (s.aa.take i)++s.aa[i].ab.map fun x=>x.At:=fun i h=>by
  unfold aH;rw [aeA h,aeM];simp
 constructor
 ·intro h
  have key:∀ k,k<=s.aa.length->(aH (s.aa.take k)).Nodup:=by
   intro k;induction k with
   | zero=>intro _;simp [aH]
   | succ k ih =>
     intro hk;rw [step k (by omega)];exact (xY (ih (by omega))).1 (h k (by omega))
  have:=key _ (aew _)
  rwa [afk] at this
 ·intro h i hi
  have jc:∀ k,(aH (s.aa.take k)).Nodup:=fun k=>by
   have e:aH s.aa=aH (s.aa.take k)++aH (s.aa.drop k):=by
    unfold aH;rw [<- aeM,aex]
   rw [e,afe] at h;exact h.1
  refine (xY (jc i)).2 ?_;rw [<- step i hi];exact jc (i+1)
def ta {t:ag} (hM:aA s) (hi:i<s.aa.length) (hw:t.Words.length=4096) (hh:bK t.Heap) (hc:t.aa=s.aa.set i c') (h1:c'.Names=s.aa[i].Names) (h2:c'.ay=s.aa[i].ay)
 (hm:dE t c') (ho:∀ c∈s.aa,(∃ j,∃ hj:j<s.aa.length,j≠i∧c=s.aa[j])->dE t c) (hn:(aH t.aa).Nodup) : aA t:=by
 have hlen:t.aa.length=s.aa.length:=by rw [hc,ae0]
 have ig:∀ (j:Nat) (hj:j<t.aa.length),t.aa[j]=if i=j then c' else s.aa[j]'(by omega):=fun j hj=>by
  have:t.aa[j]=(s.aa.set i c')[j]'(by rw [ae0];omega):=by congr 1
  rw [this,aeP]
 have SL:∀ j,ba (t.aa.take j)=ba (s.aa.take j):=fun j=>by
  have e:t.aa.map (fun c=>c.Names)=s.aa.map fun c=>c.Names:=by
   rw [hc,afR];refine afj (by simp) fun k g1 g2 => ?_
   rw [aeP];split
   ·rename_i e;subst e;rw [h1];simp
   ·rfl
  unfold ba;rw [afT,afT,agu,agu,e]
 refine ⟨hw,hh,by rw [hlen];exact hM.most,fun j hj => ?_⟩;have Wx:j<s.aa.length:=by omega
 have hC:=hM.each j Wx
 have ZW:∀ (k:Nat) (hk:k<t.aa.length),t.aa[k].ay=(s.aa[k]'(by omega)).ay:=fun k hk=>by
  rw [ig k hk];split
  ·rename_i e;subst e;exact h2
  ·rfl
 refine ⟨?_,fun k hk => ?_,?_,jt.2 hn j hj⟩
 ·rw [ig j hj];split
  ·exact hm
  ·rename_i e;exact ho _ (aet Wx) ⟨j,Wx,fun h=>e h.symm,rfl⟩
 ·rw [ZW j hj,ZW k (by omega)];exact hC.size k hk
 ·rw [SL,ig j hj];split
  ·rename_i e;subst e;rw [h1];exact hC.names
  ·exact hC.names
def gz {t:ag} (hM:aA t) (hs:t.small) : t.cS:=by
 refine ⟨hs,JF hM.heap,fun c hc x hx => ?_,fun c hc n hn => ?_⟩
 ·obtain ⟨b,hb,e⟩:=om hM hc hx;have:=(hM.heap.live.all b hb).2.1
  omega
 ·obtain ⟨i,hi,rfl⟩:=aeu hc;obtain ⟨k,hk,rfl⟩:=aeu hn;have:=((hM.each i hi).names.each k hk).1
  unfold gx at this;simp only [Bool.and_eq_true,decide_eq_true_eq] at this;omega
def zd (hk:k<c.ab.length) {y:Slab} (h:y.At=c.ab[k].At) : (c.ab.set k y).map (fun x=>x.At)=c.ab.map fun x=>x.At:=by
 rw [afR];refine afj (by simp) fun j g1 g2 => ?_
 rw [aeP];split
 ·rename_i e;subst e;simp [h]
 ·rfl
def g9 {cs:List aN} (hi:i<cs.length) (h:px c'=px cs[i]) : aH (cs.set i c')=aH cs:=by
 rw [da,da,afR];congr 1
 refine afj (by simp) fun j g1 g2 => ?_
 rw [aeP];split
 ·rename_i e;subst e;simp [h]
 ·rfl
def dE.same {t:ag} (h:dE s c) (hw:t.Words=s.Words) (hh:t.Heap=s.Heap) : dE t c :=
 ⟨h.lay,h.names,by rw [hh];exact h.aV,fun k hk=>⟨by rw [hh];exact (h.aB k hk).live,(h.aB k hk).next,by rw [hw];exact (h.aB k hk).chain⟩,h.cX⟩
def F8 (hM:aA s) {cpu:Nat} (hi:i<s.aa.length) (qA:cpu<s.aa[i].ak.length) (hk:k<s.aa[i].ab.length) (hf : 0<s.aa[i].ab[k].ai)
 (hA:s.aa[i].ab[k].At=s.aa[i].ak[cpu]∨s.aa[i].ab[k].At∉s.aa[i].ak) :
 aA ⟨s.Words,s.Heap,s.aa.set i (dL s.aa[i] cpu k (s.Words.getD s.aa[i].ab[k].cj.toNat 0))⟩:=by
 have hC:=(hM.each i hi).may;have eD:iH s.aa[i] k=s.aa[i].ab[k]:=fB hk
 have hl:=bV hC.lay
 have AX:px (dL s.aa[i] cpu k (s.Words.getD s.aa[i].ab[k].cj.toNat 0))=px s.aa[i]:=by
  unfold px dL;simp only [eD];exact zd hk rfl
 refine ta hM hi hM.words hM.heap rfl rfl rfl ?_ (fun c hc _ => ?_) ?_
 ·refine ⟨hC.lay,hC.names,by simp only [dL,List.length_set];exact hC.aV,fun j hj => ?_,fun j hj => ?_⟩
  ·simp only [dL,List.length_set] at hj;have hS:=hC.aB j hj
   have SM:∀ (q:Nat) (hq:q<s.aa[i].ab.length),((dL s.aa[i] cpu k (s.Words.getD s.aa[i].ab[k].cj.toNat 0)).ab[q]'(by simp only [dL,List.length_set];exact hq)).At=s.aa[i].ab[q].At:=fun q hq=>by
    simp only [dL,List.getElem_set,eD];split
    ·rename_i e;subst e;rfl
    ·rfl
   refine ⟨by rw [SM j hj];exact hS.live,fun h0=>by rw [SM j hj,SM (j-1) (by omega)];exact hS.next h0,?_⟩;obtain ⟨out,ho⟩:=hS.chain;by_cases e:k=j
   ·subst e;have Cc : 0<=s.aa[i].bL:=by omega
    obtain ⟨k1,k2,k3,k4,k5⟩:=(gD Cc).1 ho;obtain ⟨q,rest,e1,e2,hq,e3⟩:=k1.head (fun e=>by rw [e] at k4;simp at k4;omega);refine ⟨rest,?_⟩
    have ev:s.Words.getD s.aa[i].ab[k].cj.toNat 0=s.Words[q]:=by
     rw [e1];simp [List.getD,List.getElem?_eq_getElem hq]
    have es:(dL s.aa[i] cpu k (s.Words.getD s.aa[i].ab[k].cj.toNat 0)).ab[k]'(by simp only [dL,List.length_set];exact hk)=⟨s.aa[i].ab[k].At,s.aa[i].ab[k].ai-1,s.Words[q]⟩:=by
     simp only [dL,List.getElem_set,if_true,eD,ev]
    rw [es];rw [e2] at k2 k3 k4 k5;simp only [List.length_cons] at k3 k4;exact (gD (x:=⟨s.aa[i].ab[k].At,s.aa[i].ab[k].ai-1,s.Words[q]⟩) Cc).2 ⟨e3,(aft.1 k2).2,by omega,by simp only;omega,fun a ha=>k5 a (by simp [ha])⟩
   ·refine ⟨out,?_⟩
    have es:(dL s.aa[i] cpu k (s.Words.getD s.aa[i].ab[k].cj.toNat 0)).ab[j]'(by simp only [dL,List.length_set];exact hj)=s.aa[i].ab[j]:=by
     simp only [dL,List.getElem_set,if_neg e]
    rw [es];exact ho
  ·simp only [dL,List.length_set] at hj
   have iU:∀ a,(dL s.aa[i] cpu k (s.Words.getD s.aa[i].ab[k].cj.toNat 0)).ab.any (yu a)=s.aa[i].ab.any (yu a):=fun a=>by
    have e1:∀ l:List Slab,l.any (yu a)=(l.map fun x=>x.At).any fun y=>decide (y=a):=fun l=>by rw [agB];rfl
    rw [e1,e1];have:=AX
    unfold px at this;rw [this]
   have Cd:s.aa[i].ab.any (yu s.aa[i].ab[k].At)=true:=aeG.2 ⟨_,aet hk,by simp [yu]⟩
   have hJ:=hC.cX j hj;unfold uJ at hJ ⊢;have Vd:(dL s.aa[i] cpu k (s.Words.getD s.aa[i].ab[k].cj.toNat 0)).ak=s.aa[i].ak.set cpu s.aa[i].ab[k].At:=by simp only [dL,eD]
   rcases hA with hA|hA
   ·have Ve:s.aa[i].ak.set cpu s.aa[i].ab[k].At=s.aa[i].ak:=by rw [hA,afb]
    have key:∀ (L:List Int) (eL:L=s.aa[i].ak) (hq:j<L.length),L[j] = -1∨(L[j]∉L.take j∧(dL s.aa[i] cpu k (s.Words.getD s.aa[i].ab[k].cj.toNat 0)).ab.any (yu L[j])=true):=fun L eL hq=>by
     subst eL;rw [iU];exact hJ
    exact key _ (Vd.trans Ve) _
   ·have key:∀ (L:List Int) (eL:L=s.aa[i].ak.set cpu s.aa[i].ab[k].At) (hq:j<L.length),L[j] = -1∨(L[j]∉L.take j∧(dL s.aa[i] cpu k (s.Words.getD s.aa[i].ab[k].cj.toNat 0)).ab.any (yu L[j])=true):=fun L eL hq=>by
     subst eL;rw [iU,aeP];by_cases e:cpu=j
     ·subst e;right;rw [if_pos rfl,List.take_set_of_le (aew _)];exact ⟨fun h=>hA (aeX h),Cd⟩
     ·rw [if_neg e];rcases hJ with h|⟨h1,h2⟩
      ·exact .inl h
      ·refine .inr ⟨fun hm => ?_,h2⟩;obtain ⟨q,MT,vq⟩:=aeu hm;simp only [List.length_take,List.length_set] at MT;rw [ae3,aeP] at vq;split at vq
       ·exact hA (vq ▸ aet hj)
       ·refine h1 ?_;rw [<- vq];exact afs.2 ⟨q,by omega,rfl⟩
    exact key _ Vd _
 ·obtain ⟨j,hj,rfl⟩:=aeu hc;exact (hM.each j hj).may.same rfl rfl
 ·simp only;rw [g9 hi AX];exact jt.1 fun j hj=>(hM.each j hj).aB
def NW {cs:List aN} (hi:i<cs.length) {p:Nat} (h:px c'=(px cs[i]).take p++a::(px cs[i]).drop p) (hn:(aH cs).Nodup) (ha:a∉aH cs) : (aH (cs.set i c')).Nodup:=by
 have e1:cs=cs.take i++cs[i]::cs.drop (i+1):=by simp
 have e2:cs.set i c'=cs.take i++c'::cs.drop (i+1):=by rw [afo,if_pos hi]
 have f1:aH cs=(aH (cs.take i)++(px cs[i]).take p)++((px cs[i]).drop p++aH (cs.drop (i+1))):=by
  conv=>lhs;rw [e1]
  rw [da,da,da,aeV,afO,afG,afP];simp only [List.append_assoc];rw [<- aey (List.take p _),aex]
 have f2:aH (cs.set i c')=(aH (cs.take i)++(px cs[i]).take p)++a::((px cs[i]).drop p++aH (cs.drop (i+1))):=by
  rw [e2,da,da,da,aeV,afO,afG,afP,h];simp only [List.append_assoc,List.cons_append]
 rw [f2,List.perm_middle.nodup_iff,<- f1,aft];exact ⟨ha,hn⟩
def C6 {t:ag} {x:Slab} {out:List Int} (hM:aA s) (hc:c∈s.aa) (hx:x∈c.ab) (MY:dp c.ay=(c.Order,c.bL,0)) (KC:bO s.Words c.ay c.bL x out)
 (SN:∀ a:Int,16*x.At<=a->a<16*(x.At+pw c.Order)->0<=a->t.Words[a.toNat]?=s.Words[a.toNat]?) : bO t.Words c.ay c.bL x out:=by
 have Cc : 0<=c.bL:=by have:=bV MY;omega
 obtain ⟨k1,k2,k3,k4,k5⟩:=(gD Cc).1 KC;exact (gD Cc).2 ⟨k1.congr fun a ha h0=>by obtain ⟨r1,r2⟩:=mN MY (k5 a ha);exact SN a r1 r2 h0,k2,k3,k4,k5⟩
def v5 {l:List α} {p:Nat} (hp:p<=l.length) {x : α} (hj:j<(aM l p x).length) : (∃ h:j<l.length,j<p∧(aM l p x)[j]=l[j])∨(j=p∧(aM l p x)[j]=x)∨(∃ h:j-1<l.length,p<j∧(aM l p x)[j]=l[j-1]):=by
 have hl:=di l hp x;rcases ae6 j p with h|h|h
 ·left;have:=vA hp (x:=x) h
  rw [aez hj,aez (by omega)] at this;injection this with this
  exact ⟨by omega,h,this⟩
 ·right;left;subst h;have:=lR hp (x:=x)
  rw [aez hj] at this;injection this with this
  exact ⟨rfl,this⟩
 ·right;right;obtain ⟨q,rfl⟩ : ∃ q,j=q+1:=⟨j-1,by omega⟩;have:=z7 hp (x:=x) (k:=q) (by omega)
  rw [aez hj,aez (by omega)] at this;injection this with this
  exact ⟨by simp only [Nat.add_sub_cancel];omega,h,by simpa using this⟩
def F9 (h:fe c a<c.ab.length) : ¬ c.ab[fe c a].At<a:=by
 have:=Ju (p:=fun x:Slab=>decide (x.At<a)) c.ab c.ab[fe c a] (aez h)
 exact of_decide_eq_false this
def ng (h:dE s c) : c.ab.Pairwise fun x y=>x.At<y.At:=by
 have key:∀ (d i:Nat) (hj:i+d+1<c.ab.length),(c.ab[i]'(by omega)).At<c.ab[i+d+1].At:=by
  intro d;induction d with
  | zero=>intro i hj;have:=(h.aB (i+1) hj).next (by omega);simpa using this
  | succ d ih =>
    intro i hj;have h1:=ih i (by omega);have h2:=(h.aB (i+(d+1)+1) hj).next (by omega);simp only [Nat.add_sub_cancel] at h2;have e:i+d+1=i+(d+1):=by omega
    simp only [e] at h1;omega
 rw [aeB];intro i j hi hj o6;have:=key (j-i-1) i (by omega)
 have e:i+(j-i-1)+1=j:=by omega
 simp only [e] at this;exact this
def Ga (hM:aA s) (hi:i<s.aa.length) {u:Heap×Int×Int} (hu:cU s.Heap cpu s.aa[i].Order 0 u) (u0:u.2.2=0) (hc:jz s.Words.length (16*u.2.1) s.aa[i].ay s.aa[i].bL) :
 (∀ b:Int,0<=b->(b<16*u.2.1∨16*(u.2.1+pw s.aa[i].Order)<=b)->(dH s.Words (16*u.2.1) s.aa[i].ay s.aa[i].bL)[b.toNat]?=s.Words[b.toNat]?) ∧
 (∀ c∈s.aa,∀ x∈c.ab,x.At≠u.2.1∧o8 u.1.Live x.At=o8 s.Heap.Live x.At∧(x.At+pw c.Order<=u.2.1∨u.2.1+pw s.aa[i].Order<=x.At)) ∧
 (∀ c∈s.aa,dE s c -> ∀ x∈c.ab,∀ out,bO s.Words c.ay c.bL x out->bO (dH s.Words (16*u.2.1) s.aa[i].ay s.aa[i].bL) c.ay c.bL x out) ∧
 bO (dH s.Words (16*u.2.1) s.aa[i].ay s.aa[i].bL) s.aa[i].ay s.aa[i].bL ⟨u.2.1,s.aa[i].bL,16*u.2.1⟩ (xh (16*u.2.1).toNat s.aa[i].ay.toNat s.aa[i].bL.toNat 0):=by
 have hC:=(hM.each i hi).may;have hl:=bV hC.lay;have Vf:=kr hC.lay;have kZ:=hu.at_ u0;obtain ⟨hm,Cb,⟨ty,zO,C7⟩,JG⟩:=hu.from_ u0;have lA:=hu.may u0;obtain ⟨a,ea⟩ : ∃ a,u.2.1=a:=⟨_,rfl⟩;rw [ea] at hc kZ C7 JG ⊢
 have TM:(⟨a,s.aa[i].Order,ty⟩ : Block)∈u.1.Live:=by
  rw [C7];simp only [dX,aM];simp
 have jc:∀ b∈s.Heap.Live,b∈u.1.Live:=fun b hb=>by
  rw [C7];simp only [dX,aM];rw [<- aex (bE s.Heap.Live a) s.Heap.Live,aeC] at hb;simp only [List.mem_append];rcases hb with hb|hb
  ·exact .inl (.inl hb)
  ·exact .inr hb
 have wT:∀ c∈s.aa,∀ x∈c.ab,x.At≠a∧o8 u.1.Live x.At=o8 s.Heap.Live x.At∧(x.At+pw c.Order<=a∨a+pw s.aa[i].Order<=x.At):=fun c hc x hx=>by
  obtain ⟨b,hb,e1,e2⟩:=g7 hM hc hx;have bG:x.At≠a:=by rw [<- e1];exact JG b hb
  refine ⟨bG,?_,?_⟩
  ·rw [<- e1,iI hm.live hb,iI lA.live (jc b hb)]
  ·have:=gZ lA (jc b hb) TM (by rw [e1];exact bG)
   rw [e1,e2] at this;exact this
 obtain ⟨p,hp⟩ : ∃ p,s.aa[i].bL*s.aa[i].ay=p:=⟨_,rfl⟩;rw [hp] at Vf;unfold jz at hc;obtain ⟨Cx,QX,V7,hc4,PE,hc6⟩:=hc
 have hmul:∀ q:Nat,q<s.aa[i].bL.toNat->((q*s.aa[i].ay.toNat:Nat) : Int)+s.aa[i].ay<=p:=fun q hq=>by
  have h1:(q+1)*s.aa[i].ay.toNat<=s.aa[i].bL.toNat*s.aa[i].ay.toNat:=aeW _ (by omega)
  have h2:((s.aa[i].bL.toNat*s.aa[i].ay.toNat:Nat) : Int)=p:=by
   rw [agi,ae1 (by omega),ae1 (by omega),hp]
  rw [afi] at h1;omega
 have hw:∀ b:Int,0<=b->(b<16*a∨16*(a+pw s.aa[i].Order)<=b)->(dH s.Words (16*a) s.aa[i].ay s.aa[i].bL)[b.toNat]?=s.Words[b.toNat]?:=fun b h0 hb=>by
  unfold dH;refine rz _ _ _ _ _ _ fun q hq e => ?_
  have h1:=hmul q hq;have Yk:pw 0=1:=by decide
  have Yl:pw 1=2:=by decide
  have Ym:pw 2=4:=by decide
  rcases Vf with ⟨eo,h2⟩|⟨eo,h2⟩|⟨eo,h2⟩<;>rw [eo] at hb<;>omega
 have hold:∀ c∈s.aa,dE s c -> ∀ x∈c.ab,∀ out,bO s.Words c.ay c.bL x out->bO (dH s.Words (16*a) s.aa[i].ay s.aa[i].bL) c.ay c.bL x out:=fun c hc TN x hx out ho =>
  C6 (t:=⟨dH s.Words (16*a) s.aa[i].ay s.aa[i].bL,u.1,[]⟩) hM hc hx TN.lay ho fun b r1 r2 h0=>hw b h0 (by have:=(wT c hc x hx).2.2;omega)
 have Io:bO (dH s.Words (16*a) s.aa[i].ay s.aa[i].bL) s.aa[i].ay s.aa[i].bL ⟨a,s.aa[i].bL,16*a⟩ (xh (16*a).toNat s.aa[i].ay.toNat s.aa[i].bL.toNat 0):=by
  have Vg : 0<s.aa[i].ay.toNat:=by omega
  have ZX:∀ q,q<s.aa[i].bL.toNat->(16*a).toNat+q*s.aa[i].ay.toNat<s.Words.length:=fun q hq=>by
   have:=hmul q hq
   rw [afD] at hp;rw [hp] at hc6;omega
  have h1:=CV Vg ZX s.aa[i].bL.toNat 0 (by omega) (by omega);rw [Nat.zero_mul,agf,ae1 PE] at h1;refine (gD (by omega)).2 ⟨h1,Az Vg _ _,by rw [Ay];omega,by rw [Ay];simp only;omega,fun b hb => ?_⟩;obtain ⟨q,_,hq,rfl⟩:=Ax.1 hb;refine Af (k:=q) Cx (by omega) ?_;rw [agJ,agi,ae1 PE,ae1 (by omega)]
 exact ⟨hw,wT,hold,Io⟩
def Gb (hM:aA s) (hi:i<s.aa.length) {u:Heap×Int×Int} (hu:cU s.Heap cpu s.aa[i].Order 0 u) (u0:u.2.2=0) (hc:jz s.Words.length (16*u.2.1) s.aa[i].ay s.aa[i].bL) :
 aA ⟨dH s.Words (16*u.2.1) s.aa[i].ay s.aa[i].bL,u.1,s.aa.set i (ee s.aa[i] u.2.1)⟩:=by
 have hC:=(hM.each i hi).may;obtain ⟨hw,wT,hold,Io⟩:=Ga hM hi hu u0 hc;obtain ⟨hm,Cb,⟨ty,zO,C7⟩,JG⟩:=hu.from_ u0;have lA:=hu.may u0;obtain ⟨a,ea⟩ : ∃ a,u.2.1=a:=⟨_,rfl⟩;rw [ea] at hw wT hold Io C7 ⊢
 have TM:(⟨a,s.aa[i].Order,ty⟩ : Block)∈u.1.Live:=by
  rw [C7];simp only [dX,aM];simp
 have kb:=pA s.aa[i] a;refine ta hM hi (by simp only [dH,jy];exact hM.words) lA rfl rfl rfl ?_ (fun c hc _ => ?_) ?_
 ·refine ⟨hC.lay,hC.names,by simp only [ee];rw [Cb];exact hC.aV,fun j hj => ?_,fun j hj => ?_⟩
  ·have nr:j<(aM s.aa[i].ab (fe s.aa[i] a) ⟨a,s.aa[i].bL,16*a⟩).length:=hj
   have P8:s.aa[i]∈s.aa:=aet hi
   have Q9:∀ x∈s.aa[i].ab.drop (fe s.aa[i] a),a<x.At:=fun x hx=>by
    obtain ⟨q,hq,rfl⟩:=aeu hx;simp only [List.length_drop] at hq;rw [afl];have h1:=F9 (c:=s.aa[i]) (a:=a) (by omega);have h2:=(wT _ P8 _ (aet (show fe s.aa[i] a+q<s.aa[i].ab.length by omega))).1;rcases aeL q with e|e
    ·subst e;simp only [Nat.add_zero] at h2 ⊢;omega
    ·have h3:=ng hC;rw [aeB] at h3;have:=h3 (fe s.aa[i] a) (fe s.aa[i] a+q) (by omega) (by omega) (by omega)
     omega
   have Vh:∀ x∈s.aa[i].ab.take (fe s.aa[i] a),x.At<a:=fun x hx=>by
    obtain ⟨q,hq,rfl⟩:=aeu hx;simp only [List.length_take] at hq;rw [ae3];exact En (by omega) (by omega)
   have Gc:(aM s.aa[i].ab (fe s.aa[i] a) ⟨a,s.aa[i].bL,16*a⟩).Pairwise fun x y=>x.At<y.At:=by
    unfold aM;rw [aey,aeT];refine ⟨List.Pairwise.sublist (List.take_sublist _ _) (ng hC),?_,fun x hx y hy => ?_⟩
    ·rw [aeO,afq];exact ⟨Q9,List.Pairwise.sublist (List.drop_sublist _ _) (ng hC)⟩
    ·have h1:=Vh x hx;rcases aeC.1 hy with hy|hy
     ·simp only [List.mem_singleton] at hy;subst hy;exact h1
     ·have:=Q9 y hy;omega
   have NX : 0<j->((aM s.aa[i].ab (fe s.aa[i] a) ⟨a,s.aa[i].bL,16*a⟩)[j-1]'(by omega)).At<((aM s.aa[i].ab (fe s.aa[i] a) ⟨a,s.aa[i].bL,16*a⟩)[j]'nr).At:=fun h0=>by
    rw [aeB] at Gc;exact Gc (j-1) j (by omega) nr (by omega)
   have key:∀ (y:Slab),((∃ k,∃ hk:k<s.aa[i].ab.length,y=s.aa[i].ab[k])∨y=⟨a,s.aa[i].bL,16*a⟩)->o8 u.1.Live y.At=s.aa[i].Order ∧ ∃ out,bO (dH s.Words (16*a) s.aa[i].ay s.aa[i].bL) s.aa[i].ay s.aa[i].bL y out:=fun y hy=>by
    rcases hy with ⟨k,hk,rfl⟩|rfl
    ·have hS:=hC.aB k hk;obtain ⟨out,ho⟩:=hS.chain;exact ⟨((wT _ P8 _ (aet hk)).2.1).trans hS.live,out,hold _ P8 hC _ (aet hk) out ho⟩
    ·exact ⟨iI lA.live TM,_,Io⟩
   have yV:=key ((aM s.aa[i].ab (fe s.aa[i] a) ⟨a,s.aa[i].bL,16*a⟩)[j]'nr) (by
    rcases v5 kb nr with ⟨h,_,e⟩|⟨_,e⟩|⟨h,_,e⟩
    ·exact .inl ⟨j,h,e⟩
    ·exact .inr e
    ·exact .inl ⟨j-1,h,e⟩)
   exact ⟨yV.1,NX,yV.2⟩
  ·have:=hC.cX j hj
   unfold uJ at this ⊢;rcases this with h|⟨h1,h2⟩
   ·exact .inl h
   ·refine .inr ⟨h1,?_⟩;simp only [ee,aM];rw [aeG] at h2 ⊢;obtain ⟨x,hx,OX⟩:=h2;rw [<- aex (fe s.aa[i] a) s.aa[i].ab,aeC] at hx;refine ⟨x,?_,OX⟩;simp only [List.mem_append];rcases hx with hx|hx
    ·exact .inl (.inl hx)
    ·exact .inr hx
 ·obtain ⟨j,hj,rfl⟩:=aeu hc;have hJ:=(hM.each j hj).may;refine ⟨hJ.lay,hJ.names,by simp only;rw [Cb];exact hJ.aV,fun k hk => ?_,hJ.cX⟩;have hS:=hJ.aB k hk;refine ⟨((wT _ hc _ (aet hk)).2.1).trans hS.live,hS.next,?_⟩;obtain ⟨out,ho⟩:=hS.chain;exact ⟨out,hold _ hc hJ _ (aet hk) out ho⟩
 ·simp only;refine NW hi (p:=fe s.aa[i] a) (a:=a) ?_ (jt.1 fun j hj=>(hM.each j hj).aB) ?_
  ·simp only [px,ee,aM,List.map_append,List.map_cons,List.map_nil,List.map_take,List.map_drop,List.append_assoc,List.singleton_append]
  ·intro kF;unfold aH at kF;obtain ⟨c,hc,hx⟩:=aeK.1 kF;obtain ⟨x,hx,e⟩:=aeH.1 hx;exact (wT c hc x hx).1 e
variable {p:α -> Bool}
def JH {l:List α} (h:idxOf p l=(k:Int)) : ∃ hk:k<l.length,p l[k]=true:=by
 unfold idxOf at h;split at h
 ·rename_i ha;have h1:l.findIdx p<l.length:=List.findIdx_lt_length_of_exists (by simpa using ha)
  have e:l.findIdx p=k:=by omega
  subst e;exact ⟨h1,List.findIdx_getElem (w:=h1)⟩
 ·omega
def JI {cpu:Nat} (qA:cpu<c.ak.length) (h:qz c cpu=(k:Int)) : ∃ hk:k<c.ab.length,0<c.ab[k].ai∧(c.ab[k].At=c.ak[cpu]∨c.ab[k].At∉c.ak):=by
 unfold qz at h;split at h
 ·rename_i ho;rw [h] at ho;have h':=h;unfold Em at h';obtain ⟨hk,hp⟩:=JH h';have e:iH c (k:Int).toNat=c.ab[k]:=by simp only [Int.toNat_natCast];exact fB hk
  rw [e] at ho;refine ⟨hk,ho.2,.inl ?_⟩;have:=of_decide_eq_true hp
  rw [this];simp [List.getD,List.getElem?_eq_getElem qA]
 ·obtain ⟨hk,hp⟩:=JH h;unfold CU at hp;simp only [Bool.and_eq_true,decide_eq_true_eq,Bool.not_eq_true',decide_eq_false_iff_not] at hp;exact ⟨hk,hp.1,.inr hp.2⟩
def xp {x:Int} (o1 : 0<=o) (o2:o<=4) (x1 : 0<=x) (x2:x<256) (h3:x % pw o=0) : x+pw o<=256:=by
 rcases fQ o1 o2 with ⟨e1,e2⟩|⟨e1,e2⟩|⟨e1,e2⟩|⟨e1,e2⟩|⟨e1,e2⟩<;>rw [e2] at h3 ⊢<;>omega
def Ip (hM:aA s) (hi:i<s.aa.length) {u:Heap×Int×Int} (hu:cU s.Heap cpu s.aa[i].Order 0 u) (u0:u.2.2=0) : jz s.Words.length (16*u.2.1) s.aa[i].ay s.aa[i].bL:=by
 have hC:=(hM.each i hi).may;have hl:=bV hC.lay;have Vf:=kr hC.lay;have kZ:=hu.at_ u0;obtain ⟨hm,Cb,⟨ty,zO,C7⟩,JG⟩:=hu.from_ u0;have lA:=hu.may u0
 have TM:(⟨u.2.1,s.aa[i].Order,ty⟩ : Block)∈u.1.Live:=by
  rw [C7];simp only [dX,aM];simp
 obtain ⟨l1,l2,l3,_⟩:=lA.live.all _ TM;have hr:=xp l1.1 l1.2 l2.1 (show u.2.1<256 by omega) l3;have hw:=hM.words;have Yk:pw 0=1:=by decide
 have Yl:pw 1=2:=by decide
 have Ym:pw 2=4:=by decide
 obtain ⟨p,hp⟩ : ∃ p,s.aa[i].bL*s.aa[i].ay=p:=⟨_,rfl⟩;unfold jz;rw [afD s.aa[i].ay,hp];rw [hp] at Vf;rw [hw];simp only at hr;rcases Vf with ⟨e,h⟩|⟨e,h⟩|⟨e,h⟩<;>rw [e] at hr<;>omega
def Iq {h:Heap} {u:Heap×Int×Int} (hm:bK h) (hc : 0<=cpu∧cpu<h.bJ) (ho : 0<=o∧o<=4) (a:cU h cpu o 0 u) : u.2.2=0∨u.2.2=6:=by
 cases a with
 | bad hb=>rw [bT.2 hm] at hb;cases hb
 | range _ hr=>exact absurd ⟨hc,ho⟩ hr
 | form _ _ ht=>exact absurd ht (by decide)
 | once=>exact .inl rfl
 | gQ=>exact .inl rfl
 | room=>exact .inr rfl
def pR.jQ {u:ag×Int×Int} (hI:dy s) (h:pR s n cpu u) (ha:gV s n cpu=0) : (u.2.2=0∧dy u.1)∨u.2.2=6:=by
 have hM:=hI.may;have ri:=h.small hI.cS;obtain ⟨_,_,qQ⟩:=lc ha;cases h with
 | ask h=>exact absurd ha h
 | @EO i m _ e hi hm =>
   have hC:=(hM.each i hi).may;have hl:=bV hC.lay;have qA:cpu.toNat<s.aa[i].ak.length:=by have:=hC.aV;omega
   cases hm with
   | @u7 k hp =>
     left;obtain ⟨hk,hf,hA⟩:=JI qA hp;have:=F8 hM hi qA hk hf hA
     refine ⟨rfl,?_⟩
     have e:(mv s i cpu.toNat (some ⟨s.Words,s.Heap,s.aa[i],k⟩,0)).1=⟨s.Words,s.Heap,s.aa.set i (dL s.aa[i] cpu.toNat k (s.Words.getD s.aa[i].ab[k].cj.toNat 0))⟩:=by
      simp only [mv,bz,nz,fB hk]
     rw [e] at ri ⊢;exact ⟨gz this ri,this⟩
   | @room v hp hv he =>
     right;have:=Iq hM.heap (cpu:=(cpu.toNat:Int)) (by omega) (by omega) hv
     rcases this with h|h
     ·exact absurd h he
     ·exact h
   | @chain v hp hv he KC=>exact absurd (Ip hM hi hv he) KC
   | @new v hp hv he KC =>
     left;refine ⟨rfl,?_⟩;have hG:=Gb hM hi hv he KC;have kb:=pA s.aa[i] v.2.1;have kZ:=hv.at_ he;obtain ⟨_,_,_,JG⟩:=hv.from_ he
     have hk:fe s.aa[i] v.2.1<(ee s.aa[i] v.2.1).ab.length:=by
      simp only [ee];rw [di _ kb];omega
     have NY:(ee s.aa[i] v.2.1).ab[fe s.aa[i] v.2.1]=⟨v.2.1,s.aa[i].bL,16*v.2.1⟩:=by
      have:=lR kb (x:=(⟨v.2.1,s.aa[i].bL,16*v.2.1⟩ : Slab))
      obtain ⟨_,e⟩:=aeQ.1 this;exact e
     have key:∀ (c:aN) (ec:c=ee s.aa[i] v.2.1) (t:ag) (ht:aA t) (NZ:i<t.aa.length) (N0:t.aa[i]=c) (yV:fe s.aa[i] v.2.1<c.ab.length),aA ⟨t.Words,t.Heap,t.aa.set i (dL c cpu.toNat (fe s.aa[i] v.2.1) (t.Words.getD c.ab[fe s.aa[i] v.2.1].cj.toNat 0))⟩:=fun c ec t ht NZ N0 yV=>by
      subst N0
      have e2:t.aa[i].ab[fe s.aa[i] v.2.1]=⟨v.2.1,s.aa[i].bL,16*v.2.1⟩:=by
       have:∀ (d:aN) (hd:d=ee s.aa[i] v.2.1) (hq:fe s.aa[i] v.2.1<d.ab.length),d.ab[fe s.aa[i] v.2.1]=⟨v.2.1,s.aa[i].bL,16*v.2.1⟩:=fun d hd hq=>by subst hd;exact NY
       exact this _ ec yV
      have Vi:t.aa[i].ak=s.aa[i].ak:=by rw [ec];rfl
      refine F8 ht NZ (by rw [Vi];exact qA) yV (by rw [e2];simp only;omega) (.inr ?_);rw [e2,Vi];intro kF;obtain ⟨q,hq,eq⟩:=aeu kF;have Ih:=hC.cX q hq;unfold uJ at Ih;rw [eq] at Ih;rcases Ih with h|⟨_,h⟩
      ·simp only at h;omega
      ·obtain ⟨x,hx,OX⟩:=aeG.1 h;obtain ⟨b,hb,eb⟩:=om hM (aet hi) hx;exact JG b hb (by rw [eb];exact of_decide_eq_true OX)
     have hT:=key _ rfl _ hG (by simp only [List.length_set];exact hi) (by simp) hk
     have e:(mv s i cpu.toNat (some ⟨dH s.Words (16*v.2.1) s.aa[i].ay s.aa[i].bL,v.1,ee s.aa[i] v.2.1,fe s.aa[i] v.2.1⟩,0)).1=⟨dH s.Words (16*v.2.1) s.aa[i].ay s.aa[i].bL,v.1,(s.aa.set i (ee s.aa[i] v.2.1)).set i (dL (ee s.aa[i] v.2.1) cpu.toNat (fe s.aa[i] v.2.1) ((dH s.Words (16*v.2.1) s.aa[i].ay s.aa[i].bL).getD (ee s.aa[i] v.2.1).ab[fe s.aa[i] v.2.1].cj.toNat 0))⟩:=by
      simp only [mv,bz,nz,fB hk,List.set_set]
     rw [e] at ri ⊢;exact ⟨gz hT ri,hT⟩
def AY {t:Int} (hs : 1<=size) {l:List Int} (hn:l.Nodup) (h:∀ a∈l,iu size per t a=true) : (l.length:Int)<=per∨l=[]:=by
 rcases afL l with e|⟨i,x,e⟩
 ·exact .inr e
 ·left
  have hq:∀ a,iu size per t a=true -> ∃ q:Nat,(q:Int)<per∧a=16*t+q*size:=fun a ha=>by
   unfold iu at ha;simp only [Bool.and_eq_true,decide_eq_true_eq] at ha;obtain ⟨⟨e1,e2⟩,e3⟩:=ha;have h1:(a-t*16) / size<per:=Int.ediv_lt_of_lt_mul (by omega) e2
   have h2 : 0<=(a-t*16) / size:=agG e1 (by omega)
   have h3:=afM (a-t*16) size;obtain ⟨k,hk⟩:=aeE h2;rw [hk] at h1 h3;rw [e3,afD] at h3;exact ⟨k,h1,by omega⟩
  have hf:∀ (q:Nat),((16*t+q*size-16*t) / size).toNat=q:=fun q=>by
   rw [show 16*t+q*size-16*t=q*size by omega,Int.mul_ediv_cancel _ (by omega)];simp
  have h1:=CG (f:=fun a=>((a-16*t) / size).toNat) hn (fun a ha b hb e=>by
   obtain ⟨q,_,rfl⟩:=hq a (h a ha);obtain ⟨r,_,rfl⟩:=hq b (h b hb);simp only [hf] at e;rw [e])
  have h2:=vE per.toNat _ h1 (fun x hx=>by
   obtain ⟨a,ha,rfl⟩:=aeH.1 hx;obtain ⟨q,MT,rfl⟩:=hq a (h a ha);simp only [hf];omega)
  rw [List.length_map] at h2;obtain ⟨q,MT,_⟩:=hq x (h x (by rw [e];simp));omega
def xZ (hM:aA s) (hi:i<s.aa.length) (ji:j<i) {x y:Slab} (hx:x∈(s.aa[j]'(by omega)).ab) (hy:y∈s.aa[i].ab) : x.At≠y.At:=fun e=>by
 obtain ⟨q,hq,rfl⟩:=aeu hy;refine (hM.each i hi).aB q hq (aeU _ ?_);unfold aH;rw [aeK];exact ⟨s.aa[j]'(by omega),afs.2 ⟨j,by omega,rfl⟩,aeH.2 ⟨x,hx,e⟩⟩
def oo (hM:aA s) (hj:j<s.aa.length) (hi:i<s.aa.length) (bG:j≠i) {x y:Slab} (hx:x∈s.aa[j].ab) (hy:y∈s.aa[i].ab) : x.At≠y.At:=by
 rcases afJ bG with h|h
 ·exact xZ hM hi h hx hy
 ·exact fun e=>xZ hM hj h hy hx e.symm
def JJ (hM:aA s) (hi:i<s.aa.length) (hk:k<s.aa[i].ab.length) {out:List Int} (ni:iu s.aa[i].ay s.aa[i].bL s.aa[i].ab[k].At a=true) (ho:bO s.Words s.aa[i].ay s.aa[i].bL s.aa[i].ab[k] out) (ov:a∉out) : (0<=a∧a<4096) ∧
 (∀ c∈s.aa,dE s c -> ∀ x∈c.ab,x.At≠s.aa[i].ab[k].At -> ∀ o,bO s.Words c.ay c.bL x o->bO (s.Words.set a.toNat s.aa[i].ab[k].cj) c.ay c.bL x o) ∧
 bO (s.Words.set a.toNat s.aa[i].ab[k].cj) s.aa[i].ay s.aa[i].bL ⟨s.aa[i].ab[k].At,s.aa[i].ab[k].ai+1,a⟩ (a::out):=by
 have hC:=(hM.each i hi).may;have hl:=bV hC.lay;have P8:s.aa[i]∈s.aa:=aet hi
 have Cd:s.aa[i].ab[k]∈s.aa[i].ab:=aet hk
 have Cc : 0<=s.aa[i].bL:=by omega
 obtain ⟨b0,DZ,Ra,WA⟩:=g7 hM P8 Cd;obtain ⟨l1,l2,l3,_⟩:=hM.heap.live.all b0 DZ;have har:=xp l1.1 l1.2 l2.1 (show b0.At<256 by omega) l3;rw [Ra,WA] at har;rw [Ra] at l2;obtain ⟨r1,r2⟩:=mN hC.lay ni;have ha : 0<=a∧a<4096:=by omega
 obtain ⟨an,rfl⟩:=aeE ha.1;have NS:an<s.Words.length:=by rw [hM.words];omega
 have SN:∀ c∈s.aa,∀ x∈c.ab,x.At≠s.aa[i].ab[k].At -> ∀ b:Int,16*x.At<=b->b<16*(x.At+pw c.Order)->0<=b->(s.Words.set an s.aa[i].ab[k].cj)[b.toNat]?=s.Words[b.toNat]?:=fun c hc x hx bG b h1 h2 h0=>by
  obtain ⟨b1,aX,e1,e2⟩:=g7 hM hc hx;have:=gZ hM.heap aX DZ (by rw [e1,Ra];exact bG)
  rw [e1,e2,Ra,WA] at this;rw [afy (by omega)]
 have qs:∀ c∈s.aa,dE s c -> ∀ x∈c.ab,x.At≠s.aa[i].ab[k].At -> ∀ o,bO s.Words c.ay c.bL x o->bO (s.Words.set an s.aa[i].ab[k].cj) c.ay c.bL x o:=fun c hc TN x hx bG o h =>
  C6 (t:=⟨s.Words.set an s.aa[i].ab[k].cj,s.Heap,[]⟩) hM hc hx TN.lay h (SN c hc x hx bG)
 simp only [Int.ofNat_eq_natCast,Int.toNat_natCast] at *;obtain ⟨k1,k2,k3,k4,k5⟩:=(gD Cc).1 ho;have Vj:((an:Int)::out).Nodup:=aft.2 ⟨ov,k2⟩
 have fc:∀ b∈(an:Int)::out,iu s.aa[i].ay s.aa[i].bL s.aa[i].ab[k].At b=true:=fun b hb=>by
  rcases afx.1 hb with rfl|hb
  ·exact ni
  ·exact k5 b hb
 have SO:=AY (by omega) Vj fc
 have hlen:(((an:Int)::out).length:Int)<=s.aa[i].bL:=by
  rcases SO with h|h
  ·exact h
  ·simp at h
 refine ⟨ha,qs,(gD Cc).2 ⟨?_,Vj,hlen,?_,fc⟩⟩
 ·refine .cons (by rw [ae0];exact NS) ?_;rw [agd];refine k1.congr fun b hb h0 => ?_
  rw [afy];intro e;exact ov (by rw [e,ae1 h0];exact hb)
 ·simp only [List.length_cons];omega
def JK (hM:aA s) (hi:i<s.aa.length) (hk:k<s.aa[i].ab.length) {out:List Int} (ni:iu s.aa[i].ay s.aa[i].bL s.aa[i].ab[k].At a=true) (ho:bO s.Words s.aa[i].ay s.aa[i].bL s.aa[i].ab[k] out) (ov:a∉out) :
 aA ⟨s.Words.set a.toNat s.aa[i].ab[k].cj,s.Heap,s.aa.set i (iG s.aa[i] k s.aa[i].ab[k] a)⟩:=by
 have hC:=(hM.each i hi).may;have P8:s.aa[i]∈s.aa:=aet hi
 have Cd:s.aa[i].ab[k]∈s.aa[i].ab:=aet hk
 obtain ⟨ha,qs,kf⟩:=JJ hM hi hk ni ho ov;obtain ⟨an,rfl⟩:=aeE ha.1;have kZ:px (iG s.aa[i] k s.aa[i].ab[k] an)=px s.aa[i]:=zd hk rfl
 have Vk:=jt.1 fun j hj=>(hM.each j hj).aB
 simp only [Int.ofNat_eq_natCast,Int.toNat_natCast] at *;refine ta hM hi (by simp only [List.length_set];exact hM.words) hM.heap rfl rfl rfl ?_ (fun c hc Vl => ?_) (by simp only;rw [g9 hi kZ];exact Vk)
 ·refine ⟨hC.lay,hC.names,hC.aV,fun j hj => ?_,fun j hj => ?_⟩
  ·simp only [iG,List.length_set] at hj;have hS:=hC.aB j hj
   have SM:∀ (q:Nat) (hq:q<s.aa[i].ab.length),((iG s.aa[i] k s.aa[i].ab[k] an).ab[q]'(by simp only [iG,List.length_set];exact hq)).At=s.aa[i].ab[q].At:=fun q hq=>by
    simp only [iG,List.getElem_set];split
    ·rename_i e;subst e;rfl
    ·rfl
   refine ⟨by rw [SM j hj];exact hS.live,fun h0=>by rw [SM j hj,SM (j-1) (by omega)];exact hS.next h0,?_⟩;by_cases e:k=j
   ·subst e
    have es:(iG s.aa[i] k s.aa[i].ab[k] an).ab[k]'(by simp only [iG,List.length_set];exact hk)=⟨s.aa[i].ab[k].At,s.aa[i].ab[k].ai+1,an⟩:=by
     simp only [iG,List.getElem_set,if_true]
    rw [es];exact ⟨_,kf⟩
   ·obtain ⟨o,h⟩:=hS.chain
    have es:(iG s.aa[i] k s.aa[i].ab[k] an).ab[j]'(by simp only [iG,List.length_set];exact hj)=s.aa[i].ab[j]:=by
     simp only [iG,List.getElem_set,if_neg e]
    rw [es];refine ⟨o,qs _ P8 hC _ (aet hj) ?_ o h⟩;have Gc:=ng hC;rw [aeB] at Gc;rcases ae6 j k with g|g|g
    ·have:=Gc j k hj hk g;omega
    ·exact absurd g.symm e
    ·have:=Gc k j hk hj g;omega
  ·have iU:∀ z,(iG s.aa[i] k s.aa[i].ab[k] an).ab.any (yu z)=s.aa[i].ab.any (yu z):=fun z=>by
    have e1:∀ l:List Slab,l.any (yu z)=(l.map fun x=>x.At).any fun y=>decide (y=z):=fun l=>by rw [agB];rfl
    rw [e1,e1];unfold px at kZ;rw [kZ]
   have:=hC.cX j hj
   unfold uJ at this ⊢;rw [iU];exact this
 ·obtain ⟨j,hj,ji,rfl⟩:=Vl;have hJ:=(hM.each j hj).may;refine ⟨hJ.lay,hJ.names,hJ.aV,fun q hq => ?_,hJ.cX⟩;have hS:=hJ.aB q hq;refine ⟨hS.live,hS.next,?_⟩;obtain ⟨o,h⟩:=hS.chain;refine ⟨o,qs _ hc hJ _ (aet hq) (oo hM hj hi ji (aet hq) Cd) o h⟩
def N1 {cs:List aN} (hi:i<cs.length) (h:List.Sublist (px c') (px cs[i])) (hn:(aH cs).Nodup) : (aH (cs.set i c')).Nodup:=by
 have e1:cs=cs.take i++cs[i]::cs.drop (i+1):=by simp
 have e2:cs.set i c'=cs.take i++c'::cs.drop (i+1):=by rw [afo,if_pos hi]
 have f1:aH cs=aH (cs.take i)++(px cs[i]++aH (cs.drop (i+1))):=by
  conv=>lhs;rw [e1]
  rw [da,da,da,aeV,afO,afG,afP]
 have f2:aH (cs.set i c')=aH (cs.take i)++(px c'++aH (cs.drop (i+1))):=by
  rw [e2,da,da,da,aeV,afO,afG,afP]
 rw [f2];rw [f1] at hn;exact List.Nodup.sublist (List.Sublist.append (List.Sublist.refl _) (List.Sublist.append h (List.Sublist.refl _))) hn
def JL (hM:aA s) (hi:i<s.aa.length) (hk:k<s.aa[i].ab.length) (hA:s.aa[i].ab[k].At∉s.aa[i].ak) (qQ : 0<=cpu∧cpu<s.Heap.bJ) :
 (fq s.Heap cpu s.aa[i].ab[k].At).1=0∧aA ⟨s.Words,(fq s.Heap cpu s.aa[i].ab[k].At).2,s.aa.set i (eY s.aa[i] k)⟩:=by
 have hC:=(hM.each i hi).may;have hm:=hM.heap;have P8:s.aa[i]∈s.aa:=aet hi
 have Cd:s.aa[i].ab[k]∈s.aa[i].ab:=aet hk
 obtain ⟨b0,DZ,Ra,WA⟩:=g7 hM P8 Cd
 have hf:bM s.Heap.Live s.aa[i].ab[k].At=true:=by
  obtain ⟨q,hq,rfl⟩:=aeu DZ;exact (rm (k7 hm.live) hq Ra).2
 have ZY:=lS (bT.2 hm) qQ hf;have lA:=tG hm qQ hf;obtain ⟨p1,p2,p3⟩:=mf (cpu:=cpu) hm hf;refine ⟨by rw [ZY],?_⟩;rw [ZY]
 have ym:∀ x:Int,x≠s.aa[i].ab[k].At->o8 (gK s.Heap cpu s.aa[i].ab[k].At).Live x=o8 s.Heap.Live x:=fun x hx=>by
  refine uP hm.live lA.live fun y hy => ?_
  rw [p2,jB hm.live hf];exact ⟨fun h=>⟨h,by rw [hy];exact hx⟩,fun h=>h.1⟩
 have Gc:=ng hC
 have bG:∀ (q:Nat) (hq:q<s.aa[i].ab.length),q≠k->s.aa[i].ab[q].At≠s.aa[i].ab[k].At:=fun q hq SP=>by
  have:=Gc
  rw [aeB] at this;rcases afJ SP with g|g
  ·have:=this q k hq hk g;omega
  ·have:=this k q hk hq g;omega
 have Vk:=jt.1 fun j hj=>(hM.each j hj).aB
 refine ta hM hi hM.words lA rfl rfl rfl ?_ (fun c hc Vl => ?_) ?_
 ·refine ⟨hC.lay,hC.names,by simp only [eY];rw [p1];exact hC.aV,fun j hj => ?_,fun j hj => ?_⟩
  ·have nr:j<(s.aa[i].ab.eraseIdx k).length:=hj
   have Vm:(s.aa[i].ab.eraseIdx k).Pairwise fun x y=>x.At<y.At:=List.Pairwise.sublist (afm _ _) Gc
   have NX : 0<j->((s.aa[i].ab.eraseIdx k)[j-1]'(by omega)).At<((s.aa[i].ab.eraseIdx k)[j]'nr).At:=fun h0=>by
    rw [aeB] at Vm;exact Vm (j-1) j (by omega) nr (by omega)
   have kF:(s.aa[i].ab.eraseIdx k)[j]'nr∈s.aa[i].ab.eraseIdx k:=aet nr
   obtain ⟨q,hq,SP,eq⟩:=afE.1 kF
   have key:∀ y:Slab,y=s.aa[i].ab[q]->o8 (gK s.Heap cpu s.aa[i].ab[k].At).Live y.At=s.aa[i].Order ∧ ∃ out,bO s.Words s.aa[i].ay s.aa[i].bL y out:=fun y ey=>by
    subst ey;have hS:=hC.aB q hq;exact ⟨(ym _ (bG q hq SP)).trans hS.live,hS.chain⟩
   have yV:=key _ eq.symm;exact ⟨yV.1,NX,yV.2⟩
  ·have:=hC.cX j hj
   unfold uJ at this ⊢;rcases this with h|⟨h1,h2⟩
   ·exact .inl h
   ·refine .inr ⟨h1,?_⟩;rw [aeG] at h2 ⊢;obtain ⟨x,hx,OX⟩:=h2;obtain ⟨q,hq,rfl⟩:=aeu hx;refine ⟨s.aa[i].ab[q],?_,OX⟩;simp only [eY];rw [afE];refine ⟨q,hq,fun e => ?_,rfl⟩;subst e;have e1:=of_decide_eq_true OX;exact hA (by rw [e1];exact aet hj)
 ·obtain ⟨j,hj,ji,rfl⟩:=Vl;have hJ:=(hM.each j hj).may;refine ⟨hJ.lay,hJ.names,by simp only;rw [p1];exact hJ.aV,fun q hq => ?_,hJ.cX⟩;have hS:=hJ.aB q hq;exact ⟨(ym _ (oo hM hj hi ji (aet hq) Cd)).trans hS.live,hS.next,hS.chain⟩
 ·simp only;refine N1 hi ?_ Vk;unfold px eY;exact List.Sublist.map _ (afm _ _)
def Gd (h:im s a ((i:Int),(k:Int),0)) : ∃ (hF:lY s a i k) (out:List Int),bO s.Words (s.aa[i]'hF.hi).ay (s.aa[i]'hF.hi).bL ((s.aa[i]'hF.hi).ab[k]'hF.hk) out∧a∉out:=by
 have key:∀ u,im s a u->u=((i:Int),(k:Int),0) -> ∃ (hF:lY s a i k) (out:List Int),bO s.Words (s.aa[i]'hF.hi).ay (s.aa[i]'hF.hi).bL ((s.aa[i]'hF.hi).ab[k]'hF.hk) out∧a∉out:=fun u hu e=>by
  cases hu with
  | bad|none|free=>simp at e
  | @hit i' k' out h hF hC hm =>
    simp only [Prod.mk.injEq,Int.natCast_inj] at e;obtain ⟨rfl,rfl,_⟩:=e;exact ⟨hF,out,hC,hm⟩
 exact key _ h rfl
def pP.jQ (hI:dy s) (h:pP s n cpu a u) (h0:u.2=0) : dy u.1:=by
 have hM:=hI.may;have ri:=h.small hI.cS;cases h with
 | ask h=>exact absurd h0 h
 | none=>simp at h0
 | @put i k h hF e hi hk =>
   obtain ⟨_,_,qQ⟩:=lc h;obtain ⟨TH,out,hC,ov⟩:=Gd hF;have ni:=TH.obj;rw [qw hi hk] at ni;have hP:=JK hM hi hk ni hC ov
   refine ⟨gz ?_ ri,?_⟩<;>(
    unfold vN;split
    ·rename_i hc;rw [ae9] at hc;have SQ:=hc.1;unfold oJ at SQ;simp only [Bool.and_eq_true,Bool.not_eq_true',decide_eq_false_iff_not] at SQ
     have key:∀ (t:ag) (ht:aA t) (NZ:i<t.aa.length) (c1:aN) (N0:t.aa[i]=c1) (ec:c1=iG s.aa[i] k s.aa[i].ab[k] a) (eh:t.Heap=s.Heap),aA ⟨t.Words,(fq t.Heap cpu s.aa[i].ab[k].At).2,t.aa.set i (eY c1 k)⟩:=fun t ht NZ c1 N0 ec eh=>by
      subst N0;have D9:k<t.aa[i].ab.length:=by rw [ec];simp only [iG,List.length_set];exact hk
      have ZZ:t.aa[i].ab[k].At=s.aa[i].ab[k].At:=by
       have:∀ (d:aN) (hd:d=iG s.aa[i] k s.aa[i].ab[k] a) (hq:k<d.ab.length),d.ab[k].At=s.aa[i].ab[k].At:=fun d hd hq=>by subst hd;simp [iG]
       exact this _ ec D9
      have:=(JL ht NZ D9 (by rw [ZZ,ec];exact SQ.2) (cpu:=cpu) (by rw [eh];exact qQ)).2
      rw [ZZ] at this;exact this
     have:=key _ hP (by simp only [List.length_set];exact hi) _ (by simp) rfl rfl
     simp only [List.set_set] at this;exact this
    ·exact hP)
def pR.JM {u:ag×Int×Int} (hI:dy s) (h:pR s n cpu u) (h0:u.2.2=0) : dy u.1:=by
 have h':=h;cases h with
 | ask h=>exact absurd h0 h
 | EO h =>
   rcases h'.jQ hI h with h|h
   ·exact h.2
   ·omega
def Ev (hI:dy s) {u:Heap×Int×Int} (h:cU s.Heap cpu o fl u) (he:u.2.2=0) : dy (oN s u.1):=by
 have:=Eu (a:=⟨1,cpu,o,0,0,fl,⟨#[]⟩⟩) rfl s _ hI (cu.bD rfl h)
 simp only [ms,if_pos he] at this;exact this
def v7 (hM:aA s) {q:Nat} (hi:i<s.aa.length) (hj:j<s.aa.length) (hk:k<s.aa[i].ab.length) (hq:q<s.aa[j].ab.length) (bG : ¬ (i=j∧k=q))
 (h1:iu s.aa[i].ay s.aa[i].bL s.aa[i].ab[k].At a=true) (h2:iu s.aa[j].ay s.aa[j].bL s.aa[j].ab[q].At a=true) : False:=by
 have Z0:=(hM.each i hi).may;have hCj:=(hM.each j hj).may
 have kZ:s.aa[i].ab[k].At≠s.aa[j].ab[q].At:=by
  by_cases e:i=j
  ·subst e;have Gc:=ng Z0;rw [aeB] at Gc;rcases ae6 k q with g|g|g
   ·have:=Gc k q hk hq g;omega
   ·exact absurd ⟨rfl,g⟩ bG
   ·have:=Gc q k hq hk g;omega
  ·exact oo hM hi hj e (aet hk) (aet hq)
 obtain ⟨b1,aX,e1,e2⟩:=g7 hM (aet hi) (aet hk);obtain ⟨b2,aq,e3,e4⟩:=g7 hM (aet hj) (aet hq);have h3:=gZ hM.heap aX aq (by rw [e1,e3];exact kZ);rw [e1,e2,e3,e4] at h3;obtain ⟨r1,r2⟩:=mN Z0.lay h1;obtain ⟨r3,r4⟩:=mN hCj.lay h2;omega
def C8 (hM:aA s) (hi:i<s.aa.length) (hk:k<s.aa[i].ab.length) (h:iu s.aa[i].ay s.aa[i].bL s.aa[i].ab[k].At a=true) : lY s a i k:=by
 refine ⟨hi,hk,by rw [qw hi hk];exact h,fun i' k' e8 => ?_⟩;cases e:oI s a i' k' with
 | false=>rfl
 | true =>
   exfalso;unfold oI at e;split at e
   ·rename_i h1;split at e
    ·rename_i h2;exact v7 hM hi h1 hk h2 (by omega) h e
    ·cases e
   ·cases e
def P9 (hM:aA s) (hi:i<s.aa.length) (hk:k<s.aa[i].ab.length) (h:iu s.aa[i].ay s.aa[i].bL s.aa[i].ab[k].At a=true) {out:List Int} (hC:bO s.Words s.aa[i].ay s.aa[i].bL s.aa[i].ab[k] out) :
 (a∈out->im s a (0,0,4))∧(a∉out->im s a ((i:Int),(k:Int),0)) :=
 ⟨fun hm => .free (jS hM) (C8 hM hi hk h) hC hm,fun hm => .hit (jS hM) (C8 hM hi hk h) hC hm⟩
def AZ (hc:c∈s.aa) {x:Slab} (hx:x∈c.ab) (h:a / 16=x.At) : cV s a=false:=by
 have:mV s (a / 16)=true:=by
  unfold mV;rw [aeG];refine ⟨c,hc,?_⟩;unfold ur;rw [aeG];exact ⟨x,hx,decide_eq_true h.symm⟩
 unfold cV;rw [this];simp
structure Ge (s:ag) (i k:Nat) (a:Int) : Prop where
 hi:i<s.aa.length
 hk:k<s.aa[i].ab.length
 obj:iu s.aa[i].ay s.aa[i].bL s.aa[i].ab[k].At a=true
 off:∃ out,bO s.Words s.aa[i].ay s.aa[i].bL s.aa[i].ab[k] out∧a∉out
def Ge.find (h:Ge s i k a) (hM:aA s) : im s a ((i:Int),(k:Int),0):=by
 obtain ⟨out,hC,ov⟩:=h.off;exact (P9 hM h.hi h.hk h.obj hC).2 ov
def uQ (hM:aA s) (hi:i<s.aa.length) (hn:n∈s.aa[i].Names) : idxOf (dr n) s.aa=(i:Int):=by
 refine oa hi (fA.2 hn) fun j hj ji => ?_
 cases e:dr n s.aa[j] with
 | false=>rfl
 | true =>
   exfalso;have hm:=fA.1 e;obtain ⟨q,hq,rfl⟩:=aeu hn;refine ((hM.each i hi).names.each q hq).2.1 (aeU _ ?_);unfold ba;rw [aeK];exact ⟨s.aa[j],afs.2 ⟨j,by omega,rfl⟩,hm⟩
def Ir (hI:dy s) {q:Int} (hA:Ge s i k a) (Vn:nF (s.aa[i]'hA.hi)=true) (hq:kj s q) {w:ag×Int} (h:jU s q a w) : w.2=0∧pP s (qE (s.aa[i]'hA.hi)) q a w∧idxOf (dr (qE (s.aa[i]'hA.hi))) s.aa=(i:Int):=by
 have hM:=hI.may;have hF:=hA.find hM;have hi:=hA.hi;have hO:=qD.yes hF hi Vn;cases h with
 | bad h=>rw [jS hM] at h;cases h
 | range _ h=>exact absurd hq h
 | no _ _ ho=>cases ho.dm hO
 | whole _ _ ho=>cases ho.dm hO
 | @obj i' _ _ _ mo ho hp =>
   have e:=ho.dm hO;simp only [Option.some.injEq] at e;subst e;have h3:=(hM.each i' mo).may.names;have hn:qE s.aa[i']∈s.aa[i'].Names:=by simp [qE,h3]
   have Ll:=uQ hM mo hn;refine ⟨?_,hp,Ll⟩;cases hp with
   | ask h =>
     exfalso;refine h (Au (jS hM) ?_ hq);rw [aeG];exact ⟨_,aet mo,fA.2 hn⟩
   | none _ y6 bG =>
     exfalso;rw [y6.dm hF] at bG;exact bG ⟨rfl,Ll.symm⟩
   | put=>rfl
def C9 (hM:aA s) (hi:i<s.aa.length) (hk:k<s.aa[i].ab.length) (h:iu s.aa[i].ay s.aa[i].bL s.aa[i].ab[k].At a=true) : cV s a=false:=by
 cases e:cV s a with
 | false=>rfl
 | true =>
   exfalso;obtain ⟨hf,h0,Yn⟩:=dG e;have hC:=(hM.each i hi).may;obtain ⟨r1,r2⟩:=mN hC.lay h;by_cases kZ:a / 16=s.aa[i].ab[k].At
   ·rw [AZ (aet hi) (aet hk) kZ] at e;cases e
   ·obtain ⟨hq,eq⟩:=jJ hf;obtain ⟨b,hb,e1,e2⟩:=g7 hM (aet hi) (aet hk);have hl:=(hM.heap.live.all _ (aet hq));have hp:=cM hl.1.1 hl.1.2;have:=gZ hM.heap (aet hq) hb (by rw [eq,e1];exact kZ)
    rw [eq,e1,e2] at this;omega
def Da (h:im s a (0,0,4)) : qD s a none := .no h fun i hi h0=>by simp at h0
end Go.Proofs.YtenhkiaaebnggaaGreatDoor
