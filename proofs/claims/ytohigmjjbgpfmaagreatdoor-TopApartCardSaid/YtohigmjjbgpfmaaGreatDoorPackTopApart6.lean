/- Part 6 of what topApart_holds leans on. -/
import Derived.Test.YtohigmjjbgpfmaaGreatDoorPackTopApart5
set_option linter.unusedVariables false
set_option linter.unusedSimpArgs false
set_option linter.defProp false
open Go.Proofs.Tryz
namespace Go.Proofs.YtohigmjjbgpfmaaGreatDoor
open Go.RowKit
def Pe (G:Nat->Prop) (wb w0:World) (b:Nat) (r:da) (s:ah) (i:Nat) (c:aQ) (cpu:Nat) (v:Value) (w':World) : Prop :=
 ∃ u,cU s.Heap (cpu:Int) c.Order 0 u ∧
  ((u.2.2≠0∧v = .tuple #[.int .i64 0,.int .i64 u.2.2]∧Ext w0 w')∨(u.2.2=0 ∧ ¬ jq s.Words.length (16*u.2.1) c.az c.bL∧v = .tuple #[.int .i64 0,.int .i64 1]∧Ext w0 w') ∨
   (u.2.2=0∧jq s.Words.length (16*u.2.1) c.az c.bL∧v = .tuple #[.int .i64 (eY c u.2.1:Int),.int .i64 0]∧Ext wb w'∧(∀ j x,j≠b->aS w0 j 44 x->aS w' j 44 x)∧(∀ j x,aS w0 j 127 x->aS w' j 127 x)∧(∀ j x,aS w0 j 3 x->aS w' j 3 x) ∧
    ∃ X H cs',aS w' b 44 (aP ⟨X,H,r.aa⟩)∧SX w' wb.heap.size ⟨X,H,r.aa⟩ (bI (nb s (dJ s.Words (16*u.2.1) c.az c.bL)) i (u.1,dZ c u.2.1)) cs'∧SJ G w' wb.heap.size ⟨X,H,r.aa⟩ (bI (nb s (dJ s.Words (16*u.2.1) c.az c.bL)) i (u.1,dZ c u.2.1)) cs'))
set_option maxHeartbeats 8000000 in
theorem M6 (G:Nat->Prop) (wb w0:World) (b:Nat) (r:da) (s:ah) (cs:List dS) (i cpu:Nat) (hf:s.cK) (hi:i<s.aa.length) (hM:rf s s.aa[i]) (eG:mN w0)
 (hx:Ext wb w0) (hb:aS w0 b 44 (aP r)) (rl:wb.heap.size<=b) (hS:SX w0 wb.heap.size r s cs) (T2:∀ g,G g->g<w0.heap.size ∧ ∀ u∈cs,aJ u.ap.A u.ap.c≠some g) (yC:(s.aa[i].ab.length+1)*24<=140737488355328) :
 iO prog 168 [.pointer (some ⟨b,0,none⟩),.int .i64 (i:Int),.int .i64 (cpu:Int)] w0 (Pe G wb w0 b r s i s.aa[i] cpu):=by
 refine dl func168 rfl ntmps168 rfl ?_;have h1:=hf.lX;have hm:=hM.most;have Sq:=hM.words;have HB:=hS.IY;have dD:=hx.size;have e0:=oe hi;obtain ⟨e1,e2⟩:=hS.len;have oY:i<cs.length:=by omega
 have cy:i<r.aa.n:=by omega
 have Ee:=hS.row.sl.base;have U8:=hS.words.len;have hC:=hS.each.get i oY hi;have xR:=hC.order;have Qh:=hC.size;have M7:=hC.per;have q1:=hC.aE.len;have Mf:=cj hM.lay;have hw:=Ext.refl w0;clear hC;refine Wz ?_
 focus
  refine CW.gn 15 17 (fun _=>True) mixed (by kernel_rfl) fun w1 ai aG => ?_
  obtain ⟨hw,hb,hS⟩:=cn ai hw hb hS;clear ai;refine Wp 0 [] [] aG rfl rfl ?_;refine Wt 1 [] [] aG rfl (aF rfl) ?_;refine Wt 2 [] [] aG rfl (aA rfl) ?_;refine Wt 3 [] [] aG rfl (aX rfl rfl ((mo hb))) ?_;refine Wp 4 [] [] aG rfl rfl ?_;refine Wp 5 [] [] aG rfl rfl ?_;refine Wt 6 [] [] aG rfl (aF rfl) ?_;refine Wt 7 [] [] aG rfl (aA rfl) ?_;refine Wt 8 [] [] aG rfl (aU rfl (hS.row.sl.jR cy (j:=3) (u := .int .i64 cs[i].Order) rfl)) ?_;refine SF.two 9 14 rfl rfl (by kernel_rfl) rfl rfl ?_ ?_
  focus
   refine Wk (qp r.Heap s.Heap (cpu:Int) cs[i].Order 0 _ hS.heap.rd h1.small h1.uL (eG.ext hw)) fun v w4 ak hv => ?_
   obtain ⟨u,hu,H,rfl,hH⟩:=hv;have hH:=hH.low hw.size;obtain ⟨e,he⟩ : ∃ e,u.2.2=e:=⟨_,rfl⟩;obtain ⟨at',mA⟩ : ∃ a,u.2.1=a:=⟨_,rfl⟩;rw [he,mA];(obtain ⟨hw,hb,hS⟩:=cn ak hw hb hS);try have bD:=bD.ext ak
   refine SW.nil (ae.sf ak ?_);refine Wp 10 [] [] aG rfl rfl ?_;refine Wp 11 [] [] aG rfl rfl ?_;refine SF.cr 12 [] aG rfl (by kernel_rfl) (by kernel_rfl) (by kernel_rfl) (aR rfl) (fun w2 hS=>aR rfl) rfl ?_;refine SF.cr 13 [] aG rfl (by kernel_rfl) (by kernel_rfl) (by kernel_rfl) (aR rfl) (fun w2 hS=>aR rfl) rfl ?_;refine SF.one 14 rfl (by kernel_rfl) rfl ?_;refine SW.alloc rfl fun b9 w4 ak nY bD => ?_
   have se:=hw.up nY
   try have hH:=hH.ext ak
   (obtain ⟨hw,hb,hS⟩:=cn ak hw hb hS);refine SW.nil (ae.sf ak ?_);refine SF.turn rfl (by kernel_rfl) rfl ?_;refine SW.ag bD rfl rfl rfl rfl (dY H) fun w5 jS hg => ?_
   have hG:=bD.gr hg;have hw:=hw.own se hg;(obtain ⟨hb,hH,hS⟩:=cn hG hb hH hS);have bD:=jS;clear jS hg hG;have yM:=hS;have hS:True:=trivial
   refine SW.nil (ae.sg hS ?_);refine SG.one 16 rfl (by kernel_rfl) rfl ?_;repeat (refine SW.pure rfl rfl ?_)
   refine SW.nil (ae.sg hS ?_)
  rotate_left
  focus
   refine SW.alloc rfl fun b9 w4 ak nY bD => ?_
   have se:=hw.up nY
   try have hH:=hH.ext ak
   (obtain ⟨hw,hb,hS⟩:=cn ak hw hb hS);refine SW.nil (ae.sf ak ?_);refine SF.one 9 rfl (by kernel_rfl) rfl ?_;refine Wk (qp r.Heap s.Heap (cpu:Int) cs[i].Order 0 _ hS.heap.rd h1.small h1.uL (eG.ext hw)) fun v w4 ak hv => ?_
   obtain ⟨u,hu,H,rfl,hH⟩:=hv;have hH:=hH.low hw.size;obtain ⟨e,he⟩ : ∃ e,u.2.2=e:=⟨_,rfl⟩;obtain ⟨at',mA⟩ : ∃ a,u.2.1=a:=⟨_,rfl⟩;rw [he,mA];(obtain ⟨hw,hb,hS⟩:=cn ak hw hb hS);try have bD:=bD.ext ak
   refine SW.nil (ae.sf ak ?_);refine Wp 10 [] [] aG rfl rfl ?_;refine Wp 11 [] [] aG rfl rfl ?_;refine SF.cr 12 [] aG rfl (by kernel_rfl) (by kernel_rfl) (by kernel_rfl) (aR rfl) (fun w2 hS=>aR rfl) rfl ?_;refine SF.cr 13 [] aG rfl (by kernel_rfl) (by kernel_rfl) (by kernel_rfl) (aR rfl) (fun w2 hS=>aR rfl) rfl ?_;refine SF.turn rfl (by kernel_rfl) rfl ?_;refine SW.ag bD rfl rfl rfl rfl (dY H) fun w5 jS hg => ?_
   have hG:=bD.gr hg;have hw:=hw.own se hg;(obtain ⟨hb,hH,hS⟩:=cn hG hb hH hS);have bD:=jS;clear jS hg hG;have yM:=hS;have hS:True:=trivial
   refine SW.nil (ae.sg hS ?_);refine SG.one 16 rfl (by kernel_rfl) rfl ?_;repeat (refine SW.pure rfl rfl ?_)
   refine SW.nil (ae.sg hS ?_)
  rotate_left
  all_goals
   refine SG.last rfl (by kernel_rfl) (by kernel_rfl) ?_;have hS:=yM;clear yM;rw [xR] at hu;by_cases YD:e=0
   ·subst YD;have lg:=hu.at_ he;rw [mA] at lg;refine Wz ?_;all_goals try omega
    by_cases hc:jq s.Words.length (16*at') s.aa[i].az s.aa[i].bL
    ·refine CW.any 19 mixed (dk (by kernel_rfl)) rfl fun w1 ai aG => ?_
     obtain ⟨hw,hb,bD,hH,hS⟩:=fD ai hw hb bD hH hS;clear ai;refine Wq 0 aG rfl rfl ?_;refine Wu 1 aG rfl (aF rfl) ?_;refine Wu 2 aG rfl (aA rfl) ?_;refine Wu 3 aG rfl (aU rfl (hb.cell (i:=0) (v := .slice r.Words.A r.Words.n r.Words.c) rfl)) ?_;refine Wq 4 aG rfl rfl ?_;refine Wu 5 aG rfl (pd rfl rfl (by omega) (by omega)) ?_;refine Wq 6 aG rfl rfl ?_;refine Wu 7 aG rfl (aF rfl) ?_;refine Wu 8 aG rfl (aA rfl) ?_;refine Wu 9 aG rfl (aU rfl (hS.row.sl.jR cy (j:=1) (u := .int .i64 cs[i].az) rfl)) ?_;refine Wq 10 aG rfl rfl ?_;refine Wu 11 aG rfl (aF rfl) ?_;refine Wu 12 aG rfl (aA rfl) ?_;refine Wu 13 aG rfl (aU rfl (hS.row.sl.jR cy (j:=2) (u := .int .i64 cs[i].bL) rfl)) ?_;refine SA.one 14 rfl (by kernel_rfl) rfl ?_;refine Wk (Co r.Words.A r.Words.n r.Words.c s.Words (at'*16) cs[i].az cs[i].bL _ hS.words.sl (by omega)) fun v w6 ak hv => ?_
     have g7:=hc;unfold jq at g7;rw [uu,show at'*16=16*at' by omega,Qh,M7,if_pos (by rw [U8] at g7;exact g7)] at hv;obtain ⟨XA,Xc,rfl,hX⟩:=hv;have hX:=hX.low hw.size;(obtain ⟨hw,hb,bD,hH,hS⟩:=fD ak hw hb bD hH hS);refine SW.nil (ae.sa ak ?_);refine Wq 15 aG rfl rfl ?_;refine Wq 16 aG rfl rfl ?_;refine Wq 17 aG rfl rfl ?_;refine Wq 18 aG rfl rfl ?_;refine SA.done (by kernel_rfl) ?_;refine Wz ?_;refine SW.gq 1 hb rfl rfl rfl (adJ rfl) (dY H) (aP ⟨r.Words,H,r.aa⟩) rfl fun w7 iz hg => ?_
     have hG:=hb.gr hg;have ux:∀ j x,j≠b->aS w0 j 44 x->aS w7 j 44 x:=fun j x hj h=>(h.ext hw).grown hg (by simpa using hj)
     have N0:∀ j x,aS w0 j 127 x->aS w7 j 127 x:=fun j x h=>(h.ext hw).aK hG rfl
     have Gt:∀ j x,aS w0 j 3 x->aS w7 j 3 x:=fun j x h=>(h.ext hw).aK hG rfl
     have hx:=(hx.trans hw).own rl hg;(obtain ⟨hH,hX,hS⟩:=cn hG hH hX hS);refine Wz ?_;refine Wb (i:=0) iz fun w8 T3 hg => ?_
     have hG:=iz.gr hg;have ux:∀ j x,j≠b->aS w0 j 44 x->aS w8 j 44 x:=fun j x hj h=>(ux j x hj h).grown hg (by simpa using hj)
     have N0:∀ j x,aS w0 j 127 x->aS w8 j 127 x:=fun j x h=>(N0 j x h).aK hG rfl
     have Gt:∀ j x,aS w0 j 3 x->aS w8 j 3 x:=fun j x h=>(Gt j x h).aK hG rfl
     have hx:=hx.own rl hg;(obtain ⟨hH,hX,hS⟩:=cn hG hH hX hS);have hb:aS w8 b 44 (aP ⟨⟨XA,r.Words.n,Xc⟩,H,r.aa⟩):=T3;rw [<- e0] at hS;obtain ⟨yN,xo⟩:=sD.fresh (p:=(s.Heap,s.aa[i])) (X:=⟨XA,r.Words.n,Xc⟩) (H:=H) (h':=u.1) (m:=w0.heap.size) hS dD HB T2 hX hH;clear hS hX hH hw hG hg iz T3 bD;have hw:=Ext.refl w8;refine Wz ?_
     refine CW.loop (fun k:Nat=>[(8,.pointer (some ((r.aa.A.getD default).add (i*6)))),(10,.int .i64 at'),(13,.int .i64 (k:Int))])
      (fun k w'=>w'=w8∧k<=cs[i].ab.n ∧ ∀ (j:Nat) (hj:j<s.aa[i].ab.length),j<k->s.aa[i].ab[j].At<at') (fun k=>cs[i].ab.n-k) 0
      ⟨rfl,rfl,rfl,trivial⟩ ⟨rfl,ad3 _,fun j hj h=>by omega⟩ ?_
     rintro k w' ⟨TG,hk,eX⟩
     subst TG;have BE:=yN.get oY hi;simp only at BE;have SB:=BE.aE.sl.base;by_cases gp:k<cs[i].ab.n
     ·have iE:k<s.aa[i].ab.length:=by omega
      obtain ⟨y,hy⟩ : ∃ y,s.aa[i].ab[k]=y:=⟨_,rfl⟩;have gA:=BE.aE.sl.jR gp (j:=0) (show (bh (s.aa[i].ab[k]'(by omega)))[0]?=some (Value.int .i64 y.At) by rw [hy];rfl);by_cases YE:y.At<at'
      ·repeat' (first|refine Wz ?_|refine Wl (yN.row.sl.jR cy (j:=4) (u := .slice cs[i].ab.A cs[i].ab.n cs[i].ab.c) rfl) ?_|refine Wl gA ?_)
       all_goals try omega
       exact ae.again (k+1) ⟨rfl,rfl,rfl,trivial⟩ (by omega) ⟨rfl,by omega,fun j hj h=>by
        by_cases e:j=k
        ·subst e;rw [hy];exact YE
        ·exact eX j hj (by omega)⟩
      ·have Mt:eY s.aa[i] at'=k:=IV (by omega) eX (fun h=>by rw [hy];exact YE)
       repeat' (first|refine Wz ?_|refine Wl (yN.row.sl.jR cy (j:=4) (u := .slice cs[i].ab.A cs[i].ab.n cs[i].ab.c) rfl) ?_|refine Wl gA ?_)
       all_goals try omega
       refine CW.gn 15 18 (fun _=>True) mixed (by kernel_rfl) fun w1 ai aG => ?_
       obtain ⟨hw,hb,yN,xo⟩:=dv ai hw hb yN xo;clear ai;refine SF.cr 0 [] aG rfl (by kernel_rfl) (by kernel_rfl) (by kernel_rfl) (aR rfl) (fun w2 hS=>aR rfl) rfl ?_;refine Wp 1 [4,3,2] [] aG rfl rfl ?_;refine Wt 2 [4,3] [] aG rfl (aF rfl) ?_;refine Wt 3 [4] [] aG rfl (aA rfl) ?_;refine Wt 4 [] [] aG rfl (aU rfl (yN.row.sl.jR cy (j:=4) (u := .slice cs[i].ab.A cs[i].ab.n cs[i].ab.c) rfl)) ?_;refine Wp 5 [] [] aG rfl rfl ?_;refine Wp 6 [14,13] [] aG rfl rfl ?_;refine Wp 7 [14,13,10,9,8] [] aG rfl rfl ?_;refine Wt 8 [14,13,10,9] [] aG rfl (aF rfl) ?_;refine Wt 9 [14,13,10] [] aG rfl (aA rfl) ?_;refine Wt 10 [14,13] [] aG rfl (aU rfl (yN.row.sl.jR cy (j:=2) (u := .int .i64 cs[i].bL) rfl)) ?_;refine Wp 11 [14,13,12] [] aG rfl rfl ?_;refine Wt 12 [14,13] [] aG rfl (pd rfl rfl (by omega) (by omega)) ?_;refine Wt 13 [14] [] aG rfl (fZ rfl rfl) ?_;refine SF.one 14 rfl (by kernel_rfl) rfl ?_;refine SW.dI rfl rfl rfl rfl rfl fun bn w9 ak T4 Pf => ?_
       have wk:aJ cs[i].ab.A cs[i].ab.c≠some bn:=fun e=>absurd ((yN.get oY hi).aE.lt_size _ e) (by omega)
       (obtain ⟨hw,hb,yN,xo⟩:=dv ak hw hb yN xo);refine SW.nil (ae.sf ak ?_);refine SF.turn rfl (by kernel_rfl) rfl ?_;have BE:=yN.get oY hi;simp only at BE;refine SW.dX rfl rfl (sL _ _ _ wb.heap.size s.aa[i].ab _ BE.aE k (by omega) ⟨at',cs[i].bL,at'*16⟩ bn Pf wk (by omega) (adf hx.size hw.size)) fun v pE hv => ?_
       obtain ⟨A2,c2,rfl,bj,hg,Pg⟩:=hv;have hG:=BE.aE.gr hg;have T5:=yN.Cv oY hi bj hg Pg;have Kv:=aD (hx.trans hw) hg (adg _) BE.aE.a9;have RA:∀ j x,j≠b->aS w0 j 44 x->aS pE j 44 x:=fun j x hj h=>((ux j x hj h).ext hw).aK hG rfl
       have RC:∀ j x,aS w0 j 127 x->aS pE j 127 x:=fun j x h=>((N0 j x h).ext hw).aK hG rfl
       have RD:∀ j x,aS w0 j 3 x->aS pE j 3 x:=fun j x h=>((Gt j x h).ext hw).aK hG rfl
       (obtain ⟨hb,xo⟩:=df hG hb xo);have hS:True:=trivial
       refine SW.nil (ae.sg hS ?_);refine SG.one 16 rfl (by kernel_rfl) rfl ?_;repeat ((show SW _ _ _ _ (⟨_,Op.nilCheck _,_,_,_,none⟩::_) _ _;refine SW.st (aF rfl) rfl ?_))
       refine SW.nil (ae.sg hS ?_);refine SG.one 17 rfl (by kernel_rfl) rfl ?_;repeat ((show SW _ _ _ _ (⟨_,Op.fieldAddr _ _ _,_,_,_,none⟩::_) _ _;refine SW.st (aA rfl) rfl ?_))
       refine SW.nil (ae.sg hS ?_);refine SG.last rfl (by kernel_rfl) (by kernel_rfl) ?_;have gm:=T5.row;refine SW.gZ i 4 ⟨cs[i].Names,cs[i].az,cs[i].bL,cs[i].Order,⟨A2,cs[i].ab.n+1,c2⟩,cs[i].ap⟩ gm rfl rfl rfl cy (by decide) rfl rfl fun rI kD HC => ?_
       have DN:=gm.gr HC;have WY:=T5.Hn kD HC;have Kv:=aD Kv HC (adg _) gm.a9;(obtain ⟨hb,xo⟩:=df DN hb xo)
       have WZ:=xo.rows (s':=bI (nb s (dJ s.Words (16*at') s.aa[i].az s.aa[i].bL)) i (u.1,dZ s.aa[i] at')) (cs':=cs.set i ⟨cs[i].Names,cs[i].az,cs[i].bL,cs[i].Order,⟨A2,cs[i].ab.n+1,c2⟩,cs[i].ap⟩) rfl (fun u hu=>by
        rcases ads hu with hu|rfl
        ·exact ⟨u,hu,rfl⟩
        ·exact ⟨cs[i],adb oY,rfl⟩)
       have Sk:dZ s.aa[i] at'=⟨s.aa[i].Names,s.aa[i].az,s.aa[i].bL,s.aa[i].Order,aN s.aa[i].ab k ⟨at',cs[i].bL,at'*16⟩,s.aa[i].ap⟩:=by
        unfold dZ;rw [Mt,M7,show at'*16=16*at' by omega]
       refine Wz ?_;refine ae.dm rfl rfl rfl ⟨_,rfl,u,hu,.inr (.inr ⟨he,by rw [mA];exact hc,by rw [mA,Mt],Kv,fun j x hj h=>(RA j x hj h).aK DN rfl,fun j x h=>(RC j x h).aK DN rfl,fun j x h=>(RD j x h).aK DN rfl,⟨XA,r.Words.n,Xc⟩,H,_,hb,?_,by rw [mA];exact WZ⟩)⟩;rw [mA,Sk];exact WY
     ·have U9:k=cs[i].ab.n:=by omega
      have Mt:eY s.aa[i] at'=k:=IV (by omega) (fun j hj h=>eX j hj (by omega)) (fun h=>by omega)
      repeat' (first|refine Wz ?_|refine Wl (yN.row.sl.jR cy (j:=4) (u := .slice cs[i].ab.A cs[i].ab.n cs[i].ab.c) rfl) ?_)
      all_goals try omega
      refine CW.gn 15 18 (fun _=>True) mixed (by kernel_rfl) fun w1 ai aG => ?_
      obtain ⟨hw,hb,yN,xo⟩:=dv ai hw hb yN xo;clear ai;refine SF.cr 0 [] aG rfl (by kernel_rfl) (by kernel_rfl) (by kernel_rfl) (aR rfl) (fun w2 hS=>aR rfl) rfl ?_;refine Wp 1 [4,3,2] [] aG rfl rfl ?_;refine Wt 2 [4,3] [] aG rfl (aF rfl) ?_;refine Wt 3 [4] [] aG rfl (aA rfl) ?_;refine Wt 4 [] [] aG rfl (aU rfl (yN.row.sl.jR cy (j:=4) (u := .slice cs[i].ab.A cs[i].ab.n cs[i].ab.c) rfl)) ?_;refine Wp 5 [] [] aG rfl rfl ?_;refine Wp 6 [14,13] [] aG rfl rfl ?_;refine Wp 7 [14,13,10,9,8] [] aG rfl rfl ?_;refine Wt 8 [14,13,10,9] [] aG rfl (aF rfl) ?_;refine Wt 9 [14,13,10] [] aG rfl (aA rfl) ?_;refine Wt 10 [14,13] [] aG rfl (aU rfl (yN.row.sl.jR cy (j:=2) (u := .int .i64 cs[i].bL) rfl)) ?_;refine Wp 11 [14,13,12] [] aG rfl rfl ?_;refine Wt 12 [14,13] [] aG rfl (pd rfl rfl (by omega) (by omega)) ?_;refine Wt 13 [14] [] aG rfl (fZ rfl rfl) ?_;refine SF.one 14 rfl (by kernel_rfl) rfl ?_;refine SW.dI rfl rfl rfl rfl rfl fun bn w9 ak T4 Pf => ?_
      have wk:aJ cs[i].ab.A cs[i].ab.c≠some bn:=fun e=>absurd ((yN.get oY hi).aE.lt_size _ e) (by omega)
      (obtain ⟨hw,hb,yN,xo⟩:=dv ak hw hb yN xo);refine SW.nil (ae.sf ak ?_);refine SF.turn rfl (by kernel_rfl) rfl ?_;have BE:=yN.get oY hi;simp only at BE;refine SW.dX rfl rfl (sL _ _ _ wb.heap.size s.aa[i].ab _ BE.aE k (by omega) ⟨at',cs[i].bL,at'*16⟩ bn Pf wk (by omega) (adf hx.size hw.size)) fun v pE hv => ?_
      obtain ⟨A2,c2,rfl,bj,hg,Pg⟩:=hv;have hG:=BE.aE.gr hg;have T5:=yN.Cv oY hi bj hg Pg;have Kv:=aD (hx.trans hw) hg (adg _) BE.aE.a9;have RA:∀ j x,j≠b->aS w0 j 44 x->aS pE j 44 x:=fun j x hj h=>((ux j x hj h).ext hw).aK hG rfl
      have RC:∀ j x,aS w0 j 127 x->aS pE j 127 x:=fun j x h=>((N0 j x h).ext hw).aK hG rfl
      have RD:∀ j x,aS w0 j 3 x->aS pE j 3 x:=fun j x h=>((Gt j x h).ext hw).aK hG rfl
      (obtain ⟨hb,xo⟩:=df hG hb xo);have hS:True:=trivial
      refine SW.nil (ae.sg hS ?_);refine SG.one 16 rfl (by kernel_rfl) rfl ?_;repeat ((show SW _ _ _ _ (⟨_,Op.nilCheck _,_,_,_,none⟩::_) _ _;refine SW.st (aF rfl) rfl ?_))
      refine SW.nil (ae.sg hS ?_);refine SG.one 17 rfl (by kernel_rfl) rfl ?_;repeat ((show SW _ _ _ _ (⟨_,Op.fieldAddr _ _ _,_,_,_,none⟩::_) _ _;refine SW.st (aA rfl) rfl ?_))
      refine SW.nil (ae.sg hS ?_);refine SG.last rfl (by kernel_rfl) (by kernel_rfl) ?_;have gm:=T5.row;refine SW.gZ i 4 ⟨cs[i].Names,cs[i].az,cs[i].bL,cs[i].Order,⟨A2,cs[i].ab.n+1,c2⟩,cs[i].ap⟩ gm rfl rfl rfl cy (by decide) rfl rfl fun rI kD HC => ?_
      have DN:=gm.gr HC;have WY:=T5.Hn kD HC;have Kv:=aD Kv HC (adg _) gm.a9;(obtain ⟨hb,xo⟩:=df DN hb xo)
      have WZ:=xo.rows (s':=bI (nb s (dJ s.Words (16*at') s.aa[i].az s.aa[i].bL)) i (u.1,dZ s.aa[i] at')) (cs':=cs.set i ⟨cs[i].Names,cs[i].az,cs[i].bL,cs[i].Order,⟨A2,cs[i].ab.n+1,c2⟩,cs[i].ap⟩) rfl (fun u hu=>by
       rcases ads hu with hu|rfl
       ·exact ⟨u,hu,rfl⟩
       ·exact ⟨cs[i],adb oY,rfl⟩)
      have Sk:dZ s.aa[i] at'=⟨s.aa[i].Names,s.aa[i].az,s.aa[i].bL,s.aa[i].Order,aN s.aa[i].ab k ⟨at',cs[i].bL,at'*16⟩,s.aa[i].ap⟩:=by
       unfold dZ;rw [Mt,M7,show at'*16=16*at' by omega]
      refine Wz ?_;refine ae.dm rfl rfl rfl ⟨_,rfl,u,hu,.inr (.inr ⟨he,by rw [mA];exact hc,by rw [mA,Mt],Kv,fun j x hj h=>(RA j x hj h).aK DN rfl,fun j x h=>(RC j x h).aK DN rfl,fun j x h=>(RD j x h).aK DN rfl,⟨XA,r.Words.n,Xc⟩,H,_,hb,?_,by rw [mA];exact WZ⟩)⟩;rw [mA,Sk];exact WY
    ·refine CW.any 19 mixed (dk (by kernel_rfl)) rfl fun w1 ai aG => ?_
     obtain ⟨hw,hb,bD,hH,hS⟩:=fD ai hw hb bD hH hS;clear ai;refine Wq 0 aG rfl rfl ?_;refine Wu 1 aG rfl (aF rfl) ?_;refine Wu 2 aG rfl (aA rfl) ?_;refine Wu 3 aG rfl (aU rfl (hb.cell (i:=0) (v := .slice r.Words.A r.Words.n r.Words.c) rfl)) ?_;refine Wq 4 aG rfl rfl ?_;refine Wu 5 aG rfl (pd rfl rfl (by omega) (by omega)) ?_;refine Wq 6 aG rfl rfl ?_;refine Wu 7 aG rfl (aF rfl) ?_;refine Wu 8 aG rfl (aA rfl) ?_;refine Wu 9 aG rfl (aU rfl (hS.row.sl.jR cy (j:=1) (u := .int .i64 cs[i].az) rfl)) ?_;refine Wq 10 aG rfl rfl ?_;refine Wu 11 aG rfl (aF rfl) ?_;refine Wu 12 aG rfl (aA rfl) ?_;refine Wu 13 aG rfl (aU rfl (hS.row.sl.jR cy (j:=2) (u := .int .i64 cs[i].bL) rfl)) ?_;refine SA.one 14 rfl (by kernel_rfl) rfl ?_;refine Wk (Co r.Words.A r.Words.n r.Words.c s.Words (at'*16) cs[i].az cs[i].bL _ hS.words.sl (by omega)) fun v w6 ak hv => ?_
     have g7:=hc;unfold jq at g7;rw [uu,show at'*16=16*at' by omega,Qh,M7,if_neg (by rw [U8] at g7;exact g7)] at hv;subst hv;(obtain ⟨hw,hb,bD,hH,hS⟩:=fD ak hw hb bD hH hS);refine SW.nil (ae.sa ak ?_);refine Wq 15 aG rfl rfl ?_;refine Wq 16 aG rfl rfl ?_;refine Wq 17 aG rfl rfl ?_;refine Wq 18 aG rfl rfl ?_;refine SA.done (by kernel_rfl) ?_;refine Wz ?_;exact ae.dm rfl rfl rfl ⟨_,rfl,u,hu,.inr (.inl ⟨he,by rw [mA];exact hc,rfl,hw⟩)⟩
   ·refine Wz ?_;all_goals try omega
    exact ae.dm rfl rfl rfl ⟨_,rfl,u,hu,.inl ⟨by rw [he];exact YD,by rw [he];rfl,hw⟩⟩
set_option maxHeartbeats 4000000 in
theorem mv (r:da) (s:ah) (w:World) (hr:Bh w r s) (hs:s.small) :
 bF prog 17 [.agg (aP r).toArray] w fun v w' => ∃ q zr,v = .agg (aP q).toArray∧SX w' w.heap.size q s zr∧SI w' w.heap.size q s zr:=by
 refine aC func17 rfl ntmps17 rfl ?_;refine CW.seq (CW.region (SW.box rfl rfl fun b1 w1 hw lp aZ => ?_));refine SW.alloc rfl fun b2 w2 bt fA au => ?_
 have u5:=hw.up fA
 have OC:b2≠b1:=by have:=aZ.lt;omega
 (obtain ⟨hw,aZ⟩:=df bt hw aZ);obtain ⟨cs,hc⟩:=hr.br;have Sq:=hr.words.len;have s1:=hs.words;have s3:=hs.br;obtain ⟨c1,c2⟩:=hc.len;refine Wz ?_
 obtain ⟨K,hK⟩ : ∃ K:Env->World->Prop,K=fun L' w' => ∃ X c1 G b3 m1 m2,iw L' [(1,.pointer (some ⟨b1,0,none⟩)),(2,.pointer (some ⟨b2,0,none⟩)),(3,.pointer (some ⟨b3,0,none⟩))]∧Ext w w'∧aS w' b1 44 (aP r)∧aS w' b2 44 (aP .zero) ∧
  aS w' b3 44 (aP ⟨⟨X,r.Words.n,c1⟩,G,.nil⟩)∧Own w' w.heap.size 3 1 bw X r.Words.n c1 s.Words∧jM w' m1 m2 G s.Heap∧(w.heap.size<=m1∧m1<=m2∧m2<=w'.heap.size ∧ ∀ g,aJ X c1=some g->g<m1)∧w.heap.size<=b3∧b1≠b3∧b2≠b3:=⟨_,rfl⟩
 refine CW.cut K ?_ ?_
 ·focus
   refine CW.any 8 mixed (dk (by kernel_rfl)) rfl fun w1 ai aG => ?_
   obtain ⟨hw,aZ,au⟩:=cn ai hw aZ au;clear ai;refine Wa ?_;refine Wu 4 aG rfl (aX rfl rfl ((mo aZ))) ?_;refine SA.two 2 7 rfl rfl (by kernel_rfl) rfl rfl ?_ ?_
   focus
    refine Wk (dF _ _ _ _ _ (hr.words.ext hw) (by omega)) fun v w4 ak hv => ?_
    obtain ⟨X,c4,rfl,hX⟩:=hv;have hX:=hX.low hw.size;obtain ⟨hw,aZ,au⟩:=cn ak hw aZ au;try have aq:=aq.ext ak
    refine SW.nil (ae.sa ak ?_);refine SA.two 5 7 rfl rfl (by kernel_rfl) rfl rfl ?_ ?_
    focus
     refine Wk (mn _ _ _ (hr.heap.ext hw) hs.heap) fun v w4 ak hv => ?_
     obtain ⟨G,rfl,hY⟩:=hv;have T6:∃ m1 m2,w.heap.size<=m1∧m1<=m2∧m2<=w4.heap.size∧(∀ g,aJ X c4=some g->g<m1)∧jM w4 m1 m2 G s.Heap:=⟨_,_,hw.size,ak.size,adg _,hX.lt_size,hY.vq⟩
     clear hY;obtain ⟨m1,m2,Hm,Fx,wS,T7,hY⟩:=T6;obtain ⟨hX,hw,aZ,au⟩:=dv ak hX hw aZ au;try have aq:=aq.ext ak
     refine SW.nil (ae.sa ak ?_);refine Wa ?_;refine SA.one 7 rfl (by kernel_rfl) rfl ?_;refine SW.alloc rfl fun b3 w4 ak cg aq => ?_
     have gd:=hw.up cg
     try have wS:=adf wS ak.size
     have rO:b1≠b3:=by have:=aZ.lt;omega
     have pr:b2≠b3:=by have:=au.lt;omega
     obtain ⟨hw,aZ,au⟩:=cn ak hw aZ au;try have hX:=hX.ext ak
     try have hY:=hY.ext ak
     refine SW.nil (ae.sa ak ?_)
    rotate_left
    focus
     refine SW.alloc rfl fun b3 w4 ak cg aq => ?_
     have gd:=hw.up cg
     try have wS:=adf wS ak.size
     have rO:b1≠b3:=by have:=aZ.lt;omega
     have pr:b2≠b3:=by have:=au.lt;omega
     obtain ⟨hw,aZ,au⟩:=cn ak hw aZ au;try have hX:=hX.ext ak
     try have hY:=hY.ext ak
     refine SW.nil (ae.sa ak ?_);refine SA.one 5 rfl (by kernel_rfl) rfl ?_;refine Wk (mn _ _ _ (hr.heap.ext hw) hs.heap) fun v w4 ak hv => ?_
     obtain ⟨G,rfl,hY⟩:=hv;have T6:∃ m1 m2,w.heap.size<=m1∧m1<=m2∧m2<=w4.heap.size∧(∀ g,aJ X c4=some g->g<m1)∧jM w4 m1 m2 G s.Heap:=⟨_,_,hw.size,ak.size,adg _,hX.lt_size,hY.vq⟩
     clear hY;obtain ⟨m1,m2,Hm,Fx,wS,T7,hY⟩:=T6;obtain ⟨hX,hw,aZ,au⟩:=dv ak hX hw aZ au;try have aq:=aq.ext ak
     refine SW.nil (ae.sa ak ?_);refine Wa ?_
    rotate_left
   rotate_left 2
   focus
    refine SW.alloc rfl fun b3 w4 ak cg aq => ?_
    have gd:=hw.up cg
    try have wS:=adf wS ak.size
    have rO:b1≠b3:=by have:=aZ.lt;omega
    have pr:b2≠b3:=by have:=au.lt;omega
    obtain ⟨hw,aZ,au⟩:=cn ak hw aZ au;try have hX:=hX.ext ak
    try have hY:=hY.ext ak
    refine SW.nil (ae.sa ak ?_);refine SA.one 2 rfl (by kernel_rfl) rfl ?_;refine Wk (dF _ _ _ _ _ (hr.words.ext hw) (by omega)) fun v w4 ak hv => ?_
    obtain ⟨X,c4,rfl,hX⟩:=hv;have hX:=hX.low hw.size;obtain ⟨hw,aZ,au⟩:=cn ak hw aZ au;try have aq:=aq.ext ak
    refine SW.nil (ae.sa ak ?_);refine SA.one 5 rfl (by kernel_rfl) rfl ?_;refine Wk (mn _ _ _ (hr.heap.ext hw) hs.heap) fun v w4 ak hv => ?_
    obtain ⟨G,rfl,hY⟩:=hv;have T6:∃ m1 m2,w.heap.size<=m1∧m1<=m2∧m2<=w4.heap.size∧(∀ g,aJ X c4=some g->g<m1)∧jM w4 m1 m2 G s.Heap:=⟨_,_,hw.size,ak.size,adg _,hX.lt_size,hY.vq⟩
    clear hY;obtain ⟨m1,m2,Hm,Fx,wS,T7,hY⟩:=T6;obtain ⟨hX,hw,aZ,au⟩:=dv ak hX hw aZ au;try have aq:=aq.ext ak
    refine SW.nil (ae.sa ak ?_);refine Wa ?_
   rotate_left
   all_goals
    refine SA.done (by kernel_rfl) ?_;skip;refine SW.ag aq rfl rfl rfl rfl (aY ⟨⟨X,r.Words.n,c4⟩,G,.nil⟩) fun w5 cX hg => ?_
    have hG:=aq.gr hg;have T8:=adf wS hg.size;have hw:=hw.own gd hg;(obtain ⟨hX,hY⟩:=df hG hX hY);have aZ:=aZ.grown hg (by simpa using rO);have au:=au.grown hg (by simpa using pr);refine Wz ?_;exact ae.cut (K:=K) (by rw [hK];exact ⟨X,c4,G,b3,m1,m2,⟨rfl,rfl,rfl,trivial⟩,hw,aZ,au,cX,hX,hY,⟨Hm,Fx,T8,T7⟩,gd,rO,pr⟩)
 ·clear aZ au hw;subst hK;rintro L' w' ⟨X,c4,G,b3,m1,m2,jA,hw,aZ,au,aq,hX,hY,⟨Hm,Fx,T8,T7⟩,gd,rO,pr⟩
  refine ae.sub jA ?_;refine Wz ?_
  refine CW.loop (fun s:Nat×Option Addr×Nat×List dS=>[(2,.pointer (some ⟨b2,0,none⟩)),(3,.pointer (some ⟨b3,0,none⟩)),(14,.slice r.aa.A r.aa.n r.aa.c),(15,.int .i64 (r.aa.n:Int)),(16,.int .i64 (s.1:Int))])
   (fun t w'=>t.1<=r.aa.n∧m2<=w'.heap.size∧Ext w w'∧aS w' b2 44 (aP .zero)∧aS w' b3 44 (aP ⟨⟨X,r.Words.n,c4⟩,G,⟨t.2.1,t.1,t.2.2.1⟩⟩)∧Own w' w.heap.size 3 1 bw X r.Words.n c4 s.Words∧jM w' m1 m2 G s.Heap ∧
     fw w' m2 ⟨t.2.1,t.1,t.2.2.1⟩ t.2.2.2 (s.aa.take t.1)∧x8 ⟨X,r.Words.n,c4⟩ t.2.2.2) (fun t=>r.aa.n-t.1) (0,none,0,[]) ⟨rfl,rfl,rfl,rfl,rfl,trivial⟩ ⟨by omega,T8,hw,au,aq,hX,hY,fw.nil _ _,x8.nil _⟩ ?_
  clear aZ au aq hX hY hw jA;rintro ⟨k,A,c,zr⟩ w' ⟨hk,T8,hw,au,aq,hX,hY,hO,xU⟩
  simp only at hk aq hO xU ⊢;have hA:=hc.row.base;by_cases gp:k<r.aa.n
  ·have j3:=hc.each.get k (by omega) (by omega);have q:=hs.each _ (adb (show k<s.aa.length by omega));have q1:=j3.names.len;have q2:=j3.aE.len;have q3:=j3.ba.len;have q4:=q.names;have q5:=q.aE;have q6:=q.ba;have Hl:=hO.row.lt_size;repeat' (first|refine Wz ?_|refine Wo hw ((hc.row.all gp)) ?_)
   refine SW.alloc rfl fun b5 w1 ai gx aM => ?_
   skip;refine SW.ag aM rfl rfl rfl rfl (BV _) fun w2 eV hg => ?_
   have ak:=ai.own gx hg;have jI:=hw.up gx
   obtain ⟨hw,au,aq,hX,hY,hO⟩:=gw ak hw au aq hX hY hO;have aM:=eV;clear eV ai hg ak;have T9:m2<=b5:=adf T8 gx
   refine Wz ?_;refine CW.any 10 mixed (dk (by kernel_rfl)) rfl fun w1 ai aG => ?_
   obtain ⟨hw,au,aq,aM,hX,hY,hO⟩:=uK ai hw au aq aM hX hY hO;clear ai;refine Wa ?_;refine SA.one 2 rfl (by kernel_rfl) rfl ?_;refine Wk (vp _ _ _ _ _ (j3.names.ext hw) (by omega)) fun v w4 ak hv => ?_
   obtain ⟨N,n4,rfl,hN⟩:=hv;have Jp:=hO.Yh (b:=⟨N,cs[k].Names.n,n4⟩) hN.a9;have hN:=hN.low (adf T9 (aeq aM.lt));(obtain ⟨hw,au,aq,aM,hX,hY,hO⟩:=uK ak hw au aq aM hX hY hO);refine SW.nil (ae.sa ak ?_);refine Wa ?_;refine SA.one 5 rfl (by kernel_rfl) rfl ?_;refine Wk (tT _ _ _ _ _ (j3.aE.ext hw) (by omega)) fun v w4 ak hv => ?_
   obtain ⟨M,m4,rfl,hM⟩:=hv;have kn:=hO.Yi (b:=⟨M,cs[k].ab.n,m4⟩) hM.a9;have hM:=hM.low (adf T9 (aeq aM.lt));(obtain ⟨hw,au,aq,aM,hX,hY,hO,hN⟩:=xQ ak hw au aq aM hX hY hO hN);refine SW.nil (ae.sa ak ?_);refine SA.one 8 rfl (by kernel_rfl) rfl ?_;refine Wk (dF _ _ _ _ _ (j3.ba.ext hw) (by omega)) fun v w4 ak hv => ?_
   obtain ⟨Q,q7,rfl,hQ⟩:=hv;have L8:=hO.Yj (b:=⟨Q,cs[k].ap.n,q7⟩) hQ.a9;have lA:=qa (a:=⟨X,r.Words.n,c4⟩) (b:=⟨Q,cs[k].ap.n,q7⟩) hX hQ.a9;have hQ:=hQ.low (adf T9 (aeq aM.lt));(obtain ⟨hw,au,aq,aM,hX,hY,hO,hN,hM⟩:=LG ak hw au aq aM hX hY hO hN hM);refine SW.nil (ae.sa ak ?_);refine SA.done (by kernel_rfl) ?_;refine Wb (i:=0) aM fun w6 eV hg => ?_
   have hG:=aM.gr hg;have hw:=hw.own jI hg;have hO:=hO.eM aM hg Hl gx;(obtain ⟨au,aq,hX,hY,hN,hM,hQ⟩:=uK hG au aq hX hY hN hM hQ);have aM:=eV;clear eV hg hG;refine Wz ?_;refine Wb (i:=4) aM fun w6 eV hg => ?_
   have hG:=aM.gr hg;have hw:=hw.own jI hg;have hO:=hO.eM aM hg Hl gx;(obtain ⟨au,aq,hX,hY,hN,hM,hQ⟩:=uK hG au aq hX hY hN hM hQ);have aM:=eV;clear eV hg hG;refine Wz ?_;refine Wb (i:=5) aM fun w6 eV hg => ?_
   have hG:=aM.gr hg;have hw:=hw.own jI hg;have hO:=hO.eM aM hg Hl gx;(obtain ⟨au,aq,hX,hY,hN,hM,hQ⟩:=uK hG au aq hX hY hN hM hQ);have aM:=eV;clear eV hg hG;refine Wz ?_;refine SW.dI rfl rfl rfl rfl rfl fun b w6 ak hb hB => ?_
   (obtain ⟨hw,au,aq,hX,hY,hO,hN,hM,hQ⟩:=LG ak hw au aq hX hY hO hN hM hQ);refine SW.append hO.row (aS.ue (enc:=fQ) (x:=⟨⟨N,_,n4⟩,cs[k].az,cs[k].bL,cs[k].Order,⟨M,_,m4⟩,⟨Q,_,q7⟩⟩) hB) (adf T9 (adf (aeq aM.lt) ak.size)) rfl rfl rfl (by simp only;omega) (by simp only;omega) fun A2 c2 w5 lD hg => ?_
   have hG:=hO.row.gr hg;have hm6:=adf (adf T9 (adf (aeq aM.lt) ak.size)) hg.size;have hw:=aD hw hg (adf Hm Fx) hO.row.a9;(obtain ⟨au,aq,hX,hY,hN,hM,hQ⟩:=uK hG au aq hX hY hN hM hQ);have hE:=hO.each.mono fun _ _ h=>h.aK hG rfl
   refine Wz ?_;refine Wb (i:=6) aq fun w6 ed hg => ?_
   have hG:=aq.gr hg;have hw:=hw.own gd hg;have au:=au.grown hg (by simpa using pr);(obtain ⟨hX,hY,hN,hM,hQ,lD⟩:=gw hG hX hY hN hM hQ lD);have hE:=hE.mono fun _ _ h=>h.aK hG rfl
   refine Wz ?_;refine ae.again (k+1,A2,c2,zr++[⟨⟨N,_,n4⟩,cs[k].az,cs[k].bL,cs[k].Order,⟨M,_,m4⟩,⟨Q,_,q7⟩⟩]) ⟨rfl,rfl,rfl,rfl,rfl,trivial⟩ (by simp only;omega) ⟨by simp only;omega,adf hm6 hg.size,hw,au,ed,hX,hY,⟨lD,?_⟩,xU.snoc (fun u hu=>⟨Jp u hu,kn u hu,L8 u hu⟩) lA⟩;rw [adk (by omega)];exact hE.snoc ⟨j3.size,j3.per,j3.order,hN,hM,hQ⟩
  ·obtain rfl:k=r.aa.n:=by omega
   rw [adr (by omega)] at hO;refine Wz ?_;refine SW.ag au rfl rfl rfl rfl (aY _) fun w5 cX hg => ?_
   have hG:=au.gr hg;have hw:=hw.own u5 hg;(obtain ⟨hX,hY,hO⟩:=cn hG hX hY hO);refine Wz ?_;exact ae.En rfl rfl cX rfl ⟨_,rfl,hw,⟨_,G,_⟩,zr,rfl,⟨hX,hY.own.low Hm,hO.row.low (adf Hm Fx),hO.each.mono fun _ _ h=>h.low (adf Hm Fx),xU.pair⟩,⟨m1,m2,Hm,Fx,T7,hY,hO.each⟩⟩
set_option maxHeartbeats 2000000 in
theorem yO (r:da) (s:ah) (n:ByteArray) (cpu:Int) (w:World) (hr:Bh w r s) (hf:s.cK) (N8:n.size<=140737488351232) :
 bF prog 100 [.agg (aP r).toArray,.string n,.int .i64 cpu] w (Ri w.heap.size s n cpu):=by
 refine aC func100 rfl ntmps100 rfl ?_;have hs:=hf.small;refine CW.seq (CW.region (SW.box rfl rfl fun b3 w1 hw cg aq => ?_));refine SW.alloc rfl fun b6 w3 nT dw ar => ?_
 have cS:=hw.up dw
 (obtain ⟨hw,aq⟩:=df nT hw aq);obtain ⟨q,hq⟩ : ∃ q,fW s=q:=⟨_,rfl⟩
 have c1:∀ w',Ext w w'->bF prog 46 [.agg (aP r).toArray] w' fun v _=>v = .int .i64 (if q then 0 else 8):=fun w' hx=>by
  have:=mr r s w' (hr.ext hx) hf
  rwa [hq] at this
 cases q
 ·simp only [Bool.false_eq_true,if_false] at c1;repeat' (first|refine Wz ?_|(refine Wk (c1 _ hw) ?_;intro v w1 ai hv;subst hv;obtain ⟨hw,aq,ar⟩:=cn ai hw aq ar;clear ai))
  refine SW.ag ar rfl rfl rfl rfl (aY .zero) fun w5 cX hg => ?_
  have hw:=hw.own cS hg;refine Wz ?_;exact ae.fg rfl rfl rfl rfl cX rfl ⟨_,rfl,hw,.inl ⟨by rw [MB hq];decide,by rw [MB hq];rfl⟩⟩
 ·simp only [if_true] at c1;obtain ⟨t,ht⟩ : ∃ t,s.aa.any (dQ n)=t:=⟨_,rfl⟩;obtain ⟨ix,rU⟩ : ∃ ix,idxOf (dQ n) s.aa=ix:=⟨_,rfl⟩
  have c3:∀ w',Ext w w'->bF prog 48 [.agg (aP r).toArray,.string n] w' fun v _=>v = .tuple #[.int .i64 ix,.bool t]:=fun w' hx=>by
   have:=Ce r s n w' (hr.ext hx) hs
   rwa [ht,rU] at this
  cases t
  ·repeat' (first|refine Wz ?_|(refine CW.gu rfl ?_)|((first|refine Wk (c1 _ hw) ?_|refine Wk (c3 _ hw) ?_);intro v w1 ai hv;subst hv;obtain ⟨hw,aq,ar⟩:=cn ai hw aq ar;clear ai))
   refine SW.ag ar rfl rfl rfl rfl (aY .zero) fun w5 cX hg => ?_
   have hw:=hw.own cS hg;refine Wz ?_;exact ae.fg rfl rfl rfl rfl cX rfl ⟨_,rfl,hw,.inl ⟨by rw [MC hq ht];decide,by rw [MC hq ht];rfl⟩⟩
  ·have pL:=hr.heap.cpus;by_cases hc : 0<=cpu∧cpu<s.Heap.bG
   ·repeat' (first|refine Wz ?_|(refine CW.fY rfl ?_)|((first|refine Wk (c1 _ hw) ?_|refine Wk (c3 _ hw) ?_);intro v w1 ai hv;subst hv;obtain ⟨hw,aq,ar⟩:=cn ai hw aq ar;clear ai))
    all_goals try omega
    refine Wk (mv r s _ (hr.ext hw) hs) fun v w6 ak hv => ?_
    obtain ⟨q,zr,rfl,hO,hI⟩:=hv;have hO:=hO.low hw.size;have hI:=hI.low hw.size;(obtain ⟨hw,ar⟩:=df ak hw ar);refine Wz ?_;refine SW.ag ar rfl rfl rfl rfl (aY q) fun w5 cX hg => ?_
    have hG:=ar.gr hg;have hw:=hw.own cS hg;(obtain ⟨hO,hI⟩:=df hG hO hI);refine Wz ?_;exact ae.fg rfl rfl rfl rfl cX rfl ⟨_,rfl,hw,.inr ⟨Hq hq ht hc,q,zr,by rw [rU];rfl,hO,hI⟩⟩
   ·rcases (show cpu<0∨(0<=cpu∧s.Heap.bG<=cpu) by omega) with g|g
    all_goals
     repeat' (first|refine Wz ?_|(refine CW.fY rfl ?_)|((first|refine Wk (c1 _ hw) ?_|refine Wk (c3 _ hw) ?_);intro v w1 ai hv;subst hv;obtain ⟨hw,aq,ar⟩:=cn ai hw aq ar;clear ai))
     all_goals try omega
     refine SW.ag ar rfl rfl rfl rfl (aY .zero) fun w5 cX hg => ?_
     have hw:=hw.own cS hg;refine Wz ?_;exact ae.fg rfl rfl rfl rfl cX rfl ⟨_,rfl,hw,.inl ⟨by rw [MD hq ht hc];decide,by rw [MD hq ht hc];rfl⟩⟩
variable {s:ah} {l':List Slab} {i lo:Nat} {w w':World}
theorem Fy (x:Slab) (b8:Nat) (ad:Addr) (A:Option Addr) (n c:Nat) (l:List Int) (w:World) (h8:aS w b8 127 [.pointer (some ad)]) (hp:w.cell? (ad.add 5)=some (.slice A n c)) (hl:Sl w 1 bw A n l) (hn:n<=9223372036854775807) :
 bF prog 167 ([.agg (bh x).toArray]++[.pointer (some ⟨b8,0,none⟩)]) w fun v _=>v = .bool (decide (0<x.aj) && !decide (x.At∈l)):=by
 refine aC func167 rfl ntmps167 rfl ?_;refine CW.seq (CW.region (SW.box rfl rfl fun b2 w1 hw fA au => ?_));have I2:=h8.cell (i:=0) (v := .pointer (some ad)) rfl;rw [add_zero] at I2;obtain ⟨q,hq⟩ : ∃ q,decide (x.At∈l)=q:=⟨_,rfl⟩
 have cC:∀ w',Ext w w'->bF prog 125 [.slice A n c,.int .i64 x.At] w' fun v _=>v = .bool q:=fun w' hx=>by
  have:=ic _ _ c _ x.At _ (hl.ext hx) hn
  rwa [hq] at this
 by_cases hf : 0<x.aj
 ·repeat' (first|refine Wz ?_|((apply CW.bH mixed;(· kernel_rfl);rotate_left;intro w1 ai;obtain ⟨hw,au⟩:=df ai hw au;clear ai;rotate_right))|refine Wn hw I2 ?_|refine Wn hw hp ?_|refine SW.dK rfl rfl (fun w1 ai=>(cC _ (hw.trans ai))) ?_|exact SW.eU rfl)
  all_goals try omega
  exact ae.bg rfl rfl ⟨_,rfl,hw,by rw [hq,decide_eq_true hf];simp⟩
 ·repeat' (first|refine Wz ?_|((apply CW.bH mixed;(· kernel_rfl);rotate_left;intro w1 ai;obtain ⟨hw,au⟩:=df ai hw au;clear ai;rotate_right))|exact SW.eU rfl)
  all_goals try omega
  exact ae.bg rfl rfl ⟨_,rfl,hw,by rw [decide_eq_false hf];simp⟩
def BF (c:aQ) (cpu k:Nat) : aQ:=⟨c.Names,c.az,c.bL,c.Order,c.ab,c.ap.set cpu (ir c k).At⟩
def Ua (G:Nat->Prop) (wb w0:World) (b:Nat) (r:da) (s:ah) (i:Nat) (c:aQ) (cpu:Nat) (v:Value) (w':World) : Prop :=
 ∃ m,rR s c cpu m∧Ext wb w'∧(∀ j x,j≠b->aS w0 j 44 x->aS w' j 44 x)∧(∀ j x,G j->aS w0 j 3 x->aS w' j 3 x) ∧
  ((m.1=none∧m.2≠0∧v = .tuple #[.int .i64 0,.int .i64 m.2]) ∨
   ∃ M,m=(some M,0)∧v = .tuple #[.int .i64 (M.k:Int),.int .i64 0] ∧ ∃ X H cs',aS w' b 44 (aP ⟨X,H,r.aa⟩)∧SX w' wb.heap.size ⟨X,H,r.aa⟩ (bI (nb s M.ws) i (M.h,BF M.c cpu M.k)) cs'∧SJ G w' wb.heap.size ⟨X,H,r.aa⟩ (bI (nb s M.ws) i (M.h,BF M.c cpu M.k)) cs')
set_option maxHeartbeats 8000000 in
theorem HD (G:Nat->Prop) (wb w0:World) (b:Nat) (r:da) (s:ah) (cs:List dS) (i cpu:Nat) (hf:s.cK) (hi:i<s.aa.length) (hM:rf s s.aa[i]) (eG:mN w0)
 (hx:Ext wb w0) (hb:aS w0 b 44 (aP r)) (rl:wb.heap.size<=b) (hS:SX w0 wb.heap.size r s cs) (hJ:SJ G w0 wb.heap.size r s cs) (T2:∀ g,G g->g<w0.heap.size) (qj:cpu<s.aa[i].ap.length) (yC:(s.aa[i].ab.length+1)*24<=140737488355328) :
 iO prog 145 [.pointer (some ⟨b,0,none⟩),.int .i64 (i:Int),.int .i64 (cpu:Int)] w0 (Ua G wb w0 b r s i s.aa[i] cpu):=by
 refine dl func145 rfl ntmps145 rfl ?_;have hm:=hM.most;have e0:=oe hi;have h2:=hf.Sw hi;have q4:=h2.small.ba;have dD:=hx.size;obtain ⟨e1,e2⟩:=hS.len;have oY:i<cs.length:=by omega
 have cy:i<r.aa.n:=by omega
 have Ee:=hS.row.sl.base;have hC:=hS.each.get i oY hi;have q1:=hC.aE.len;have q3:=hC.ba.len;have Si:cpu<cs[i].ap.n:=by omega
 have SB:=hC.aE.sl.base;have Ub:=hC.ba.sl.base;have Pj:=Ke hM qj;have gT:(s.aa[i].ap.getD cpu 0)=s.aa[i].ap[cpu]:=by simp [qj]
 clear hC;have hw:=Ext.refl w0;refine Wz ?_;refine SW.alloc rfl fun b8 w1 ai oG bi => ?_
 have gG:=hw.up oG
 (obtain ⟨hw,hb,hS,hJ⟩:=dv ai hw hb hS hJ);refine Wb (i:=0) bi fun w2 tJ hg => ?_
 have hG:=bi.gr hg;have hw:=hw.own gG hg;(obtain ⟨hb,hS,hJ⟩:=cn hG hb hS hJ);have bi:aS w2 b8 127 [.pointer (some ((r.aa.A.getD default).add (i*6)))]:=tJ;clear tJ hG hg
 have I2:∀ w',aS w' b8 127 [.pointer (some ((r.aa.A.getD default).add (i*6)))]->w'.cell? ⟨b8,0,none⟩=some (.pointer (some ((r.aa.A.getD default).add (i*6)))):=fun w' h=>by
  have:=h.cell (i:=0) (v := .pointer (some ((r.aa.A.getD default).add (i*6)))) rfl
  rwa [add_zero] at this
 obtain ⟨o,ho⟩ : ∃ o,DI s.aa[i] cpu=o:=⟨_,rfl⟩;obtain ⟨t,ht⟩ : ∃ t,s.aa[i].ap[cpu]=t:=⟨_,rfl⟩;rw [ho,ht] at Pj;have gA:∀ w',SX w' wb.heap.size r s cs->w'.cell? ((((cs[i].ap.A).getD default).add (cpu*1)))=some (Value.int .i64 t):=fun w' h=>(h.each.get i oY hi).ba.sl.one Si (by rw [show s.aa[i].ap[cpu]=t from ht];rfl)
 have hC:=hS.each.get i oY hi
 have cF:∀ w',Ext w2 w'->bF prog 137 [.agg (fQ cs[i]).toArray,.int .i64 t] w' fun v _=>v = .int .i64 o:=fun w' h=>by
  have:=EV cs[i] s.aa[i].ab t w' (hC.aE.sl.ext h) (by omega)
  unfold DI at ho;rw [gT,ht] at ho;rwa [ho] at this
 have N9:=hw;have hw:=Ext.refl w2;by_cases hA:∃ (k:Nat) (hk:k<s.aa[i].ab.length),o=k∧0<s.aa[i].ab[k].aj
 ·obtain ⟨k,hk,rfl,nj⟩:=hA;have gp:k<cs[i].ab.n:=by omega
  obtain ⟨y,hy⟩ : ∃ y,s.aa[i].ab[k]=y:=⟨_,rfl⟩;rw [hy] at nj;have gF:∀ w',SX w' wb.heap.size r s cs->w'.cell? ((((cs[i].ab.A).getD default).add (k*3)).add 1)=some (Value.int .i64 y.aj):=fun w' h=>(h.each.get i oY hi).aE.sl.jR gp (j:=1) (show (bh (s.aa[i].ab[k]'(by omega)))[1]?=some (Value.int .i64 y.aj) by rw [hy];rfl)
  have I3:qi s.aa[i] cpu=k:=by
   unfold qi;rw [ho,if_pos ⟨by omega,by rw [show ((k:Int)).toNat=k by omega,fp hk,hy];exact nj⟩]
  repeat' (first|refine Wz ?_|((apply CW.bH mixed;(· kernel_rfl);rotate_left;intro w1 ai;obtain ⟨hw,hb,bi,hS,hJ⟩:=fD ai hw hb bi hS hJ;clear ai;rotate_right))|refine Wl (I2 _ bi) ?_|refine Wm ((hS.row.sl.all cy)) ?_|refine Wl (hS.row.sl.jR cy (j:=5) (u := .slice cs[i].ap.A cs[i].ap.n cs[i].ap.c) rfl) ?_|refine Wl (gA _ hS) ?_|refine Wl (hS.row.sl.jR cy (j:=4) (u := .slice cs[i].ab.A cs[i].ab.n cs[i].ab.c) rfl) ?_|refine Wl (gF _ hS) ?_|refine SW.dK rfl rfl (fun w1 ai=>(cF _ (hw.trans ai))) ?_|exact SW.eU rfl)
  all_goals try omega
  have hw:=N9.trans hw;rcases Pj with ⟨_,h⟩|⟨_,k2,xW,h,BG⟩
  ·omega
  ·obtain rfl:k=k2:=by omega
   rw [hy] at BG
   have RE:BF s.aa[i] cpu k=s.aa[i]:=by
    unfold BF;rw [fp hk,hy,BG,<- ht,adW]
   refine ae.dm rfl rfl rfl ⟨_,rfl,_,.uM I3,hx.trans hw,fun j x hj h=>h.ext hw,fun j x hj h=>h.ext hw,.inr ⟨_,rfl,rfl,r.Words,r.Heap,cs,hb,?_⟩⟩;simp only;rw [RE];rw [<- e0] at hS hJ;exact ⟨hS,hJ⟩
 ·have Bm : ¬ (0<=o∧0<(ir s.aa[i] o.toNat).aj):=fun h=>by
   rcases Pj with ⟨_,h1⟩|⟨_,k2,xW,h1,_⟩
   ·omega
   ·refine hA ⟨k2,xW,h1,?_⟩;have:=h.2
    rwa [show o.toNat=k2 by omega,fp xW] at this
  rcases Pj with ⟨_,Cy⟩|⟨_,k2,xW,Cy,aaz⟩
  focus
   repeat' (first|refine Wz ?_|((apply CW.bH mixed;(· kernel_rfl);rotate_left;intro w1 ai;obtain ⟨hw,hb,bi,hS,hJ⟩:=fD ai hw hb bi hS hJ;clear ai;rotate_right))|refine Wl (I2 _ bi) ?_|refine Wm ((hS.row.sl.all cy)) ?_|refine Wl (hS.row.sl.jR cy (j:=5) (u := .slice cs[i].ap.A cs[i].ap.n cs[i].ap.c) rfl) ?_|refine Wl (gA _ hS) ?_|refine Wl (hS.row.sl.jR cy (j:=4) (u := .slice cs[i].ab.A cs[i].ab.n cs[i].ab.c) rfl) ?_|refine SW.dK rfl rfl (fun w1 ai=>(cF _ (hw.trans ai))) ?_|(refine SW.st (iK (vs:=[.pointer (some ⟨b8,0,none⟩)]) rfl) rfl ?_)|exact SW.eU rfl)
   all_goals try omega
  rotate_left
  focus
   have W0:k2<cs[i].ab.n:=by omega
   obtain ⟨y2,TO⟩ : ∃ y2,s.aa[i].ab[k2]=y2:=⟨_,rfl⟩;have aaA : ¬ 0<y2.aj:=fun h=>hA ⟨k2,xW,Cy,by rw [TO];exact h⟩
   have gF2:∀ w',SX w' wb.heap.size r s cs->w'.cell? ((((cs[i].ab.A).getD default).add (k2*3)).add 1)=some (Value.int .i64 y2.aj):=fun w' h=>(h.each.get i oY hi).aE.sl.jR W0 (j:=1) (show (bh (s.aa[i].ab[k2]'(by omega)))[1]?=some (Value.int .i64 y2.aj) by rw [TO];rfl)
   subst Cy;repeat' (first|refine Wz ?_|((apply CW.bH mixed;(· kernel_rfl);rotate_left;intro w1 ai;obtain ⟨hw,hb,bi,hS,hJ⟩:=fD ai hw hb bi hS hJ;clear ai;rotate_right))|refine Wl (I2 _ bi) ?_|refine Wm ((hS.row.sl.all cy)) ?_|refine Wl (hS.row.sl.jR cy (j:=5) (u := .slice cs[i].ap.A cs[i].ap.n cs[i].ap.c) rfl) ?_|refine Wl (gA _ hS) ?_|refine Wl (hS.row.sl.jR cy (j:=4) (u := .slice cs[i].ab.A cs[i].ab.n cs[i].ab.c) rfl) ?_|refine Wl (gF2 _ hS) ?_|refine SW.dK rfl rfl (fun w1 ai=>(cF _ (hw.trans ai))) ?_|(refine SW.st (iK (vs:=[.pointer (some ⟨b8,0,none⟩)]) rfl) rfl ?_)|exact SW.eU rfl)
   all_goals try omega
  all_goals
   have hw:=N9.trans hw;clear N9 cF hC;have hC:=hS.each.get i oY hi;have Uc:=hS.row.sl.jR cy (j:=5) (u := .slice cs[i].ap.A cs[i].ap.n cs[i].ap.c) rfl;refine Wk (lE _ _ _ s.aa[i].ab _ hC.aE.sl _ [.pointer (some ⟨b8,0,none⟩)] (Cp s.aa[i]) (fun x => .agg (bh x).toArray) (fun x=>rfl) (fun x pN w1 kW=>Fy x b8 _ cs[i].ap.A cs[i].ap.n cs[i].ap.c s.aa[i].ap w1 (bi.ext kW) (kW.cell Uc) (hC.ba.sl.ext kW) (by omega)) (by omega)) fun v w9 ak hv => ?_
   subst hv;(obtain ⟨hw,hb,bi,hS,hJ⟩:=fD ak hw hb bi hS hJ);clear hC Uc;obtain ⟨z,hz⟩ : ∃ z,idxOf (Cp s.aa[i]) s.aa[i].ab=z:=⟨_,rfl⟩;rw [hz]
   have I3:qi s.aa[i] cpu=z:=by
    unfold qi;rw [ho,if_neg Bm,hz]
   by_cases L9 : 0<=z
   ·obtain ⟨k,rfl⟩:=adn L9;obtain ⟨hk,nj⟩:=IW I3;have gp:k<cs[i].ab.n:=by omega
    obtain ⟨y,hy⟩ : ∃ y,s.aa[i].ab[k]=y:=⟨_,rfl⟩;have gY:∀ w',SX w' wb.heap.size r s cs->w'.cell? ((((cs[i].ab.A).getD default).add (k*3)).add 0)=some (Value.int .i64 y.At):=fun w' h=>(h.each.get i oY hi).aE.sl.jR gp (j:=0) (show (bh (s.aa[i].ab[k]'(by omega)))[0]?=some (Value.int .i64 y.At) by rw [hy];rfl)
    refine Wz ?_;all_goals try omega
    refine CW.gn 14 14 (fun _=>True) mixed (by kernel_rfl) fun w1 ai aG => ?_
    obtain ⟨hw,hb,bi,hS,hJ⟩:=fD ai hw hb bi hS hJ;clear ai;refine Wt 0 [] [] aG rfl (aU rfl (I2 _ bi)) ?_;refine Wt 1 [] [] aG rfl (aF rfl) ?_;refine Wt 2 [] [] aG rfl (aA rfl) ?_;refine Wt 3 [] [] aG rfl (aU rfl (hS.row.sl.jR cy (j:=5) (u := .slice cs[i].ap.A cs[i].ap.n cs[i].ap.c) rfl)) ?_;refine Wp 4 [] [] aG rfl rfl ?_;refine Wt 5 [] [] aG rfl (aU rfl (I2 _ bi)) ?_;refine Wt 6 [] [] aG rfl (aF rfl) ?_;refine Wt 7 [] [] aG rfl (aA rfl) ?_;refine Wt 8 [] [] aG rfl (aU rfl (hS.row.sl.jR cy (j:=4) (u := .slice cs[i].ab.A cs[i].ab.n cs[i].ab.c) rfl)) ?_;refine Wp 9 [] [] aG rfl rfl ?_;refine Wt 10 [] [] aG rfl (cd rfl rfl (by assumption) (by omega)) ?_;refine Wt 11 [] [] aG rfl (aA rfl) ?_;refine Wt 12 [] [] aG rfl (aU rfl (gY _ hS)) ?_;refine Wt 13 [] [] aG rfl (cd rfl rfl (by assumption) (by omega)) ?_;refine SF.last rfl (by kernel_rfl) (by kernel_rfl) ?_;have hC:=hS.each.get i oY hi;refine SW.qF cpu hC.ba rfl rfl Si fun pE hO hg => ?_
    have hG:=hC.ba.gr hg;rw [<- e0] at hS hJ;have W1:=hS.act hJ oY hi hO hg;have W2:=aD (hx.trans hw) hg (adg _) hC.ba.a9;have hb:=hb.aK hG rfl;refine Wz ?_;refine ae.dm rfl rfl rfl ⟨_,rfl,_,.uM I3,W2,fun j x hj h=>(h.ext hw).aK hG rfl,fun j x hj h=>(h.ext hw).grown hg (hJ.ne hj oY),.inr ⟨_,rfl,rfl,r.Words,r.Heap,cs,hb,?_⟩⟩
    have RE:BF s.aa[i] cpu k=⟨s.aa[i].Names,s.aa[i].az,s.aa[i].bL,s.aa[i].Order,s.aa[i].ab,s.aa[i].ap.set cpu y.At⟩:=by
     unfold BF;rw [fp hk,hy]
    simp only;rw [RE];exact W1
   ·have RF:qi s.aa[i] cpu<0:=by omega
    refine Wz ?_;all_goals try omega
    refine SW.dX rfl rfl (M6 G wb _ b r s cs i cpu hf hi hM (eG.ext hw) (hx.trans hw) hb rl hS (fun g hg=>⟨ad7 (T2 g hg) hw.size,fun u hu=>hJ.sep u hu g hg⟩) yC) fun v pE hv => ?_
    obtain ⟨⟨h',at',e⟩,hu,hv⟩:=hv;simp only at hv;rcases hv with ⟨he,rfl,DO⟩|⟨rfl,W3,rfl,DO⟩|⟨rfl,j3,rfl,DO,ux,N0,Gt,X,H,cs',iz,JV,PO⟩
    ·refine Wz ?_;all_goals try omega
     exact ae.dm rfl rfl rfl ⟨_,rfl,_,.room RF hu he,(hx.trans hw).trans DO,fun j x hj h=>(h.ext hw).ext DO,fun j x hj h=>(h.ext hw).ext DO,.inl ⟨rfl,he,rfl⟩⟩
    ·refine Wz ?_;all_goals try omega
     exact ae.dm rfl rfl rfl ⟨_,rfl,_,.chain RF hu rfl W3,(hx.trans hw).trans DO,fun j x hj h=>(h.ext hw).ext DO,fun j x hj h=>(h.ext hw).ext DO,.inl ⟨rfl,by simp,rfl⟩⟩
    ·have bi:=N0 _ _ bi;obtain ⟨e3,e4⟩:=JV.rows;have BH:i<cs'.length:=by simp only [nb] at e3;omega
     obtain ⟨k,U9⟩ : ∃ k,eY s.aa[i] at'=k:=⟨_,rfl⟩
     obtain ⟨c1,BS⟩ : ∃ c1,dZ s.aa[i] at'=c1:=⟨_,rfl⟩
     have E6:=oZ s.aa[i] at'
     have D8:c1.ab.length=s.aa[i].ab.length+1:=by
      rw [<- BS];exact di _ E6 _
     have Bx:k<c1.ab.length:=by omega
     have YF:c1.ab[k]=⟨at',s.aa[i].bL,16*at'⟩:=by
      subst BS;subst U9;exact Fm E6 Bx
     have Ud:c1.ap=s.aa[i].ap:=by rw [<- BS];rfl
     have ye:=rR.new RF hu rfl j3;rw [BS] at JV PO;rw [U9];simp only [BS,U9] at ye;have hC:=JV.get BH hi;simp only at hC;have q5:=hC.aE.len;have q6:=hC.ba.len;have gp:k<cs'[i].ab.n:=by omega
     have W4:cpu<cs'[i].ap.n:=by rw [<- q6,Ud];exact qj
     have aaC:=hC.aE.sl.base;have aaD:=hC.ba.sl.base;have gY:∀ w',SX w' wb.heap.size ⟨X,H,r.aa⟩ (bI (nb s (dJ s.Words (16*at') s.aa[i].az s.aa[i].bL)) i (h',c1)) cs'->w'.cell? ((((cs'[i].ab.A).getD default).add (k*3)).add 0)=some (Value.int .i64 at'):=fun w' h=>(h.get BH hi).aE.sl.jR gp (j:=0) (show (bh (c1.ab[k]'(by omega)))[0]?=some (Value.int .i64 at') by rw [YF];rfl)
     clear hC hS hJ hb;have YG:=hw;have hw:=Ext.refl pE;refine Wz ?_;all_goals try omega
     refine CW.gn 14 14 (fun _=>True) mixed (by kernel_rfl) fun w1 ai aG => ?_
     obtain ⟨hw,iz,bi,JV,PO⟩:=fD ai hw iz bi JV PO;clear ai;refine Wt 0 [] [] aG rfl (aU rfl (I2 _ bi)) ?_;refine Wt 1 [] [] aG rfl (aF rfl) ?_;refine Wt 2 [] [] aG rfl (aA rfl) ?_;refine Wt 3 [] [] aG rfl (aU rfl (JV.row.sl.jR cy (j:=5) (u := .slice cs'[i].ap.A cs'[i].ap.n cs'[i].ap.c) rfl)) ?_;refine Wp 4 [] [] aG rfl rfl ?_;refine Wt 5 [] [] aG rfl (aU rfl (I2 _ bi)) ?_;refine Wt 6 [] [] aG rfl (aF rfl) ?_;refine Wt 7 [] [] aG rfl (aA rfl) ?_;refine Wt 8 [] [] aG rfl (aU rfl (JV.row.sl.jR cy (j:=4) (u := .slice cs'[i].ab.A cs'[i].ab.n cs'[i].ab.c) rfl)) ?_;refine Wp 9 [] [] aG rfl rfl ?_;refine Wt 10 [] [] aG rfl (cd rfl rfl (by assumption) (by omega)) ?_;refine Wt 11 [] [] aG rfl (aA rfl) ?_;refine Wt 12 [] [] aG rfl (aU rfl (gY _ JV)) ?_;refine Wt 13 [] [] aG rfl (cd rfl rfl (by assumption) (by omega)) ?_;refine SF.last rfl (by kernel_rfl) (by kernel_rfl) ?_;have hC:=JV.get BH hi;simp only at hC;refine SW.qF cpu hC.ba rfl rfl W4 fun rI hO hg => ?_
     have hG:=hC.ba.gr hg;have W1:=JV.act PO BH hi hO hg;have W2:=aD (DO.trans hw) hg (adg _) hC.ba.a9;have iz:=iz.aK hG rfl;refine Wz ?_;refine ae.dm rfl rfl rfl ⟨_,rfl,_,ye,W2,fun j x hj h=>((ux j x hj (h.ext YG)).ext hw).aK hG rfl,fun j x hj h=>((Gt j x (h.ext YG)).ext hw).grown hg (PO.ne hj BH),.inr ⟨_,rfl,rfl,X,H,cs',iz,?_⟩⟩
     have RE:BF c1 cpu k=⟨c1.Names,c1.az,c1.bL,c1.Order,c1.ab,c1.ap.set cpu at'⟩:=by
      unfold BF;rw [fp Bx,YF]
     simp only;rw [RE];exact W1
def RG (G:Nat->Prop) (wb w0:World) (b:Nat) (r:da) (s:ah) (i:Nat) (c:aQ) (cpu:Nat) (v:Value) (w':World) : Prop :=
 ∃ m,rR s c cpu m∧Ext wb w'∧(∀ j x,j≠b->aS w0 j 44 x->aS w' j 44 x)∧(∀ j x,G j->aS w0 j 3 x->aS w' j 3 x) ∧
  ((m.1=none∧m.2≠0∧v = .tuple #[.int .i64 0,.int .i64 m.2]) ∨
   ∃ M,m=(some M,0)∧v = .tuple #[.int .i64 (ir M.c M.k).ck,.int .i64 0] ∧ ∃ X H cs',aS w' b 44 (aP ⟨X,H,r.aa⟩)∧SX w' wb.heap.size ⟨X,H,r.aa⟩ (bI (nb s M.ws) i (M.h,dL M.c cpu M.k (M.ws.getD (ir M.c M.k).ck.toNat 0))) cs'∧SJ G w' wb.heap.size ⟨X,H,r.aa⟩ (bI (nb s M.ws) i (M.h,dL M.c cpu M.k (M.ws.getD (ir M.c M.k).ck.toNat 0))) cs')
theorem sD.Pk {r:da} {cs:List dS} {p:Heap×aQ} (h:SX w lo r (bI s i p) cs) (hi:i<cs.length) (po:i<s.aa.length) (hO:Own w' lo 111 3 bh cs[i].ab.A cs[i].ab.n cs[i].ab.c l') (hg:w.grownBy w' (aJ cs[i].ab.A cs[i].ab.c)) :
 SX w' lo r (bI s i (p.1,⟨p.2.Names,p.2.az,p.2.bL,p.2.Order,l',p.2.ap⟩)) cs:=by
 have:=h.DF hi po hO hg
 have e:cs.set i ⟨cs[i].Names,cs[i].az,cs[i].bL,cs[i].Order,⟨cs[i].ab.A,cs[i].ab.n,cs[i].ab.c⟩,cs[i].ap⟩=cs:=adW hi
 rwa [e] at this
set_option maxHeartbeats 4000000 in
theorem I4 (G:Nat->Prop) (wb w0:World) (b:Nat) (r:da) (s:ah) (cs:List dS) (i cpu:Nat) (hf:s.cK) (hi:i<s.aa.length) (hM:rf s s.aa[i]) (eG:mN w0)
 (hx:Ext wb w0) (hb:aS w0 b 44 (aP r)) (rl:wb.heap.size<=b) (hS:SX w0 wb.heap.size r s cs) (hJ:SJ G w0 wb.heap.size r s cs) (T2:∀ g,G g->g<w0.heap.size) (qj:cpu<s.aa[i].ap.length) (yC:(s.aa[i].ab.length+1)*24<=140737488355328) :
 iO prog 101 [.pointer (some ⟨b,0,none⟩),.int .i64 (i:Int),.int .i64 (cpu:Int)] w0 (RG G wb w0 b r s i s.aa[i] cpu):=by
 refine dl func101 rfl ntmps101 rfl ?_;have hm:=hM.most;have Ee:=hS.row.sl.base;obtain ⟨e1,e2⟩:=hS.len;have cy:i<r.aa.n:=by omega
 refine Wz ?_;refine SW.dX rfl rfl (HD G wb _ b r s cs i cpu hf hi hM eG hx hb rl hS hJ T2 qj yC) fun v w1 hv => ?_
 obtain ⟨m,ye,kW,ux,Gt,hv⟩:=hv;rcases hv with ⟨hn,he,rfl⟩|⟨M,rfl,rfl,X,H,cs',aZ,RH,hJ1⟩
 ·have hw:=Ext.refl w1;refine Wz ?_;all_goals try omega
  exact ae.dm rfl rfl rfl ⟨_,rfl,m,ye,kW,ux,Gt,.inl ⟨hn,he,rfl⟩⟩
 ·have lX:=ye.QR hM M rfl;obtain ⟨e3,e4⟩:=RH.rows;simp only [nb] at e3;have BH:i<cs'.length:=by omega
  obtain ⟨k,hk⟩ : ∃ k,M.k=k:=⟨_,rfl⟩;have iE:=lX.hk;have YH:=lX.first
  have Tn:=lX.free;have Sq:=lX.len;obtain ⟨y,hy⟩ : ∃ y,M.c.ab[M.k]=y:=⟨_,rfl⟩;have W5:ir M.c M.k=y:=by rw [fp iE,hy]
  rw [hy] at YH Tn;obtain ⟨an,M8⟩:=adn YH.1;have hC:=RH.get BH hi;simp only [BF] at hC;have q1:M.c.ab.length=cs'[i].ab.n:=hC.aE.len
  have q2:=RH.words.len;have YI:X.n=M.ws.length:=q2.symm
  have pM:M.k<cs'[i].ab.n:=by omega
  have SB:=hC.aE.sl.base;have YJ:=RH.words.sl.base;have g2:=hC.aE.sl.jR pM (j:=2) (show (bh (M.c.ab[M.k]'(by omega)))[2]?=some (Value.int .i64 (an:Int)) by rw [hy,<- M8];rfl);have M9:an<M.ws.length:=by omega
  have W6:an<X.n:=by omega
  have gW:=RH.words.sl.one W6 (u := .int .i64 M.ws[an]) rfl;have hw:=Ext.refl w1;repeat' (first|refine Wz ?_|refine Wl (RH.row.sl.jR cy (j:=4) (u := .slice cs'[i].ab.A cs'[i].ab.n cs'[i].ab.c) rfl) ?_|refine Wl g2 ?_|refine Wl gW ?_)
  all_goals try omega
  refine SW.gZ M.k 2 ⟨y.At,y.aj,M.ws[an]⟩ hC.aE rfl rfl rfl pM (by decide) rfl (by simp only [hy];rfl) fun w8 SC Rx => ?_
  have g8:=SC.sl.jR pM (j:=1) (show (bh ((M.c.ab.set M.k ⟨y.At,y.aj,M.ws[an]⟩)[M.k]'(by rw [adK];exact iE)))[1]?=some (Value.int .i64 y.aj) by rw [aeT];rfl);repeat' (first|refine Wz ?_|refine Wl g8 ?_)
  refine SW.gZ M.k 1 ⟨y.At,y.aj-1,M.ws[an]⟩ SC rfl rfl rfl pM (by decide) rfl (by simp only [List.getElem_set_self];rfl) fun w9 SD Va => ?_
  have Bf:=bU Rx Va (.inl rfl);rw [aeE] at SD;have RI:=hC.aE.gr Bf;have qq:=RH.Pk BH hi SD Bf;have hx9:=aD kW Bf (adg _) hC.aE.a9;have aZ:=aZ.aK RI rfl;refine Wz ?_;refine ae.dm rfl rfl rfl ⟨_,rfl,_,ye,hx9,fun j x hj h=>(ux j x hj h).aK RI rfl,fun j x hj h=>(Gt j x hj h).aK RI rfl,.inr ⟨M,rfl,by rw [W5,M8],X,H,cs',aZ,?_⟩⟩
  have RE:dL M.c cpu M.k (M.ws.getD (ir M.c M.k).ck.toNat 0)=⟨M.c.Names,M.c.az,M.c.bL,M.c.Order,M.c.ab.set M.k ⟨y.At,y.aj-1,M.ws[an]⟩,M.c.ap.set cpu y.At⟩:=by
   unfold dL;rw [W5,M8];simp [M9]
  rw [RE];simp only [BF,W5] at qq;exact ⟨qq,(hJ1.aK RI rfl).rows rfl fun u hu=>⟨u,hu,rfl⟩⟩
set_option maxHeartbeats 4000000 in
theorem pF (r:da) (s:ah) (n:ByteArray) (cpu:Int) (w:World) (hr:Bh w r s) (hf:s.cK) (N8:n.size<=140737488351232) (eG:mN w) :
 bF prog 56 [.agg (aP r).toArray,.string n,.int .i64 cpu] w fun v w' => ∃ u,pA s n cpu u ∧ ∃ q,v = .tuple #[.agg (aP q).toArray,.int .i64 u.2.1,.int .i64 u.2.2]∧iY w' w.heap.size q u.1:=by
 refine aC func56 rfl ntmps56 rfl ?_;refine CW.seq (CW.region (SW.box rfl rfl fun b3 w1 hw cg aq => ?_));refine SW.alloc rfl fun b6 w3 nT dw ar => ?_
 have cS:=hw.up dw
 have bJ:b6≠b3:=by have:=aq.lt;omega
 have hz:∀ w',iY w' w.heap.size da.zero ah.zero:=fun w'=>⟨Own.fF _ _ _ _ _ _,jH.zero w' _,⟨[],fw.nil _ _⟩⟩
 (obtain ⟨hw,aq⟩:=df nT hw aq);refine Wz ?_;refine Wk (yO r s n cpu _ (hr.ext hw) hf N8) fun v w4 ak hv => ?_
 have oD:=hw.size;(obtain ⟨hw,aq,ar⟩:=cn ak hw aq ar);rcases hv with ⟨he,rfl⟩|⟨he,q,cs,rfl,hO,hI⟩
 ·have hP:=pA.ask he;obtain ⟨e,hE⟩ : ∃ e,iU s n cpu=e:=⟨_,rfl⟩;rw [hE] at he hP;rw [hE];refine Wz ?_;refine SW.ag aq rfl rfl rfl rfl (aY .zero) fun w5 ed hg => ?_
  have ar:=ar.grown hg (by simpa using bJ);have hw:=hw.own cg hg;refine Wz ?_;all_goals try omega
  refine SW.ag ar rfl rfl rfl rfl (aY .zero) fun w6 cX hg => ?_
  have hw:=hw.own cS hg;refine Wz ?_;exact ae.fg rfl rfl rfl rfl cX rfl ⟨_,rfl,hw,_,hP,.zero,rfl,hz _⟩
 ·have hO:=hO.low oD;have hI:=hI.low oD;obtain ⟨hq,ht,U3,BS⟩:=mC he;obtain ⟨i,hi,_,_,rU⟩:=ka ht;have hM:=iS.1 hq;have hm:=hM.most;obtain ⟨c,rfl⟩:=adn U3;have Kg:=(hM.each i hi).may.ba;have qj:c<s.aa[i].ap.length:=by omega
  have hB:=rf.of hM hi;have yC:=ti hB;rw [rU];refine Wz ?_;refine SW.ag aq rfl rfl rfl rfl (aY q) fun w5 ed hg => ?_
  have hG:=aq.gr hg;have ar:=ar.grown hg (by simpa using bJ);have hw:=hw.own cg hg;(obtain ⟨hO,hI⟩:=df hG hO hI);have aq:=ed;clear ed hG hg;refine Wz ?_;refine SW.dX rfl rfl (I4 (fun _=>False) w _ b3 q s cs i c hf hi hB (eG.ext hw) hw aq cg hO hI.sj (fun _ h=>h.elim) qj (by omega)) fun v w6 hv => ?_
  obtain ⟨m,ye,hx6,ux,_,hv⟩:=hv;have hP:=pA.Ed he rU hi (by simpa using ye);have ar:=ux _ _ bJ ar;clear hw;have hw:=hx6;rcases hv with ⟨hn,ia,rfl⟩|⟨M,rfl,rfl,X,H,cs',hb,hS,_⟩
  ·obtain ⟨m1,e⟩:=m;simp only at hn ia hP;subst hn;simp only [lZ] at hP;refine Wz ?_;all_goals try omega
   refine SW.ag ar rfl rfl rfl rfl (aY .zero) fun w7 cX hg => ?_
   have hw:=hw.own cS hg;refine Wz ?_;exact ae.fg rfl rfl rfl rfl cX rfl ⟨_,rfl,hw,_,hP,.zero,rfl,hz _⟩
  ·simp only [lZ] at hP;refine Wz ?_;refine SW.ag ar rfl rfl rfl rfl (aY ⟨X,H,q.aa⟩) fun w7 cX hg => ?_
   have hG:=ar.gr hg;have hw:=hw.own cS hg;have hS:=hS.aK hG rfl;refine Wz ?_;exact ae.fg rfl rfl rfl rfl cX rfl ⟨_,rfl,hw,_,hP,_,rfl,by simpa using hS.x9⟩
section
variable {wb w w':World} {k:HK} {p:HP} {s:ao×ao} {L:List aT} {t:TypeId} {b:Nat}
end
section
variable {P:Program} {L:Env} {w:World} {d:Option Nat} {T:TypeId} {pos:String} {af:Array Edge} {g:Option (Nat×Bool)}
end
variable {n:ByteArray} {cpu:Int}
theorem pA.small {u:ah×Int×Int} (x:pA s n cpu u) (hf:s.cK) : u.1.small:=by
 cases x with
 | ask=>exact ah.kX
 | Ed h e hi hm =>
   have:=ti (.of (iS.1 (mC h).1) hi)
   exact xA hi hm hf (by omega)
variable {j:Nat}
def wT (n:Int) : Int:=if n<=16 then 0 else if n<=32 then 1 else if n<=64 then 2 else if n<=128 then 3 else 4
inductive eR (s:ah) (cpu n:Int) : ah×Int×Int->Prop where
 | bad (h:fW s=false) : eR s cpu n (.zero,0,8)
 | range (h:fW s=true) (hn:n<1) : eR s cpu n (.zero,0,1)
 | size (h:fW s=true) (hn : 256<n) : eR s cpu n (.zero,0,9)
 | obj {u:ah×Int×Int} (h:fW s=true) (hn : 1<=n∧n<=32) (ho:pA s (hU n) cpu u) : eR s cpu n u
 | fault {u:Heap×Int×Int} (h:fW s=true) (hn : 32<n∧n<=256) (ha:cU s.Heap cpu (wT n) 0 u) (he:u.2.2≠0) : eR s cpu n (.zero,0,u.2.2)
 | bC {u:Heap×Int×Int} (h:fW s=true) (hn : 32<n∧n<=256) (ha:cU s.Heap cpu (wT n) 0 u) (he:u.2.2=0) : eR s cpu n (rj s u.1,16*u.2.1,0)
theorem eR.dq {n:Int} {u v:ah×Int×Int} (x:eR s cpu n u) (y:eR s cpu n v) : u=v:=by
 cases x with
 | bad h=>cases y with
   | bad=>rfl
   | range h'|size h'|obj h'|fault h'|bC h'=>rw [h] at h';cases h'
 | range h hn=>cases y with
   | bad h'=>rw [h] at h';cases h'
   | range=>rfl
   | size _ kj|obj _ kj|fault _ kj|bC _ kj=>omega
 | size h hn=>cases y with
   | bad h'=>rw [h] at h';cases h'
   | size=>rfl
   | range _ kj|obj _ kj|fault _ kj|bC _ kj=>omega
 | obj h hn ho=>cases y with
   | bad h'=>rw [h] at h';cases h'
   | obj _ _ nQ=>exact ho.dq nQ
   | range _ kj|size _ kj|fault _ kj|bC _ kj=>omega
 | fault h hn ha he=>cases y with
   | bad h'=>rw [h] at h';cases h'
   | fault _ _ mA=>rw [ha.dq mA]
   | bC _ _ mA ia=>rw [ha.dq mA] at he;exact absurd ia he
   | range _ kj|size _ kj|obj _ kj=>omega
 | bC h hn ha he=>cases y with
   | bad h'=>rw [h] at h';cases h'
   | bC _ _ mA=>rw [ha.dq mA]
   | fault _ _ mA ia=>rw [ha.dq mA] at he;exact absurd he ia
   | range _ kj|size _ kj|obj _ kj=>omega
theorem Na {n:Int} (hj:j<6) (h1:∀ m,m<j->kP m<n) (h2:n<=kP j) : hU n=fB (kP j)∧n<=32:=by
 have a0:=h1 0;have a1:=h1 1;have a2:=h1 2;have a3:=h1 3;have a4:=h1 4;unfold kP at *;rcases (show j=0∨j=1∨j=2∨j=3∨j=4∨j=5 by omega) with rfl|rfl|rfl|rfl|rfl|rfl
 all_goals
  simp only [Nat.reduceLT,forall_const,Int.reducePow,false_implies] at a0 a1 a2 a3 a4 h2;refine ⟨?_,by omega⟩;unfold hU;repeat' split
  all_goals first|(exfalso;omega)|rfl
theorem Kw {n:Int} (h1:∀ m,m<6->kP m<n) : hU n=⟨#[]⟩∧32<n:=by
 have a5:=h1 5 (by omega);unfold kP at a5;simp only [Int.reducePow] at a5;refine ⟨?_,a5⟩;unfold hU;repeat' split
 all_goals first|(exfalso;omega)|rfl
theorem RJ {n:Int} (hj:j<5) (h1:∀ m:Nat,m<j->16*pw (m:Int)<n) (h2:n<=16*pw (j:Int)) : wT n=(j:Int)∧n<=256:=by
 have a0:=h1 0;have a1:=h1 1;have a2:=h1 2;have a3:=h1 3;have p0:pw ((0:Nat) : Int)=1:=by decide
 have p1:pw ((1:Nat) : Int)=2:=by decide
 have p2:pw ((2:Nat) : Int)=4:=by decide
 have p3:pw ((3:Nat) : Int)=8:=by decide
 have p4:pw ((4:Nat) : Int)=16:=by decide
 rw [p0] at a0;rw [p1] at a1;rw [p2] at a2;rw [p3] at a3;rcases (show j=0∨j=1∨j=2∨j=3∨j=4 by omega) with rfl|rfl|rfl|rfl|rfl
 all_goals
  first|rw [p0] at h2|rw [p1] at h2|rw [p2] at h2|rw [p3] at h2|rw [p4] at h2
  refine ⟨?_,by omega⟩;unfold wT;repeat' split
  all_goals first|(exfalso;omega)|rfl
theorem Pm {n:Int} (h1:∀ m:Nat,m<5->16*pw (m:Int)<n) : 256<n:=by
 have:=h1 4 (by omega)
 rw [show pw ((4:Nat) : Int)=16 by decide] at this;omega
theorem Fz (n:Int) : (hU n).size<=140737488351232:=by
 unfold hU;split
 ·decide
 split
 ·decide
 split
 ·decide
 split
 ·decide
 split
 ·decide
 split
 ·decide
 ·decide
structure cJ where
 Kind:Int
 ga:Int
 N:Int
 M:Int
 At:Int
 Flags:Int
 Name:ByteArray
variable {u:ah×Int}
def Pn (c:aQ) (k:Nat) : aQ:=⟨c.Names.eraseIdx k,c.az,c.bL,c.Order,c.ab,c.ap⟩
def Qi (c:aQ) : Bool:=c.ab.any fun x=>decide (x.aj<c.bL)
inductive FA (s:ah) (n:ByteArray) : ah×Int->Prop where
 | ask (h:iU s n 0≠0) : FA s n (.zero,iU s n 0)
 | name {i:Nat} (h:iU s n 0=0) (e:idxOf (dQ n) s.aa=i) (hi:i<s.aa.length) (hl : 1<s.aa[i].Names.length) : FA s n (bI s i (s.Heap,Pn s.aa[i] (mQ s.aa[i].Names n)),0)
 | busy {i:Nat} (h:iU s n 0=0) (e:idxOf (dQ n) s.aa=i) (hi:i<s.aa.length) (hl : ¬ 1<s.aa[i].Names.length) (hb:Qi s.aa[i]=true) : FA s n (.zero,7)
 | cache {i:Nat} (h:iU s n 0=0) (e:idxOf (dQ n) s.aa=i) (hi:i<s.aa.length) (hl : ¬ 1<s.aa[i].Names.length) (hb:Qi s.aa[i]=false) : FA s n (⟨s.Words,(dR s.aa[i].ab.length (s.Heap,jN s.aa[i])).1,s.aa.eraseIdx i⟩,0)
theorem FA.dq {v:ah×Int} (x:FA s n u) (y:FA s n v) : u=v:=by
 cases x with
 | ask h=>cases y with
   | ask=>rfl
   | name h'|busy h'|cache h'=>exact absurd h' h
 | @name i h e hi hl=>cases y with
   | ask h'=>exact absurd h h'
   | @name j h' e' hj Bb =>
     obtain rfl:i=j:=by omega
     rfl
   | @busy j h' e' hj Bb =>
     obtain rfl:i=j:=by omega
     exact absurd hl Bb
   | @cache j h' e' hj Bb =>
     obtain rfl:i=j:=by omega
     exact absurd hl Bb
 | @busy i h e hi hl hb=>cases y with
   | ask h'=>exact absurd h h'
   | @name j h' e' hj Bb =>
     obtain rfl:i=j:=by omega
     exact absurd Bb hl
   | busy=>rfl
   | @cache j h' e' hj Bb iz =>
     obtain rfl:i=j:=by omega
     rw [hb] at iz;cases iz
 | @cache i h e hi hl hb=>cases y with
   | ask h'=>exact absurd h h'
   | @name j h' e' hj Bb =>
     obtain rfl:i=j:=by omega
     exact absurd Bb hl
   | @busy j h' e' hj Bb iz =>
     obtain rfl:i=j:=by omega
     rw [hb] at iz;cases iz
   | @cache j h' e' hj Bb iz =>
     obtain rfl:i=j:=by omega
     rfl
set_option maxHeartbeats 4000000 in
theorem Ap (A:Option Addr) (n c lo:Nat) (l:List Slab) (w:World) (hO:Own w lo 111 3 bh A n c l) (i:Nat) (hi:i<n) (hn:n<=1000000000000000000) (dD:lo<=w.heap.size) :
 iO prog 146 [.slice A n c,.int .i64 (i:Int),.int .i64 ((i+1:Nat) : Int)] w fun v w'=>v = .slice A (n-1) c∧Own w' lo 111 3 bh A (n-1) c (l.eraseIdx i)∧w.grownBy w' (aJ A c):=by
 refine dl func146 rfl ntmps146 rfl ?_;have hle:=hO.le;have mH:=hO.len;have hA:=hO.sl.base;have GD:w.grownBy w (aJ A c):=World.grownBy.refl _ _
 repeat' (first|refine Wz ?_|(refine SW.st (s8 (i:=i) (j:=i+1) (k:=n) rfl rfl rfl rfl (by omega) (by omega) (by omega)) rfl ?_))
 all_goals try omega
 have hw:=Ext.refl w;have e0:i+(n-(i+1))=n-1:=by omega
 have el:l.take i++l.drop (i+1)=l.eraseIdx i:=by rw [adM]
 refine CW.any 6 mixed (dk (by kernel_rfl)) rfl fun w1 ai aG => ?_
 obtain ⟨hw,hO⟩:=df ai hw hO;clear ai;refine Wa ?_;refine Wu 2 aG rfl (dn (k:=i) rfl rfl (by omega)) ?_;refine Wa ?_;refine Wu 5 aG rfl (bd (k:=i+1) rfl rfl (by omega) (by omega)) ?_;refine SA.done (by kernel_rfl) ?_;refine SW.u6 (hO.pre (i:=i) (by omega)) (hO.sl.drop (i+1) c (by omega) (by omega)) (by omega) rfl rfl rfl fun w2 bj hg => ?_
 rw [e0,el] at bj;rw [e0];have GF:=(hw.gr (aJ A c));repeat' (first|refine Wz ?_|(refine SW.st (jX (i:=n-1) (j:=n) rfl rfl rfl (by omega) (by omega)) rfl ?_))
 obtain ⟨g,rest,rfl,h1,h2,h3,h4,h5,h6⟩:=bj.opened (by omega);have pf:((l.eraseIdx i).flatMap bh).length=(n-1)*3:=by rw [aW,bj.len]
 refine SW.clear ((n-1)*3) h2 rfl (by rw [adp,pf];omega) (fun h0 => ?_) (by decide) fun w3 cs lT hB qE => ?_
 ·rw [if_neg (by omega)];simp [dc]
 ·have e7:=fb ((l.eraseIdx i).flatMap bh) (rest.take ((n-(n-1))*3)) (rest.drop ((n-(n-1))*3)) cs (by rw [lT];simp;omega) (o:=(n-1)*3) pf.symm;rw [adj (List.flatMap _ _),adh] at e7;rw [e7,adj] at hB;have Ep:=Own.closed (l:=l.eraseIdx i) bj.len hB (by rw [adp,lT];simp;omega) h4 (by omega) h5 h1;rw [<- h6] at qE;have Bf:=bU (bU GF hg (.inl rfl)) qE (.inl rfl);refine Wz ?_;exact ae.bg rfl rfl ⟨_,rfl,rfl,Ep,Bf⟩
variable {k:Nat}
structure Sh (wb w w':World) (b:Nat) (r:da) (H:jy) (s:ah) (i:Nat) (p:Heap×aQ) (cs:List dS) : Prop where
 ext:Ext wb w'
 eM:aS w' b 44 (aP ⟨r.Words,H,r.aa⟩)
 sx:SX w' wb.heap.size ⟨r.Words,H,r.aa⟩ (bI s i p) cs
 kp:∀ j x,j≠b->aS w j 44 x->aS w' j 44 x
set_option maxHeartbeats 4000000 in
theorem xE (wb w0:World) (b:Nat) (r:da) (s:ah) (cs:List dS) (i k:Nat) (p:Heap×aQ) (cpu:Int)
 (hx:Ext wb w0) (hb:aS w0 b 44 (aP r)) (rl:wb.heap.size<=b) (hS:SX w0 wb.heap.size r (bI s i p) cs) (hi:i<s.aa.length) (hn:s.aa.length<=1000000) (hk:k<p.2.ab.length) (h1:Lp p.1) (h2:Fi p.2) :
 iO prog 103 [.pointer (some ⟨b,0,none⟩),.int .i64 (i:Int),.int .i64 (k:Int),.int .i64 cpu] w0 fun v w'=>v = .tuple #[] ∧ ∃ H cs',Sh wb w0 w' b r H s i ((fh p.1 cpu p.2.ab[k].At).2,eQ p.2 k) cs':=by
 refine dl func103 rfl ntmps103 rfl ?_;obtain ⟨e1,e2⟩:=hS.rows;have oY:i<cs.length:=by omega
 have cy:i<r.aa.n:=by omega
 have Ee:=hS.row.sl.base;have hC:=hS.get oY hi;have q1:=hC.aE.len;have q2:=h2.small.aE;have pM:k<cs[i].ab.n:=by omega
 have SB:=hC.aE.sl.base;have lg:=h2.at_ _ (adb hk);obtain ⟨x,Mx⟩ : ∃ x,p.2.ab[k]=x:=⟨_,rfl⟩;have gA:=hC.aE.sl.jR pM (j:=0) (show (bh (p.2.ab[k]'(by omega)))[0]?=some (Value.int .i64 x.At) by rw [Mx];rfl);rw [Mx] at lg ⊢;have hw:=Ext.refl w0;have ux:∀ j x,j≠b->aS w0 j 44 x->aS w0 j 44 x:=fun _ _ _ h=>h
 refine Wz ?_;refine CW.gn 20 20 (fun _=>True) mixed (by kernel_rfl) fun w1 ai aG => ?_
 obtain ⟨hw,hb,hS⟩:=cn ai hw hb hS;clear ai;refine Wf ?_;refine Wt 4 [] [] aG rfl (aX rfl rfl ((mo hb))) ?_;refine Wf ?_;refine Wt 9 [] [] aG rfl (aU rfl (hS.row.sl.jR cy (j:=4) (u := .slice cs[i].ab.A cs[i].ab.n cs[i].ab.c) rfl)) ?_;refine Wf ?_;refine Wt 13 [] [] aG rfl (mG hw rfl gA) ?_;refine SF.one 14 rfl (by kernel_rfl) rfl ?_;refine Wk (vr r.Heap p.1 cpu x.At _ hS.heap.rd h1.small h1.uL lg) fun v w4 ak hv => ?_
 obtain ⟨H,rfl,hH⟩:=hv;have hH:=hH.low (adf hx.size hw.size);(obtain ⟨hw,hb,hS⟩:=cn ak hw hb hS);refine SW.nil (ae.sf ak ?_);refine Wf ?_;refine SF.jb 17 aG rfl (by kernel_rfl) (by kernel_rfl) rfl (fun _=>aR rfl) rfl ?_;refine Wf ?_;refine SF.last rfl (by kernel_rfl) (by kernel_rfl) ?_;refine SW.gq 1 hb rfl rfl rfl (adJ rfl) (dY H) (aP ⟨r.Words,H,r.aa⟩) rfl fun w5 aM hg => ?_
 have hG:=hb.gr hg;have hx:=(hx.trans hw).own rl hg;have W7:∀ j x,j≠b->aS w0 j 44 x->aS w5 j 44 x:=fun j x hj h=>(h.ext hw).grown hg (by simpa using hj)
 have W8:SX w5 wb.heap.size ⟨r.Words,H,r.aa⟩ (bI s i ((fh p.1 cpu x.At).2,p.2)) cs:=(hS.aK hG rfl).Rj (hH.aK hG rfl)
 clear hw ux hS hb hC gA;have hw:=Ext.refl w5;have hC:=W8.get oY hi;repeat' (first|refine Wz ?_|refine Wl (W8.row.sl.jR cy (j:=4) (u := .slice cs[i].ab.A cs[i].ab.n cs[i].ab.c) rfl) ?_)
 refine SW.dX rfl rfl (Ap _ _ _ wb.heap.size _ _ hC.aE k pM (by omega) hx.size) fun v w6 hv => ?_
 obtain ⟨rfl,hO6,uf⟩:=hv;have yG:=hC.aE.gr uf;have YK:=W8.DF oY hi hO6 uf;have ar:=aM.aK yG rfl;have hx:=aD hx uf (adg _) hC.aE.a9;have W9:∀ j x,j≠b->aS w0 j 44 x->aS w6 j 44 x:=fun j x hj h=>(W7 j x hj h).aK yG rfl
 have gm:=YK.row;refine Wz ?_;refine SW.gZ i 4 ⟨cs[i].Names,cs[i].az,cs[i].bL,cs[i].Order,⟨cs[i].ab.A,cs[i].ab.n-1,cs[i].ab.c⟩,cs[i].ap⟩ gm rfl rfl rfl cy (by decide) rfl rfl fun w7 kD Rw => ?_
 have wU:=gm.gr Rw;have hS7:=YK.Hn kD Rw;have hx:=aD hx Rw (adg _) gm.a9;refine Wz ?_;exact ae.pV rfl ⟨_,rfl,rfl,H,_,hx,ar.aK wU rfl,hS7,fun j x hj h=>(W9 j x hj h).aK wU rfl⟩
theorem Kx {l:List Int} (hk:k<l.length) : (List.replicate k (-1)++l.drop k).set k (-1)=List.replicate (k+1) (-1)++l.drop (k+1):=by
 rw [afd hk,aec _ _ (by simp),aed,afh,List.set_cons_zero,List.replicate_succ'];simp
set_option maxHeartbeats 4000000 in
theorem HE (wb w0:World) (b:Nat) (r:da) (s:ah) (cs:List dS) (i:Nat) (hf:s.cK)
 (hx:Ext wb w0) (hb:aS w0 b 44 (aP r)) (rl:wb.heap.size<=b) (hS:SX w0 wb.heap.size r s cs) (hI:SI w0 wb.heap.size r s cs) (hi:i<s.aa.length) (hn:s.aa.length<=1000000) :
 iO prog 104 [.pointer (some ⟨b,0,none⟩),.int .i64 (i:Int)] w0 fun v w'=>v = .tuple #[] ∧ ∃ H cs',Sh wb w0 w' b r H s i (dR s.aa[i].ab.length (s.Heap,jN s.aa[i])) cs':=by
 refine dl func104 rfl ntmps104 rfl ?_;have h1:=hf.lX;have h2:=hf.Sw hi;have e0:=oe hi;obtain ⟨c,hc⟩ : ∃ c,s.aa[i]=c:=⟨_,rfl⟩;rw [hc] at h2 e0 ⊢;rw [<- e0] at hS hI;obtain ⟨e1,e2⟩:=hS.rows;have oY:i<cs.length:=by omega
 have cy:i<r.aa.n:=by omega
 have Ee:=hS.row.sl.base;have hC:=hS.get oY hi;have q1:=hC.ba.len;have q2:=h2.small.ba;have q3:=hC.aE.len;have q4:=h2.small.aE;have Ub:=hC.ba.sl.base;obtain ⟨u,hu⟩ : ∃ u,cs[i]=u:=⟨_,rfl⟩;rw [hu] at hC q1 q3 Ub;have hw:=Ext.refl w0;simp only at hC q1 q3;have gU:=hS.row.sl.jR cy (j:=5) (show (fQ cs[i])[5]?=some (Value.slice u.ap.A u.ap.n u.ap.c) by rw [hu];rfl);repeat' (first|refine Wz ?_|refine Wl gU ?_)
 clear gU;obtain ⟨K,hK⟩ : ∃ K:Env->World->Prop,K=fun L' w'=>iw L' [(0,.pointer (some ⟨b,0,none⟩)),(1,.int .i64 (i:Int)),(4,.pointer (some ((r.aa.A.getD default).add (i*6))))]∧Ext wb w'∧aS w' b 44 (aP r)∧SX w' wb.heap.size r (bI s i (s.Heap,jN c)) cs∧(∀ j x,aS w0 j 44 x->aS w' j 44 x):=⟨_,rfl⟩
 refine CW.LI K ?_ ?_
 ·refine CW.loop (fun k:Nat=>[(0,.pointer (some ⟨b,0,none⟩)),(1,.int .i64 (i:Int)),(4,.pointer (some ((r.aa.A.getD default).add (i*6)))),(17,.int .i64 (u.ap.n:Int)),(18,.int .i64 (k:Int))])
   (fun k w'=>k<=u.ap.n∧Ext wb w'∧aS w' b 44 (aP r)∧SX w' wb.heap.size r (bI s i (s.Heap,⟨c.Names,c.az,c.bL,c.Order,c.ab,List.replicate k (-1)++c.ap.drop k⟩)) cs∧SI w' wb.heap.size r (bI s i (s.Heap,⟨c.Names,c.az,c.bL,c.Order,c.ab,List.replicate k (-1)++c.ap.drop k⟩)) cs∧(∀ j x,aS w0 j 44 x->aS w' j 44 x)) (fun k=>u.ap.n-k) 0
   ⟨rfl,rfl,rfl,rfl,rfl,trivial⟩ ⟨by omega,hx,hb,by simpa using hS,by simpa using hI,fun _ _ h=>h⟩ ?_
  clear hw hx hb hS hI hC Ub;rintro k w1 ⟨hk,hx,hb,hS,hI,ux⟩
  have hw:=Ext.refl w1;have hC:=hS.get oY hi;rw [hu] at hC;have Ub:=hC.ba.sl.base;by_cases gp:k<u.ap.n
  ·have gU:=hS.row.sl.jR cy (j:=5) (show (fQ cs[i])[5]?=some (Value.slice u.ap.A u.ap.n u.ap.c) by rw [hu];rfl);repeat' (first|refine Wz ?_|refine Wl gU ?_)
   refine SW.qF k hC.ba rfl rfl gp fun w2 hO hg => ?_
   have hG:=hC.ba.gr hg;simp only at hO;rw [Kx (by omega)] at hO;have YL:=hS.ME hI oY hi (by rw [hu];exact hO) (by rw [hu];exact hg);have hx:=aD hx hg (adg _) hC.ba.a9;have hb:=hb.aK hG rfl;refine Wz ?_;exact ae.again (k+1) ⟨rfl,rfl,rfl,rfl,rfl,trivial⟩ (by omega) ⟨by omega,hx,hb,YL.1,YL.2,fun j x h=>(ux j x h).aK hG rfl⟩
  ·obtain rfl:k=u.ap.n:=by omega
   refine Wz ?_;refine ae.mj ?_;rw [hK];refine ⟨⟨rfl,rfl,rfl,trivial⟩,hx,hb,?_,ux⟩
   have e3:List.replicate u.ap.n (-1)++c.ap.drop u.ap.n=List.replicate c.ap.length (-1):=by
    rw [q1,List.drop_of_length_le (by omega),aeA]
   rw [e3] at hS;exact hS
 ·clear hw hx hb hS hI hC Ub;subst hK;rintro L' w1 ⟨jA,hx,hb,hS,ux⟩
  refine ae.sub jA ?_;have hC:=hS.get oY hi;have hw:=Ext.refl w1;have q5:=hC.aE.len;have q6:(jN c).ab=c.ab:=rfl
  rw [q6] at q5;repeat' (first|refine Wz ?_|refine Wl (hS.row.sl.jR cy (j:=4) (u := .slice cs[i].ab.A cs[i].ab.n cs[i].ab.c) rfl) ?_)
  have h3:=h2.idle
  refine CW.loop (fun t:Nat×jy×List dS×Heap×aQ=>[(0,.pointer (some ⟨b,0,none⟩)),(1,.int .i64 (i:Int)),(4,.pointer (some ((r.aa.A.getD default).add (i*6)))),(6,.int .i64 ((t.1:Int)-1))])
   (fun t w'=>t.1<=t.2.2.2.2.ab.length∧Ext wb w'∧aS w' b 44 (aP ⟨r.Words,t.2.1,r.aa⟩)∧SX w' wb.heap.size ⟨r.Words,t.2.1,r.aa⟩ (bI s i t.2.2.2) t.2.2.1∧Lp t.2.2.2.1∧Fi t.2.2.2.2∧dR c.ab.length (s.Heap,jN c)=dR t.1 t.2.2.2∧(∀ j x,j≠b->aS w0 j 44 x->aS w' j 44 x)) (fun t=>t.1) (c.ab.length,r.Heap,cs,s.Heap,jN c)
   ?_ ⟨adg _,hx,hb,hS,h1,h3,rfl,fun j x _ h=>ux j x h⟩ ?_
  ·exact ⟨rfl,rfl,rfl,congrArg (fun z=>some (Value.int .i64 z)) (show ((cs[i].ab.n:Nat) : Int)-1=((c.ab.length:Nat) : Int)-1 by omega),trivial⟩
  clear hw hx hb hS hC ux jA h1 h2 h3 q5;rintro ⟨k,H,cs',h,c'⟩ w2 ⟨hk,hx,hb,hS,h1,h2,zg,ux⟩
  simp only at hk hb hS h1 h2 zg ⊢;have hw:=Ext.refl w2;obtain ⟨e3,e4⟩:=hS.rows;have BH:i<cs'.length:=by omega
  have hC:=hS.get BH hi;have q7:=hC.aE.len;have q8:=h2.small.aE;have q9:=hC.per;have SB:=hC.aE.sl.base;have Ee:=hS.row.sl.base;simp only at hC q7 q8 q9 Ee;cases k with
  | zero =>
    refine Wz ?_;exact ae.pV rfl ⟨_,rfl,rfl,H,cs',hx,hb,by rw [zg];exact hS,ux⟩
  | succ k =>
    have ek:((k+1:Nat) : Int)-1=(k:Int):=by omega
    rw [ek];have pM:k<c'.ab.length:=by omega
    have gp:k<cs'[i].ab.n:=by omega
    obtain ⟨y,hy⟩ : ∃ y,c'.ab[k]=y:=⟨_,rfl⟩;have gF:=hC.aE.sl.jR gp (j:=1) (show (bh (c'.ab[k]'(by omega)))[1]?=some (Value.int .i64 y.aj) by rw [hy];rfl);by_cases Qj:y.aj=c'.bL
    ·repeat' (first|refine Wz ?_|((apply CW.bH mixed;(· kernel_rfl);rotate_left;intro w1 ai;obtain ⟨hw,hb,hS⟩:=cn ai hw hb hS;clear ai;rotate_right))|refine Wl (hS.row.sl.jR cy (j:=4) (u := .slice cs'[i].ab.A cs'[i].ab.n cs'[i].ab.c) rfl) ?_|refine Wl (hS.row.sl.jR cy (j:=2) (u := .int .i64 cs'[i].bL) rfl) ?_|refine Wl gF ?_|exact SW.eU rfl)
     all_goals try omega
     refine SW.dX rfl rfl (xE wb _ b ⟨r.Words,H,r.aa⟩ s cs' i k (h,c') 0 (hx.trans hw) hb rl hS hi hn pM h1 h2) fun v w3 hv => ?_
     obtain ⟨rfl,H',Vb,hh⟩:=hv;rw [hy] at hh;refine Wz ?_;refine ae.again (k,H',Vb,(fh h 0 y.At).2,eQ c' k) ⟨rfl,rfl,rfl,rfl,trivial⟩ (by simp only;omega) ⟨?_,hh.ext,hh.eM,hh.sx,h1.free _ _,h2.cut _,?_,fun j x hj hB=>hh.kp j x hj ((ux j x hj hB).ext hw)⟩
     ·simp only [eQ];rw [aes pM];omega
     ·rw [zg,sH pM (by rw [hy];exact Qj),hy]
    ·repeat' (first|refine Wz ?_|((apply CW.bH mixed;(· kernel_rfl);rotate_left;intro w1 ai;obtain ⟨hw,hb,hS⟩:=cn ai hw hb hS;clear ai;rotate_right))|refine Wl (hS.row.sl.jR cy (j:=4) (u := .slice cs'[i].ab.A cs'[i].ab.n cs'[i].ab.c) rfl) ?_|refine Wl (hS.row.sl.jR cy (j:=2) (u := .int .i64 cs'[i].bL) rfl) ?_|refine Wl gF ?_|exact SW.eU rfl)
     all_goals try omega
     refine ae.again (k,H,cs',h,c') ⟨rfl,rfl,rfl,congrArg (fun z=>some (Value.int .i64 z)) (by omega),trivial⟩ (by simp only;omega) ⟨by simp only;omega,hx.trans hw,hb,hS,h1,h2,?_,fun j x hj hB=>(ux j x hj hB).ext hw⟩;rw [zg,qZ pM (by rw [hy];exact Qj)]
noncomputable def iM (s:ah) (n:ByteArray) : ah×Int:=if iU s n 0=0 then (if h:(idxOf (dQ n) s.aa).toNat<s.aa.length then (bI s (idxOf (dQ n) s.aa).toNat (dR s.aa[(idxOf (dQ n) s.aa).toNat].ab.length (s.Heap,jN s.aa[(idxOf (dQ n) s.aa).toNat])),0) else (.zero,0)) else (.zero,iU s n 0)
theorem Aq (h:iU s n 0=0) (hi:i<s.aa.length) (e:idxOf (dQ n) s.aa=(i:Int)) : iM s n=(bI s i (dR s.aa[i].ab.length (s.Heap,jN s.aa[i])),0):=by
 have e1:(idxOf (dQ n) s.aa).toNat=i:=by omega
 unfold iM;rw [if_pos h];subst e1;rw [dif_pos hi]
theorem Ar (h:iU s n 0≠0) : iM s n=(.zero,iU s n 0):=by unfold iM;rw [if_neg h]
set_option maxHeartbeats 2000000 in
theorem As (r:da) (s:ah) (n:ByteArray) (w:World) (hr:Bh w r s) (hf:s.cK) (N8:n.size<=140737488351232) :
 bF prog 58 [.agg (aP r).toArray,.string n] w fun v w'=>iT w.heap.size (iM s n) v w':=by
 refine aC func58 rfl ntmps58 rfl ?_;refine CW.seq (CW.region (SW.box rfl rfl fun b2 w1 hw fA au => ?_));refine SW.alloc rfl fun b4 w3 nT fP aI => ?_
 have eH:=hw.up fP
 have bJ:b4≠b2:=by have:=au.lt;omega
 (obtain ⟨hw,au⟩:=df nT hw au);refine Wz ?_;refine Wk (yO r s n 0 _ (hr.ext hw) hf N8) fun v w4 ak hv => ?_
 have oD:=hw.size;(obtain ⟨hw,au,aI⟩:=cn ak hw au aI);rcases hv with ⟨he,rfl⟩|⟨he,q,cs,rfl,hO,hI⟩
 ·obtain ⟨e,hE⟩ : ∃ e,iU s n 0=e:=⟨_,rfl⟩;have hV:=Ar he;rw [hE] at he hV;rw [hE];refine Wz ?_;refine SW.ag au rfl rfl rfl rfl (aY .zero) fun w5 ot hg => ?_
  have aI:=aI.grown hg (by simpa using bJ);have hw:=hw.own fA hg;refine Wz ?_;all_goals try omega
  refine SW.ag aI rfl rfl rfl rfl (aY .zero) fun w6 cX hg => ?_
  have hw:=hw.own eH hg;refine Wz ?_;exact ae.dA rfl rfl rfl cX rfl ⟨_,rfl,hw,by rw [hV];exact iT.zero e _ _⟩
 ·have hO:=hO.low oD;have hI:=hI.low oD;obtain ⟨hq,ht,_⟩:=mC he;obtain ⟨i,hi,_,_,rU⟩:=ka ht;have hV:=Aq he hi rU;have hm:=(iS.1 hq).most;rw [rU];refine Wz ?_;refine SW.ag au rfl rfl rfl rfl (aY q) fun w5 ot hg => ?_
  have hG:=au.gr hg;have aI:=aI.grown hg (by simpa using bJ);have hw:=hw.own fA hg;(obtain ⟨hO,hI⟩:=df hG hO hI);have au:=ot;clear ot hG hg;refine Wz ?_;refine SW.dX rfl rfl (HE w _ b2 q s cs i hf hw au fA hO hI hi (by omega)) fun v w6 hv => ?_
  obtain ⟨rfl,H,cs',hh⟩:=hv;have hw:=hh.ext;have aI:=hh.kp _ _ bJ aI;have hb:=hh.eM;have Xa:=hh.sx;refine Wz ?_;refine SW.ag aI rfl rfl rfl rfl (aY ⟨q.Words,H,q.aa⟩) fun w7 cX hg => ?_
  have hG:=aI.gr hg;have hw:=hw.own eH hg;have Xa:=Xa.aK hG rfl;refine Wz ?_;exact ae.dA rfl rfl rfl cX rfl ⟨_,rfl,hw,by rw [hV];exact ⟨_,rfl,Xa.x9⟩⟩
def sM (l:List Int) (t f k:Nat) : List Int:=l.take t++(l.drop f).take k++l.drop (t+k)
theorem wV {l:List Int} {t f:Nat} (h1:t+k<=l.length) (h2:f+k<=l.length) : (sM l t f k).length=l.length:=by simp [sM];omega
theorem Ky {l:List Int} {t f:Nat} (h1:t+k<=l.length) (h2:f+k<=l.length) (j:Nat) : (sM l t f k)[j]?=if j<t then l[j]? else if j<t+k then l[f+(j-t)]? else l[j]?:=by
 have e1:(l.take t).length=t:=by simp;omega
 have e2:((l.drop f).take k).length=k:=by simp;omega
 unfold sM;by_cases ha:j<t
 ·rw [if_pos ha,adQ (by rw [adp];omega),adQ (by omega),aeK ha]
 ·rw [if_neg ha];by_cases hb:j<t+k
  ·rw [if_pos hb,adQ (by rw [adp];omega),adX (by omega),e1,aeK (by omega),aeJ]
  ·rw [if_neg hb,adX (by rw [adp];omega),adp,e1,e2,aeJ];congr 1
   omega
def yP (lo:Nat) (n:Nat) (l:List Int) (x y z:Int) (v:Value) (w:World) : Prop :=
 if 0<=x∧0<=y∧0<=z∧x+z<=n∧y+z<=n then ∃ A c,v = .tuple #[.slice A n c,.int .i64 0]∧Own w lo 3 1 bw A n c (sM l x.toNat y.toNat z.toNat) else v = .tuple #[.slice none 0 0,.int .i64 1]
set_option maxHeartbeats 4000000 in
theorem Nb (A:Option Addr) (n c:Nat) (l:List Int) (x y z:Int) (w:World) (hl:Sl w 1 bw A n l) (hn:n*8<=140737488355328) (hc:n<=c) :
 bF prog 73 [.slice A n c,.int .i64 x,.int .i64 y,.int .i64 z] w (yP w.heap.size n l x y z):=by
 refine aC func73 rfl ntmps73 rfl ?_;have hw:=Ext.refl w;have kj:n<=2305843009213693952:=by omega
 by_cases hx : 0<=x∧0<=y∧0<=z∧x+z<=n∧y+z<=n
 ·obtain ⟨h1,h2,h3,h4,h5⟩:=id hx;obtain ⟨t,rfl⟩:=adn h1;obtain ⟨f,rfl⟩:=adn h2;obtain ⟨k,rfl⟩:=adn h3;have mH:=hl.len;repeat' (first|refine Wz ?_|(refine Wk (qH _ _ _ _ _ _ kj) ?_;intro v w1 ai hv;subst hv;have hw:=hw.trans ai;clear ai))
  all_goals try omega
  refine Wk (dF _ _ _ _ _ (hl.ext hw) hn) fun v w1 ai hv => ?_
  obtain ⟨A1,c1,rfl,hO⟩:=hv;have hO:=hO.low hw.size;have hw:=hw.trans ai;refine Wz ?_;have hle:=hO.le;have oT:=hO.sl.base;have hA:=hl.base;obtain ⟨K,hK⟩ : ∃ K:Env->World->Prop,K=fun L' w'=>iw L' [(10,.slice A1 n c1)]∧Ext w w'∧Own w' w.heap.size 3 1 bw A1 n c1 (sM l t f k):=⟨_,rfl⟩
  refine CW.Oq K ?_ ?_
  ·by_cases Gv:c1=0
   ·have h0:n=0:=by omega
    subst Gv h0;obtain rfl:t=0:=by omega
    obtain rfl:f=0:=by omega
    obtain rfl:k=0:=by omega
    have Sv:l=[]:=adw mH
    subst Sv;refine CW.any 12 mixed (dk (by kernel_rfl)) rfl fun w1 ai aG => ?_
    obtain ⟨hw,hO⟩:=df ai hw hO;clear ai;refine Wa ?_;refine Wu 5 aG rfl (jX (i:=0) (j:=0) rfl rfl rfl (by omega) (by omega)) ?_;refine Wa ?_;refine Wu 11 aG rfl (jX (i:=0) (j:=0) rfl rfl rfl (by omega) (by omega)) ?_;refine SA.done (by kernel_rfl) ?_;refine SW.S1 rfl rfl rfl (by omega) ?_;refine Wz ?_;exact ae.mj (K:=K) (by rw [hK];exact ⟨⟨rfl,trivial⟩,hw,by simpa [sM] using hO⟩)
   ·obtain ⟨g,rest,rfl,PH,dE,qE,xO,Ei,uf⟩:=hO.opened (by omega);have h9:=(hl.drop f c (by omega) (by omega)).pre (i:=k) (by omega)
    have e1:l.flatMap bw=(l.take t).flatMap bw++((l.drop t).take k).flatMap bw++(l.drop (t+k)).flatMap bw:=by
     rw [<- adt,<- adt];congr 1
     rw [adj,<- aeg,adh,adh]
    have e2:∀ q:List Int,(q.flatMap bw).length=q.length:=fun q=>by rw [aW (sz:=1)];omega
    refine CW.any 12 mixed (dk (by kernel_rfl)) rfl fun w1 ai aG => ?_
    obtain ⟨hw,hO,dE⟩:=cn ai hw hO dE;clear ai;refine Wa ?_;refine Wu 5 aG rfl (jX (i:=t) (j:=t+k) rfl rfl rfl (by omega) (by omega)) ?_;refine Wa ?_;refine Wu 11 aG rfl (jX (i:=f) (j:=f+k) rfl rfl rfl (by omega) (by omega)) ?_;refine SA.done (by kernel_rfl) ?_;refine SW.copy (k:=k) t (((l.drop f).take k).flatMap bw) dE rfl rfl rfl (by omega) (by rw [e2];simp;omega) (by rw [adp,e2,e2];simp;omega) (fun h0=>⟨?_,(if c=f then A else A.map (·.add (f*1))).getD default,?_,fun j v hv => ?_⟩) (fun v hv => ?_) fun w6 Ue hg => ?_
    ·rw [if_neg (by omega)];simp [dc]
    ·have:=h9.base h0
     obtain ⟨a,ha⟩:=adH.1 this;rw [ha];rfl
    ·exact du (by omega) (h9.ext hw) j v hv
    ·obtain ⟨u,_,hu⟩:=adx.1 hv;exact iy.one (enc:=bw) u v hu
    ·rw [<- uf] at hg;have hw:=aD hw hg (adg _) hO.a9;rw [e1,adj,fb _ _ _ _ (by rw [e2,e2];simp;omega) (by rw [e2];simp;omega),<- adj,<- adt,<- adt] at Ue;have hO:=Own.closed (l:=sM l t f k) (by rw [wV (by omega) (by omega)];exact mH) Ue qE xO (by omega) Ei PH;refine Wz ?_;exact ae.mj (K:=K) (by rw [hK];exact ⟨⟨rfl,trivial⟩,hw,hO⟩)
  ·clear hw hO;subst hK;rintro L' w' ⟨jA,hw,hO⟩
   refine ae.sub jA ?_;refine Wz ?_;refine ae.dm rfl rfl rfl ⟨_,rfl,hw,?_⟩;unfold yP;rw [if_pos hx];exact ⟨A1,c1,rfl,hO⟩
 ·repeat' (first|refine Wz ?_|refine SW.C2 rfl rfl rfl (fun h => ?_) (fun h => ?_)|(refine Wk (qH _ _ _ _ _ _ kj) ?_;intro v w1 ai hv;subst hv;have hw:=hw.trans ai;clear ai))
  all_goals try omega
  all_goals
   refine ae.dm rfl rfl rfl ⟨_,rfl,hw,?_⟩;unfold yP;rw [if_neg hx]
variable {a:Int}
def BI (l:List Int) (t f k:Int) : List Int:=if 0<=t∧0<=f∧0<=k∧t+k<=l.length∧f+k<=l.length then sM l t.toNat f.toNat k.toNat else []
def FB (s:ah) (t f k:Int) : ah:=⟨BI s.Words t f k,s.Heap,s.aa⟩
inductive nE (s:ah) (cpu a n:Int) : ah×Int×Int->Prop
 | size {z:Int×Int} (h:jJ s a z) (he:z.2≠0) : nE s cpu a n (.zero,0,z.2)
 | range {z:Int×Int} (h:jJ s a z) (he:z.2=0) (hc : ¬ (me s cpu∧1<=n)) : nE s cpu a n (.zero,0,1)
 | stay {z:Int×Int} (h:jJ s a z) (he:z.2=0) (hc:me s cpu∧1<=n) (hn:n<=z.1) : nE s cpu a n (s,a,0)
 | fault {z:Int×Int} {v:ah×Int×Int} (h:jJ s a z) (he:z.2=0) (hc:me s cpu∧1<=n) (hn : ¬ n<=z.1) (hv:eR s cpu n v) (Eb:v.2.2≠0) : nE s cpu a n (.zero,0,v.2.2)
 | free {z:Int×Int} {v:ah×Int×Int} {u:ah×Int} (h:jJ s a z) (he:z.2=0) (hc:me s cpu∧1<=n) (hn : ¬ n<=z.1) (hv:eR s cpu n v) (Eb:v.2.2=0) (hu:k7 (FB v.1 v.2.1 a z.1) cpu a u) (RK:u.2≠0) : nE s cpu a n (.zero,0,u.2)
 | ok {z:Int×Int} {v:ah×Int×Int} {u:ah×Int} (h:jJ s a z) (he:z.2=0) (hc:me s cpu∧1<=n) (hn : ¬ n<=z.1) (hv:eR s cpu n v) (Eb:v.2.2=0) (hu:k7 (FB v.1 v.2.1 a z.1) cpu a u) (RK:u.2=0) : nE s cpu a n (u.1,v.2.1,0)
theorem nE.dq {n:Int} {u v:ah×Int×Int} (x:nE s cpu a n u) (y:nE s cpu a n v) : u=v:=by
 cases x with
 | size h he=>cases y with
   | size h' ia=>obtain rfl:=h.dq h';rfl
   | range h' ia g7=>obtain rfl:=h.dq h';exact absurd ia he
   | stay h' ia g7 kj=>obtain rfl:=h.dq h';exact absurd ia he
   | fault h' ia g7 kj tG pG=>obtain rfl:=h.dq h';exact absurd ia he
   | free h' ia g7 kj tG pG ur wW=>obtain rfl:=h.dq h';exact absurd ia he
   | ok h' ia g7 kj tG pG ur wW=>obtain rfl:=h.dq h';exact absurd ia he
 | range h he hc=>cases y with
   | size h' ia=>obtain rfl:=h.dq h';exact absurd he ia
   | range h' ia g7=>rfl
   | stay h' ia g7 kj=>exact absurd g7 hc
   | fault h' ia g7 kj tG pG=>exact absurd g7 hc
   | free h' ia g7 kj tG pG ur wW=>exact absurd g7 hc
   | ok h' ia g7 kj tG pG ur wW=>exact absurd g7 hc
 | stay h he hc hn=>cases y with
   | size h' ia=>obtain rfl:=h.dq h';exact absurd he ia
   | range h' ia g7=>exact absurd hc g7
   | stay h' ia g7 kj=>obtain rfl:=h.dq h';rfl
   | fault h' ia g7 kj tG pG=>obtain rfl:=h.dq h';exact absurd hn kj
   | free h' ia g7 kj tG pG ur wW=>obtain rfl:=h.dq h';exact absurd hn kj
   | ok h' ia g7 kj tG pG ur wW=>obtain rfl:=h.dq h';exact absurd hn kj
 | fault h he hc hn hv Eb=>cases y with
   | size h' ia=>obtain rfl:=h.dq h';exact absurd he ia
   | range h' ia g7=>exact absurd hc g7
   | stay h' ia g7 kj=>obtain rfl:=h.dq h';exact absurd kj hn
   | fault h' ia g7 kj tG pG=>rw [hv.dq tG]
   | free h' ia g7 kj tG pG ur wW=>obtain rfl:=hv.dq tG;exact absurd pG Eb
   | ok h' ia g7 kj tG pG ur wW=>obtain rfl:=hv.dq tG;exact absurd pG Eb
 | free h he hc hn hv Eb hu RK=>cases y with
   | size h' ia=>obtain rfl:=h.dq h';exact absurd he ia
   | range h' ia g7=>exact absurd hc g7
   | stay h' ia g7 kj=>obtain rfl:=h.dq h';exact absurd kj hn
   | fault h' ia g7 kj tG pG=>obtain rfl:=hv.dq tG;exact absurd Eb pG
   | free h' ia g7 kj tG pG ur wW=>obtain rfl:=h.dq h';obtain rfl:=hv.dq tG;rw [hu.dq ur]
   | ok h' ia g7 kj tG pG ur wW=>obtain rfl:=h.dq h';obtain rfl:=hv.dq tG;obtain rfl:=hu.dq ur;exact absurd wW RK
 | ok h he hc hn hv Eb hu RK=>cases y with
   | size h' ia=>obtain rfl:=h.dq h';exact absurd he ia
   | range h' ia g7=>exact absurd hc g7
   | stay h' ia g7 kj=>obtain rfl:=h.dq h';exact absurd kj hn
   | fault h' ia g7 kj tG pG=>obtain rfl:=hv.dq tG;exact absurd Eb pG
   | free h' ia g7 kj tG pG ur wW=>obtain rfl:=h.dq h';obtain rfl:=hv.dq tG;obtain rfl:=hu.dq ur;exact absurd RK wW
   | ok h' ia g7 kj tG pG ur wW=>obtain rfl:=h.dq h';obtain rfl:=hv.dq tG;rw [hu.dq ur]
def k9 (c:aQ) (x:Slab) (a:Int) : Prop:=16*x.At<=a∧a<16*x.At+16*pw c.Order
instance (c:aQ) (x:Slab) (a:Int) : Decidable (k9 c x a):=inferInstanceAs (Decidable (_∧_))
def Au (l:List Block) (p:Int) : Bool:=l.any fun b=>decide (b.At<=p) && decide (p<b.At+pw b.Order)
inductive gj (s:ah) (a:Int) : Bool->Prop
 | out (h : ¬ (0<=a∧a<s.Words.length)) : gj s a false
 | py {c:aQ} {x:Slab} {u:Int×Int×Int} (h : 0<=a∧a<s.Words.length) (hc:c∈s.aa) (hx:x∈c.ab) (hi:k9 c x a) (hF:iG s (a-(a-x.At*16) % c.az) u) : gj s a (decide (u.2.2=0))
 | bC (h : 0<=a∧a<s.Words.length) (hn:∀ c∈s.aa,∀ x∈c.ab,¬ k9 c x a) : gj s a (Au s.Heap.Live (a / 16))
def rm (m:Int) : Prop := -1099511627776<=m∧m<=1099511627776
instance (m:Int) : Decidable (rm m):=inferInstanceAs (Decidable (_∧_))
inductive mf (s:ah) (a:cJ) : ah×Int×Int->Prop
 | no (h:gj s a.At false) : mf s a (s,0,4)
 | read (h:gj s a.At true) (hk:a.Kind=14) : mf s a (s,s.Words.getD a.At.toNat 0,0)
 | range (h:gj s a.At true) (hk:a.Kind≠14) (hm : ¬ rm a.M) : mf s a (s,0,1)
 | write (h:gj s a.At true) (hk:a.Kind≠14) (hm:rm a.M) : mf s a (⟨s.Words.set a.At.toNat a.M,s.Heap,s.aa⟩,0,0)
def Qk (n:ByteArray) : Bool:=n.data.toList.head? == some 107
inductive ff (s:ah) (a:cJ) : ah×Int×List Int×Int->Prop
 | ou {u:ah×Int} (hk:a.Kind=3) (h:lI s a.Name a.N a.M u) : ff s a (u.1,0,[],u.2)
 | form (hk:a.Kind=4) (hn:Qk a.Name=true) : ff s a (s,0,[],3)
 | nF {u:ah×Int} (hk:a.Kind=4) (hn:Qk a.Name=false) (h:FA s a.Name u) : ff s a (u.1,0,[],u.2)
 | new {u:ah×Int×Int} (hk:a.Kind=5) (h:pA s a.Name a.ga u) : ff s a (u.1,u.2.1,[],u.2.2)
 | drop {u:ah×Int} (hk:a.Kind=6) (h:rb s a.Name a.ga a.At u) : ff s a (u.1,0,[],u.2)
 | shrink (hk:a.Kind=7) : ff s a ((iM s a.Name).1,0,[],(iM s a.Name).2)
 | bulk {u:ah×List Int×Int} (hk:a.Kind=15) (h:oo s a.Name a.ga a.N u) : ff s a (u.1,0,u.2.1,u.2.2)
theorem ff.dq {a:cJ} {u v:ah×Int×List Int×Int} (x:ff s a u) (y:ff s a v) : u=v:=by
 cases x with
 | ou hk h=>cases y with
   | ou _ h'=>rw [h.dq h']
   | form bW|nF bW|new bW|drop bW|shrink bW|bulk bW=>omega
 | form hk h=>cases y with
   | form=>rfl
   | nF _ h'=>rw [h] at h';cases h'
   | ou bW|new bW|drop bW|shrink bW|bulk bW=>omega
 | nF hk hn h=>cases y with
   | form _ h'=>rw [hn] at h';cases h'
   | nF _ _ h'=>rw [h.dq h']
   | ou bW|new bW|drop bW|shrink bW|bulk bW=>omega
 | new hk h=>cases y with
   | new _ h'=>rw [h.dq h']
   | ou bW|form bW|nF bW|drop bW|shrink bW|bulk bW=>omega
 | drop hk h=>cases y with
   | drop _ h'=>rw [h.dq h']
   | ou bW|form bW|nF bW|new bW|shrink bW|bulk bW=>omega
 | shrink hk=>cases y with
   | shrink=>rfl
   | ou bW|form bW|nF bW|new bW|drop bW|bulk bW=>omega
 | bulk hk h=>cases y with
   | bulk _ h'=>rw [h.dq h']
   | ou bW|form bW|nF bW|new bW|drop bW|shrink bW=>omega
theorem iY.aK {t:Nat} {r:da} (h:iY w lo r s) (hG:rL w w' t) (bJ:(Nat.beq t 3 || (Nat.beq t 147 || (Nat.beq t 117 || (Nat.beq t 159 || (Nat.beq t 107 || (Nat.beq t 9 || Nat.beq t 111))))))=false) : iY w' lo r s:=by
 simp only [Bool.or_eq_false_iff] at bJ;obtain ⟨h1,h2,h3,h4,h5,h6,h7⟩:=bJ;obtain ⟨cs,hc⟩:=h.br;exact ⟨h.words.aK hG h1,h.heap.aK hG (by simp [h1,h2,h3,h4]),⟨cs,hc.aK hG (by simp [h1,h5,h6,h7])⟩⟩
variable {R:Ending->World->Prop} {fn:Func} {cs:List Value} {b m m' tb' YM:Nat} {P:Program}
structure kI where
 Code:Int
 N:Int
 L:List Int
structure pH where
 Code:Int
 N:Int
 L:gb
def ew (a:cJ) : List Value:=[.int .i64 a.Kind,.int .i64 a.ga,.int .i64 a.N,.int .i64 a.M,.int .i64 a.At,.int .i64 a.Flags,.string a.Name]
instance:iy ew 7:=⟨fun _=>rfl,fun r u hu=>by simp [ew] at hu;rcases hu with rfl|rfl|rfl|rfl|rfl|rfl|rfl<;>rfl⟩
def cb (r:pH) : List Value:=[.int .i64 r.Code,.int .i64 r.N,r.L.v]
instance:iy cb 3:=⟨fun _=>rfl,fun r u hu=>by simp [cb,gb.v] at hu;rcases hu with rfl|rfl|rfl<;>rfl⟩
theorem fr (r:pH) : ∀ v∈cb r,v.oneCell'=true:=iy.one (enc:=cb) r
theorem Ql (r:cJ) : ∀ v∈ew r,v.oneCell'=true:=iy.one (enc:=ew) r
structure dM (s:ah) : Prop where
 cK:s.cK
 may:aB s
structure kv (w:World) (lo:Nat) (r:pH) (x:kI) : Prop where
 code:r.Code=x.Code
 n:r.N=x.N
 list:Own w lo 3 1 bw r.L.A r.L.n r.L.c x.L
section
variable {w w':World} {lo oA t:Nat} {r:pH} {x:kI}
theorem kv.ext (h:kv w lo r x) (hx:Ext w w') : kv w' lo r x:=⟨h.code,h.n,h.list.ext hx⟩
theorem kv.low (h:kv w lo r x) (hl:oA<=lo) : kv w oA r x:=⟨h.code,h.n,h.list.low hl⟩
theorem kv.aK (h:kv w lo r x) (hG:rL w w' t) (bJ:Nat.beq t 3=false) : kv w' lo r x:=⟨h.code,h.n,h.list.aK hG bJ⟩
theorem kv.plain (w:World) (lo:Nat) (c n:Int) : kv w lo ⟨c,n,.nil⟩ ⟨c,n,[]⟩:=⟨rfl,rfl,Own.fF _ _ _ _ _ _⟩
end
structure iV (w:World) (lo:Nat) (A:Option Addr) (n c:Nat) (rs:List pH) (xs:List kI) : Prop where
 row:Own w lo 55 3 cb A n c rs
 each:gg (kv w lo) rs xs
section
variable {w w':World} {lo oA t n c:Nat} {A:Option Addr} {rs:List pH} {xs:List kI}
theorem iV.ext (h:iV w lo A n c rs xs) (hx:Ext w w') : iV w' lo A n c rs xs:=⟨h.row.ext hx,h.each.mono fun _ _ h=>h.ext hx⟩
theorem iV.low (h:iV w lo A n c rs xs) (hl:oA<=lo) : iV w oA A n c rs xs:=⟨h.row.low hl,h.each.mono fun _ _ h=>h.low hl⟩
theorem iV.aK (h:iV w lo A n c rs xs) (hG:rL w w' t) (bJ:(Nat.beq t 55 || Nat.beq t 3)=false) : iV w' lo A n c rs xs:=by
 simp only [Bool.or_eq_false_iff] at bJ;exact ⟨h.row.aK hG bJ.1,h.each.mono fun _ _ h=>h.aK hG bJ.2⟩
theorem iV.len (h:iV w lo A n c rs xs) : xs.length=n:=by rw [<- h.each.len,h.row.len]
end
def mZ (e:Int) (s t:ah) : ah:=if e=0 then t else s
inductive o6 (s:ah) (a:cJ) : ah×Int->Prop
 | range (h : ¬ (0<=a.At∧a.At<256)) : o6 s a (s,1)
 | no (h : 0<=a.At∧a.At<256) (hw:dj s (a.At*16)=false) : o6 s a (s,4)
 | ok (h : 0<=a.At∧a.At<256) (hw:dj s (a.At*16)=true) (he:(fh s.Heap a.ga a.At).1=0) : o6 s a (rj s (fh s.Heap a.ga a.At).2,0)
 | fault (h : 0<=a.At∧a.At<256) (hw:dj s (a.At*16)=true) (he:(fh s.Heap a.ga a.At).1≠0) : o6 s a (s,(fh s.Heap a.ga a.At).1)
inductive cx (s:ah) (a:cJ) : ah×kI->Prop
 | bC {u:Heap×Int×Int} (hk:a.Kind=1) (h:cU s.Heap a.ga a.N a.Flags u) : cx s a (mZ u.2.2 s (rj s u.1),⟨u.2.2,u.2.1,[]⟩)
 | nc {u:ah×Int} (hk:a.Kind=2) (h:o6 s a u) : cx s a (mZ u.2 s u.1,⟨u.2,0,[]⟩)
 | drain (hk:a.Kind=12) : cx s a (mZ (k6 s.Heap).1 s (rj s (k6 s.Heap).2),⟨(k6 s.Heap).1,0,[]⟩)
 | fj {u:ah×Int×Int} (hk:a.Kind=8) (h:eR s a.ga a.N u) : cx s a (mZ u.2.2 s u.1,⟨u.2.2,u.2.1,[]⟩)
 | ko {u:ah×Int} (hk:a.Kind=9) (h:k7 s a.ga a.At u) : cx s a (mZ u.2 s u.1,⟨u.2,0,[]⟩)
 | nq {u:Int×Int} (hk:a.Kind=10) (h:jJ s a.At u) : cx s a (s,⟨u.2,u.1,[]⟩)
 | br {u:ah×Int×List Int×Int} (hk:(3<=a.Kind∧a.Kind<=7)∨a.Kind=15) (h:ff s a u) : cx s a (mZ u.2.2.2 s u.1,⟨u.2.2.2,u.2.1,u.2.2.1⟩)
 | dV {u:ah×Int×Int} (hk:a.Kind=11) (h:nE s a.ga a.At a.N u) : cx s a (mZ u.2.2 s u.1,⟨u.2.2,u.2.1,[]⟩)
 | word {u:ah×Int×Int} (hk:a.Kind=13∨a.Kind=14) (h:mf s a u) : cx s a (mZ u.2.2 s u.1,⟨u.2.2,u.2.1,[]⟩)
 | Gn (hk:a.Kind<1∨15<a.Kind) : cx s a (s,⟨2,0,[]⟩)
inductive kJ:ah->List cJ->List kI->ah->Prop
 | nil (s:ah) : kJ s [] [] s
 | snoc {s t:ah} {l:List cJ} {xs:List kI} {a:cJ} {u:ah×kI} (h:kJ s l xs t) (hu:cx t a u) : kJ s (l++[a]) (xs++[u.2]) u.1
theorem kJ.len {t:ah} {l:List cJ} {xs:List kI} (h:kJ s l xs t) : xs.length=l.length:=by
 induction h with
 | nil=>rfl
 | snoc h hu ih=>simp [ih]
theorem kJ.Qm {t:ah} {l:List cJ} {a:cJ} {xs:List kI} (h:kJ s (l++[a]) xs t) : ∃ ys m u,kJ s l ys m∧cx m a u∧xs=ys++[u.2]∧t=u.1:=by
 generalize e:l++[a]=l' at h
 cases h with
 | nil=>simp at e
 | snoc h hu =>
   obtain ⟨rfl,e2⟩:=List.append_inj' e rfl;simp only [List.cons.injEq,and_true] at e2;subst e2;exact ⟨_,_,_,h,hu,rfl,rfl⟩
def wX (I:ah->Prop) (a:cJ) : Prop := ∀ s u,I s->cx s a u->I u.1
theorem kJ.jT {I:ah->Prop} {t:ah} {l:List cJ} {xs:List kI} (h:kJ s l xs t) : I s->(∀ a∈l,wX I a)->I t:=by
 induction h with
 | nil=>exact fun h _=>h
 | snoc h hu ih=>exact fun hs hl=>hl _ (by simp) _ _ (ih hs fun a ha=>hl a (by simp [ha])) hu
def Po (lo:Nat) (u:ah×kI) (v:Value) (w:World) : Prop := ∃ q x,v = .tuple #[.agg (aP q).toArray,.agg (cb x).toArray]∧iY w lo q u.1∧kv w lo x u.2
def jQ (I:ah->Prop) (a:cJ) : Prop := ∀ (r:da) (s:ah) (lo:Nat) (w:World),iY w lo r s->lo<=w.heap.size->I s->iC w->mN w ->
 bF prog 16 [.agg (aP r).toArray,.agg (ew a).toArray] w fun v w' => ∃ u,cx s a u∧Po lo u v w'
theorem ae.nr {n:Nat} {L:Env} {t t' ty b' tb:Nat} {cs':List Value} [c:fE P ty m] [c':fE P YM m'] (hr:fn.results = #[.cell t ty,.cell t' YM]) (hv:get L t=some (.pointer (some ⟨b,0,none⟩))) (tG:get L t'=some (.pointer (some ⟨b',0,none⟩)))
 (hB:aS w b tb cs) (v7:aS w b' tb' cs') (hl:Nat.beq cs.length m=true) (Bb:Nat.beq cs'.length m'=true) (h:R (.returned (.tuple #[.agg cs.toArray,.agg cs'.toArray])) w) : ae n (bodyPost P fn R) .ret L w :=
 ⟨fun a ha=>⟨ha.defers,_,by simpa using mI.results (rs:=[.cell t ty,.cell t' YM]) hr (.cell c hv hB (adF hl) (.cell c' tG v7 (adF Bb) .nil)) ha,h⟩⟩
variable {fl o:Int} {c:aQ} {l:List Block}
theorem iu (h:fV l) {b:Block} (hb:b∈l) : oF l b.At=b.Order:=by
 obtain ⟨k,hk,rfl⟩:=ade hb;obtain ⟨e1,e2⟩:=qU (kQ h) hk (rfl:l[k].At=l[k].At);rw [zN e2 (by rw [e1];exact hk)];simp only [e1]
theorem DP {x:Int} (h:∀ b∈l,b.At≠x) : oF l x = -1:=Dy (G7 fun k hk=>h _ (adb hk))
theorem uy {m:List Block} (hl:fV l) (hm:fV m) {x:Int} (h:∀ b:Block,b.At=x->(b∈l↔b∈m)) : oF m x=oF l x:=by
 by_cases e:∃ b∈l,b.At=x
 ·obtain ⟨b,hb,rfl⟩:=e;rw [iu hl hb,iu hm ((h b rfl).1 hb)]
 ·have e1:∀ b∈l,b.At≠x:=fun b hb he=>e ⟨b,hb,he⟩
  rw [DP e1,DP fun b hb he=>e1 b ((h b he).2 hb) he]
theorem I5 {h:Heap} (hm:bK h) : ∀ z∈h.bp,fL z:=by
 obtain ⟨z0,z1,h1,h2,h3,h4,h5,h6,_⟩:=hm.ct;obtain ⟨a1,a2,a3,_⟩:=h2.ok;obtain ⟨b1,b2,b3,_⟩:=h3.ok;rw [h1];intro z hz;simp only [List.mem_cons,List.not_mem_nil,or_false] at hz;unfold fL;rcases hz with rfl|rfl<;>omega
theorem HF (hI:dM s) {h:Heap} (hm:bK h) (hs:h.small) (hc:h.bG=s.Heap.bG) (hl:∀ c∈s.aa,∀ x∈c.ab,oF h.Live x.At=oF s.Heap.Live x.At) : dM (rj s h):=by
 have hf:=hI.cK;have hM:=hI.may;refine ⟨⟨⟨hf.small.words,hs,hf.small.br,hf.small.each⟩,I5 hm,hf.aE,hf.names⟩,hM.words,hm,hM.most,fun i hi => ?_⟩;have hC:=hM.each i hi;refine ⟨⟨hC.may.lay,hC.may.names,hC.may.ba.trans hc.symm,fun k hk => ?_,hC.may.dz⟩,hC.size,hC.names,hC.aE⟩;have hS:=hC.may.aE k hk;exact ⟨(hl _ (adb hi) _ (adb hk)).trans hS.live,hS.next,hS.chain⟩
theorem nN (hM:aB s) (hc:c∈s.aa) {x:Slab} (hx:x∈c.ab) : ∃ b∈s.Heap.Live,b.At=x.At:=by
 obtain ⟨i,hi,rfl⟩:=ade hc;obtain ⟨k,hk,rfl⟩:=ade hx;have hC:=(hM.each i hi).may;have h1:=(hC.aE k hk).live;have h2:=cj hC.lay;rcases Classical.em (∃ b∈s.Heap.Live,b.At=s.aa[i].ab[k].At) with h|h
 ·exact h
 ·rw [DP fun b hb e=>h ⟨b,hb,e⟩] at h1;omega
theorem cU.from_ {h:Heap} {u:Heap×Int×Int} (a:cU h cpu o fl u) (h0:u.2.2=0) : bK h∧u.1.bG=h.bG∧(∃ t,kU t∧u.1.Live=dU h u.2.1 o t) ∧ ∀ b∈h.Live,b.At≠u.2.1:=by
 obtain ⟨y0,y1,s,c1,c2,c3,c4,c5,c7,c8,c9,Yq⟩:=a.kc h0
 have hm:bK h:=by
  cases a with
  | bad|range|form|room=>simp at h0
  | once hb|gE hb=>exact cq.1 hb
 refine ⟨hm,c8,c5,?_⟩;cases a with
 | bad|range|form|room=>simp at h0
 | @once z0 z1 r hb hr ht hz ha =>
   rw [c1] at hz;simp only [List.cons.injEq,and_true] at hz;obtain ⟨rfl,rfl⟩:=hz;obtain ⟨i,e,h1,h2⟩:=qg c2 (ha.found c2.d.start.vs).2;exact c2.th e h2
 | @gE z0 z1 r hb hr ht hz ha h2 =>
   rw [c1] at hz;simp only [List.cons.injEq,and_true] at hz;obtain ⟨rfl,rfl⟩:=hz;obtain ⟨i,e,h1,h3⟩:=ol c2 (h2.found (fO c2.d).vs).2;exact c2.th e h3
theorem nG {h:Heap} (hm:bK h) (hf:bP h.Live a=true) : (iR h cpu a).bG=h.bG∧(iR h cpu a).Live=h.Live.eraseIdx (bE h.Live a)∧(iR h cpu a).dO=h.dO:=by
 obtain ⟨z0,z1,f⟩:=gC hm;obtain ⟨hk,_⟩:=jB hf;by_cases ho : 0<h.Live[bE h.Live a].Order
 ·rw [qV f.d.ct hk rfl ho];exact ⟨rfl,rfl,rfl⟩
 ·rw [qW f.d.ct hk rfl ho];unfold kE;split<;>exact ⟨rfl,rfl,rfl⟩
theorem kd (h:fV l) (hf:bP l a=true) {b:Block}:b∈l.eraseIdx (bE l a)↔b∈l∧b.At≠a:=by
 obtain ⟨hk,P6⟩:=jB hf;have hu:=kQ h;rw [Mb hu hk P6 rfl];unfold mB;simp only [List.mem_filter,Bool.not_eq_true',<- Bool.not_eq_true,j7];constructor
 ·rintro ⟨h1,h2⟩
  refine ⟨h1,fun e=>h2 ⟨e,?_⟩⟩;have e1:=iu h h1;have e2:=iu h (adb hk);rw [P6] at e2;rw [e,e2] at e1;exact e1.symm
 ·rintro ⟨h1,h2⟩
  exact ⟨h1,fun e=>h2 e.1⟩
theorem DQ {a:cJ} (hk:a.Kind=1) : wX dM a:=fun s u hI h=>by
 cases h with
 | @bC u hk h =>
   by_cases he:u.2.2=0
   ·simp only [mZ,if_pos he];obtain ⟨hm,e2,⟨t,_,e3⟩,e4⟩:=h.from_ he;have mY:=h.may he;refine HF hI mY (h.small hI.cK.small.heap) e2 fun c hc x hx => ?_
    obtain ⟨b,hb,Vc⟩:=nN hI.may hc hx;refine uy hm.live mY.live fun y hy => ?_
    rw [e3];constructor
    ·exact fun h=>by unfold dU aN;rw [adj,adm];rw [<- adh (bE s.Heap.Live u.2.1) s.Heap.Live,adm] at h;rcases h with h|h;exact .inl h;exact .inr (aeF _ h)
    ·intro h;rcases wq h with rfl|h
     ·exact absurd (Vc.trans hy.symm) (e4 b hb)
     ·exact h
   ·simp only [mZ,if_neg he];exact hI
 | nc bW|drain bW|fj bW|ko bW|nq bW|br bW|dV bW|word bW|Gn bW=>omega
theorem Nc (hI:dM s) (hc : 0<=cpu∧cpu<s.Heap.bG) (hw:dj s (a*16)=true) : dM (rj s (iR s.Heap cpu a)):=by
 have hm:=hI.may.heap;have YN:a*16 / 16=a:=by omega
 obtain ⟨hf,h0,_⟩:=fe hw;rw [YN] at hf;have mY:=tp hm hc hf;obtain ⟨p1,p2,p3⟩:=nG (cpu:=cpu) hm hf;have rV:=xw s.Heap cpu a hI.cK.small.heap;rw [nz (cq.2 hm) hc hf] at rV;refine HF hI mY rV p1 fun c g7 x hx => ?_
 have bJ:x.At≠a:=fun e=>by
  unfold dj at hw;rw [YN] at hw;simp only [Bool.and_eq_true,Bool.not_eq_true',<- Bool.not_eq_true] at hw;refine hw.2.1 ?_;unfold mE;rw [adq];refine ⟨c,g7,?_⟩;unfold tZ;rw [adq];exact ⟨x,hx,decide_eq_true e⟩
 refine uy hm.live mY.live fun y hy => ?_
 rw [p2,kd hm.live hf];exact ⟨fun h=>⟨h,by rw [hy];exact bJ⟩,fun h=>h.1⟩
theorem xF {a:cJ} (hk:a.Kind=2) : wX dM a:=fun s u hI h=>by
 cases h with
 | @nc u hk h =>
   cases h with
   | range|no|fault=>simp [mZ];exact hI
   | ok h hw he =>
     simp only [mZ,if_true];have hm:=hI.may.heap;obtain ⟨hf,_,_⟩:=fe hw;rw [show a.At*16 / 16=a.At by omega] at hf;by_cases hc : 0<=a.ga∧a.ga<s.Heap.bG
     ·rw [nz (cq.2 hm) hc hf];exact Nc hI hc hw
     ·rw [yD (cq.2 hm) hc] at he;exact absurd he (by simp)
 | bC bW|drain bW|fj bW|ko bW|nq bW|br bW|dV bW|word bW|Gn bW=>omega
theorem rn {a:cJ} (hk:a.Kind=12) : wX dM a:=fun s u hI h=>by
 cases h with
 | drain hk =>
   have hm:=hI.may.heap;obtain ⟨z0,z1,h1,_⟩:=hm.ct;have rV:=DL s.Heap hI.cK.small.heap;rw [vB (cq.2 hm) h1] at rV ⊢;simp only [mZ,if_true];exact HF hI (Kl hm h1) rV rfl fun c hc x hx=>rfl
 | bC bW|nc bW|fj bW|ko bW|nq bW|br bW|dV bW|word bW|Gn bW=>omega
variable {per size:Int} {c':aQ} {acc:List Int}
theorem gH {h:Heap} (hm:bK h) {a b:Block} (ha:a∈h.Live) (hb:b∈h.Live) (bJ:a.At≠b.At) : a.At+pw a.Order<=b.At∨b.At+pw b.Order<=a.At:=by
 obtain ⟨z0,z1,f⟩:=gC hm;rcases afi a.At (b.At+pw b.Order) with h1|h1
 ·rcases afi b.At (a.At+pw a.Order) with h2|h2
  ·exfalso;obtain ⟨k,hk,rfl⟩:=ade ha;have la:=(f.live.each k hk);have lb:=f.live.all b hb;have pa:=cQ la.1.1 la.1.2;have pb:=cQ lb.1.1 lb.1.2
   have Xb:b∈h.Live.eraseIdx k:=by
    obtain ⟨j,hj,rfl⟩:=ade hb;have nk:j≠k:=fun e=>by subst e;exact bJ rfl
    rw [aek];exact ⟨j,hj,nk,rfl⟩
   have h3:=f.Ro (max h.Live[k].At b.At).toNat;have h4:=tj hk (max h.Live[k].At b.At).toNat;have h5:=O4 Xb (i:=(max h.Live[k].At b.At).toNat) (by have:=la.2.1;have:=lb.2.1;omega);have h6:=(rh (a:=h.Live[k].At) (o:=h.Live[k].Order) (i:=(max h.Live[k].At b.At).toNat)).2 (by have:=la.2.1;have:=lb.2.1;omega);unfold uw at h3;omega
  ·exact .inl h2
 ·exact .inr h1
theorem gI (hM:aB s) (hc:c∈s.aa) {x:Slab} (hx:x∈c.ab) : ∃ b∈s.Heap.Live,b.At=x.At∧b.Order=c.Order:=by
 obtain ⟨b,hb,e⟩:=nN hM hc hx;refine ⟨b,hb,e,?_⟩;obtain ⟨i,hi,rfl⟩:=ade hc;obtain ⟨k,hk,rfl⟩:=ade hx;have h1:=((hM.each i hi).may.aE k hk).live;rw [<- e,iu hM.heap.live hb] at h1;exact h1
theorem mw {t:Int} (hl:dp size=(o,per,0)) (h:il size per t a=true) : 16*t<=a∧a<16*(t+pw o):=by
 have hp:=kb hl;unfold il at h;simp only [Bool.and_eq_true,decide_eq_true_eq] at h;obtain ⟨p,ep⟩ : ∃ p,per*size=p:=⟨_,rfl⟩;rw [ep] at hp h;rcases hp with ⟨rfl,h2⟩|⟨rfl,h2⟩|⟨rfl,h2⟩
 ·have:pw 0=1:=by decide
  omega
 ·have:pw 1=2:=by decide
  omega
 ·have:pw 2=4:=by decide
  omega
def oV (c:aQ) : List Int:=c.ab.map fun x=>x.At
theorem db (cs:List aQ) : aL cs=(cs.map oV).flatten:=by unfold aL;rw [aey];rfl
theorem xG {l:List Slab} (ha:acc.Nodup) : Dz acc l↔(acc++l.map fun x=>x.At).Nodup:=by
 constructor
 ·intro h
  have key:∀ k,k<=l.length->(acc++(l.take k).map fun x=>x.At).Nodup:=by
   intro k;induction k with
   | zero=>intro _;simpa using ha
   | succ k ih =>
     intro hk;rw [adk (by omega),adG,<- adj,adT];refine ⟨ih (by omega),by simp,fun a ha b hb => ?_⟩;simp only [List.map_cons,List.map_nil,List.mem_singleton] at hb;subst hb;exact fun e=>h k (by omega) (e ▸ ha)
  have:=key _ (adg _)
  rwa [ad2] at this
 ·intro h k hk hm;have e:l=l.take k++l[k]::l.drop (k+1):=by simp
  rw [e,adG,<- adj,adT] at h;exact h.2.2 _ hm _ (by rw [aet];exact List.mem_cons_self) rfl
theorem jj:(∀ (i:Nat) (h:i<s.aa.length),Dz (aL (s.aa.take i)) s.aa[i].ab)↔(aL s.aa).Nodup:=by
 have step:∀ i (h:i<s.aa.length),aL (s.aa.take (i+1))=aL (s.aa.take i)++s.aa[i].ab.map fun x=>x.At:=fun i h=>by
  unfold aL;rw [adk h,adt];simp
 constructor
 ·intro h
  have key:∀ k,k<=s.aa.length->(aL (s.aa.take k)).Nodup:=by
   intro k;induction k with
   | zero=>intro _;simp [aL]
   | succ k ih =>
     intro hk;rw [step k (by omega)];exact (xG (ih (by omega))).1 (h k (by omega))
  have:=key _ (adg _)
  rwa [ad2] at this
 ·intro h i hi
  have jA:∀ k,(aL (s.aa.take k)).Nodup:=fun k=>by
   have e:aL s.aa=aL (s.aa.take k)++aL (s.aa.drop k):=by
    unfold aL;rw [<- adt,adh]
   rw [e,adT] at h;exact h.1
  refine (xG (jA i)).2 ?_;rw [<- step i hi];exact jA (i+1)
theorem sN {t:ah} (hM:aB s) (hi:i<s.aa.length) (hw:t.Words.length=4096) (hh:bK t.Heap) (hc:t.aa=s.aa.set i c') (h1:c'.Names=s.aa[i].Names) (h2:c'.az=s.aa[i].az)
 (hm:fc t c') (ho:∀ c∈s.aa,(∃ j,∃ hj:j<s.aa.length,j≠i∧c=s.aa[j])->fc t c) (hn:(aL t.aa).Nodup) : aB t:=by
 have hlen:t.aa.length=s.aa.length:=by rw [hc,adK]
 have iB:∀ (j:Nat) (hj:j<t.aa.length),t.aa[j]=if i=j then c' else s.aa[j]'(by omega):=fun j hj=>by
  have:t.aa[j]=(s.aa.set i c')[j]'(by rw [adK];omega):=by congr 1
  rw [this,adB]
 have RL:∀ j,bl (t.aa.take j)=bl (s.aa.take j):=fun j=>by
  have e:t.aa.map (fun c=>c.Names)=s.aa.map fun c=>c.Names:=by
   rw [hc,aew];refine ad1 (by simp) fun k g1 g2 => ?_
   rw [adB];split
   ·rename_i e;subst e;rw [h1];simp
   ·rfl
  unfold bl;rw [aey,aey,List.map_take,List.map_take,e]
 refine ⟨hw,hh,by rw [hlen];exact hM.most,fun j hj => ?_⟩;have Vd:j<s.aa.length:=by omega
 have hC:=hM.each j Vd
 have YO:∀ (k:Nat) (hk:k<t.aa.length),t.aa[k].az=(s.aa[k]'(by omega)).az:=fun k hk=>by
  rw [iB k hk];split
  ·rename_i e;subst e;exact h2
  ·rfl
 refine ⟨?_,fun k hk => ?_,?_,jj.2 hn j hj⟩
 ·rw [iB j hj];split
  ·exact hm
  ·rename_i e;exact ho _ (adb Vd) ⟨j,Vd,fun h=>e h.symm,rfl⟩
 ·rw [YO j hj,YO k (by omega)];exact hC.size k hk
 ·rw [RL,iB j hj];split
  ·rename_i e;subst e;rw [h1];exact hC.names
  ·exact hC.names
theorem jk {t:ah} (hM:aB t) (hs:t.small) : t.cK:=by
 refine ⟨hs,I5 hM.heap,fun c hc x hx => ?_,fun c hc n hn => ?_⟩
 ·obtain ⟨b,hb,e⟩:=nN hM hc hx;have:=(hM.heap.live.all b hb).2.1
  omega
 ·obtain ⟨i,hi,rfl⟩:=ade hc;obtain ⟨k,hk,rfl⟩:=ade hn;have:=((hM.each i hi).names.each k hk).1
  unfold gz at this;simp only [Bool.and_eq_true,decide_eq_true_eq] at this;omega
theorem yQ (hk:k<c.ab.length) {y:Slab} (h:y.At=c.ab[k].At) : (c.ab.set k y).map (fun x=>x.At)=c.ab.map fun x=>x.At:=by
 rw [aew];refine ad1 (by simp) fun j g1 g2 => ?_
 rw [adB];split
 ·rename_i e;subst e;simp [h]
 ·rfl
theorem gJ {cs:List aQ} (hi:i<cs.length) (h:oV c'=oV cs[i]) : aL (cs.set i c')=aL cs:=by
 rw [db,db,aew];congr 1
 refine ad1 (by simp) fun j g1 g2 => ?_
 rw [adB];split
 ·rename_i e;subst e;simp [h]
 ·rfl
theorem fc.same {t:ah} (h:fc s c) (hw:t.Words=s.Words) (hh:t.Heap=s.Heap) : fc t c :=
 ⟨h.lay,h.names,by rw [hh];exact h.ba,fun k hk=>⟨by rw [hh];exact (h.aE k hk).live,(h.aE k hk).next,by rw [hw];exact (h.aE k hk).chain⟩,h.dz⟩
theorem FC (hM:aB s) {cpu:Nat} (hi:i<s.aa.length) (qj:cpu<s.aa[i].ap.length) (hk:k<s.aa[i].ab.length) (hf : 0<s.aa[i].ab[k].aj)
 (hA:s.aa[i].ab[k].At=s.aa[i].ap[cpu]∨s.aa[i].ab[k].At∉s.aa[i].ap) :
 aB ⟨s.Words,s.Heap,s.aa.set i (dL s.aa[i] cpu k (s.Words.getD s.aa[i].ab[k].ck.toNat 0))⟩:=by
 have hC:=(hM.each i hi).may;have eD:ir s.aa[i] k=s.aa[i].ab[k]:=fp hk
 have hl:=cj hC.lay
 have Av:oV (dL s.aa[i] cpu k (s.Words.getD s.aa[i].ab[k].ck.toNat 0))=oV s.aa[i]:=by
  unfold oV dL;simp only [eD];exact yQ hk rfl
 refine sN hM hi hM.words hM.heap rfl rfl rfl ?_ (fun c hc _ => ?_) ?_
 ·refine ⟨hC.lay,hC.names,by simp only [dL,List.length_set];exact hC.ba,fun j hj => ?_,fun j hj => ?_⟩
  ·simp only [dL,List.length_set] at hj;have hS:=hC.aE j hj
   have RM:∀ (q:Nat) (hq:q<s.aa[i].ab.length),((dL s.aa[i] cpu k (s.Words.getD s.aa[i].ab[k].ck.toNat 0)).ab[q]'(by simp only [dL,List.length_set];exact hq)).At=s.aa[i].ab[q].At:=fun q hq=>by
    simp only [dL,List.getElem_set,eD];split
    ·rename_i e;subst e;rfl
    ·rfl
   refine ⟨by rw [RM j hj];exact hS.live,fun h0=>by rw [RM j hj,RM (j-1) (by omega)];exact hS.next h0,?_⟩;obtain ⟨out,ho⟩:=hS.chain;by_cases e:k=j
   ·subst e;have BC : 0<=s.aa[i].bL:=by omega
    obtain ⟨k1,k2,k3,k4,k5⟩:=(ie BC).1 ho;obtain ⟨q,rest,e1,e2,hq,e3⟩:=k1.head (fun e=>by rw [e] at k4;simp at k4;omega);refine ⟨rest,?_⟩
    have ev:s.Words.getD s.aa[i].ab[k].ck.toNat 0=s.Words[q]:=by
     rw [e1];simp [List.getD,List.getElem?_eq_getElem hq]
    have es:(dL s.aa[i] cpu k (s.Words.getD s.aa[i].ab[k].ck.toNat 0)).ab[k]'(by simp only [dL,List.length_set];exact hk)=⟨s.aa[i].ab[k].At,s.aa[i].ab[k].aj-1,s.Words[q]⟩:=by
     simp only [dL,List.getElem_set,if_true,eD,ev]
    rw [es];rw [e2] at k2 k3 k4 k5;simp only [List.length_cons] at k3 k4;exact (ie (x:=⟨s.aa[i].ab[k].At,s.aa[i].ab[k].aj-1,s.Words[q]⟩) BC).2 ⟨e3,(aeb.1 k2).2,by omega,by simp only;omega,fun a ha=>k5 a (by simp [ha])⟩
   ·refine ⟨out,?_⟩
    have es:(dL s.aa[i] cpu k (s.Words.getD s.aa[i].ab[k].ck.toNat 0)).ab[j]'(by simp only [dL,List.length_set];exact hj)=s.aa[i].ab[j]:=by
     simp only [dL,List.getElem_set,if_neg e]
    rw [es];exact ho
  ·simp only [dL,List.length_set] at hj
   have gQ:∀ a,(dL s.aa[i] cpu k (s.Words.getD s.aa[i].ab[k].ck.toNat 0)).ab.any (xX a)=s.aa[i].ab.any (xX a):=fun a=>by
    have e1:∀ l:List Slab,l.any (xX a)=(l.map fun x=>x.At).any fun y=>decide (y=a):=fun l=>by rw [afg];rfl
    rw [e1,e1];have:=Av
    unfold oV at this;rw [this]
   have BD:s.aa[i].ab.any (xX s.aa[i].ab[k].At)=true:=adq.2 ⟨_,adb hk,by simp [xX]⟩
   have hJ:=hC.dz j hj;unfold uq at hJ ⊢;have Uf:(dL s.aa[i] cpu k (s.Words.getD s.aa[i].ab[k].ck.toNat 0)).ap=s.aa[i].ap.set cpu s.aa[i].ab[k].At:=by simp only [dL,eD]
   rcases hA with hA|hA
   ·have Ug:s.aa[i].ap.set cpu s.aa[i].ab[k].At=s.aa[i].ap:=by rw [hA,adW]
    have key:∀ (L:List Int) (eL:L=s.aa[i].ap) (hq:j<L.length),L[j] = -1∨(L[j]∉L.take j∧(dL s.aa[i] cpu k (s.Words.getD s.aa[i].ab[k].ck.toNat 0)).ab.any (xX L[j])=true):=fun L eL hq=>by
     subst eL;rw [gQ];exact hJ
    exact key _ (Uf.trans Ug) _
   ·have key:∀ (L:List Int) (eL:L=s.aa[i].ap.set cpu s.aa[i].ab[k].At) (hq:j<L.length),L[j] = -1∨(L[j]∉L.take j∧(dL s.aa[i] cpu k (s.Words.getD s.aa[i].ab[k].ck.toNat 0)).ab.any (xX L[j])=true):=fun L eL hq=>by
     subst eL;rw [gQ,adB];by_cases e:cpu=j
     ·subst e;right;rw [if_pos rfl,List.take_set_of_le (adg _)];exact ⟨fun h=>hA (adE h),BD⟩
     ·rw [if_neg e];rcases hJ with h|⟨h1,h2⟩
      ·exact .inl h
      ·refine .inr ⟨fun hm => ?_,h2⟩;obtain ⟨q,L8,lA⟩:=ade hm;simp only [List.length_take,List.length_set] at L8;rw [adS,adB] at lA;split at lA
       ·exact hA (lA ▸ adb hj)
       ·refine h1 ?_;rw [<- lA];exact aea.2 ⟨q,by omega,rfl⟩
    exact key _ Uf _
 ·obtain ⟨j,hj,rfl⟩:=ade hc;exact (hM.each j hj).may.same rfl rfl
 ·simp only;rw [gJ hi Av];exact jj.1 fun j hj=>(hM.each j hj).aE
variable {α:Type}
theorem Nd {cs:List aQ} (hi:i<cs.length) {p:Nat} (h:oV c'=(oV cs[i]).take p++a::(oV cs[i]).drop p) (hn:(aL cs).Nodup) (ha:a∉aL cs) : (aL (cs.set i c')).Nodup:=by
 have e1:cs=cs.take i++cs[i]::cs.drop (i+1):=by simp
 have e2:cs.set i c'=cs.take i++c'::cs.drop (i+1):=by rw [ad6,if_pos hi]
 have f1:aL cs=(aL (cs.take i)++(oV cs[i]).take p)++((oV cs[i]).drop p++aL (cs.drop (i+1))):=by
  conv=>lhs;rw [e1]
  rw [db,db,db,adG,aet,aem,aeu];simp only [List.append_assoc];rw [<- adj (List.take p _),adh]
 have f2:aL (cs.set i c')=(aL (cs.take i)++(oV cs[i]).take p)++a::((oV cs[i]).drop p++aL (cs.drop (i+1))):=by
  rw [e2,db,db,db,adG,aet,aem,aeu,h];simp only [List.append_assoc,List.cons_append]
 rw [f2,List.perm_middle.nodup_iff,<- f1,aeb];exact ⟨ha,hn⟩
theorem Cz {t:ah} {x:Slab} {out:List Int} (hM:aB s) (hc:c∈s.aa) (hx:x∈c.ab) (Mf:dp c.az=(c.Order,c.bL,0)) (J0:bO s.Words c.az c.bL x out)
 (RN:∀ a:Int,16*x.At<=a->a<16*(x.At+pw c.Order)->0<=a->t.Words[a.toNat]?=s.Words[a.toNat]?) : bO t.Words c.az c.bL x out:=by
 have BC : 0<=c.bL:=by have:=cj Mf;omega
 obtain ⟨k1,k2,k3,k4,k5⟩:=(ie BC).1 J0;exact (ie BC).2 ⟨k1.congr fun a ha h0=>by obtain ⟨r1,r2⟩:=mw Mf (k5 a ha);exact RN a r1 r2 h0,k2,k3,k4,k5⟩
theorem vH {l:List α} {p:Nat} (hp:p<=l.length) {x : α} (hj:j<(aN l p x).length) : (∃ h:j<l.length,j<p∧(aN l p x)[j]=l[j])∨(j=p∧(aN l p x)[j]=x)∨(∃ h:j-1<l.length,p<j∧(aN l p x)[j]=l[j-1]):=by
 have hl:=di l hp x;rcases adO j p with h|h|h
 ·left;have:=vh hp (x:=x) h
  rw [adi hj,adi (by omega)] at this;injection this with this
  exact ⟨by omega,h,this⟩
 ·right;left;subst h;have:=lH hp (x:=x)
  rw [adi hj] at this;injection this with this
  exact ⟨rfl,this⟩
 ·right;right;obtain ⟨q,rfl⟩ : ∃ q,j=q+1:=⟨j-1,by omega⟩;have:=zG hp (x:=x) (k:=q) (by omega)
  rw [adi hj,adi (by omega)] at this;injection this with this
  exact ⟨by simp only [Nat.add_sub_cancel];omega,h,by simpa using this⟩
theorem FD (h:eY c a<c.ab.length) : ¬ c.ab[eY c a].At<a:=by
 have:=IU (p:=fun x:Slab=>decide (x.At<a)) c.ab c.ab[eY c a] (adi h)
 exact of_decide_eq_false this
theorem mU (h:fc s c) : c.ab.Pairwise fun x y=>x.At<y.At:=by
 have key:∀ (d i:Nat) (hj:i+d+1<c.ab.length),(c.ab[i]'(by omega)).At<c.ab[i+d+1].At:=by
  intro d;induction d with
  | zero=>intro i hj;have:=(h.aE (i+1) hj).next (by omega);simpa using this
  | succ d ih =>
    intro i hj;have h1:=ih i (by omega);have h2:=(h.aE (i+(d+1)+1) hj).next (by omega);simp only [Nat.add_sub_cancel] at h2;have e:i+d+1=i+(d+1):=by omega
    simp only [e] at h1;omega
 rw [adl];intro i j hi hj pk;have:=key (j-i-1) i (by omega)
 have e:i+(j-i-1)+1=j:=by omega
 simp only [e] at this;exact this
theorem FE (hM:aB s) (hi:i<s.aa.length) {u:Heap×Int×Int} (hu:cU s.Heap cpu s.aa[i].Order 0 u) (u0:u.2.2=0) (hc:jq s.Words.length (16*u.2.1) s.aa[i].az s.aa[i].bL) :
 (∀ b:Int,0<=b->(b<16*u.2.1∨16*(u.2.1+pw s.aa[i].Order)<=b)->(dJ s.Words (16*u.2.1) s.aa[i].az s.aa[i].bL)[b.toNat]?=s.Words[b.toNat]?) ∧
 (∀ c∈s.aa,∀ x∈c.ab,x.At≠u.2.1∧oF u.1.Live x.At=oF s.Heap.Live x.At∧(x.At+pw c.Order<=u.2.1∨u.2.1+pw s.aa[i].Order<=x.At)) ∧
 (∀ c∈s.aa,fc s c -> ∀ x∈c.ab,∀ out,bO s.Words c.az c.bL x out->bO (dJ s.Words (16*u.2.1) s.aa[i].az s.aa[i].bL) c.az c.bL x out) ∧
 bO (dJ s.Words (16*u.2.1) s.aa[i].az s.aa[i].bL) s.aa[i].az s.aa[i].bL ⟨u.2.1,s.aa[i].bL,16*u.2.1⟩ (wN (16*u.2.1).toNat s.aa[i].az.toNat s.aa[i].bL.toNat 0):=by
 have hC:=(hM.each i hi).may;have hl:=cj hC.lay;have Uh:=kb hC.lay;have lg:=hu.at_ u0;obtain ⟨hm,BB,⟨ty,zt,CA⟩,I6⟩:=hu.from_ u0;have mY:=hu.may u0;obtain ⟨a,ea⟩ : ∃ a,u.2.1=a:=⟨_,rfl⟩;rw [ea] at hc lg CA I6 ⊢
 have SE:(⟨a,s.aa[i].Order,ty⟩ : Block)∈u.1.Live:=by
  rw [CA];simp only [dU,aN];simp
 have jA:∀ b∈s.Heap.Live,b∈u.1.Live:=fun b hb=>by
  rw [CA];simp only [dU,aN];rw [<- adh (bE s.Heap.Live a) s.Heap.Live,adm] at hb;simp only [List.mem_append];rcases hb with hb|hb
  ·exact .inl (.inl hb)
  ·exact .inr hb
 have yC:∀ c∈s.aa,∀ x∈c.ab,x.At≠a∧oF u.1.Live x.At=oF s.Heap.Live x.At∧(x.At+pw c.Order<=a∨a+pw s.aa[i].Order<=x.At):=fun c hc x hx=>by
  obtain ⟨b,hb,e1,e2⟩:=gI hM hc hx;have bJ:x.At≠a:=by rw [<- e1];exact I6 b hb
  refine ⟨bJ,?_,?_⟩
  ·rw [<- e1,iu hm.live hb,iu mY.live (jA b hb)]
  ·have:=gH mY (jA b hb) SE (by rw [e1];exact bJ)
   rw [e1,e2] at this;exact this
 obtain ⟨p,hp⟩ : ∃ p,s.aa[i].bL*s.aa[i].az=p:=⟨_,rfl⟩;rw [hp] at Uh;unfold jq at hc;obtain ⟨BS,Qc,Yu,hc4,OU,hc6⟩:=hc
 have hmul:∀ q:Nat,q<s.aa[i].bL.toNat->((q*s.aa[i].az.toNat:Nat) : Int)+s.aa[i].az<=p:=fun q hq=>by
  have h1:(q+1)*s.aa[i].az.toNat<=s.aa[i].bL.toNat*s.aa[i].az.toNat:=adD _ (by omega)
  have h2:((s.aa[i].bL.toNat*s.aa[i].az.toNat:Nat) : Int)=p:=by
   rw [aeY,adI (by omega),adI (by omega),hp]
  rw [ad0] at h1;omega
 have hw:∀ b:Int,0<=b->(b<16*a∨16*(a+pw s.aa[i].Order)<=b)->(dJ s.Words (16*a) s.aa[i].az s.aa[i].bL)[b.toNat]?=s.Words[b.toNat]?:=fun b h0 hb=>by
  unfold dJ;refine re _ _ _ _ _ _ fun q hq e => ?_
  have h1:=hmul q hq;have Xd:pw 0=1:=by decide
  have Xe:pw 1=2:=by decide
  have Xf:pw 2=4:=by decide
  rcases Uh with ⟨eo,h2⟩|⟨eo,h2⟩|⟨eo,h2⟩<;>rw [eo] at hb<;>omega
 have hold:∀ c∈s.aa,fc s c -> ∀ x∈c.ab,∀ out,bO s.Words c.az c.bL x out->bO (dJ s.Words (16*a) s.aa[i].az s.aa[i].bL) c.az c.bL x out:=fun c hc SH x hx out ho =>
  Cz (t:=⟨dJ s.Words (16*a) s.aa[i].az s.aa[i].bL,u.1,[]⟩) hM hc hx SH.lay ho fun b r1 r2 h0=>hw b h0 (by have:=(yC c hc x hx).2.2;omega)
 have HG:bO (dJ s.Words (16*a) s.aa[i].az s.aa[i].bL) s.aa[i].az s.aa[i].bL ⟨a,s.aa[i].bL,16*a⟩ (wN (16*a).toNat s.aa[i].az.toNat s.aa[i].bL.toNat 0):=by
  have Ui : 0<s.aa[i].az.toNat:=by omega
  have YP:∀ q,q<s.aa[i].bL.toNat->(16*a).toNat+q*s.aa[i].az.toNat<s.Words.length:=fun q hq=>by
   have:=hmul q hq
   rw [aej] at hp;rw [hp] at hc6;omega
  have h1:=Cq Ui YP s.aa[i].bL.toNat 0 (by omega) (by omega);rw [Nat.zero_mul,aeW,adI OU] at h1;refine (ie (by omega)).2 ⟨h1,z9 Ui _ _,by rw [z8];omega,by rw [z8];simp only;omega,fun b hb => ?_⟩;obtain ⟨q,_,hq,rfl⟩:=z7.1 hb;refine ET (k:=q) BS (by omega) ?_;rw [afo,aeY,adI OU,adI (by omega)]
 exact ⟨hw,yC,hold,HG⟩
theorem FF (hM:aB s) (hi:i<s.aa.length) {u:Heap×Int×Int} (hu:cU s.Heap cpu s.aa[i].Order 0 u) (u0:u.2.2=0) (hc:jq s.Words.length (16*u.2.1) s.aa[i].az s.aa[i].bL) :
 aB ⟨dJ s.Words (16*u.2.1) s.aa[i].az s.aa[i].bL,u.1,s.aa.set i (dZ s.aa[i] u.2.1)⟩:=by
 have hC:=(hM.each i hi).may;obtain ⟨hw,yC,hold,HG⟩:=FE hM hi hu u0 hc;obtain ⟨hm,BB,⟨ty,zt,CA⟩,I6⟩:=hu.from_ u0;have mY:=hu.may u0;obtain ⟨a,ea⟩ : ∃ a,u.2.1=a:=⟨_,rfl⟩;rw [ea] at hw yC hold HG CA ⊢
 have SE:(⟨a,s.aa[i].Order,ty⟩ : Block)∈u.1.Live:=by
  rw [CA];simp only [dU,aN];simp
 have kq:=oZ s.aa[i] a;refine sN hM hi (by simp only [dJ,jo];exact hM.words) mY rfl rfl rfl ?_ (fun c hc _ => ?_) ?_
 ·refine ⟨hC.lay,hC.names,by simp only [dZ];rw [BB];exact hC.ba,fun j hj => ?_,fun j hj => ?_⟩
  ·have nR:j<(aN s.aa[i].ab (eY s.aa[i] a) ⟨a,s.aa[i].bL,16*a⟩).length:=hj
   have Pp:s.aa[i]∈s.aa:=adb hi
   have Qn:∀ x∈s.aa[i].ab.drop (eY s.aa[i] a),a<x.At:=fun x hx=>by
    obtain ⟨q,hq,rfl⟩:=ade hx;simp only [List.length_drop] at hq;rw [ad9];have h1:=FD (c:=s.aa[i]) (a:=a) (by omega);have h2:=(yC _ Pp _ (adb (show eY s.aa[i] a+q<s.aa[i].ab.length by omega))).1;rcases adu q with e|e
    ·subst e;simp only [Nat.add_zero] at h2 ⊢;omega
    ·have h3:=mU hC;rw [adl] at h3;have:=h3 (eY s.aa[i] a) (eY s.aa[i] a+q) (by omega) (by omega) (by omega)
     omega
   have Uj:∀ x∈s.aa[i].ab.take (eY s.aa[i] a),x.At<a:=fun x hx=>by
    obtain ⟨q,hq,rfl⟩:=ade hx;simp only [List.length_take] at hq;rw [adS];exact DJ (by omega) (by omega)
   have FG:(aN s.aa[i].ab (eY s.aa[i] a) ⟨a,s.aa[i].bL,16*a⟩).Pairwise fun x y=>x.At<y.At:=by
    unfold aN;rw [adj,adA];refine ⟨List.Pairwise.sublist (List.take_sublist _ _) (mU hC),?_,fun x hx y hy => ?_⟩
    ·rw [adz,ad8];exact ⟨Qn,List.Pairwise.sublist (List.drop_sublist _ _) (mU hC)⟩
    ·have h1:=Uj x hx;rcases adm.1 hy with hy|hy
     ·simp only [List.mem_singleton] at hy;subst hy;exact h1
     ·have:=Qn y hy;omega
   have Nf : 0<j->((aN s.aa[i].ab (eY s.aa[i] a) ⟨a,s.aa[i].bL,16*a⟩)[j-1]'(by omega)).At<((aN s.aa[i].ab (eY s.aa[i] a) ⟨a,s.aa[i].bL,16*a⟩)[j]'nR).At:=fun h0=>by
    rw [adl] at FG;exact FG (j-1) j (by omega) nR (by omega)
   have key:∀ (y:Slab),((∃ k,∃ hk:k<s.aa[i].ab.length,y=s.aa[i].ab[k])∨y=⟨a,s.aa[i].bL,16*a⟩)->oF u.1.Live y.At=s.aa[i].Order ∧ ∃ out,bO (dJ s.Words (16*a) s.aa[i].az s.aa[i].bL) s.aa[i].az s.aa[i].bL y out:=fun y hy=>by
    rcases hy with ⟨k,hk,rfl⟩|rfl
    ·have hS:=hC.aE k hk;obtain ⟨out,ho⟩:=hS.chain;exact ⟨((yC _ Pp _ (adb hk)).2.1).trans hS.live,out,hold _ Pp hC _ (adb hk) out ho⟩
    ·exact ⟨iu mY.live SE,_,HG⟩
   have xW:=key ((aN s.aa[i].ab (eY s.aa[i] a) ⟨a,s.aa[i].bL,16*a⟩)[j]'nR) (by
    rcases vH kq nR with ⟨h,_,e⟩|⟨_,e⟩|⟨h,_,e⟩
    ·exact .inl ⟨j,h,e⟩
    ·exact .inr e
    ·exact .inl ⟨j-1,h,e⟩)
   exact ⟨xW.1,Nf,xW.2⟩
  ·have:=hC.dz j hj
   unfold uq at this ⊢;rcases this with h|⟨h1,h2⟩
   ·exact .inl h
   ·refine .inr ⟨h1,?_⟩;simp only [dZ,aN];rw [adq] at h2 ⊢;obtain ⟨x,hx,Oa⟩:=h2;rw [<- adh (eY s.aa[i] a) s.aa[i].ab,adm] at hx;refine ⟨x,?_,Oa⟩;simp only [List.mem_append];rcases hx with hx|hx
    ·exact .inl (.inl hx)
    ·exact .inr hx
 ·obtain ⟨j,hj,rfl⟩:=ade hc;have hJ:=(hM.each j hj).may;refine ⟨hJ.lay,hJ.names,by simp only;rw [BB];exact hJ.ba,fun k hk => ?_,hJ.dz⟩;have hS:=hJ.aE k hk;refine ⟨((yC _ hc _ (adb hk)).2.1).trans hS.live,hS.next,?_⟩;obtain ⟨out,ho⟩:=hS.chain;exact ⟨out,hold _ hc hJ _ (adb hk) out ho⟩
 ·simp only;refine Nd hi (p:=eY s.aa[i] a) (a:=a) ?_ (jj.1 fun j hj=>(hM.each j hj).aE) ?_
  ·simp only [oV,dZ,aN,List.map_append,List.map_cons,List.map_nil,List.map_take,List.map_drop,List.append_assoc,List.singleton_append]
  ·intro m8;unfold aL at m8;obtain ⟨c,hc,hx⟩:=adx.1 m8;obtain ⟨x,hx,e⟩:=adv.1 hx;exact (yC c hc x hx).1 e
variable {p:α -> Bool}
theorem I7 {l:List α} (h:idxOf p l=(k:Int)) : ∃ hk:k<l.length,p l[k]=true:=by
 unfold idxOf at h;split at h
 ·rename_i ha;have h1:l.findIdx p<l.length:=List.findIdx_lt_length_of_exists (by simpa using ha)
  have e:l.findIdx p=k:=by omega
  subst e;exact ⟨h1,List.findIdx_getElem (w:=h1)⟩
 ·omega
theorem I8 {cpu:Nat} (qj:cpu<c.ap.length) (h:qi c cpu=(k:Int)) : ∃ hk:k<c.ab.length,0<c.ab[k].aj∧(c.ab[k].At=c.ap[cpu]∨c.ab[k].At∉c.ap):=by
 unfold qi at h;split at h
 ·rename_i ho;rw [h] at ho;have h':=h;unfold DI at h';obtain ⟨hk,hp⟩:=I7 h';have e:ir c (k:Int).toNat=c.ab[k]:=by simp only [Int.toNat_natCast];exact fp hk
  rw [e] at ho;refine ⟨hk,ho.2,.inl ?_⟩;have:=of_decide_eq_true hp
  rw [this];simp [List.getD,List.getElem?_eq_getElem qj]
 ·obtain ⟨hk,hp⟩:=I7 h;unfold Cp at hp;simp only [Bool.and_eq_true,decide_eq_true_eq,Bool.not_eq_true',decide_eq_false_iff_not] at hp;exact ⟨hk,hp.1,.inr hp.2⟩
theorem wY {x:Int} (o1 : 0<=o) (o2:o<=4) (x1 : 0<=x) (x2:x<256) (h3:x % pw o=0) : x+pw o<=256:=by
 rcases fH o1 o2 with ⟨e1,e2⟩|⟨e1,e2⟩|⟨e1,e2⟩|⟨e1,e2⟩|⟨e1,e2⟩<;>rw [e2] at h3 ⊢<;>omega
theorem HH (hM:aB s) (hi:i<s.aa.length) {u:Heap×Int×Int} (hu:cU s.Heap cpu s.aa[i].Order 0 u) (u0:u.2.2=0) : jq s.Words.length (16*u.2.1) s.aa[i].az s.aa[i].bL:=by
 have hC:=(hM.each i hi).may;have hl:=cj hC.lay;have Uh:=kb hC.lay;have lg:=hu.at_ u0;obtain ⟨hm,BB,⟨ty,zt,CA⟩,I6⟩:=hu.from_ u0;have mY:=hu.may u0
 have SE:(⟨u.2.1,s.aa[i].Order,ty⟩ : Block)∈u.1.Live:=by
  rw [CA];simp only [dU,aN];simp
 obtain ⟨l1,l2,l3,_⟩:=mY.live.all _ SE;have hr:=wY l1.1 l1.2 l2.1 (show u.2.1<256 by omega) l3;have hw:=hM.words;have Xd:pw 0=1:=by decide
 have Xe:pw 1=2:=by decide
 have Xf:pw 2=4:=by decide
 obtain ⟨p,hp⟩ : ∃ p,s.aa[i].bL*s.aa[i].az=p:=⟨_,rfl⟩;unfold jq;rw [aej s.aa[i].az,hp];rw [hp] at Uh;rw [hw];simp only at hr;rcases Uh with ⟨e,h⟩|⟨e,h⟩|⟨e,h⟩<;>rw [e] at hr<;>omega
theorem Aw {h:Heap} {u:Heap×Int×Int} (hm:bK h) (hc : 0<=cpu∧cpu<h.bG) (ho : 0<=o∧o<=4) (a:cU h cpu o 0 u) : u.2.2=0∨u.2.2=6:=by
 cases a with
 | bad hb=>rw [cq.2 hm] at hb;cases hb
 | range _ hr=>exact absurd ⟨hc,ho⟩ hr
 | form _ _ ht=>exact absurd ht (by decide)
 | once=>exact .inl rfl
 | gE=>exact .inl rfl
 | room=>exact .inr rfl
theorem pA.jT {u:ah×Int×Int} (hI:dM s) (h:pA s n cpu u) (ha:iU s n cpu=0) : (u.2.2=0∧dM u.1)∨u.2.2=6:=by
 have hM:=hI.may;have rV:=h.small hI.cK;obtain ⟨_,_,pL⟩:=mC ha;cases h with
 | ask h=>exact absurd ha h
 | @Ed i m _ e hi hm =>
   have hC:=(hM.each i hi).may;have hl:=cj hC.lay;have qj:cpu.toNat<s.aa[i].ap.length:=by have:=hC.ba;omega
   cases hm with
   | @uM k hp =>
     left;obtain ⟨hk,hf,hA⟩:=I8 qj hp;have:=FC hM hi qj hk hf hA
     refine ⟨rfl,?_⟩
     have e:(lZ s i cpu.toNat (some ⟨s.Words,s.Heap,s.aa[i],k⟩,0)).1=⟨s.Words,s.Heap,s.aa.set i (dL s.aa[i] cpu.toNat k (s.Words.getD s.aa[i].ab[k].ck.toNat 0))⟩:=by
      simp only [lZ,bI,nb,fp hk]
     rw [e] at rV ⊢;exact ⟨jk this rV,this⟩
   | @room v hp hv he =>
     right;have:=Aw hM.heap (cpu:=(cpu.toNat:Int)) (by omega) (by omega) hv
     rcases this with h|h
     ·exact absurd h he
     ·exact h
   | @chain v hp hv he J0=>exact absurd (HH hM hi hv he) J0
   | @new v hp hv he J0 =>
     left;refine ⟨rfl,?_⟩;have hG:=FF hM hi hv he J0;have kq:=oZ s.aa[i] v.2.1;have lg:=hv.at_ he;obtain ⟨_,_,_,I6⟩:=hv.from_ he
     have hk:eY s.aa[i] v.2.1<(dZ s.aa[i] v.2.1).ab.length:=by
      simp only [dZ];rw [di _ kq];omega
     have Ng:(dZ s.aa[i] v.2.1).ab[eY s.aa[i] v.2.1]=⟨v.2.1,s.aa[i].bL,16*v.2.1⟩:=by
      have:=lH kq (x:=(⟨v.2.1,s.aa[i].bL,16*v.2.1⟩ : Slab))
      obtain ⟨_,e⟩:=adC.1 this;exact e
     have key:∀ (c:aQ) (ec:c=dZ s.aa[i] v.2.1) (t:ah) (ht:aB t) (Nh:i<t.aa.length) (Ni:t.aa[i]=c) (xW:eY s.aa[i] v.2.1<c.ab.length),aB ⟨t.Words,t.Heap,t.aa.set i (dL c cpu.toNat (eY s.aa[i] v.2.1) (t.Words.getD c.ab[eY s.aa[i] v.2.1].ck.toNat 0))⟩:=fun c ec t ht Nh Ni xW=>by
      subst Ni
      have e2:t.aa[i].ab[eY s.aa[i] v.2.1]=⟨v.2.1,s.aa[i].bL,16*v.2.1⟩:=by
       have:∀ (d:aQ) (hd:d=dZ s.aa[i] v.2.1) (hq:eY s.aa[i] v.2.1<d.ab.length),d.ab[eY s.aa[i] v.2.1]=⟨v.2.1,s.aa[i].bL,16*v.2.1⟩:=fun d hd hq=>by subst hd;exact Ng
       exact this _ ec xW
      have Uk:t.aa[i].ap=s.aa[i].ap:=by rw [ec];rfl
      refine FC ht Nh (by rw [Uk];exact qj) xW (by rw [e2];simp only;omega) (.inr ?_);rw [e2,Uk];intro m8;obtain ⟨q,hq,eq⟩:=ade m8;have HB:=hC.dz q hq;unfold uq at HB;rw [eq] at HB;rcases HB with h|⟨_,h⟩
      ·simp only at h;omega
      ·obtain ⟨x,hx,Oa⟩:=adq.1 h;obtain ⟨b,hb,eb⟩:=nN hM (adb hi) hx;exact I6 b hb (by rw [eb];exact of_decide_eq_true Oa)
     have hT:=key _ rfl _ hG (by simp only [List.length_set];exact hi) (by simp) hk
     have e:(lZ s i cpu.toNat (some ⟨dJ s.Words (16*v.2.1) s.aa[i].az s.aa[i].bL,v.1,dZ s.aa[i] v.2.1,eY s.aa[i] v.2.1⟩,0)).1=⟨dJ s.Words (16*v.2.1) s.aa[i].az s.aa[i].bL,v.1,(s.aa.set i (dZ s.aa[i] v.2.1)).set i (dL (dZ s.aa[i] v.2.1) cpu.toNat (eY s.aa[i] v.2.1) ((dJ s.Words (16*v.2.1) s.aa[i].az s.aa[i].bL).getD (dZ s.aa[i] v.2.1).ab[eY s.aa[i] v.2.1].ck.toNat 0))⟩:=by
      simp only [lZ,bI,nb,fp hk,List.set_set]
     rw [e] at rV ⊢;exact ⟨jk hT rV,hT⟩
theorem Ax {t:Int} (hs : 1<=size) {l:List Int} (hn:l.Nodup) (h:∀ a∈l,il size per t a=true) : (l.length:Int)<=per∨l=[]:=by
 rcases aeU l with e|⟨i,x,e⟩
 ·exact .inr e
 ·left
  have hq:∀ a,il size per t a=true -> ∃ q:Nat,(q:Int)<per∧a=16*t+q*size:=fun a ha=>by
   unfold il at ha;simp only [Bool.and_eq_true,decide_eq_true_eq] at ha;obtain ⟨⟨e1,e2⟩,e3⟩:=ha;have h1:(a-t*16) / size<per:=Int.ediv_lt_of_lt_mul (by omega) e2
   have h2 : 0<=(a-t*16) / size:=afl e1 (by omega)
   have h3:=aer (a-t*16) size;obtain ⟨k,hk⟩:=adn h2;rw [hk] at h1 h3;rw [e3,aej] at h3;exact ⟨k,h1,by omega⟩
  have hf:∀ (q:Nat),((16*t+q*size-16*t) / size).toNat=q:=fun q=>by
   rw [show 16*t+q*size-16*t=q*size by omega,Int.mul_ediv_cancel _ (by omega)];simp
  have h1:=Cb (f:=fun a=>((a-16*t) / size).toNat) hn (fun a ha b hb e=>by
   obtain ⟨q,_,rfl⟩:=hq a (h a ha);obtain ⟨r,_,rfl⟩:=hq b (h b hb);simp only [hf] at e;rw [e])
  have h2:=zV per.toNat _ h1 (fun x hx=>by
   obtain ⟨a,ha,rfl⟩:=adv.1 hx;obtain ⟨q,L8,rfl⟩:=hq a (h a ha);simp only [hf];omega)
  rw [List.length_map] at h2;obtain ⟨q,L8,_⟩:=hq x (h x (by rw [e];simp));omega
theorem xH (hM:aB s) (hi:i<s.aa.length) (ja:j<i) {x y:Slab} (hx:x∈(s.aa[j]'(by omega)).ab) (hy:y∈s.aa[i].ab) : x.At≠y.At:=fun e=>by
 obtain ⟨q,hq,rfl⟩:=ade hy;refine (hM.each i hi).aE q hq (adN _ ?_);unfold aL;rw [adx];exact ⟨s.aa[j]'(by omega),aea.2 ⟨j,by omega,rfl⟩,adv.2 ⟨x,hx,e⟩⟩
theorem nO (hM:aB s) (hj:j<s.aa.length) (hi:i<s.aa.length) (bJ:j≠i) {x y:Slab} (hx:x∈s.aa[j].ab) (hy:y∈s.aa[i].ab) : x.At≠y.At:=by
 rcases aep bJ with h|h
 ·exact xH hM hi h hx hy
 ·exact fun e=>xH hM hj h hy hx e.symm
theorem I9 (hM:aB s) (hi:i<s.aa.length) (hk:k<s.aa[i].ab.length) {out:List Int} (mV:il s.aa[i].az s.aa[i].bL s.aa[i].ab[k].At a=true) (ho:bO s.Words s.aa[i].az s.aa[i].bL s.aa[i].ab[k] out) (oH:a∉out) : (0<=a∧a<4096) ∧
 (∀ c∈s.aa,fc s c -> ∀ x∈c.ab,x.At≠s.aa[i].ab[k].At -> ∀ o,bO s.Words c.az c.bL x o->bO (s.Words.set a.toNat s.aa[i].ab[k].ck) c.az c.bL x o) ∧
 bO (s.Words.set a.toNat s.aa[i].ab[k].ck) s.aa[i].az s.aa[i].bL ⟨s.aa[i].ab[k].At,s.aa[i].ab[k].aj+1,a⟩ (a::out):=by
 have hC:=(hM.each i hi).may;have hl:=cj hC.lay;have Pp:s.aa[i]∈s.aa:=adb hi
 have BD:s.aa[i].ab[k]∈s.aa[i].ab:=adb hk
 have BC : 0<=s.aa[i].bL:=by omega
 obtain ⟨b0,Dr,Qo,Ve⟩:=gI hM Pp BD;obtain ⟨l1,l2,l3,_⟩:=hM.heap.live.all b0 Dr;have har:=wY l1.1 l1.2 l2.1 (show b0.At<256 by omega) l3;rw [Qo,Ve] at har;rw [Qo] at l2;obtain ⟨r1,r2⟩:=mw hC.lay mV;have ha : 0<=a∧a<4096:=by omega
 obtain ⟨an,rfl⟩:=adn ha.1;have M8:an<s.Words.length:=by rw [hM.words];omega
 have RN:∀ c∈s.aa,∀ x∈c.ab,x.At≠s.aa[i].ab[k].At -> ∀ b:Int,16*x.At<=b->b<16*(x.At+pw c.Order)->0<=b->(s.Words.set an s.aa[i].ab[k].ck)[b.toNat]?=s.Words[b.toNat]?:=fun c hc x hx bJ b h1 h2 h0=>by
  obtain ⟨b1,aZ,e1,e2⟩:=gI hM hc hx;have:=gH hM.heap aZ Dr (by rw [e1,Qo];exact bJ)
  rw [e1,e2,Qo,Ve] at this;rw [aei (by omega)]
 have p9:∀ c∈s.aa,fc s c -> ∀ x∈c.ab,x.At≠s.aa[i].ab[k].At -> ∀ o,bO s.Words c.az c.bL x o->bO (s.Words.set an s.aa[i].ab[k].ck) c.az c.bL x o:=fun c hc SH x hx bJ o h =>
  Cz (t:=⟨s.Words.set an s.aa[i].ab[k].ck,s.Heap,[]⟩) hM hc hx SH.lay h (RN c hc x hx bJ)
 simp only [Int.ofNat_eq_natCast,Int.toNat_natCast] at *;obtain ⟨k1,k2,k3,k4,k5⟩:=(ie BC).1 ho;have Ul:((an:Int)::out).Nodup:=aeb.2 ⟨oH,k2⟩
 have fk:∀ b∈(an:Int)::out,il s.aa[i].az s.aa[i].bL s.aa[i].ab[k].At b=true:=fun b hb=>by
  rcases aee.1 hb with rfl|hb
  ·exact mV
  ·exact k5 b hb
 have RO:=Ax (by omega) Ul fk
 have hlen:(((an:Int)::out).length:Int)<=s.aa[i].bL:=by
  rcases RO with h|h
  ·exact h
  ·simp at h
 refine ⟨ha,p9,(ie BC).2 ⟨?_,Ul,hlen,?_,fk⟩⟩
 ·refine .cons (by rw [adK];exact M8) ?_;rw [aeT];refine k1.congr fun b hb h0 => ?_
  rw [aei];intro e;exact oH (by rw [e,adI h0];exact hb)
 ·simp only [List.length_cons];omega
theorem Ja (hM:aB s) (hi:i<s.aa.length) (hk:k<s.aa[i].ab.length) {out:List Int} (mV:il s.aa[i].az s.aa[i].bL s.aa[i].ab[k].At a=true) (ho:bO s.Words s.aa[i].az s.aa[i].bL s.aa[i].ab[k] out) (oH:a∉out) :
 aB ⟨s.Words.set a.toNat s.aa[i].ab[k].ck,s.Heap,s.aa.set i (iq s.aa[i] k s.aa[i].ab[k] a)⟩:=by
 have hC:=(hM.each i hi).may;have Pp:s.aa[i]∈s.aa:=adb hi
 have BD:s.aa[i].ab[k]∈s.aa[i].ab:=adb hk
 obtain ⟨ha,p9,j3⟩:=I9 hM hi hk mV ho oH;obtain ⟨an,rfl⟩:=adn ha.1;have lg:oV (iq s.aa[i] k s.aa[i].ab[k] an)=oV s.aa[i]:=yQ hk rfl
 have Um:=jj.1 fun j hj=>(hM.each j hj).aE
 simp only [Int.ofNat_eq_natCast,Int.toNat_natCast] at *;refine sN hM hi (by simp only [List.length_set];exact hM.words) hM.heap rfl rfl rfl ?_ (fun c hc Un => ?_) (by simp only;rw [gJ hi lg];exact Um)
 ·refine ⟨hC.lay,hC.names,hC.ba,fun j hj => ?_,fun j hj => ?_⟩
  ·simp only [iq,List.length_set] at hj;have hS:=hC.aE j hj
   have RM:∀ (q:Nat) (hq:q<s.aa[i].ab.length),((iq s.aa[i] k s.aa[i].ab[k] an).ab[q]'(by simp only [iq,List.length_set];exact hq)).At=s.aa[i].ab[q].At:=fun q hq=>by
    simp only [iq,List.getElem_set];split
    ·rename_i e;subst e;rfl
    ·rfl
   refine ⟨by rw [RM j hj];exact hS.live,fun h0=>by rw [RM j hj,RM (j-1) (by omega)];exact hS.next h0,?_⟩;by_cases e:k=j
   ·subst e
    have es:(iq s.aa[i] k s.aa[i].ab[k] an).ab[k]'(by simp only [iq,List.length_set];exact hk)=⟨s.aa[i].ab[k].At,s.aa[i].ab[k].aj+1,an⟩:=by
     simp only [iq,List.getElem_set,if_true]
    rw [es];exact ⟨_,j3⟩
   ·obtain ⟨o,h⟩:=hS.chain
    have es:(iq s.aa[i] k s.aa[i].ab[k] an).ab[j]'(by simp only [iq,List.length_set];exact hj)=s.aa[i].ab[j]:=by
     simp only [iq,List.getElem_set,if_neg e]
    rw [es];refine ⟨o,p9 _ Pp hC _ (adb hj) ?_ o h⟩;have FG:=mU hC;rw [adl] at FG;rcases adO j k with g|g|g
    ·have:=FG j k hj hk g;omega
    ·exact absurd g.symm e
    ·have:=FG k j hk hj g;omega
  ·have gQ:∀ z,(iq s.aa[i] k s.aa[i].ab[k] an).ab.any (xX z)=s.aa[i].ab.any (xX z):=fun z=>by
    have e1:∀ l:List Slab,l.any (xX z)=(l.map fun x=>x.At).any fun y=>decide (y=z):=fun l=>by rw [afg];rfl
    rw [e1,e1];unfold oV at lg;rw [lg]
   have:=hC.dz j hj
   unfold uq at this ⊢;rw [gQ];exact this
 ·obtain ⟨j,hj,ja,rfl⟩:=Un;have hJ:=(hM.each j hj).may;refine ⟨hJ.lay,hJ.names,hJ.ba,fun q hq => ?_,hJ.dz⟩;have hS:=hJ.aE q hq;refine ⟨hS.live,hS.next,?_⟩;obtain ⟨o,h⟩:=hS.chain;refine ⟨o,p9 _ hc hJ _ (adb hq) (nO hM hj hi ja (adb hq) BD) o h⟩
theorem Nj {cs:List aQ} (hi:i<cs.length) (h:List.Sublist (oV c') (oV cs[i])) (hn:(aL cs).Nodup) : (aL (cs.set i c')).Nodup:=by
 have e1:cs=cs.take i++cs[i]::cs.drop (i+1):=by simp
 have e2:cs.set i c'=cs.take i++c'::cs.drop (i+1):=by rw [ad6,if_pos hi]
 have f1:aL cs=aL (cs.take i)++(oV cs[i]++aL (cs.drop (i+1))):=by
  conv=>lhs;rw [e1]
  rw [db,db,db,adG,aet,aem,aeu]
 have f2:aL (cs.set i c')=aL (cs.take i)++(oV c'++aL (cs.drop (i+1))):=by
  rw [e2,db,db,db,adG,aet,aem,aeu]
 rw [f2];rw [f1] at hn;exact List.Nodup.sublist (List.Sublist.append (List.Sublist.refl _) (List.Sublist.append h (List.Sublist.refl _))) hn
theorem Jb (hM:aB s) (hi:i<s.aa.length) (hk:k<s.aa[i].ab.length) (hA:s.aa[i].ab[k].At∉s.aa[i].ap) (pL : 0<=cpu∧cpu<s.Heap.bG) :
 (fh s.Heap cpu s.aa[i].ab[k].At).1=0∧aB ⟨s.Words,(fh s.Heap cpu s.aa[i].ab[k].At).2,s.aa.set i (eQ s.aa[i] k)⟩:=by
 have hC:=(hM.each i hi).may;have hm:=hM.heap;have Pp:s.aa[i]∈s.aa:=adb hi
 have BD:s.aa[i].ab[k]∈s.aa[i].ab:=adb hk
 obtain ⟨b0,Dr,Qo,Ve⟩:=gI hM Pp BD
 have hf:bP s.Heap.Live s.aa[i].ab[k].At=true:=by
  obtain ⟨q,hq,rfl⟩:=ade Dr;exact (qU (kQ hm.live) hq Qo).2
 have YQ:=nz (cq.2 hm) pL hf;have mY:=tp hm pL hf;obtain ⟨p1,p2,p3⟩:=nG (cpu:=cpu) hm hf;refine ⟨by rw [YQ],?_⟩;rw [YQ]
 have xR:∀ x:Int,x≠s.aa[i].ab[k].At->oF (iR s.Heap cpu s.aa[i].ab[k].At).Live x=oF s.Heap.Live x:=fun x hx=>by
  refine uy hm.live mY.live fun y hy => ?_
  rw [p2,kd hm.live hf];exact ⟨fun h=>⟨h,by rw [hy];exact hx⟩,fun h=>h.1⟩
 have FG:=mU hC
 have bJ:∀ (q:Nat) (hq:q<s.aa[i].ab.length),q≠k->s.aa[i].ab[q].At≠s.aa[i].ab[k].At:=fun q hq RP=>by
  have:=FG
  rw [adl] at this;rcases aep RP with g|g
  ·have:=this q k hq hk g;omega
  ·have:=this k q hk hq g;omega
 have Um:=jj.1 fun j hj=>(hM.each j hj).aE
 refine sN hM hi hM.words mY rfl rfl rfl ?_ (fun c hc Un => ?_) ?_
 ·refine ⟨hC.lay,hC.names,by simp only [eQ];rw [p1];exact hC.ba,fun j hj => ?_,fun j hj => ?_⟩
  ·have nR:j<(s.aa[i].ab.eraseIdx k).length:=hj
   have Uo:(s.aa[i].ab.eraseIdx k).Pairwise fun x y=>x.At<y.At:=List.Pairwise.sublist (ad4 _ _) FG
   have Nf : 0<j->((s.aa[i].ab.eraseIdx k)[j-1]'(by omega)).At<((s.aa[i].ab.eraseIdx k)[j]'nR).At:=fun h0=>by
    rw [adl] at Uo;exact Uo (j-1) j (by omega) nR (by omega)
   have m8:(s.aa[i].ab.eraseIdx k)[j]'nR∈s.aa[i].ab.eraseIdx k:=adb nR
   obtain ⟨q,hq,RP,eq⟩:=aek.1 m8
   have key:∀ y:Slab,y=s.aa[i].ab[q]->oF (iR s.Heap cpu s.aa[i].ab[k].At).Live y.At=s.aa[i].Order ∧ ∃ out,bO s.Words s.aa[i].az s.aa[i].bL y out:=fun y ey=>by
    subst ey;have hS:=hC.aE q hq;exact ⟨(xR _ (bJ q hq RP)).trans hS.live,hS.chain⟩
   have xW:=key _ eq.symm;exact ⟨xW.1,Nf,xW.2⟩
  ·have:=hC.dz j hj
   unfold uq at this ⊢;rcases this with h|⟨h1,h2⟩
   ·exact .inl h
   ·refine .inr ⟨h1,?_⟩;rw [adq] at h2 ⊢;obtain ⟨x,hx,Oa⟩:=h2;obtain ⟨q,hq,rfl⟩:=ade hx;refine ⟨s.aa[i].ab[q],?_,Oa⟩;simp only [eQ];rw [aek];refine ⟨q,hq,fun e => ?_,rfl⟩;subst e;have e1:=of_decide_eq_true Oa;exact hA (by rw [e1];exact adb hj)
 ·obtain ⟨j,hj,ja,rfl⟩:=Un;have hJ:=(hM.each j hj).may;refine ⟨hJ.lay,hJ.names,by simp only;rw [p1];exact hJ.ba,fun q hq => ?_,hJ.dz⟩;have hS:=hJ.aE q hq;exact ⟨(xR _ (nO hM hj hi ja (adb hq) BD)).trans hS.live,hS.next,hS.chain⟩
 ·simp only;refine Nj hi ?_ Um;unfold oV eQ;exact List.Sublist.map _ (ad4 _ _)
theorem FH (h:iG s a ((i:Int),(k:Int),0)) : ∃ (hF:lL s a i k) (out:List Int),bO s.Words (s.aa[i]'hF.hi).az (s.aa[i]'hF.hi).bL ((s.aa[i]'hF.hi).ab[k]'hF.hk) out∧a∉out:=by
 have key:∀ u,iG s a u->u=((i:Int),(k:Int),0) -> ∃ (hF:lL s a i k) (out:List Int),bO s.Words (s.aa[i]'hF.hi).az (s.aa[i]'hF.hi).bL ((s.aa[i]'hF.hi).ab[k]'hF.hk) out∧a∉out:=fun u hu e=>by
  cases hu with
  | bad|none|free=>simp at e
  | @hit i' k' out h hF hC hm =>
    simp only [Prod.mk.injEq,Int.natCast_inj] at e;obtain ⟨rfl,rfl,_⟩:=e;exact ⟨hF,out,hC,hm⟩
 exact key _ h rfl
theorem rb.jT (hI:dM s) (h:rb s n cpu a u) (h0:u.2=0) : dM u.1:=by
 have hM:=hI.may;have rV:=h.small hI.cK;cases h with
 | ask h=>exact absurd h0 h
 | none=>simp at h0
 | @put i k h hF e hi hk =>
   obtain ⟨_,_,pL⟩:=mC h;obtain ⟨Sx,out,hC,oH⟩:=FH hF;have mV:=Sx.obj;rw [qe hi hk] at mV;have hP:=Ja hM hi hk mV hC oH
   refine ⟨jk ?_ rV,?_⟩<;>(
    unfold vu;split
    ·rename_i hc;rw [adR] at hc;have RQ:=hc.1;unfold oh at RQ;simp only [Bool.and_eq_true,Bool.not_eq_true',decide_eq_false_iff_not] at RQ
     have key:∀ (t:ah) (ht:aB t) (Nh:i<t.aa.length) (c1:aQ) (Ni:t.aa[i]=c1) (ec:c1=iq s.aa[i] k s.aa[i].ab[k] a) (eh:t.Heap=s.Heap),aB ⟨t.Words,(fh t.Heap cpu s.aa[i].ab[k].At).2,t.aa.set i (eQ c1 k)⟩:=fun t ht Nh c1 Ni ec eh=>by
      subst Ni;have Bx:k<t.aa[i].ab.length:=by rw [ec];simp only [iq,List.length_set];exact hk
      have YR:t.aa[i].ab[k].At=s.aa[i].ab[k].At:=by
       have:∀ (d:aQ) (hd:d=iq s.aa[i] k s.aa[i].ab[k] a) (hq:k<d.ab.length),d.ab[k].At=s.aa[i].ab[k].At:=fun d hd hq=>by subst hd;simp [iq]
       exact this _ ec Bx
      have:=(Jb ht Nh Bx (by rw [YR,ec];exact RQ.2) (cpu:=cpu) (by rw [eh];exact pL)).2
      rw [YR] at this;exact this
     have:=key _ hP (by simp only [List.length_set];exact hi) _ (by simp) rfl rfl
     simp only [List.set_set] at this;exact this
    ·exact hP)
theorem pA.Jc {u:ah×Int×Int} (hI:dM s) (h:pA s n cpu u) (h0:u.2.2=0) : dM u.1:=by
 have h':=h;cases h with
 | ask h=>exact absurd h0 h
 | Ed h =>
   rcases h'.jT hI h with h|h
   ·exact h.2
   ·omega
theorem DR (hI:dM s) {u:Heap×Int×Int} (h:cU s.Heap cpu o fl u) (he:u.2.2=0) : dM (rj s u.1):=by
 have:=DQ (a:=⟨1,cpu,o,0,0,fl,⟨#[]⟩⟩) rfl s _ hI (cx.bC rfl h)
 simp only [mZ,if_pos he] at this;exact this
theorem vI (hM:aB s) {q:Nat} (hi:i<s.aa.length) (hj:j<s.aa.length) (hk:k<s.aa[i].ab.length) (hq:q<s.aa[j].ab.length) (bJ : ¬ (i=j∧k=q))
 (h1:il s.aa[i].az s.aa[i].bL s.aa[i].ab[k].At a=true) (h2:il s.aa[j].az s.aa[j].bL s.aa[j].ab[q].At a=true) : False:=by
 have YS:=(hM.each i hi).may;have hCj:=(hM.each j hj).may
 have lg:s.aa[i].ab[k].At≠s.aa[j].ab[q].At:=by
  by_cases e:i=j
  ·subst e;have FG:=mU YS;rw [adl] at FG;rcases adO k q with g|g|g
   ·have:=FG k q hk hq g;omega
   ·exact absurd ⟨rfl,g⟩ bJ
   ·have:=FG q k hq hk g;omega
  ·exact nO hM hi hj e (adb hk) (adb hq)
 obtain ⟨b1,aZ,e1,e2⟩:=gI hM (adb hi) (adb hk);obtain ⟨b2,au,e3,e4⟩:=gI hM (adb hj) (adb hq);have h3:=gH hM.heap aZ au (by rw [e1,e3];exact lg);rw [e1,e2,e3,e4] at h3;obtain ⟨r1,r2⟩:=mw YS.lay h1;obtain ⟨r3,r4⟩:=mw hCj.lay h2;omega
theorem CB (hM:aB s) (hi:i<s.aa.length) (hk:k<s.aa[i].ab.length) (h:il s.aa[i].az s.aa[i].bL s.aa[i].ab[k].At a=true) : lL s a i k:=by
 refine ⟨hi,hk,by rw [qe hi hk];exact h,fun i' k' eX => ?_⟩;cases e:og s a i' k' with
 | false=>rfl
 | true =>
   exfalso;unfold og at e;split at e
   ·rename_i h1;split at e
    ·rename_i h2;exact vI hM hi h1 hk h2 (by omega) h e
    ·cases e
   ·cases e
theorem Pq (hM:aB s) (hi:i<s.aa.length) (hk:k<s.aa[i].ab.length) (h:il s.aa[i].az s.aa[i].bL s.aa[i].ab[k].At a=true) {out:List Int} (hC:bO s.Words s.aa[i].az s.aa[i].bL s.aa[i].ab[k] out) :
 (a∈out->iG s a (0,0,4))∧(a∉out->iG s a ((i:Int),(k:Int),0)) :=
 ⟨fun hm => .free (mq hM) (CB hM hi hk h) hC hm,fun hm => .hit (mq hM) (CB hM hi hk h) hC hm⟩
theorem Ay (hc:c∈s.aa) {x:Slab} (hx:x∈c.ab) (h:a / 16=x.At) : dj s a=false:=by
 have:mE s (a / 16)=true:=by
  unfold mE;rw [adq];refine ⟨c,hc,?_⟩;unfold tZ;rw [adq];exact ⟨x,hx,decide_eq_true h.symm⟩
 unfold dj;rw [this];simp
structure Nk (s:ah) (i k:Nat) (a:Int) : Prop where
 hi:i<s.aa.length
 hk:k<s.aa[i].ab.length
 obj:il s.aa[i].az s.aa[i].bL s.aa[i].ab[k].At a=true
 off:∃ out,bO s.Words s.aa[i].az s.aa[i].bL s.aa[i].ab[k] out∧a∉out
theorem Nk.find (h:Nk s i k a) (hM:aB s) : iG s a ((i:Int),(k:Int),0):=by
 obtain ⟨out,hC,oH⟩:=h.off;exact (Pq hM h.hi h.hk h.obj hC).2 oH
theorem Az (hM:aB s) (hi:i<s.aa.length) (hn:n∈s.aa[i].Names) : idxOf (dQ n) s.aa=(i:Int):=by
 refine mi hi (jD.2 hn) fun j hj ja => ?_
 cases e:dQ n s.aa[j] with
 | false=>rfl
 | true =>
   exfalso;have hm:=jD.1 e;obtain ⟨q,hq,rfl⟩:=ade hn;refine ((hM.each i hi).names.each q hq).2.1 (adN _ ?_);unfold bl;rw [adx];exact ⟨s.aa[j],aea.2 ⟨j,by omega,rfl⟩,hm⟩
theorem CC (hM:aB s) (hi:i<s.aa.length) (hk:k<s.aa[i].ab.length) (h:il s.aa[i].az s.aa[i].bL s.aa[i].ab[k].At a=true) : dj s a=false:=by
 cases e:dj s a with
 | false=>rfl
 | true =>
   exfalso;obtain ⟨hf,h0,h16⟩:=fe e;have hC:=(hM.each i hi).may;obtain ⟨r1,r2⟩:=mw hC.lay h;by_cases lg:a / 16=s.aa[i].ab[k].At
   ·rw [Ay (adb hi) (adb hk) lg] at e;cases e
   ·obtain ⟨hq,eq⟩:=jB hf;obtain ⟨b,hb,e1,e2⟩:=gI hM (adb hi) (adb hk);have hl:=(hM.heap.live.all _ (adb hq));have hp:=cQ hl.1.1 hl.1.2;have:=gH hM.heap (adb hq) hb (by rw [eq,e1];exact lg)
    rw [eq,e1,e2] at this;omega
theorem Kz (h:iG s a (0,0,4)) : ri s a none := .no h fun i hi h0=>by simp at h0
end Go.Proofs.YtohigmjjbgpfmaaGreatDoor
