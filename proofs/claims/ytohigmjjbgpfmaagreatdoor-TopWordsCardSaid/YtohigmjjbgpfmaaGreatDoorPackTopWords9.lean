/- Part 9 of what topWords_holds leans on. -/
import Derived.Test.YtohigmjjbgpfmaaGreatDoorPackTopWords8
set_option linter.unusedVariables false
set_option linter.unusedSimpArgs false
set_option linter.defProp false
open Go.Proofs.Tryz
namespace Go.Proofs.YtohigmjjbgpfmaaGreatDoor
open Go.RowKit
variable {o':Oper}
section
variable {P:Program} {n:Nat} {ops:Array Oper} {Q:Exit->Act->World->Prop} {fin fr f:Nat} {S2:World->Prop} {listed:Array Bool} {L:Env} {w:World}
theorem SF.two (i k:Nat) {o:Oper} (hi:ops[i]?=some o) (hk:ops[k]?=some o') (hr:Region.ready .any ops listed=[i,k]) (hw:(!Nat.beq i fr && !Nat.beq i fin)=true) (nC:(!Nat.beq k fr && !Nat.beq k fin)=true)
 (h:SW P n ops (.gL (I1 P n ops Q fin fr S2 f (listed.setIfInBounds i true) w)) [o] L w) (h':SW P n ops (.gL (I1 P n ops Q fin fr S2 f (listed.setIfInBounds k true) w)) [o'] L w) : SF P n ops Q fin fr S2 (f+1) listed L w :=
 ⟨fun a ha inv=>⟨by rw [hr];simp,fun j hj=>by
  have o6:=hj;rw [hr] at o6;simp only [List.mem_cons,List.not_mem_nil,or_false] at o6;rcases o6 with rfl|rfl
  ·obtain ⟨n1,n2⟩:=KP hw;have cQ:j<ops.size:=(adh.1 hi).1
   refine ⟨cQ,rj (Q1:=I1 P n ops Q fin fr S2 f (listed.setIfInBounds j true) w) hi (fun e a w ne h=>by cases e<;>first|exact h|exact absurd rfl ne) (fun h=>h) (fun a' w' hh=>⟨fun e=>absurd e n1,fun _ e=>absurd e n2,fun _ _=>⟨hh.1,lT f (fun NA F3=>Ext.trans hh.1 F3) _ _ _ (hh.2 (inv.set hj cQ))⟩⟩) (h.out a ha)⟩
  ·obtain ⟨n1,n2⟩:=KP nC;have cQ:j<ops.size:=(adh.1 hk).1
   refine ⟨cQ,rj (Q1:=I1 P n ops Q fin fr S2 f (listed.setIfInBounds j true) w) hk (fun e a w ne h=>by cases e<;>first|exact h|exact absurd rfl ne) (fun h=>h) (fun a' w' hh=>⟨fun e=>absurd e n1,fun _ e=>absurd e n2,fun _ _=>⟨hh.1,lT f (fun NA F3=>Ext.trans hh.1 F3) _ _ _ (hh.2 (inv.set hj cQ))⟩⟩) (h'.out a ha)⟩⟩⟩
end
def OR (G:Nat->Prop) (wb w0:World) (b:Nat) (r:db) (s:ah) (i:Nat) (c:aQ) (cpu:Nat) (v:Value) (w':World) : Prop :=
 ∃ u,cM s.Heap (cpu:Int) c.Order 0 u ∧
  ((u.2.2≠0∧v = .tuple #[.int .i64 0,.int .i64 u.2.2]∧Ext w0 w')∨(u.2.2=0 ∧ ¬ jl s.Words.length (16*u.2.1) c.aA c.bK∧v = .tuple #[.int .i64 0,.int .i64 1]∧Ext w0 w') ∨
   (u.2.2=0∧jl s.Words.length (16*u.2.1) c.aA c.bK∧v = .tuple #[.int .i64 (eM c u.2.1:Int),.int .i64 0]∧Ext wb w'∧(∀ j x,j≠b->aS w0 j 44 x->aS w' j 44 x)∧(∀ j x,aS w0 j 127 x->aS w' j 127 x)∧(∀ j x,aS w0 j 3 x->aS w' j 3 x) ∧
    ∃ X H cs',aS w' b 44 (aP ⟨X,H,r.aa⟩)∧SX w' wb.heap.size ⟨X,H,r.aa⟩ (bH (mV s (dE s.Words (16*u.2.1) c.aA c.bK)) i (u.1,dV c u.2.1)) cs'∧SJ G w' wb.heap.size ⟨X,H,r.aa⟩ (bH (mV s (dE s.Words (16*u.2.1) c.aA c.bK)) i (u.1,dV c u.2.1)) cs'))
set_option maxHeartbeats 8000000 in
theorem MH (G:Nat->Prop) (wb w0:World) (b:Nat) (r:db) (s:ah) (cs:List dN) (i cpu:Nat) (hf:s.cV) (hi:i<s.aa.length) (hM:qQ s s.aa[i]) (eY:mD w0)
 (hx:Ext wb w0) (hb:aS w0 b 44 (aP r)) (qV:wb.heap.size<=b) (hS:SX w0 wb.heap.size r s cs) (TO:∀ g,G g->g<w0.heap.size ∧ ∀ u∈cs,aI u.ao.A u.ao.c≠some g) (yd:(s.aa[i].ab.length+1)*24<=140737488355328) :
 iI prog 168 [.pointer (some ⟨b,0,none⟩),.int .i64 (i:Int),.int .i64 (cpu:Int)] w0 (OR G wb w0 b r s i s.aa[i] cpu):=by
 refine dh func168 rfl ntmps168 rfl ?_;have h1:=hf.lP;have hm:=hM.most;have Sb:=hM.words;have G9:=hS.Iw;have dz:=hx.size;have e0:=n5 hi;obtain ⟨e1,e2⟩:=hS.len;have oS:i<cs.length:=by omega
 have cQ:i<r.aa.n:=by omega
 have NK:=hS.row.sl.base;have UT:=hS.words.len;have hC:=hS.each.get i oS hi;have xy:=hC.order;have PW:=hC.size;have MI:=hC.per;have q1:=hC.aD.len;have LM:=cd hM.lay;have hw:=Ext.refl w0;clear hC;refine Wz ?_
 focus
  refine CW.gl 15 17 (fun _=>True) mixed (by kernel_rfl) fun w1 ai aJ => ?_
  obtain ⟨hw,hb,hS⟩:=cj ai hw hb hS;clear ai;refine Wp 0 [] [] aJ rfl rfl ?_;refine Wt 1 [] [] aJ rfl (aG rfl) ?_;refine Wt 2 [] [] aJ rfl (az rfl) ?_;refine Wt 3 [] [] aJ rfl (aX rfl rfl ((me hb))) ?_;refine Wp 4 [] [] aJ rfl rfl ?_;refine Wp 5 [] [] aJ rfl rfl ?_;refine Wt 6 [] [] aJ rfl (aG rfl) ?_;refine Wt 7 [] [] aJ rfl (az rfl) ?_;refine Wt 8 [] [] aJ rfl (aT rfl (hS.row.sl.jL cQ (j:=3) (u := .int .i64 cs[i].Order) rfl)) ?_;refine SF.two 9 14 rfl rfl (by kernel_rfl) rfl rfl ?_ ?_
  focus
   refine Wk (pZ r.Heap s.Heap (cpu:Int) cs[i].Order 0 _ hS.heap.rd h1.small h1.uv (eY.ext hw)) fun v w4 ar hv => ?_
   obtain ⟨u,hu,H,rfl,hH⟩:=hv;have hH:=hH.low hw.size;obtain ⟨e,he⟩ : ∃ e,u.2.2=e:=⟨_,rfl⟩;obtain ⟨at',mm⟩ : ∃ a,u.2.1=a:=⟨_,rfl⟩;rw [he,mm];(obtain ⟨hw,hb,hS⟩:=cj ar hw hb hS);try have bD:=bD.ext ar
   refine SW.nil (ae.sf ar ?_);refine Wp 10 [] [] aJ rfl rfl ?_;refine Wp 11 [] [] aJ rfl rfl ?_;refine SF.cq 12 [] aJ rfl (by kernel_rfl) (by kernel_rfl) (by kernel_rfl) (bi rfl) (fun w2 hS=>bi rfl) rfl ?_;refine SF.cq 13 [] aJ rfl (by kernel_rfl) (by kernel_rfl) (by kernel_rfl) (bi rfl) (fun w2 hS=>bi rfl) rfl ?_;refine SF.one 14 rfl (by kernel_rfl) rfl ?_;refine SW.alloc rfl fun b9 w4 ar nQ bD => ?_
   have rU:=hw.up nQ
   try have hH:=hH.ext ar
   (obtain ⟨hw,hb,hS⟩:=cj ar hw hb hS);refine SW.nil (ae.sf ar ?_);refine SF.turn rfl (by kernel_rfl) rfl ?_;refine SW.ag bD rfl rfl rfl rfl (dU H) fun w5 jM hg => ?_
   have hG:=bD.gr hg;have hw:=hw.own rU hg;(obtain ⟨hb,hH,hS⟩:=cj hG hb hH hS);have bD:=jM;clear jM hg hG;have E7:=hS;have hS:True:=trivial
   refine SW.nil (ae.sg hS ?_);refine SG.one 16 rfl (by kernel_rfl) rfl ?_;repeat (refine SW.pure rfl rfl ?_)
   refine SW.nil (ae.sg hS ?_)
  rotate_left
  focus
   refine SW.alloc rfl fun b9 w4 ar nQ bD => ?_
   have rU:=hw.up nQ
   try have hH:=hH.ext ar
   (obtain ⟨hw,hb,hS⟩:=cj ar hw hb hS);refine SW.nil (ae.sf ar ?_);refine SF.one 9 rfl (by kernel_rfl) rfl ?_;refine Wk (pZ r.Heap s.Heap (cpu:Int) cs[i].Order 0 _ hS.heap.rd h1.small h1.uv (eY.ext hw)) fun v w4 ar hv => ?_
   obtain ⟨u,hu,H,rfl,hH⟩:=hv;have hH:=hH.low hw.size;obtain ⟨e,he⟩ : ∃ e,u.2.2=e:=⟨_,rfl⟩;obtain ⟨at',mm⟩ : ∃ a,u.2.1=a:=⟨_,rfl⟩;rw [he,mm];(obtain ⟨hw,hb,hS⟩:=cj ar hw hb hS);try have bD:=bD.ext ar
   refine SW.nil (ae.sf ar ?_);refine Wp 10 [] [] aJ rfl rfl ?_;refine Wp 11 [] [] aJ rfl rfl ?_;refine SF.cq 12 [] aJ rfl (by kernel_rfl) (by kernel_rfl) (by kernel_rfl) (bi rfl) (fun w2 hS=>bi rfl) rfl ?_;refine SF.cq 13 [] aJ rfl (by kernel_rfl) (by kernel_rfl) (by kernel_rfl) (bi rfl) (fun w2 hS=>bi rfl) rfl ?_;refine SF.turn rfl (by kernel_rfl) rfl ?_;refine SW.ag bD rfl rfl rfl rfl (dU H) fun w5 jM hg => ?_
   have hG:=bD.gr hg;have hw:=hw.own rU hg;(obtain ⟨hb,hH,hS⟩:=cj hG hb hH hS);have bD:=jM;clear jM hg hG;have E7:=hS;have hS:True:=trivial
   refine SW.nil (ae.sg hS ?_);refine SG.one 16 rfl (by kernel_rfl) rfl ?_;repeat (refine SW.pure rfl rfl ?_)
   refine SW.nil (ae.sg hS ?_)
  rotate_left
  all_goals
   refine SG.last rfl (by kernel_rfl) (by kernel_rfl) ?_;have hS:=E7;clear E7;rw [xy] at hu;by_cases Yq:e=0
   ·subst Yq;have kX:=hu.at_ he;rw [mm] at kX;refine Wz ?_;all_goals try omega
    by_cases hc:jl s.Words.length (16*at') s.aa[i].aA s.aa[i].bK
    ·refine CW.any 19 mixed (dg (by kernel_rfl)) rfl fun w1 ai aJ => ?_
     obtain ⟨hw,hb,bD,hH,hS⟩:=fI ai hw hb bD hH hS;clear ai;refine Wq 0 aJ rfl rfl ?_;refine Wu 1 aJ rfl (aG rfl) ?_;refine Wu 2 aJ rfl (az rfl) ?_;refine Wu 3 aJ rfl (aT rfl (hb.cell (i:=0) (v := .slice r.Words.A r.Words.n r.Words.c) rfl)) ?_;refine Wq 4 aJ rfl rfl ?_;refine Wu 5 aJ rfl (oX rfl rfl (by omega) (by omega)) ?_;refine Wq 6 aJ rfl rfl ?_;refine Wu 7 aJ rfl (aG rfl) ?_;refine Wu 8 aJ rfl (az rfl) ?_;refine Wu 9 aJ rfl (aT rfl (hS.row.sl.jL cQ (j:=1) (u := .int .i64 cs[i].aA) rfl)) ?_;refine Wq 10 aJ rfl rfl ?_;refine Wu 11 aJ rfl (aG rfl) ?_;refine Wu 12 aJ rfl (az rfl) ?_;refine Wu 13 aJ rfl (aT rfl (hS.row.sl.jL cQ (j:=2) (u := .int .i64 cs[i].bK) rfl)) ?_;refine SA.one 14 rfl (by kernel_rfl) rfl ?_;refine Wk (BV r.Words.A r.Words.n r.Words.c s.Words (at'*16) cs[i].aA cs[i].bK _ hS.words.sl (by omega)) fun v w6 ar hv => ?_
     have gQ:=hc;unfold jl at gQ;rw [ub,show at'*16=16*at' by omega,PW,MI,if_pos (by rw [UT] at gQ;exact gQ)] at hv;obtain ⟨XA,Xc,rfl,hX⟩:=hv;have hX:=hX.low hw.size;(obtain ⟨hw,hb,bD,hH,hS⟩:=fI ar hw hb bD hH hS);refine SW.nil (ae.sa ar ?_);refine Wq 15 aJ rfl rfl ?_;refine Wq 16 aJ rfl rfl ?_;refine Wq 17 aJ rfl rfl ?_;refine Wq 18 aJ rfl rfl ?_;refine SA.done (by kernel_rfl) ?_;refine Wz ?_;refine SW.gi 1 hb rfl rfl rfl (ady rfl) (dU H) (aP ⟨r.Words,H,r.aa⟩) rfl fun w7 iq hg => ?_
     have hG:=hb.gr hg;have ue:∀ j x,j≠b->aS w0 j 44 x->aS w7 j 44 x:=fun j x hj h=>(h.ext hw).grown hg (by simpa using hj)
     have NC:∀ j x,aS w0 j 127 x->aS w7 j 127 x:=fun j x h=>(h.ext hw).aN hG rfl
     have F2:∀ j x,aS w0 j 3 x->aS w7 j 3 x:=fun j x h=>(h.ext hw).aN hG rfl
     have hx:=(hx.trans hw).own qV hg;(obtain ⟨hH,hX,hS⟩:=cj hG hH hX hS);refine Wz ?_;refine Wb (i:=0) iq fun w8 TP hg => ?_
     have hG:=iq.gr hg;have ue:∀ j x,j≠b->aS w0 j 44 x->aS w8 j 44 x:=fun j x hj h=>(ue j x hj h).grown hg (by simpa using hj)
     have NC:∀ j x,aS w0 j 127 x->aS w8 j 127 x:=fun j x h=>(NC j x h).aN hG rfl
     have F2:∀ j x,aS w0 j 3 x->aS w8 j 3 x:=fun j x h=>(F2 j x h).aN hG rfl
     have hx:=hx.own qV hg;(obtain ⟨hH,hX,hS⟩:=cj hG hH hX hS);have hb:aS w8 b 44 (aP ⟨⟨XA,r.Words.n,Xc⟩,H,r.aa⟩):=TP;rw [<- e0] at hS;obtain ⟨yo,wV⟩:=sk.fresh (p:=(s.Heap,s.aa[i])) (X:=⟨XA,r.Words.n,Xc⟩) (H:=H) (h':=u.1) (m:=w0.heap.size) hS dz G9 TO hX hH;clear hS hX hH hw hG hg iq TP bD;have hw:=Ext.refl w8;refine Wz ?_
     refine CW.loop (fun k:Nat=>[(8,.pointer (some ((r.aa.A.getD default).add (i*6)))),(10,.int .i64 at'),(13,.int .i64 (k:Int))])
      (fun k w'=>w'=w8∧k<=cs[i].ab.n ∧ ∀ (j:Nat) (hj:j<s.aa[i].ab.length),j<k->s.aa[i].ab[j].At<at') (fun k=>cs[i].ab.n-k) 0
      ⟨rfl,rfl,rfl,trivial⟩ ⟨rfl,adO _,fun j hj h=>by omega⟩ ?_
     rintro k w' ⟨Ts,hk,eQ⟩
     subst Ts;have Bh:=yo.get oS hi;simp only at Bh;have Sm:=Bh.aD.sl.base;by_cases gh:k<cs[i].ab.n
     ·have iw:k<s.aa[i].ab.length:=by omega
      obtain ⟨y,hy⟩ : ∃ y,s.aa[i].ab[k]=y:=⟨_,rfl⟩;have gA:=Bh.aD.sl.jL gh (j:=0) (show (bf (s.aa[i].ab[k]'(by omega)))[0]?=some (Value.int .i64 y.At) by rw [hy];rfl);by_cases Yr:y.At<at'
      ·repeat' (first|refine Wz ?_|refine Wl (yo.row.sl.jL cQ (j:=4) (u := .slice cs[i].ab.A cs[i].ab.n cs[i].ab.c) rfl) ?_|refine Wl gA ?_)
       all_goals try omega
       exact ae.again (k+1) ⟨rfl,rfl,rfl,trivial⟩ (by omega) ⟨rfl,by omega,fun j hj h=>by
        by_cases e:j=k
        ·subst e;rw [hy];exact Yr
        ·exact eQ j hj (by omega)⟩
      ·have KT:eM s.aa[i] at'=k:=It (by omega) eQ (fun h=>by rw [hy];exact Yr)
       repeat' (first|refine Wz ?_|refine Wl (yo.row.sl.jL cQ (j:=4) (u := .slice cs[i].ab.A cs[i].ab.n cs[i].ab.c) rfl) ?_|refine Wl gA ?_)
       all_goals try omega
       refine CW.gl 15 18 (fun _=>True) mixed (by kernel_rfl) fun w1 ai aJ => ?_
       obtain ⟨hw,hb,yo,wV⟩:=dG ai hw hb yo wV;clear ai;refine SF.cq 0 [] aJ rfl (by kernel_rfl) (by kernel_rfl) (by kernel_rfl) (bi rfl) (fun w2 hS=>bi rfl) rfl ?_;refine Wp 1 [4,3,2] [] aJ rfl rfl ?_;refine Wt 2 [4,3] [] aJ rfl (aG rfl) ?_;refine Wt 3 [4] [] aJ rfl (az rfl) ?_;refine Wt 4 [] [] aJ rfl (aT rfl (yo.row.sl.jL cQ (j:=4) (u := .slice cs[i].ab.A cs[i].ab.n cs[i].ab.c) rfl)) ?_;refine Wp 5 [] [] aJ rfl rfl ?_;refine Wp 6 [14,13] [] aJ rfl rfl ?_;refine Wp 7 [14,13,10,9,8] [] aJ rfl rfl ?_;refine Wt 8 [14,13,10,9] [] aJ rfl (aG rfl) ?_;refine Wt 9 [14,13,10] [] aJ rfl (az rfl) ?_;refine Wt 10 [14,13] [] aJ rfl (aT rfl (yo.row.sl.jL cQ (j:=2) (u := .int .i64 cs[i].bK) rfl)) ?_;refine Wp 11 [14,13,12] [] aJ rfl rfl ?_;refine Wt 12 [14,13] [] aJ rfl (oX rfl rfl (by omega) (by omega)) ?_;refine Wt 13 [14] [] aJ rfl (iH rfl rfl) ?_;refine SF.one 14 rfl (by kernel_rfl) rfl ?_;refine SW.dR rfl rfl rfl rfl rfl fun bn w9 ar TQ OS => ?_
       have vQ:aI cs[i].ab.A cs[i].ab.c≠some bn:=fun e=>absurd ((yo.get oS hi).aD.lt_size _ e) (by omega)
       (obtain ⟨hw,hb,yo,wV⟩:=dG ar hw hb yo wV);refine SW.nil (ae.sf ar ?_);refine SF.turn rfl (by kernel_rfl) rfl ?_;have Bh:=yo.get oS hi;simp only at Bh;refine SW.dT rfl rfl (sv _ _ _ wb.heap.size s.aa[i].ab _ Bh.aD k (by omega) ⟨at',cs[i].bK,at'*16⟩ bn OS vQ (by omega) (ac2 hx.size hw.size)) fun v qU hv => ?_
       obtain ⟨A2,c2,rfl,bh,hg,OT⟩:=hv;have hG:=Bh.aD.gr hg;have TR:=yo.Cb oS hi bh hg OT;have J7:=aF (hx.trans hw) hg (ac3 _) Bh.aD.ba;have Rm:∀ j x,j≠b->aS w0 j 44 x->aS qU j 44 x:=fun j x hj h=>((ue j x hj h).ext hw).aN hG rfl
       have Rn:∀ j x,aS w0 j 127 x->aS qU j 127 x:=fun j x h=>((NC j x h).ext hw).aN hG rfl
       have Ro:∀ j x,aS w0 j 3 x->aS qU j 3 x:=fun j x h=>((F2 j x h).ext hw).aN hG rfl
       (obtain ⟨hb,wV⟩:=cX hG hb wV);have hS:True:=trivial
       refine SW.nil (ae.sg hS ?_);refine SG.one 16 rfl (by kernel_rfl) rfl ?_;repeat ((show SW _ _ _ _ (⟨_,Op.nilCheck _,_,_,_,none⟩::_) _ _;refine SW.st (aG rfl) rfl ?_))
       refine SW.nil (ae.sg hS ?_);refine SG.one 17 rfl (by kernel_rfl) rfl ?_;repeat ((show SW _ _ _ _ (⟨_,Op.fieldAddr _ _ _,_,_,_,none⟩::_) _ _;refine SW.st (az rfl) rfl ?_))
       refine SW.nil (ae.sg hS ?_);refine SG.last rfl (by kernel_rfl) (by kernel_rfl) ?_;have gg:=TR.row;refine SW.gM i 4 ⟨cs[i].Names,cs[i].aA,cs[i].bK,cs[i].Order,⟨A2,cs[i].ab.n+1,c2⟩,cs[i].ao⟩ gg rfl rfl rfl cQ (by decide) rfl rfl fun rq kv Ha => ?_
       have Dt:=gg.gr Ha;have WJ:=TR.GV kv Ha;have J7:=aF J7 Ha (ac3 _) gg.ba;(obtain ⟨hb,wV⟩:=cX Dt hb wV)
       have WK:=wV.rows (s':=bH (mV s (dE s.Words (16*at') s.aa[i].aA s.aa[i].bK)) i (u.1,dV s.aa[i] at')) (cs':=cs.set i ⟨cs[i].Names,cs[i].aA,cs[i].bK,cs[i].Order,⟨A2,cs[i].ab.n+1,c2⟩,cs[i].ao⟩) rfl (fun u hu=>by
        rcases adg hu with hu|rfl
        ·exact ⟨u,hu,rfl⟩
        ·exact ⟨cs[i],ac0 oS,rfl⟩)
       have R5:dV s.aa[i] at'=⟨s.aa[i].Names,s.aa[i].aA,s.aa[i].bK,s.aa[i].Order,aM s.aa[i].ab k ⟨at',cs[i].bK,at'*16⟩,s.aa[i].ao⟩:=by
        unfold dV;rw [KT,MI,show at'*16=16*at' by omega]
       refine Wz ?_;refine ae.dj rfl rfl rfl ⟨_,rfl,u,hu,.inr (.inr ⟨he,by rw [mm];exact hc,by rw [mm,KT],J7,fun j x hj h=>(Rm j x hj h).aN Dt rfl,fun j x h=>(Rn j x h).aN Dt rfl,fun j x h=>(Ro j x h).aN Dt rfl,⟨XA,r.Words.n,Xc⟩,H,_,hb,?_,by rw [mm];exact WK⟩)⟩;rw [mm,R5];exact WJ
     ·have UU:k=cs[i].ab.n:=by omega
      have KT:eM s.aa[i] at'=k:=It (by omega) (fun j hj h=>eQ j hj (by omega)) (fun h=>by omega)
      repeat' (first|refine Wz ?_|refine Wl (yo.row.sl.jL cQ (j:=4) (u := .slice cs[i].ab.A cs[i].ab.n cs[i].ab.c) rfl) ?_)
      all_goals try omega
      refine CW.gl 15 18 (fun _=>True) mixed (by kernel_rfl) fun w1 ai aJ => ?_
      obtain ⟨hw,hb,yo,wV⟩:=dG ai hw hb yo wV;clear ai;refine SF.cq 0 [] aJ rfl (by kernel_rfl) (by kernel_rfl) (by kernel_rfl) (bi rfl) (fun w2 hS=>bi rfl) rfl ?_;refine Wp 1 [4,3,2] [] aJ rfl rfl ?_;refine Wt 2 [4,3] [] aJ rfl (aG rfl) ?_;refine Wt 3 [4] [] aJ rfl (az rfl) ?_;refine Wt 4 [] [] aJ rfl (aT rfl (yo.row.sl.jL cQ (j:=4) (u := .slice cs[i].ab.A cs[i].ab.n cs[i].ab.c) rfl)) ?_;refine Wp 5 [] [] aJ rfl rfl ?_;refine Wp 6 [14,13] [] aJ rfl rfl ?_;refine Wp 7 [14,13,10,9,8] [] aJ rfl rfl ?_;refine Wt 8 [14,13,10,9] [] aJ rfl (aG rfl) ?_;refine Wt 9 [14,13,10] [] aJ rfl (az rfl) ?_;refine Wt 10 [14,13] [] aJ rfl (aT rfl (yo.row.sl.jL cQ (j:=2) (u := .int .i64 cs[i].bK) rfl)) ?_;refine Wp 11 [14,13,12] [] aJ rfl rfl ?_;refine Wt 12 [14,13] [] aJ rfl (oX rfl rfl (by omega) (by omega)) ?_;refine Wt 13 [14] [] aJ rfl (iH rfl rfl) ?_;refine SF.one 14 rfl (by kernel_rfl) rfl ?_;refine SW.dR rfl rfl rfl rfl rfl fun bn w9 ar TQ OS => ?_
      have vQ:aI cs[i].ab.A cs[i].ab.c≠some bn:=fun e=>absurd ((yo.get oS hi).aD.lt_size _ e) (by omega)
      (obtain ⟨hw,hb,yo,wV⟩:=dG ar hw hb yo wV);refine SW.nil (ae.sf ar ?_);refine SF.turn rfl (by kernel_rfl) rfl ?_;have Bh:=yo.get oS hi;simp only at Bh;refine SW.dT rfl rfl (sv _ _ _ wb.heap.size s.aa[i].ab _ Bh.aD k (by omega) ⟨at',cs[i].bK,at'*16⟩ bn OS vQ (by omega) (ac2 hx.size hw.size)) fun v qU hv => ?_
      obtain ⟨A2,c2,rfl,bh,hg,OT⟩:=hv;have hG:=Bh.aD.gr hg;have TR:=yo.Cb oS hi bh hg OT;have J7:=aF (hx.trans hw) hg (ac3 _) Bh.aD.ba;have Rm:∀ j x,j≠b->aS w0 j 44 x->aS qU j 44 x:=fun j x hj h=>((ue j x hj h).ext hw).aN hG rfl
      have Rn:∀ j x,aS w0 j 127 x->aS qU j 127 x:=fun j x h=>((NC j x h).ext hw).aN hG rfl
      have Ro:∀ j x,aS w0 j 3 x->aS qU j 3 x:=fun j x h=>((F2 j x h).ext hw).aN hG rfl
      (obtain ⟨hb,wV⟩:=cX hG hb wV);have hS:True:=trivial
      refine SW.nil (ae.sg hS ?_);refine SG.one 16 rfl (by kernel_rfl) rfl ?_;repeat ((show SW _ _ _ _ (⟨_,Op.nilCheck _,_,_,_,none⟩::_) _ _;refine SW.st (aG rfl) rfl ?_))
      refine SW.nil (ae.sg hS ?_);refine SG.one 17 rfl (by kernel_rfl) rfl ?_;repeat ((show SW _ _ _ _ (⟨_,Op.fieldAddr _ _ _,_,_,_,none⟩::_) _ _;refine SW.st (az rfl) rfl ?_))
      refine SW.nil (ae.sg hS ?_);refine SG.last rfl (by kernel_rfl) (by kernel_rfl) ?_;have gg:=TR.row;refine SW.gM i 4 ⟨cs[i].Names,cs[i].aA,cs[i].bK,cs[i].Order,⟨A2,cs[i].ab.n+1,c2⟩,cs[i].ao⟩ gg rfl rfl rfl cQ (by decide) rfl rfl fun rq kv Ha => ?_
      have Dt:=gg.gr Ha;have WJ:=TR.GV kv Ha;have J7:=aF J7 Ha (ac3 _) gg.ba;(obtain ⟨hb,wV⟩:=cX Dt hb wV)
      have WK:=wV.rows (s':=bH (mV s (dE s.Words (16*at') s.aa[i].aA s.aa[i].bK)) i (u.1,dV s.aa[i] at')) (cs':=cs.set i ⟨cs[i].Names,cs[i].aA,cs[i].bK,cs[i].Order,⟨A2,cs[i].ab.n+1,c2⟩,cs[i].ao⟩) rfl (fun u hu=>by
       rcases adg hu with hu|rfl
       ·exact ⟨u,hu,rfl⟩
       ·exact ⟨cs[i],ac0 oS,rfl⟩)
      have R5:dV s.aa[i] at'=⟨s.aa[i].Names,s.aa[i].aA,s.aa[i].bK,s.aa[i].Order,aM s.aa[i].ab k ⟨at',cs[i].bK,at'*16⟩,s.aa[i].ao⟩:=by
       unfold dV;rw [KT,MI,show at'*16=16*at' by omega]
      refine Wz ?_;refine ae.dj rfl rfl rfl ⟨_,rfl,u,hu,.inr (.inr ⟨he,by rw [mm];exact hc,by rw [mm,KT],J7,fun j x hj h=>(Rm j x hj h).aN Dt rfl,fun j x h=>(Rn j x h).aN Dt rfl,fun j x h=>(Ro j x h).aN Dt rfl,⟨XA,r.Words.n,Xc⟩,H,_,hb,?_,by rw [mm];exact WK⟩)⟩;rw [mm,R5];exact WJ
    ·refine CW.any 19 mixed (dg (by kernel_rfl)) rfl fun w1 ai aJ => ?_
     obtain ⟨hw,hb,bD,hH,hS⟩:=fI ai hw hb bD hH hS;clear ai;refine Wq 0 aJ rfl rfl ?_;refine Wu 1 aJ rfl (aG rfl) ?_;refine Wu 2 aJ rfl (az rfl) ?_;refine Wu 3 aJ rfl (aT rfl (hb.cell (i:=0) (v := .slice r.Words.A r.Words.n r.Words.c) rfl)) ?_;refine Wq 4 aJ rfl rfl ?_;refine Wu 5 aJ rfl (oX rfl rfl (by omega) (by omega)) ?_;refine Wq 6 aJ rfl rfl ?_;refine Wu 7 aJ rfl (aG rfl) ?_;refine Wu 8 aJ rfl (az rfl) ?_;refine Wu 9 aJ rfl (aT rfl (hS.row.sl.jL cQ (j:=1) (u := .int .i64 cs[i].aA) rfl)) ?_;refine Wq 10 aJ rfl rfl ?_;refine Wu 11 aJ rfl (aG rfl) ?_;refine Wu 12 aJ rfl (az rfl) ?_;refine Wu 13 aJ rfl (aT rfl (hS.row.sl.jL cQ (j:=2) (u := .int .i64 cs[i].bK) rfl)) ?_;refine SA.one 14 rfl (by kernel_rfl) rfl ?_;refine Wk (BV r.Words.A r.Words.n r.Words.c s.Words (at'*16) cs[i].aA cs[i].bK _ hS.words.sl (by omega)) fun v w6 ar hv => ?_
     have gQ:=hc;unfold jl at gQ;rw [ub,show at'*16=16*at' by omega,PW,MI,if_neg (by rw [UT] at gQ;exact gQ)] at hv;subst hv;(obtain ⟨hw,hb,bD,hH,hS⟩:=fI ar hw hb bD hH hS);refine SW.nil (ae.sa ar ?_);refine Wq 15 aJ rfl rfl ?_;refine Wq 16 aJ rfl rfl ?_;refine Wq 17 aJ rfl rfl ?_;refine Wq 18 aJ rfl rfl ?_;refine SA.done (by kernel_rfl) ?_;refine Wz ?_;exact ae.dj rfl rfl rfl ⟨_,rfl,u,hu,.inr (.inl ⟨he,by rw [mm];exact hc,rfl,hw⟩)⟩
   ·refine Wz ?_;all_goals try omega
    exact ae.dj rfl rfl rfl ⟨_,rfl,u,hu,.inl ⟨by rw [he];exact Yq,by rw [he];rfl,hw⟩⟩
set_option maxHeartbeats 4000000 in
theorem mi (r:db) (s:ah) (w:World) (hr:AM w r s) (hs:s.small) :
 bI prog 17 [.agg (aP r).toArray] w fun v w' => ∃ q zr,v = .agg (aP q).toArray∧SX w' w.heap.size q s zr∧SI w' w.heap.size q s zr:=by
 refine aE func17 rfl ntmps17 rfl ?_;refine CW.seq (CW.region (SW.box rfl rfl fun b1 w1 hw lc aW => ?_));refine SW.alloc rfl fun b2 w2 bt fk au => ?_
 have uM:=hw.up fk
 have Oa:b2≠b1:=by have:=aW.lt;omega
 (obtain ⟨hw,aW⟩:=cX bt hw aW);obtain ⟨cs,hc⟩:=hr.br;have Sb:=hr.words.len;have s1:=hs.words;have s3:=hs.br;obtain ⟨c1,c2⟩:=hc.len;refine Wz ?_
 obtain ⟨K,hK⟩ : ∃ K:Env->World->Prop,K=fun L' w' => ∃ X c1 G b3 m1 m2,il L' [(1,.pointer (some ⟨b1,0,none⟩)),(2,.pointer (some ⟨b2,0,none⟩)),(3,.pointer (some ⟨b3,0,none⟩))]∧Ext w w'∧aS w' b1 44 (aP r)∧aS w' b2 44 (aP .zero) ∧
  aS w' b3 44 (aP ⟨⟨X,r.Words.n,c1⟩,G,.nil⟩)∧Own w' w.heap.size 3 1 bw X r.Words.n c1 s.Words∧jH w' m1 m2 G s.Heap∧(w.heap.size<=m1∧m1<=m2∧m2<=w'.heap.size ∧ ∀ g,aI X c1=some g->g<m1)∧w.heap.size<=b3∧b1≠b3∧b2≠b3:=⟨_,rfl⟩
 refine CW.cut K ?_ ?_
 ·focus
   refine CW.any 8 mixed (dg (by kernel_rfl)) rfl fun w1 ai aJ => ?_
   obtain ⟨hw,aW,au⟩:=cj ai hw aW au;clear ai;refine Wa ?_;refine Wu 4 aJ rfl (aX rfl rfl ((me aW))) ?_;refine SA.two 2 7 rfl rfl (by kernel_rfl) rfl rfl ?_ ?_
   focus
    refine Wk (dB _ _ _ _ _ (hr.words.ext hw) (by omega)) fun v w4 ar hv => ?_
    obtain ⟨X,c4,rfl,hX⟩:=hv;have hX:=hX.low hw.size;obtain ⟨hw,aW,au⟩:=cj ar hw aW au;try have ap:=ap.ext ar
    refine SW.nil (ae.sa ar ?_);refine SA.two 5 7 rfl rfl (by kernel_rfl) rfl rfl ?_ ?_
    focus
     refine Wk (lZ _ _ _ (hr.heap.ext hw) hs.heap) fun v w4 ar hv => ?_
     obtain ⟨G,rfl,hY⟩:=hv;have TS:∃ m1 m2,w.heap.size<=m1∧m1<=m2∧m2<=w4.heap.size∧(∀ g,aI X c4=some g->g<m1)∧jH w4 m1 m2 G s.Heap:=⟨_,_,hw.size,ar.size,ac3 _,hX.lt_size,hY.vd⟩
     clear hY;obtain ⟨m1,m2,GU,E8,wy,TT,hY⟩:=TS;obtain ⟨hX,hw,aW,au⟩:=dG ar hX hw aW au;try have ap:=ap.ext ar
     refine SW.nil (ae.sa ar ?_);refine Wa ?_;refine SA.one 7 rfl (by kernel_rfl) rfl ?_;refine SW.alloc rfl fun b3 w4 ar cg ap => ?_
     have fW:=hw.up cg
     try have wy:=ac2 wy ar.size
     have rv:b1≠b3:=by have:=aW.lt;omega
     have pf:b2≠b3:=by have:=au.lt;omega
     obtain ⟨hw,aW,au⟩:=cj ar hw aW au;try have hX:=hX.ext ar
     try have hY:=hY.ext ar
     refine SW.nil (ae.sa ar ?_)
    rotate_left
    focus
     refine SW.alloc rfl fun b3 w4 ar cg ap => ?_
     have fW:=hw.up cg
     try have wy:=ac2 wy ar.size
     have rv:b1≠b3:=by have:=aW.lt;omega
     have pf:b2≠b3:=by have:=au.lt;omega
     obtain ⟨hw,aW,au⟩:=cj ar hw aW au;try have hX:=hX.ext ar
     try have hY:=hY.ext ar
     refine SW.nil (ae.sa ar ?_);refine SA.one 5 rfl (by kernel_rfl) rfl ?_;refine Wk (lZ _ _ _ (hr.heap.ext hw) hs.heap) fun v w4 ar hv => ?_
     obtain ⟨G,rfl,hY⟩:=hv;have TS:∃ m1 m2,w.heap.size<=m1∧m1<=m2∧m2<=w4.heap.size∧(∀ g,aI X c4=some g->g<m1)∧jH w4 m1 m2 G s.Heap:=⟨_,_,hw.size,ar.size,ac3 _,hX.lt_size,hY.vd⟩
     clear hY;obtain ⟨m1,m2,GU,E8,wy,TT,hY⟩:=TS;obtain ⟨hX,hw,aW,au⟩:=dG ar hX hw aW au;try have ap:=ap.ext ar
     refine SW.nil (ae.sa ar ?_);refine Wa ?_
    rotate_left
   rotate_left 2
   focus
    refine SW.alloc rfl fun b3 w4 ar cg ap => ?_
    have fW:=hw.up cg
    try have wy:=ac2 wy ar.size
    have rv:b1≠b3:=by have:=aW.lt;omega
    have pf:b2≠b3:=by have:=au.lt;omega
    obtain ⟨hw,aW,au⟩:=cj ar hw aW au;try have hX:=hX.ext ar
    try have hY:=hY.ext ar
    refine SW.nil (ae.sa ar ?_);refine SA.one 2 rfl (by kernel_rfl) rfl ?_;refine Wk (dB _ _ _ _ _ (hr.words.ext hw) (by omega)) fun v w4 ar hv => ?_
    obtain ⟨X,c4,rfl,hX⟩:=hv;have hX:=hX.low hw.size;obtain ⟨hw,aW,au⟩:=cj ar hw aW au;try have ap:=ap.ext ar
    refine SW.nil (ae.sa ar ?_);refine SA.one 5 rfl (by kernel_rfl) rfl ?_;refine Wk (lZ _ _ _ (hr.heap.ext hw) hs.heap) fun v w4 ar hv => ?_
    obtain ⟨G,rfl,hY⟩:=hv;have TS:∃ m1 m2,w.heap.size<=m1∧m1<=m2∧m2<=w4.heap.size∧(∀ g,aI X c4=some g->g<m1)∧jH w4 m1 m2 G s.Heap:=⟨_,_,hw.size,ar.size,ac3 _,hX.lt_size,hY.vd⟩
    clear hY;obtain ⟨m1,m2,GU,E8,wy,TT,hY⟩:=TS;obtain ⟨hX,hw,aW,au⟩:=dG ar hX hw aW au;try have ap:=ap.ext ar
    refine SW.nil (ae.sa ar ?_);refine Wa ?_
   rotate_left
   all_goals
    refine SA.done (by kernel_rfl) ?_;skip;refine SW.ag ap rfl rfl rfl rfl (aY ⟨⟨X,r.Words.n,c4⟩,G,.nil⟩) fun w5 cS hg => ?_
    have hG:=ap.gr hg;have TU:=ac2 wy hg.size;have hw:=hw.own fW hg;(obtain ⟨hX,hY⟩:=cX hG hX hY);have aW:=aW.grown hg (by simpa using rv);have au:=au.grown hg (by simpa using pf);refine Wz ?_;exact ae.cut (K:=K) (by rw [hK];exact ⟨X,c4,G,b3,m1,m2,⟨rfl,rfl,rfl,trivial⟩,hw,aW,au,cS,hX,hY,⟨GU,E8,TU,TT⟩,fW,rv,pf⟩)
 ·clear aW au hw;subst hK;rintro L' w' ⟨X,c4,G,b3,m1,m2,jw,hw,aW,au,ap,hX,hY,⟨GU,E8,TU,TT⟩,fW,rv,pf⟩
  refine ae.sub jw ?_;refine Wz ?_
  refine CW.loop (fun s:Nat×Option Addr×Nat×List dN=>[(2,.pointer (some ⟨b2,0,none⟩)),(3,.pointer (some ⟨b3,0,none⟩)),(14,.slice r.aa.A r.aa.n r.aa.c),(15,.int .i64 (r.aa.n:Int)),(16,.int .i64 (s.1:Int))])
   (fun t w'=>t.1<=r.aa.n∧m2<=w'.heap.size∧Ext w w'∧aS w' b2 44 (aP .zero)∧aS w' b3 44 (aP ⟨⟨X,r.Words.n,c4⟩,G,⟨t.2.1,t.1,t.2.2.1⟩⟩)∧Own w' w.heap.size 3 1 bw X r.Words.n c4 s.Words∧jH w' m1 m2 G s.Heap ∧
     fj w' m2 ⟨t.2.1,t.1,t.2.2.1⟩ t.2.2.2 (s.aa.take t.1)∧xG ⟨X,r.Words.n,c4⟩ t.2.2.2) (fun t=>r.aa.n-t.1) (0,none,0,[]) ⟨rfl,rfl,rfl,rfl,rfl,trivial⟩ ⟨by omega,TU,hw,au,ap,hX,hY,fj.nil _ _,xG.nil _⟩ ?_
  clear aW au ap hX hY hw jw;rintro ⟨k,A,c,zr⟩ w' ⟨hk,TU,hw,au,ap,hX,hY,hO,xB⟩
  simp only at hk ap hO xB ⊢;have hA:=hc.row.base;by_cases gh:k<r.aa.n
  ·have jU:=hc.each.get k (by omega) (by omega);have q:=hs.each _ (ac0 (show k<s.aa.length by omega));have q1:=jU.names.len;have q2:=jU.aD.len;have q3:=jU.aZ.len;have q4:=q.names;have q5:=q.aD;have q6:=q.aZ;have GS:=hO.row.lt_size;repeat' (first|refine Wz ?_|refine Wo hw ((hc.row.all gh)) ?_)
   refine SW.alloc rfl fun b5 w1 ai gm aL => ?_
   skip;refine SW.ag aL rfl rfl rfl rfl (BA _) fun w2 eJ hg => ?_
   have ar:=ai.own gm hg;have jD:=hw.up gm
   obtain ⟨hw,au,ap,hX,hY,hO⟩:=iS ar hw au ap hX hY hO;have aL:=eJ;clear eJ ai hg ar;have TV:m2<=b5:=ac2 TU gm
   refine Wz ?_;refine CW.any 10 mixed (dg (by kernel_rfl)) rfl fun w1 ai aJ => ?_
   obtain ⟨hw,au,ap,aL,hX,hY,hO⟩:=ur ai hw au ap aL hX hY hO;clear ai;refine Wa ?_;refine SA.one 2 rfl (by kernel_rfl) rfl ?_;refine Wk (vc _ _ _ _ _ (jU.names.ext hw) (by omega)) fun v w4 ar hv => ?_
   obtain ⟨N,n4,rfl,hN⟩:=hv;have I0:=hO.X4 (b:=⟨N,cs[k].Names.n,n4⟩) hN.ba;have hN:=hN.low (ac2 TV (aef aL.lt));(obtain ⟨hw,au,ap,aL,hX,hY,hO⟩:=ur ar hw au ap aL hX hY hO);refine SW.nil (ae.sa ar ?_);refine Wa ?_;refine SA.one 5 rfl (by kernel_rfl) rfl ?_;refine Wk (tG _ _ _ _ _ (jU.aD.ext hw) (by omega)) fun v w4 ar hv => ?_
   obtain ⟨M,m4,rfl,hM⟩:=hv;have ke:=hO.X5 (b:=⟨M,cs[k].ab.n,m4⟩) hM.ba;have hM:=hM.low (ac2 TV (aef aL.lt));(obtain ⟨hw,au,ap,aL,hX,hY,hO,hN⟩:=DJ ar hw au ap aL hX hY hO hN);refine SW.nil (ae.sa ar ?_);refine SA.one 8 rfl (by kernel_rfl) rfl ?_;refine Wk (dB _ _ _ _ _ (jU.aZ.ext hw) (by omega)) fun v w4 ar hv => ?_
   obtain ⟨Q,q7,rfl,hQ⟩:=hv;have LH:=hO.X6 (b:=⟨Q,cs[k].ao.n,q7⟩) hQ.ba;have uu:=pP (a:=⟨X,r.Words.n,c4⟩) (b:=⟨Q,cs[k].ao.n,q7⟩) hX hQ.ba;have hQ:=hQ.low (ac2 TV (aef aL.lt));(obtain ⟨hw,au,ap,aL,hX,hY,hO,hN,hM⟩:=Lj ar hw au ap aL hX hY hO hN hM);refine SW.nil (ae.sa ar ?_);refine SA.done (by kernel_rfl) ?_;refine Wb (i:=0) aL fun w6 eJ hg => ?_
   have hG:=aL.gr hg;have hw:=hw.own jD hg;have hO:=hO.eG aL hg GS gm;(obtain ⟨au,ap,hX,hY,hN,hM,hQ⟩:=ur hG au ap hX hY hN hM hQ);have aL:=eJ;clear eJ hg hG;refine Wz ?_;refine Wb (i:=4) aL fun w6 eJ hg => ?_
   have hG:=aL.gr hg;have hw:=hw.own jD hg;have hO:=hO.eG aL hg GS gm;(obtain ⟨au,ap,hX,hY,hN,hM,hQ⟩:=ur hG au ap hX hY hN hM hQ);have aL:=eJ;clear eJ hg hG;refine Wz ?_;refine Wb (i:=5) aL fun w6 eJ hg => ?_
   have hG:=aL.gr hg;have hw:=hw.own jD hg;have hO:=hO.eG aL hg GS gm;(obtain ⟨au,ap,hX,hY,hN,hM,hQ⟩:=ur hG au ap hX hY hN hM hQ);have aL:=eJ;clear eJ hg hG;refine Wz ?_;refine SW.dR rfl rfl rfl rfl rfl fun b w6 ar hb hB => ?_
   (obtain ⟨hw,au,ap,hX,hY,hO,hN,hM,hQ⟩:=Lj ar hw au ap hX hY hO hN hM hQ);refine SW.append hO.row (aS.vF (enc:=fK) (x:=⟨⟨N,_,n4⟩,cs[k].aA,cs[k].bK,cs[k].Order,⟨M,_,m4⟩,⟨Q,_,q7⟩⟩) hB) (ac2 TV (ac2 (aef aL.lt) ar.size)) rfl rfl rfl (by simp only;omega) (by simp only;omega) fun A2 c2 w5 lm hg => ?_
   have hG:=hO.row.gr hg;have hm6:=ac2 (ac2 TV (ac2 (aef aL.lt) ar.size)) hg.size;have hw:=aF hw hg (ac2 GU E8) hO.row.ba;(obtain ⟨au,ap,hX,hY,hN,hM,hQ⟩:=ur hG au ap hX hY hN hM hQ);have hE:=hO.each.mono fun _ _ h=>h.aN hG rfl
   refine Wz ?_;refine Wb (i:=6) ap fun w6 dW hg => ?_
   have hG:=ap.gr hg;have hw:=hw.own fW hg;have au:=au.grown hg (by simpa using pf);(obtain ⟨hX,hY,hN,hM,hQ,lm⟩:=iS hG hX hY hN hM hQ lm);have hE:=hE.mono fun _ _ h=>h.aN hG rfl
   refine Wz ?_;refine ae.again (k+1,A2,c2,zr++[⟨⟨N,_,n4⟩,cs[k].aA,cs[k].bK,cs[k].Order,⟨M,_,m4⟩,⟨Q,_,q7⟩⟩]) ⟨rfl,rfl,rfl,rfl,rfl,trivial⟩ (by simp only;omega) ⟨by simp only;omega,ac2 hm6 hg.size,hw,au,dW,hX,hY,⟨lm,?_⟩,xB.snoc (fun u hu=>⟨I0 u hu,ke u hu,LH u hu⟩) uu⟩;rw [ac5 (by omega)];exact hE.snoc ⟨jU.size,jU.per,jU.order,hN,hM,hQ⟩
  ·obtain rfl:k=r.aa.n:=by omega
   rw [adf (by omega)] at hO;refine Wz ?_;refine SW.ag au rfl rfl rfl rfl (aY _) fun w5 cS hg => ?_
   have hG:=au.gr hg;have hw:=hw.own uM hg;(obtain ⟨hX,hY,hO⟩:=cj hG hX hY hO);refine Wz ?_;exact ae.DZ rfl rfl cS rfl ⟨_,rfl,hw,⟨_,G,_⟩,zr,rfl,⟨hX,hY.own.low GU,hO.row.low (ac2 GU E8),hO.each.mono fun _ _ h=>h.low (ac2 GU E8),xB.pair⟩,⟨m1,m2,GU,E8,TT,hY,hO.each⟩⟩
set_option maxHeartbeats 2000000 in
theorem yq (r:db) (s:ah) (n:ByteArray) (cpu:Int) (w:World) (hr:AM w r s) (hf:s.cV) (NL:n.size<=140737488351232) :
 bI prog 100 [.agg (aP r).toArray,.string n,.int .i64 cpu] w (Q4 w.heap.size s n cpu):=by
 refine aE func100 rfl ntmps100 rfl ?_;have hs:=hf.small;refine CW.seq (CW.region (SW.box rfl rfl fun b3 w1 hw cg ap => ?_));refine SW.alloc rfl fun b6 w3 nL dt aq => ?_
 have cG:=hw.up dt
 (obtain ⟨hw,ap⟩:=cX nL hw ap);obtain ⟨q,hq⟩ : ∃ q,fQ s=q:=⟨_,rfl⟩
 have c1:∀ w',Ext w w'->bI prog 46 [.agg (aP r).toArray] w' fun v _=>v = .int .i64 (if q then 0 else 8):=fun w' hx=>by
  have:=mf r s w' (hr.ext hx) hf
  rwa [hq] at this
 cases q
 ·simp only [Bool.false_eq_true,if_false] at c1;repeat' (first|refine Wz ?_|(refine Wk (c1 _ hw) ?_;intro v w1 ai hv;subst hv;obtain ⟨hw,ap,aq⟩:=cj ai hw ap aq;clear ai))
  refine SW.ag aq rfl rfl rfl rfl (aY .zero) fun w5 cS hg => ?_
  have hw:=hw.own cG hg;refine Wz ?_;exact ae.e8 rfl rfl rfl rfl cS rfl ⟨_,rfl,hw,.inl ⟨by rw [Mb hq];decide,by rw [Mb hq];rfl⟩⟩
 ·simp only [if_true] at c1;obtain ⟨t,ht⟩ : ∃ t,s.aa.any (dO n)=t:=⟨_,rfl⟩;obtain ⟨ix,rG⟩ : ∃ ix,idxOf (dO n) s.aa=ix:=⟨_,rfl⟩
  have c3:∀ w',Ext w w'->bI prog 48 [.agg (aP r).toArray,.string n] w' fun v _=>v = .tuple #[.int .i64 ix,.bool t]:=fun w' hx=>by
   have:=BK r s n w' (hr.ext hx) hs
   rwa [ht,rG] at this
  cases t
  ·repeat' (first|refine Wz ?_|(refine CW.gj rfl ?_)|((first|refine Wk (c1 _ hw) ?_|refine Wk (c3 _ hw) ?_);intro v w1 ai hv;subst hv;obtain ⟨hw,ap,aq⟩:=cj ai hw ap aq;clear ai))
   refine SW.ag aq rfl rfl rfl rfl (aY .zero) fun w5 cS hg => ?_
   have hw:=hw.own cG hg;refine Wz ?_;exact ae.e8 rfl rfl rfl rfl cS rfl ⟨_,rfl,hw,.inl ⟨by rw [Mc hq ht];decide,by rw [Mc hq ht];rfl⟩⟩
  ·have qj:=hr.heap.cpus;by_cases hc : 0<=cpu∧cpu<s.Heap.bG
   ·repeat' (first|refine Wz ?_|(refine CW.fU rfl ?_)|((first|refine Wk (c1 _ hw) ?_|refine Wk (c3 _ hw) ?_);intro v w1 ai hv;subst hv;obtain ⟨hw,ap,aq⟩:=cj ai hw ap aq;clear ai))
    all_goals try omega
    refine Wk (mi r s _ (hr.ext hw) hs) fun v w6 ar hv => ?_
    obtain ⟨q,zr,rfl,hO,hI⟩:=hv;have hO:=hO.low hw.size;have hI:=hI.low hw.size;(obtain ⟨hw,aq⟩:=cX ar hw aq);refine Wz ?_;refine SW.ag aq rfl rfl rfl rfl (aY q) fun w5 cS hg => ?_
    have hG:=aq.gr hg;have hw:=hw.own cG hg;(obtain ⟨hO,hI⟩:=cX hG hO hI);refine Wz ?_;exact ae.e8 rfl rfl rfl rfl cS rfl ⟨_,rfl,hw,.inr ⟨Mf hq ht hc,q,zr,by rw [rG];rfl,hO,hI⟩⟩
   ·rcases (show cpu<0∨(0<=cpu∧s.Heap.bG<=cpu) by omega) with g|g
    all_goals
     repeat' (first|refine Wz ?_|(refine CW.fU rfl ?_)|((first|refine Wk (c1 _ hw) ?_|refine Wk (c3 _ hw) ?_);intro v w1 ai hv;subst hv;obtain ⟨hw,ap,aq⟩:=cj ai hw ap aq;clear ai))
     all_goals try omega
     refine SW.ag aq rfl rfl rfl rfl (aY .zero) fun w5 cS hg => ?_
     have hw:=hw.own cG hg;refine Wz ?_;exact ae.e8 rfl rfl rfl rfl cS rfl ⟨_,rfl,hw,.inl ⟨by rw [Me hq ht hc];decide,by rw [Me hq ht hc];rfl⟩⟩
variable {s:ah} {l':List Slab} {i lo:Nat} {w w':World}
theorem E9 (x:Slab) (b8:Nat) (ad:Addr) (A:Option Addr) (n c:Nat) (l:List Int) (w:World) (h8:aS w b8 127 [.pointer (some ad)]) (hp:w.cell? (ad.add 5)=some (.slice A n c)) (hl:Sl w 1 bw A n l) (hn:n<=9223372036854775807) :
 bI prog 167 ([.agg (bf x).toArray]++[.pointer (some ⟨b8,0,none⟩)]) w fun v _=>v = .bool (decide (0<x.aj) && !decide (x.At∈l)):=by
 refine aE func167 rfl ntmps167 rfl ?_;refine CW.seq (CW.region (SW.box rfl rfl fun b2 w1 hw fk au => ?_));have IA:=h8.cell (i:=0) (v := .pointer (some ad)) rfl;rw [add_zero] at IA;obtain ⟨q,hq⟩ : ∃ q,decide (x.At∈l)=q:=⟨_,rfl⟩
 have cC:∀ w',Ext w w'->bI prog 125 [.slice A n c,.int .i64 x.At] w' fun v _=>v = .bool q:=fun w' hx=>by
  have:=g7 _ _ c _ x.At _ (hl.ext hx) hn
  rwa [hq] at this
 by_cases hf : 0<x.aj
 ·repeat' (first|refine Wz ?_|((apply CW.bF mixed;(· kernel_rfl);rotate_left;intro w1 ai;obtain ⟨hw,au⟩:=cX ai hw au;clear ai;rotate_right))|refine Wn hw IA ?_|refine Wn hw hp ?_|refine SW.dF rfl rfl (fun w1 ai=>(cC _ (hw.trans ai))) ?_|exact SW.eI rfl)
  all_goals try omega
  exact ae.bj rfl rfl ⟨_,rfl,hw,by rw [hq,decide_eq_true hf];simp⟩
 ·repeat' (first|refine Wz ?_|((apply CW.bF mixed;(· kernel_rfl);rotate_left;intro w1 ai;obtain ⟨hw,au⟩:=cX ai hw au;clear ai;rotate_right))|exact SW.eI rfl)
  all_goals try omega
  exact ae.bj rfl rfl ⟨_,rfl,hw,by rw [decide_eq_false hf];simp⟩
def Bi (c:aQ) (cpu k:Nat) : aQ:=⟨c.Names,c.aA,c.bK,c.Order,c.ab,c.ao.set cpu (ig c k).At⟩
def TW (G:Nat->Prop) (wb w0:World) (b:Nat) (r:db) (s:ah) (i:Nat) (c:aQ) (cpu:Nat) (v:Value) (w':World) : Prop :=
 ∃ m,rA s c cpu m∧Ext wb w'∧(∀ j x,j≠b->aS w0 j 44 x->aS w' j 44 x)∧(∀ j x,G j->aS w0 j 3 x->aS w' j 3 x) ∧
  ((m.1=none∧m.2≠0∧v = .tuple #[.int .i64 0,.int .i64 m.2]) ∨
   ∃ M,m=(some M,0)∧v = .tuple #[.int .i64 (M.k:Int),.int .i64 0] ∧ ∃ X H cs',aS w' b 44 (aP ⟨X,H,r.aa⟩)∧SX w' wb.heap.size ⟨X,H,r.aa⟩ (bH (mV s M.ws) i (M.h,Bi M.c cpu M.k)) cs'∧SJ G w' wb.heap.size ⟨X,H,r.aa⟩ (bH (mV s M.ws) i (M.h,Bi M.c cpu M.k)) cs')
set_option maxHeartbeats 8000000 in
theorem Hb (G:Nat->Prop) (wb w0:World) (b:Nat) (r:db) (s:ah) (cs:List dN) (i cpu:Nat) (hf:s.cV) (hi:i<s.aa.length) (hM:qQ s s.aa[i]) (eY:mD w0)
 (hx:Ext wb w0) (hb:aS w0 b 44 (aP r)) (qV:wb.heap.size<=b) (hS:SX w0 wb.heap.size r s cs) (hJ:SJ G w0 wb.heap.size r s cs) (TO:∀ g,G g->g<w0.heap.size) (pW:cpu<s.aa[i].ao.length) (yd:(s.aa[i].ab.length+1)*24<=140737488355328) :
 iI prog 145 [.pointer (some ⟨b,0,none⟩),.int .i64 (i:Int),.int .i64 (cpu:Int)] w0 (TW G wb w0 b r s i s.aa[i] cpu):=by
 refine dh func145 rfl ntmps145 rfl ?_;have hm:=hM.most;have e0:=n5 hi;have h2:=hf.Sg hi;have q4:=h2.small.aZ;have dz:=hx.size;obtain ⟨e1,e2⟩:=hS.len;have oS:i<cs.length:=by omega
 have cQ:i<r.aa.n:=by omega
 have NK:=hS.row.sl.base;have hC:=hS.each.get i oS hi;have q1:=hC.aD.len;have q3:=hC.aZ.len;have R3:cpu<cs[i].ao.n:=by omega
 have Sm:=hC.aD.sl.base;have TX:=hC.aZ.sl.base;have OU:=JQ hM pW;have gT:(s.aa[i].ao.getD cpu 0)=s.aa[i].ao[cpu]:=by simp [pW]
 clear hC;have hw:=Ext.refl w0;refine Wz ?_;refine SW.alloc rfl fun b8 w1 ai oC bg => ?_
 have gz:=hw.up oC
 (obtain ⟨hw,hb,hS,hJ⟩:=dG ai hw hb hS hJ);refine Wb (i:=0) bg fun w2 tu hg => ?_
 have hG:=bg.gr hg;have hw:=hw.own gz hg;(obtain ⟨hb,hS,hJ⟩:=cj hG hb hS hJ);have bg:aS w2 b8 127 [.pointer (some ((r.aa.A.getD default).add (i*6)))]:=tu;clear tu hG hg
 have IA:∀ w',aS w' b8 127 [.pointer (some ((r.aa.A.getD default).add (i*6)))]->w'.cell? ⟨b8,0,none⟩=some (.pointer (some ((r.aa.A.getD default).add (i*6)))):=fun w' h=>by
  have:=h.cell (i:=0) (v := .pointer (some ((r.aa.A.getD default).add (i*6)))) rfl
  rwa [add_zero] at this
 obtain ⟨o,ho⟩ : ∃ o,Dn s.aa[i] cpu=o:=⟨_,rfl⟩;obtain ⟨t,ht⟩ : ∃ t,s.aa[i].ao[cpu]=t:=⟨_,rfl⟩;rw [ho,ht] at OU;have gA:∀ w',SX w' wb.heap.size r s cs->w'.cell? ((((cs[i].ao.A).getD default).add (cpu*1)))=some (Value.int .i64 t):=fun w' h=>(h.each.get i oS hi).aZ.sl.one R3 (by rw [show s.aa[i].ao[cpu]=t from ht];rfl)
 have hC:=hS.each.get i oS hi
 have cF:∀ w',Ext w2 w'->bI prog 137 [.agg (fK cs[i]).toArray,.int .i64 t] w' fun v _=>v = .int .i64 o:=fun w' h=>by
  have:=Ez cs[i] s.aa[i].ab t w' (hC.aD.sl.ext h) (by omega)
  unfold Dn at ho;rw [gT,ht] at ho;rwa [ho] at this
 have NM:=hw;have hw:=Ext.refl w2;by_cases hA:∃ (k:Nat) (hk:k<s.aa[i].ab.length),o=k∧0<s.aa[i].ab[k].aj
 ·obtain ⟨k,hk,rfl,m7⟩:=hA;have gh:k<cs[i].ab.n:=by omega
  obtain ⟨y,hy⟩ : ∃ y,s.aa[i].ab[k]=y:=⟨_,rfl⟩;rw [hy] at m7;have gF:∀ w',SX w' wb.heap.size r s cs->w'.cell? ((((cs[i].ab.A).getD default).add (k*3)).add 1)=some (Value.int .i64 y.aj):=fun w' h=>(h.each.get i oS hi).aD.sl.jL gh (j:=1) (show (bf (s.aa[i].ab[k]'(by omega)))[1]?=some (Value.int .i64 y.aj) by rw [hy];rfl)
  have IB:pV s.aa[i] cpu=k:=by
   unfold pV;rw [ho,if_pos ⟨by omega,by rw [show ((k:Int)).toNat=k by omega,ff hk,hy];exact m7⟩]
  repeat' (first|refine Wz ?_|((apply CW.bF mixed;(· kernel_rfl);rotate_left;intro w1 ai;obtain ⟨hw,hb,bg,hS,hJ⟩:=fI ai hw hb bg hS hJ;clear ai;rotate_right))|refine Wl (IA _ bg) ?_|refine Wm ((hS.row.sl.all cQ)) ?_|refine Wl (hS.row.sl.jL cQ (j:=5) (u := .slice cs[i].ao.A cs[i].ao.n cs[i].ao.c) rfl) ?_|refine Wl (gA _ hS) ?_|refine Wl (hS.row.sl.jL cQ (j:=4) (u := .slice cs[i].ab.A cs[i].ab.n cs[i].ab.c) rfl) ?_|refine Wl (gF _ hS) ?_|refine SW.dF rfl rfl (fun w1 ai=>(cF _ (hw.trans ai))) ?_|exact SW.eI rfl)
  all_goals try omega
  have hw:=NM.trans hw;rcases OU with ⟨_,h⟩|⟨_,k2,yb,h,Bj⟩
  ·omega
  ·obtain rfl:k=k2:=by omega
   rw [hy] at Bj
   have Rp:Bi s.aa[i] cpu k=s.aa[i]:=by
    unfold Bi;rw [ff hk,hy,Bj,<- ht,adK]
   refine ae.dj rfl rfl rfl ⟨_,rfl,_,.uw IB,hx.trans hw,fun j x hj h=>h.ext hw,fun j x hj h=>h.ext hw,.inr ⟨_,rfl,rfl,r.Words,r.Heap,cs,hb,?_⟩⟩;simp only;rw [Rp];rw [<- e0] at hS hJ;exact ⟨hS,hJ⟩
 ·have AQ : ¬ (0<=o∧0<(ig s.aa[i] o.toNat).aj):=fun h=>by
   rcases OU with ⟨_,h1⟩|⟨_,k2,yb,h1,_⟩
   ·omega
   ·refine hA ⟨k2,yb,h1,?_⟩;have:=h.2
    rwa [show o.toNat=k2 by omega,ff yb] at this
  rcases OU with ⟨_,MJ⟩|⟨_,k2,yb,MJ,aao⟩
  focus
   repeat' (first|refine Wz ?_|((apply CW.bF mixed;(· kernel_rfl);rotate_left;intro w1 ai;obtain ⟨hw,hb,bg,hS,hJ⟩:=fI ai hw hb bg hS hJ;clear ai;rotate_right))|refine Wl (IA _ bg) ?_|refine Wm ((hS.row.sl.all cQ)) ?_|refine Wl (hS.row.sl.jL cQ (j:=5) (u := .slice cs[i].ao.A cs[i].ao.n cs[i].ao.c) rfl) ?_|refine Wl (gA _ hS) ?_|refine Wl (hS.row.sl.jL cQ (j:=4) (u := .slice cs[i].ab.A cs[i].ab.n cs[i].ab.c) rfl) ?_|refine SW.dF rfl rfl (fun w1 ai=>(cF _ (hw.trans ai))) ?_|(refine SW.st (jg (vs:=[.pointer (some ⟨b8,0,none⟩)]) rfl) rfl ?_)|exact SW.eI rfl)
   all_goals try omega
  rotate_left
  focus
   have WL:k2<cs[i].ab.n:=by omega
   obtain ⟨y2,TB⟩ : ∃ y2,s.aa[i].ab[k2]=y2:=⟨_,rfl⟩;have aap : ¬ 0<y2.aj:=fun h=>hA ⟨k2,yb,MJ,by rw [TB];exact h⟩
   have gF2:∀ w',SX w' wb.heap.size r s cs->w'.cell? ((((cs[i].ab.A).getD default).add (k2*3)).add 1)=some (Value.int .i64 y2.aj):=fun w' h=>(h.each.get i oS hi).aD.sl.jL WL (j:=1) (show (bf (s.aa[i].ab[k2]'(by omega)))[1]?=some (Value.int .i64 y2.aj) by rw [TB];rfl)
   subst MJ;repeat' (first|refine Wz ?_|((apply CW.bF mixed;(· kernel_rfl);rotate_left;intro w1 ai;obtain ⟨hw,hb,bg,hS,hJ⟩:=fI ai hw hb bg hS hJ;clear ai;rotate_right))|refine Wl (IA _ bg) ?_|refine Wm ((hS.row.sl.all cQ)) ?_|refine Wl (hS.row.sl.jL cQ (j:=5) (u := .slice cs[i].ao.A cs[i].ao.n cs[i].ao.c) rfl) ?_|refine Wl (gA _ hS) ?_|refine Wl (hS.row.sl.jL cQ (j:=4) (u := .slice cs[i].ab.A cs[i].ab.n cs[i].ab.c) rfl) ?_|refine Wl (gF2 _ hS) ?_|refine SW.dF rfl rfl (fun w1 ai=>(cF _ (hw.trans ai))) ?_|(refine SW.st (jg (vs:=[.pointer (some ⟨b8,0,none⟩)]) rfl) rfl ?_)|exact SW.eI rfl)
   all_goals try omega
  all_goals
   have hw:=NM.trans hw;clear NM cF hC;have hC:=hS.each.get i oS hi;have TY:=hS.row.sl.jL cQ (j:=5) (u := .slice cs[i].ao.A cs[i].ao.n cs[i].ao.c) rfl;refine Wk (ln _ _ _ s.aa[i].ab _ hC.aD.sl _ [.pointer (some ⟨b8,0,none⟩)] (BW s.aa[i]) (fun x => .agg (bf x).toArray) (fun x=>rfl) (fun x py w1 lf=>E9 x b8 _ cs[i].ao.A cs[i].ao.n cs[i].ao.c s.aa[i].ao w1 (bg.ext lf) (lf.cell TY) (hC.aZ.sl.ext lf) (by omega)) (by omega)) fun v w9 ar hv => ?_
   subst hv;(obtain ⟨hw,hb,bg,hS,hJ⟩:=fI ar hw hb bg hS hJ);clear hC TY;obtain ⟨z,hz⟩ : ∃ z,idxOf (BW s.aa[i]) s.aa[i].ab=z:=⟨_,rfl⟩;rw [hz]
   have IB:pV s.aa[i] cpu=z:=by
    unfold pV;rw [ho,if_neg AQ,hz]
   by_cases LI : 0<=z
   ·obtain ⟨k,rfl⟩:=ada LI;obtain ⟨hk,m7⟩:=Iu IB;have gh:k<cs[i].ab.n:=by omega
    obtain ⟨y,hy⟩ : ∃ y,s.aa[i].ab[k]=y:=⟨_,rfl⟩;have gY:∀ w',SX w' wb.heap.size r s cs->w'.cell? ((((cs[i].ab.A).getD default).add (k*3)).add 0)=some (Value.int .i64 y.At):=fun w' h=>(h.each.get i oS hi).aD.sl.jL gh (j:=0) (show (bf (s.aa[i].ab[k]'(by omega)))[0]?=some (Value.int .i64 y.At) by rw [hy];rfl)
    refine Wz ?_;all_goals try omega
    refine CW.gl 14 14 (fun _=>True) mixed (by kernel_rfl) fun w1 ai aJ => ?_
    obtain ⟨hw,hb,bg,hS,hJ⟩:=fI ai hw hb bg hS hJ;clear ai;refine Wt 0 [] [] aJ rfl (aT rfl (IA _ bg)) ?_;refine Wt 1 [] [] aJ rfl (aG rfl) ?_;refine Wt 2 [] [] aJ rfl (az rfl) ?_;refine Wt 3 [] [] aJ rfl (aT rfl (hS.row.sl.jL cQ (j:=5) (u := .slice cs[i].ao.A cs[i].ao.n cs[i].ao.c) rfl)) ?_;refine Wp 4 [] [] aJ rfl rfl ?_;refine Wt 5 [] [] aJ rfl (aT rfl (IA _ bg)) ?_;refine Wt 6 [] [] aJ rfl (aG rfl) ?_;refine Wt 7 [] [] aJ rfl (az rfl) ?_;refine Wt 8 [] [] aJ rfl (aT rfl (hS.row.sl.jL cQ (j:=4) (u := .slice cs[i].ab.A cs[i].ab.n cs[i].ab.c) rfl)) ?_;refine Wp 9 [] [] aJ rfl rfl ?_;refine Wt 10 [] [] aJ rfl (bZ rfl rfl (by assumption) (by omega)) ?_;refine Wt 11 [] [] aJ rfl (az rfl) ?_;refine Wt 12 [] [] aJ rfl (aT rfl (gY _ hS)) ?_;refine Wt 13 [] [] aJ rfl (bZ rfl rfl (by assumption) (by omega)) ?_;refine SF.last rfl (by kernel_rfl) (by kernel_rfl) ?_;have hC:=hS.each.get i oS hi;refine SW.qp cpu hC.aZ rfl rfl R3 fun qU hO hg => ?_
    have hG:=hC.aZ.gr hg;rw [<- e0] at hS hJ;have WM:=hS.act hJ oS hi hO hg;have WN:=aF (hx.trans hw) hg (ac3 _) hC.aZ.ba;have hb:=hb.aN hG rfl;refine Wz ?_;refine ae.dj rfl rfl rfl ⟨_,rfl,_,.uw IB,WN,fun j x hj h=>(h.ext hw).aN hG rfl,fun j x hj h=>(h.ext hw).grown hg (hJ.ne hj oS),.inr ⟨_,rfl,rfl,r.Words,r.Heap,cs,hb,?_⟩⟩
    have Rp:Bi s.aa[i] cpu k=⟨s.aa[i].Names,s.aa[i].aA,s.aa[i].bK,s.aa[i].Order,s.aa[i].ab,s.aa[i].ao.set cpu y.At⟩:=by
     unfold Bi;rw [ff hk,hy]
    simp only;rw [Rp];exact WM
   ·have Rq:pV s.aa[i] cpu<0:=by omega
    refine Wz ?_;all_goals try omega
    refine SW.dT rfl rfl (MH G wb _ b r s cs i cpu hf hi hM (eY.ext hw) (hx.trans hw) hb qV hS (fun g hg=>⟨adX (TO g hg) hw.size,fun u hu=>hJ.sep u hu g hg⟩) yd) fun v qU hv => ?_
    obtain ⟨⟨h',at',e⟩,hu,hv⟩:=hv;simp only at hv;rcases hv with ⟨he,rfl,Du⟩|⟨rfl,WO,rfl,Du⟩|⟨rfl,jU,rfl,Du,ue,NC,F2,X,H,cs',iq,Jx,Pu⟩
    ·refine Wz ?_;all_goals try omega
     exact ae.dj rfl rfl rfl ⟨_,rfl,_,.room Rq hu he,(hx.trans hw).trans Du,fun j x hj h=>(h.ext hw).ext Du,fun j x hj h=>(h.ext hw).ext Du,.inl ⟨rfl,he,rfl⟩⟩
    ·refine Wz ?_;all_goals try omega
     exact ae.dj rfl rfl rfl ⟨_,rfl,_,.chain Rq hu rfl WO,(hx.trans hw).trans Du,fun j x hj h=>(h.ext hw).ext Du,fun j x hj h=>(h.ext hw).ext Du,.inl ⟨rfl,by simp,rfl⟩⟩
    ·have bg:=NC _ _ bg;obtain ⟨e3,e4⟩:=Jx.rows;have Bl:i<cs'.length:=by simp only [mV] at e3;omega
     obtain ⟨k,UU⟩ : ∃ k,eM s.aa[i] at'=k:=⟨_,rfl⟩
     obtain ⟨c1,By⟩ : ∃ c1,dV s.aa[i] at'=c1:=⟨_,rfl⟩
     have DP:=oT s.aa[i] at'
     have DM:c1.ab.length=s.aa[i].ab.length+1:=by
      rw [<- By];exact de _ DP _
     have Dc:k<c1.ab.length:=by omega
     have Ys:c1.ab[k]=⟨at',s.aa[i].bK,16*at'⟩:=by
      subst By;subst UU;exact EY DP Dc
     have TZ:c1.ao=s.aa[i].ao:=by rw [<- By];rfl
     have xL:=rA.new Rq hu rfl jU;rw [By] at Jx Pu;rw [UU];simp only [By,UU] at xL;have hC:=Jx.get Bl hi;simp only at hC;have q5:=hC.aD.len;have q6:=hC.aZ.len;have gh:k<cs'[i].ab.n:=by omega
     have WQ:cpu<cs'[i].ao.n:=by rw [<- q6,TZ];exact pW
     have aar:=hC.aD.sl.base;have aas:=hC.aZ.sl.base;have gY:∀ w',SX w' wb.heap.size ⟨X,H,r.aa⟩ (bH (mV s (dE s.Words (16*at') s.aa[i].aA s.aa[i].bK)) i (h',c1)) cs'->w'.cell? ((((cs'[i].ab.A).getD default).add (k*3)).add 0)=some (Value.int .i64 at'):=fun w' h=>(h.get Bl hi).aD.sl.jL gh (j:=0) (show (bf (c1.ab[k]'(by omega)))[0]?=some (Value.int .i64 at') by rw [Ys];rfl)
     clear hC hS hJ hb;have Yt:=hw;have hw:=Ext.refl qU;refine Wz ?_;all_goals try omega
     refine CW.gl 14 14 (fun _=>True) mixed (by kernel_rfl) fun w1 ai aJ => ?_
     obtain ⟨hw,iq,bg,Jx,Pu⟩:=fI ai hw iq bg Jx Pu;clear ai;refine Wt 0 [] [] aJ rfl (aT rfl (IA _ bg)) ?_;refine Wt 1 [] [] aJ rfl (aG rfl) ?_;refine Wt 2 [] [] aJ rfl (az rfl) ?_;refine Wt 3 [] [] aJ rfl (aT rfl (Jx.row.sl.jL cQ (j:=5) (u := .slice cs'[i].ao.A cs'[i].ao.n cs'[i].ao.c) rfl)) ?_;refine Wp 4 [] [] aJ rfl rfl ?_;refine Wt 5 [] [] aJ rfl (aT rfl (IA _ bg)) ?_;refine Wt 6 [] [] aJ rfl (aG rfl) ?_;refine Wt 7 [] [] aJ rfl (az rfl) ?_;refine Wt 8 [] [] aJ rfl (aT rfl (Jx.row.sl.jL cQ (j:=4) (u := .slice cs'[i].ab.A cs'[i].ab.n cs'[i].ab.c) rfl)) ?_;refine Wp 9 [] [] aJ rfl rfl ?_;refine Wt 10 [] [] aJ rfl (bZ rfl rfl (by assumption) (by omega)) ?_;refine Wt 11 [] [] aJ rfl (az rfl) ?_;refine Wt 12 [] [] aJ rfl (aT rfl (gY _ Jx)) ?_;refine Wt 13 [] [] aJ rfl (bZ rfl rfl (by assumption) (by omega)) ?_;refine SF.last rfl (by kernel_rfl) (by kernel_rfl) ?_;have hC:=Jx.get Bl hi;simp only at hC;refine SW.qp cpu hC.aZ rfl rfl WQ fun rq hO hg => ?_
     have hG:=hC.aZ.gr hg;have WM:=Jx.act Pu Bl hi hO hg;have WN:=aF (Du.trans hw) hg (ac3 _) hC.aZ.ba;have iq:=iq.aN hG rfl;refine Wz ?_;refine ae.dj rfl rfl rfl ⟨_,rfl,_,xL,WN,fun j x hj h=>((ue j x hj (h.ext Yt)).ext hw).aN hG rfl,fun j x hj h=>((F2 j x (h.ext Yt)).ext hw).grown hg (Pu.ne hj Bl),.inr ⟨_,rfl,rfl,X,H,cs',iq,?_⟩⟩
     have Rp:Bi c1 cpu k=⟨c1.Names,c1.aA,c1.bK,c1.Order,c1.ab,c1.ao.set cpu at'⟩:=by
      unfold Bi;rw [ff Dc,Ys]
     simp only;rw [Rp];exact WM
def Rr (G:Nat->Prop) (wb w0:World) (b:Nat) (r:db) (s:ah) (i:Nat) (c:aQ) (cpu:Nat) (v:Value) (w':World) : Prop :=
 ∃ m,rA s c cpu m∧Ext wb w'∧(∀ j x,j≠b->aS w0 j 44 x->aS w' j 44 x)∧(∀ j x,G j->aS w0 j 3 x->aS w' j 3 x) ∧
  ((m.1=none∧m.2≠0∧v = .tuple #[.int .i64 0,.int .i64 m.2]) ∨
   ∃ M,m=(some M,0)∧v = .tuple #[.int .i64 (ig M.c M.k).cf,.int .i64 0] ∧ ∃ X H cs',aS w' b 44 (aP ⟨X,H,r.aa⟩)∧SX w' wb.heap.size ⟨X,H,r.aa⟩ (bH (mV s M.ws) i (M.h,dH M.c cpu M.k (M.ws.getD (ig M.c M.k).cf.toNat 0))) cs'∧SJ G w' wb.heap.size ⟨X,H,r.aa⟩ (bH (mV s M.ws) i (M.h,dH M.c cpu M.k (M.ws.getD (ig M.c M.k).cf.toNat 0))) cs')
theorem sk.OV {r:db} {cs:List dN} {p:Heap×aQ} (h:SX w lo r (bH s i p) cs) (hi:i<cs.length) (nO:i<s.aa.length) (hO:Own w' lo 111 3 bf cs[i].ab.A cs[i].ab.n cs[i].ab.c l') (hg:w.grownBy w' (aI cs[i].ab.A cs[i].ab.c)) :
 SX w' lo r (bH s i (p.1,⟨p.2.Names,p.2.aA,p.2.bK,p.2.Order,l',p.2.ao⟩)) cs:=by
 have:=h.Dk hi nO hO hg
 have e:cs.set i ⟨cs[i].Names,cs[i].aA,cs[i].bK,cs[i].Order,⟨cs[i].ab.A,cs[i].ab.n,cs[i].ab.c⟩,cs[i].ao⟩=cs:=adK hi
 rwa [e] at this
set_option maxHeartbeats 4000000 in
theorem IC (G:Nat->Prop) (wb w0:World) (b:Nat) (r:db) (s:ah) (cs:List dN) (i cpu:Nat) (hf:s.cV) (hi:i<s.aa.length) (hM:qQ s s.aa[i]) (eY:mD w0)
 (hx:Ext wb w0) (hb:aS w0 b 44 (aP r)) (qV:wb.heap.size<=b) (hS:SX w0 wb.heap.size r s cs) (hJ:SJ G w0 wb.heap.size r s cs) (TO:∀ g,G g->g<w0.heap.size) (pW:cpu<s.aa[i].ao.length) (yd:(s.aa[i].ab.length+1)*24<=140737488355328) :
 iI prog 101 [.pointer (some ⟨b,0,none⟩),.int .i64 (i:Int),.int .i64 (cpu:Int)] w0 (Rr G wb w0 b r s i s.aa[i] cpu):=by
 refine dh func101 rfl ntmps101 rfl ?_;have hm:=hM.most;have NK:=hS.row.sl.base;obtain ⟨e1,e2⟩:=hS.len;have cQ:i<r.aa.n:=by omega
 refine Wz ?_;refine SW.dT rfl rfl (Hb G wb _ b r s cs i cpu hf hi hM eY hx hb qV hS hJ TO pW yd) fun v w1 hv => ?_
 obtain ⟨m,xL,lf,ue,F2,hv⟩:=hv;rcases hv with ⟨hn,he,rfl⟩|⟨M,rfl,rfl,X,H,cs',aW,Rs,hJ1⟩
 ·have hw:=Ext.refl w1;refine Wz ?_;all_goals try omega
  exact ae.dj rfl rfl rfl ⟨_,rfl,m,xL,lf,ue,F2,.inl ⟨hn,he,rfl⟩⟩
 ·have lP:=xL.QC hM M rfl;obtain ⟨e3,e4⟩:=Rs.rows;simp only [mV] at e3;have Bl:i<cs'.length:=by omega
  obtain ⟨k,hk⟩ : ∃ k,M.k=k:=⟨_,rfl⟩;have iw:=lP.hk;have Yu:=lP.first
  have Ta:=lP.free;have Sb:=lP.len;obtain ⟨y,hy⟩ : ∃ y,M.c.ab[M.k]=y:=⟨_,rfl⟩;have WR:ig M.c M.k=y:=by rw [ff iw,hy]
  rw [hy] at Yu Ta;obtain ⟨an,MK⟩:=ada Yu.1;have hC:=Rs.get Bl hi;simp only [Bi] at hC;have q1:M.c.ab.length=cs'[i].ab.n:=hC.aD.len
  have q2:=Rs.words.len;have Yv:X.n=M.ws.length:=q2.symm
  have px:M.k<cs'[i].ab.n:=by omega
  have Sm:=hC.aD.sl.base;have Yw:=Rs.words.sl.base;have g2:=hC.aD.sl.jL px (j:=2) (show (bf (M.c.ab[M.k]'(by omega)))[2]?=some (Value.int .i64 (an:Int)) by rw [hy,<- MK];rfl);have ML:an<M.ws.length:=by omega
  have WS:an<X.n:=by omega
  have gW:=Rs.words.sl.one WS (u := .int .i64 M.ws[an]) rfl;have hw:=Ext.refl w1;repeat' (first|refine Wz ?_|refine Wl (Rs.row.sl.jL cQ (j:=4) (u := .slice cs'[i].ab.A cs'[i].ab.n cs'[i].ab.c) rfl) ?_|refine Wl g2 ?_|refine Wl gW ?_)
  all_goals try omega
  refine SW.gM M.k 2 ⟨y.At,y.aj,M.ws[an]⟩ hC.aD rfl rfl rfl px (by decide) rfl (by simp only [hy];rfl) fun w8 Sn Rj => ?_
  have g8:=Sn.sl.jL px (j:=1) (show (bf ((M.c.ab.set M.k ⟨y.At,y.aj,M.ws[an]⟩)[M.k]'(by rw [adz];exact iw)))[1]?=some (Value.int .i64 y.aj) by rw [aeJ];rfl);repeat' (first|refine Wz ?_|refine Wl g8 ?_)
  refine SW.gM M.k 1 ⟨y.At,y.aj-1,M.ws[an]⟩ Sn rfl rfl rfl px (by decide) rfl (by simp only [List.getElem_set_self];rfl) fun w9 So UW => ?_
  have AK:=bQ Rj UW (.inl rfl);rw [aeu] at So;have Rt:=hC.aD.gr AK;have p7:=Rs.OV Bl hi So AK;have hx9:=aF lf AK (ac3 _) hC.aD.ba;have aW:=aW.aN Rt rfl;refine Wz ?_;refine ae.dj rfl rfl rfl ⟨_,rfl,_,xL,hx9,fun j x hj h=>(ue j x hj h).aN Rt rfl,fun j x hj h=>(F2 j x hj h).aN Rt rfl,.inr ⟨M,rfl,by rw [WR,MK],X,H,cs',aW,?_⟩⟩
  have Rp:dH M.c cpu M.k (M.ws.getD (ig M.c M.k).cf.toNat 0)=⟨M.c.Names,M.c.aA,M.c.bK,M.c.Order,M.c.ab.set M.k ⟨y.At,y.aj-1,M.ws[an]⟩,M.c.ao.set cpu y.At⟩:=by
   unfold dH;rw [WR,MK];simp [ML]
  rw [Rp];simp only [Bi,WR] at p7;exact ⟨p7,(hJ1.aN Rt rfl).rows rfl fun u hu=>⟨u,hu,rfl⟩⟩
set_option maxHeartbeats 4000000 in
theorem pp (r:db) (s:ah) (n:ByteArray) (cpu:Int) (w:World) (hr:AM w r s) (hf:s.cV) (NL:n.size<=140737488351232) (eY:mD w) :
 bI prog 56 [.agg (aP r).toArray,.string n,.int .i64 cpu] w fun v w' => ∃ u,pj s n cpu u ∧ ∃ q,v = .tuple #[.agg (aP q).toArray,.int .i64 u.2.1,.int .i64 u.2.2]∧iT w' w.heap.size q u.1:=by
 refine aE func56 rfl ntmps56 rfl ?_;refine CW.seq (CW.region (SW.box rfl rfl fun b3 w1 hw cg ap => ?_));refine SW.alloc rfl fun b6 w3 nL dt aq => ?_
 have cG:=hw.up dt
 have bL:b6≠b3:=by have:=ap.lt;omega
 have hz:∀ w',iT w' w.heap.size db.zero ah.zero:=fun w'=>⟨Own.fv _ _ _ _ _ _,jC.zero w' _,⟨[],fj.nil _ _⟩⟩
 (obtain ⟨hw,ap⟩:=cX nL hw ap);refine Wz ?_;refine Wk (yq r s n cpu _ (hr.ext hw) hf NL) fun v w4 ar hv => ?_
 have oy:=hw.size;(obtain ⟨hw,ap,aq⟩:=cj ar hw ap aq);rcases hv with ⟨he,rfl⟩|⟨he,q,cs,rfl,hO,hI⟩
 ·have hP:=pj.ask he;obtain ⟨e,hE⟩ : ∃ e,iO s n cpu=e:=⟨_,rfl⟩;rw [hE] at he hP;rw [hE];refine Wz ?_;refine SW.ag ap rfl rfl rfl rfl (aY .zero) fun w5 dW hg => ?_
  have aq:=aq.grown hg (by simpa using bL);have hw:=hw.own cg hg;refine Wz ?_;all_goals try omega
  refine SW.ag aq rfl rfl rfl rfl (aY .zero) fun w6 cS hg => ?_
  have hw:=hw.own cG hg;refine Wz ?_;exact ae.e8 rfl rfl rfl rfl cS rfl ⟨_,rfl,hw,_,hP,.zero,rfl,hz _⟩
 ·have hO:=hO.low oy;have hI:=hI.low oy;obtain ⟨hq,ht,UP,By⟩:=mo he;obtain ⟨i,hi,_,_,rG⟩:=j1 ht;have hM:=iM.1 hq;have hm:=hM.most;obtain ⟨c,rfl⟩:=ada UP;have JS:=(hM.each i hi).may.aZ;have pW:c<s.aa[i].ao.length:=by omega
  have hB:=qQ.of hM hi;have yd:=sX hB;rw [rG];refine Wz ?_;refine SW.ag ap rfl rfl rfl rfl (aY q) fun w5 dW hg => ?_
  have hG:=ap.gr hg;have aq:=aq.grown hg (by simpa using bL);have hw:=hw.own cg hg;(obtain ⟨hO,hI⟩:=cX hG hO hI);have ap:=dW;clear dW hG hg;refine Wz ?_;refine SW.dT rfl rfl (IC (fun _=>False) w _ b3 q s cs i c hf hi hB (eY.ext hw) hw ap cg hO hI.sj (fun _ h=>h.elim) pW (by omega)) fun v w6 hv => ?_
  obtain ⟨m,xL,hx6,ue,_,hv⟩:=hv;have hP:=pj.DS he rG hi (by simpa using xL);have aq:=ue _ _ bL aq;clear hw;have hw:=hx6;rcases hv with ⟨hn,gV,rfl⟩|⟨M,rfl,rfl,X,H,cs',hb,hS,_⟩
  ·obtain ⟨m1,e⟩:=m;simp only at hn gV hP;subst hn;simp only [lR] at hP;refine Wz ?_;all_goals try omega
   refine SW.ag aq rfl rfl rfl rfl (aY .zero) fun w7 cS hg => ?_
   have hw:=hw.own cG hg;refine Wz ?_;exact ae.e8 rfl rfl rfl rfl cS rfl ⟨_,rfl,hw,_,hP,.zero,rfl,hz _⟩
  ·simp only [lR] at hP;refine Wz ?_;refine SW.ag aq rfl rfl rfl rfl (aY ⟨X,H,q.aa⟩) fun w7 cS hg => ?_
   have hG:=aq.gr hg;have hw:=hw.own cG hg;have hS:=hS.aN hG rfl;refine Wz ?_;exact ae.e8 rfl rfl rfl rfl cS rfl ⟨_,rfl,hw,_,hP,_,rfl,by simpa using hS.xH⟩
section
variable {wb w w':World} {k:HK} {p:HP} {s:ak×ak} {L:List aR} {t:TypeId} {b:Nat}
end
section
variable {P:Program} {L:Env} {w:World} {d:Option Nat} {T:TypeId} {pos:String} {af:Array Edge} {g:Option (Nat×Bool)}
end
variable {n:ByteArray} {cpu:Int}
theorem pj.small {u:ah×Int×Int} (x:pj s n cpu u) (hf:s.cV) : u.1.small:=by
 cases x with
 | ask=>exact ah.kK
 | DS h e hi hm =>
   have:=sX (.of (iM.1 (mo h).1) hi)
   exact xf hi hm hf (by omega)
variable {j:Nat}
def Bm (n:Int) : Int:=if n<=16 then 0 else if n<=32 then 1 else if n<=64 then 2 else if n<=128 then 3 else 4
inductive fc (s:ah) (cpu n:Int) : ah×Int×Int->Prop where
 | bad (h:fQ s=false) : fc s cpu n (.zero,0,8)
 | range (h:fQ s=true) (hn:n<1) : fc s cpu n (.zero,0,1)
 | size (h:fQ s=true) (hn : 256<n) : fc s cpu n (.zero,0,9)
 | obj {u:ah×Int×Int} (h:fQ s=true) (hn : 1<=n∧n<=32) (ho:pj s (ji n) cpu u) : fc s cpu n u
 | fault {u:Heap×Int×Int} (h:fQ s=true) (hn : 32<n∧n<=256) (ha:cM s.Heap cpu (Bm n) 0 u) (he:u.2.2≠0) : fc s cpu n (.zero,0,u.2.2)
 | bC {u:Heap×Int×Int} (h:fQ s=true) (hn : 32<n∧n<=256) (ha:cM s.Heap cpu (Bm n) 0 u) (he:u.2.2=0) : fc s cpu n (qT s u.1,16*u.2.1,0)
theorem fc.dm {n:Int} {u v:ah×Int×Int} (x:fc s cpu n u) (y:fc s cpu n v) : u=v:=by
 cases x with
 | bad h=>cases y with
   | bad=>rfl
   | range h'|size h'|obj h'|fault h'|bC h'=>rw [h] at h';cases h'
 | range h hn=>cases y with
   | bad h'=>rw [h] at h';cases h'
   | range=>rfl
   | size _ kb|obj _ kb|fault _ kb|bC _ kb=>omega
 | size h hn=>cases y with
   | bad h'=>rw [h] at h';cases h'
   | size=>rfl
   | range _ kb|obj _ kb|fault _ kb|bC _ kb=>omega
 | obj h hn ho=>cases y with
   | bad h'=>rw [h] at h';cases h'
   | obj _ _ nK=>exact ho.dm nK
   | range _ kb|size _ kb|fault _ kb|bC _ kb=>omega
 | fault h hn ha he=>cases y with
   | bad h'=>rw [h] at h';cases h'
   | fault _ _ mm=>rw [ha.dm mm]
   | bC _ _ mm gV=>rw [ha.dm mm] at he;exact absurd gV he
   | range _ kb|size _ kb|obj _ kb=>omega
 | bC h hn ha he=>cases y with
   | bad h'=>rw [h] at h';cases h'
   | bC _ _ mm=>rw [ha.dm mm]
   | fault _ _ mm gV=>rw [ha.dm mm] at he;exact absurd he gV
   | range _ kb|size _ kb|obj _ kb=>omega
theorem MM {n:Int} (hj:j<6) (h1:∀ m,m<j->kP m<n) (h2:n<=kP j) : ji n=gx (kP j)∧n<=32:=by
 have a0:=h1 0;have a1:=h1 1;have a2:=h1 2;have a3:=h1 3;have a4:=h1 4;unfold kP at *;rcases (show j=0∨j=1∨j=2∨j=3∨j=4∨j=5 by omega) with rfl|rfl|rfl|rfl|rfl|rfl
 all_goals
  simp only [Nat.reduceLT,forall_const,Int.reducePow,false_implies] at a0 a1 a2 a3 a4 h2;refine ⟨?_,by omega⟩;unfold ji;repeat' split
  all_goals first|(exfalso;omega)|rfl
theorem J8 {n:Int} (h1:∀ m,m<6->kP m<n) : ji n=⟨#[]⟩∧32<n:=by
 have a5:=h1 5 (by omega);unfold kP at a5;simp only [Int.reducePow] at a5;refine ⟨?_,a5⟩;unfold ji;repeat' split
 all_goals first|(exfalso;omega)|rfl
theorem Ru {n:Int} (hj:j<5) (h1:∀ m:Nat,m<j->16*pw (m:Int)<n) (h2:n<=16*pw (j:Int)) : Bm n=(j:Int)∧n<=256:=by
 have a0:=h1 0;have a1:=h1 1;have a2:=h1 2;have a3:=h1 3;have p0:pw ((0:Nat) : Int)=1:=by decide
 have p1:pw ((1:Nat) : Int)=2:=by decide
 have p2:pw ((2:Nat) : Int)=4:=by decide
 have p3:pw ((3:Nat) : Int)=8:=by decide
 have p4:pw ((4:Nat) : Int)=16:=by decide
 rw [p0] at a0;rw [p1] at a1;rw [p2] at a2;rw [p3] at a3;rcases (show j=0∨j=1∨j=2∨j=3∨j=4 by omega) with rfl|rfl|rfl|rfl|rfl
 all_goals
  first|rw [p0] at h2|rw [p1] at h2|rw [p2] at h2|rw [p3] at h2|rw [p4] at h2
  refine ⟨?_,by omega⟩;unfold Bm;repeat' split
  all_goals first|(exfalso;omega)|rfl
theorem OW {n:Int} (h1:∀ m:Nat,m<5->16*pw (m:Int)<n) : 256<n:=by
 have:=h1 4 (by omega)
 rw [show pw ((4:Nat) : Int)=16 by decide] at this;omega
theorem Fa (n:Int) : (ji n).size<=140737488351232:=by
 unfold ji;split
 ·decide
 split
 ·decide
 split
 ·decide
 split
 ·decide
 split
 ·decide
 split
 ·decide
 ·decide
structure cJ where
 Kind:Int
 fV:Int
 N:Int
 M:Int
 At:Int
 Flags:Int
 Name:ByteArray
variable {u:ah×Int}
def OX (c:aQ) (k:Nat) : aQ:=⟨c.Names.eraseIdx k,c.aA,c.bK,c.Order,c.ab,c.ao⟩
def PX (c:aQ) : Bool:=c.ab.any fun x=>decide (x.aj<c.bK)
inductive Fb (s:ah) (n:ByteArray) : ah×Int->Prop where
 | ask (h:iO s n 0≠0) : Fb s n (.zero,iO s n 0)
 | name {i:Nat} (h:iO s n 0=0) (e:idxOf (dO n) s.aa=i) (hi:i<s.aa.length) (hl : 1<s.aa[i].Names.length) : Fb s n (bH s i (s.Heap,OX s.aa[i] (mH s.aa[i].Names n)),0)
 | busy {i:Nat} (h:iO s n 0=0) (e:idxOf (dO n) s.aa=i) (hi:i<s.aa.length) (hl : ¬ 1<s.aa[i].Names.length) (hb:PX s.aa[i]=true) : Fb s n (.zero,7)
 | cache {i:Nat} (h:iO s n 0=0) (e:idxOf (dO n) s.aa=i) (hi:i<s.aa.length) (hl : ¬ 1<s.aa[i].Names.length) (hb:PX s.aa[i]=false) : Fb s n (⟨s.Words,(dM s.aa[i].ab.length (s.Heap,jI s.aa[i])).1,s.aa.eraseIdx i⟩,0)
theorem Fb.dm {v:ah×Int} (x:Fb s n u) (y:Fb s n v) : u=v:=by
 cases x with
 | ask h=>cases y with
   | ask=>rfl
   | name h'|busy h'|cache h'=>exact absurd h' h
 | @name i h e hi hl=>cases y with
   | ask h'=>exact absurd h h'
   | @name j h' e' hj AG =>
     obtain rfl:i=j:=by omega
     rfl
   | @busy j h' e' hj AG =>
     obtain rfl:i=j:=by omega
     exact absurd hl AG
   | @cache j h' e' hj AG =>
     obtain rfl:i=j:=by omega
     exact absurd hl AG
 | @busy i h e hi hl hb=>cases y with
   | ask h'=>exact absurd h h'
   | @name j h' e' hj AG =>
     obtain rfl:i=j:=by omega
     exact absurd AG hl
   | busy=>rfl
   | @cache j h' e' hj AG iq =>
     obtain rfl:i=j:=by omega
     rw [hb] at iq;cases iq
 | @cache i h e hi hl hb=>cases y with
   | ask h'=>exact absurd h h'
   | @name j h' e' hj AG =>
     obtain rfl:i=j:=by omega
     exact absurd AG hl
   | @busy j h' e' hj AG iq =>
     obtain rfl:i=j:=by omega
     rw [hb] at iq;cases iq
   | @cache j h' e' hj AG iq =>
     obtain rfl:i=j:=by omega
     rfl
set_option maxHeartbeats 4000000 in
theorem zY (A:Option Addr) (n c lo:Nat) (l:List Slab) (w:World) (hO:Own w lo 111 3 bf A n c l) (i:Nat) (hi:i<n) (hn:n<=1000000000000000000) (dz:lo<=w.heap.size) :
 iI prog 146 [.slice A n c,.int .i64 (i:Int),.int .i64 ((i+1:Nat) : Int)] w fun v w'=>v = .slice A (n-1) c∧Own w' lo 111 3 bf A (n-1) c (l.eraseIdx i)∧w.grownBy w' (aI A c):=by
 refine dh func146 rfl ntmps146 rfl ?_;have hle:=hO.le;have mv:=hO.len;have hA:=hO.sl.base;have Gb:w.grownBy w (aI A c):=World.grownBy.refl _ _
 repeat' (first|refine Wz ?_|(refine SW.st (sN (i:=i) (j:=i+1) (k:=n) rfl rfl rfl rfl (by omega) (by omega) (by omega)) rfl ?_))
 all_goals try omega
 have hw:=Ext.refl w;have e0:i+(n-(i+1))=n-1:=by omega
 have el:l.take i++l.drop (i+1)=l.eraseIdx i:=by rw [adB]
 refine CW.any 6 mixed (dg (by kernel_rfl)) rfl fun w1 ai aJ => ?_
 obtain ⟨hw,hO⟩:=cX ai hw hO;clear ai;refine Wa ?_;refine Wu 2 aJ rfl (dk (k:=i) rfl rfl (by omega)) ?_;refine Wa ?_;refine Wu 5 aJ rfl (bc (k:=i+1) rfl rfl (by omega) (by omega)) ?_;refine SA.done (by kernel_rfl) ?_;refine SW.uN (hO.pre (i:=i) (by omega)) (hO.sl.drop (i+1) c (by omega) (by omega)) (by omega) rfl rfl rfl fun w2 bh hg => ?_
 rw [e0,el] at bh;rw [e0];have Gc:=(hw.gr (aI A c));repeat' (first|refine Wz ?_|(refine SW.st (jP (i:=n-1) (j:=n) rfl rfl rfl (by omega) (by omega)) rfl ?_))
 obtain ⟨g,rest,rfl,h1,h2,h3,h4,h5,h6⟩:=bh.opened (by omega);have oZ:((l.eraseIdx i).flatMap bf).length=(n-1)*3:=by rw [aV,bh.len]
 refine SW.clear ((n-1)*3) h2 rfl (by rw [adb,oZ];omega) (fun h0 => ?_) (by decide) fun w3 cs lJ hB qo => ?_
 ·rw [if_neg (by omega)];simp [cU]
 ·have e7:=eU ((l.eraseIdx i).flatMap bf) (rest.take ((n-(n-1))*3)) (rest.drop ((n-(n-1))*3)) cs (by rw [lJ];simp;omega) (o:=(n-1)*3) oZ.symm;rw [ac6 (List.flatMap _ _),ac4] at e7;rw [e7,ac6] at hB;have D4:=Own.closed (l:=l.eraseIdx i) bh.len hB (by rw [adb,lJ];simp;omega) h4 (by omega) h5 h1;rw [<- h6] at qo;have AK:=bQ (bQ Gc hg (.inl rfl)) qo (.inl rfl);refine Wz ?_;exact ae.bj rfl rfl ⟨_,rfl,rfl,D4,AK⟩
variable {k:Nat}
structure Sh (wb w w':World) (b:Nat) (r:db) (H:ju) (s:ah) (i:Nat) (p:Heap×aQ) (cs:List dN) : Prop where
 ext:Ext wb w'
 eG:aS w' b 44 (aP ⟨r.Words,H,r.aa⟩)
 sx:SX w' wb.heap.size ⟨r.Words,H,r.aa⟩ (bH s i p) cs
 kp:∀ j x,j≠b->aS w j 44 x->aS w' j 44 x
set_option maxHeartbeats 4000000 in
theorem xj (wb w0:World) (b:Nat) (r:db) (s:ah) (cs:List dN) (i k:Nat) (p:Heap×aQ) (cpu:Int)
 (hx:Ext wb w0) (hb:aS w0 b 44 (aP r)) (qV:wb.heap.size<=b) (hS:SX w0 wb.heap.size r (bH s i p) cs) (hi:i<s.aa.length) (hn:s.aa.length<=1000000) (hk:k<p.2.ab.length) (h1:KV p.1) (h2:EU p.2) :
 iI prog 103 [.pointer (some ⟨b,0,none⟩),.int .i64 (i:Int),.int .i64 (k:Int),.int .i64 cpu] w0 fun v w'=>v = .tuple #[] ∧ ∃ H cs',Sh wb w0 w' b r H s i ((fa p.1 cpu p.2.ab[k].At).2,eH p.2 k) cs':=by
 refine dh func103 rfl ntmps103 rfl ?_;obtain ⟨e1,e2⟩:=hS.rows;have oS:i<cs.length:=by omega
 have cQ:i<r.aa.n:=by omega
 have NK:=hS.row.sl.base;have hC:=hS.get oS hi;have q1:=hC.aD.len;have q2:=h2.small.aD;have px:k<cs[i].ab.n:=by omega
 have Sm:=hC.aD.sl.base;have kX:=h2.at_ _ (ac0 hk);obtain ⟨x,L7⟩ : ∃ x,p.2.ab[k]=x:=⟨_,rfl⟩;have gA:=hC.aD.sl.jL px (j:=0) (show (bf (p.2.ab[k]'(by omega)))[0]?=some (Value.int .i64 x.At) by rw [L7];rfl);rw [L7] at kX ⊢;have hw:=Ext.refl w0;have ue:∀ j x,j≠b->aS w0 j 44 x->aS w0 j 44 x:=fun _ _ _ h=>h
 refine Wz ?_;refine CW.gl 20 20 (fun _=>True) mixed (by kernel_rfl) fun w1 ai aJ => ?_
 obtain ⟨hw,hb,hS⟩:=cj ai hw hb hS;clear ai;refine Wf ?_;refine Wt 4 [] [] aJ rfl (aX rfl rfl ((me hb))) ?_;refine Wf ?_;refine Wt 9 [] [] aJ rfl (aT rfl (hS.row.sl.jL cQ (j:=4) (u := .slice cs[i].ab.A cs[i].ab.n cs[i].ab.c) rfl)) ?_;refine Wf ?_;refine Wt 13 [] [] aJ rfl (mu hw rfl gA) ?_;refine SF.one 14 rfl (by kernel_rfl) rfl ?_;refine Wk (ve r.Heap p.1 cpu x.At _ hS.heap.rd h1.small h1.uv kX) fun v w4 ar hv => ?_
 obtain ⟨H,rfl,hH⟩:=hv;have hH:=hH.low (ac2 hx.size hw.size);(obtain ⟨hw,hb,hS⟩:=cj ar hw hb hS);refine SW.nil (ae.sf ar ?_);refine Wf ?_;refine SF.Br 17 aJ rfl (by kernel_rfl) (by kernel_rfl) rfl (fun _=>bi rfl) rfl ?_;refine Wf ?_;refine SF.last rfl (by kernel_rfl) (by kernel_rfl) ?_;refine SW.gi 1 hb rfl rfl rfl (ady rfl) (dU H) (aP ⟨r.Words,H,r.aa⟩) rfl fun w5 aL hg => ?_
 have hG:=hb.gr hg;have hx:=(hx.trans hw).own qV hg;have WT:∀ j x,j≠b->aS w0 j 44 x->aS w5 j 44 x:=fun j x hj h=>(h.ext hw).grown hg (by simpa using hj)
 have WU:SX w5 wb.heap.size ⟨r.Words,H,r.aa⟩ (bH s i ((fa p.1 cpu x.At).2,p.2)) cs:=(hS.aN hG rfl).Q5 (hH.aN hG rfl)
 clear hw ue hS hb hC gA;have hw:=Ext.refl w5;have hC:=WU.get oS hi;repeat' (first|refine Wz ?_|refine Wl (WU.row.sl.jL cQ (j:=4) (u := .slice cs[i].ab.A cs[i].ab.n cs[i].ab.c) rfl) ?_)
 refine SW.dT rfl rfl (zY _ _ _ wb.heap.size _ _ hC.aD k px (by omega) hx.size) fun v w6 hv => ?_
 obtain ⟨rfl,hO6,tR⟩:=hv;have yh:=hC.aD.gr tR;have Yx:=WU.Dk oS hi hO6 tR;have aq:=aL.aN yh rfl;have hx:=aF hx tR (ac3 _) hC.aD.ba;have WV:∀ j x,j≠b->aS w0 j 44 x->aS w6 j 44 x:=fun j x hj h=>(WT j x hj h).aN yh rfl
 have gg:=Yx.row;refine Wz ?_;refine SW.gM i 4 ⟨cs[i].Names,cs[i].aA,cs[i].bK,cs[i].Order,⟨cs[i].ab.A,cs[i].ab.n-1,cs[i].ab.c⟩,cs[i].ao⟩ gg rfl rfl rfl cQ (by decide) rfl rfl fun w7 kv Ri => ?_
 have wz:=gg.gr Ri;have hS7:=Yx.GV kv Ri;have hx:=aF hx Ri (ac3 _) gg.ba;refine Wz ?_;exact ae.pI rfl ⟨_,rfl,rfl,H,_,hx,aq.aN wz rfl,hS7,fun j x hj h=>(WV j x hj h).aN wz rfl⟩
theorem J9 {l:List Int} (hk:k<l.length) : (List.replicate k (-1)++l.drop k).set k (-1)=List.replicate (k+1) (-1)++l.drop (k+1):=by
 rw [ae3 hk,ad2 _ _ (by simp),ad3,ae6,List.set_cons_zero,List.replicate_succ'];simp
set_option maxHeartbeats 4000000 in
theorem Hc (wb w0:World) (b:Nat) (r:db) (s:ah) (cs:List dN) (i:Nat) (hf:s.cV)
 (hx:Ext wb w0) (hb:aS w0 b 44 (aP r)) (qV:wb.heap.size<=b) (hS:SX w0 wb.heap.size r s cs) (hI:SI w0 wb.heap.size r s cs) (hi:i<s.aa.length) (hn:s.aa.length<=1000000) :
 iI prog 104 [.pointer (some ⟨b,0,none⟩),.int .i64 (i:Int)] w0 fun v w'=>v = .tuple #[] ∧ ∃ H cs',Sh wb w0 w' b r H s i (dM s.aa[i].ab.length (s.Heap,jI s.aa[i])) cs':=by
 refine dh func104 rfl ntmps104 rfl ?_;have h1:=hf.lP;have h2:=hf.Sg hi;have e0:=n5 hi;obtain ⟨c,hc⟩ : ∃ c,s.aa[i]=c:=⟨_,rfl⟩;rw [hc] at h2 e0 ⊢;rw [<- e0] at hS hI;obtain ⟨e1,e2⟩:=hS.rows;have oS:i<cs.length:=by omega
 have cQ:i<r.aa.n:=by omega
 have NK:=hS.row.sl.base;have hC:=hS.get oS hi;have q1:=hC.aZ.len;have q2:=h2.small.aZ;have q3:=hC.aD.len;have q4:=h2.small.aD;have TX:=hC.aZ.sl.base;obtain ⟨u,hu⟩ : ∃ u,cs[i]=u:=⟨_,rfl⟩;rw [hu] at hC q1 q3 TX;have hw:=Ext.refl w0;simp only at hC q1 q3;have gU:=hS.row.sl.jL cQ (j:=5) (show (fK cs[i])[5]?=some (Value.slice u.ao.A u.ao.n u.ao.c) by rw [hu];rfl);repeat' (first|refine Wz ?_|refine Wl gU ?_)
 clear gU;obtain ⟨K,hK⟩ : ∃ K:Env->World->Prop,K=fun L' w'=>il L' [(0,.pointer (some ⟨b,0,none⟩)),(1,.int .i64 (i:Int)),(4,.pointer (some ((r.aa.A.getD default).add (i*6))))]∧Ext wb w'∧aS w' b 44 (aP r)∧SX w' wb.heap.size r (bH s i (s.Heap,jI c)) cs∧(∀ j x,aS w0 j 44 x->aS w' j 44 x):=⟨_,rfl⟩
 refine CW.I4 K ?_ ?_
 ·refine CW.loop (fun k:Nat=>[(0,.pointer (some ⟨b,0,none⟩)),(1,.int .i64 (i:Int)),(4,.pointer (some ((r.aa.A.getD default).add (i*6)))),(17,.int .i64 (u.ao.n:Int)),(18,.int .i64 (k:Int))])
   (fun k w'=>k<=u.ao.n∧Ext wb w'∧aS w' b 44 (aP r)∧SX w' wb.heap.size r (bH s i (s.Heap,⟨c.Names,c.aA,c.bK,c.Order,c.ab,List.replicate k (-1)++c.ao.drop k⟩)) cs∧SI w' wb.heap.size r (bH s i (s.Heap,⟨c.Names,c.aA,c.bK,c.Order,c.ab,List.replicate k (-1)++c.ao.drop k⟩)) cs∧(∀ j x,aS w0 j 44 x->aS w' j 44 x)) (fun k=>u.ao.n-k) 0
   ⟨rfl,rfl,rfl,rfl,rfl,trivial⟩ ⟨by omega,hx,hb,by simpa using hS,by simpa using hI,fun _ _ h=>h⟩ ?_
  clear hw hx hb hS hI hC TX;rintro k w1 ⟨hk,hx,hb,hS,hI,ue⟩
  have hw:=Ext.refl w1;have hC:=hS.get oS hi;rw [hu] at hC;have TX:=hC.aZ.sl.base;by_cases gh:k<u.ao.n
  ·have gU:=hS.row.sl.jL cQ (j:=5) (show (fK cs[i])[5]?=some (Value.slice u.ao.A u.ao.n u.ao.c) by rw [hu];rfl);repeat' (first|refine Wz ?_|refine Wl gU ?_)
   refine SW.qp k hC.aZ rfl rfl gh fun w2 hO hg => ?_
   have hG:=hC.aZ.gr hg;simp only at hO;rw [J9 (by omega)] at hO;have Yy:=hS.Mg hI oS hi (by rw [hu];exact hO) (by rw [hu];exact hg);have hx:=aF hx hg (ac3 _) hC.aZ.ba;have hb:=hb.aN hG rfl;refine Wz ?_;exact ae.again (k+1) ⟨rfl,rfl,rfl,rfl,rfl,trivial⟩ (by omega) ⟨by omega,hx,hb,Yy.1,Yy.2,fun j x h=>(ue j x h).aN hG rfl⟩
  ·obtain rfl:k=u.ao.n:=by omega
   refine Wz ?_;refine ae.lW ?_;rw [hK];refine ⟨⟨rfl,rfl,rfl,trivial⟩,hx,hb,?_,ue⟩
   have e3:List.replicate u.ao.n (-1)++c.ao.drop u.ao.n=List.replicate c.ao.length (-1):=by
    rw [q1,List.drop_of_length_le (by omega),aeq]
   rw [e3] at hS;exact hS
 ·clear hw hx hb hS hI hC TX;subst hK;rintro L' w1 ⟨jw,hx,hb,hS,ue⟩
  refine ae.sub jw ?_;have hC:=hS.get oS hi;have hw:=Ext.refl w1;have q5:=hC.aD.len;have q6:(jI c).ab=c.ab:=rfl
  rw [q6] at q5;repeat' (first|refine Wz ?_|refine Wl (hS.row.sl.jL cQ (j:=4) (u := .slice cs[i].ab.A cs[i].ab.n cs[i].ab.c) rfl) ?_)
  have h3:=h2.idle
  refine CW.loop (fun t:Nat×ju×List dN×Heap×aQ=>[(0,.pointer (some ⟨b,0,none⟩)),(1,.int .i64 (i:Int)),(4,.pointer (some ((r.aa.A.getD default).add (i*6)))),(6,.int .i64 ((t.1:Int)-1))])
   (fun t w'=>t.1<=t.2.2.2.2.ab.length∧Ext wb w'∧aS w' b 44 (aP ⟨r.Words,t.2.1,r.aa⟩)∧SX w' wb.heap.size ⟨r.Words,t.2.1,r.aa⟩ (bH s i t.2.2.2) t.2.2.1∧KV t.2.2.2.1∧EU t.2.2.2.2∧dM c.ab.length (s.Heap,jI c)=dM t.1 t.2.2.2∧(∀ j x,j≠b->aS w0 j 44 x->aS w' j 44 x)) (fun t=>t.1) (c.ab.length,r.Heap,cs,s.Heap,jI c)
   ?_ ⟨ac3 _,hx,hb,hS,h1,h3,rfl,fun j x _ h=>ue j x h⟩ ?_
  ·exact ⟨rfl,rfl,rfl,congrArg (fun z=>some (Value.int .i64 z)) (show ((cs[i].ab.n:Nat) : Int)-1=((c.ab.length:Nat) : Int)-1 by omega),trivial⟩
  clear hw hx hb hS hC ue jw h1 h2 h3 q5;rintro ⟨k,H,cs',h,c'⟩ w2 ⟨hk,hx,hb,hS,h1,h2,yQ,ue⟩
  simp only at hk hb hS h1 h2 yQ ⊢;have hw:=Ext.refl w2;obtain ⟨e3,e4⟩:=hS.rows;have Bl:i<cs'.length:=by omega
  have hC:=hS.get Bl hi;have q7:=hC.aD.len;have q8:=h2.small.aD;have q9:=hC.per;have Sm:=hC.aD.sl.base;have NK:=hS.row.sl.base;simp only at hC q7 q8 q9 NK;cases k with
  | zero =>
    refine Wz ?_;exact ae.pI rfl ⟨_,rfl,rfl,H,cs',hx,hb,by rw [yQ];exact hS,ue⟩
  | succ k =>
    have ek:((k+1:Nat) : Int)-1=(k:Int):=by omega
    rw [ek];have px:k<c'.ab.length:=by omega
    have gh:k<cs'[i].ab.n:=by omega
    obtain ⟨y,hy⟩ : ∃ y,c'.ab[k]=y:=⟨_,rfl⟩;have gF:=hC.aD.sl.jL gh (j:=1) (show (bf (c'.ab[k]'(by omega)))[1]?=some (Value.int .i64 y.aj) by rw [hy];rfl);by_cases PY:y.aj=c'.bK
    ·repeat' (first|refine Wz ?_|((apply CW.bF mixed;(· kernel_rfl);rotate_left;intro w1 ai;obtain ⟨hw,hb,hS⟩:=cj ai hw hb hS;clear ai;rotate_right))|refine Wl (hS.row.sl.jL cQ (j:=4) (u := .slice cs'[i].ab.A cs'[i].ab.n cs'[i].ab.c) rfl) ?_|refine Wl (hS.row.sl.jL cQ (j:=2) (u := .int .i64 cs'[i].bK) rfl) ?_|refine Wl gF ?_|exact SW.eI rfl)
     all_goals try omega
     refine SW.dT rfl rfl (xj wb _ b ⟨r.Words,H,r.aa⟩ s cs' i k (h,c') 0 (hx.trans hw) hb qV hS hi hn px h1 h2) fun v w3 hv => ?_
     obtain ⟨rfl,H',UX,hh⟩:=hv;rw [hy] at hh;refine Wz ?_;refine ae.again (k,H',UX,(fa h 0 y.At).2,eH c' k) ⟨rfl,rfl,rfl,rfl,trivial⟩ (by simp only;omega) ⟨?_,hh.ext,hh.eG,hh.sx,h1.free _ _,h2.cut _,?_,fun j x hj hB=>hh.kp j x hj ((ue j x hj hB).ext hw)⟩
     ·simp only [eH];rw [aeh px];omega
     ·rw [yQ,sq px (by rw [hy];exact PY),hy]
    ·repeat' (first|refine Wz ?_|((apply CW.bF mixed;(· kernel_rfl);rotate_left;intro w1 ai;obtain ⟨hw,hb,hS⟩:=cj ai hw hb hS;clear ai;rotate_right))|refine Wl (hS.row.sl.jL cQ (j:=4) (u := .slice cs'[i].ab.A cs'[i].ab.n cs'[i].ab.c) rfl) ?_|refine Wl (hS.row.sl.jL cQ (j:=2) (u := .int .i64 cs'[i].bK) rfl) ?_|refine Wl gF ?_|exact SW.eI rfl)
     all_goals try omega
     refine ae.again (k,H,cs',h,c') ⟨rfl,rfl,rfl,congrArg (fun z=>some (Value.int .i64 z)) (by omega),trivial⟩ (by simp only;omega) ⟨by simp only;omega,hx.trans hw,hb,hS,h1,h2,?_,fun j x hj hB=>(ue j x hj hB).ext hw⟩;rw [yQ,qL px (by rw [hy];exact PY)]
noncomputable def iF (s:ah) (n:ByteArray) : ah×Int:=if iO s n 0=0 then (if h:(idxOf (dO n) s.aa).toNat<s.aa.length then (bH s (idxOf (dO n) s.aa).toNat (dM s.aa[(idxOf (dO n) s.aa).toNat].ab.length (s.Heap,jI s.aa[(idxOf (dO n) s.aa).toNat])),0) else (.zero,0)) else (.zero,iO s n 0)
theorem zZ (h:iO s n 0=0) (hi:i<s.aa.length) (e:idxOf (dO n) s.aa=(i:Int)) : iF s n=(bH s i (dM s.aa[i].ab.length (s.Heap,jI s.aa[i])),0):=by
 have e1:(idxOf (dO n) s.aa).toNat=i:=by omega
 unfold iF;rw [if_pos h];subst e1;rw [dif_pos hi]
theorem z6 (h:iO s n 0≠0) : iF s n=(.zero,iO s n 0):=by unfold iF;rw [if_neg h]
set_option maxHeartbeats 2000000 in
theorem z7 (r:db) (s:ah) (n:ByteArray) (w:World) (hr:AM w r s) (hf:s.cV) (NL:n.size<=140737488351232) :
 bI prog 58 [.agg (aP r).toArray,.string n] w fun v w'=>iN w.heap.size (iF s n) v w':=by
 refine aE func58 rfl ntmps58 rfl ?_;refine CW.seq (CW.region (SW.box rfl rfl fun b2 w1 hw fk au => ?_));refine SW.alloc rfl fun b4 w3 nL fJ aH => ?_
 have eu:=hw.up fJ
 have bL:b4≠b2:=by have:=au.lt;omega
 (obtain ⟨hw,au⟩:=cX nL hw au);refine Wz ?_;refine Wk (yq r s n 0 _ (hr.ext hw) hf NL) fun v w4 ar hv => ?_
 have oy:=hw.size;(obtain ⟨hw,au,aH⟩:=cj ar hw au aH);rcases hv with ⟨he,rfl⟩|⟨he,q,cs,rfl,hO,hI⟩
 ·obtain ⟨e,hE⟩ : ∃ e,iO s n 0=e:=⟨_,rfl⟩;have hV:=z6 he;rw [hE] at he hV;rw [hE];refine Wz ?_;refine SW.ag au rfl rfl rfl rfl (aY .zero) fun w5 oe hg => ?_
  have aH:=aH.grown hg (by simpa using bL);have hw:=hw.own fk hg;refine Wz ?_;all_goals try omega
  refine SW.ag aH rfl rfl rfl rfl (aY .zero) fun w6 cS hg => ?_
  have hw:=hw.own eu hg;refine Wz ?_;exact ae.dw rfl rfl rfl cS rfl ⟨_,rfl,hw,by rw [hV];exact iN.zero e _ _⟩
 ·have hO:=hO.low oy;have hI:=hI.low oy;obtain ⟨hq,ht,_⟩:=mo he;obtain ⟨i,hi,_,_,rG⟩:=j1 ht;have hV:=zZ he hi rG;have hm:=(iM.1 hq).most;rw [rG];refine Wz ?_;refine SW.ag au rfl rfl rfl rfl (aY q) fun w5 oe hg => ?_
  have hG:=au.gr hg;have aH:=aH.grown hg (by simpa using bL);have hw:=hw.own fk hg;(obtain ⟨hO,hI⟩:=cX hG hO hI);have au:=oe;clear oe hG hg;refine Wz ?_;refine SW.dT rfl rfl (Hc w _ b2 q s cs i hf hw au fk hO hI hi (by omega)) fun v w6 hv => ?_
  obtain ⟨rfl,H,cs',hh⟩:=hv;have hw:=hh.ext;have aH:=hh.kp _ _ bL aH;have hb:=hh.eG;have WW:=hh.sx;refine Wz ?_;refine SW.ag aH rfl rfl rfl rfl (aY ⟨q.Words,H,q.aa⟩) fun w7 cS hg => ?_
  have hG:=aH.gr hg;have hw:=hw.own eu hg;have WW:=WW.aN hG rfl;refine Wz ?_;exact ae.dw rfl rfl rfl cS rfl ⟨_,rfl,hw,by rw [hV];exact ⟨_,rfl,WW.xH⟩⟩
def sw (l:List Int) (t f k:Nat) : List Int:=l.take t++(l.drop f).take k++l.drop (t+k)
theorem wA {l:List Int} {t f:Nat} (h1:t+k<=l.length) (h2:f+k<=l.length) : (sw l t f k).length=l.length:=by simp [sw];omega
theorem Ka {l:List Int} {t f:Nat} (h1:t+k<=l.length) (h2:f+k<=l.length) (j:Nat) : (sw l t f k)[j]?=if j<t then l[j]? else if j<t+k then l[f+(j-t)]? else l[j]?:=by
 have e1:(l.take t).length=t:=by simp;omega
 have e2:((l.drop f).take k).length=k:=by simp;omega
 unfold sw;by_cases ha:j<t
 ·rw [if_pos ha,adF (by rw [adb];omega),adF (by omega),aeA ha]
 ·rw [if_neg ha];by_cases hb:j<t+k
  ·rw [if_pos hb,adF (by rw [adb];omega),adL (by omega),e1,aeA (by omega),aez]
  ·rw [if_neg hb,adL (by rw [adb];omega),adb,e1,e2,aez];congr 1
   omega
def yr (lo:Nat) (n:Nat) (l:List Int) (x y z:Int) (v:Value) (w:World) : Prop :=
 if 0<=x∧0<=y∧0<=z∧x+z<=n∧y+z<=n then ∃ A c,v = .tuple #[.slice A n c,.int .i64 0]∧Own w lo 3 1 bw A n c (sw l x.toNat y.toNat z.toNat) else v = .tuple #[.slice none 0 0,.int .i64 1]
set_option maxHeartbeats 4000000 in
theorem MN (A:Option Addr) (n c:Nat) (l:List Int) (x y z:Int) (w:World) (hl:Sl w 1 bw A n l) (hn:n*8<=140737488355328) (hc:n<=c) :
 bI prog 73 [.slice A n c,.int .i64 x,.int .i64 y,.int .i64 z] w (yr w.heap.size n l x y z):=by
 refine aE func73 rfl ntmps73 rfl ?_;have hw:=Ext.refl w;have kb:n<=2305843009213693952:=by omega
 by_cases hx : 0<=x∧0<=y∧0<=z∧x+z<=n∧y+z<=n
 ·obtain ⟨h1,h2,h3,h4,h5⟩:=id hx;obtain ⟨t,rfl⟩:=ada h1;obtain ⟨f,rfl⟩:=ada h2;obtain ⟨k,rfl⟩:=ada h3;have mv:=hl.len;repeat' (first|refine Wz ?_|(refine Wk (qt _ _ _ _ _ _ kb) ?_;intro v w1 ai hv;subst hv;have hw:=hw.trans ai;clear ai))
  all_goals try omega
  refine Wk (dB _ _ _ _ _ (hl.ext hw) hn) fun v w1 ai hv => ?_
  obtain ⟨A1,c1,rfl,hO⟩:=hv;have hO:=hO.low hw.size;have hw:=hw.trans ai;refine Wz ?_;have hle:=hO.le;have oO:=hO.sl.base;have hA:=hl.base;obtain ⟨K,hK⟩ : ∃ K:Env->World->Prop,K=fun L' w'=>il L' [(10,.slice A1 n c1)]∧Ext w w'∧Own w' w.heap.size 3 1 bw A1 n c1 (sw l t f k):=⟨_,rfl⟩
  refine CW.Qt K ?_ ?_
  ·by_cases F4:c1=0
   ·have h0:n=0:=by omega
    subst F4 h0;obtain rfl:t=0:=by omega
    obtain rfl:f=0:=by omega
    obtain rfl:k=0:=by omega
    have Sf:l=[]:=adl mv
    subst Sf;refine CW.any 12 mixed (dg (by kernel_rfl)) rfl fun w1 ai aJ => ?_
    obtain ⟨hw,hO⟩:=cX ai hw hO;clear ai;refine Wa ?_;refine Wu 5 aJ rfl (jP (i:=0) (j:=0) rfl rfl rfl (by omega) (by omega)) ?_;refine Wa ?_;refine Wu 11 aJ rfl (jP (i:=0) (j:=0) rfl rfl rfl (by omega) (by omega)) ?_;refine SA.done (by kernel_rfl) ?_;refine SW.SL rfl rfl rfl (by omega) ?_;refine Wz ?_;exact ae.lW (K:=K) (by rw [hK];exact ⟨⟨rfl,trivial⟩,hw,by simpa [sw] using hO⟩)
   ·obtain ⟨g,rest,rfl,Pn,dA,qo,xv,DV,tR⟩:=hO.opened (by omega);have h9:=(hl.drop f c (by omega) (by omega)).pre (i:=k) (by omega)
    have e1:l.flatMap bw=(l.take t).flatMap bw++((l.drop t).take k).flatMap bw++(l.drop (t+k)).flatMap bw:=by
     rw [<- adi,<- adi];congr 1
     rw [ac6,<- ad6,ac4,ac4]
    have e2:∀ q:List Int,(q.flatMap bw).length=q.length:=fun q=>by rw [aV (sz:=1)];omega
    refine CW.any 12 mixed (dg (by kernel_rfl)) rfl fun w1 ai aJ => ?_
    obtain ⟨hw,hO,dA⟩:=cj ai hw hO dA;clear ai;refine Wa ?_;refine Wu 5 aJ rfl (jP (i:=t) (j:=t+k) rfl rfl rfl (by omega) (by omega)) ?_;refine Wa ?_;refine Wu 11 aJ rfl (jP (i:=f) (j:=f+k) rfl rfl rfl (by omega) (by omega)) ?_;refine SA.done (by kernel_rfl) ?_;refine SW.copy (k:=k) t (((l.drop f).take k).flatMap bw) dA rfl rfl rfl (by omega) (by rw [e2];simp;omega) (by rw [adb,e2,e2];simp;omega) (fun h0=>⟨?_,(if c=f then A else A.map (·.add (f*1))).getD default,?_,fun j v hv => ?_⟩) (fun v hv => ?_) fun w6 T0 hg => ?_
    ·rw [if_neg (by omega)];simp [cU]
    ·have:=h9.base h0
     obtain ⟨a,ha⟩:=adw.1 this;rw [ha];rfl
    ·exact dr (by omega) (h9.ext hw) j v hv
    ·obtain ⟨u,_,hu⟩:=adm.1 hv;exact im.one (enc:=bw) u v hu
    ·rw [<- tR] at hg;have hw:=aF hw hg (ac3 _) hO.ba;rw [e1,ac6,eU _ _ _ _ (by rw [e2,e2];simp;omega) (by rw [e2];simp;omega),<- ac6,<- adi,<- adi] at T0;have hO:=Own.closed (l:=sw l t f k) (by rw [wA (by omega) (by omega)];exact mv) T0 qo xv (by omega) DV Pn;refine Wz ?_;exact ae.lW (K:=K) (by rw [hK];exact ⟨⟨rfl,trivial⟩,hw,hO⟩)
  ·clear hw hO;subst hK;rintro L' w' ⟨jw,hw,hO⟩
   refine ae.sub jw ?_;refine Wz ?_;refine ae.dj rfl rfl rfl ⟨_,rfl,hw,?_⟩;unfold yr;rw [if_pos hx];exact ⟨A1,c1,rfl,hO⟩
 ·repeat' (first|refine Wz ?_|refine SW.CF rfl rfl rfl (fun h => ?_) (fun h => ?_)|(refine Wk (qt _ _ _ _ _ _ kb) ?_;intro v w1 ai hv;subst hv;have hw:=hw.trans ai;clear ai))
  all_goals try omega
  all_goals
   refine ae.dj rfl rfl rfl ⟨_,rfl,hw,?_⟩;unfold yr;rw [if_neg hx]
variable {a:Int}
def Bn (l:List Int) (t f k:Int) : List Int:=if 0<=t∧0<=f∧0<=k∧t+k<=l.length∧f+k<=l.length then sw l t.toNat f.toNat k.toNat else []
def Fc (s:ah) (t f k:Int) : ah:=⟨Bn s.Words t f k,s.Heap,s.aa⟩
inductive nu (s:ah) (cpu a n:Int) : ah×Int×Int->Prop
 | size {z:Int×Int} (h:jE s a z) (he:z.2≠0) : nu s cpu a n (.zero,0,z.2)
 | range {z:Int×Int} (h:jE s a z) (he:z.2=0) (hc : ¬ (m9 s cpu∧1<=n)) : nu s cpu a n (.zero,0,1)
 | stay {z:Int×Int} (h:jE s a z) (he:z.2=0) (hc:m9 s cpu∧1<=n) (hn:n<=z.1) : nu s cpu a n (s,a,0)
 | fault {z:Int×Int} {v:ah×Int×Int} (h:jE s a z) (he:z.2=0) (hc:m9 s cpu∧1<=n) (hn : ¬ n<=z.1) (hv:fc s cpu n v) (DQ:v.2.2≠0) : nu s cpu a n (.zero,0,v.2.2)
 | free {z:Int×Int} {v:ah×Int×Int} {u:ah×Int} (h:jE s a z) (he:z.2=0) (hc:m9 s cpu∧1<=n) (hn : ¬ n<=z.1) (hv:fc s cpu n v) (DQ:v.2.2=0) (hu:kQ (Fc v.1 v.2.1 a z.1) cpu a u) (Rv:u.2≠0) : nu s cpu a n (.zero,0,u.2)
 | ok {z:Int×Int} {v:ah×Int×Int} {u:ah×Int} (h:jE s a z) (he:z.2=0) (hc:m9 s cpu∧1<=n) (hn : ¬ n<=z.1) (hv:fc s cpu n v) (DQ:v.2.2=0) (hu:kQ (Fc v.1 v.2.1 a z.1) cpu a u) (Rv:u.2=0) : nu s cpu a n (u.1,v.2.1,0)
theorem nu.dm {n:Int} {u v:ah×Int×Int} (x:nu s cpu a n u) (y:nu s cpu a n v) : u=v:=by
 cases x with
 | size h he=>cases y with
   | size h' gV=>obtain rfl:=h.dm h';rfl
   | range h' gV gQ=>obtain rfl:=h.dm h';exact absurd gV he
   | stay h' gV gQ kb=>obtain rfl:=h.dm h';exact absurd gV he
   | fault h' gV gQ kb tp pq=>obtain rfl:=h.dm h';exact absurd gV he
   | free h' gV gQ kb tp pq ua wB=>obtain rfl:=h.dm h';exact absurd gV he
   | ok h' gV gQ kb tp pq ua wB=>obtain rfl:=h.dm h';exact absurd gV he
 | range h he hc=>cases y with
   | size h' gV=>obtain rfl:=h.dm h';exact absurd he gV
   | range h' gV gQ=>rfl
   | stay h' gV gQ kb=>exact absurd gQ hc
   | fault h' gV gQ kb tp pq=>exact absurd gQ hc
   | free h' gV gQ kb tp pq ua wB=>exact absurd gQ hc
   | ok h' gV gQ kb tp pq ua wB=>exact absurd gQ hc
 | stay h he hc hn=>cases y with
   | size h' gV=>obtain rfl:=h.dm h';exact absurd he gV
   | range h' gV gQ=>exact absurd hc gQ
   | stay h' gV gQ kb=>obtain rfl:=h.dm h';rfl
   | fault h' gV gQ kb tp pq=>obtain rfl:=h.dm h';exact absurd hn kb
   | free h' gV gQ kb tp pq ua wB=>obtain rfl:=h.dm h';exact absurd hn kb
   | ok h' gV gQ kb tp pq ua wB=>obtain rfl:=h.dm h';exact absurd hn kb
 | fault h he hc hn hv DQ=>cases y with
   | size h' gV=>obtain rfl:=h.dm h';exact absurd he gV
   | range h' gV gQ=>exact absurd hc gQ
   | stay h' gV gQ kb=>obtain rfl:=h.dm h';exact absurd kb hn
   | fault h' gV gQ kb tp pq=>rw [hv.dm tp]
   | free h' gV gQ kb tp pq ua wB=>obtain rfl:=hv.dm tp;exact absurd pq DQ
   | ok h' gV gQ kb tp pq ua wB=>obtain rfl:=hv.dm tp;exact absurd pq DQ
 | free h he hc hn hv DQ hu Rv=>cases y with
   | size h' gV=>obtain rfl:=h.dm h';exact absurd he gV
   | range h' gV gQ=>exact absurd hc gQ
   | stay h' gV gQ kb=>obtain rfl:=h.dm h';exact absurd kb hn
   | fault h' gV gQ kb tp pq=>obtain rfl:=hv.dm tp;exact absurd DQ pq
   | free h' gV gQ kb tp pq ua wB=>obtain rfl:=h.dm h';obtain rfl:=hv.dm tp;rw [hu.dm ua]
   | ok h' gV gQ kb tp pq ua wB=>obtain rfl:=h.dm h';obtain rfl:=hv.dm tp;obtain rfl:=hu.dm ua;exact absurd wB Rv
 | ok h he hc hn hv DQ hu Rv=>cases y with
   | size h' gV=>obtain rfl:=h.dm h';exact absurd he gV
   | range h' gV gQ=>exact absurd hc gQ
   | stay h' gV gQ kb=>obtain rfl:=h.dm h';exact absurd kb hn
   | fault h' gV gQ kb tp pq=>obtain rfl:=hv.dm tp;exact absurd DQ pq
   | free h' gV gQ kb tp pq ua wB=>obtain rfl:=h.dm h';obtain rfl:=hv.dm tp;obtain rfl:=hu.dm ua;exact absurd Rv wB
   | ok h' gV gQ kb tp pq ua wB=>obtain rfl:=h.dm h';obtain rfl:=hv.dm tp;rw [hu.dm ua]
def kR (c:aQ) (x:Slab) (a:Int) : Prop:=16*x.At<=a∧a<16*x.At+16*pw c.Order
instance (c:aQ) (x:Slab) (a:Int) : Decidable (kR c x a):=inferInstanceAs (Decidable (_∧_))
def z8 (l:List Block) (p:Int) : Bool:=l.any fun b=>decide (b.At<=p) && decide (p<b.At+pw b.Order)
inductive gb (s:ah) (a:Int) : Bool->Prop
 | out (h : ¬ (0<=a∧a<s.Words.length)) : gb s a false
 | pi {c:aQ} {x:Slab} {u:Int×Int×Int} (h : 0<=a∧a<s.Words.length) (hc:c∈s.aa) (hx:x∈c.ab) (hi:kR c x a) (hF:iy s (a-(a-x.At*16) % c.aA) u) : gb s a (decide (u.2.2=0))
 | bC (h : 0<=a∧a<s.Words.length) (hn:∀ c∈s.aa,∀ x∈c.ab,¬ kR c x a) : gb s a (z8 s.Heap.Live (a / 16))
def qW (m:Int) : Prop := -1099511627776<=m∧m<=1099511627776
instance (m:Int) : Decidable (qW m):=inferInstanceAs (Decidable (_∧_))
inductive lS (s:ah) (a:cJ) : ah×Int×Int->Prop
 | no (h:gb s a.At false) : lS s a (s,0,4)
 | read (h:gb s a.At true) (hk:a.Kind=14) : lS s a (s,s.Words.getD a.At.toNat 0,0)
 | range (h:gb s a.At true) (hk:a.Kind≠14) (hm : ¬ qW a.M) : lS s a (s,0,1)
 | write (h:gb s a.At true) (hk:a.Kind≠14) (hm:qW a.M) : lS s a (⟨s.Words.set a.At.toNat a.M,s.Heap,s.aa⟩,0,0)
def PZ (n:ByteArray) : Bool:=n.data.toList.head? == some 107
inductive eX (s:ah) (a:cJ) : ah×Int×List Int×Int->Prop
 | og {u:ah×Int} (hk:a.Kind=3) (h:lx s a.Name a.N a.M u) : eX s a (u.1,0,[],u.2)
 | form (hk:a.Kind=4) (hn:PZ a.Name=true) : eX s a (s,0,[],3)
 | nv {u:ah×Int} (hk:a.Kind=4) (hn:PZ a.Name=false) (h:Fb s a.Name u) : eX s a (u.1,0,[],u.2)
 | new {u:ah×Int×Int} (hk:a.Kind=5) (h:pj s a.Name a.fV u) : eX s a (u.1,u.2.1,[],u.2.2)
 | drop {u:ah×Int} (hk:a.Kind=6) (h:qN s a.Name a.fV a.At u) : eX s a (u.1,0,[],u.2)
 | shrink (hk:a.Kind=7) : eX s a ((iF s a.Name).1,0,[],(iF s a.Name).2)
 | bulk {u:ah×List Int×Int} (hk:a.Kind=15) (h:oc s a.Name a.fV a.N u) : eX s a (u.1,0,u.2.1,u.2.2)
theorem eX.dm {a:cJ} {u v:ah×Int×List Int×Int} (x:eX s a u) (y:eX s a v) : u=v:=by
 cases x with
 | og hk h=>cases y with
   | og _ h'=>rw [h.dm h']
   | form bW|nv bW|new bW|drop bW|shrink bW|bulk bW=>omega
 | form hk h=>cases y with
   | form=>rfl
   | nv _ h'=>rw [h] at h';cases h'
   | og bW|new bW|drop bW|shrink bW|bulk bW=>omega
 | nv hk hn h=>cases y with
   | form _ h'=>rw [hn] at h';cases h'
   | nv _ _ h'=>rw [h.dm h']
   | og bW|new bW|drop bW|shrink bW|bulk bW=>omega
 | new hk h=>cases y with
   | new _ h'=>rw [h.dm h']
   | og bW|form bW|nv bW|drop bW|shrink bW|bulk bW=>omega
 | drop hk h=>cases y with
   | drop _ h'=>rw [h.dm h']
   | og bW|form bW|nv bW|new bW|shrink bW|bulk bW=>omega
 | shrink hk=>cases y with
   | shrink=>rfl
   | og bW|form bW|nv bW|new bW|drop bW|bulk bW=>omega
 | bulk hk h=>cases y with
   | bulk _ h'=>rw [h.dm h']
   | og bW|form bW|nv bW|new bW|drop bW|shrink bW=>omega
theorem iT.aN {t:Nat} {r:db} (h:iT w lo r s) (hG:rF w w' t) (bL:(Nat.beq t 3 || (Nat.beq t 147 || (Nat.beq t 117 || (Nat.beq t 159 || (Nat.beq t 107 || (Nat.beq t 9 || Nat.beq t 111))))))=false) : iT w' lo r s:=by
 simp only [Bool.or_eq_false_iff] at bL;obtain ⟨h1,h2,h3,h4,h5,h6,h7⟩:=bL;obtain ⟨cs,hc⟩:=h.br;exact ⟨h.words.aN hG h1,h.heap.aN hG (by simp [h1,h2,h3,h4]),⟨cs,hc.aN hG (by simp [h1,h5,h6,h7])⟩⟩
variable {R:Ending->World->Prop} {fn:Func} {cs:List Value} {b m m' tb' Yz:Nat} {P:Program}
structure kz where
 Code:Int
 N:Int
 L:List Int
structure p9 where
 Code:Int
 N:Int
 L:ga
def eB (a:cJ) : List Value:=[.int .i64 a.Kind,.int .i64 a.fV,.int .i64 a.N,.int .i64 a.M,.int .i64 a.At,.int .i64 a.Flags,.string a.Name]
instance:im eB 7:=⟨fun _=>rfl,fun r u hu=>by simp [eB] at hu;rcases hu with rfl|rfl|rfl|rfl|rfl|rfl|rfl<;>rfl⟩
def cb (r:p9) : List Value:=[.int .i64 r.Code,.int .i64 r.N,r.L.v]
instance:im cb 3:=⟨fun _=>rfl,fun r u hu=>by simp [cb,ga.v] at hu;rcases hu with rfl|rfl|rfl<;>rfl⟩
theorem fh (r:p9) : ∀ v∈cb r,v.oneCell'=true:=im.one (enc:=cb) r
theorem P1 (r:cJ) : ∀ v∈eB r,v.oneCell'=true:=im.one (enc:=eB) r
structure dI (s:ah) : Prop where
 cV:s.cV
 may:aB s
structure kj (w:World) (lo:Nat) (r:p9) (x:kz) : Prop where
 code:r.Code=x.Code
 n:r.N=x.N
 list:Own w lo 3 1 bw r.L.A r.L.n r.L.c x.L
section
variable {w w':World} {lo ov t:Nat} {r:p9} {x:kz}
theorem kj.ext (h:kj w lo r x) (hx:Ext w w') : kj w' lo r x:=⟨h.code,h.n,h.list.ext hx⟩
theorem kj.low (h:kj w lo r x) (hl:ov<=lo) : kj w ov r x:=⟨h.code,h.n,h.list.low hl⟩
theorem kj.aN (h:kj w lo r x) (hG:rF w w' t) (bL:Nat.beq t 3=false) : kj w' lo r x:=⟨h.code,h.n,h.list.aN hG bL⟩
theorem kj.plain (w:World) (lo:Nat) (c n:Int) : kj w lo ⟨c,n,.nil⟩ ⟨c,n,[]⟩:=⟨rfl,rfl,Own.fv _ _ _ _ _ _⟩
end
structure iP (w:World) (lo:Nat) (A:Option Addr) (n c:Nat) (rs:List p9) (xs:List kz) : Prop where
 row:Own w lo 55 3 cb A n c rs
 each:fY (kj w lo) rs xs
section
variable {w w':World} {lo ov t n c:Nat} {A:Option Addr} {rs:List p9} {xs:List kz}
theorem iP.ext (h:iP w lo A n c rs xs) (hx:Ext w w') : iP w' lo A n c rs xs:=⟨h.row.ext hx,h.each.mono fun _ _ h=>h.ext hx⟩
theorem iP.low (h:iP w lo A n c rs xs) (hl:ov<=lo) : iP w ov A n c rs xs:=⟨h.row.low hl,h.each.mono fun _ _ h=>h.low hl⟩
theorem iP.aN (h:iP w lo A n c rs xs) (hG:rF w w' t) (bL:(Nat.beq t 55 || Nat.beq t 3)=false) : iP w' lo A n c rs xs:=by
 simp only [Bool.or_eq_false_iff] at bL;exact ⟨h.row.aN hG bL.1,h.each.mono fun _ _ h=>h.aN hG bL.2⟩
theorem iP.len (h:iP w lo A n c rs xs) : xs.length=n:=by rw [<- h.each.len,h.row.len]
end
def mW (e:Int) (s t:ah) : ah:=if e=0 then t else s
inductive oU (s:ah) (a:cJ) : ah×Int->Prop
 | range (h : ¬ (0<=a.At∧a.At<256)) : oU s a (s,1)
 | no (h : 0<=a.At∧a.At<256) (hw:df s (a.At*16)=false) : oU s a (s,4)
 | ok (h : 0<=a.At∧a.At<256) (hw:df s (a.At*16)=true) (he:(fa s.Heap a.fV a.At).1=0) : oU s a (qT s (fa s.Heap a.fV a.At).2,0)
 | fault (h : 0<=a.At∧a.At<256) (hw:df s (a.At*16)=true) (he:(fa s.Heap a.fV a.At).1≠0) : oU s a (s,(fa s.Heap a.fV a.At).1)
inductive cx (s:ah) (a:cJ) : ah×kz->Prop
 | bC {u:Heap×Int×Int} (hk:a.Kind=1) (h:cM s.Heap a.fV a.N a.Flags u) : cx s a (mW u.2.2 s (qT s u.1),⟨u.2.2,u.2.1,[]⟩)
 | nw {u:ah×Int} (hk:a.Kind=2) (h:oU s a u) : cx s a (mW u.2 s u.1,⟨u.2,0,[]⟩)
 | drain (hk:a.Kind=12) : cx s a (mW (kO s.Heap).1 s (qT s (kO s.Heap).2),⟨(kO s.Heap).1,0,[]⟩)
 | fp {u:ah×Int×Int} (hk:a.Kind=8) (h:fc s a.fV a.N u) : cx s a (mW u.2.2 s u.1,⟨u.2.2,u.2.1,[]⟩)
 | kA {u:ah×Int} (hk:a.Kind=9) (h:kQ s a.fV a.At u) : cx s a (mW u.2 s u.1,⟨u.2,0,[]⟩)
 | oh {u:Int×Int} (hk:a.Kind=10) (h:jE s a.At u) : cx s a (s,⟨u.2,u.1,[]⟩)
 | br {u:ah×Int×List Int×Int} (hk:(3<=a.Kind∧a.Kind<=7)∨a.Kind=15) (h:eX s a u) : cx s a (mW u.2.2.2 s u.1,⟨u.2.2.2,u.2.1,u.2.2.1⟩)
 | dX {u:ah×Int×Int} (hk:a.Kind=11) (h:nu s a.fV a.At a.N u) : cx s a (mW u.2.2 s u.1,⟨u.2.2,u.2.1,[]⟩)
 | word {u:ah×Int×Int} (hk:a.Kind=13∨a.Kind=14) (h:lS s a u) : cx s a (mW u.2.2 s u.1,⟨u.2.2,u.2.1,[]⟩)
 | Hd (hk:a.Kind<1∨15<a.Kind) : cx s a (s,⟨2,0,[]⟩)
inductive lC:ah->List cJ->List kz->ah->Prop
 | nil (s:ah) : lC s [] [] s
 | snoc {s t:ah} {l:List cJ} {xs:List kz} {a:cJ} {u:ah×kz} (h:lC s l xs t) (hu:cx t a u) : lC s (l++[a]) (xs++[u.2]) u.1
theorem lC.len {t:ah} {l:List cJ} {xs:List kz} (h:lC s l xs t) : xs.length=l.length:=by
 induction h with
 | nil=>rfl
 | snoc h hu ih=>simp [ih]
theorem lC.T1 {t:ah} {l:List cJ} {a:cJ} {xs:List kz} (h:lC s (l++[a]) xs t) : ∃ ys m u,lC s l ys m∧cx m a u∧xs=ys++[u.2]∧t=u.1:=by
 generalize e:l++[a]=l' at h
 cases h with
 | nil=>simp at e
 | snoc h hu =>
   obtain ⟨rfl,e2⟩:=List.append_inj' e rfl;simp only [List.cons.injEq,and_true] at e2;subst e2;exact ⟨_,_,_,h,hu,rfl,rfl⟩
def wC (I:ah->Prop) (a:cJ) : Prop := ∀ s u,I s->cx s a u->I u.1
theorem lC.jS {I:ah->Prop} {t:ah} {l:List cJ} {xs:List kz} (h:lC s l xs t) : I s->(∀ a∈l,wC I a)->I t:=by
 induction h with
 | nil=>exact fun h _=>h
 | snoc h hu ih=>exact fun hs hl=>hl _ (by simp) _ _ (ih hs fun a ha=>hl a (by simp [ha])) hu
def OY (lo:Nat) (u:ah×kz) (v:Value) (w:World) : Prop := ∃ q x,v = .tuple #[.agg (aP q).toArray,.agg (cb x).toArray]∧iT w lo q u.1∧kj w lo x u.2
def jn (I:ah->Prop) (a:cJ) : Prop := ∀ (r:db) (s:ah) (lo:Nat) (w:World),iT w lo r s->lo<=w.heap.size->I s->iv w->mD w ->
 bI prog 16 [.agg (aP r).toArray,.agg (eB a).toArray] w fun v w' => ∃ u,cx s a u∧OY lo u v w'
theorem ae.na {n:Nat} {L:Env} {t t' ty b' tb:Nat} {cs':List Value} [c:fu P ty m] [c':fu P Yz m'] (hr:fn.results = #[.cell t ty,.cell t' Yz]) (hv:get L t=some (.pointer (some ⟨b,0,none⟩))) (tp:get L t'=some (.pointer (some ⟨b',0,none⟩)))
 (hB:aS w b tb cs) (vI:aS w b' tb' cs') (hl:Nat.beq cs.length m=true) (AG:Nat.beq cs'.length m'=true) (h:R (.returned (.tuple #[.agg cs.toArray,.agg cs'.toArray])) w) : ae n (bodyPost P fn R) .ret L w :=
 ⟨fun a ha=>⟨ha.defers,_,by simpa using mw.results (rs:=[.cell t ty,.cell t' Yz]) hr (.cell c hv hB (adv hl) (.cell c' tp vI (adv AG) .nil)) ha,h⟩⟩
end Go.Proofs.YtohigmjjbgpfmaaGreatDoor
