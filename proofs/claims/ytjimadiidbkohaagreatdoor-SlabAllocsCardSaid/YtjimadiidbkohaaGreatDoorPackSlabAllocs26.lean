/-
  Texts of the claim SlabAllocs, part 26: what its theorem leans on.
-/
import Derived.Test.YtjimadiidbkohaaGreatDoorPackSlabAllocs25
import Derived.Test.YtjimadiidbkohaaGreatDoorPackSlabAllocs2
set_option linter.unusedVariables false
set_option linter.unusedSimpArgs false
namespace Go.Proofs.YtjimadiidbkohaaGreatDoor
open Go.RowKit
def l9 (G:Nat→Prop) (lo:Nat) (s:aF) (i cpu:Nat) (m:Option DH×Int) (Q:dV) (a e:Int) (w:World) : Prop :=
 (m.1=none∧m.2≠0∧e=m.2∧a=0) ∨
 ∃ M cs',m=(some M,0)∧a=(fg M.c M.k).fR∧e=0∧SX w lo Q (cm (iE s M.ws) i (M.h,kf M.c cpu M.k (M.ws.getD (fg M.c M.k).fR.toNat 0))) cs'∧SJ G w lo Q (cm (iE s M.ws) i (M.h,kf M.c cpu M.k (M.ws.getD (fg M.c M.k).fR.toNat 0))) cs'
theorem l9.ext {G:Nat→Prop} {lo:Nat} {s:aF} {i cpu:Nat} {m:Option DH×Int} {Q:dV} {a e:Int} {w w':World} (h:l9 G lo s i cpu m Q a e w) (hx:Ext w w') : l9 G lo s i cpu m Q a e w':=by
 rcases h with h|⟨M,cs',h1,h2,h3,h4⟩
 ·exact .inl h
 ·exact .inr ⟨M,cs',h1,h2,h3,h4.1.ext hx,h4.2.ext hx⟩
theorem l9.He {G:Nat→Prop} {lo:Nat} {s:aF} {i cpu:Nat} {m:Option DH×Int} {Q:dV} {a e:Int} {w w':World} (h:l9 G lo s i cpu m Q a e w) (hG:n9 w w' 30) : l9 G lo s i cpu m Q a e w':=by
 rcases h with h|⟨M,cs',h1,h2,h3,h4⟩
 ·exact .inl h
 ·exact .inr ⟨M,cs',h1,h2,h3,h4.1.ay hG rfl,h4.2.ay hG rfl⟩
theorem zj.form {G:Nat→Prop} {wb w0:World} {r:dV} {s:aF} {i:Nat} {c:bd} {cpu:Nat} {v:Value} {w':World} (h:zj G wb w0 r s i c cpu v w') :
 ∃ m Q a e,v = .tuple #[.agg (aU Q).toArray,.int .i64 a,.int .i64 e]∧ks s c cpu m∧Ext wb w'∧(∀ j x,aJ w0 j 30 x→aJ w' j 30 x)∧(∀ j x,G j→aJ w0 j 3 x→aJ w' j 3 x)∧l9 G wb.heap.size s i cpu m Q a e w':=by
 obtain ⟨m,h1,h2,h3,Mr,h4⟩:=h;rcases h4 with ⟨h5,h6,h7⟩|⟨M,h5,X,H,cs',h6,h7⟩
 ·exact ⟨m,_,_,_,h7,h1,h2,h3,Mr,.inl ⟨h5,h6,rfl,rfl⟩⟩
 ·exact ⟨m,_,_,_,h6,h1,h2,h3,Mr,.inr ⟨M,cs',h5,rfl,rfl,h7⟩⟩
set_option maxHeartbeats 4000000 in
theorem Bt (r:dV) (s:aF) (n:ByteArray) (cpu:Int) (w:World) (hr:ry w r s) (hf:s.lA) :
 bt Tryz.prog 7 [.agg (aU r).toArray,.string n,.int .i64 cpu] w fun v w' => ∃ u,nK s n cpu u ∧ ∃ q,v = .tuple #[.agg (aU q).toArray,.int .i64 u.2.1,.int .i64 u.2.2]∧tU w' w.heap.size q u.1:=by
 refine aL Tryz.func7 rfl Tryz.ntmps7 rfl ?_;have hs:=hf.small;refine CW.seq (CW.region (SW.box rfl rfl fun b3 w1 hw bK ar => ?_));refine SW.alloc rfl fun b6 w3 jQ eW ax => ?_
 have di:w.heap.size≤b6:=Nat.le_trans hw.size eW
 have cG:b6≠b3:=by have:=ar.lt;omega
 have hz:∀ w',tU w' w.heap.size dV.zero aF.zero:=fun w'=>⟨Own.eR _ _ _ _ _ _,iH.zero w' _,⟨[],eE.nil _ _⟩⟩
 (replace hw:=Ext.trans hw jQ;replace ar:=ar.ext jQ);obtain ⟨e,hE⟩ : ∃ e,lY s n cpu=e:=⟨_,rfl⟩
 have cA:∀ w',Ext w w'→bt Tryz.prog 16 [.agg (aU r).toArray,.string n,.int .i64 cpu] w' fun v _=>v = .int .i64 e:=fun w' hx=>by
  have:=vX r s n cpu w' (hr.ext hx) hf
  rwa [hE] at this
 by_cases he:e=0
 ·subst he;obtain ⟨hq,ht,KP,sh⟩:=vO hE;obtain ⟨i,hi,_,_,qX⟩:=jN ht;have hM:=pj.1 hq;obtain ⟨c,rfl⟩:=Int.eq_ofNat_of_zero_le KP;have NT:=(hM.each i hi).may.a9;have nL:c<s.aa[i].au.length:=by omega
  repeat' (first|refine Wz ?_|(refine SW.call rfl rfl (cA _ hw) ?_;intro v w1 ab hv;subst hv;replace hw:=Ext.trans hw ab;replace ar:=ar.ext ab;replace ax:=ax.ext ab;clear ab))
  all_goals try omega
  refine CW.iO 6 14 (fun _=>True) mixed (by kernel_rfl) fun w1 ab aG => ?_
  replace hw:=Ext.trans hw ab;replace ar:=ar.ext ab;replace ax:=ax.ext ab;clear ab;refine Wf ?_;refine SF.two 1 11 rfl rfl (by kernel_rfl) rfl rfl ?_ ?_
  ·refine SW.call rfl rfl (jB r s _ (hr.ext hw) hs) fun v w6 aj hv => ?_
   obtain ⟨q,cs,rfl,hO,hI⟩:=hv;replace hO:=hO.low hw.size;replace hI:=hI.low hw.size;(replace hw:=Ext.trans hw aj;replace ar:=ar.ext aj;replace ax:=ax.ext aj);try replace aP:=aP.ext aj
   refine SW.nil (ae.sf aj ?_);refine SF.two 4 11 rfl rfl (by kernel_rfl) rfl rfl ?_ ?_
   ·refine SW.call rfl rfl (kJ r s n _ (hr.ext hw) hs) fun v w7 aj hv => ?_
    rw [qX] at hv;subst hv;(replace hw:=Ext.trans hw aj;replace ar:=ar.ext aj;replace ax:=ax.ext aj;replace hO:=hO.ext aj;replace hI:=hI.ext aj);try replace aP:=aP.ext aj
    refine SW.nil (ae.sf aj ?_);refine SF.IH 11 rfl rfl (by kernel_rfl) rfl rfl ?_ ?_
    ·refine SW.cV rfl rfl (rG (fun _=>False) w _ q s cs i c hf hi (nJ.of hM hi) hw hO hI.sj (fun _ h=>h.elim) nL) fun v w8 hv => ?_
     obtain ⟨m,Q,a,e,rfl,gv,DI,pu,_,cy⟩:=hv.form;replace ax:=pu _ _ ax;try replace aP:=pu _ _ aP
     clear hw ar hO hI;have hw:=DI;have hS:True:=trivial
     refine SW.nil (ae.sg hS ?_);refine SG.jD 7 aG rfl (by kernel_rfl) (by kernel_rfl) rfl hS (fun _=>bc rfl) rfl ?_;refine SG.jD 8 aG rfl (by kernel_rfl) (by kernel_rfl) rfl hS (fun _=>bc rfl) rfl ?_;refine SG.jD 9 aG rfl (by kernel_rfl) (by kernel_rfl) rfl hS (fun _=>bc rfl) rfl ?_;refine SG.jD 10 aG rfl (by kernel_rfl) (by kernel_rfl) rfl hS (fun _=>bc rfl) rfl ?_;refine SG.one 11 rfl (by kernel_rfl) rfl ?_;refine SW.alloc rfl fun kn w9 aj kG aP => ?_
     have jr:b6≠kn:=fun e=>absurd ax.lt (by omega)
     have lu:w.heap.size≤kn:=Nat.le_trans hw.size kG
     replace ax:=ax.ext aj;try replace ar:=ar.ext aj
     try replace hO:=hO.ext aj
     try replace hI:=hI.ext aj
     try replace cy:=cy.ext aj
     replace hw:=Ext.trans hw aj;have hS:True:=trivial
     refine SW.nil (ae.sg hS ?_);refine SG.one 12 rfl (by kernel_rfl) rfl ?_;refine SW.ap aP rfl rfl rfl rfl (dD Q) fun mw dW hg => ?_
     have hG:=aP.gr hg;replace ax:=ax.grown hg (by simpa using jr);replace hw:=hw.own lu hg;replace cy:=cy.He hG;replace aP:=dW;clear dW hg hG;have hS:True:=trivial
     refine SW.nil (ae.sg hS ?_);refine SG.one 13 rfl (by kernel_rfl) rfl ?_;repeat (refine SW.pure rfl rfl ?_)
     refine SW.nil (ae.sg hS ?_);refine SG.last rfl (by kernel_rfl) (by kernel_rfl) ?_;have hP:=nK.Ew hE qX hi (by simpa using gv);rcases cy with ⟨hn,rL,rfl,rfl⟩|⟨M,cs',rfl,rfl,rfl,hX,_⟩
     ·obtain ⟨m1,e⟩:=m;simp only at hn rL hP;subst hn;simp only [kg] at hP;refine Wz ?_;all_goals try omega
      refine SW.ap ax rfl rfl rfl rfl (dD .zero) fun rf bP hg => ?_
      replace hw:=hw.own di hg;refine Wz ?_;exact ae.dl rfl rfl rfl rfl bP rfl ⟨_,rfl,hw,_,hP,.zero,rfl,hz _⟩
     ·simp only [kg] at hP;refine Wz ?_;refine SW.ap ax rfl rfl rfl rfl (dD Q) fun rf bP hg => ?_
      have hG:=ax.gr hg;replace hw:=hw.own di hg;replace hX:=hX.ay hG rfl;refine Wz ?_;exact ae.dl rfl rfl rfl rfl bP rfl ⟨_,rfl,hw,_,hP,_,rfl,by simpa using hX.AF⟩
    ·refine SW.alloc rfl fun kn w9 aj kG aP => ?_
     have jr:b6≠kn:=fun e=>absurd ax.lt (by omega)
     have lu:w.heap.size≤kn:=Nat.le_trans hw.size kG
     replace ax:=ax.ext aj;try replace ar:=ar.ext aj
     try replace hO:=hO.ext aj
     try replace hI:=hI.ext aj
     try replace cy:=cy.ext aj
     replace hw:=Ext.trans hw aj;have hS:True:=trivial
     refine SW.nil (ae.sf aj ?_);refine SF.turn rfl (by kernel_rfl) rfl ?_;refine SW.cV rfl rfl (rG (fun _=>False) w _ q s cs i c hf hi (nJ.of hM hi) hw hO hI.sj (fun _ h=>h.elim) nL) fun v w8 hv => ?_
     obtain ⟨m,Q,a,e,rfl,gv,DI,pu,_,cy⟩:=hv.form;replace ax:=pu _ _ ax;try replace aP:=pu _ _ aP
     clear hw ar hO hI;have hw:=DI;have hS:True:=trivial
     refine SW.nil (ae.sg hS ?_);refine SG.one 7 rfl (by kernel_rfl) rfl ?_;repeat (refine SW.pure rfl rfl ?_)
     refine SW.nil (ae.sg hS ?_);refine SG.jD 8 aG rfl (by kernel_rfl) (by kernel_rfl) rfl hS (fun _=>bc rfl) rfl ?_;refine SG.jD 9 aG rfl (by kernel_rfl) (by kernel_rfl) rfl hS (fun _=>bc rfl) rfl ?_;refine SG.jD 10 aG rfl (by kernel_rfl) (by kernel_rfl) rfl hS (fun _=>bc rfl) rfl ?_;refine SG.one 12 rfl (by kernel_rfl) rfl ?_;refine SW.ap aP rfl rfl rfl rfl (dD Q) fun mw dW hg => ?_
     have hG:=aP.gr hg;replace ax:=ax.grown hg (by simpa using jr);replace hw:=hw.own lu hg;replace cy:=cy.He hG;replace aP:=dW;clear dW hg hG;have hS:True:=trivial
     refine SW.nil (ae.sg hS ?_);refine SG.one 13 rfl (by kernel_rfl) rfl ?_;repeat (refine SW.pure rfl rfl ?_)
     refine SW.nil (ae.sg hS ?_);refine SG.last rfl (by kernel_rfl) (by kernel_rfl) ?_;have hP:=nK.Ew hE qX hi (by simpa using gv);rcases cy with ⟨hn,rL,rfl,rfl⟩|⟨M,cs',rfl,rfl,rfl,hX,_⟩
     ·obtain ⟨m1,e⟩:=m;simp only at hn rL hP;subst hn;simp only [kg] at hP;refine Wz ?_;all_goals try omega
      refine SW.ap ax rfl rfl rfl rfl (dD .zero) fun rf bP hg => ?_
      replace hw:=hw.own di hg;refine Wz ?_;exact ae.dl rfl rfl rfl rfl bP rfl ⟨_,rfl,hw,_,hP,.zero,rfl,hz _⟩
     ·simp only [kg] at hP;refine Wz ?_;refine SW.ap ax rfl rfl rfl rfl (dD Q) fun rf bP hg => ?_
      have hG:=ax.gr hg;replace hw:=hw.own di hg;replace hX:=hX.ay hG rfl;refine Wz ?_;exact ae.dl rfl rfl rfl rfl bP rfl ⟨_,rfl,hw,_,hP,_,rfl,by simpa using hX.AF⟩
   ·refine SW.alloc rfl fun kn w9 aj kG aP => ?_
    have jr:b6≠kn:=fun e=>absurd ax.lt (by omega)
    have lu:w.heap.size≤kn:=Nat.le_trans hw.size kG
    replace ax:=ax.ext aj;try replace ar:=ar.ext aj
    try replace hO:=hO.ext aj
    try replace hI:=hI.ext aj
    try replace cy:=cy.ext aj
    replace hw:=Ext.trans hw aj;have hS:True:=trivial
    refine SW.nil (ae.sf aj ?_);refine SF.one 4 rfl (by kernel_rfl) rfl ?_;refine SW.call rfl rfl (kJ r s n _ (hr.ext hw) hs) fun v w7 aj hv => ?_
    rw [qX] at hv;subst hv;(replace hw:=Ext.trans hw aj;replace ar:=ar.ext aj;replace ax:=ax.ext aj;replace hO:=hO.ext aj;replace hI:=hI.ext aj);try replace aP:=aP.ext aj
    refine SW.nil (ae.sf aj ?_);refine SF.turn rfl (by kernel_rfl) rfl ?_;refine SW.cV rfl rfl (rG (fun _=>False) w _ q s cs i c hf hi (nJ.of hM hi) hw hO hI.sj (fun _ h=>h.elim) nL) fun v w8 hv => ?_
    obtain ⟨m,Q,a,e,rfl,gv,DI,pu,_,cy⟩:=hv.form;replace ax:=pu _ _ ax;try replace aP:=pu _ _ aP
    clear hw ar hO hI;have hw:=DI;have hS:True:=trivial
    refine SW.nil (ae.sg hS ?_);refine SG.one 7 rfl (by kernel_rfl) rfl ?_;repeat (refine SW.pure rfl rfl ?_)
    refine SW.nil (ae.sg hS ?_);refine SG.jD 8 aG rfl (by kernel_rfl) (by kernel_rfl) rfl hS (fun _=>bc rfl) rfl ?_;refine SG.jD 9 aG rfl (by kernel_rfl) (by kernel_rfl) rfl hS (fun _=>bc rfl) rfl ?_;refine SG.jD 10 aG rfl (by kernel_rfl) (by kernel_rfl) rfl hS (fun _=>bc rfl) rfl ?_;refine SG.one 12 rfl (by kernel_rfl) rfl ?_;refine SW.ap aP rfl rfl rfl rfl (dD Q) fun mw dW hg => ?_
    have hG:=aP.gr hg;replace ax:=ax.grown hg (by simpa using jr);replace hw:=hw.own lu hg;replace cy:=cy.He hG;replace aP:=dW;clear dW hg hG;have hS:True:=trivial
    refine SW.nil (ae.sg hS ?_);refine SG.one 13 rfl (by kernel_rfl) rfl ?_;repeat (refine SW.pure rfl rfl ?_)
    refine SW.nil (ae.sg hS ?_);refine SG.last rfl (by kernel_rfl) (by kernel_rfl) ?_;have hP:=nK.Ew hE qX hi (by simpa using gv);rcases cy with ⟨hn,rL,rfl,rfl⟩|⟨M,cs',rfl,rfl,rfl,hX,_⟩
    ·obtain ⟨m1,e⟩:=m;simp only at hn rL hP;subst hn;simp only [kg] at hP;refine Wz ?_;all_goals try omega
     refine SW.ap ax rfl rfl rfl rfl (dD .zero) fun rf bP hg => ?_
     replace hw:=hw.own di hg;refine Wz ?_;exact ae.dl rfl rfl rfl rfl bP rfl ⟨_,rfl,hw,_,hP,.zero,rfl,hz _⟩
    ·simp only [kg] at hP;refine Wz ?_;refine SW.ap ax rfl rfl rfl rfl (dD Q) fun rf bP hg => ?_
     have hG:=ax.gr hg;replace hw:=hw.own di hg;replace hX:=hX.ay hG rfl;refine Wz ?_;exact ae.dl rfl rfl rfl rfl bP rfl ⟨_,rfl,hw,_,hP,_,rfl,by simpa using hX.AF⟩
  ·refine SW.alloc rfl fun kn w9 aj kG aP => ?_
   have jr:b6≠kn:=fun e=>absurd ax.lt (by omega)
   have lu:w.heap.size≤kn:=Nat.le_trans hw.size kG
   replace ax:=ax.ext aj;try replace ar:=ar.ext aj
   try replace hO:=hO.ext aj
   try replace hI:=hI.ext aj
   try replace cy:=cy.ext aj
   replace hw:=Ext.trans hw aj;have hS:True:=trivial
   refine SW.nil (ae.sf aj ?_);refine SF.one 1 rfl (by kernel_rfl) rfl ?_;refine SW.call rfl rfl (jB r s _ (hr.ext hw) hs) fun v w6 aj hv => ?_
   obtain ⟨q,cs,rfl,hO,hI⟩:=hv;replace hO:=hO.low hw.size;replace hI:=hI.low hw.size;(replace hw:=Ext.trans hw aj;replace ar:=ar.ext aj;replace ax:=ax.ext aj);try replace aP:=aP.ext aj
   refine SW.nil (ae.sf aj ?_);refine SF.one 4 rfl (by kernel_rfl) rfl ?_;refine SW.call rfl rfl (kJ r s n _ (hr.ext hw) hs) fun v w7 aj hv => ?_
   rw [qX] at hv;subst hv;(replace hw:=Ext.trans hw aj;replace ar:=ar.ext aj;replace ax:=ax.ext aj;replace hO:=hO.ext aj;replace hI:=hI.ext aj);try replace aP:=aP.ext aj
   refine SW.nil (ae.sf aj ?_);refine SF.turn rfl (by kernel_rfl) rfl ?_;refine SW.cV rfl rfl (rG (fun _=>False) w _ q s cs i c hf hi (nJ.of hM hi) hw hO hI.sj (fun _ h=>h.elim) nL) fun v w8 hv => ?_
   obtain ⟨m,Q,a,e,rfl,gv,DI,pu,_,cy⟩:=hv.form;replace ax:=pu _ _ ax;try replace aP:=pu _ _ aP
   clear hw ar hO hI;have hw:=DI;have hS:True:=trivial
   refine SW.nil (ae.sg hS ?_);refine SG.one 7 rfl (by kernel_rfl) rfl ?_;repeat (refine SW.pure rfl rfl ?_)
   refine SW.nil (ae.sg hS ?_);refine SG.jD 8 aG rfl (by kernel_rfl) (by kernel_rfl) rfl hS (fun _=>bc rfl) rfl ?_;refine SG.jD 9 aG rfl (by kernel_rfl) (by kernel_rfl) rfl hS (fun _=>bc rfl) rfl ?_;refine SG.jD 10 aG rfl (by kernel_rfl) (by kernel_rfl) rfl hS (fun _=>bc rfl) rfl ?_;refine SG.one 12 rfl (by kernel_rfl) rfl ?_;refine SW.ap aP rfl rfl rfl rfl (dD Q) fun mw dW hg => ?_
   have hG:=aP.gr hg;replace ax:=ax.grown hg (by simpa using jr);replace hw:=hw.own lu hg;replace cy:=cy.He hG;replace aP:=dW;clear dW hg hG;have hS:True:=trivial
   refine SW.nil (ae.sg hS ?_);refine SG.one 13 rfl (by kernel_rfl) rfl ?_;repeat (refine SW.pure rfl rfl ?_)
   refine SW.nil (ae.sg hS ?_);refine SG.last rfl (by kernel_rfl) (by kernel_rfl) ?_;have hP:=nK.Ew hE qX hi (by simpa using gv);rcases cy with ⟨hn,rL,rfl,rfl⟩|⟨M,cs',rfl,rfl,rfl,hX,_⟩
   ·obtain ⟨m1,e⟩:=m;simp only at hn rL hP;subst hn;simp only [kg] at hP;refine Wz ?_;all_goals try omega
    refine SW.ap ax rfl rfl rfl rfl (dD .zero) fun rf bP hg => ?_
    replace hw:=hw.own di hg;refine Wz ?_;exact ae.dl rfl rfl rfl rfl bP rfl ⟨_,rfl,hw,_,hP,.zero,rfl,hz _⟩
   ·simp only [kg] at hP;refine Wz ?_;refine SW.ap ax rfl rfl rfl rfl (dD Q) fun rf bP hg => ?_
    have hG:=ax.gr hg;replace hw:=hw.own di hg;replace hX:=hX.ay hG rfl;refine Wz ?_;exact ae.dl rfl rfl rfl rfl bP rfl ⟨_,rfl,hw,_,hP,_,rfl,by simpa using hX.AF⟩
 ·have hP:=nK.ask (s:=s) (n:=n) (cpu:=cpu) (by rw [hE];exact he);rw [hE] at hP;repeat' (first|refine Wz ?_|(refine SW.call rfl rfl (cA _ hw) ?_;intro v w1 ab hv;subst hv;replace hw:=Ext.trans hw ab;replace ar:=ar.ext ab;replace ax:=ax.ext ab;clear ab))
  all_goals try omega
  refine SW.ap ax rfl rfl rfl rfl (dD .zero) fun w6 bP hg => ?_
  replace hw:=hw.own di hg;refine Wz ?_;exact ae.dl rfl rfl rfl rfl bP rfl ⟨_,rfl,hw,_,hP,.zero,rfl,hz _⟩
theorem nK.small {s:aF} {n:ByteArray} {cpu:Int} {u:aF×Int×Int} (x:nK s n cpu u) (hf:s.lA) : u.1.small:=by
 cases x with
 | ask=>exact aF.lX
 | Ew h e hi hm =>
   have:=qg (.of (pj.1 (vO h).1) hi)
   exact xx hi hm hf (by omega)
set_option maxHeartbeats 2000000 in
theorem tv (r:dV) (s:aF) (n:ByteArray) (cpu:Int) (w:World) (hr:ry w r s) (hf:s.lA) (Jw:n.size≤140737488351232) (ti:oZ w) :
 bt Tryz.prog 3 [.agg (aU r).toArray,.string n,.int .i64 cpu] w fun v _=>v = .bool true:=by
 refine aL Tryz.func3 rfl Tryz.ntmps3 rfl ?_;have hs:=hf.small;refine CW.seq (CW.region (SW.box rfl rfl fun b1 w1 hw gK aA => ?_));refine Wz ?_;refine SW.call rfl rfl (jB r s _ (hr.ext hw) hs) fun v w4 iG hv => ?_
 obtain ⟨k,cs,rfl,Ms,_⟩:=hv;have hK:=Ms.AF;clear Ms;(replace hw:=Ext.trans hw iG;replace aA:=aA.ext iG);refine SW.alloc rfl fun b3 w1 ab bK ar => ?_
 skip;refine SW.ap ar rfl rfl rfl rfl (dD k) fun w2 cS hg => ?_
 have aj:=ab.own bK hg;have cn:w.heap.size≤b3:=Nat.le_trans hw.size bK
 replace hw:=Ext.trans hw aj;replace aA:=aA.ext aj;replace hK:=hK.ext aj;replace ar:=cS;clear cS ab hg aj;refine Wz ?_;refine SW.call rfl rfl (uf k s n cpu _ hK.rd hf Jw (ti.ext hw)) fun v w5 jv hv => ?_
 obtain ⟨o,hu,s1,rfl,tE⟩:=hv;have Gi:=hu.small hf;(replace hw:=Ext.trans hw jv;replace aA:=aA.ext jv;replace ar:=ar.ext jv;replace hK:=hK.ext jv);refine Wz ?_;refine SW.alloc rfl fun b4 w1 ab ml bX => ?_
 skip;refine SW.ap bX rfl rfl rfl rfl (dD s1) fun w2 qZ hg => ?_
 have aj:=ab.own ml hg;have mE:w.heap.size≤b4:=Nat.le_trans hw.size ml
 replace hw:=Ext.trans hw aj;replace aA:=aA.ext aj;replace ar:=ar.ext aj;replace hK:=hK.ext aj;replace tE:=tE.ext aj;replace bX:=qZ;clear qZ ab hg aj;refine Wz ?_;refine SW.call rfl rfl (Bt r s n cpu _ (hr.ext hw) hf) fun v w6 DF hv => ?_
 obtain ⟨o',A7,s2,rfl,Ja⟩:=hv;obtain rfl:=hu.km A7;(replace hw:=Ext.trans hw DF;replace aA:=aA.ext DF;replace ar:=ar.ext DF;replace bX:=bX.ext DF;replace hK:=hK.ext DF;replace tE:=tE.ext DF);refine Wz ?_;refine SW.alloc rfl fun b6 w1 ab eW ax => ?_
 skip;refine SW.ap ax rfl rfl rfl rfl (dD s2) fun w2 gp hg => ?_
 have aj:=ab.own eW hg;have di:w.heap.size≤b6:=Nat.le_trans hw.size eW
 replace hw:=Ext.trans hw aj;replace aA:=aA.ext aj;replace ar:=ar.ext aj;replace bX:=bX.ext aj;replace hK:=hK.ext aj;replace tE:=tE.ext aj;replace Ja:=Ja.ext aj;replace ax:=gp;clear gp ab hg aj;have cA:∀ w',Ext w w'→ry w' s1 o.1→ry w' s2 o.1→bt Tryz.prog 8 [.agg (aU s1).toArray,.agg (aU s2).toArray] w' fun v _=>v = .bool true:=fun w' _ h1 h2=>nd s1 s2 o.1 w' h1 h2 Gi
 have cB:∀ w',Ext w w'→ry w' k s→bt Tryz.prog 8 [.agg (aU k).toArray,.agg (aU r).toArray] w' fun v _=>v = .bool true:=fun w' hx h1=>nd k r s w' h1 (hr.ext hx) hs
 repeat' (first|refine Wz ?_|((first|refine SW.call rfl rfl (cA _ hw tE.rd Ja.rd) ?_|refine SW.call rfl rfl (cB _ hw hK.rd) ?_);intro v w1 ab hv;subst hv;replace hw:=Ext.trans hw ab;replace aA:=aA.ext ab;replace ar:=ar.ext ab;replace bX:=bX.ext ab;replace ax:=ax.ext ab;replace hK:=hK.ext ab;replace tE:=tE.ext ab;replace Ja:=Ja.ext ab;clear ab))
 exact ae.aN rfl rfl ⟨_,rfl,hw,rfl⟩
end Go.Proofs.YtjimadiidbkohaaGreatDoor
