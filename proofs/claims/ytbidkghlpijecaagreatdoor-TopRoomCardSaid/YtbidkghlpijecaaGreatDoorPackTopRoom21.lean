/-
  Texts of the claim TopRoom, part 21: what its theorem leans on.
-/
import Derived.Test.YtbidkghlpijecaaGreatDoorPackTopRoom20
import Derived.Test.YtbidkghlpijecaaGreatDoorPackTopRoom2
set_option linter.unusedVariables false
set_option linter.unusedSimpArgs false
namespace Go.Proofs.YtbidkghlpijecaaGreatDoor
open Go.RowKit
def yP (o:Int) : Nat:=256 / 2 ^ o.toNat
theorem Fb {o:Int} (h : 0≤o∧o≤4) : (256:Int) / 2 ^ o.toNat=(yP o:Int)∧(yP o:Int)*pw o=256∧1≤yP o∧yP o≤256:=by
 rcases (show o=0∨o=1∨o=2∨o=3∨o=4 by omega) with rfl|rfl|rfl|rfl|rfl<;>decide
theorem vx (o:Int) : nB mj (gM o):=EM _ rfl
theorem CS (a:Int) : nB mj (qz a):=EN _ rfl
theorem GC {α:Type} {w:World} {sz:Nat} {enc : α → List Value} {A:Option Addr} {n k:Nat} {l:List α} (h:Sl w sz enc A n l) (hk:k≤n) : Sl w sz enc A k (l.take k):=by
 have hl:=h.len;refine ⟨by rw [List.length_take];omega,fun h0=>h.base (by omega),fun i hi j u hu => ?_⟩;rw [List.length_take] at hi;rw [List.getElem_take] at hu;exact h.cell i (by omega) j u hu
set_option maxHeartbeats 4000000 in
theorem yQ (a b c od:Int) (w:World) (ha : -9223372036854775808≤a∧a≤9223372036854775807) (hb : -9223372036854775808≤b∧b≤9223372036854775807) (hc : -9223372036854775808≤c∧c≤9223372036854775807) (Re : -9223372036854775808≤od∧od≤9223372036854775807) (hS:jU w) (uw:oV w) :
 bl Tryz.prog 11 [.int .i64 a,.int .i64 b,.int .i64 c,.int .i64 od] w fun v _=>v = .bool true:=by
 refine aD Tryz.func11 rfl Tryz.ntmps11 rfl ?_;have hw:=Ext.refl w;have Rf:=bZ (n:=od) (m:=5) (by omega);have Sf:=bZ (n:=a) (m:=9) (by omega);have cP:∀ w',bl Tryz.prog 17 [.int .i64 od,.int .i64 5] w' fun v _=>v = .int .i64 (bE od 5):=fun w'=>Aq od 5 w' Re (by decide)
 obtain ⟨o,eo⟩ : ∃ o,bE od 5=o:=⟨_,rfl⟩;rw [eo] at Rf cP;have ho : 0≤o∧o≤4:=by omega
 obtain ⟨O7,O8,Rg,Rh⟩:=Fb ho;obtain ⟨N,eN⟩ : ∃ N,yP o=N:=⟨_,rfl⟩;rw [eN] at O7 O8 Rg Rh;refine Wz ?_;refine SW.call rfl rfl (CL _ (hS.ext hw) (uw.ext hw)) fun v w2 bo hv => ?_
 subst hv;replace hw:=Ext.trans hw bo;clear bo;repeat' (first|refine Wz ?_|(refine CW.eY rfl ?_))
 refine SW.call rfl rfl (qx a b c _ ha hb hc) fun v w2 bo hv => ?_
 obtain ⟨A,B,rfl,hA,hB⟩:=hv;replace hw:=Ext.trans hw bo;clear bo;skip;refine SW.alloc rfl fun b9 w1 aa oQ dp => ?_
 skip;refine SW.ah dp rfl rfl rfl rfl (wK A 2 2 B 2 2 (16*bE a 9) (bE b 12) (1+bE c 4)) fun w2 jh hg => ?_
 have ao:=aa.own oQ hg;have uf:w.heap.size≤b9:=Nat.le_trans hw.size oQ
 replace hw:=Ext.trans hw ao;replace hA:=hA.ext ao;replace hB:=hB.ext ao;replace dp:=jh;clear jh aa hg ao;repeat' (first|refine Wz ?_|(refine SW.call rfl rfl (cP _) ?_;intro v w1 aa hv;subst hv;replace hw:=Ext.trans hw aa;replace dp:=dp.ext aa;replace hA:=hA.ext aa;replace hB:=hB.ext aa;clear aa)|(refine SW.st (IZ rfl rfl (by omega) (by omega) O7 (by omega) (by omega)) rfl ?_))
 have Gy:=hw;have hw:=Ext.refl w1;have O9:=hS.ext Gy;have Hq:=uw.ext Gy
 refine CW.loop (fun s:Nat×Option Addr×Nat=>[(9,.pointer (some ⟨b9,0,none⟩)),(10,.int .i64 o),(11,.slice s.2.1 s.1 s.2.2),(31,.int .i64 (N:Int)),(32,.int .i64 (s.1:Int))])
  (fun s w'=>s.1≤N∧Ext w1 w'∧Own w' w1.heap.size 35 7 rm s.2.1 s.1 s.2.2 (List.replicate s.1 (gM o))) (fun s=>N-s.1) (0,none,0)
  ⟨rfl,rfl,rfl,rfl,rfl,trivial⟩ ⟨Nat.zero_le _,hw,Own.fj _ _ _ _ _ _⟩ ?_
 clear hw;rintro ⟨j,Y,f⟩ w' ⟨hj,hw,hY⟩
 simp only at hj hY ⊢;by_cases kB:j<N
 ·refine Wz ?_;refine SW.dJ rfl rfl rfl rfl rfl fun Sg w9 pL Pa K9 => ?_
  (replace hw:=Ext.trans hw pL;replace hY:=hY.ext pL);clear pL;refine SW.append hY (aT.wU (enc:=rm) (x:=gM o) K9) hw.size rfl rfl rfl (by omega) (by omega) fun Y2 f2 Jp LH hg => ?_
  replace hw:=aJ hw hg (Nat.le_refl _) hY.ba;clear hg hY K9;refine Wz ?_;rw [← List.replicate_succ'] at LH;exact ae.again (j+1,Y2,f2) ⟨rfl,rfl,rfl,rfl,rfl,trivial⟩ (by simp only;omega) ⟨by simp only;omega,hw,LH⟩
 obtain rfl:j=N:=by omega
 clear kB hj;have vg:=lR a b c;repeat' (first|refine Wz ?_|refine SW.st (ay rfl rfl ((fun _ _=>(dp.ext hw).cell))) rfl ?_)
 have Pb:=hY.sl;refine SW.call rfl rfl (wC mj A 2 2 B 2 2 _ _ _ _ _ Y j f (List.replicate j (gM o)) _ (hA.ext hw) (hB.ext hw) (by decide) (by decide) (by omega) (O9.ext hw) (Hq.ext hw) Pb (by omega) (fun u h _=>(iH h).2.2) (fun s h=>h.g7) (fun x hx=>by rw [List.eq_of_mem_replicate hx];exact vx o) (fun x hx=>by rw [List.eq_of_mem_replicate hx];exact pF rfl)) fun v w3 iN hv => ?_
 obtain ⟨⟨e1,xs,t⟩,IL,X,nn,cc,rs,q2,rfl,hX,uG⟩:=hv;obtain ⟨Pc,s,hF,_,hR⟩:=wL IL;simp only at hX uG Pc hR ⊢;subst Pc;have Sh:=hX.len;have nP:=hR.len;rw [List.length_replicate] at nP;obtain rfl:nn=j:=by omega
 have NJ:=Fa ho (Az hF) O8 hR;replace hX:=hX.low hw.size;replace uG:=uG.low hw.size;(replace hw:=Ext.trans hw iN;replace hY:=hY.ext iN);clear iN Pb;refine Wz ?_;refine SW.alloc rfl fun QO w4 dz Hj EX => ?_
 refine Wz ?_;refine SW.ah EX rfl rfl rfl rfl (cq q2) fun w5 Hr hg => ?_
 have ao:=dz.own Hj hg;replace hw:=Ext.trans hw ao;replace hX:=hX.ext ao;replace hY:=hY.ext ao;have EX:=Hr;clear Hr ao hg dz;clear EX uG;refine Wz ?_
 refine CW.loop (fun s:Nat×Int×Int=>[(9,.pointer (some ⟨b9,0,none⟩)),(10,.int .i64 o),(11,.slice Y nn f),(14,.int .i64 0),(15,.int .i64 s.2.1),(16,.int .i64 s.2.2),(47,.slice X nn cc),(48,.int .i64 (nn:Int)),(49,.int .i64 (s.1:Int))])
  (fun s w'=>s.1≤nn∧Ext w1 w'∧Own w' w1.heap.size 35 7 rm Y nn f (List.replicate nn (gM o))∧ir w' w1.heap.size X nn cc rs xs∧(0≤s.2.2∧s.2.2≤(s.1:Int))∧lf (xs.take s.1)=s.2) (fun s=>nn-s.1) (0,-1,0)
  ⟨rfl,rfl,rfl,rfl,rfl,rfl,rfl,rfl,rfl,trivial⟩ ⟨Nat.zero_le _,hw,hY,hX,by simp,rfl⟩ ?_
 clear hw hY hX;rintro ⟨i,last,fq⟩ w' ⟨hi,hw,hY,hX,Li,Fj⟩
 simp only at hi Li Fj ⊢;by_cases uD:i<nn
 ·have EV:i<rs.length:=by have:=hX.each.len;omega
  have BL:i<xs.length:=by omega
  have IT:=hX.each.get i EV BL;obtain ⟨g1,g2⟩ : rs[i].Code=xs[i].Code∧rs[i].N=xs[i].N:=⟨IT.code,IT.n⟩;have La:=tT (xs.take i) xs[i];rw [← List.take_succ_eq_append_getElem BL,Fj] at La;have D7:=hX.row.sl.base;repeat' (first|refine Wz ?_|refine SW.st (ay rfl rfl ((hX.row.sl.all uD))) rfl ?_)
  refine SW.alloc rfl fun Si w4 dz Lb Lc => ?_
  skip;refine SW.ah Lc rfl rfl rfl rfl (jY rs[i]) fun w5 Hs hg => ?_
  have ao:=dz.own Lb hg;replace hw:=Ext.trans hw ao;replace hX:=hX.ext ao;replace hY:=hY.ext ao;have Lc:=Hs;clear Hs ao hg dz;by_cases Pd:rs[i].Code=0
  ·rw [← g1,if_pos Pd,← g2] at La;refine Wz ?_;exact ae.again (i+1,rs[i].N,fq+1) ⟨rfl,rfl,rfl,rfl,rfl,rfl,rfl,rfl,rfl,trivial⟩ (by simp only;omega) ⟨by simp only;omega,hw,hY,hX,by simp only;omega,La⟩
  ·rw [← g1,if_neg Pd] at La;refine Wz ?_;exact ae.again (i+1,last,fq) ⟨rfl,rfl,rfl,rfl,rfl,rfl,rfl,rfl,rfl,trivial⟩ (by simp only;omega) ⟨by simp only;omega,hw,hY,hX,by simp only;omega,La⟩
 obtain rfl:i=nn:=by omega
 rw [List.take_of_length_le (by omega)] at Fj;obtain ⟨m,m1,m2,m3,m4,m5⟩:=NJ;rw [Fj] at m2 m3 m4 m5;simp only at m2 m3 m4 m5;subst m2;by_cases tW:m=0
 ·have oB:=m3 tW;subst oB;refine Wz ?_;exact ae.aI rfl rfl ⟨_,rfl,Ext.trans Gy hw,rfl⟩
 have Sj:=m4 (by omega);have Sk:=hY.DM;repeat' (first|refine Wz ?_|(refine SW.st (Ar (k:=m) rfl rfl rfl (by omega)) rfl ?_))
 refine SW.IY (enc:=rm) (xs:=[.tmp 74,.tmp 76,.tmp 78]) [qz last,gM o,gM o] rfl rfl rfl rfl rfl rfl rfl rfl fun g3 w9 pL Ri h3 => ?_
 (replace hw:=Ext.trans hw pL;replace hY:=hY.ext pL;replace hX:=hX.ext pL);clear pL;have NK:=GC hY.sl (k:=m) (by omega);have Rj:(List.replicate i (gM o)).take m=List.replicate m (gM o):=by rw [List.take_replicate];congr 1;omega
 rw [Rj] at NK;have qW:=hw.size;refine SW.Gu NK h3.sl (by omega) (by omega) (by omega) rfl rfl rfl (by omega) (by omega) fun Z cz Jp hZ hg => ?_
 have I4:=aJ (Ext.refl _) hg (Nat.le_refl _) (fun k e=>by cases e);replace hw:=Ext.trans hw I4;replace hX:=hX.ext I4;replace hZ:=hZ.low qW;clear hg NK h3 I4 hY qW;repeat' (first|refine Wz ?_|refine SW.st (ay rfl rfl ((fun _ _=>(dp.ext hw).cell))) rfl ?_)
 have j3:∀ x∈List.replicate m (gM o)++[qz last,gM o,gM o],x=gM o∨x=qz last:=fun x hx=>by
  simp only [List.mem_append,List.mem_cons,List.not_mem_nil,or_false] at hx;rcases hx with hx|rfl|rfl|rfl
  ·exact .inl (List.eq_of_mem_replicate hx)
  ·exact .inr rfl
  ·exact .inl rfl
  ·exact .inl rfl
 refine SW.call rfl rfl (wC mj A 2 2 B 2 2 _ _ _ _ _ Z (m+3) cz _ _ (hA.ext hw) (hB.ext hw) (by decide) (by decide) (by omega) (O9.ext hw) (Hq.ext hw) hZ.sl (by omega) (fun u h _=>(iH h).2.2) (fun s h=>h.g7) (fun x hx=>by rcases j3 x hx with rfl|rfl;exact vx o;exact CS last) (fun x hx=>by rcases j3 x hx with rfl|rfl;exact pF rfl;exact yH rfl)) fun v w3 iN hv => ?_
 obtain ⟨⟨e2,Sm,t2⟩,Jr,X2,n2,c2,Sn,q3,rfl,C5,Pe⟩:=hv;obtain ⟨Pf,s2,Rk,_,ct⟩:=wL Jr;simp only at C5 Pe Pf ct ⊢;subst Pf;obtain rfl:=hF.eq Rk;obtain ⟨zs,x1,x2,x3,rfl,zp,d1,d2,d3⟩:=m5 (by omega) _ _ ct;have NL:=C5.len;have FU:=C5.each.len;simp only [List.length_append,List.length_cons,List.length_nil] at NL FU;obtain rfl:n2=m+3:=by omega
 replace hw:=Ext.trans hw iN;clear iN hZ hX hR ct IL Jr Pe j3;refine Wz ?_;refine SW.alloc rfl fun LF w4 dz yA nL => ?_
 refine Wz ?_;refine SW.ah nL rfl rfl rfl rfl (cq q3) fun w5 tD hg => ?_
 have ao:=dz.own yA hg;replace hw:=Ext.trans hw ao;replace C5:=C5.ext ao;have nL:=tD;clear tD ao hg dz;clear nL;have Ol:=C5.row.sl.base;have c1:=(C5.each.get m (by omega) (by simp;omega)).code;have c2:=(C5.each.get (m+1) (by omega) (by simp;omega)).code;have c3:=(C5.each.get (m+2) (by omega) (by simp;omega)).code;have z1:(zs++[x1,x2,x3])[m]'(by simp;omega)=x1:=by subst zp;simp
 have z2:(zs++[x1,x2,x3])[m+1]'(by simp;omega)=x2:=by subst zp;simp [List.getElem_append_right]
 have z3:(zs++[x1,x2,x3])[m+2]'(by simp;omega)=x3:=by subst zp;simp [List.getElem_append_right]
 rw [z1,d1] at c1;rw [z2,d2] at c2;rw [z3,d3] at c3;have f1:=C5.row.sl.cell m (by omega) 0 (.int .i64 0) (by simp [fM,c1]);have f2:=C5.row.sl.cell (m+1) (by omega) 0 (.int .i64 0) (by simp [fM,c2]);have f3:=C5.row.sl.cell (m+2) (by omega) 0 (.int .i64 6) (by simp [fM,c3]);repeat' (first|refine Wz ?_|refine SW.st (bc (m+1) rfl rfl (by assumption) (by omega) (by omega)) rfl ?_|refine SW.st (bc (m+2) rfl rfl (by assumption) (by omega) (by omega)) rfl ?_|refine SW.st (ax rfl f1) rfl ?_|refine SW.st (ax rfl f2) rfl ?_|refine SW.st (ax rfl f3) rfl ?_)
 exact ae.aI rfl rfl ⟨_,rfl,Ext.trans Gy hw,rfl⟩
end Go.Proofs.YtbidkghlpijecaaGreatDoor
