/-
  Texts of the claim TopProcessors, part 22: what its theorem leans on.
-/
import Derived.Test.YtbidkghlpijecaaGreatDoorPackTopProcessors21
import Derived.Test.YtbidkghlpijecaaGreatDoorPackTopProcessors2
import Derived.Test.YtbidkghlpijecaaGreatDoorPackTopProcessors6
import Derived.Test.YtbidkghlpijecaaGreatDoorPackTopProcessors5
import Derived.Test.YtbidkghlpijecaaGreatDoorPackTopProcessors3
import Derived.Test.YtbidkghlpijecaaGreatDoorPackTopProcessors13
import Derived.Test.YtbidkghlpijecaaGreatDoorPackTopProcessors12
import Derived.Test.YtbidkghlpijecaaGreatDoorPackTopProcessors8
import Derived.Test.YtbidkghlpijecaaGreatDoorPackTopProcessors14
import Derived.Test.YtbidkghlpijecaaGreatDoorPackTopProcessors11
set_option linter.unusedVariables false
set_option linter.unusedSimpArgs false
namespace Go.Proofs.YtbidkghlpijecaaGreatDoor
open Go.RowKit
theorem Own.MI {α β:Type} {w w':World} {lo lj:Nat} {e e':TypeId} {sz Qt:Nat} {enc : α → List Value} {LW : β → List Value} {A B:Option Addr} {m c k d:Nat} {l:List α} {l':List β}
 (hO:Own w lo e sz enc A m c l) (hS:Own w' lj e' Qt LW B k d l') (hle:w.heap.size≤lj) : (aM A c=none∨aM A c≠aM B d)∧(aM B d=none∨aM B d≠aM A c):=by
 rcases hO.row with ⟨_,rfl⟩|⟨hc,g,ij,rfl,_,h2,_⟩
 ·refine ⟨.inl (by simp [aM]),?_⟩;rcases hS.row with ⟨_,rfl⟩|⟨hd,g',Rb,rfl,_,lN,_⟩
  ·exact .inl (by simp [aM])
  ·exact .inr (by simp [aM,Nat.pos_iff_ne_zero.1 hd])
 ·have hg:g<w.heap.size:=(Array.getElem?_eq_some_iff.1 h2).1
  rcases hS.row with ⟨_,rfl⟩|⟨hd,g',Rb,rfl,gB,lN,_⟩
  ·exact ⟨.inr (by simp [aM,Nat.pos_iff_ne_zero.1 hc]),.inl (by simp [aM])⟩
  ·have bW:g≠g':=by omega
   exact ⟨.inr (by simp [aM,Nat.pos_iff_ne_zero.1 hc,Nat.pos_iff_ne_zero.1 hd,bW]),.inr (by simp [aM,Nat.pos_iff_ne_zero.1 hc,Nat.pos_iff_ne_zero.1 hd,bW.symm])⟩
def jt (x y:List Region) (i:Nat) : Bool:=dC x i && !dC y i
theorem Ih {x y:List Region} (h:mU x y=true) : (∀ r∈x,r.ok)∧(∀ r∈y,r.ok):=by
 simp only [mU,Bool.and_eq_true,qV] at h
 have key:∀ l:List Region,fh l → ∀ r∈l,r.ok:=fun l hl r hr=>by
  obtain ⟨i,hi,rfl⟩:=List.getElem_of_mem hr;exact (hl.2 i hi).1
 exact ⟨key x h.1,key y h.2⟩
noncomputable def jb (N:Nat) (x y:List Region) : Int×List Region:=if mU x y then (0,runs (jt x y) N) else (8,[])
def FV (lo:Nat) (r:Int×List Region) (v:Value) (w:World) : Prop := ∃ A c,v = .tuple #[.slice A r.2.length c,.int .i64 r.1]∧Own w lo 123 2 iM A r.2.length c r.2
theorem ta {N:Nat} {x y:List Region} (h:mU x y=true) : jb N x y=(0,runs (jt x y) N):=by simp [jb,h]
theorem yy {N:Nat} {x y:List Region} (h:mU x y=false) : jb N x y=(8,[]):=by simp [jb,h]
theorem Ds (A:Option Addr) (n c:Nat) (B:Option Addr) (m d:Nat) (x y:List Region) (N:Nat) (hN:N=256) (w:World) (hx:Sl w 2 iM A n x) (hy:Sl w 2 iM B m y) (hn:n≤9223372036854775807) (hm:m≤9223372036854775807) :
 bq Tryz.prog 55 [.agg (mT A n c B m d).toArray] w (FV w.heap.size (jb N x y)):=by
 refine aG Tryz.func55 rfl Tryz.ntmps55 rfl ?_;refine CW.seq (CW.region (SW.box rfl rfl fun b w1 hw hb hB => ?_));obtain ⟨q,hq⟩ : ∃ b,mU x y=b:=⟨_,rfl⟩;have c1:∀ w',Ext w w'→bq Tryz.prog 131 [.agg (mT A n c B m d).toArray] w' fun v _=>v = .int .i64 (if q then 0 else 8):=fun w' h=>by have:=yx A n c B m d x y w' (hx.ext h) (hy.ext h) hn hm;rwa [hq] at this
 cases q
 ·simp only [Bool.false_eq_true,if_false] at c1;rw [yy hq];repeat' (first|refine Wz ?_|(refine SW.call rfl rfl (c1 _ hw) ?_;intro v w1 ae hv;subst hv;replace hw:=Ext.trans hw ae;replace hB:=hB.ext ae;clear ae))
  exact ah.cb rfl rfl rfl ⟨_,rfl,hw,none,0,rfl,Own.gz _ _ _ _ _ _⟩
 ·simp only [if_true] at c1;rw [ta hq];obtain ⟨Uu,Uv⟩:=Ih hq;repeat' (first|refine Wz ?_|(refine SW.call rfl rfl (c1 _ hw) ?_;intro v w1 ae hv;subst hv;replace hw:=Ext.trans hw ae;replace hB:=hB.ext ae;clear ae))
  refine CW.cut (fun L' w' => ∃ M d1 M2 d2,jd L' [(5,.slice M 256 d1),(6,.slice M2 256 d2)]∧Ext w w'∧Own w' w.heap.size 4 1 qz M 256 d1 (marksOf (fun i=>dC x i) 256)∧Own w' w.heap.size 4 1 qz M2 256 d2 (marksOf (fun i=>dC y i) 256)∧(aM M2 d2=none∨aM M2 d2≠aM M d1)) ?_ ?_
  ·refine CW.any 6 mixed (da (by kernel_rfl)) rfl fun w1 ae aJ => ?_
   replace hw:=Ext.trans hw ae;replace hB:=hB.ext ae;clear ae;refine Wa ?_;refine SA.one 2 rfl (by kernel_rfl) rfl ?_;refine SW.call rfl rfl (wC _ _ _ _ _ (hx.ext hw) Uu hn) fun v w2 ap hv => ?_
   obtain ⟨M,d1,rfl,hM⟩:=hv;replace hM:=hM.low hw.size;replace hw:=Ext.trans hw ap;replace hB:=hB.ext ap;refine SW.nil (ah.sa ap ?_);refine SA.one 5 rfl (by kernel_rfl) rfl ?_;refine SW.call rfl rfl (wC _ _ _ _ _ (hy.ext hw) Uv hm) fun v w3 ap hv => ?_
   obtain ⟨M2,d2,rfl,rp⟩:=hv;have bW:=(hM.MI rp (Nat.le_refl _)).2;replace rp:=rp.low hw.size;replace hM:=hM.ext ap;replace hw:=Ext.trans hw ap;replace hB:=hB.ext ap;refine SW.nil (ah.sa ap ?_);refine SA.done (by kernel_rfl) ?_;refine Wz ?_;exact ah.cut (K:=fun L' w' => ∃ M d1 M2 d2,jd L' [(5,.slice M 256 d1),(6,.slice M2 256 d2)]∧Ext w w'∧Own w' w.heap.size 4 1 qz M 256 d1 (marksOf (fun i=>dC x i) 256)∧Own w' w.heap.size 4 1 qz M2 256 d2 (marksOf (fun i=>dC y i) 256)∧(aM M2 d2=none∨aM M2 d2≠aM M d1)) ⟨M,d1,M2,d2,⟨rfl,rfl,trivial⟩,hw,hM,rp,bW⟩
  ·clear hB hw c1;rintro L' w' ⟨M,d1,M2,d2,hs,hw,hM,rp,bW⟩
   refine ah.sub hs ?_;have VP:=hM.sl.base;have Uw:=rp.sl.base;have e0:marksOf (fun i=>dC x i) 256=marksOf (fun i=>if i<0 then jt x y i else dC x i) 256:=fr fun i _=>by rw [if_neg (by omega)]
   rw [e0] at hM;clear e0;refine Wz ?_
   refine CW.loop (fun k:Nat=>[(5,.slice M 256 d1),(6,.slice M2 256 d2),(20,.int .i64 256),(21,.int .i64 (k:Int))])
    (fun k w'=>k≤256∧Ext w w'∧Own w' w.heap.size 4 1 qz M 256 d1 (marksOf (fun i=>if i<k then jt x y i else dC x i) 256)∧Own w' w.heap.size 4 1 qz M2 256 d2 (marksOf (fun i=>dC y i) 256)) (fun k=>256-k) 0 ⟨rfl,rfl,rfl,rfl,trivial⟩ ⟨by omega,hw,hM,rp⟩ ?_
   clear hw hM rp;rintro k w' ⟨hk,hw,hM,rp⟩
   by_cases dY:k<256
   ·obtain ⟨bx,PA⟩ : ∃ b,dC x k=b:=⟨_,rfl⟩;obtain ⟨bY,xb⟩ : ∃ b,dC y k=b:=⟨_,rfl⟩;have h1:w'.cell? ((M.getD default).add (k*1))=some (.bool bx):=hM.sl.one dY (by rw [kD,if_neg (by omega),PA];rfl)
    have h2:w'.cell? ((M2.getD default).add (k*1))=some (.bool bY):=rp.sl.one dY (by rw [kD,xb];rfl)
    have hf:jt x y k=(bx && !bY):=by simp [jt,PA,xb]
    have e1:marksOf (fun i=>if i<k+1 then jt x y i else dC x i) 256=marksOf (fun i=>if i=k then (bx && !bY) else if i<k then jt x y i else dC x i) 256:=fr fun i _=>by
     by_cases hi:i=k
     ·subst hi;rw [if_pos (by omega),if_pos rfl,hf]
     ·rw [if_neg hi];by_cases h2:i<k
      ·rw [if_pos (by omega),if_pos h2]
      ·rw [if_neg (by omega),if_neg h2]
    cases bx<;>cases bY
    all_goals
     repeat' (first|refine Wz ?_|refine SW.st (aq rfl h1) rfl ?_|refine SW.st (aq rfl h2) rfl ?_)
     first
      | refine SW.fH k 0 true hM rfl rfl rfl dY (by omega) (by rw [add_zero]) rfl fun w3 Cn hg => ?_
      | refine SW.fH k 0 false hM rfl rfl rfl dY (by omega) (by rw [add_zero]) rfl fun w3 Cn hg => ?_
     replace hw:=aO hw hg (Nat.le_refl _) hM.bc;replace rp:=rp.grown hg bW;rw [oF] at Cn;refine Wz ?_;exact ah.again (k+1) ⟨rfl,rfl,rfl,rfl,trivial⟩ (by omega) ⟨by omega,hw,by rw [e1];exact Cn,rp⟩
   ·have e:marksOf (fun i=>if i<k then jt x y i else dC x i) 256=marksOf (jt x y) 256:=fr fun i hi=>by rw [if_pos (by omega)]
    rw [e] at hM
    have ON:∀ w',Sl w' 1 qz M 256 (marksOf (jt x y) 256)→bq Tryz.prog 133 [.slice M 256 d1] w' (Ey w'.heap.size (runs (jt x y) N)):=fun w' h=>by
     have Ax:Sl w' 1 qz M N (marksOf (jt x y) N):=by rw [hN];exact h
     have h1:=zR M d1 N hN (jt x y) _ Ax;rwa [show Value.slice M N d1 = .slice M 256 d1 by rw [hN]] at h1
    refine Wz ?_;refine SW.call rfl rfl (ON _ hM.sl) fun v w3 jA hv => ?_
    obtain ⟨A2,c2,rfl,cJ⟩:=hv;have gB:=hw.size;replace hw:=Ext.trans hw jA;refine Wz ?_;exact ah.cb rfl rfl rfl ⟨_,rfl,hw,A2,c2,rfl,cJ.low gB⟩
open Go.RowKit
set_option maxHeartbeats 4000000 in
theorem FW (r:cU) (z:ao) (f s:Int) (w:World) (hr:Ca w r z) (hf:(r.aj.n+1)*24≤140737488355328) (ht:r.Types.n*8≤140737488355328) (h1 : -9223372036854775808≤r.aK∧r.aK≤9223372036854775807) (h2 : -9223372036854775808≤r.To∧r.To≤9223372036854775807) :
 bq Tryz.prog 135 [.agg (bX r).toArray,.int .i64 f,.int .i64 s] w (q9 w.heap.size (mF z f s)):=by
 refine aG Tryz.func135 rfl Tryz.ntmps135 rfl ?_;refine CW.seq (CW.region (SW.box rfl rfl fun b3 w1 hw bQ ax => ?_));refine SW.alloc rfl fun b6 w2 bF eu aA => ?_
 have dl:w.heap.size≤b6:=Nat.le_trans hw.size eu
 have lB:b3≠b6:=by have:=ax.lt;omega
 (replace hw:=Ext.trans hw bF;replace ax:=ax.ext bF);have eF:=hr.from_;have eT:=hr.lV;have IP:=hr.free.len;have MX:=hr.types.len;obtain ⟨q,hq⟩ : ∃ q,dO z=q:=⟨_,rfl⟩
 have c1:∀ w',Ext w w'→bq Tryz.prog 176 [.agg (bX r).toArray] w' fun v _=>v = .int .i64 (if q then 0 else 8):=fun w' h=>by
  have:=jg r z w' (hr.ext h) (by omega) (by omega) h1 h2
  rwa [hq] at this
 cases q
 ·simp only [Bool.false_eq_true,if_false] at c1;rw [DY hq];repeat' (first|refine Wz ?_|(refine SW.call rfl rfl (c1 _ hw) ?_;intro v w1 ae hv;subst hv;replace hw:=Ext.trans hw ae;replace ax:=ax.ext ae;replace aA:=aA.ext ae;clear ae))
  refine SW.ak aA rfl rfl rfl rfl (dr .zero) fun w5 bU hg => ?_
  replace hw:=hw.own dl hg;refine Wz ?_;exact ah.cX rfl rfl rfl bU rfl ⟨_,rfl,hw,.zero,rfl,fc.zero _ _⟩
 ·simp only [if_true] at c1;have hz:=ed.1 hq;obtain ⟨o1,o2,o3,o4,o5⟩:=hz.ok;have GV:=iO hz;by_cases yA:kC z f s
  ·obtain ⟨a1,a2,a3,a4⟩:=id yA;obtain ⟨n,rfl⟩:=Int.eq_ofNat_of_zero_le a1;rw [D0 hq yA];repeat' (first|refine Wz ?_|(refine SW.call rfl rfl (c1 _ hw) ?_;intro v w1 ae hv;subst hv;replace hw:=Ext.trans hw ae;replace ax:=ax.ext ae;replace aA:=aA.ext ae;clear ae))
   all_goals try omega
   refine SW.call rfl rfl (pu r z _ (hr.ext hw) (by omega) ht) fun v w4 eM hv => ?_
   obtain ⟨u,rfl,hs,_,_⟩:=hv;replace hs:=hs.low hw.size;(replace hw:=Ext.trans hw eM;replace ax:=ax.ext eM;replace aA:=aA.ext eM);clear c1;skip;refine SW.ak ax rfl rfl rfl rfl (dr u) fun w5 cW hg => ?_
   have hG:=ax.gr hg;replace hw:=hw.own bQ hg;replace hs:=hs.dD ax hg rfl rfl;replace aA:=aA.grown hg (by simpa using lB.symm);replace ax:=cW;clear cW hg hG;refine Wz ?_
   refine CW.loop (fun t:Nat×ao×cU=>[(1,.int .i64 f),(2,.int .i64 (n:Int)),(3,.pointer (some ⟨b3,0,none⟩)),(6,.pointer (some ⟨b6,0,none⟩)),(9,.int .i64 (f+(t.1:Int)))])
    (fun t w'=>t.1≤n∧Ext w w'∧aW w' b3 139 (bX t.2.2)∧aW w' b6 139 (bX .zero)∧fc w' w.heap.size t.2.2 t.2.1∧rc n z f=rc (n-t.1) t.2.1 (f+(t.1:Int))∧t.2.1.aj.length≤257∧t.2.1.Types.length≤32∧t.2.1.aK=z.aK∧t.2.1.To=z.To) (fun t=>n-t.1) (0,z,u)
    ⟨rfl,rfl,rfl,rfl,congrArg (fun x=>some (Value.int .i64 x)) (by simp),trivial⟩ ⟨by omega,hw,ax,aA,hs,by simp,by simp only;omega,by simp only;omega,rfl,rfl⟩ ?_
   clear hw ax aA hs;rintro ⟨k,zc,u⟩ w' ⟨hk,hw,ax,aA,hs,zf,xo,Jn,QK,Ux⟩
   simp only at hk ax hs zf xo Jn QK Ux ⊢;by_cases dY:k<n
   ·have e1:=hs.free.sl.len;have e2:=hs.types.sl.len;have e3:=hs.from_;have e4:=hs.lV;have Af:=kb zc (f+(k:Int)) 0;refine Wz ?_;refine SW.call rfl rfl (mG u zc (f+(k:Int)) 0 _ hs.rd (Nat.le_trans (Nat.mul_le_mul_right 24 (show u.aj.n+1≤258 by omega)) (by decide)) (by omega) ⟨by omega,by omega⟩ ⟨by omega,by omega⟩) fun v w5 nA hv => ?_
    obtain ⟨o,ho⟩ : ∃ o,ee zc (f+(k:Int)) 0=o:=⟨_,rfl⟩;rw [ho] at hv Af;obtain ⟨u',rfl,k8⟩:=hv;replace k8:=k8.low hw.size;(replace hw:=Ext.trans hw nA;replace ax:=ax.ext nA;replace aA:=aA.ext nA;replace hs:=hs.ext nA);refine Wz ?_;refine SW.alloc rfl fun IV w1 ae tF fB => ?_
    skip;refine SW.ak fB rfl rfl rfl rfl (dr _) fun w2 mg hg => ?_
    have ap:=ae.own tF hg;have Eh:w.heap.size≤IV:=Nat.le_trans hw.size tF
    replace hw:=Ext.trans hw ap;replace ax:=ax.ext ap;replace aA:=aA.ext ap;replace hs:=hs.ext ap;replace k8:=k8.ext ap;replace fB:=mg;clear mg ae hg ap;have Sq:=ax.lt;obtain ⟨m,hm⟩ : ∃ m,n-k=m+1:=⟨n-k-1,by omega⟩;rw [hm] at zf;simp only [rc,ho] at zf;by_cases JD:o.1=0
    ·rw [if_pos JD] at zf;rw [JD];refine Wz ?_;refine SW.ak ax rfl rfl rfl rfl (dr u') fun w6 cW hg => ?_
     replace hw:=hw.own bQ hg;replace k8:=k8.dD ax hg rfl rfl;replace aA:=aA.grown hg (by simpa using lB.symm);refine Wz ?_;obtain ⟨q1,q2,q3⟩:=Af.2.2 JD;have e9:f+(k:Int)+1=f+((k+1:Nat) : Int):=by omega
     have Uy:m=n-(k+1):=by omega
     exact ah.again (k+1,o.2,u') ⟨rfl,rfl,rfl,rfl,congrArg (fun x=>some (Value.int .i64 x)) e9,trivial⟩ (by simp only;omega) ⟨by simp only;omega,hw,cW,aA,k8,by simp only;rw [← e9,← Uy];exact zf,Af.1,Af.2.1,by simp only;omega,by simp only;omega⟩
    ·rw [if_neg JD] at zf;rw [zf];refine Wz ?_;refine SW.ak aA rfl rfl rfl rfl (dr .zero) fun w5 bU hg => ?_
     replace hw:=hw.own dl hg;refine Wz ?_;exact ah.cX rfl rfl rfl bU rfl ⟨_,rfl,hw,.zero,rfl,fc.zero _ _⟩
   ·have e0:n-k=0:=by omega
    rw [e0] at zf;simp only [rc] at zf;rw [zf];refine Wz ?_;refine SW.ak aA rfl rfl rfl rfl (dr u) fun w5 bU hg => ?_
    replace hw:=hw.own dl hg;replace hs:=hs.dD aA hg rfl rfl;refine Wz ?_;exact ah.cX rfl rfl rfl bU rfl ⟨_,rfl,hw,u,rfl,hs⟩
  ·rw [DZ hq yA];unfold kC at yA;repeat' (first|refine Wz ?_|refine SW.cw rfl rfl rfl (fun h => ?_) (fun h => ?_)|(refine SW.call rfl rfl (c1 _ hw) ?_;intro v w1 ae hv;subst hv;replace hw:=Ext.trans hw ae;replace ax:=ax.ext ae;replace aA:=aA.ext ae;clear ae))
   all_goals
    first
     | (exfalso;omega)
     | (refine SW.ak aA rfl rfl rfl rfl (dr .zero) fun w5 bU hg => ?_
        replace hw:=hw.own dl hg;refine Wz ?_;exact ah.cX rfl rfl rfl bU rfl ⟨_,rfl,hw,.zero,rfl,fc.zero _ _⟩)
noncomputable def kF (z:ao) (p:Int) : ao:=(ee z p 0).2
noncomputable def jX:Nat→ao→Int→ao
 | 0,z,_=>z
 | k+1,z,p=>jX k (kF z p) (p+1)
theorem qH:∀ (k:Nat) (z:ao) (p:Int),jX (k+1) z p=kF (jX k z p) (p+k)
 | 0,z,p=>by simp [jX]
 | k+1,z,p=>by
   rw [jX,qH k,jX];congr 1
   omega
theorem wF {z:ao} {p o:Int} (h:(ee z p o).1≠0) : (ee z p o).2 = .zero:=by
 cases hq:dO z
 ·rw [rb hq]
 ·by_cases hf:fU z.aK z.To p o
  ·cases ho:iC z.aj p o
   ·exfalso;obtain ⟨⟨l,a',o'⟩,hj⟩ : ∃ u,fV 5 z.aj p o=u:=⟨_,rfl⟩;rw [uD hq hf ho hj rfl] at h;exact h rfl
   ·rw [ze hq hf ho]
  ·rw [uC hq hf]
theorem wG {z:ao} {p:Int} (h:p<z.aK∨z.To≤p) : kF z p = .zero:=by
 unfold kF;cases hq:dO z
 ·rw [rb hq]
 ·rw [uC hq (fun hf=>by unfold fU at hf;omega)]
theorem FX (p:Int) : kF .zero p = .zero:=wG (by simp only [ao.zero];omega)
theorem fold_zero:∀ (k:Nat) (p:Int),jX k .zero p = .zero
 | 0,_=>rfl
 | k+1,p=>by rw [jX,FX,fold_zero k]
theorem wH:∀ (k:Nat) (z:ao) (p:Int),(rc k z p).2=jX k z p
 | 0,_,_=>rfl
 | k+1,z,p=>by
   rw [rc,jX];split
   ·exact wH k _ _
   ·rename_i h;rw [kF,wF h,fold_zero]
theorem BI:∀ (k:Nat) (z:ao) (p:Int),p≤z.To→z.To<p+k→jX k z p = .zero
 | 0,z,p,h1,h2=>by omega
 | k+1,z,p,h1,h2=>by
   rw [jX];by_cases e:p=z.To
   ·rw [wG (by omega),fold_zero]
   ·by_cases h:(ee z p 0).1=0
    ·have:=((kb z p 0).2.2 h).2.1
     exact BI k _ _ (by rw [kF];omega) (by rw [kF];omega)
    ·rw [kF,wF h,fold_zero]
theorem yB {k:Nat} (z:ao) (p:Int) (h : 0<k) : (mF z p (k:Int)).2=jX k z p:=by
 obtain ⟨k,rfl⟩ : ∃ m,k=m+1:=⟨k-1,by omega⟩;cases hq:dO z
 ·rw [DY hq,jX,kF,rb hq,fold_zero]
 ·by_cases ha:kC z p ((k+1:Nat) : Int)
  ·rw [D0 hq ha,wH]
  ·rw [DZ hq ha];unfold kC at ha;by_cases h1:p<z.aK∨z.To≤p
   ·rw [jX,wG h1,fold_zero]
   ·exact (BI _ _ _ (by omega) (by omega)).symm
noncomputable def eW (l:List Region) (split:Int) : Nat→ao×ao
 | 0=>((fI 0 split).2,(fI split 256).2)
 | p+1=>if dC l p then (if (p:Int)<split then (kF (eW l split p).1 p,(eW l split p).2) else ((eW l split p).1,kF (eW l split p).2 p)) else eW l split p
theorem tc {l:List Region} {split:Int} {p:Nat}:∀ n:Nat,(∀ i:Nat,i<n→dC l ((p+i:Nat) : Int)=false)→eW l split (p+n)=eW l split p
 | 0,_=>rfl
 | n+1,h=>by
   rw [← Nat.add_assoc,eW,h n (by omega),if_neg (by simp)];exact tc n fun i hi=>h i (by omega)
theorem BJ {l:List Region} {split:Int} {p:Nat}:∀ n:Nat,(∀ i:Nat,i<n→dC l ((p+i:Nat) : Int)=true∧((p+i:Nat) : Int)<split)→eW l split (p+n)=(jX n (eW l split p).1 p,(eW l split p).2)
 | 0,_=>rfl
 | n+1,h=>by
   rw [← Nat.add_assoc,eW,(h n (by omega)).1,if_pos rfl,if_pos (h n (by omega)).2,BJ n fun i hi=>h i (by omega),qH];simp
theorem yC {l:List Region} {split:Int} {p:Nat}:∀ n:Nat,(∀ i:Nat,i<n→dC l ((p+i:Nat) : Int)=true∧split≤((p+i:Nat) : Int))→eW l split (p+n)=((eW l split p).1,jX n (eW l split p).2 p)
 | 0,_=>rfl
 | n+1,h=>by
   rw [← Nat.add_assoc,eW,(h n (by omega)).1,if_pos rfl,if_neg (by have:=(h n (by omega)).2;omega),yC n fun i hi=>h i (by omega),qH];simp
def dc (l:List Region) (k:Nat) : Int:=match k with
 | 0=>0
 | k+1=>if h:k<l.length then l[k].aK+l[k].aE else 256
theorem pK {l:List Region} (h:fh l) : ∀ (j:Nat) (hj:j<l.length) (i:Nat) (hi:i<j),(l[i]'(Nat.lt_trans hi hj)).aK+(l[i]'(Nat.lt_trans hi hj)).aE<l[j].aK
 | 0,_,i,hi=>by omega
 | j+1,hj,i,hi=>by
   have h1:=(h.2 (j+1) hj).2 (by omega);simp only [Nat.add_sub_cancel] at h1;by_cases e:i=j
   ·subst e;exact h1
   ·have h2:=pK h j (by omega) i (by omega);have h3:=(h.2 j (by omega)).1;unfold Region.ok at h3;omega
theorem FY {l:List Region} {k:Nat} (hk:k<l.length) : dc l (k+1)=l[k].aK+l[k].aE:=by simp only [dc,dif_pos hk]
theorem Ii {l:List Region} (h:fh l) {k:Nat} (hk:k<l.length) : 0≤dc l k∧dc l k≤l[k].aK:=by
 have h0:=(h.2 k hk).1;unfold Region.ok at h0;cases k with
 | zero=>simp only [dc];omega
 | succ k =>
   have h1:=(h.2 k (by omega)).1;unfold Region.ok at h1;have h2:=pK h (k+1) hk k (by omega);simp only [dc,dif_pos (show k<l.length by omega)];omega
theorem qj {l:List Region} (h:fh l) {k:Nat} (hk:k≤l.length) {p:Int} (h1:dc l k≤p) (h2:∀ hk:k<l.length,p<l[k].aK) : dC l p=false:=by
 unfold dC;rw [List.any_eq_false];intro r hr;obtain ⟨j,hj,rfl⟩:=List.getElem_of_mem hr;have h0:=(h.2 j hj).1;unfold Region.ok at h0;simp only [Bool.and_eq_true,decide_eq_true_eq,not_and];intro h3 h4;by_cases na:j<k
 ·obtain ⟨m,rfl⟩ : ∃ m,k=m+1:=⟨k-1,by omega⟩;simp only [dc,dif_pos (show m<l.length by omega)] at h1;by_cases e:j=m
  ·subst e;omega
  ·have h5:=pK h m (by omega) j (by omega);have h6:=(h.2 m (by omega)).1;unfold Region.ok at h6;omega
 ·have h5:=h2 (by omega);by_cases e:k=j
  ·subst e;omega
  ·have h6:=pK h j hj k (by omega);have h7:=(h.2 k (by omega)).1;unfold Region.ok at h7;omega
theorem BK {l:List Region} {k:Nat} (hk:k<l.length) {p:Int} (h1:l[k].aK≤p) (h2:p<l[k].aK+l[k].aE) : dC l p=true:=by
 unfold dC;rw [List.any_eq_true];exact ⟨l[k],List.getElem_mem hk,by simp;omega⟩
def jc (r:Region) (split:Int) : Int:=max 0 (min (r.aK+r.aE) split-r.aK)
noncomputable def kV (l:List Region) (split:Int) (k:Nat) : ao×ao:=eW l split (dc l k).toNat
noncomputable def qI (z:ao) (f s:Int) : ao:=if 0<s then (mF z f s).2 else z
theorem wI {z:ao} {f s:Int} (h : 0<s) : (mF z f s).2=qI z f s:=by rw [qI,if_pos h]
theorem BL {z:ao} {f s:Int} (h : ¬ 0<s) : z=qI z f s:=by rw [qI,if_neg h]
theorem Dt {l:List Region} (h:fh l) {split:Int} {k:Nat} (hk:k<l.length) :
 kV l split (k+1)=(qI (kV l split k).1 l[k].aK (jc l[k] split),qI (kV l split k).2 (l[k].aK+jc l[k] split) (l[k].aE-jc l[k] split)):=by
 have h0:=(h.2 k hk).1;unfold Region.ok at h0;have hs:=Ii h hk;have hb : 0≤jc l[k] split∧jc l[k] split≤l[k].aE∧(0<jc l[k] split→l[k].aK+jc l[k] split≤split)∧(jc l[k] split<l[k].aE→split≤l[k].aK+jc l[k] split):=by unfold jc;omega
 obtain ⟨b,Rc⟩ : ∃ b,jc l[k] split=b:=⟨_,rfl⟩;rw [Rc] at hb ⊢;obtain ⟨b1,b2,b3,b4⟩:=hb;unfold kV
 have e1:(dc l (k+1)).toNat=((dc l k).toNat+(l[k].aK-dc l k).toNat+b.toNat)+(l[k].aE-b).toNat:=by
  rw [FY hk];omega
 have e2:((dc l k).toNat+(l[k].aK-dc l k).toNat:Nat)=l[k].aK.toNat:=by omega
 rw [e1,yC (p:=(dc l k).toNat+(l[k].aK-dc l k).toNat+b.toNat) (l[k].aE-b).toNat,BJ (p:=(dc l k).toNat+(l[k].aK-dc l k).toNat) b.toNat,tc (p:=(dc l k).toNat) (l[k].aK-dc l k).toNat]
 ·rw [e2];unfold qI
  have g1:jX b.toNat (eW l split (dc l k).toNat).1 (l[k].aK.toNat:Int)=if 0<b then (mF (eW l split (dc l k).toNat).1 l[k].aK b).2 else (eW l split (dc l k).toNat).1:=by
   split
   ·have:=yB (k:=b.toNat) (eW l split (dc l k).toNat).1 l[k].aK (by omega)
    rw [Int.toNat_of_nonneg b1] at this;rw [this,Int.toNat_of_nonneg (by omega)]
   ·rw [show b.toNat=0 by omega];rfl
  have g2:jX (l[k].aE-b).toNat (eW l split (dc l k).toNat).2 ((l[k].aK.toNat+b.toNat:Nat) : Int)=if 0<l[k].aE-b then (mF (eW l split (dc l k).toNat).2 (l[k].aK+b) (l[k].aE-b)).2 else (eW l split (dc l k).toNat).2:=by
   split
   ·have:=yB (k:=(l[k].aE-b).toNat) (eW l split (dc l k).toNat).2 (l[k].aK+b) (by omega)
    rw [Int.toNat_of_nonneg (by omega)] at this;rw [this,show ((l[k].aK.toNat+b.toNat:Nat) : Int)=l[k].aK+b by omega]
   ·rw [show (l[k].aE-b).toNat=0 by omega];rfl
  simp only [g1,g2]
 ·intro i hi;exact qj (k:=k) h (by omega) (by omega) (fun _=>by omega)
 ·intro i hi;rw [e2];exact ⟨BK hk (by omega) (by omega),by omega⟩
 ·intro i hi;rw [e2];exact ⟨BK hk (by omega) (by omega),by omega⟩
theorem FZ {l:List Region} (h:fh l) (split:Int) : kV l split l.length=eW l split 256:=by
 have hs : 0≤dc l l.length∧dc l l.length≤256:=by
  cases he:l.length with
  | zero=>simp [dc]
  | succ k =>
    have h0:=(h.2 k (by omega)).1;unfold Region.ok at h0;simp only [dc,dif_pos (show k<l.length by omega)];omega
 unfold kV;have:=tc (l:=l) (split:=split) (p:=(dc l l.length).toNat) (256-(dc l l.length).toNat) fun i hi=>qj (k:=l.length) h (Nat.le_refl _) (by omega) (fun hk=>absurd hk (Nat.lt_irrefl _))
 rw [← this];congr 1
 omega
structure pe (z:ao) : Prop where
 free:z.aj.length≤257
 types:z.Types.length≤32
 from_ : 0≤z.aK∧z.aK≤256
 lV : 0≤z.To∧z.To≤256
theorem Du:pe .zero:=by constructor<;>simp [ao.zero]
theorem wJ {z:ao} (h:pe z) (p:Int) : pe (kF z p):=by
 unfold kF;by_cases e:(ee z p 0).1=0
 ·obtain ⟨h1,h2,h3⟩:=kb z p 0;obtain ⟨h4,h5,_⟩:=h3 e;exact ⟨h1,h2,by rw [h4];exact h.from_,by rw [h5];exact h.lV⟩
 ·rw [wF e];exact Du
theorem yD {f t:Int} (h:dI f t) : pe (fI f t).2:=by
 rw [g9 h];unfold dI at h;exact ⟨by simp,by simp;omega,by simp only;omega,by simp only;omega⟩
theorem BM {split:Int}:dI split 256↔dI 0 split:=by unfold dI;omega
theorem nP {l:List Region} {split:Int} (h:dI 0 split) : ∀ p,pe (eW l split p).1∧pe (eW l split p).2
 | 0=>⟨yD h,yD (BM.2 h)⟩
 | p+1=>by
   have ih:=nP (l:=l) h p;unfold eW;split
   ·split
    ·exact ⟨wJ ih.1 _,ih.2⟩
    ·exact ⟨ih.1,wJ ih.2 _⟩
   ·exact ih
def kx (split least cpus:Int) : Prop:=dI 0 split∧(0≤least∧least≤256)∧(1≤cpus∧cpus≤4)
instance (a b c:Int) : Decidable (kx a b c):=inferInstanceAs (Decidable (_∧_))
def nQ (z:ao×ao) (least cpus:Int) : Heap:=⟨[z.1,z.2],[least,least],cpus,[],[]⟩
noncomputable def eX (l:List Region) (split least cpus:Int) : Int×Heap :=
 if dH l then (if kx split least cpus then (0,nQ (eW l split 256) least cpus) else (1,⟨[],[],0,[],[]⟩)) else (8,⟨[],[],0,[],[]⟩)
theorem qJ {l:List Region} {a b c:Int} (h:dH l=false) : eX l a b c=(8,⟨[],[],0,[],[]⟩):=by simp [eX,h]
theorem nR {l:List Region} {a b c:Int} (h:dH l=true) (ha : ¬ kx a b c) : eX l a b c=(1,⟨[],[],0,[],[]⟩):=by simp [eX,h,ha]
theorem nS {l:List Region} {a b c:Int} (h:dH l=true) (ha:kx a b c) : eX l a b c=(0,nQ (eW l a 256) b c):=by simp [eX,h,ha]
open Go.RowKit
theorem fc.small {w:World} {lo:Nat} {r:cU} {z:ao} (h:fc w lo r z) (hs:pe z) : (r.aj.n+1)*24≤140737488355328∧r.Types.n*8≤140737488355328∧(-9223372036854775808≤r.aK∧r.aK≤9223372036854775807)∧(-9223372036854775808≤r.To∧r.To≤9223372036854775807):=by
 have e1:=h.free.sl.len;have e2:=h.types.sl.len;have e3:=h.from_;have e4:=h.lV;obtain ⟨h1,h2,h3,h4⟩:=hs;refine ⟨Nat.le_trans (Nat.mul_le_mul_right 24 (show r.aj.n+1≤258 by omega)) (by decide),by omega,by omega,by omega⟩
theorem Ij {w':World} {lo:Nat} {r:cU} {z:ao} (f s:Int) (h:fc w' lo r z) (hs:pe z) : bq Tryz.prog 135 [.agg (bX r).toArray,.int .i64 f,.int .i64 s] w' (q9 w'.heap.size (mF z f s)):=by
 obtain ⟨h1,h2,h3,h4⟩:=h.small hs;exact FW r z f s w' h.rd h1 h2 h3 h4
set_option maxHeartbeats 4000000 in
theorem Ik (A:Option Addr) (n c:Nat) (l:List Region) (split least cpus:Int) (w:World) (hl:Sl w 2 iM A n l) (hn:n≤9223372036854775807) (IY : -9223372036854775808≤split∧split≤9223372036854775807) :
 bq Tryz.prog 56 [.slice A n c,.int .i64 split,.int .i64 least,.int .i64 cpus] w (ja w.heap.size (eX l split least cpus)):=by
 refine aG Tryz.func56 rfl Tryz.ntmps56 rfl ?_;refine CW.seq (CW.region (SW.alloc rfl fun b8 w1 hw zM bA => ?_));have kn:=zM;obtain ⟨q,hq⟩ : ∃ q,dH l=q:=⟨_,rfl⟩
 have c1:∀ w',Ext w w'→bq Tryz.prog 131 [.agg (mT A n c none 0 0).toArray] w' fun v _=>v = .int .i64 (if q then 0 else 8):=fun w' h=>by
  have:=yx A n c none 0 0 l [] w' (hl.ext h) (Sl.gz _ _ _ _) hn (by omega)
  have e:mU l []=q:=by
   have:dH []=true:=j9 ⟨by simp,fun i h=>by simp at h⟩
   simp [mU,this,hq]
  rwa [e] at this
 cases q
 ·simp only [Bool.false_eq_true,if_false] at c1;rw [qJ hq];repeat' (first|refine Wy ?_|(refine SW.call rfl rfl (c1 _ hw) ?_;intro v w1 ae hv;subst hv;replace hw:=Ext.trans hw ae;replace bA:=bA.ext ae;clear ae))
  refine SW.ak bA rfl rfl rfl rfl (dJ .zero) fun w5 bU hg => ?_
  replace hw:=hw.own kn hg;repeat' (first|refine Wy ?_|fail);exact ah.cX rfl rfl rfl bU rfl ⟨_,rfl,hw,ja.zero 8 _ _⟩
 ·simp only [if_true] at c1;have jv:=qV.1 hq;repeat' (first|refine Wy ?_|(refine SW.call rfl rfl (c1 _ hw) ?_;intro v w1 ae hv;subst hv;replace hw:=Ext.trans hw ae;replace bA:=bA.ext ae;clear ae))
  refine SW.call rfl rfl (vt 0 split _ (by omega) IY) fun v w4 eM hv => ?_
  obtain ⟨o1,H4⟩ : ∃ o,fI 0 split=o:=⟨_,rfl⟩;rw [H4] at hv;obtain ⟨u1,rfl,iF⟩:=hv;replace iF:=iF.low hw.size;(replace hw:=Ext.trans hw eM;replace bA:=bA.ext eM);clear c1;have Uz:=bA.lt;repeat' (first|refine Wy ?_|fail);refine SW.alloc rfl fun IV w1 ae tF fB => ?_
  skip;refine SW.ak fB rfl rfl rfl rfl (dr u1) fun w2 mg hg => ?_
  have ap:=ae.own tF hg;have Eh:w.heap.size≤IV:=Nat.le_trans hw.size tF
  replace hw:=Ext.trans hw ap;replace bA:=bA.ext ap;replace iF:=iF.ext ap;replace fB:=mg;clear mg ae hg ap;have Il:b8≠IV:=by omega
  repeat' (first|refine Wy ?_|fail);refine SW.call rfl rfl (vt split 256 _ IY (by omega)) fun v w4 eM hv => ?_
  obtain ⟨o2,J3⟩ : ∃ o,fI split 256=o:=⟨_,rfl⟩;rw [J3] at hv;obtain ⟨u2,rfl,mV⟩:=hv;replace mV:=mV.low hw.size;(replace hw:=Ext.trans hw eM;replace bA:=bA.ext eM;replace fB:=fB.ext eM;replace iF:=iF.ext eM);repeat' (first|refine Wy ?_|fail);have Sr:=fB.lt;have UA:=bA.lt;refine SW.alloc rfl fun De w1 ae tM dG => ?_
  skip;refine SW.ak dG rfl rfl rfl rfl (dr u2) fun w2 pd hg => ?_
  have ap:=ae.own tM hg;have yu:w.heap.size≤De:=Nat.le_trans hw.size tM
  replace hw:=Ext.trans hw ap;replace bA:=bA.ext ap;replace fB:=fB.ext ap;replace iF:=iF.ext ap;replace mV:=mV.ext ap;replace dG:=pd;clear pd ae hg ap;have zS:IV≠De:=by omega
  have MJ:b8≠De:=by omega
  by_cases hz:dI 0 split
  ·have g1:o1.1=0:=by rw [← H4,g9 hz]
   have g2:o2.1=0:=by rw [← J3,g9 (BM.2 hz)]
   rw [g1,g2];by_cases ha:kx split least cpus
   ·obtain ⟨_,⟨a1,a2⟩,a3,a4⟩:=id ha;obtain ⟨z1,z2,z3,z4,z5⟩:=id hz;rw [nS hq ha];have hA:=hl.base;have pp:=hl.len;repeat' (first|refine Wy ?_|fail);have i1:o1.2=(kV l split 0).1:=by rw [← H4];rfl
    have i2:o2.2=(kV l split 0).2:=by rw [← J3];rfl
    rw [i1] at iF;rw [i2] at mV
    refine CW.loop (fun t:Nat×cU×cU=>[(1,.int .i64 split),(2,.int .i64 least),(3,.int .i64 cpus),(8,.pointer (some ⟨b8,0,none⟩)),(10,.pointer (some ⟨IV,0,none⟩)),(12,.pointer (some ⟨De,0,none⟩)),(55,.slice A n c),(56,.int .i64 (n:Int)),(57,.int .i64 (t.1:Int))])
     (fun t w'=>t.1≤n∧Ext w w'∧aW w' b8 41 (cV .zero)∧aW w' IV 139 (bX t.2.1)∧aW w' De 139 (bX t.2.2)∧fc w' w.heap.size t.2.1 (kV l split t.1).1∧fc w' w.heap.size t.2.2 (kV l split t.1).2) (fun t=>n-t.1) (0,u1,u2)
     ⟨rfl,rfl,rfl,rfl,rfl,rfl,rfl,rfl,rfl,trivial⟩ ⟨by omega,hw,bA,fB,dG,iF,mV⟩ ?_
    clear hw bA fB dG iF mV;rintro ⟨k,u1,u2⟩ w' ⟨hk,hw,bA,fB,dG,iF,mV⟩
    simp only at hk fB dG iF mV ⊢;have hm:=nP (l:=l) hz (dc l k).toNat;by_cases dY:k<n
    ·have fe:=hl.lt dY;have wD:=(jv.2 k fe).1;unfold Region.ok at wD;have LO:=Dt jv (split:=split) fe;obtain ⟨e1,Nj⟩ : ∃ e,jc l[k] split=e:=⟨_,rfl⟩;have Rd:max 0 (min (l[k].aK+l[k].aE) split-l[k].aK)=e1:=Nj
     have Qh : 0≤e1∧e1≤l[k].aE:=by omega
     rw [Nj] at LO;repeat' (first|refine Wy ?_|refine SW.st (aU hw rfl rfl ((hl.all dY))) rfl ?_)
     have VQ:=fB.lt;have VR:=dG.lt;refine SW.alloc rfl fun xP w1 ae Bm cq => ?_
     skip;refine SW.ak cq rfl rfl rfl rfl (fP.one (enc:=iM) _) fun w2 lZ hg => ?_
     have ap:=ae.own Bm hg;have Od:w.heap.size≤xP:=Nat.le_trans hw.size Bm
     replace hw:=Ext.trans hw ap;replace bA:=bA.ext ap;replace fB:=fB.ext ap;replace dG:=dG.ext ap;replace iF:=iF.ext ap;replace mV:=mV.ext ap;replace cq:=lZ;clear lZ ae hg ap;have d10:IV≠xP:=by omega
     have d12:De≠xP:=by omega
     by_cases h2:e1<l[k].aE
     ·by_cases h1 : 0<e1
      case' pos =>
       repeat' (first|refine Wy ?_|refine SW.st (aq rfl (cq.cell rfl)) rfl ?_|refine SW.st (aB rfl rfl ((fun _ _=>fB.cell))) rfl ?_|(refine SW.st (yZ rfl rfl) rfl ?_)|(refine SW.st (yY rfl rfl) rfl ?_))
       rw [Rd];refine SW.call rfl rfl (Ij l[k].aK e1 iF hm.1) fun v w4 eM hv => ?_
       obtain ⟨u3,rfl,sb⟩:=hv;replace sb:=sb.low hw.size;(replace hw:=Ext.trans hw eM;replace bA:=bA.ext eM;replace fB:=fB.ext eM;replace dG:=dG.ext eM;replace cq:=cq.ext eM;replace iF:=iF.ext eM;replace mV:=mV.ext eM);repeat' (first|refine Wy ?_|fail);refine SW.ak fB rfl rfl rfl rfl (dr u3) fun w5 mg hg => ?_
       replace hw:=hw.own Eh hg;replace mV:=mV.dD fB hg rfl rfl;replace sb:=sb.dD fB hg rfl rfl;replace bA:=bA.grown hg (by simpa using Il);replace dG:=dG.grown hg (by simpa using Ne.symm zS);replace cq:=cq.grown hg (by simpa using Ne.symm d10);replace fB:=mg;clear mg hg iF;have iF:=sb;rw [wI h1] at iF;clear sb;repeat' (first|refine Wy ?_|fail)
      case' neg =>
       repeat' (first|refine Wy ?_|refine SW.st (aq rfl (cq.cell rfl)) rfl ?_|(refine SW.st (yZ rfl rfl) rfl ?_)|(refine SW.st (yY rfl rfl) rfl ?_))
       rw [Rd];have sb:=iF;clear iF;obtain ⟨u3,UB⟩ : ∃ u,u=u1:=⟨_,rfl⟩;rw [← UB] at sb fB;have iF:=sb;rw [BL (z:=(kV l split k).1) (f:=l[k].aK) h1] at iF;clear sb
      all_goals
       repeat' (first|refine Wy ?_|refine SW.st (aq rfl (cq.cell rfl)) rfl ?_|refine SW.st (aB rfl rfl ((fun _ _=>dG.cell))) rfl ?_)
       refine SW.call rfl rfl (Ij (l[k].aK+e1) (l[k].aE-e1) mV hm.2) fun v w4 eM hv => ?_
       obtain ⟨u4,rfl,sb⟩:=hv;replace sb:=sb.low hw.size;(replace hw:=Ext.trans hw eM;replace bA:=bA.ext eM;replace fB:=fB.ext eM;replace dG:=dG.ext eM;replace cq:=cq.ext eM;replace iF:=iF.ext eM;replace mV:=mV.ext eM);repeat' (first|refine Wy ?_|fail);refine SW.ak dG rfl rfl rfl rfl (dr u4) fun w5 pd hg => ?_
       replace hw:=hw.own yu hg;replace iF:=iF.dD dG hg rfl rfl;replace sb:=sb.dD dG hg rfl rfl;replace bA:=bA.grown hg (by simpa using MJ);replace fB:=fB.grown hg (by simpa using zS);replace dG:=pd;clear pd hg mV;have mV:=sb;rw [wI (by omega)] at mV;clear sb;repeat' (first|refine Wy ?_|fail)
      all_goals
       refine ah.again (k+1,u3,u4) ⟨rfl,rfl,rfl,rfl,rfl,rfl,rfl,rfl,rfl,trivial⟩ (by simp only;omega) ⟨by simp only;omega,hw,bA,fB,dG,?_,?_⟩
       ·simp only;rw [LO];exact iF
       ·simp only;rw [LO];exact mV
     ·have h1 : 0<e1:=by omega
      repeat' (first|refine Wy ?_|refine SW.st (aq rfl (cq.cell rfl)) rfl ?_|refine SW.st (aB rfl rfl ((fun _ _=>fB.cell))) rfl ?_|(refine SW.st (yZ rfl rfl) rfl ?_)|(refine SW.st (yY rfl rfl) rfl ?_))
      rw [Rd];refine SW.call rfl rfl (Ij l[k].aK e1 iF hm.1) fun v w4 eM hv => ?_
      obtain ⟨u3,rfl,sb⟩:=hv;replace sb:=sb.low hw.size;(replace hw:=Ext.trans hw eM;replace bA:=bA.ext eM;replace fB:=fB.ext eM;replace dG:=dG.ext eM;replace cq:=cq.ext eM;replace iF:=iF.ext eM;replace mV:=mV.ext eM);repeat' (first|refine Wy ?_|fail);refine SW.ak fB rfl rfl rfl rfl (dr u3) fun w5 mg hg => ?_
      replace hw:=hw.own Eh hg;replace mV:=mV.dD fB hg rfl rfl;replace sb:=sb.dD fB hg rfl rfl;replace bA:=bA.grown hg (by simpa using Il);replace dG:=dG.grown hg (by simpa using Ne.symm zS);replace cq:=cq.grown hg (by simpa using Ne.symm d10);replace fB:=mg;clear mg hg iF;have iF:=sb;rw [wI h1] at iF;clear sb;repeat' (first|refine Wy ?_|fail);repeat' (first|refine Wy ?_|refine SW.st (aq rfl (cq.cell rfl)) rfl ?_)
      have sb:=mV;clear mV;obtain ⟨u4,UC⟩ : ∃ u,u=u2:=⟨_,rfl⟩;rw [← UC] at sb dG;have mV:=sb;rw [BL (z:=(kV l split k).2) (f:=l[k].aK+e1) (s:=l[k].aE-e1) (by omega)] at mV;clear sb;refine ah.again (k+1,u3,u4) ⟨rfl,rfl,rfl,rfl,rfl,rfl,rfl,rfl,rfl,trivial⟩ (by simp only;omega) ⟨by simp only;omega,hw,bA,fB,dG,?_,?_⟩
      ·simp only;rw [LO];exact iF
      ·simp only;rw [LO];exact mV
    ·have ek:k=l.length:=by omega
     have OO:=FZ jv split;rw [← ek] at OO;rw [OO] at iF mV;repeat' (first|refine Wy ?_|refine SW.st (aB rfl rfl ((fun _ _=>fB.cell))) rfl ?_|refine SW.st (aB rfl rfl ((fun _ _=>dG.cell))) rfl ?_)
     refine SW.wa (enc:=bX) u1 u2 rfl rfl rfl rfl rfl rfl fun g w2 r5 QC hZ => ?_
     replace hZ:=hZ.low hw.size;(replace hw:=Ext.trans hw r5;replace bA:=bA.ext r5;replace iF:=iF.ext r5;replace mV:=mV.ext r5);repeat' (first|refine Wy ?_|fail);refine SW.wa (enc:=bK) least least rfl rfl rfl rfl rfl rfl fun g' w3 nY UD hM => ?_
     replace hM:=hM.low hw.size;(replace hw:=Ext.trans hw nY;replace bA:=bA.ext nY;replace iF:=iF.ext nY;replace mV:=mV.ext nY;replace hZ:=hZ.ext nY);repeat' (first|refine Wy ?_|fail);refine SW.ak bA rfl rfl rfl rfl (dJ ⟨⟨some ⟨g,0,none⟩,2,2⟩,⟨some ⟨g',0,none⟩,2,2⟩,cpus,.nil,.nil⟩) fun w5 bU hg => ?_
     replace hw:=hw.own kn hg;replace iF:=iF.dD bA hg rfl rfl;replace mV:=mV.dD bA hg rfl rfl;replace hZ:=hZ.grown hg (.inr (hZ.dq bA rfl));replace hM:=hM.grown hg (.inr (hM.dq bA rfl));repeat' (first|refine Wy ?_|fail);exact ah.cX rfl rfl rfl bU rfl ⟨_,rfl,hw,⟨⟨some ⟨g,0,none⟩,2,2⟩,⟨some ⟨g',0,none⟩,2,2⟩,cpus,.nil,.nil⟩,rfl,⟨rfl,hM,Own.gz _ _ _ _ _ _,⟨[u1,u2],⟨hZ,eK.two iF mV⟩⟩,⟨[],.nil _ _⟩⟩⟩
   ·rw [nR hq ha];have iY : ¬ ((0≤least∧least≤256)∧1≤cpus∧cpus≤4):=fun h=>ha ⟨hz,h⟩
    repeat' (first|refine Wy ?_|refine SW.cw rfl rfl rfl (fun h => ?_) (fun h => ?_))
    all_goals try omega
    all_goals
     refine SW.ak bA rfl rfl rfl rfl (dJ .zero) fun w5 bU hg => ?_
     replace hw:=hw.own kn hg;repeat' (first|refine Wy ?_|fail);exact ah.cX rfl rfl rfl bU rfl ⟨_,rfl,hw,ja.zero 1 _ _⟩
  ·have g1:o1.1=1:=by rw [← H4,lu hz]
   rw [g1,nR hq (fun h=>hz h.1)];repeat' (first|refine Wy ?_|fail);refine SW.ak bA rfl rfl rfl rfl (dJ .zero) fun w5 bU hg => ?_
   replace hw:=hw.own kn hg;repeat' (first|refine Wy ?_|fail);exact ah.cX rfl rfl rfl bU rfl ⟨_,rfl,hw,ja.zero 1 _ _⟩
open Go.RowKit
theorem wK (l:List Region) (split least cpus:Int) : (eX l split least cpus).2.small:=by
 cases hq:dH l
 ·rw [qJ hq];constructor<;>simp
 ·by_cases ha:kx split least cpus
  ·rw [nS hq ha];obtain ⟨h1,h2⟩:=nP (l:=l) ha.1 256;constructor<;>simp [nQ]
   exact ⟨⟨by have:=h1.free;omega,by have:=h1.types;omega⟩,by have:=h2.free;omega,by have:=h2.types;omega⟩
  ·rw [nR hq ha];constructor<;>simp
open Go.RowKit
inductive rS (s0:ag) : Nat→ag→Prop where
 | zero:rS s0 0 s0
 | succ {j:Nat} {s:ag} {u:ag×Int} (m:rS s0 j s) (h:nF s (kh (kP j)) (kP j) 1 u) : rS s0 (j+1) u.1
theorem ag.yE:ag.zero.dW:=⟨ag.jk,by simp [ag.zero,Heap.zero],by simp [ag.zero],by simp [ag.zero]⟩
theorem nF.dW {s:ag} {n:ByteArray} {size align:Int} {u:ag×Int} (a:nF s n size align u) (hf:s.dW) (hn:n.size≤140737488351232) : u.1.dW:=by
 have vN:=a.small hf.small;cases a with
 | bad|form|range|fA|full=>exact ag.yE
 | @uM i h p7 k8 ht hi hz ha =>
   refine ⟨vN,hf.cj,fun c hm => ?_,fun c hm => ?_⟩
   ·rcases List.mem_or_eq_of_mem_set hm with hm|rfl
    ·exact hf.aH c hm
    ·exact hf.aH s.aa[i] (List.getElem_mem hi)
   ·rcases List.mem_or_eq_of_mem_set hm with hm|rfl
    ·exact hf.names c hm
    ·intro m yv;simp only [rB] at yv;unfold aN at yv;simp only [List.mem_append,List.mem_singleton] at yv;rcases yv with (yv|rfl)|yv
     ·exact hf.names _ (List.getElem_mem hi) _ (List.mem_of_mem_take yv)
     ·exact hn
     ·exact hf.names _ (List.getElem_mem hi) _ (List.mem_of_mem_drop yv)
 | new h p7 k8 ht hz hc =>
   refine ⟨vN,hf.cj,fun c hm => ?_,fun c hm => ?_⟩
   ·rcases List.mem_append.1 hm with hm|hm
    ·exact hf.aH c hm
    ·simp only [List.mem_singleton] at hm;subst hm;simp [iT]
   ·rcases List.mem_append.1 hm with hm|hm
    ·exact hf.names c hm
    ·simp only [List.mem_singleton] at hm;subst hm;simpa [iT] using hn
theorem rS.dW {s0:ag} {j:Nat} {s:ag} (x:rS s0 j s) : s0.dW→j≤6→s.dW:=by
 induction x with
 | zero=>exact fun h _=>h
 | succ m h ih=>exact fun hf hj=>h.dW (ih hf (by omega)) (yg (by omega))
def Dv (h:Heap) : ag:=⟨List.replicate 4096 0,h,[]⟩
theorem Im {l:List Region} {split:Int} (h:dI 0 split) : ∀ z∈[(eW l split 256).1,(eW l split 256).2],eU z:=by
 obtain ⟨h1,h2⟩:=nP (l:=l) h 256;have a1:=h1.from_;have a2:=h1.lV;have a3:=h2.from_;have a4:=h2.lV
 refine uP ⟨?_,?_⟩<;>(unfold eU;omega)
inductive iy (o:Int×List Region) (split least cpus:Int) : ag×Int→Prop where
 | MK (h:o.1≠0) : iy o split least cpus (.zero,o.1)
 | heap (h:o.1=0) (h2:(eX o.2 split least cpus).1≠0) : iy o split least cpus (.zero,(eX o.2 split least cpus).1)
 | made {t:ag} (h:o.1=0) (h2:(eX o.2 split least cpus).1=0) (m:rS (Dv (eX o.2 split least cpus).2) 6 t) : iy o split least cpus (t,0)
theorem yF {l:List Region} {split least cpus:Int} (h:(eX l split least cpus).1=0) : (Dv (eX l split least cpus).2).dW:=by
 have vN:=wK l split least cpus;refine ⟨⟨by unfold Dv;rw [List.length_replicate];omega,vN,Nat.zero_le _,fun c h=>absurd h List.not_mem_nil⟩,?_,fun c h=>absurd h List.not_mem_nil,fun c h=>absurd h List.not_mem_nil⟩;cases hq:dH l
 ·rw [qJ hq] at h;simp at h
 ·by_cases ha:kx split least cpus
  ·rw [nS hq ha];exact Im ha.1
  ·rw [nR hq ha] at h;simp at h
theorem iy.dW {o:Int×List Region} {split least cpus:Int} {u:ag×Int} (a:iy o split least cpus u) : u.1.dW:=by
 cases a with
 | MK|heap=>exact ag.yE
 | made h h2 m=>exact m.dW (yF h2) (by omega)
theorem BN (N:Nat) (x y:List Region) : (jb N x y).2.length≤N:=by
 cases h:mU x y
 ·rw [yy h];exact Nat.zero_le _
 ·rw [ta h];exact (rf _ _).len
open Go.RowKit
set_option maxHeartbeats 4000000 in
theorem pT (A:Option Addr) (n c lo:Nat) (l:List ByteArray) (w:World) (hO:Own w lo 9 1 encStr A n c l) (i:Nat) (hi:i≤n) (x:ByteArray) (b:Nat) (hB:aW w b 9 (encStr x)) (bW:aM A c≠some b) (hn:(n+1)*16≤140737488355328) (gB:lo≤w.heap.size) :
 jw Tryz.prog 140 [.slice A n c,.int .i64 (i:Int),.slice (some ⟨b,0,none⟩) 1 1] w fun v w' => ∃ A' c',v = .slice A' (n+1) c'∧Own w' lo 9 1 encStr A' (n+1) c' (aN l i x)∧w.grownBy w' (aM A c) ∧ ∀ k,aM A' c'=some k→aM A c=some k∨w.heap.size≤k:=by
 refine dM Tryz.func140 rfl Tryz.ntmps140 rfl ?_;have hle:=hO.le;have pp:=hO.len;have hA:=hO.sl.base;have hw:=Ext.refl w;have jn:Sl w 1 encStr (some ⟨b,0,none⟩) 1 [x]:=aW.z7 hB
 have lW:(encStr x).length=1:=rfl
 have m8:∀ q:List ByteArray,(q.flatMap encStr).length=q.length*1:=fun q=>aQ q
 have ml:∀ (q:List ByteArray) (v:Value),v∈q.flatMap encStr→v.oneCell'=true:=fun q v hv=>by
  obtain ⟨u,_,hu⟩:=List.mem_flatMap.1 hv;exact fP.one (enc:=encStr) u v hu
 by_cases df:i=n
 ·subst df;repeat' (first|refine Wz ?_|(refine SW.st (aV (k:=i) rfl rfl (by omega) (by omega)) rfl ?_))
  all_goals try omega
  refine SW.uK hO jn gB (by omega) rfl rfl rfl (by omega) (by omega) fun A2 c2 w2 tC => ?_
  have CL:Own w2 lo 9 1 encStr A2 (i+1) c2 (l++[x])∧w.grownBy w2 (aM A c) ∧ ∀ k,aM A2 c2=some k→aM A c=some k∨w.heap.size≤k:=by
   rcases tC with ⟨rfl,rfl,h1,h2⟩|⟨h1,h2⟩
   ·exact ⟨h1,h2,fun k e => .inl e⟩
   ·exact ⟨h1.low gB,(aO (Ext.refl w) h2 (Nat.le_refl _) (fun k e=>by cases e)).gr _,fun k e => .inr (h1.bc k e)⟩
  obtain ⟨cJ,hg,ju⟩:=CL;refine Wz ?_;refine ah.aY rfl rfl ⟨_,rfl,A2,c2,rfl,?_,hg,ju⟩;have e:aN l i x=l++[x]:=by unfold aN;rw [List.take_of_length_le (by omega),List.drop_eq_nil_of_le (by omega)];simp
  rw [e];exact cJ
 ·by_cases jI:n+1≤c
  ·obtain ⟨g,rest,rfl,h1,h2,h3,h4,h5,h6⟩:=hO.opened (by omega);have Aa:g≠b:=fun e=>bW (by rw [h6,e])
   have es:l.flatMap encStr++rest=(l.take i).flatMap encStr++((l.drop i).flatMap encStr++rest):=by rw [← List.append_assoc,← List.flatMap_append,List.take_append_drop]
   have e1:((l.take i).flatMap encStr).length=i*1:=by rw [m8];simp;omega
   have e2:((l.drop i).flatMap encStr).length=(n-i)*1:=by rw [m8];simp [pp]
   have kK:=hO.sl.drop i c (by omega) (by omega);rw [if_neg (by omega)] at kK;rw [es] at h2
   have EP:∀ w',Ext w w'→(Extern.SlicesOverlaps.overlaps #[61,61] #[4] #[.slice (some ⟨b,0,none⟩) 1 1,.slice (if c=i+1 then (some ⟨g,0,none⟩) else (some (⟨g,0,none⟩ : Addr)).map (·.add ((i+1)*1))) (n+1-(i+1)) (c-(i+1))]).run Tryz.prog w' = .ok (.bool false) w':=fun w' hx=>by
    rw [if_neg (by omega),Option.map_some,ck];have b1:=hB.ext hx;have b2:=h2.ext hx;unfold aW at b1 b2
    exact Lib.run_overlaps_apart w' 61 4 9 (bj.mB (t:=61)) 1 (fun w0=>run_sizeOf (bj.size (t:=61)) w0) ⟨b,0,none⟩ ⟨g,(i+1)*1,none⟩ 1 1 _ _ (fun e=>Aa e.symm) 9 9 (encStr x).toArray.size ((l.take i).flatMap encStr++((l.drop i).flatMap encStr++rest)).toArray.size
     (by simp only [World.shape?,b1]) (by simp only [World.shape?,b2]) (by simp [e1,e2];omega) (by simp [World.frozen?,b1]) (by simp [World.frozen?,b1])
   repeat' (first|refine Wz ?_|(refine CW.dh rfl ?_)|(refine SW.st (aV (k:=i) rfl rfl (by omega) (by omega)) rfl ?_)|(refine SW.st (cS (k:=n+1) rfl rfl (by omega)) rfl ?_)|(refine SW.st (aV (k:=i+1) rfl rfl (by omega) (by omega)) rfl ?_)|(refine SW.entry Tryz.func207 (by kernel_rfl) (by kernel_rfl) (by kernel_rfl) (e:=Extern.SlicesOverlaps.overlaps #[61,61] #[4]) (by kernel_rfl) rfl rfl (EP _ hw) ?_))
   all_goals try omega
   have qO:((n-i)+1)*1≤((l.drop i).flatMap encStr++rest).length:=by rw [List.length_append,e2];omega
   have e4:(l.drop i).flatMap encStr++rest=((l.drop i).flatMap encStr++rest).take 1++(((l.drop i).flatMap encStr++rest).drop 1).take ((n-i)*1)++((l.drop i).flatMap encStr++rest).drop (1+(n-i)*1):=by
    rw [List.append_assoc,← List.drop_drop,List.take_append_drop,List.take_append_drop]
   generalize Cr:((l.drop i).flatMap encStr++rest).take 1=D1 at e4
   generalize Cs:(((l.drop i).flatMap encStr++rest).drop 1).take ((n-i)*1)=D2 at e4
   generalize Ct:((l.drop i).flatMap encStr++rest).drop (1+(n-i)*1)=D3 at e4
   have f1:D1.length=1:=by rw [← Cr];simp only [List.length_take];omega
   have f2:D2.length=(n-i)*1:=by rw [← Cs];simp only [List.length_take,List.length_drop];omega
   have f3:D3.length+1=rest.length:=by rw [← Ct];simp only [List.length_drop,List.length_append,e2];omega
   rw [e4] at h2;refine CW.any 8 mixed (da (by kernel_rfl)) rfl fun w1 ae aJ => ?_
   replace hw:=Ext.trans hw ae;replace hO:=hO.ext ae;replace hB:=hB.ext ae;replace h2:=h2.ext ae;clear ae;refine Wa ?_;refine SA.take 4 aJ rfl (by kernel_rfl) (by kernel_rfl) rfl ?_;repeat ((refine SW.st (aV (k:=i+1) rfl rfl (by omega) (by omega)) rfl ?_))
   refine SW.ai ?_;refine Wa ?_;refine SA.take 7 aJ rfl (by kernel_rfl) (by kernel_rfl) rfl ?_;repeat ((refine SW.st (aV (k:=i) rfl rfl (by omega) (by omega)) rfl ?_))
   refine SW.ai ?_;refine SA.done (by kernel_rfl) ?_;refine SW.copy (k:=n-i) ((i+1)*1) ((l.drop i).flatMap encStr) h2 rfl rfl rfl (by omega) e2 (by simp only [List.length_append,e1,e2,f1,f2];omega) (fun h0=>⟨by rw [if_neg (by omega)];simp [ck],(⟨g,0,none⟩ : Addr).add (i*1),by rw [if_neg (by omega)];rfl,fun j v hv=>de (by omega) (kK.ext hw) j v hv⟩) (ml _) fun w3 lN nY => ?_
   have g1:=dS ((l.take i).flatMap encStr++D1) D2 D3 ((l.drop i).flatMap encStr) (by rw [e2,f2]) (o:=(i+1)*1) (by rw [List.length_append,e1,f1];omega);have g0:(l.take i).flatMap encStr++(D1++D2++D3)=(l.take i).flatMap encStr++D1++D2++D3:=by simp only [List.append_assoc]
   rw [g0,g1] at lN;have EO:=bH (hw.gr (aM (some ⟨g,0,none⟩) c)) nY (.inl h6.symm);have Ly:=hB.grown nY (by simpa using fun e=>Aa e.symm);repeat' (first|refine Wz ?_|(refine SW.st (aV (k:=i) rfl rfl (by omega) (by omega)) rfl ?_))
   refine SW.copy (k:=1) (i*1) (encStr x) lN rfl rfl rfl (by omega) lW (by simp only [List.length_append,e1,e2,f1,lW];omega) (fun h0=>⟨by rw [if_neg (by omega)];simp [ck],⟨b,0,none⟩,rfl,fun j v hv=>Ly.cell hv⟩) (fP.one (enc:=encStr) x) fun w4 lA vh => ?_
   have g2:=dS ((l.take i).flatMap encStr) D1 ((l.drop i).flatMap encStr++D3) (encStr x) (by rw [lW,f1]) (o:=i*1) e1.symm;have g3:(l.take i).flatMap encStr++D1++(l.drop i).flatMap encStr++D3=(l.take i).flatMap encStr++D1++((l.drop i).flatMap encStr++D3):=by simp only [List.append_assoc]
   have g4:(l.take i).flatMap encStr++encStr x++((l.drop i).flatMap encStr++D3)=(aN l i x).flatMap encStr++D3:=by unfold aN;simp only [List.flatMap_append,List.flatMap_cons,List.flatMap_nil,List.append_nil,List.append_assoc]
   rw [g3,g2,g4] at lA;have Ax:=Own.closed (n:=n+1) (c:=c) (l:=aN l i x) (by unfold aN;simp;omega) lA (by omega) jI (by omega) h5 h1;have EQ:=bH EO vh (.inl h6.symm);refine Wz ?_;exact ah.aY rfl rfl ⟨_,rfl,_,_,rfl,Ax,EQ,fun k e => .inl e⟩
  ·have Lz:c=n:=by omega
   have kK:=hO.sl.drop i c (by omega) (by omega);have xn:=hO.sl.pre (i:=i) (by omega);repeat' (first|refine Wz ?_|(refine SW.st (aV (k:=i) rfl rfl (by omega) (by omega)) rfl ?_)|(refine SW.st (cS (k:=i) rfl rfl (by omega)) rfl ?_))
   all_goals try omega
   refine SW.uA (k:=n+1-i) xn Tryz.underlying3 rfl rfl (by omega) rfl (by omega) (by omega) (by omega) (by omega) fun g rest c2 w2 bF r5 h2 h3 h4 h5 => ?_
   have e1:((l.take i).flatMap encStr).length=i*1:=by rw [m8];simp;omega
   have e2:((l.drop i).flatMap encStr).length=(n-i)*1:=by rw [m8];simp [pp]
   have qO:((n-i)+1)*1≤rest.length:=by omega
   have e4:rest=rest.take 1++(rest.drop 1).take ((n-i)*1)++rest.drop (1+(n-i)*1):=by
    rw [List.append_assoc,← List.drop_drop,List.take_append_drop,List.take_append_drop]
   generalize Cr:rest.take 1=D1 at e4
   generalize Cs:(rest.drop 1).take ((n-i)*1)=D2 at e4
   generalize Ct:rest.drop (1+(n-i)*1)=D3 at e4
   have f1:D1.length=1:=by rw [← Cr];simp only [List.length_take];omega
   have f2:D2.length=(n-i)*1:=by rw [← Cs];simp only [List.length_take,List.length_drop];omega
   have f3:D3.length+((n-i)+1)*1=rest.length:=by rw [← Ct];simp only [List.length_drop];omega
   rw [e4] at h2;have dN:aM A c≠some g:=fun e=>by have:=hO.lt_size _ e;omega
   have Aa:b≠g:=by have:=hB.lt;omega
   replace kK:=kK.ext bF;replace hB:=hB.ext bF;replace hw:=Ext.trans hw bF;repeat' (first|refine Wz ?_|(refine SW.st (aV (k:=i) rfl rfl (by omega) (by omega)) rfl ?_))
   refine SW.copy (k:=1) (i*1) (encStr x) h2 rfl rfl rfl (by omega) lW (by simp only [List.length_append,e1,f1,f2,lW];omega) (fun h0=>⟨by rw [if_neg (by omega)];simp [ck],⟨b,0,none⟩,rfl,fun j v hv=>hB.cell hv⟩) (fP.one (enc:=encStr) x) fun w3 lN nY => ?_
   have g2:=dS ((l.take i).flatMap encStr) D1 (D2++D3) (encStr x) (by rw [lW,f1]) (o:=i*1) e1.symm;have g3:(l.take i).flatMap encStr++(D1++D2++D3)=(l.take i).flatMap encStr++D1++(D2++D3):=by simp only [List.append_assoc]
   rw [g3,g2] at lN;have GF:Ext w w3:=hw.own r5 nY
   have jJ:Sl w3 1 encStr (if c=i then A else A.map (·.add (i*1))) (n-i) (l.drop i):=(hO.sl.drop i c (by omega) (by omega)).ext GF
   replace hw:=GF;refine Wz ?_;refine CW.any 8 mixed (da (by kernel_rfl)) rfl fun w1 ae aJ => ?_
   replace hw:=Ext.trans hw ae;replace lN:=lN.ext ae;replace jJ:=jJ.ext ae;clear ae;refine Wa ?_;refine SA.take 4 aJ rfl (by kernel_rfl) (by kernel_rfl) rfl ?_;repeat ((refine SW.st (aV (k:=i+1) rfl rfl (by omega) (by omega)) rfl ?_))
   refine SW.ai ?_;refine Wa ?_;refine SA.take 7 aJ rfl (by kernel_rfl) (by kernel_rfl) rfl ?_;repeat ((refine SW.st (aV (k:=i) rfl rfl (by omega) (by omega)) rfl ?_))
   refine SW.ai ?_;refine SA.done (by kernel_rfl) ?_;refine SW.copy (k:=n-i) ((i+1)*1) ((l.drop i).flatMap encStr) lN rfl rfl rfl (by omega) e2 (by simp only [List.length_append,e1,e2,f2,lW];omega) (fun h0=>⟨by rw [if_neg (by omega)];simp [ck],(if c=i then A else A.map (·.add (i*1))).getD default,?_,fun j v hv=>de (by omega) jJ j v hv⟩) (ml _) fun w4 lA vh => ?_
   ·obtain ⟨a,ha⟩:=Option.isSome_iff_exists.1 (jJ.base h0);rw [ha];rfl
   ·have g4:=dS ((l.take i).flatMap encStr++encStr x) D2 D3 ((l.drop i).flatMap encStr) (by rw [e2,f2]) (o:=(i+1)*1) (by rw [List.length_append,e1,lW];omega);have g5:(l.take i).flatMap encStr++encStr x++(D2++D3)=(l.take i).flatMap encStr++encStr x++D2++D3:=by simp only [List.append_assoc]
    have g6:(l.take i).flatMap encStr++encStr x++(l.drop i).flatMap encStr++D3=(aN l i x).flatMap encStr++D3:=by unfold aN;simp only [List.flatMap_append,List.flatMap_cons,List.flatMap_nil,List.append_nil,List.append_assoc]
    rw [g5,g4,g6] at lA;have Ax:=Own.closed (n:=n+1) (c:=c2) (lo:=lo) (l:=aN l i x) (by unfold aN;simp;omega) lA (by omega) (by omega) (by omega) h5 (by omega);have eM:Ext w w4:=hw.own r5 vh
    have e9:i+(n+1-i)=n+1:=by omega
    refine Wz ?_;rw [e9]
    exact ah.aY rfl rfl ⟨_,rfl,_,_,rfl,Ax,eM.gr _,fun k e => .inr (by
     have:k=g:=by
      unfold aM at e;split at e
      ·cases e
      ·simpa using e.symm
     omega)⟩
end Go.Proofs.YtbidkghlpijecaaGreatDoor
