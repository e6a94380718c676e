/- Part 10 of what topEnds_holds leans on. -/
import Derived.Test.YtenhkiaaebnggaaGreatDoorPackTopEnds9
set_option linter.unusedVariables false
set_option linter.unusedSimpArgs false
set_option linter.defProp false
open Go.Proofs.Tryz
namespace Go.Proofs.YtenhkiaaebnggaaGreatDoor
open Go.RowKit
set_option maxHeartbeats 16000000 in
def wo (a:cr) (hk:a.Kind=8∨a.Kind=11∨a.Kind=13∨a.Kind=14) (Ch : -9223372036854775808<=a.At∧a.At<=9223372036854775807) : fM dy a:=by
 intro r s lo w hO dt hI hS fh;have hf:=hI.cS;obtain ⟨k,cpu,n,m,At,fl,nm⟩:=a;simp only at hk Ch ⊢;refine uA func12 rfl ntmps12 rfl ?_;refine CW.seq (CW.region (SW.box rfl rfl fun b2 w1 hw eW aq => ?_));have l2:=aq.lt;refine SW.box rfl rfl fun b3 w2 bq cg ao => ?_
 have gm:=hw.up cg
 (obtain ⟨hw,aq⟩:=cT bq hw aq);clear bq;have l3:=ao.lt;refine SW.alloc rfl fun b4 w2 bq fw aE => ?_
 have dQ:=hw.up fw
 (obtain ⟨hw,aq,ao⟩:=cd bq hw aq ao);clear bq;have l4:=aE.lt;refine SW.alloc rfl fun b5 w2 bq gI aL => ?_
 have jR:=hw.up gI
 (obtain ⟨hw,aq,ao,aE⟩:=dJ bq hw aq ao aE);clear bq;have l5:=aL.lt;repeat' (first|refine Wy ?_|refine Wm ((fun _ _=>aq.cell)) ?_)
 refine SW.alloc rfl fun b6 w1 ah dv ap => ?_
 skip;refine SW.bw ap rfl rfl rfl rfl (aU r) fun w2 bQ hg => ?_
 have ar:=ah.own dv hg;have cQ:=hw.up dv
 obtain ⟨hw,aq,ao,aE,aL⟩:=fH ar hw aq ao aE aL;have ap:=bQ;clear bQ ah hg ar;have l6:=ap.lt;repeat' (first|refine Wy ?_|fail);refine SW.alloc rfl fun b7 w1 ah iT bc => ?_
 skip;refine SW.bw bc rfl rfl rfl rfl (fE ⟨0,0,.nil⟩) fun w2 bp hg => ?_
 have ar:=ah.own iT hg;have gn:=hw.up iT
 obtain ⟨hw,aq,ao,aE,aL,ap⟩:=jh ar hw aq ao aE aL ap;have bc:=bp;clear bp ah hg ar;have yb:b2≠b6:=by omega
 have yd:b4≠b6:=by omega
 have Oo:b2≠b4:=by omega
 have rN:b5≠b7:=by omega
 clear l2 l3 l4 l5 l6;rcases hk with rfl|rfl|rfl|rfl
 all_goals repeat' (first|refine Wy ?_|refine Wm ((fun _ _=>aq.cell)) ?_|refine Wm ((fun _ _=>ao.cell)) ?_|refine Wl (ao.cell (i:=0) (v := .int .i64 8) rfl) ?_|refine Wl (ao.cell (i:=0) (v := .int .i64 11) rfl) ?_|refine Wl (ao.cell (i:=0) (v := .int .i64 13) rfl) ?_|refine Wl (ao.cell (i:=0) (v := .int .i64 14) rfl) ?_|refine Wl (ao.cell (i:=1) (v := .int .i64 cpu) rfl) ?_|refine Wl (ao.cell (i:=2) (v := .int .i64 n) rfl) ?_|refine Wl (ao.cell (i:=4) (v := .int .i64 At) rfl) ?_)
 focus
  refine Wk (uX r s cpu n _ (hO.rd.ext hw) hf (hS.ext hw) (fh.ext hw)) fun v w7 iV hv => ?_
  obtain ⟨u,hu,q,rfl,hH⟩:=hv;have hH:=hH.low (aev dt hw.size);have hA:=cu.fL (s:=s) (a:=⟨8,cpu,n,m,At,fl,nm⟩) rfl hu;clear hu
 rotate_left
 focus
  refine Wk (Bw r s cpu At n _ (hO.rd.ext hw) hI Ch (hS.ext hw) (fh.ext hw)) fun v w7 iV hv => ?_
  obtain ⟨u,hu,q,rfl,hH⟩:=hv;have hH:=hH.low (aev dt hw.size);have hA:=cu.eA (s:=s) (a:=⟨11,cpu,n,m,At,fl,nm⟩) rfl hu;clear hu
 rotate_left
 focus
  refine Wk (GC r s ⟨13,cpu,n,m,At,fl,nm⟩ lo _ (hO.ext hw) (aev dt hw.size) hI Ch) fun v w7 iV hv => ?_
  obtain ⟨u,hu,q,rfl,hH⟩:=hv;have hA:=cu.word (s:=s) (a:=⟨13,cpu,n,m,At,fl,nm⟩) (by simp) hu;clear hu
 rotate_left
 focus
  refine Wk (GC r s ⟨14,cpu,n,m,At,fl,nm⟩ lo _ (hO.ext hw) (aev dt hw.size) hI Ch) fun v w7 iV hv => ?_
  obtain ⟨u,hu,q,rfl,hH⟩:=hv;have hA:=cu.word (s:=s) (a:=⟨14,cpu,n,m,At,fl,nm⟩) (by simp) hu;clear hu
 rotate_left
 all_goals
  (obtain ⟨hw,aq,aE,aL,ap,bc⟩:=jh iV hw aq aE aL ap bc);clear iV ao;have bg:=hO.ext hw;obtain ⟨u1,N,e⟩:=u;simp only at hA hH ⊢;by_cases he:e=0
  ·rw [ms,if_pos he,he] at hA;rw [he];repeat' (first|refine Wy ?_|fail);refine SW.bw ap rfl rfl rfl rfl (aU q) fun qH bQ hg => ?_
   have hG:=ap.gr hg;have aq:=aq.grown hg (by simpa using yb);have aE:=aE.grown hg (by simpa using yd);have hw:=hw.own cQ hg;(obtain ⟨aL,bc,bg,hH⟩:=dJ hG aL bc bg hH);have ap:=bQ;clear bQ hG hg;repeat' (first|refine Wy ?_|fail);refine Wb (i:=1) bc fun iZ bp hg => ?_
   have hG:=bc.gr hg;have aL:=aL.grown hg (by simpa using rN);have hw:=hw.own gn hg;(obtain ⟨aq,aE,ap,bg,hH⟩:=fH hG aq aE ap bg hH);have bc:aR _ b7 56 (ck ⟨0,N,.nil⟩):=bp;clear bp hG hg;repeat' (first|refine Wy ?_|fail);refine Wb (i:=0) bc fun iZ bp hg => ?_
   have hG:=bc.gr hg;have aL:=aL.grown hg (by simpa using rN);have hw:=hw.own gn hg;(obtain ⟨aq,aE,ap,bg,hH⟩:=fH hG aq aE ap bg hH);have bc:aR _ b7 56 (ck ⟨0,N,.nil⟩):=bp;clear bp hG hg;repeat' (first|refine Wy ?_|refine Wl (bc.cell (i:=0) (v := .int .i64 0) rfl) ?_)
   refine CW.gB 2 3 (fun w2=>aR w2 b7 56 (ck ⟨0,N,.nil⟩)) mixed (by kernel_rfl) fun w1 ah aI => ?_
   obtain ⟨hw,aq,aE,aL,ap,bc,bg,hH⟩:=DH ah hw aq aE aL ap bc bg hH;clear ah;refine Wt 0 [] [] aI rfl (aY rfl rfl ((fun _ _=>ap.cell))) ?_;refine SF.jl 1 [] aI rfl (by kernel_rfl) (by kernel_rfl) (by kernel_rfl) (aY rfl rfl ((fun _ _=>bc.cell))) (fun w2 hS=>aY rfl rfl ((fun _ _=>hS.cell))) rfl ?_;refine SF.turn rfl (by kernel_rfl) rfl ?_;refine SW.bw aE rfl rfl rfl rfl (aU q) fun w8 df hg => ?_
   have hG:=aE.gr hg;have hw:=hw.own dQ hg;(obtain ⟨aL,bc,bg,hH⟩:=dJ hG aL bc bg hH);have hS:=bc;refine SW.nil (ae.sg hS ?_);refine SG.last rfl (by kernel_rfl) (by kernel_rfl) ?_;refine SW.bw aL rfl rfl rfl rfl (fE ⟨0,N,.nil⟩) fun w9 fa hg => ?_
   have hG:=aL.gr hg;have hw:=hw.own jR hg;(obtain ⟨df,bg,hH⟩:=cd hG df bg hH);repeat' (first|refine Wy ?_|fail);exact ae.nG rfl rfl rfl df fa rfl rfl ⟨_,rfl,hw,_,hA,q,⟨0,N,.nil⟩,rfl,hH,kH.plain _ _ _ _⟩
  ·rw [ms,if_neg he] at hA;repeat' (first|refine Wy ?_|fail);refine SW.bw ap rfl rfl rfl rfl (aU q) fun qH bQ hg => ?_
   have hG:=ap.gr hg;have aq:=aq.grown hg (by simpa using yb);have aE:=aE.grown hg (by simpa using yd);have hw:=hw.own cQ hg;(obtain ⟨aL,bc,bg,hH⟩:=dJ hG aL bc bg hH);have ap:=bQ;clear bQ hG hg;repeat' (first|refine Wy ?_|fail);refine Wb (i:=1) bc fun iZ bp hg => ?_
   have hG:=bc.gr hg;have aL:=aL.grown hg (by simpa using rN);have hw:=hw.own gn hg;(obtain ⟨aq,aE,ap,bg,hH⟩:=fH hG aq aE ap bg hH);have bc:aR _ b7 56 (ck ⟨0,N,.nil⟩):=bp;clear bp hG hg;repeat' (first|refine Wy ?_|fail);refine Wb (i:=0) bc fun iZ bp hg => ?_
   have hG:=bc.gr hg;have aL:=aL.grown hg (by simpa using rN);have hw:=hw.own gn hg;(obtain ⟨aq,aE,ap,bg,hH⟩:=fH hG aq aE ap bg hH);have bc:aR _ b7 56 (ck ⟨e,N,.nil⟩):=bp;clear bp hG hg;repeat' (first|refine Wy ?_|refine Wl (bc.cell (i:=0) (v := .int .i64 e) rfl) ?_)
   refine CW.gB 2 3 (fun w2=>aR w2 b7 56 (ck ⟨e,N,.nil⟩)) mixed (by kernel_rfl) fun w1 ah aI => ?_
   obtain ⟨hw,aq,aE,aL,ap,bc,bg,hH⟩:=DH ah hw aq aE aL ap bc bg hH;clear ah;refine Wt 0 [] [] aI rfl (aY rfl rfl ((fun _ _=>aq.cell))) ?_;refine SF.jl 1 [] aI rfl (by kernel_rfl) (by kernel_rfl) (by kernel_rfl) (aY rfl rfl ((fun _ _=>bc.cell))) (fun w2 hS=>aY rfl rfl ((fun _ _=>hS.cell))) rfl ?_;refine SF.turn rfl (by kernel_rfl) rfl ?_;refine SW.bw aE rfl rfl rfl rfl (aU r) fun w8 df hg => ?_
   have hG:=aE.gr hg;have hw:=hw.own dQ hg;(obtain ⟨aL,bc,bg,hH⟩:=dJ hG aL bc bg hH);have hS:=bc;refine SW.nil (ae.sg hS ?_);refine SG.last rfl (by kernel_rfl) (by kernel_rfl) ?_;refine SW.bw aL rfl rfl rfl rfl (fE ⟨e,N,.nil⟩) fun w9 fa hg => ?_
   have hG:=aL.gr hg;have hw:=hw.own jR hg;(obtain ⟨df,bg,hH⟩:=cd hG df bg hH);repeat' (first|refine Wy ?_|fail);exact ae.nG rfl rfl rfl df fa rfl rfl ⟨_,rfl,hw,_,hA,r,⟨e,N,.nil⟩,rfl,bg,kH.plain _ _ _ _⟩
variable {s s0:ag} {cX:List cr} {xs:List j8} {j:Nat}
def Start.named (h:Start s) : mQ s:=⟨h.sys,by
 have h6:∀ j,j<6 -> ∃ p∈kI,nR p.1 (eJ (kP j))=true∧p.2=kP j:=by decide +kernel
 unfold mO;rw [h.shape];exact h6⟩
def Ph.out {l:List bU} (h:Ph s0 j s l) (hj : 2<=j) : Out s0.Heap.bJ s l:=by
 cases h with
 | p0=>omega
 | p1 _=>omega
 | go _ h=>exact h
def LS {t:ag} {more:List cr} {ys:List j8} (h0:Start s0) (hr:jN s0 cX xs s) (h4:∀ a∈cX,a.Kind≠4) (h2:jN s0 (cX++more) ys t) : ∃ zs,ys=xs++zs∧jN s more zs t:=by
 obtain ⟨y1,zs,u,r1,r2,rfl⟩:=h2.split;obtain ⟨rfl,rfl⟩:=r1.dm h0.named h4 hr;exact ⟨zs,rfl,r2⟩
def jN.one {t:ag} {a:cr} (h:jN s [a] xs t) : ∃ u,cu s a u∧xs=[u.2]∧t=u.1:=by
 obtain ⟨ys,m,u,h1,h2,rfl,rfl⟩:=jN.Q8 (l:=[]) h;generalize e:([] : List cr)=l at h1
 cases h1 with
 | nil=>exact ⟨u,h2,rfl,rfl⟩
 | snoc=>simp at e
def aaB (s t:ag) : ms 0 s t=t:=rfl
variable {a:Int} {u:ag×Int} {rs:List qI} {b bb lo oV:Nat} {w w':World}
def EE (A:Option Addr) (n c:Nat) (l:List cr) (w:World) (hl:Sl w 7 dZ A n l) (hn:n*64<=140737488355328) : bI prog 6 [.slice A n c] w (zI w 35 7 dZ n l):=by
 refine Wj func6 ntmps6 ?_;have hw:=Ext.refl w;refine Wz ?_;refine SW.st (sq rfl rfl) rfl ?_;repeat' (first|refine Wz ?_|(refine CW.cond rfl (fun h => ?_) (fun h => ?_)))
 ·have G9:n=0:=by
   rcases aeL n with h0|h0
   ·exact h0
   ·have:=hl.base h0;simp_all
  subst G9;have:l=[]:=aeN hl.len
  subst this;exact ae.bh rfl rfl ⟨_,rfl,hw,none,0,rfl,Own.fC _ _ _ _ _ _⟩
 ·refine SW.zB rfl fun b w1 ah hb => ?_
  have hw:=hw.trans ah;refine Wz ?_;refine SW.vj (afX n) (afn l) (Own.fC w1 w.heap.size _ _ dZ (some ⟨b,0,none⟩)) (hl.ext hw) hw.size rfl rfl rfl (by omega) (by omega) fun A2 c2 w2 hO hg => ?_
  have hw:=aD hw hg (aew _) (by simp [aG]);refine Wz ?_;exact ae.bh rfl rfl ⟨_,rfl,hw,A2,c2,rfl,hO⟩
def Qm.ok {a:cr} (h:Qm a) : a.Kind≠4∧fM mQ a:=by
 have h1:=h.at_;have h2:=h.name;have hk:=h.kinds;simp only [kJ,List.mem_cons,List.not_mem_nil,or_false] at hk;refine ⟨by omega,fM.named ?_⟩;rcases hk with (hk|hk|hk|hk|hk|hk|hk|hk|hk|hk|hk)|hk|hk
 ·exact wo a (.inl hk) (by omega)
 ·exact wo a (by omega) (by omega)
 ·exact nk a (by omega) (GJ a hk (by omega))
 ·exact nk a (by omega) (GI a hk (by omega))
 ·exact nk a (by omega) (yf a hk (by omega) (by omega))
 ·exact GN a hk (by omega)
 ·exact nk a (by omega) (yg a hk (by omega))
 ·exact Oq a hk
 ·exact Gy a hk
 ·exact xA a hk
 ·exact nk a (by omega) (EB a hk (by omega))
 ·exact wo a (by omega) (by omega)
 ·exact wo a (by omega) (by omega)
def nD.ext {r:de} {p q z:fY} {l:List bU} (h:nD w lo b r p q z rs s0 cX xs l s j) (hx:Ext w w') : nD w' lo b r p q z rs s0 cX xs l s j :=
 ⟨h.low,h.pF.ext hx,h.wm.ext hx,h.ED.ext hx,h.o9.ext hx,h.run,h.phase,h.D0,h.len,h.many⟩
def nD.down {r:de} {p q z:fY} {l:List bU} (h:nD w lo b r p q z rs s0 cX xs l s j) (hl:oV<=lo) : nD w oV b r p q z rs s0 cX xs l s j :=
 ⟨aev hl h.low,h.pF,h.wm.low hl,h.ED.low hl,h.o9.low hl,h.run,h.phase,h.D0,h.len,h.many⟩
def nD.aJ {t:Nat} {r:de} {p q z:fY} {l:List bU} (h:nD w lo b r p q z rs s0 cX xs l s j) (hG:se w w' t) (bG:(Nat.beq t 48 || (Nat.beq t 35 || (Nat.beq t 50 || (Nat.beq t 56 || Nat.beq t 3))))=false) : nD w' lo b r p q z rs s0 cX xs l s j:=by
 simp only [Bool.or_eq_false_iff] at bG;exact ⟨h.low,h.pF.aJ hG bG.1,h.wm.aJ hG bG.2.1,h.ED.aJ hG (by simp only [bG.2.2.2.1,bG.2.2.2.2,Bool.or_self]),h.o9.aJ hG bG.2.2.1,h.run,h.phase,h.D0,h.len,h.many⟩
def Bz {b c:Int} (h:ja (jD 256 (te a b c) (tf a b c)) (16*bR a 9) (bR b 12) (1+bR c 4) u) : Start u.1 :=
 ⟨(jO h).2.2,IK (jO h).2.1,Ly (jO h).2.1⟩
structure kx (a b c:Int) (w:World) (lo bb:Nat) (r:de) (p q z:fY) (rs:List qI) (s0:ag) (cX:List cr) (xs:List j8) (l:List bU) (s:ag) (j:Nat) : Prop where
 pl:nD w lo bb r p q z rs s0 cX xs l s j
 fresh:nC (Lx a b c) 6 s0
 start:Start s0
 two : 2<=j∧j<=42
def kx.ext {b c:Int} {r:de} {p q z:fY} {l:List bU} (h:kx a b c w lo bb r p q z rs s0 cX xs l s j) (hx:Ext w w') : kx a b c w' lo bb r p q z rs s0 cX xs l s j :=
 ⟨h.pl.ext hx,h.fresh,h.start,h.two⟩
def LU (a b c:Int) (lo:Nat) (v:Value) (w:World) : Prop := ∃ A B bb r p q z rs s0 cX xs l s j,v = .tuple #[.pointer (some ⟨bb,0,none⟩),.agg (fj A 2 2 B 2 2 (16*bR a 9) (bR b 12) (1+bR c 4)).toArray,.bool true]∧Own w lo 79 2 iB A 2 2 (te a b c)∧Own w lo 79 2 iB B 2 2 (tf a b c)∧kx a b c w lo bb r p q z rs s0 cX xs l s j
set_option maxHeartbeats 4000000 in
def IW (X:Option Addr) (n e:Nat) (l:List IN) (a b c:Int) (w:World) (hl:Sl w 4 GA X n l) (hn:n<=9000000000000000000) (hr:∀ x∈l,JY x) (ha : -9223372036854775808<=a∧a<=9223372036854775807) (hb : -9223372036854775808<=b∧b<=9223372036854775807) (hc : -9223372036854775808<=c∧c<=9223372036854775807) (hS:iQ w) (fh:m9 w) :
 bI prog 5 [.slice X n e,.int .i64 a,.int .i64 b,.int .i64 c] w fun v w'=>LU a b c w.heap.size v w':=by
 refine Wj func5 ntmps5 ?_;have hw:=Ext.refl w;have hp9:=dk (n:=a) (m:=9) (by omega);have hp4:=dk (n:=c) (m:=4) (by omega);refine Wz ?_;refine SW.alloc rfl fun b9 w2 bq oz bF => ?_
 have sy:=hw.up oz
 have hw:=hw.trans bq;clear bq;refine Wz ?_;refine Wk (Bv a b c _ ha hb hc) fun v w2 bq hv => ?_
 obtain ⟨A,B,rfl,hA,hB⟩:=hv;have hA:=hA.low hw.size;have hB:=hB.low hw.size;(obtain ⟨hw,bF⟩:=cT bq hw bF);clear bq;have l9:=bF.lt;skip;refine SW.alloc rfl fun Pj w1 ah sR ir => ?_
 skip;refine Wg ir (wj A 2 2 B 2 2 (16*bR a 9) (bR b 12) (1+bR c 4)) fun w2 pk hg => ?_
 have ar:=ah.own sR hg;have Nf:=hw.up sR
 obtain ⟨hw,bF,hA,hB⟩:=dJ ar hw bF hA hB;have ir:=pk;clear pk ah hg ar;have acV:b9≠Pj:=by omega
 clear l9;refine Wz ?_;refine CW.any 10 mixed (db (by kernel_rfl)) rfl fun w1 ah aI => ?_
 obtain ⟨hw,bF,ir,hA,hB⟩:=fH ah hw bF ir hA hB;clear ah;refine Wa ?_;refine SA.bZ 4 ?_;refine Wk (Ov (1+bR c 4) X n e l _ (hl.ext hw) hn hr (by omega)) fun v w5 ar hv => ?_
 obtain ⟨z0,l',rfl,hK,hKR,hKl⟩:=hv;(obtain ⟨hw,bF,ir,hA,hB⟩:=fH ar hw bF ir hA hB);refine SW.nil (ae.sa ar ?_);refine SA.bZ 5 ?_;refine Wk (OC (1+bR c 4) A 2 2 B 2 2 _ _ _ _ _ z0.A z0.n z0.c l' _ hA.sl hB.sl (by decide) (by decide) (by omega) (hS.ext hw) (fh.ext hw) hK.sl (by have:=hK.len;simp at this;omega) hKR (fun u h=>⟨(jO h).1,Bz h⟩)) fun v w5 ar hv => ?_
 obtain ⟨bb,r,p,q,z,rs,s0,cX,xs,lt,s,Vg,rfl,hP⟩:=hv;have hP:=hP.down hw.size;(obtain ⟨hw,bF,ir,hA,hB⟩:=fH ar hw bF ir hA hB);refine SW.nil (ae.sa ar ?_);refine Wa ?_;refine SA.fZ ?_;refine Wz ?_;refine CW.gB 4 5 (fun _=>True) mixed (by kernel_rfl) fun w1 ah aI => ?_
 obtain ⟨hw,bF,ir,hA,hB,hP⟩:=jh ah hw bF ir hA hB hP;clear ah;refine Wf ?_;refine Wi 2 [] aI rfl (bi rfl) (fun w2 hS=>bi rfl) ?_;refine Wf ?_;refine SF.iA ?_;refine Wg bF (wj A 2 2 B 2 2 (16*bR a 9) (bR b 12) (1+bR c 4)) fun w3 j5 hg => ?_
 have hG:=bF.gr hg;have hw:=hw.own sy hg;(obtain ⟨hA,hB,hP⟩:=cd hG hA hB hP);have hS:=True.intro;refine SW.nil (ae.sg hS ?_);refine SG.ff ?_;refine Wz ?_;have iR:=hK.len;simp only [List.length_append,List.length_cons,List.length_nil] at iR;exact ae.IM rfl rfl rfl rfl j5 rfl ⟨_,rfl,hw,A,B,bb,r,p,q,z,rs,s0,cX,xs,lt,s,z0.n,rfl,hA,hB,hP,(jO Vg).2.1,Bz Vg,by omega⟩
variable {α:Type} {m sz:Nat} {A:Option Addr} {e:TypeId} {enc:α -> List Value}
def EF {n c:Nat} {l:List α} {o:Option Nat} (h:Own w lo e sz enc A n c l) (hk:∀ k,aG A c=some k->k<m) (hg:w.grownBy w' o) (hr:∀ k,o=some k->m<=k) : Own w' lo e sz enc A n c l:=by
 cases hc:aG A c with
 | none=>exact h.grown hg (.inl hc)
 | some k=>exact h.grown hg (.inr fun e=>by have:=hk k hc;have:=hr k (by rw [<- hc];exact e.symm);omega)
def kx.down {b c:Int} {r:de} {p q z:fY} {l:List bU} (h:kx a b c w lo bb r p q z rs s0 cX xs l s j) (hl:oV<=lo) : kx a b c w oV bb r p q z rs s0 cX xs l s j:=⟨h.pl.down hl,h.fresh,h.start,h.two⟩
def kx.act {b c:Int} {r:de} {p q z:fY} {l:List bU} (h:kx a b c w lo bb r p q z rs s0 cX xs l s j) (hG:se w w' 35) (hA:Own w' lo 35 7 dZ p.A p.n p.c cX) : kx a b c w' lo bb r p q z rs s0 cX xs l s j :=
 ⟨⟨h.pl.low,h.pl.pF.aJ hG rfl,hA,h.pl.ED.aJ hG rfl,h.pl.o9.aJ hG rfl,h.pl.run,h.pl.phase,h.pl.D0,h.pl.len,h.pl.many⟩,h.fresh,h.start,h.two⟩
def yG (A:Option Addr) (n c:Nat) (l:List Slab) (w:World) (hl:Sl w 3 bd A n l) (f:FuncId) (cap:List Value) [Body prog f] (p:Slab->Bool) (arg:Slab->Value) (pK:∀ x,arg x=(if 3=1 then (bd x)[0]?.getD undef else .agg (bd x).toArray))
 (hf:∀ x∈l,∀ w',Ext w w'->bI prog f ([arg x]++cap) w' fun v _=>v = .bool (p x)) (hn:n<=9223372036854775807) :
 bI prog 111 [.slice A n c,.func (.func f) #[] cap.toArray] w fun v _=>v = .bool (l.any p):=by
 refine Wj func111 ntmps111 ?_;have hw:=Ext.refl w;repeat' (first|refine Wz ?_|(refine Wk (jW _ _ _ _ _ (hl.ext hw) f cap p arg pK (fun x hx w1 h1=>hf x hx w1 (hw.trans h1)) hn) ?_;intro v w1 ah hv;subst hv;have hw:=hw.trans ah;clear ah))
 exact ae.bh rfl rfl ⟨_,rfl,hw,by rw [lJ]⟩
def LV (x:Slab) (b8:Nat) (ad:Addr) (per:Int) (w:World) (h8:aR w b8 123 [.pointer (some ad)]) (hp:w.cell? (ad.add 2)=some (.int .i64 per)) :
 bI prog 116 ([.agg (bd x).toArray]++[.pointer (some ⟨b8,0,none⟩)]) w fun v _=>v = .bool (decide (x.ai<per)):=by
 refine Wj func116 ntmps116 ?_;refine Ww fun b2 w1 hw eW aq => ?_;have AQ:=h8.cell (i:=0) (v := .pointer (some ad)) rfl;rw [add_zero] at AQ;repeat' (first|refine Wz ?_|((apply CW.bH mixed;(· kernel_rfl);rotate_left;intro w1 ah;obtain ⟨hw,aq⟩:=cT ah hw aq;clear ah;rotate_right))|refine Wn hw AQ ?_|refine Wn hw hp ?_|exact SW.eU rfl)
 exact ae.bh rfl rfl ⟨_,rfl,hw,rfl⟩
set_option maxHeartbeats 8000000 in
def GO (r:de) (s:ag) (n:ByteArray) (w:World) (hr:zU w r s) (hf:s.cS) (Mi:n.size<=140737488351232) :
 bI prog 64 [.agg (aK r).toArray,.string n] w fun v w' => ∃ u,sb s n u∧gR w.heap.size u v w':=by
 refine Wj func64 ntmps64 ?_;refine Ww fun b2 w1 hw eW aq => ?_;refine SW.alloc rfl fun b4 w3 nL fw aE => ?_
 have dQ:=hw.up fw
 have bG:b4≠b2:=by have:=aq.lt;omega
 (obtain ⟨hw,aq⟩:=cT nL hw aq);refine Wz ?_;refine Wk (vY r s n 0 _ (hr.ext hw) hf Mi) fun v w4 ar hv => ?_
 have nq:=hw.size;(obtain ⟨hw,aq,aE⟩:=cd ar hw aq aE);rcases hv with ⟨he,rfl⟩|⟨he,q,cs,rfl,hO,hI⟩
 ·obtain ⟨e,hE⟩ : ∃ e,gV s n 0=e:=⟨_,rfl⟩;have hP:=sb.ask he;rw [hE] at he hP;rw [hE];refine Wz ?_;refine Wg aq (aU .zero) fun w5 lF hg => ?_
  have aE:=aE.grown hg (by simpa using bG);have hw:=hw.own eW hg;refine Wz ?_;all_goals try omega
  refine Wg aE (aU .zero) fun w6 cK hg => ?_
  have hw:=hw.own dQ hg;refine Wz ?_;exact ae.dj rfl rfl rfl cK rfl ⟨_,rfl,hw,_,hP,gR.zero e _ _⟩
 ·have hO:=hO.low nq;have hI:=hI.low nq;obtain ⟨hq,ht,_⟩:=lc he;obtain ⟨i,hi,YZ,_,oe⟩:=iF ht;have hM:=iE.1 hq;have hm:=hM.most;rw [oe];obtain ⟨e1,e2⟩:=hO.len;have ol:i<cs.length:=by omega
  have cx:i<q.aa.n:=by omega
  have G1:=hO.row.sl.base;have e0:=mJ hi;have h2:=hf.PJ hi;have q0:=(hM.each i hi).xa hM.heap (fun j h=>hM.each j h);have Rn:=(hM.each i hi).names.lT;have kF:n∈s.aa[i].Names:=fA.1 YZ
  obtain ⟨Ee,Mc,_⟩:=F6 Rn kF;obtain ⟨P,QU⟩ : ∃ P,kg s.aa[i].Names n=P:=⟨_,rfl⟩;refine Wz ?_;refine Wg aq (aU q) fun w5 lF hg => ?_
  have hG:=aq.gr hg;have aE:=aE.grown hg (by simpa using bG);have hw:=hw.own eW hg;(obtain ⟨hO,hI⟩:=cT hG hO hI);have aq:=lF;clear lF hG hg;refine Wz ?_;refine SW.alloc rfl fun b8 w7 iV nV bf => ?_
  have gq:=hw.up nV
  (obtain ⟨hw,aq,aE,hO,hI⟩:=fH iV hw aq aE hO hI);refine Wb (i:=0) bf fun w8 rD hg => ?_
  have hG:=bf.gr hg;have hw:=hw.own gq hg;(obtain ⟨aq,aE,hO,hI⟩:=dJ hG aq aE hO hI);have bf:aR w8 b8 123 [.pointer (some ((q.aa.A.getD default).add (i*6)))]:=rD;clear rD hG hg
  have AQ:∀ w',aR w' b8 123 [.pointer (some ((q.aa.A.getD default).add (i*6)))]->w'.cell? ⟨b8,0,none⟩=some (.pointer (some ((q.aa.A.getD default).add (i*6)))):=fun w' h=>by
   have:=h.cell (i:=0) (v := .pointer (some ((q.aa.A.getD default).add (i*6)))) rfl
   rwa [add_zero] at this
  have hC:=hO.each.get i ol hi;have q1:=hC.names.len;have q2:=hC.aB.len;have q3:=h2.small.aB;have Ii:=hC.per;by_cases hl : 1<s.aa[i].Names.length
  ·have hD:=sb.name he oe hi hl;rw [QU] at Ee hD;have Y1:P<cs[i].Names.n:=by omega
   repeat' (first|refine Wz ?_|refine Wl (AQ _ bf) ?_|refine Wl (hO.row.sl.jF cx (j:=0) (u := .slice cs[i].Names.A cs[i].Names.n cs[i].Names.c) rfl) ?_)
   all_goals try omega
   refine Wk (Aq _ _ _ _ n _ hC.names.sl Rn (by omega)) fun v w9 ar hv => ?_
   obtain ⟨bb,rfl⟩:=hv;rw [QU];(obtain ⟨hw,aq,aE,bf,hO⟩:=fH ar hw aq aE bf hO);clear hC;rw [<- e0] at hO;refine Wz ?_;refine CW.gB 8 11 (fun w2=>aR w2 b8 123 [.pointer (some ((q.aa.A.getD default).add (i*6)))]) mixed (by kernel_rfl) fun w1 ah aI => ?_
   obtain ⟨hw,aq,aE,bf,hO⟩:=fH ah hw aq aE bf hO;clear ah;refine Wi 0 [] aI rfl (aP rfl (AQ _ bf)) (fun w2 hS=>aP rfl (AQ _ hS)) ?_;refine Wt 1 [4,3,2] [] aI rfl (aP rfl (AQ _ bf)) ?_;refine Wf ?_;refine Wt 4 [] [] aI rfl (aP rfl (hO.row.sl.jF cx (j:=0) (u := .slice cs[i].Names.A cs[i].Names.n cs[i].Names.c) rfl)) ?_;refine Wf ?_;refine SF.iA ?_;have hC:=hO.get ol hi;simp only at hC;refine SW.dK rfl rfl (tX _ _ _ w.heap.size _ _ hC.names P Y1 (by omega) hw.size) fun v oP hv => ?_
   obtain ⟨rfl,Q5,Q6⟩:=hv;have OW:=hC.names.gr Q6;have oY:=hO.PK ol hi Q5 Q6;have hw:=aD hw Q6 (aew _) hC.names.aW;(obtain ⟨aq,aE⟩:=cT OW aq aE);have hS:=bf.aJ OW rfl;refine SW.nil (ae.sg hS ?_);refine SG.bZ 9 ?_;repeat ((show SW _ _ _ _ (⟨_,Op.nilCheck _,_,_,_,none⟩::_) _ _;refine SW.st (aF rfl) rfl ?_))
   refine SW.nil (ae.sg hS ?_);refine SG.bZ 10 ?_;repeat ((show SW _ _ _ _ (⟨_,Op.fieldAddr _ _ _,_,_,_,none⟩::_) _ _;refine SW.st (az rfl) rfl ?_))
   refine SW.nil (ae.sg hS ?_);refine SG.ff ?_;refine SW.gH i 0 ⟨⟨cs[i].Names.A,cs[i].Names.n-1,cs[i].Names.c⟩,cs[i].ay,cs[i].bL,cs[i].Order,cs[i].ab,cs[i].ak⟩ oY.row rfl rfl rfl cx (by decide) rfl rfl fun qH ke NJ => ?_
   have vZ:=oY.row.gr NJ;have Th:=oY.Eh ke NJ;have hw:=aD hw NJ (aew _) oY.row.aW;(obtain ⟨aq,aE⟩:=cT vZ aq aE);refine Wz ?_;refine Wg aE (aU q) fun iZ cK hg => ?_
   have hG:=aE.gr hg;have hw:=hw.own dQ hg;have Th:=Th.aJ hG rfl;refine Wz ?_;exact ae.dj rfl rfl rfl cK rfl ⟨_,rfl,hw,_,hD,⟨_,rfl,Th.xd⟩⟩
  ·repeat' (first|refine Wz ?_|refine Wl (AQ _ bf) ?_|refine Wl (hO.row.sl.jF cx (j:=0) (u := .slice cs[i].Names.A cs[i].Names.n cs[i].Names.c) rfl) ?_|refine Wl (hO.row.sl.jF cx (j:=4) (u := .slice cs[i].ab.A cs[i].ab.n cs[i].ab.c) rfl) ?_|(refine SW.st (iX (vs:=[.pointer (some ⟨b8,0,none⟩)]) rfl) rfl ?_))
   all_goals try omega
   have gP:=hO.row.sl.jF cx (j:=2) (u := .int .i64 cs[i].bL) rfl
   refine Wk (yG _ _ _ s.aa[i].ab _ hC.aB.sl _ [.pointer (some ⟨b8,0,none⟩)] (fun x=>decide (x.ai<s.aa[i].bL)) (fun x => .agg (bd x).toArray) (fun x=>rfl) (fun x hx w1 lj=>by
    have:=LV x b8 _ cs[i].bL w1 (bf.ext lj) (lj.cell gP)
    rwa [Ii] at this) (by omega)) fun v w9 ar hv => ?_
   subst hv;have WI:(s.aa[i].ab.any fun x=>decide (x.ai<s.aa[i].bL))=C5 s.aa[i]:=rfl
   rw [WI];(obtain ⟨hw,aq,aE,hO,hI⟩:=fH ar hw aq aE hO hI);clear hC gP;cases hb:C5 s.aa[i]
   ·have hD:=sb.cache he oe hi hl hb;refine Wz ?_;refine SW.dK rfl rfl (AT w _ b2 q s cs i hf hw aq eW hO hI hi (by omega)) fun v oP hv => ?_
    obtain ⟨rfl,H,cs',hh⟩:=hv;have hw:=hh.ext;have aE:=hh.kp _ _ bG aE;have hb:=hh.eV;have hS:=hh.sx;have fP:Own oP w.heap.size 103 6 fu q.aa.A q.aa.n q.aa.c cs':=hS.row
    have acX:=fP.sl.base;refine Wz ?_;refine SW.dK rfl rfl (AS _ _ _ w.heap.size _ _ fP i cx (by omega) hw.size) fun v qH hv => ?_
    obtain ⟨rfl,OD,Cf⟩:=hv;have vX:=fP.gr Cf;have hw:=aD hw Cf (aew _) fP.aW;(obtain ⟨hb,aE⟩:=cT vX hb aE);have hX:=hS.words.aJ vX rfl;have hY:=hS.heap.aJ vX rfl;have hE:=(hS.each.SH i).mono fun _ _ h=>h.aJ vX rfl
    rw [xV] at hE;refine Wz ?_;refine Wb (i:=6) hb fun iZ iL hg => ?_
    have hG:=hb.gr hg;have aE:=aE.grown hg (by simpa using bG);have hw:=hw.own eW hg;(obtain ⟨hX,hY,OD⟩:=cd hG hX hY OD);have hE:=hE.mono fun _ _ h=>h.aJ hG rfl
    refine Wz ?_;refine Wg aE (aU ⟨q.Words,H,⟨q.aa.A,q.aa.n-1,q.aa.c⟩⟩) fun w13 cK hg => ?_
    have hG:=aE.gr hg;have hw:=hw.own dQ hg;(obtain ⟨hX,hY,OD⟩:=cd hG hX hY OD);have hE:=hE.mono fun _ _ h=>h.aJ hG rfl
    refine Wz ?_;exact ae.dj rfl rfl rfl cK rfl ⟨_,rfl,hw,_,hD,⟨⟨q.Words,H,⟨q.aa.A,q.aa.n-1,q.aa.c⟩⟩,rfl,hX,hY,_,OD,hE⟩⟩
   ·have hD:=sb.busy he oe hi hl hb;refine Wz ?_;refine Wg aE (aU .zero) fun oP cK hg => ?_
    have hw:=hw.own dQ hg;refine Wz ?_;exact ae.dj rfl rfl rfl cK rfl ⟨_,rfl,hw,_,hD,gR.zero 7 _ _⟩
variable {n:ByteArray} {t:TypeId}
def kS:ByteArray:=⟨#[107]⟩
section
variable {P:Program} {L:Env} {w:World} {d:Option Nat} {T:TypeId} {pos:String} {af:Array Edge} {g:Option (Nat×Bool)}
def Cl [c:Fc P t] {x hi:Operand} {s r:ByteArray} {j:Int} (hx:cy L x=some (.string s)) (XD:cy L hi=some (.int .i64 j)) (h0 : 0<=j) (h2:j<=s.size) (hr:s.extract 0 j.toNat=r) :
 St P ⟨d,.slice t x none (some hi) none,T,pos,af,g⟩ L w (.string r) :=
 ⟨fun _ a ha w' _=>by
  subst hr;have e1:=ha.eval hx;have e3:=ha.eval XD;generalize a.eval = ρ at *
  simp [execOp,e1,e3,Instr.sliceAt,Instr.slice,Instr.sliceBounds,Instr.sliceBound,asIntOf,run_underlying c.ot,h0,h2]⟩
end
def LW (h : 1<=n.size) : decide (n.extract 0 1=kS)=s8 n:=by
 obtain ⟨⟨l⟩⟩:=n;cases l with
 | nil=>simp [ByteArray.size] at h
 | cons a l =>
   have e:((⟨⟨a::l⟩⟩ : ByteArray).extract 0 1)=⟨#[a]⟩:=by
    apply ByteArray.ext;simp [ByteArray.data_extract]
   rw [e];have e2:s8 ⟨⟨a::l⟩⟩=decide (a=107):=by simp [s8,Bool.beq_eq_decide_eq]
   rw [e2];by_cases ha:a=107
   ·subst ha;rfl
   ·rw [decide_eq_false ha];refine decide_eq_false fun h=>ha ?_
    unfold kS at h;injection h with h
    injection h with h
    injection h
def wq (n:ByteArray) (w:World) (hn:n.size<=140737488351232) :
 bI prog 114 [.string n,.string kS] w fun v _=>v = .bool (s8 n):=by
 have hk:(kS.size:Int)=1:=rfl
 refine Wj func114 ntmps114 ?_;have hw:=Ext.refl w;rcases aeL n.size with h0|h0
 ·have e:s8 n=false:=by
   obtain ⟨⟨l⟩⟩:=n;cases l with
   | nil=>rfl
   | cons a l=>simp [ByteArray.size] at h0
  rw [e];repeat' (first|refine Wz ?_|refine SW.st (yT rfl) rfl ?_)
  exact ae.bh rfl rfl ⟨_,rfl,hw,rfl⟩
 ·obtain ⟨x,hx⟩ : ∃ x,n.extract 0 1=x:=⟨_,rfl⟩;rw [<- LW h0,hx];obtain ⟨p,hp⟩ : ∃ p,p=kS:=⟨_,rfl⟩;rw [<- hp] at hk ⊢;have pe:n.extract 0 (p.size:Int).toNat=x:=by rw [hk];exact hx
  repeat' (first|refine Wz ?_|refine SW.st (yT rfl) rfl ?_|(refine SW.st (Cl rfl rfl (by omega) (by omega) pe) rfl ?_)|(refine SW.st (lN rfl rfl) rfl ?_))
  exact ae.bh rfl rfl ⟨_,rfl,hw,rfl⟩
def Cm (n:ByteArray) (w:World) (hn:n.size<=140737488351232) :
 bI prog 63 [.string n,.string kS] w fun v _=>v = .bool (s8 n):=by
 refine Wj func63 ntmps63 ?_;have hw:=Ext.refl w;repeat' (first|refine Wz ?_|(refine Wk (wq n _ hn) ?_;intro v w1 ah hv;subst hv;have hw:=hw.trans ah;clear ah))
 exact ae.bh rfl rfl ⟨_,rfl,hw,rfl⟩
set_option maxHeartbeats 4000000 in
def GP (a:cr) (hk:a.Kind=4) (pu:a.Name.size<=140737488351232) : uY a:=by
 intro r s lo w hO dt hI fh;obtain ⟨k,cpu,n,m,At,fl,nm⟩:=a;simp only at hk pu ⊢;subst hk;have hf:=hI.cS;refine Wj func25 ntmps25 ?_;refine Ww fun b2 w1 hw eW aq => ?_;have l2:=aq.lt;refine SW.box rfl rfl fun b3 w2 bq cg ao => ?_
 (obtain ⟨hw,aq⟩:=cT bq hw aq);clear bq;have l3:=ao.lt;refine SW.alloc rfl fun b4 w2 bq fw aE => ?_
 have dQ:=hw.up fw
 (obtain ⟨hw,aq,ao⟩:=cd bq hw aq ao);clear bq;have LH:b4≠b2:=by omega
 obtain ⟨q,hq⟩ : ∃ q,s8 nm=q:=⟨_,rfl⟩
 have cH:∀ w',bI prog 63 [.string nm,.string kS] w' fun v _=>v = .bool q:=fun w'=>by
  rw [<- hq];exact Cm nm w' pu
 cases q
 ·repeat' (first|refine Wy ?_|refine Wm ((fun _ _=>aq.cell)) ?_|refine Wl (ao.cell (i:=0) (v := .int .i64 4) rfl) ?_|refine Wl (ao.cell (i:=6) (v := .string nm) rfl) ?_|(refine Wk (cH _) ?_;intro v w1 ah hv;subst hv;obtain ⟨hw,aq,ao,aE⟩:=dJ ah hw aq ao aE;clear ah))
  refine Wk (GO r s nm _ (hO.rd.ext hw) hf pu) fun v w7 iV hv => ?_
  obtain ⟨u,hu,q,rfl,hH⟩:=hv;have hA:=eK.kv (s:=s) (a:=⟨4,cpu,n,m,At,fl,nm⟩) rfl hq hu;clear hu;have hH:=hH.low (aev dt hw.size);(obtain ⟨hw,aq,ao,aE⟩:=dJ iV hw aq ao aE);clear iV;obtain ⟨u1,e⟩:=u;simp only at hA hH ⊢;repeat' (first|refine Wy ?_|fail);refine Wg aq (aU q) fun qH lF hg => ?_
  have hG:=aq.gr hg;have aE:=aE.grown hg (by simpa using LH);have hw:=hw.own eW hg;(have hH:=hH.aJ hG rfl);have aq:=lF;clear lF hG hg;repeat' (first|refine Wy ?_|refine Wm ((fun _ _=>aq.cell)) ?_)
  refine Wg aE (aU q) fun iZ jw hg => ?_
  have hG:=aE.gr hg;have hw:=hw.own dQ hg;(have hH:=hH.aJ hG rfl);repeat' (first|refine Wy ?_|fail);exact ae.Bx rfl rfl rfl rfl rfl jw rfl ⟨_,rfl,hw,_,hA,q,none,0,rfl,hH,Own.fC _ _ _ _ _ _⟩
 ·repeat' (first|refine Wy ?_|refine Wm ((fun _ _=>aq.cell)) ?_|refine Wl (ao.cell (i:=0) (v := .int .i64 4) rfl) ?_|refine Wl (ao.cell (i:=6) (v := .string nm) rfl) ?_|(refine Wk (cH _) ?_;intro v w1 ah hv;subst hv;obtain ⟨hw,aq,ao,aE⟩:=dJ ah hw aq ao aE;clear ah))
  refine Wg aE (aU r) fun iZ jw hg => ?_
  have hG:=aE.gr hg;have bg:=(hO.ext hw);have hw:=hw.own dQ hg;(have bg:=bg.aJ hG rfl);repeat' (first|refine Wy ?_|fail);exact ae.Bx rfl rfl rfl rfl rfl jw rfl ⟨_,rfl,hw,_,eK.form (s:=s) (a:=⟨4,cpu,n,m,At,fl,nm⟩) rfl hq,r,none,0,rfl,bg,Own.fC _ _ _ _ _ _⟩
variable {c:aN} {i k:Nat}
def Ro (i j:Nat) : Nat:=if j<i then j else j+1
def IX (h:j<k) : Ro i j<Ro i k:=by unfold Ro;split<;>split<;>omega
def get_erase {l:List α} (h:j<(l.eraseIdx i).length) : ∃ h':Ro i j<l.length,(l.eraseIdx i)[j]=l[Ro i j]:=by
 have hl:=h;rw [afz] at hl;unfold Ro;by_cases hj:j<i
 ·have:j<l.length:=by split at hl<;>omega
  refine ⟨by rw [if_pos hj];exact this,?_⟩;rw [afw,dif_pos hj];simp only [if_pos hj]
 ·have:j+1<l.length:=by split at hl<;>omega
  refine ⟨by rw [if_neg hj];exact this,?_⟩;rw [afw,dif_neg hj];simp only [if_neg hj]
def GQ {l:List α} (hk:k<m) (hl:k<l.length) : l[k]∈l.take m :=
 agj.2 ⟨k,by simp only [List.length_take];omega,by rw [ae3]⟩
def uZ {l:List α} {x : α} (h:x∈(l.eraseIdx i).take j) : x∈l.take (Ro i j):=by
 obtain ⟨m,hm,rfl⟩:=aeu h;simp only [List.length_take] at hm;rw [ae3];obtain ⟨h1,e⟩:=get_erase (l:=l) (i:=i) (j:=m) (by omega);rw [e];exact GQ (IX (by omega)) h1
def dE.of {t:ag} (h:dE s c) (hh:t.Heap=s.Heap) (hw:t.Words=s.Words) : dE t c :=
 ⟨h.lay,h.names,by rw [hh];exact h.aV,fun i hi=>⟨by rw [hh];exact (h.aB i hi).live,(h.aB i hi).next,by rw [hw];exact (h.aB i hi).chain⟩,h.cX⟩
def LX (hM:aA s) (i:Nat) : aA ⟨s.Words,s.Heap,s.aa.eraseIdx i⟩:=by
 refine ⟨hM.words,hM.heap,aev (afr _ _) hM.most,fun j hj => ?_⟩;obtain ⟨h1,e⟩:=get_erase (l:=s.aa) (i:=i) (j:=j) hj;have h:=hM.each _ h1
 have key:∀ c,c=s.aa[Ro i j]->dE s c∧tu (ba ((s.aa.eraseIdx i).take j)) c.Names∧tv (aH ((s.aa.eraseIdx i).take j)) c.ab:=by
  rintro _ rfl;refine ⟨h.may,⟨fun k hk => ?_⟩,fun k hk hm => ?_⟩
  ·obtain ⟨a,b,d⟩:=h.names.each k hk;refine ⟨a,fun hm=>b ?_,d⟩;rcases aeC.1 hm with hm|hm
   ·obtain ⟨c,hc,hy⟩:=aeK.1 hm;exact aeU _ (aeK.2 ⟨c,uZ hc,hy⟩)
   ·exact afg _ hm
  ·refine h.aB k hk ?_;rcases aeC.1 hm with hm|hm
   ·obtain ⟨c,hc,hy⟩:=aeK.1 hm;exact aeU _ (aeK.2 ⟨c,uZ hc,hy⟩)
   ·exact afg _ hm
 obtain ⟨k1,k2,k3⟩:=key _ e;refine ⟨k1.of rfl rfl,fun m hm => ?_,k2,k3⟩;have lA:m<(s.aa.eraseIdx i).length:=af3 hm hj
 obtain ⟨h2,e2⟩:=get_erase (l:=s.aa) (i:=i) (j:=m) lA;show ((s.aa.eraseIdx i)[m]'lA).ay≠((s.aa.eraseIdx i)[j]'hj).ay
 rw [e,e2];exact h.size _ (IX hm)
def GR (hM:aA s) (hi:i<s.aa.length) (hl : 1<s.aa[i].Names.length) : aA (bz s i (s.Heap,dV s.aa[i] k)):=by
 have ig:∀ (j:Nat) (hj:j<s.aa.length) (nr:j<(s.aa.set i (dV s.aa[i] k)).length),(s.aa.set i (dV s.aa[i] k))[j]=if i=j then dV s.aa[i] k else s.aa[j]:=fun j hj nr=>aeP _
 have nq:∀ (j:Nat) (hj:j<s.aa.length) (nr:j<(s.aa.set i (dV s.aa[i] k)).length),(s.aa.set i (dV s.aa[i] k))[j].ay=s.aa[j].ay∧(s.aa.set i (dV s.aa[i] k))[j].ab=s.aa[j].ab ∧ ∀ y∈(s.aa.set i (dV s.aa[i] k))[j].Names,y∈s.aa[j].Names:=fun j hj nr=>by
  rw [ig j hj nr];split
  ·rename_i e;subst e;exact ⟨rfl,rfl,fun y hy=>ae4 hy⟩
  ·exact ⟨rfl,rfl,fun y hy=>hy⟩
 have jc:∀ (j:Nat) (c:aN),c∈(s.aa.set i (dV s.aa[i] k)).take j -> ∃ d∈s.aa.take j,c.ab=d.ab ∧ ∀ y∈c.Names,y∈d.Names:=fun j c hc=>by
  obtain ⟨m,hm,rfl⟩:=aeu hc;simp only [List.length_take,List.length_set] at hm;rw [ae3];obtain ⟨_,h2,h3⟩:=nq m (by omega) (by rw [ae0];omega);exact ⟨_,GQ (by omega) (by omega),h2,h3⟩
 have hna:∀ (j:Nat) (y:ByteArray),y∈ba ((s.aa.set i (dV s.aa[i] k)).take j)->y∈ba (s.aa.take j):=fun j y hy=>by
  obtain ⟨c,hc,hy⟩:=aeK.1 hy;obtain ⟨d,hd,_,h3⟩:=jc j c hc;exact aeK.2 ⟨d,hd,h3 y hy⟩
 have hsa:∀ (j:Nat) (y:Int),y∈aH ((s.aa.set i (dV s.aa[i] k)).take j)->y∈aH (s.aa.take j):=fun j y hy=>by
  obtain ⟨c,hc,hy⟩:=aeK.1 hy;obtain ⟨d,hd,h2,_⟩:=jc j c hc;exact aeK.2 ⟨d,hd,by rw [<- h2];exact hy⟩
 refine ⟨hM.words,hM.heap,by simp only [bz,List.length_set];exact hM.most,fun j hj => ?_⟩;have Hr:j<s.aa.length:=by simpa [bz] using hj
 have h:=hM.each j Hr
 have wT:tv (aH ((s.aa.set i (dV s.aa[i] k)).take j)) s.aa[j].ab:=fun m hm hy=>by
  refine h.aB m hm ?_;rcases aeC.1 hy with hy|hy
  ·exact aeU _ (hsa j _ hy)
  ·exact afg _ hy
 have key:∀ c,c=(if i=j then dV s.aa[i] k else s.aa[j])->dE (bz s i (s.Heap,dV s.aa[i] k)) c∧tu (ba ((s.aa.set i (dV s.aa[i] k)).take j)) c.Names∧tv (aH ((s.aa.set i (dV s.aa[i] k)).take j)) c.ab:=by
  rintro _ rfl;split
  ·rename_i e;subst e;have hC:=h.may;have hs:=h.names.lT;refine ⟨⟨hC.lay,?_,hC.aV,fun m hm=>⟨(hC.aB m hm).live,(hC.aB m hm).next,(hC.aB m hm).chain⟩,fun m hm=>hC.cX m hm⟩,⟨fun m hm => ?_⟩,wT⟩
   ·simp only [dV,List.length_eraseIdx];split<;>omega
   ·have lA:m<(s.aa[i].Names.eraseIdx k).length:=hm
    obtain ⟨h1,e1⟩:=get_erase lA;obtain ⟨a,b,d⟩:=h.names.each _ h1;refine ⟨?_,fun hy => ?_,fun h0 => ?_⟩
    ·show gx ((s.aa[i].Names.eraseIdx k)[m]'lA)=true
     rw [e1];exact a
    ·have hy':(s.aa[i].Names.eraseIdx k)[m]∈ba ((s.aa.set i (dV s.aa[i] k)).take i)++(s.aa[i].Names.eraseIdx k).take m:=hy
     rw [e1] at hy';refine b ?_;rcases aeC.1 hy' with hy|hy
     ·exact aeU _ (hna i _ hy)
     ·exact afg _ (uZ hy)
    ·show ew ((s.aa[i].Names.eraseIdx k)[m-1]'(ago (Nat.sub_le _ _) lA)) ((s.aa[i].Names.eraseIdx k)[m]'lA)=true
     obtain ⟨h2,e2⟩:=get_erase (l:=s.aa[i].Names) (i:=k) (j:=m-1) (by omega);rw [e1,e2];exact hs _ _ h2 h1 (IX (by omega))
  ·refine ⟨h.may.of rfl rfl,⟨fun m hm => ?_⟩,wT⟩;obtain ⟨a,b,d⟩:=h.names.each m hm;refine ⟨a,fun hy=>b ?_,d⟩;rcases aeC.1 hy with hy|hy
   ·exact aeU _ (hna j _ hy)
   ·exact afg _ hy
 have nr:j<(s.aa.set i (dV s.aa[i] k)).length:=by rw [ae0];exact Hr
 obtain ⟨k1,k2,k3⟩:=key _ (ig j Hr nr);refine ⟨k1,fun m hm => ?_,k2,k3⟩;have lA:m<(s.aa.set i (dV s.aa[i] k)).length:=af3 hm nr
 show ((s.aa.set i (dV s.aa[i] k))[m]'lA).ay≠((s.aa.set i (dV s.aa[i] k))[j]'nr).ay
 rw [(nq m (af3 hm Hr) _).1,(nq j Hr _).1];exact h.size m hm
variable {per size:Int} {ws:List Int}
def BA (h:gV s n 0=0) : ∃ i,∃ hi:i<s.aa.length,idxOf (dr n) s.aa=(i:Int)∧n∈s.aa[i].Names:=by
 obtain ⟨_,ht,_⟩:=lc h;obtain ⟨i,hi,hh,_,oe⟩:=iF ht;exact ⟨i,hi,oe,fA.1 hh⟩
def Ti:∀ j,j<6->s8 (eJ (kP j))=true:=by decide +kernel
def sb.jQ (hN:mQ s) (hn:s8 n=false) (h:sb s n u) (h0:u.2=0) : mQ u.1:=by
 have hM:=hN.sys.may;have ri:=h.small hN.sys.cS;have bG:∀ j,j<6->eJ (kP j)≠n:=fun j hj e=>by rw [<- e,Ti j hj] at hn;cases hn
 cases h with
 | ask h=>exact absurd h0 h
 | busy=>simp at h0
 | @name i h e hi hl =>
   have hm:=GR (k:=kg s.aa[i].Names n) hM hi hl;refine ⟨⟨gz hm ri,hm⟩,fun j hj => ?_⟩;obtain ⟨p,hp,h1,h2⟩:=hN.named j hj;obtain ⟨c,hc,rfl⟩:=aeH.1 hp;obtain ⟨m,Rx,rfl⟩:=aeu hc;by_cases em:m=i
   ·subst em;refine ⟨((dV s.aa[m] (kg s.aa[m].Names n)).Names,s.aa[m].ay),aeH.2 ⟨dV s.aa[m] (kg s.aa[m].Names n),(dM hi).2 (.inl rfl),rfl⟩,fA.2 ?_,h2⟩;obtain ⟨i',mo,e',kF⟩:=BA h;obtain rfl:i'=m:=by omega
    obtain ⟨hk,ek,_⟩:=F6 (hM.each i' hi).names.lT kF;obtain ⟨x,hx,ex⟩:=aeu (fA.1 h1);simp only [dV];refine mem_erase_iff.2 ⟨x,hx,fun exk => ?_,ex⟩;subst exk;exact bG j hj (ex.symm.trans ek)
   ·exact ⟨_,aeH.2 ⟨s.aa[m],(dM hi).2 (.inr ⟨m,Rx,em,rfl⟩),rfl⟩,h1,h2⟩
 | @cache i h e hi hl hb =>
   have SZ:=rE h hi e;obtain ⟨_,h2,_⟩:=pE (n:=n) hN.sys (by rw [SZ]);rw [SZ] at h2;have hm:=LX h2.may i;rw [xV] at hm;refine ⟨⟨gz hm ri,hm⟩,fun j hj => ?_⟩;obtain ⟨p,hp,h1,h3⟩:=hN.named j hj;obtain ⟨c,hc,rfl⟩:=aeH.1 hp;obtain ⟨m,Rx,rfl⟩:=aeu hc;refine ⟨_,aeH.2 ⟨s.aa[m],mem_erase_iff.2 ⟨m,Rx,fun em => ?_,rfl⟩,rfl⟩,h1,h3⟩;subst em;obtain ⟨i',mo,e',kF⟩:=BA h;obtain rfl:i'=m:=by omega
   obtain ⟨x,hx,ex⟩:=aeu (fA.1 h1);obtain ⟨y,hy,ey⟩:=aeu kF;have pe:x<s.aa[i'].Names.length:=hx
   obtain rfl:x=y:=by omega
   exact bG j hj (ex.symm.trans ey)
def IY {a:cr} (hk:a.Kind=4) : s9 mQ a:=fun s u hN hu=>by
 obtain ⟨v,hv,rfl⟩:=hu.Rd (by omega);cases hv with
 | form=>exact hN
 | kv _ hn h =>
   refine hN.ok fun e => ?_
   exact sb.jQ hN hn h e
 | me bP|new bP|drop bP|shrink bP|bulk bP=>omega
def BB (a:cr) : s9 mQ a:=by
 by_cases h:a.Kind=4
 ·exact IY h
 ·exact ya h
def OE {x:Slab} {out:List Int} (hs : 1<=size) (hp : 0<=per) (h:bO ws size per x out) (ha:∀ a,iu size per x.At a=true->a∈out) : x.ai=per:=by
 obtain ⟨_,hn,hle,hlen,_⟩:=(gD hp).1 h;have hf:∀ k:Nat,k<per.toNat->16*x.At+(k:Int)*size∈out:=fun k hk=>ha _ (Af hs (by omega) rfl)
 have hd:=vE out.length ((List.range per.toNat).map fun k:Nat=>out.findIdx fun a=>decide (a=16*x.At+(k:Int)*size)) ?_ ?_
 ·simp only [List.length_map,List.length_range] at hd;omega
 ·show List.Pairwise (· ≠ ·) _
  rw [af6];refine List.Pairwise.imp_of_mem (fun {a b} ha hb bG e => ?_) List.nodup_range
  have hx:∀ k:Nat,k∈List.range per.toNat -> ∃ h:(out.findIdx fun a=>decide (a=16*x.At+(k:Int)*size))<out.length,out[out.findIdx fun a=>decide (a=16*x.At+(k:Int)*size)]=16*x.At+(k:Int)*size:=fun k hk=>by
   have hl:=List.findIdx_lt_length_of_exists (p:=fun a=>decide (a=16*x.At+(k:Int)*size)) ⟨_,hf k (List.mem_range.1 hk),by simp⟩;exact ⟨hl,by simpa using List.findIdx_getElem (w:=hl)⟩
  obtain ⟨h1,e1⟩:=hx a ha;obtain ⟨h2,e2⟩:=hx b hb
  have e3 : 16*x.At+(a:Int)*size=16*x.At+(b:Int)*size:=by
   rw [<- e1,<- e2];congr 1
  have e4:(a:Int)=b:=Int.eq_of_mul_eq_mul_right (by omega) (by omega:(a:Int)*size=b*size)
  exact bG (by omega)
 ·intro y hy;obtain ⟨k,hk,rfl⟩:=aeH.1 hy;exact List.findIdx_lt_length_of_exists ⟨_,hf k (List.mem_range.1 hk),by simp⟩
def ic (t:bU) : cr:=if t.Kind=1 then ⟨2,0,0,0,t.At / 16,0,⟨#[]⟩⟩ else if t.Kind=5 then ⟨6,0,0,0,t.At,0,t.Name⟩ else ⟨9,0,0,0,t.At,0,⟨#[]⟩⟩
section
variable {cp:Int} {s t:ag} {l:List bU}
def Out.Tj (h:Out cp s l) : kj s 0:=by
 have:=h.sys.may.heap.cpus
 unfold kj;omega
def Out.has (h:Out cp s l) (hn:(eR.any fun p=>nR p.1 n)=true) : gV s n 0=0 :=
 Au (jS h.sys.may) (by rw [zf,h.shape];exact hn) h.Tj
def LY (hI:dy s) (hA:Ge s i k a) (he:idxOf (dr n) s.aa=(i:Int)) (ha:gV s n 0=0) {w:ag×Int} (h:pP s n 0 a w) : w.2=0:=by
 cases h with
 | ask h=>exact absurd ha h
 | none _ hF bG =>
   rw [hF.dm (hA.find hI.may)] at bG;exact absurd ⟨rfl,he.symm⟩ bG
 | put=>rfl
def LZ {x:bU} (h:Out cp s (x::l)) {u:ag×j8} (hu:cu s (ic x) u) : u.2.Code=0∧Out cp u.1 l:=by
 obtain ⟨q,hq⟩:=h.fits x (by simp);have hr:=fi h.sys.may hq.nA;have hc:=h.Tj
 have key:u.2.Code=0:=by
  rcases hq.kind with ⟨hk,o,rfl⟩|⟨hk,hm⟩|⟨hk,hm⟩
  ·have e:ic x=⟨2,0,0,0,x.At / 16,0,⟨#[]⟩⟩:=by simp [ic,hk]
   rw [e] at hu;obtain ⟨v,hv,rfl⟩:=hu.Z5 rfl;have hw:=hq.nA.1;obtain ⟨hf,Yn⟩:=dG hw;have Wr:x.At / 16*16=x.At:=by omega
   cases hv with
   | range hn=>simp only at hn;omega
   | no _ nl=>simp only [Wr] at nl;rw [hw] at nl;cases nl
   | ok=>rfl
   | fault _ _ he =>
     rw [lS (bT.2 h.sys.may.heap) (cpu:=0) hc hf] at he;exact absurd rfl he
  ·have e:ic x=⟨9,0,0,0,x.At,0,⟨#[]⟩⟩:=by simp [ic,hk]
   rw [e] at hu;obtain ⟨v,hv,rfl⟩:=hu.Z6 rfl;exact N3 h.sys hc hq.nA (fun i hi e=>hm i hi e) hv
  ·have e:ic x=⟨6,0,0,0,x.At,0,x.Name⟩:=by simp [ic,hk]
   rw [e] at hu;obtain ⟨v,hv,rfl⟩:=hu.Z9 rfl
   have hz:∃ i:Nat,q = .obj i∧idxOf (dr x.Name) s.aa=(i:Int)∧gV s x.Name 0=0:=by
    rcases hm with ⟨en,rfl⟩|⟨en,rfl⟩
    ·exact ⟨6,rfl,by rw [en];exact (Ex h).1,by rw [en];exact h.has (by decide +kernel)⟩
    ·exact ⟨1,rfl,by rw [en];exact (Gj h).1,by rw [en];exact h.has (by decide +kernel)⟩
   obtain ⟨i,rfl,he,ha⟩:=hz;obtain ⟨k,hk⟩:=(ze hq.nA.lt).1 ((hU hq.nA.lt).1 hq.nA);exact LY h.sys hk he ha hv
 refine ⟨key,?_⟩;have hb:=tO h (i:=0) (by simp) (a:=ic x) ?_ hu key
 ·simpa using hb
 ·rcases hq.kind with ⟨hk,o,rfl⟩|⟨hk,hm⟩|⟨hk,hm⟩
  ·right;have:=(dG hq.nA.1).2.2
   simp [ic,hk];omega
  ·left;simp [ic,hk]
  ·left;simp [ic,hk]
def OF (hr:jN s cX xs t) : ∀ m rest:List bU,cX=m.map ic->Out cp s (m++rest)->(∀ x∈xs,x.Code=0)∧Out cp t rest:=by
 induction hr with
 | nil =>
   intro m rest e h;have:m=[]:=List.map_eq_nil_iff.1 e.symm
   subst this;exact ⟨(fun x hx=>by cases hx),h⟩
 | @snoc t a0 xs a u hr hu ih =>
   intro m rest e h;obtain ⟨m1,m2,rfl,e1,e2⟩:=List.map_eq_append_iff.1 e.symm
   obtain ⟨x,rfl⟩ : ∃ x,m2=[x]:=by
    match m2,e2 with
    | [x],_=>exact ⟨x,rfl⟩
   simp only [List.map_cons,List.map_nil,List.cons.injEq,and_true] at e2;subst e2;obtain ⟨h1,h2⟩:=ih m1 (x::rest) e1.symm (by simpa using h);obtain ⟨g1,g2⟩:=LZ h2 hu;refine ⟨fun y hy => ?_,g2⟩;rcases aeC.1 hy with hy|hy
   ·exact h1 y hy
   ·simp only [List.mem_singleton] at hy;rw [hy];exact g1
end
def yH (n:ByteArray) : cr:=⟨7,0,0,0,0,0,n⟩
def Dw (s:ag) (n:ByteArray) : Prop := ∀ c,s.aa[(idxOf (fun p=>nR p.1 n) eR).toNat]?=some c->c.ab=[]
section
variable {cp:Int} {s t:ag}
def OG (h:Out cp s []) (hn:(eR.any fun p=>nR p.1 n)=true) {u:ag×j8} (hu:cu s (yH n) u) : u.2.Code=0∧Out cp u.1 []∧Dw u.1 n ∧ ∀ m,Dw s m->Dw u.1 m:=by
 have ha:=h.has hn;have e:=hu.of7 rfl;obtain ⟨i,hi,oe,_⟩:=BA ha;have hs:=rE ha hi oe;have e0:(ie s n).2=0:=by rw [hs]
 have h0:u.2.Code=0:=by rw [e];exact e0
 have hO:=xw h (.inr (.inl rfl)) hu;obtain ⟨_,hI,j,hj,hjx,lH⟩:=pE h.sys e0;obtain rfl:i=j:=by omega
 have eu:u.1=(ie s n).1:=by rw [e];exact nH e0 _ _
 rw [<- eu] at lH;have ei:(idxOf (fun p=>nR p.1 n) eR).toNat=i:=by rw [v9,h.shape] at oe;omega
 have hb:Dw u.1 n:=fun c hc=>by
  rw [ei] at hc;rcases afL c.ab with e1|⟨r,x,e1⟩
  ·exact e1
  ·exfalso;have hx:x∈c.ab:=by rw [e1];simp
   obtain ⟨mo,rfl⟩:=aeQ.1 hc;have hC:=(hO.sys.may.each i mo).may;obtain ⟨k,hk,rfl⟩:=aeu hx;obtain ⟨out,ho⟩:=(hC.aB k hk).chain;have hl:=bV hC.lay
   have JE:=OE hl.1.1 (by omega) ho fun a hob=>by
    rcases Classical.em (a∈out) with h1|h1
    ·exact h1
    ·obtain ⟨z,hz,_⟩:=hO.all (.obj i) a ⟨_,aez mo,_,aet hk,hob,out,ho,h1⟩;cases hz
   refine lH _ hc _ hx ?_;rw [JE]
   have hz:u.1.aa[i].ay=s.aa[i].ay:=by
    have h1:=oS mo;have h2:=oS hi;rw [hO.shape,<- h.shape,h2] at h1;injection h1 with h1
    injection h1 with _ h1
    exact h1.symm
   have h3:=hC.lay;rw [hz,(h.sys.may.each i hi).may.lay] at h3;injection h3 with _ h3
   injection h3 with h3 _
   exact h3.symm
 refine ⟨h0,hO,hb,fun m hm c hc => ?_⟩;by_cases WE:(idxOf (fun p=>nR p.1 m) eR).toNat=i
 ·exact hb c (by rw [ei,<- WE];exact hc)
 ·refine hm c ?_;rw [<- hc,eu,hs];simp only [bz];rw [afy fun e=>WE e.symm]
def Qo (hr:jN s cX xs t) : ∀ ns:List ByteArray,cX=ns.map yH->(∀ n∈ns,(eR.any fun p=>nR p.1 n)=true)->Out cp s []->(∀ x∈xs,x.Code=0)∧Out cp t [] ∧ ∀ n∈ns,Dw t n:=by
 induction hr with
 | nil =>
   intro m e _ h;have:m=[]:=List.map_eq_nil_iff.1 e.symm
   subst this;exact ⟨(fun x hx=>by cases hx),h,(fun x hx=>by cases hx)⟩
 | @snoc t a0 xs a u hr hu ih =>
   intro m e hn h;obtain ⟨m1,m2,rfl,e1,e2⟩:=List.map_eq_append_iff.1 e.symm
   obtain ⟨x,rfl⟩ : ∃ x,m2=[x]:=by
    match m2,e2 with
    | [x],_=>exact ⟨x,rfl⟩
   simp only [List.map_cons,List.map_nil,List.cons.injEq,and_true] at e2;subst e2;obtain ⟨h1,h2,h3⟩:=ih m1 e1.symm (fun n hm=>hn n (aeU _ hm)) h;obtain ⟨g1,g2,g3,g4⟩:=OG h2 (hn x (by simp)) hu;refine ⟨fun y hy => ?_,g2,fun n hm => ?_⟩
   ·rcases aeC.1 hy with hy|hy
    ·exact h1 y hy
    ·simp only [List.mem_singleton] at hy;rw [hy];exact g1
   ·rcases aeC.1 hm with hm|hm
    ·exact g4 n (h3 n hm)
    ·simp only [List.mem_singleton] at hm;subst hm;exact g3
end
def kk:List ByteArray:=[nt,dN,eJ 1,eJ 2,eJ 4,eJ 8,eJ 16,eJ 32]
def wu (n:ByteArray) : cr:=⟨4,0,0,0,0,0,n⟩
def L0:cr:=⟨12,0,0,0,0,0,⟨#[]⟩⟩
def yh (l:List bU) : List cr:=l.map ic++(kk.map yH++[wu nt,wu dN,L0])
def L4:∀ n∈kk,(eR.any fun p=>nR p.1 n)=true:=by decide +kernel
def IZ:∀ i,i<7 -> ∃ n∈kk,(idxOf (fun p=>nR p.1 n) eR).toNat=i:=by decide +kernel
section
variable {cp:Int} {s t:ag}
def OH (h:Out cp s []) (hb:∀ n∈kk,Dw s n) : ∀ c∈s.aa,c.ab=[]:=fun c hc=>by
 obtain ⟨i,hi,rfl⟩:=aeu hc
 have hl:s.aa.length=7:=by
  have:=congrArg List.length h.shape
  simpa [j9,eR] using this
 obtain ⟨n,hn,e⟩:=IZ i (by omega);exact hb n hn _ (by rw [e];exact aez hi)
def L5 (h:Out cp s []) (hb:∀ c∈s.aa,c.ab=[]) : s.Heap.Live=[]:=by
 rcases afL s.Heap.Live with e|⟨r,b,e⟩
 ·exact e
 ·exfalso;have hm:b∈s.Heap.Live:=by rw [e];simp
  have hv:=(h.sys.may.heap.live.all b hm).2.1;obtain ⟨z,hz,_⟩:=h.all (.pg b.Order) (16*b.At) ((j3 h.sys.may.heap.live).2 ⟨⟨by omega,by omega⟩,fun c hc x hx=>(by rw [hb c hc] at hx;cases hx),b,hm,by omega,rfl⟩);cases hz
def Tk (h:Out cp s []) (hb:∀ c∈s.aa,c.ab=[]) {u:ag×j8} (hu:cu s (wu nt) u) : u.2.Code=0∧u.1=⟨s.Words,s.Heap,s.aa.eraseIdx 6⟩:=by
 obtain ⟨v,hv,rfl⟩:=hu.Rd (by decide);have yj:∀ {c:aN},c∈s.aa->C5 c=false:=fun hc=>by simp [C5,hb _ hc]
 have oe:=(Ex h).1
 have pu:∀ (i:Nat) (hi:i<s.aa.length),i=6->s.aa[i].Names=[nt]:=fun i hi e=>by
  subst e;have h1:=oS hi;rw [h.shape] at h1;injection h1 with h1
  injection h1 with h1 _
  exact h1.symm
 cases hv with
 | form _ hn=>exact absurd hn (by decide +kernel)
 | me bP|new bP|drop bP|shrink bP|bulk bP=>exact absurd bP (by decide)
 | kv _ hn hd =>
   cases hd with
   | ask ha=>exact absurd (h.has (by decide +kernel)) ha
   | @name i _ e hi hl =>
     rw [pu i hi (by have e':idxOf (dr nt) s.aa=(i:Int):=e;omega)] at hl;exact absurd hl (by decide)
   | busy _ _ hi _ WI=>rw [yj (aet hi)] at WI;cases WI
   | @cache i _ e hi hl _ =>
     have e':idxOf (dr nt) s.aa=(i:Int):=e
     obtain rfl:i=6:=by omega
     refine ⟨rfl,?_⟩;simp only [ms,if_true];rw [hb _ (aet hi)]
     rfl
def OI (hN:mQ t) (hc:kj t 0) (hs:j9 t=kI.set 1 ([eJ 2,dN],2)) {u:ag×j8} (hu:cu t (wu dN) u) : u.2.Code=0∧u.1.Heap=t.Heap∧u.1.aa.length=t.aa.length:=by
 obtain ⟨v,hv,rfl⟩:=hu.Rd (by decide);have oe:idxOf (dr dN) t.aa=(1:Int):=by rw [v9,hs];decide +kernel
 have ha:gV t dN 0=0:=Au (jS hN.sys.may) (by rw [zf,hs];decide +kernel) hc
 have pu:∀ (i:Nat) (hi:i<t.aa.length),i=1->t.aa[i].Names=[eJ 2,dN]:=fun i hi e=>by
  subst e;have h1:=oS hi;rw [hs] at h1;injection h1 with h1
  injection h1 with h1 _
  exact h1.symm
 cases hv with
 | form _ hn=>exact absurd hn (by decide +kernel)
 | me bP|new bP|drop bP|shrink bP|bulk bP=>exact absurd bP (by decide)
 | kv _ hn hd =>
   cases hd with
   | ask h=>exact absurd ha h
   | name=>exact ⟨rfl,by simp [ms,bz],by simp [ms,bz]⟩
   | @busy i _ e hi hl =>
     rw [pu i hi (by have e':idxOf (dr dN) t.aa=(i:Int):=e;omega)] at hl;exact absurd (by decide) hl
   | @cache i _ e hi hl =>
     rw [pu i hi (by have e':idxOf (dr dN) t.aa=(i:Int):=e;omega)] at hl;exact absurd (by decide) hl
def Qp (hM:bK t.Heap) {u:ag×j8} (hu:cu t L0 u) : u.2.Code=0∧u.1.Heap.Live=t.Heap.Live∧u.1.Heap.au=[]∧u.1.aa=t.aa:=by
 have e:=hu.Vq rfl;obtain ⟨z0,z1,h1,_⟩:=hM.cq;rw [sX (bT.2 hM) h1] at e;rw [e];exact ⟨rfl,by simp [ms,oN,mT],by simp [ms,oN,mT],by simp [ms,oN]⟩
def OJ {l:List bU} (h:Out cp s l) (hN:mQ s) (hr:jN s (yh l) xs t) : xs.length=l.length+11∧(∀ x∈xs,x.Code=0)∧t.Heap.Live=[]∧t.Heap.au=[]∧t.aa.length=6:=by
 have hlen:=hr.len;obtain ⟨y1,z1,s1,r1,r2,rfl⟩:=jN.split hr;obtain ⟨c1,o1⟩:=OF r1 l [] rfl (by simpa using h);obtain ⟨y2,z2,s2,r3,r4,rfl⟩:=jN.split r2;obtain ⟨c2,o2,b2⟩:=Qo r3 kk rfl L4 o1;have hb:=OH o2 b2;have Ma:=L5 o2 hb;obtain ⟨y3,z3,s3,r5,r6,rfl⟩:=jN.split (l:=[wu nt]) (m:=[wu dN,L0]) r4;obtain ⟨u3,WD,rfl,rfl⟩:=r5.one;obtain ⟨k3,e3⟩:=Tk o2 hb WD;have hN3:mQ u3.1:=BB _ _ _ o2.named WD
 obtain ⟨y4,z4,s4,r7,r8,rfl⟩:=jN.split (l:=[wu dN]) (m:=[L0]) r6;obtain ⟨u4,Yw,rfl,rfl⟩:=r7.one
 have u9:j9 u3.1=kI.set 1 ([eJ 2,dN],2):=by
  rw [e3];have e:=o2.shape;unfold j9 at e ⊢;rw [aeR,aeV,agu,List.map_drop,e]
  rfl
 have Um:s2.aa.length=7:=by
  have:=congrArg List.length o2.shape
  simpa [j9,eR] using this
 have V7:kj u3.1 0:=by rw [e3];exact o2.Tj
 obtain ⟨k4,e4,l4⟩:=OI hN3 V7 u9 Yw;have hM4:bK u4.1.Heap:=by rw [e4];exact hN3.sys.may.heap
 obtain ⟨u5,hu5,rfl,rfl⟩:=r8.one;obtain ⟨k5,e5,e6,e7⟩:=Qp hM4 hu5;refine ⟨?_,fun x hx => ?_,?_,e6,?_⟩
 ·rw [hlen];simp [yh,kk]
 ·simp only [List.mem_append,List.mem_singleton] at hx;rcases hx with hx|hx|rfl|rfl|rfl
  ·exact c1 x hx
  ·exact c2 x hx
  ·exact k3
  ·exact k4
  ·exact k5
 ·rw [e5,e4,e3];exact Ma
 ·rw [e7,l4,e3];simp [List.length_eraseIdx,Um]
def OK {l:List bU} {ys:List j8} (h0:Start s0) (hr:jN s0 cX xs s) (TQ:Ph s0 j s l) (hj : 2<=j) (h4:∀ a∈cX,a.Kind≠4) (h2:jN s0 (cX++yh l) ys t) :
 ys.length=cX.length+(l.length+11)∧(∀ (i:Nat) (hi:i<ys.length),cX.length<=i->ys[i].Code=0)∧t.Heap.Live=[]∧t.Heap.au=[]∧t.aa.length=6:=by
 obtain ⟨zs,rfl,hz⟩:=LS h0 hr h4 h2;have hO:=TQ.out hj;obtain ⟨g1,g2,g3⟩:=OJ hO hO.named hz;have od:=hr.len;refine ⟨by simp [od,g1],fun i hi hle => ?_,g3⟩;rw [agz (by omega)];exact g2 _ (aet _)
end
variable {cp:Int}
section
variable {α:Type} {P:Program} {n:Nat} {ops:Array Oper} {Q:Exit->Act->World->Prop} {rest:List Oper} {L:Env} {w:World} {d:Nat} {T:TypeId} {pos:String} {af:Array Edge}
def SW.OL {t e:TypeId} {z:Value} {sz bytes len:Nat} {enc : α -> List Value} {parts:Array (Nat×Operand)} [bu P t e sz] [dn P e z sz bytes] [iK enc sz] {us:List Value} (vz:List α)
 (hp:parts.toList=((parts.toList.map fun p=>p.2).zipIdx 0).map fun p=>(p.2,p.1)) (hx:uy L (parts.toList.map fun p=>p.2)=some us) (hu:us.map (fun u=>u.cells.toList)=vz.map enc) (hlen:Nat.beq len vz.length=true) (kb:Nat.blt 0 len=true) (hle:Nat.ble len 100=true) (hs:Nat.ble sz 1000=true)
 (hn:Nat.blt d n=true) (h:∀ g w',Ext w w'->w.heap.size<=g->Own w' w.heap.size e sz enc (some ⟨g,0,none⟩) len len vz->SW P n ops (.gd Q) rest ((d,.slice (some ⟨g,0,none⟩) len len)::L) w') :
 SW P n ops (.gd Q) (⟨some d,.buildSlice t len parts,T,pos,af,none⟩::rest) L w:=SW.th _ vz hp hx hu hlen kb hle hs hn h
end
def L6 {l:List bU} (h:Out cp s l) : ∀ x∈yh l,fM mQ x:=fun x hx=>by
 rcases aeC.1 hx with hx|hx
 ·obtain ⟨t,ht,rfl⟩:=aeH.1 hx;obtain ⟨q,hq⟩:=h.fits t ht;have hr:=fi h.sys.may hq.nA
  have hn:t.Kind=5->t.Name.size<=8:=fun hk=>by
   rcases hq.kind with ⟨h1,_⟩|⟨h1,_⟩|⟨_,⟨h1,_⟩|⟨h1,_⟩⟩
   ·omega
   ·omega
   ·rw [h1];decide
   ·rw [h1];decide
  unfold ic;split
  ·exact fM.named (Gy _ rfl)
  ·split
   ·rename_i h5;have:=hn h5
    exact fM.named (nk _ (by simp) (yf _ rfl (by simp only;omega) (by simp only;omega)))
   ·exact fM.named (GN _ rfl (by simp only;omega))
 ·rcases aeC.1 hx with hx|hx
  ·obtain ⟨n,hn,rfl⟩:=aeH.1 hx;have hz:∀ n∈kk,n.size<=8:=by decide +kernel
   have:=hz n hn
   exact fM.named (nk _ (by simp [yH]) (yg _ rfl (by simp only [yH];omega)))
  ·have hd:∀ n:ByteArray,n.size<=8->fM mQ (wu n):=fun n hn=>fM.named (nk _ (by simp [wu]) (GP _ rfl (by simp only [wu];omega)))
   simp only [List.mem_cons,List.not_mem_nil,or_false] at hx;rcases hx with rfl|rfl|rfl
   ·exact hd _ (by decide)
   ·exact hd _ (by decide)
   ·exact fM.named (xA _ rfl)
set_option maxHeartbeats 8000000 in
def GS (X:Option Addr) (n e:Nat) (l:List IN) (a b c:Int) (w:World) (hl:Sl w 4 GA X n l) (hn:n<=9000000000000000000) (hr:∀ x∈l,JY x) (ha : -9223372036854775808<=a∧a<=9223372036854775807) (hb : -9223372036854775808<=b∧b<=9223372036854775807) (hc : -9223372036854775808<=c∧c<=9223372036854775807) (hS:iQ w) (fh:m9 w) :
 bI prog 3 [.slice X n e,.int .i64 a,.int .i64 b,.int .i64 c] w fun v _=>v = .bool true:=by
 refine Wj func3 ntmps3 ?_;have hw:=Ext.refl w;have hp9:=dk (n:=a) (m:=9) (by omega);repeat' (first|refine Wy ?_|fail);refine Wk (LD _ (hS.ext hw) (fh.ext hw)) fun v w2 bq hv => ?_
 subst hv;have hw:=hw.trans bq;clear bq;repeat' (first|refine Wy ?_|(refine CW.gj rfl ?_))
 refine Wk (IW X n e l a b c _ (hl.ext hw) hn hr ha hb hc (hS.ext hw) (fh.ext hw)) fun v w2 bq hv => ?_
 obtain ⟨A,B,bb,r,p,q,z,rs,s0,cX,xs,lt,s,j0,rfl,hA,hB,hP⟩:=hv;have hP:=hP.down hw.size;have hA:=hA.low hw.size;have hB:=hB.low hw.size;have hw:=hw.trans bq;clear bq;have Ee:=hP.pl.wm.len;have KT:=hP.pl.len;have h42:=hP.two;have Hv:=hP.pl.o9.len;have hzb:=hP.pl.many;repeat' (first|refine Wy ?_|fail);refine SW.alloc rfl fun oF w1 ah nb aC => ?_
 repeat' (first|refine Wy ?_|fail);refine Wg aC (wj A 2 2 B 2 2 (16*bR a 9) (bR b 12) (1+bR c 4)) fun w2 bA hg => ?_
 have ar:=ah.own nb hg;have il:=hw.up nb
 obtain ⟨hw,hA,hB,hP⟩:=dJ ar hw hA hB hP;have aC:=bA;clear bA ah hg ar;repeat' (first|refine Wy ?_|refine Wl (hP.pl.pF.cell (i:=7) (v := .slice p.A p.n p.c) rfl) ?_)
 obtain ⟨w3,ew3⟩ : ∃ w3,w2=w3:=⟨_,rfl⟩;rw [ew3] at hw aC hA hB hP ⊢;have Tl:=hw.size;have Pt:=hP.pl.wm.lt_size;have j6:j4 w3 w3:=⟨Ext.refl _⟩
 refine Wk (EE p.A p.n p.c cX _ hP.pl.wm.sl (by omega)) fun v w2 bq hv => ?_
 obtain ⟨Y0,f0,rfl,hY⟩:=hv;(obtain ⟨hw,aC,hA,hB,hP,j6⟩:=jh bq hw aC hA hB hP j6);clear bq;have hzA:=hP.pl.o9.sl.base;repeat' (first|refine Wy ?_|refine Wl (hP.pl.pF.cell (i:=9) (v := .slice z.A z.n z.c) rfl) ?_)
 refine CW.J5 (fun L' w2 => ∃ Y f,iM L' [(9,.pointer (some ⟨bb,0,none⟩)),(10,.pointer (some ⟨oF,0,none⟩)),(11,.bool true),(12,.slice Y (p.n+z.n) f)]∧j4 w3 w2∧Ext w w2∧aR w2 oF 29 (fj A 2 2 B 2 2 (16*bR a 9) (bR b 12) (1+bR c 4))∧Own w2 w.heap.size 79 2 iB A 2 2 (te a b c)∧Own w2 w.heap.size 79 2 iB B 2 2 (tf a b c) ∧
  kx a b c w2 w.heap.size bb r p q z rs s0 cX xs lt s j0∧Own w2 w3.heap.size 35 7 dZ Y (p.n+z.n) f (cX++lt.map ic)) ?_ ?_
 ·refine CW.loop (fun s:Nat×Option Addr×Nat=>[(9,.pointer (some ⟨bb,0,none⟩)),(10,.pointer (some ⟨oF,0,none⟩)),(11,.bool true),(12,.slice s.2.1 (p.n+s.1) s.2.2),(41,.slice z.A z.n z.c),(42,.int .i64 (z.n:Int)),(43,.int .i64 (s.1:Int))])
   (fun u w2=>u.1<=z.n∧j4 w3 w2∧Ext w w2∧aR w2 oF 29 (fj A 2 2 B 2 2 (16*bR a 9) (bR b 12) (1+bR c 4))∧Own w2 w.heap.size 79 2 iB A 2 2 (te a b c)∧Own w2 w.heap.size 79 2 iB B 2 2 (tf a b c) ∧
     kx a b c w2 w.heap.size bb r p q z rs s0 cX xs lt s j0∧Own w2 w3.heap.size 35 7 dZ u.2.1 (p.n+u.1) u.2.2 (cX++(lt.take u.1).map ic)) (fun s=>z.n-s.1) (0,Y0,f0)
   ⟨rfl,rfl,rfl,rfl,rfl,rfl,rfl,trivial⟩ ⟨afc _,j6,hw,aC,hA,hB,hP,by simpa using hY⟩ ?_
  clear hw aC hA hB hP hY j6;rintro ⟨j,Y,f⟩ w2 ⟨hj,j6,hw,aC,hA,hB,hP,hY⟩
  simp only at hj hY ⊢;by_cases my:j<z.n
  ·have pZ:j<lt.length:=by omega
   obtain ⟨x,ex⟩ : ∃ x,lt[j]=x:=⟨_,rfl⟩;have fc:=hP.pl.o9.sl.all my;rw [ex] at fc;have hO:=hP.pl.phase.out hP.two.1;obtain ⟨q0,RV⟩:=hO.fits x (by rw [<- ex];exact aet _);have hrg:=fi hO.sys.may RV.nA
   have uj:(x.Kind=1∧ic x=⟨2,0,0,0,x.At / 16,0,⟨#[]⟩⟩)∨(x.Kind=5∧ic x=⟨6,0,0,0,x.At,0,x.Name⟩)∨(x.Kind=8∧ic x=⟨9,0,0,0,x.At,0,⟨#[]⟩⟩):=by
    rcases RV.kind with ⟨h,_⟩|⟨h,_⟩|⟨h,_⟩
    ·exact .inl ⟨h,by simp [ic,h]⟩
    ·exact .inr (.inr ⟨h,by simp [ic,h]⟩)
    ·exact .inr (.inl ⟨h,by simp [ic,h]⟩)
   have HI:(cX++(lt.take j).map ic)++[ic x]=cX++(lt.take (j+1)).map ic:=by
    rw [aeA pZ,ex];simp
   have fk:(lG x)[2]?=some (.int .i64 x.Kind):=rfl
   clear hO RV;repeat' (first|refine Wy ?_|refine Wm fc ?_)
   refine SW.alloc rfl fun XT w1 ah vU qF => ?_
   skip;refine Wg qF (Rg x) fun w2 xT hg => ?_
   have ar:=ah.own vU hg;have Q0:=hw.up vU
   obtain ⟨hw,aC,hA,hB,hP,hY,j6⟩:=ue ar hw aC hA hB hP hY j6;have qF:=xT;clear xT ah hg ar;rcases uj with ⟨hk,e⟩|⟨hk,e⟩|⟨hk,e⟩
   all_goals
    rw [hk] at fk;rw [e] at HI;clear hk e fc;repeat' (first|refine Wy ?_|refine Wl (qF.cell (i:=2) fk) ?_|refine Wl (qF.cell (i:=0) (v := .int .i64 x.At) rfl) ?_|refine Wl (qF.cell (i:=3) (v := .string x.Name) rfl) ?_)
    refine SW.dR rfl rfl rfl rfl rfl fun b50 w9 ar VM Tm => ?_
    (obtain ⟨hw,aC,hA,hB,hP,hY,j6⟩:=ue ar hw aC hA hB hP hY j6);refine SW.append hY (aR.wv (enc:=dZ) (x:=⟨_,_,_,_,_,_,_⟩) Tm) j6.hx.size rfl rfl rfl (by omega) (by omega) fun Y2 f2 oP IL hg => ?_
    have hG:=hY.gr hg;have G1:=EF hP.pl.wm Pt hg hY.aW;have hP:=hP.act hG G1;have hw:=aD hw hg Tl hY.aW;(obtain ⟨aC,hA,hB⟩:=cd hG aC hA hB)
    have IL:Own oP w3.heap.size 35 7 dZ Y2 (p.n+j+1) f2 (cX++(lt.take (j+1)).map ic):=by
     rw [<- HI];exact IL
    repeat' (first|refine Wy ?_|fail);exact ae.again (j+1,Y2,f2) ⟨rfl,rfl,rfl,rfl,rfl,rfl,rfl,trivial⟩ (by simp only;omega) ⟨by simp only;omega,⟨aD j6.hx hg (aew _) hY.aW⟩,hw,aC,hA,hB,hP,IL⟩
  ·obtain rfl:j=z.n:=by omega
   rw [aeF (by omega)] at hY;repeat' (first|refine Wy ?_|fail);exact ae.mD (K:=_) ⟨Y,f,⟨rfl,rfl,rfl,rfl,trivial⟩,j6,hw,aC,hA,hB,hP,hY⟩
 ·clear hw aC hA hB hP hY j6;rintro L' w2 ⟨Y,f,jc,j6,hw,aC,hA,hB,hP,hY⟩
  refine ae.sub jc ?_;repeat' (first|refine Wy ?_|fail);refine SW.OL (enc:=encStr) kk rfl rfl rfl rfl rfl rfl rfl rfl fun g75 w9 ar ac5 hN => ?_
  have hN:=hN.low hw.size;(obtain ⟨hw,aC,hA,hB,hP,hY,j6⟩:=ue ar hw aC hA hB hP hY j6);repeat' (first|refine Wy ?_|fail)
  refine CW.loop (fun s:Nat×Option Addr×Nat=>[(9,.pointer (some ⟨bb,0,none⟩)),(10,.pointer (some ⟨oF,0,none⟩)),(11,.bool true),(12,.slice s.2.1 (p.n+z.n+s.1) s.2.2),(75,.slice (some ⟨g75,0,none⟩) 8 8),(76,.int .i64 ((8:Nat) : Int)),(77,.int .i64 (s.1:Int))])
   (fun u w2=>u.1<=8∧j4 w3 w2∧Ext w w2∧aR w2 oF 29 (fj A 2 2 B 2 2 (16*bR a 9) (bR b 12) (1+bR c 4))∧Own w2 w.heap.size 79 2 iB A 2 2 (te a b c)∧Own w2 w.heap.size 79 2 iB B 2 2 (tf a b c) ∧
     kx a b c w2 w.heap.size bb r p q z rs s0 cX xs lt s j0∧Own w2 w.heap.size 9 1 encStr (some ⟨g75,0,none⟩) 8 8 kk∧Own w2 w3.heap.size 35 7 dZ u.2.1 (p.n+z.n+u.1) u.2.2 ((cX++lt.map ic)++(kk.take u.1).map yH)) (fun s=>8-s.1) (0,Y,f)
   ⟨rfl,rfl,rfl,rfl,rfl,rfl,rfl,trivial⟩ ⟨afc _,j6,hw,aC,hA,hB,hP,hN,by simpa using hY⟩ ?_
  clear hw aC hA hB hP hY j6 hN;rintro ⟨m,Y,f⟩ w2 ⟨hj,j6,hw,aC,hA,hB,hP,hN,hY⟩
  simp only at hj hY ⊢;by_cases my:m<8
  ·have pZ:m<kk.length:=my
   have hNA:=hN.sl.base;have ho:=hN.sl.one my (u := .string kk[m]) rfl;obtain ⟨x,ex⟩ : ∃ x,kk[m]=x:=⟨_,rfl⟩;rw [ex] at ho
   have HI:((cX++lt.map ic)++(kk.take m).map yH)++[yH x]=(cX++lt.map ic)++(kk.take (m+1)).map yH:=by
    rw [aeA pZ,ex];simp
   repeat' (first|refine Wy ?_|refine Wl ho ?_)
   refine SW.dR rfl rfl rfl rfl rfl fun b50 w9 ar VM Tm => ?_
   (obtain ⟨hw,aC,hA,hB,hP,hY,j6,hN⟩:=DH ar hw aC hA hB hP hY j6 hN);refine SW.append hY (aR.wv (enc:=dZ) (x:=yH x) Tm) j6.hx.size rfl rfl rfl (by omega) (by omega) fun Y2 f2 oP IL hg => ?_
   have hG:=hY.gr hg;have G1:=EF hP.pl.wm Pt hg hY.aW;have hP:=hP.act hG G1;have hw:=aD hw hg Tl hY.aW;(obtain ⟨aC,hA,hB,hN⟩:=dJ hG aC hA hB hN)
   have IL:Own oP w3.heap.size 35 7 dZ Y2 (p.n+z.n+m+1) f2 ((cX++lt.map ic)++(kk.take (m+1)).map yH):=by
    rw [<- HI];exact IL
   repeat' (first|refine Wy ?_|fail);exact ae.again (m+1,Y2,f2) ⟨rfl,rfl,rfl,rfl,rfl,rfl,rfl,trivial⟩ (by simp only;omega) ⟨by simp only;omega,⟨aD j6.hx hg (aew _) hY.aW⟩,hw,aC,hA,hB,hP,hN,IL⟩
  ·obtain rfl:m=8:=by omega
   rw [aeF (by decide)] at hY;clear hN;have VN:=hP.pl.phase.out hP.two.1;repeat' (first|refine Wy ?_|fail);refine SW.OL (enc:=dZ) [wu nt,wu dN,L0] rfl rfl rfl rfl rfl rfl rfl rfl fun g91 w9 ar ac6 hD => ?_
   (obtain ⟨hw,aC,hA,hB,hP,hY,j6⟩:=ue ar hw aC hA hB hP hY j6);refine SW.append hY hD.sl j6.hx.size rfl rfl rfl (by omega) (by omega) fun Y2 f2 oP IL hg => ?_
   have hG:=hY.gr hg;have G1:=EF hP.pl.wm Pt hg hY.aW;have hP:=hP.act hG G1;have hw:=aD hw hg Tl hY.aW;(obtain ⟨aC,hA,hB⟩:=cd hG aC hA hB);have VO:((cX++lt.map ic)++kk.map yH)++[wu nt,wu dN,L0]=cX++yh lt:=by simp only [yh,List.append_assoc]
   rw [VO] at IL;clear hY j6 hD hG G1 hg;by_cases Y3:p.n+z.n+8+3<=300
   ·have sN:∀ x∈cX++yh lt,fM mQ x:=fun x hx=>by
     rcases aeC.1 hx with hx|hx
     ·exact (hP.pl.D0 x hx).ok.2
     ·exact L6 VN x hx
    repeat' (first|refine Wy ?_|refine Wm ((fun _ _=>aC.cell)) ?_)
    refine Wk (JW mQ A 2 2 B 2 2 _ _ _ _ _ Y2 (p.n+z.n+8+3) f2 (cX++yh lt) _ hA.sl hB.sl (by decide) (by decide) (by omega) (hS.ext hw) (fh.ext hw) IL.sl Y3 (fun u h _=>(Bz h).named) (fun s h=>h.sys.cS) sN (fun x hx=>BB x)) fun v w7 iV hv => ?_
    obtain ⟨⟨e1,ys,t⟩,NR,X2,nn,cc,Y4,q2,rfl,hX,vq⟩:=hv;obtain ⟨ee1,s',hF,hI,hR⟩:=JX NR;simp only at hX vq ee1 hR ⊢;subst ee1;obtain rfl:=hP.fresh.eq hF;obtain ⟨hlen,VP,Ma,EL,kK⟩:=OK hP.start hP.pl.run hP.pl.phase hP.two.1 (fun x hx=>(hP.pl.D0 x hx).ok.1) hR;have hXl:=hX.len;have hXr:=hX.row.len;have hXc:=hX.row.Jg;have n5:q2.Heap.Live.n=0:=by rw [<- vq.heap.live.len,Ma];rfl
    have n4:q2.Heap.au.n=0:=by
     obtain ⟨ls,hl⟩:=vq.heap.lists;have h1:=hl.row.len;have h2:=hl.each.len;rw [EL] at h2;simp only [List.length_nil] at h2;omega
    have n6:q2.aa.n=6:=by
     obtain ⟨ls,hl⟩:=vq.bo;have h1:=hl.row.len;have h2:=hl.each.len;omega
    have f5:(aK q2)[5]?=some (.slice q2.Heap.Live.A 0 q2.Heap.Live.c):=by
     show some (fY.v q2.Heap.Live)=_
     simp only [fY.v,n5]
    have f4:(aK q2)[4]?=some (.slice q2.Heap.au.A 0 q2.Heap.au.c):=by
     show some (fY.v q2.Heap.au)=_
     simp only [fY.v,n4]
    have f6:(aK q2)[6]?=some (.slice q2.aa.A 6 q2.aa.c):=by
     show some (fY.v q2.aa)=_
     simp only [fY.v,n6]
    have hX:=hX.low hw.size;obtain ⟨hw,hP⟩:=cT iV hw hP;clear iV aC hA hB IL NR VN sN vq;repeat' (first|refine Wy ?_|fail);refine SW.alloc rfl fun YQ w1 ah GG sd => ?_
    repeat' (first|refine Wy ?_|fail);refine Wg sd (aU q2) fun w2 GH hg => ?_
    have ar:=ah.own GG hg;have VD:=hw.up GG
    obtain ⟨hw,hP,hX⟩:=cd ar hw hP hX;have sd:=GH;clear GH ah hg ar;repeat' (first|refine Wy ?_|refine Wl (hP.pl.pF.cell (i:=7) (v := .slice p.A p.n p.c) rfl) ?_|(refine SW.st (aZ (k:=p.n) rfl rfl (by omega) (by omega)) rfl ?_))
    refine CW.loop (fun s:Nat=>[(11,.bool true),(18,.pointer (some ⟨YQ,0,none⟩)),(19,.int .i64 0),(110,.slice (if cc=p.n then X2 else X2.map (·.add (p.n*3))) (nn-p.n) (cc-p.n)),(111,.int .i64 ((nn-p.n:Nat) : Int)),(112,.int .i64 (s:Int))])
     (fun u w2=>u<=nn-p.n∧Ext w w2∧aR w2 YQ 44 (aK q2)∧jf w2 w.heap.size X2 nn cc Y4 ys) (fun s=>nn-p.n-s) 0
     ⟨rfl,rfl,rfl,rfl,rfl,rfl,trivial⟩ ⟨afc _,hw,sd,hX⟩ ?_
    clear hw hP hX sd;rintro j w2 ⟨hj,hw,sd,hX⟩
    by_cases my:j<nn-p.n
    ·have yV:p.n+j<Y4.length:=by omega
     obtain ⟨y,ey⟩ : ∃ y,Y4[p.n+j]=y:=⟨_,rfl⟩;have hy:=hX.each.get (p.n+j) yV (by omega);have c1:y.Code=0:=by rw [<- ey,hy.code];exact VP _ _ (by omega)
     have Y5:=hX.row.sl.drop p.n cc (by omega) hXc;have Tv:=Y5.base;have fc:=Y5.all my;rw [afl,ey] at fc;have fy:(ck y)[0]?=some (.int .i64 0):=by rw [<- c1];rfl
     clear Y5;repeat' (first|refine Wy ?_|refine Wm fc ?_)
     refine SW.alloc rfl fun b21 w1 ah Rp Tn => ?_
     skip;refine Wg Tn (fE y) fun w2 Rq hg => ?_
     have ar:=ah.own Rp hg;have aaH:=hw.up Rp
     obtain ⟨hw,sd,hX⟩:=cd ar hw sd hX;have Tn:=Rq;clear Rq ah hg ar;repeat' (first|refine Wy ?_|refine Wl (Tn.cell (i:=0) fy) ?_)
     exact ae.again (j+1) ⟨rfl,rfl,rfl,rfl,rfl,rfl,trivial⟩ (by omega) ⟨by omega,hw,sd,hX⟩
    ·repeat' (first|refine Wy ?_|refine Wl (sd.cell (i:=5) f5) ?_|refine Wl (sd.cell (i:=4) f4) ?_|refine Wl (sd.cell (i:=6) f6) ?_)
     exact ae.bh rfl rfl ⟨_,rfl,hw,rfl⟩
   ·repeat' (first|refine Wy ?_|fail);exact ae.bh rfl rfl ⟨_,rfl,hw,rfl⟩
end Go.Proofs.YtenhkiaaebnggaaGreatDoor
