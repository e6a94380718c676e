/-
  Texts of the claim TopProcessors, part 13: what its theorem leans on.
-/
import Derived.Test.YtbidkghlpijecaaGreatDoorPackTopProcessors12
import Derived.Test.YtbidkghlpijecaaGreatDoorPackTopProcessors2
import Derived.Test.YtbidkghlpijecaaGreatDoorPackTopProcessors8
import Derived.Test.YtbidkghlpijecaaGreatDoorPackTopProcessors5
import Derived.Test.YtbidkghlpijecaaGreatDoorPackTopProcessors11
import Derived.Test.YtbidkghlpijecaaGreatDoorPackTopProcessors9
import Derived.Test.YtbidkghlpijecaaGreatDoorPackTopProcessors4
set_option linter.unusedVariables false
set_option linter.unusedSimpArgs false
namespace Go.Proofs.YtbidkghlpijecaaGreatDoor
open Go.RowKit
def lI (s:ag) (a:Int) (i k:Nat) : Bool:=if h:i<s.aa.length then (if h':k<s.aa[i].ab.length then iJ s.aa[i].aE s.aa[i].bG (s.aa[i].ab[k]).At a else false) else false
theorem rD {s:ag} {a:Int} {i k:Nat} (h:i<s.aa.length) (h':k<s.aa[i].ab.length) : lI s a i k=iJ s.aa[i].aE s.aa[i].bG (s.aa[i].ab[k]).At a:=by simp [lI,h,h']
theorem Fx {s:ag} {a:Int} {i k:Nat} (h:i<s.aa.length) (h' : ¬ k<s.aa[i].ab.length) : lI s a i k=false:=by simp [lI,h,h']
structure jR (s:ag) (a:Int) (i k:Nat) : Prop where
 hi:i<s.aa.length
 hk:k<s.aa[i].ab.length
 obj:lI s a i k=true
 ahead:∀ i' k',(i'<i∨(i'=i∧k'<k))→lI s a i' k'=false
inductive eg (s:ag) (a:Int) : Int×Int×Int→Prop where
 | bad (h:en s=false) : eg s a (0,0,8)
 | none (h:en s=true) (hn:∀ i k,lI s a i k=false) : eg s a (0,0,4)
 | free {i k:Nat} {out:List Int} (h:en s=true) (hF:jR s a i k) (hC:cm s.Words (s.aa[i]'hF.hi).aE (s.aa[i]'hF.hi).bG ((s.aa[i]'hF.hi).ab[k]'hF.hk) out) (hm:a∈out) : eg s a (0,0,4)
 | hit {i k:Nat} {out:List Int} (h:en s=true) (hF:jR s a i k) (hC:cm s.Words (s.aa[i]'hF.hi).aE (s.aa[i]'hF.hi).bG ((s.aa[i]'hF.hi).ab[k]'hF.hk) out) (hm:a∉out) : eg s a (i,k,0)
theorem jR.L0 {s:ag} {a:Int} {i k i' k':Nat} (h:jR s a i k) (h':jR s a i' k') : i=i'∧k=k':=by
 rcases (show i<i'∨(i=i'∧k<k')∨i'<i∨(i'=i∧k'<k)∨(i=i'∧k=k') by omega) with g|g|g|g|g
 ·have:=h'.ahead i k (.inl g);rw [h.obj] at this;cases this
 ·have:=h'.ahead i k (.inr g);rw [h.obj] at this;cases this
 ·have:=h.ahead i' k' (.inl g);rw [h'.obj] at this;cases this
 ·have:=h.ahead i' k' (.inr g);rw [h'.obj] at this;cases this
 ·exact g
theorem eg.ir {s:ag} {a:Int} {u v:Int×Int×Int} (h:eg s a u) (k:eg s a v) : u=v:=by
 cases h with
 | bad h=>cases k with
   | bad=>rfl
   | none h'=>rw [h] at h';cases h'
   | free h'=>rw [h] at h';cases h'
   | hit h'=>rw [h] at h';cases h'
 | none h hn=>cases k with
   | bad h'=>rw [h] at h';cases h'
   | none=>rfl
   | free=>rfl
   | hit h' hF=>exact absurd hF.obj (by rw [hn];simp)
 | free h hF hC hm=>cases k with
   | bad h'=>rw [h] at h';cases h'
   | none=>rfl
   | free=>rfl
   | hit h' Ad Qz ue =>
     obtain ⟨rfl,rfl⟩:=hF.L0 Ad;rw [hC.ir Qz] at hm;exact absurd hm ue
 | hit h hF hC hm=>cases k with
   | bad h'=>rw [h] at h';cases h'
   | none h' hn=>exact absurd hF.obj (by rw [hn];simp)
   | free h' Ad Qz ue =>
     obtain ⟨rfl,rfl⟩:=hF.L0 Ad;rw [hC.ir Qz] at hm;exact absurd ue hm
   | hit h' Ad =>
     obtain ⟨rfl,rfl⟩:=hF.L0 Ad
     rfl
def Bg (u:Int×Int×Int) : Value := .tuple #[.int .i64 u.1,.int .i64 u.2.1,.int .i64 u.2.2]
set_option maxHeartbeats 4000000 in
theorem we (r:eQ) (s:ag) (a:Int) (w:World) (hr:Ab w r s) (hf:s.dW) (ha : -9223372036854775808≤a∧a≤9223372036854775807) :
 bq Tryz.prog 42 [.agg (ba r).toArray,.int .i64 a] w fun v _ => ∃ u,eg s a u∧v=Bg u:=by
 refine aG Tryz.func42 rfl Tryz.ntmps42 rfl ?_;refine CW.seq (CW.region (SW.box rfl rfl fun b2 w1 hw j0 aD => ?_));obtain ⟨q,hq⟩ : ∃ q,en s=q:=⟨_,rfl⟩
 have c1:∀ w',Ext w w'→bq Tryz.prog 41 [.agg (ba r).toArray] w' fun v _=>v = .int .i64 (if q then 0 else 8):=fun w' hx=>by
  have:=kg r s w' (hr.ext hx) hf
  rwa [hq] at this
 cases q
 all_goals simp only [if_true,Bool.false_eq_true,if_false] at c1
 ·repeat' (first|refine Wz ?_|(refine SW.call rfl rfl (c1 _ hw) ?_;intro v w1 ae hv;subst hv;replace hw:=Ext.trans hw ae;replace aD:=aD.ext ae;clear ae))
  exact ah.yW rfl rfl rfl rfl ⟨_,rfl,hw,(0,0,8),.bad hq,rfl⟩
 ·have hM:=ie.1 hq;have hs:=hf.small;obtain ⟨cs,hc⟩:=hr.bR;obtain ⟨z1,z2⟩:=hc.len;have wl:=hr.words.len;have m1:=hs.words;have m3:=hs.bR;repeat' (first|refine Wz ?_|(refine SW.call rfl rfl (c1 _ hw) ?_;intro v w1 ae hv;subst hv;replace hw:=Ext.trans hw ae;replace aD:=aD.ext ae;clear ae))
  clear c1
  refine CW.loop (fun k:Nat=>[(1,.int .i64 a),(2,.pointer (some ⟨b2,0,none⟩)),(20,.slice r.aa.A r.aa.n r.aa.c),(21,.int .i64 (r.aa.n:Int)),(22,.int .i64 (k:Int))])
   (fun k w'=>k≤r.aa.n∧Ext w w'∧aW w' b2 44 (ba r) ∧ ∀ i' k',i'<k→lI s a i' k'=false) (fun k=>r.aa.n-k) 0
   ⟨rfl,rfl,rfl,rfl,rfl,trivial⟩ ⟨by omega,hw,aD,fun i' k' h=>by omega⟩ ?_
  clear hw aD;rintro i w' ⟨hk,hw,aD,hI⟩
  have hA:=hc.row.base;by_cases df:i<r.aa.n
  ·have kO:i<cs.length:=by omega
   have r9:i<s.aa.length:=by omega
   have iS:=hc.each.get i kO r9;have sm:=hs.each _ (List.getElem_mem r9);have NZ:=(hM.each i r9).may;obtain ⟨l1,l2,l3⟩:=db NZ.lay;have eS:=iS.size;have eP:=iS.g7;have n2:=iS.aH.len;have m2:=sm.aH;have hS : 1≤cs[i].aE∧cs[i].aE≤64:=by omega
   have hP : 1≤cs[i].bG∧cs[i].bG≤64:=by omega
   repeat' (first|refine Wz ?_|refine SW.st (aU hw rfl rfl ((hc.row.all df))) rfl ?_)
   refine SW.alloc rfl fun b9 w1 ae oe dg => ?_
   refine Wz ?_;refine SW.ak dg rfl rfl rfl rfl (AI _) fun w2 ji hg => ?_
   have ap:=ae.own oe hg;have re:w.heap.size≤b9:=Nat.le_trans hw.size oe
   replace hw:=Ext.trans hw ap;replace aD:=aD.ext ap;replace dg:=ji;clear ji ae hg ap;refine Wz ?_
   refine CW.loop (fun k:Nat=>[(1,.int .i64 a),(2,.pointer (some ⟨b2,0,none⟩)),(8,.int .i64 (i:Int)),(9,.pointer (some ⟨b9,0,none⟩)),(20,.slice r.aa.A r.aa.n r.aa.c),(21,.int .i64 (r.aa.n:Int)),(22,.int .i64 (i:Int)),(28,.slice cs[i].ab.A cs[i].ab.n cs[i].ab.c),(29,.int .i64 (cs[i].ab.n:Int)),(30,.int .i64 (k:Int))])
    (fun k w'=>k≤cs[i].ab.n∧Ext w w'∧aW w' b2 44 (ba r)∧aW w' b9 89 (eA cs[i]) ∧ ∀ k',k'<k→lI s a i k'=false) (fun k=>cs[i].ab.n-k) 0
    ⟨rfl,rfl,rfl,rfl,rfl,rfl,rfl,rfl,rfl,rfl,trivial⟩ ⟨by omega,hw,aD,dg,fun k' h=>by omega⟩ ?_
   clear hw aD dg;rintro k w' ⟨hk,hw,aD,dg,hJ⟩
   have Gh:=iS.aH.base;by_cases dY:k<cs[i].ab.n
   ·have fe:k<s.aa[i].ab.length:=by omega
    obtain ⟨x,hx⟩ : ∃ x,s.aa[i].ab[k]=x:=⟨_,rfl⟩;have gS:=iS.aH.all dY;rw [hx] at gS;have ht:=(NZ.tG (hM.heap)) x (by rw [← hx];exact List.getElem_mem fe);obtain ⟨JA,hC⟩:=(NZ.aH k fe).chain;rw [hx] at hC;have eO:=rD (a:=a) r9 fe;rw [hx,← eS,← eP] at eO;obtain ⟨o,ho⟩ : ∃ o,iJ cs[i].aE cs[i].bG x.At a=o:=⟨_,rfl⟩;rw [ho] at eO
    have cO:∀ w',bq Tryz.prog 93 [.agg (eA cs[i]).toArray,.int .i64 x.At,.int .i64 a] w' fun v _=>v = .bool o:=fun w'=>by
     have:=vU cs[i] x.At a w' hS hP ht ha
     rwa [ho] at this
    repeat' (first|refine Wz ?_|refine SW.st (aU hw rfl rfl gS) rfl ?_)
    refine SW.alloc rfl fun GR w1 ae oX du => ?_
    refine Wz ?_;refine SW.ak du rfl rfl rfl rfl (fP.one (enc:=aX) _) fun w2 lY hg => ?_
    have ap:=ae.own oX hg;have Hn:w.heap.size≤GR:=Nat.le_trans hw.size oX
    replace hw:=Ext.trans hw ap;replace aD:=aD.ext ap;replace dg:=dg.ext ap;replace du:=lY;clear lY ae hg ap;cases o
    ·repeat' (first|refine Wz ?_|(refine CW.dh rfl ?_)|(refine SW.call rfl rfl (cO _) ?_;intro v w1 ae hv;subst hv;replace hw:=Ext.trans hw ae;replace aD:=aD.ext ae;replace dg:=dg.ext ae;clear ae))
     exact ah.again (k+1) ⟨rfl,rfl,rfl,rfl,rfl,rfl,rfl,rfl,rfl,rfl,trivial⟩ (by omega) ⟨by omega,hw,aD,dg,fun k' h=>by
      by_cases e:k'=k
      ·subst e;exact eO
      ·exact hJ k' (by omega)⟩
    ·have Pn:jR s a i k:=⟨r9,fe,eO,fun i' k' h=>by
      rcases h with h|⟨rfl,h⟩
      ·exact hI i' k' h
      ·exact hJ k' h⟩
     repeat' (first|refine Wz ?_|(refine CW.di rfl ?_)|(refine SW.call rfl rfl (cO _) ?_;intro v w1 ae hv;subst hv;replace hw:=Ext.trans hw ae;replace aD:=aD.ext ae;replace dg:=dg.ext ae;replace du:=du.ext ae;clear ae))
     refine SW.call rfl rfl (xV r cs[i] x s.Words _ (hr.words.ext hw) (by omega) hS hP ht) fun v w5 nA AX => ?_
     rw [eS,eP] at AX;rcases AX with ⟨out,A5,c5,TL,rfl,L2,Vx⟩|⟨m9,rfl⟩
     ·replace hw:=Ext.trans hw nA;obtain rfl:=hC.ir TL;have cN:∀ w',Ext w5 w'→bq Tryz.prog 95 [.slice A5 JA.length c5,.int .i64 a] w' fun v _=>v = .bool (decide (a∈JA)):=fun w' hx=>fi _ _ _ _ _ _ (L2.sl.ext hx) (by omega)
      have TM:=Ext.refl w5;refine Wz ?_;refine SW.call rfl rfl (cN _ TM) fun v w6 C0 hv => ?_
      subst hv;replace hw:=Ext.trans hw C0;by_cases hm:a∈JA
      ·rw [decide_eq_true hm];refine Wz ?_;exact ah.yW rfl rfl rfl rfl ⟨_,rfl,hw,(0,0,4),.free hq Pn (by rw [hx];exact hC) hm,rfl⟩
      ·rw [decide_eq_false hm];refine Wz ?_;exact ah.yW rfl rfl rfl rfl ⟨_,rfl,hw,(i,k,0),.hit hq Pn (by rw [hx];exact hC) hm,rfl⟩
     ·exact absurd hC (m9 JA)
   ·refine Wz ?_
    exact ah.again (i+1) ⟨rfl,rfl,rfl,rfl,rfl,trivial⟩ (by omega) ⟨by omega,hw,aD,fun i' k' h=>by
     by_cases e:i'=i
     ·subst e;by_cases j6:k'<s.aa[i'].ab.length
      ·exact hJ k' (by omega)
      ·exact Fx r9 j6
     ·exact hI i' k' (by omega)⟩
  ·refine Wz ?_
   exact ah.yW rfl rfl rfl rfl ⟨_,rfl,hw,(0,0,4),.none hq (fun i' k'=>by
    by_cases h:i'<s.aa.length
    ·exact hI i' k' (by omega)
    ·simp [lI,h]),rfl⟩
open Go.RowKit
theorem Fy {w:World} {A:Option Addr} {n:Nat} {l l':List Slab} (h:Sl w 3 aX A n l) (h':Sl w 3 aX A n l') : l=l':=by
 have e1:=h.len;have e2:=h'.len;refine List.ext_getElem (by omega) fun k h1 h2 => ?_
 obtain ⟨x,hx⟩ : ∃ x,l[k]=x:=⟨_,rfl⟩;obtain ⟨y,hy⟩ : ∃ y,l'[k]=y:=⟨_,rfl⟩;have a:=h.all (i:=k) (by omega);have b:=h'.all (i:=k) (by omega);rw [show l[k]'(h.lt (by omega))=x from hx] at a;rw [show l'[k]'(h'.lt (by omega))=y from hy] at b;have p0:=(a 0 (.int .i64 x.At) rfl).symm.trans (b 0 (.int .i64 y.At) rfl);have p1:=(a 1 (.int .i64 x.aj) rfl).symm.trans (b 1 (.int .i64 y.aj) rfl);have p2:=(a 2 (.int .i64 x.cr) rfl).symm.trans (b 2 (.int .i64 y.cr) rfl);simp at p0 p1 p2;rw [hx,hy];cases x
 cases y
 simp only at p0 p1 p2;rw [p0,p1,p2]
theorem oY (A:Option Addr) (n c:Nat) (l:List Slab) (w:World) (hl:Sl w 3 aX A n l) (f:FuncId) (cap:List Value) [Body Tryz.prog f] (p:Slab→Bool) (arg:Slab→Value) (nj:∀ x,arg x=(if 3=1 then (aX x)[0]?.getD undef else .agg (aX x).toArray))
 (hf:∀ x∈l,∀ w',Ext w w'→bq Tryz.prog f ([arg x]++cap) w' fun v _=>v = .bool (p x)) (hn:n≤9223372036854775807) :
 bq Tryz.prog 103 [.slice A n c,.func (.func f) #[] cap.toArray] w fun v _=>v = .bool (l.any p):=by
 refine aG Tryz.func103 rfl Tryz.ntmps103 rfl ?_;have hw:=Ext.refl w;repeat' (first|refine Wz ?_|(refine SW.call rfl rfl (gQ _ _ _ _ _ (hl.ext hw) f cap p arg nj (fun x hx w1 h1=>hf x hx w1 (Ext.trans hw h1)) hn) ?_;intro v w1 ae hv;subst hv;replace hw:=Ext.trans hw ae;clear ae))
 exact ah.aY rfl rfl ⟨_,rfl,hw,by rw [kz]⟩
def qf (t:Int) (c:aF) : Bool:=c.ab.any (xg t)
def kv (s:ag) (t:Int) : Bool:=s.aa.any (qf t)
def ca (s:ag) (a:Int) : Bool:=decide (0≤a∧a % 16=0) && (!kv s (a / 16) && br s.Heap.Live (a / 16))
theorem Ho (w:World) (t:Int) : ∃ p:dv→Bool,∀ x c,CF w x c→p x=qf t c:=by
 classical
 refine ⟨fun x=>decide (∃ c,CF w x c∧qf t c=true),fun x c h => ?_⟩;cases e:qf t c
 ·refine decide_eq_false ?_;rintro ⟨c',h',e'⟩
  unfold qf at e e';rw [Fy h'.aH h.aH,e] at e';cases e'
 ·exact decide_eq_true ⟨c,h,e⟩
theorem JB (t:Int) (b6:Nat) (x:Slab) (w:World) (h6:aW w b6 3 [.int .i64 t]) :
 bq Tryz.prog 104 ([.agg (aX x).toArray]++[.pointer (some ⟨b6,0,none⟩)]) w fun v _=>v = .bool (xg t x):=by
 refine aG Tryz.func104 rfl Tryz.ntmps104 rfl ?_;refine CW.seq (CW.region (SW.box rfl rfl fun b1 w1 hw jh aI => ?_));replace h6:=h6.ext hw;have Fz:=h6.cell (i:=0) (v := .int .i64 t) rfl;rw [add_zero] at Fz;repeat' (first|refine Wz ?_|refine SW.st (aq rfl Fz) rfl ?_)
 exact ah.aY rfl rfl ⟨_,rfl,hw,rfl⟩
theorem JC (t:Int) (b6:Nat) (x:dv) (c:aF) (w:World) (h6:aW w b6 3 [.int .i64 t]) (hx:CF w x c) (hn:x.ab.n≤9223372036854775807) :
 bq Tryz.prog 102 ([.agg (eA x).toArray]++[.pointer (some ⟨b6,0,none⟩)]) w fun v _=>v = .bool (qf t c):=by
 refine aG Tryz.func102 rfl Tryz.ntmps102 rfl ?_;refine CW.seq (CW.region (SW.box rfl rfl fun b2 w1 hw j0 aD => ?_));replace h6:=h6.ext hw;repeat' (first|refine Wz ?_|(refine SW.st (gI (vs:=[.pointer (some ⟨b6,0,none⟩)]) rfl) rfl ?_))
 refine SW.call rfl rfl (oY _ _ _ c.ab _ (hx.aH.ext hw) _ [.pointer (some ⟨b6,0,none⟩)] (xg t) (fun x => .agg (aX x).toArray) (fun x=>rfl) (fun x hx w1 jn=>JB t b6 x w1 (h6.ext jn)) hn) fun v w4 eM hv => ?_
 subst hv;replace hw:=Ext.trans hw eM;refine Wz ?_;exact ah.aY rfl rfl ⟨_,rfl,hw,rfl⟩
theorem Hp (x:Block) (a:Int) (w:World) (hx : -4000000000000000000≤x.At∧x.At≤4000000000000000000) (ha : -4000000000000000000≤a∧a≤4000000000000000000) : bq Tryz.prog 106 ([.agg (aL x).toArray,.int .i64 a]++[]) w fun v _=>v = .int .i64 (x.At-a):=by
 refine aG Tryz.func106 rfl Tryz.ntmps106 rfl ?_;refine CW.seq (CW.region (SW.box rfl rfl fun b1 w1 hw jh aI => ?_));refine Wz ?_;exact ah.aY rfl rfl ⟨_,rfl,hw,rfl⟩
theorem sQ (r:eQ) (s:ag) (a:Int) (w:World) (hr:Ab w r s) (hs:s.small) (hM:a9 s) (ha : -9223372036854775808≤a∧a≤9223372036854775807) :
 bq Tryz.prog 45 [.agg (ba r).toArray,.int .i64 a] w fun v _ => ∃ i:Int,v = .tuple #[.int .i64 i,.bool (ca s a)]∧(ca s a=true→i=(bi s.Heap.Live (a / 16) : Int)):=by
 refine aG Tryz.func45 rfl Tryz.ntmps45 rfl ?_;refine CW.seq (CW.region (SW.box rfl rfl fun b2 w1 hw j0 aD => ?_));obtain ⟨cs,hc⟩:=hr.bR;obtain ⟨z1,z2⟩:=hc.len;have m3:=hs.bR;have pp:=hr.heap.live.len;have m5:=hs.heap.live;by_cases h0 : 0≤a
 ·have Vy:a.tmod 16=a % 16:=Int.tmod_eq_emod_of_nonneg h0
  by_cases h1:a % 16=0
  ·obtain ⟨t,ht⟩ : ∃ t,a / 16=t:=⟨_,rfl⟩;have Pm : 0≤t∧t≤1000000000000000000:=by omega
   obtain ⟨p,hp⟩:=Ho w t;have qe:=oU (p:=p) (q:=qf t) (l:=cs) (m:=s.aa) (by omega) fun k h1 h2=>hp _ _ (hc.each.get k h1 h2)
   have hP:ca s a=(!kv s t && br s.Heap.Live t):=by unfold ca;rw [decide_eq_true ⟨h0,h1⟩,ht,Bool.true_and]
   refine Wz ?_;refine SW.alloc rfl fun b6 w2 bF Pc aA => ?_
   have PW:w.heap.size≤b6:=Nat.le_trans hw.size Pc
   (replace hw:=Ext.trans hw bF;replace aD:=aD.ext bF);skip;refine SW.bz (i:=0) aA rfl rfl rfl rfl fun w3 dE hg => ?_
   have hG:=aA.gr hg;replace hw:=hw.own PW hg;(replace aD:=aD.aw hG rfl);replace aA:aW w3 b6 3 [.int .i64 t]:=by rw [← ht];exact dE
   have Fz:=aA.cell (i:=0) (v := .int .i64 t) rfl;rw [add_zero] at Fz;clear dE hg hG;repeat' (first|refine Wz ?_|(refine SW.st (gI (vs:=[.pointer (some ⟨b6,0,none⟩)]) rfl) rfl ?_))
   refine SW.call rfl rfl (kE _ _ _ cs _ (hc.row.ext hw) _ [.pointer (some ⟨b6,0,none⟩)] p (fun x => .agg (eA x).toArray) (fun x=>rfl) (fun x hx w1 jn=>by
    obtain ⟨k,hk,rfl⟩:=List.getElem_of_mem hx;have j6:k<s.aa.length:=by omega
    have iS:=hc.each.get k hk j6;have q1:=(hs.each _ (List.getElem_mem j6)).aH;have q2:=iS.aH.len;rw [hp _ _ iS];exact JC t b6 _ _ w1 (aA.ext jn) (iS.ext (Ext.trans hw jn)) (by omega)) (by omega)) fun v w4 eM hv => ?_
   subst hv;rw [qe.2,show s.aa.any (qf t)=kv s t from rfl];(replace hw:=Ext.trans hw eM;replace aD:=aD.ext eM;replace aA:=aA.ext eM);have Fz:=aA.cell (i:=0) (v := .int .i64 t) rfl;rw [add_zero] at Fz;cases hi:kv s t
   ·rw [hi] at hP;simp only [Bool.not_false,Bool.true_and] at hP;repeat' (first|refine Wz ?_|refine SW.st (aq rfl Fz) rfl ?_)
    refine SW.call rfl rfl (gn _ _ _ s.Heap.Live t _ (hr.heap.live.ext hw) 106 (fun x hx w1 jn=>by
     obtain ⟨k,hk,rfl⟩:=List.getElem_of_mem hx;obtain ⟨l1,l2,l3,l4⟩:=hM.heap.live.each k hk;exact Hp _ t w1 (by omega) (by omega)) (jO hM.heap.live) (by omega)) fun v w5 nA hv => ?_
    subst hv;(replace hw:=Ext.trans hw nA;replace aD:=aD.ext nA;replace aA:=aA.ext nA);refine Wz ?_;exact ah.cb rfl rfl rfl ⟨_,rfl,hw,(bi s.Heap.Live t:Int),by rw [hP];rfl,fun _=>by rw [ht]⟩
   ·rw [hi] at hP;simp only [Bool.not_true,Bool.false_and] at hP;refine Wz ?_;exact ah.cb rfl rfl rfl ⟨_,rfl,hw,0,by rw [hP],fun h=>by rw [hP] at h;cases h⟩
  ·have hP:ca s a=false:=by unfold ca;rw [decide_eq_false (by omega)];rfl
   refine Wz ?_;exact ah.cb rfl rfl rfl ⟨_,rfl,hw,0,by rw [hP],fun h=>by rw [hP] at h;cases h⟩
 ·have hP:ca s a=false:=by unfold ca;rw [decide_eq_false (by omega)];rfl
  refine Wz ?_;exact ah.cb rfl rfl rfl ⟨_,rfl,hw,0,by rw [hP],fun h=>by rw [hP] at h;cases h⟩
def nG (s:ag) (a:Int) : Int:=if ca s a=true then mM s.Heap.Live (a / 16) else -1
open Go.RowKit
inductive ol (s:ag) (a:Int) : Option Nat→Prop where
 | no {u:Int×Int×Int} (hF:eg s a u) (hn:∀ (i:Nat) (hi:i<s.aa.length),u.2.2=0→u.1=(i:Int)→oV s.aa[i]=false) : ol s a none
 | yes {i:Nat} {k:Int} (hF:eg s a ((i:Int),k,0)) (hi:i<s.aa.length) (hm:oV s.aa[i]=true) : ol s a (some i)
theorem ol.ir {s:ag} {a:Int} {u v:Option Nat} (h:ol s a u) (hv:ol s a v) : u=v:=by
 cases h with
 | no hF hn=>cases hv with
   | no=>rfl
   | @yes i k Ad hi hm =>
     have e:=hF.ir Ad;subst e;rw [hn i hi rfl rfl] at hm;cases hm
 | @yes i k hF hi hm=>cases hv with
   | no Ad hn =>
     have e:=hF.ir Ad;subst e;rw [hn i hi rfl rfl] at hm;cases hm
   | @yes i' k' Ad r6 ue =>
     have e:=hF.ir Ad;simp only [Prod.mk.injEq] at e;have:i=i':=by omega
     rw [this]
theorem eg.Hq {s:ag} {a:Int} {u:Int×Int×Int} (h:eg s a u) (h0:u.2.2=0) : ∃ (i:Nat) (hi:i<s.aa.length),u.1=(i:Int):=by
 cases h with
 | bad=>simp at h0
 | none=>simp at h0
 | free=>simp at h0
 | @hit i k out h hF hC hm=>exact ⟨i,hF.hi,rfl⟩
theorem eg.code {s:ag} {a:Int} {u:Int×Int×Int} (h:eg s a u) (hq:en s=true) : u.2.2=0∨u.2.2=4:=by
 cases h with
 | bad h=>rw [h] at hq;cases hq
 | none=>exact .inr rfl
 | free=>exact .inr rfl
 | hit=>exact .inl rfl
inductive oZ (s:ag) (a:Int) : Int×Int→Prop where
 | bad (h:en s=false) : oZ s a (0,8)
 | obj {i:Nat} (h:en s=true) (hi:i<s.aa.length) (ho:ol s a (some i)) : oZ s a (s.aa[i].aE,0)
 | whole (h:en s=true) (ho:ol s a none) (hw:ca s a=true) : oZ s a (16*pw (nG s a),0)
 | no (h:en s=true) (ho:ol s a none) (hw:ca s a=false) : oZ s a (0,4)
theorem ya {s:ag} (hM:a9 s) {a:Int} (h:ca s a=true) : ∃ hk:bi s.Heap.Live (a / 16)<s.Heap.Live.length,nG s a=s.Heap.Live[bi s.Heap.Live (a / 16)].Order∧0≤nG s a∧nG s a≤4:=by
 have hf:br s.Heap.Live (a / 16)=true:=by
  unfold ca at h;simp only [Bool.and_eq_true] at h;exact h.2.2
 obtain ⟨hk,_⟩:=ib hf;have e:=vS hf hk;obtain ⟨l1,l2,l3,l4⟩:=hM.heap.live.each _ hk;unfold nG;rw [if_pos h,e];exact ⟨hk,rfl,by omega,by omega⟩
theorem Hr (r:eQ) (s:ag) (a:Int) (w:World) (hr:Ab w r s) (hf:s.dW) (ha : -9223372036854775808≤a∧a≤9223372036854775807) (hS:iK w) :
 bq Tryz.prog 71 [.agg (ba r).toArray,.int .i64 a] w fun v _ => ∃ u,oZ s a u∧v = .tuple #[.int .i64 u.1,.int .i64 u.2]:=by
 refine aG Tryz.func71 rfl Tryz.ntmps71 rfl ?_;refine CW.seq (CW.region (SW.box rfl rfl fun b2 w1 hw j0 aD => ?_));have hs:=hf.small;obtain ⟨q,hq⟩ : ∃ q,en s=q:=⟨_,rfl⟩
 have c1:∀ w',Ext w w'→bq Tryz.prog 41 [.agg (ba r).toArray] w' fun v _=>v = .int .i64 (if q then 0 else 8):=fun w' hx=>by
  have:=kg r s w' (hr.ext hx) hf
  rwa [hq] at this
 cases q
 ·simp only [Bool.false_eq_true,if_false] at c1;repeat' (first|refine Wz ?_|(refine SW.call rfl rfl (c1 _ hw) ?_;intro v w1 ae hv;subst hv;replace hw:=Ext.trans hw ae;replace aD:=aD.ext ae;clear ae))
  exact ah.cb rfl rfl rfl ⟨_,rfl,hw,_,.bad hq,rfl⟩
 ·simp only [if_true] at c1;have hM:=ie.1 hq;obtain ⟨cs,hc⟩:=hr.bR;obtain ⟨z1,z2⟩:=hc.len;have hA:=hc.row.base;repeat' (first|refine Wz ?_|(refine SW.call rfl rfl (c1 _ hw) ?_;intro v w1 ae hv;subst hv;replace hw:=Ext.trans hw ae;replace aD:=aD.ext ae;clear ae))
  refine SW.call rfl rfl (we r s a _ (hr.ext hw) hf ha) fun v w5 nA hv => ?_
  obtain ⟨u,hu,rfl⟩:=hv;(replace hw:=Ext.trans hw nA;replace aD:=aD.ext nA);clear c1;by_cases h0:u.2.2=0
  ·obtain ⟨i,hi,L4⟩:=hu.Hq h0;obtain ⟨i',k,e⟩:=u;simp only at h0 L4;subst h0 L4;simp only [Bg];have df:i<r.aa.n:=by omega
   have C1:i<cs.length:=by omega
   have iS:=hc.each.get i C1 hi;have q1:=iS.names.len;have q2:=(hs.each _ (List.getElem_mem hi)).names;have eS:=iS.size;obtain ⟨bm,Gi⟩ : ∃ bm,oV s.aa[i]=bm:=⟨_,rfl⟩
   have c2:∀ w',Ext w w'→bq Tryz.prog 43 [.agg (eA cs[i]).toArray] w' fun v _=>v = .bool bm:=fun w' hx=>by
    have:=wc cs[i] _ w' (iS.ext hx) (by omega) (hS.ext hx)
    rwa [Gi] at this
   cases bm
   ·have hO:ol s a none := .no hu fun i2 L5 _ e=>by
     have e:i=i2:=by simp only at e;omega
     subst e;exact Gi
    repeat' (first|refine Wz ?_|refine SW.st (aU hw rfl rfl ((hc.row.all df))) rfl ?_|(refine SW.call rfl rfl (c2 _ hw) ?_;intro v w1 ae hv;subst hv;replace hw:=Ext.trans hw ae;replace aD:=aD.ext ae;clear ae))
    refine SW.call rfl rfl (sQ r s a _ (hr.ext hw) hs hM ha) fun v w6 C0 hv => ?_
    obtain ⟨ix,rfl,uF⟩:=hv;(replace hw:=Ext.trans hw C0;replace aD:=aD.ext C0);cases hW:ca s a
    ·repeat' (first|refine Wz ?_|(refine CW.di rfl ?_))
     exact ah.cb rfl rfl rfl ⟨_,rfl,hw,_,.no hq hO hW,rfl⟩
    ·obtain ⟨hk,e1,e2,e3⟩:=ya hM hW;obtain rfl:=uF hW;have E4:=hr.heap.live.len;have RQ:=hr.heap.live.base;have dY:bi s.Heap.Live (a / 16)<r.Heap.Live.n:=by omega
     have g1:=hr.heap.live.fw dY (j:=1) (u := .int .i64 (nG s a)) (by rw [e1];rfl);have hp:=bT e2 e3;repeat' (first|refine Wz ?_|(refine CW.dh rfl ?_)|refine SW.st (aT hw rfl g1) rfl ?_|(refine SW.st (fb (r:=16*pw (nG s a)) rfl rfl (by omega) (by omega) (by simp [pw]) (by omega) (by omega)) rfl ?_))
     exact ah.cb rfl rfl rfl ⟨_,rfl,hw,_,.whole hq hO hW,rfl⟩
   ·have hO:ol s a (some i) := .yes hu hi Gi
    repeat' (first|refine Wz ?_|refine SW.st (aU hw rfl rfl ((hc.row.all df))) rfl ?_|refine SW.st (aT hw rfl (hc.row.fw df (j:=1) (u := .int .i64 cs[i].aE) rfl)) rfl ?_|(refine SW.call rfl rfl (c2 _ hw) ?_;intro v w1 ae hv;subst hv;replace hw:=Ext.trans hw ae;replace aD:=aD.ext ae;clear ae))
    exact ah.cb rfl rfl rfl ⟨_,rfl,hw,_,.obj hq hi hO,by rw [eS]⟩
  ·obtain ⟨i',k,e⟩:=u;simp only at h0;simp only [Bg];have hO:ol s a none := .no hu fun i hi h=>absurd h h0
   obtain rfl:e=4:=(hu.code hq).resolve_left h0;refine Wz ?_;refine SW.call rfl rfl (sQ r s a _ (hr.ext hw) hs hM ha) fun v w6 C0 hv => ?_
   obtain ⟨ix,rfl,uF⟩:=hv;(replace hw:=Ext.trans hw C0;replace aD:=aD.ext C0);cases hW:ca s a
   ·refine Wz ?_;exact ah.cb rfl rfl rfl ⟨_,rfl,hw,_,.no hq hO hW,rfl⟩
   ·obtain ⟨hk,e1,e2,e3⟩:=ya hM hW;obtain rfl:=uF hW;have E4:=hr.heap.live.len;have RQ:=hr.heap.live.base;have dY:bi s.Heap.Live (a / 16)<r.Heap.Live.n:=by omega
    have g1:=hr.heap.live.fw dY (j:=1) (u := .int .i64 (nG s a)) (by rw [e1];rfl);have hp:=bT e2 e3;repeat' (first|refine Wz ?_|refine SW.st (aT hw rfl g1) rfl ?_|(refine SW.st (fb (r:=16*pw (nG s a)) rfl rfl (by omega) (by omega) (by simp [pw]) (by omega) (by omega)) rfl ?_))
    exact ah.cb rfl rfl rfl ⟨_,rfl,hw,_,.whole hq hO hW,rfl⟩
open Go.RowKit
theorem rE (A:Option Addr) (n c:Nat) (l:List ByteArray) (w:World) (hl:Sl w 1 encStr A n l) (hn:n*16≤140737488355328) : bq Tryz.prog 84 [.slice A n c] w (y7 w 9 1 encStr n l):=by
 refine aG Tryz.func84 rfl Tryz.ntmps84 rfl ?_;have hw:=Ext.refl w;refine Wz ?_;refine SW.st (qR rfl rfl) rfl ?_;repeat' (first|refine Wz ?_|(refine CW.cond rfl (fun h => ?_) (fun h => ?_)))
 ·have Gx:n=0:=by
   rcases Nat.eq_zero_or_pos n with h0|h0
   ·exact h0
   ·have:=hl.base h0;simp_all
  subst Gx;have:l=[]:=List.eq_nil_of_length_eq_zero hl.len
  subst this;exact ah.aY rfl rfl ⟨_,rfl,hw,none,0,rfl,Own.gz _ _ _ _ _ _⟩
 ·refine SW.yV rfl fun b w1 ae hb => ?_
  replace hw:=Ext.trans hw ae;refine Wz ?_;refine SW.uy (Nat.zero_add n) (List.nil_append l) (Own.gz w1 w.heap.size _ _ encStr (some ⟨b,0,none⟩)) (hl.ext hw) hw.size rfl rfl rfl (by omega) (by omega) fun A2 c2 w2 hO hg => ?_
  replace hw:=aO hw hg (Nat.le_refl _) (by simp [aM]);refine Wz ?_;exact ah.aY rfl rfl ⟨_,rfl,hw,A2,c2,rfl,hO⟩
open Go.RowKit
def apart (a b:gg) : Prop := ∀ k,aM a.A a.c=some k→aM b.A b.c≠some k
theorem mP {α:Type} {w:World} {lo:Nat} {e:TypeId} {sz:Nat} {enc : α → List Value} {a b:gg} {l:List α} (h:Own w lo e sz enc a.A a.n a.c l) (hb:∀ k,aM b.A b.c=some k→w.heap.size≤k) : apart a b:=fun k h1 h2=>by
 have:=h.lt_size k h1
 have:=hb k h2
 omega
structure jS (u v:dv) : Prop where
 names:apart u.Names v.Names
 aH:apart u.ab v.ab
 a8:apart u.ar v.ar
structure uf (words:gg) (cs:List dv) : Prop where
 pair:cs.Pairwise jS
 words:∀ u∈cs,apart words u.ar
theorem uf.nil (x:gg) : uf x []:=⟨.nil,fun _ h=>by simp at h⟩
theorem uf.snoc {x:gg} {cs:List dv} {v:dv} (h:uf x cs) (h1:∀ u∈cs,jS u v) (h2:apart x v.ar) : uf x (cs++[v]):=by
 refine ⟨List.pairwise_append.2 ⟨h.pair,by simp,fun a ha b hb => ?_⟩,fun u hu => ?_⟩
 ·simp at hb;subst hb;exact h1 a ha
 ·rcases List.mem_append.1 hu with hu|hu
  ·exact h.words u hu
  ·simp at hu;subst hu;exact h2
structure Em (w:World) (lo:Nat) (r:eQ) (s:ag) (cs:List dv) : Prop where
 words:Own w lo 3 1 bK r.Words.A r.Words.n r.Words.c s.Words
 heap:gZ w lo r.Heap s.Heap
 bR:dV w lo r.aa cs s.aa
 sep:uf r.Words cs
theorem Em.low {w:World} {lo lj:Nat} {r:eQ} {s:ag} {cs:List dv} (h:Em w lo r s cs) (hl:lj≤lo) : Em w lj r s cs:=⟨h.words.low hl,h.heap.low hl,h.bR.low hl,h.sep⟩
theorem dV.mem {w:World} {lo:Nat} {s:gg} {cs:List dv} {l:List aF} (h:dV w lo s cs l) {u:dv} (hu:u∈cs) : ∃ c,mJ w lo u c:=by
 obtain ⟨i,hi,rfl⟩:=List.getElem_of_mem hu;exact ⟨_,h.each.get i hi (by rw [← h.each.len];exact hi)⟩
theorem dV.RV {w:World} {lo:Nat} {s:gg} {cs:List dv} {l:List aF} (h:dV w lo s cs l) {b:gg} (hb:∀ k,aM b.A b.c=some k→w.heap.size≤k) : ∀ u∈cs,apart u.Names b:=fun u hu=>by
 obtain ⟨c,hc⟩:=h.mem hu;exact mP hc.names hb
theorem dV.RW {w:World} {lo:Nat} {s:gg} {cs:List dv} {l:List aF} (h:dV w lo s cs l) {b:gg} (hb:∀ k,aM b.A b.c=some k→w.heap.size≤k) : ∀ u∈cs,apart u.ab b:=fun u hu=>by
 obtain ⟨c,hc⟩:=h.mem hu;exact mP hc.aH hb
theorem dV.RX {w:World} {lo:Nat} {s:gg} {cs:List dv} {l:List aF} (h:dV w lo s cs l) {b:gg} (hb:∀ k,aM b.A b.c=some k→w.heap.size≤k) : ∀ u∈cs,apart u.ar b:=fun u hu=>by
 obtain ⟨c,hc⟩:=h.mem hu;exact mP hc.a8 hb
set_option maxHeartbeats 4000000 in
theorem C2 (r:eQ) (s:ag) (w:World) (hr:Ab w r s) (hs:s.small) :
 bq Tryz.prog 36 [.agg (ba r).toArray] w fun v w' => ∃ q zr,v = .agg (ba q).toArray∧Em w' w.heap.size q s zr:=by
 refine aG Tryz.func36 rfl Tryz.ntmps36 rfl ?_;refine CW.seq (CW.region (SW.box rfl rfl fun b1 w1 hw jh aI => ?_));refine SW.alloc rfl fun b2 w2 bF j0 aD => ?_
 have qZ:w.heap.size≤b2:=Nat.le_trans hw.size j0
 have E2:b2≠b1:=by have:=aI.lt;omega
 (replace hw:=Ext.trans hw bF;replace aI:=aI.ext bF);obtain ⟨cs,hc⟩:=hr.bR;have NT:=hr.words.len;have s1:=hs.words;have s3:=hs.bR;obtain ⟨c1,c2⟩:=hc.len;refine Wz ?_
 obtain ⟨K,hK⟩ : ∃ K:Env→World→Prop,K=fun L' w' => ∃ X c1 G b3,jd L' [(1,.pointer (some ⟨b1,0,none⟩)),(2,.pointer (some ⟨b2,0,none⟩)),(3,.pointer (some ⟨b3,0,none⟩))]∧Ext w w'∧aW w' b1 44 (ba r)∧aW w' b2 44 (ba .zero) ∧
  aW w' b3 44 (ba ⟨⟨X,r.Words.n,c1⟩,G,.nil⟩)∧Own w' w.heap.size 3 1 bK X r.Words.n c1 s.Words∧gZ w' w.heap.size G s.Heap∧w.heap.size≤b3∧b1≠b3∧b2≠b3:=⟨_,rfl⟩
 refine CW.cut K ?_ ?_
 ·refine CW.any 8 mixed (da (by kernel_rfl)) rfl fun w1 ae aJ => ?_
  replace hw:=Ext.trans hw ae;replace aI:=aI.ext ae;replace aD:=aD.ext ae;clear ae;refine Wa ?_;refine SA.take 4 aJ rfl (by kernel_rfl) (by kernel_rfl) rfl ?_;repeat ((show SW _ _ _ _ (⟨_,Op.load _ _,_,_,_,none⟩::_) _ _;refine SW.st (aB rfl rfl ((mq aI))) rfl ?_))
  refine SW.ai ?_;refine SA.two 2 7 rfl rfl (by kernel_rfl) rfl rfl ?_ ?_
  ·refine SW.call rfl rfl (dw _ _ _ _ _ (hr.words.ext hw) (by omega)) fun v w4 ap hv => ?_
   obtain ⟨X,c4,rfl,hX⟩:=hv;replace hX:=hX.low hw.size;replace hw:=Ext.trans hw ap;replace aI:=aI.ext ap;replace aD:=aD.ext ap;try replace ax:=ax.ext ap
   refine SW.nil (ah.sa ap ?_);refine SA.two 5 7 rfl rfl (by kernel_rfl) rfl rfl ?_ ?_
   ·refine SW.call rfl rfl (kd _ _ _ (hr.heap.ext hw) hs.heap) fun v w4 ap hv => ?_
    obtain ⟨G,rfl,hY⟩:=hv;replace hY:=hY.low hw.size;replace hX:=hX.ext ap;replace hw:=Ext.trans hw ap;replace aI:=aI.ext ap;replace aD:=aD.ext ap;try replace ax:=ax.ext ap
    refine SW.nil (ah.sa ap ?_);refine Wa ?_;refine SA.one 7 rfl (by kernel_rfl) rfl ?_;refine SW.alloc rfl fun b3 w4 ap bQ ax => ?_
    have dB:w.heap.size≤b3:=Nat.le_trans hw.size bQ
    have jx:b1≠b3:=by have:=aI.lt;omega
    have iH:b2≠b3:=by have:=aD.lt;omega
    replace hw:=Ext.trans hw ap;replace aI:=aI.ext ap;replace aD:=aD.ext ap;try replace hX:=hX.ext ap
    try replace hY:=hY.ext ap
    refine SW.nil (ah.sa ap ?_);refine SA.done (by kernel_rfl) ?_;skip;refine SW.ak ax rfl rfl rfl rfl (bt ⟨⟨X,r.Words.n,c4⟩,G,.nil⟩) fun w5 bU hg => ?_
    have hG:=ax.gr hg;replace hw:=hw.own dB hg;(replace hX:=hX.aw hG rfl;replace hY:=hY.aw hG rfl);replace aI:=aI.grown hg (by simpa using jx);replace aD:=aD.grown hg (by simpa using iH);refine Wz ?_;exact ah.cut (K:=K) (by rw [hK];exact ⟨X,c4,G,b3,⟨rfl,rfl,rfl,trivial⟩,hw,aI,aD,bU,hX,hY,dB,jx,iH⟩)
   ·refine SW.alloc rfl fun b3 w4 ap bQ ax => ?_
    have dB:w.heap.size≤b3:=Nat.le_trans hw.size bQ
    have jx:b1≠b3:=by have:=aI.lt;omega
    have iH:b2≠b3:=by have:=aD.lt;omega
    replace hw:=Ext.trans hw ap;replace aI:=aI.ext ap;replace aD:=aD.ext ap;try replace hX:=hX.ext ap
    try replace hY:=hY.ext ap
    refine SW.nil (ah.sa ap ?_);refine SA.one 5 rfl (by kernel_rfl) rfl ?_;refine SW.call rfl rfl (kd _ _ _ (hr.heap.ext hw) hs.heap) fun v w4 ap hv => ?_
    obtain ⟨G,rfl,hY⟩:=hv;replace hY:=hY.low hw.size;replace hX:=hX.ext ap;replace hw:=Ext.trans hw ap;replace aI:=aI.ext ap;replace aD:=aD.ext ap;try replace ax:=ax.ext ap
    refine SW.nil (ah.sa ap ?_);refine Wa ?_;refine SA.done (by kernel_rfl) ?_;skip;refine SW.ak ax rfl rfl rfl rfl (bt ⟨⟨X,r.Words.n,c4⟩,G,.nil⟩) fun w5 bU hg => ?_
    have hG:=ax.gr hg;replace hw:=hw.own dB hg;(replace hX:=hX.aw hG rfl;replace hY:=hY.aw hG rfl);replace aI:=aI.grown hg (by simpa using jx);replace aD:=aD.grown hg (by simpa using iH);refine Wz ?_;exact ah.cut (K:=K) (by rw [hK];exact ⟨X,c4,G,b3,⟨rfl,rfl,rfl,trivial⟩,hw,aI,aD,bU,hX,hY,dB,jx,iH⟩)
  ·refine SW.alloc rfl fun b3 w4 ap bQ ax => ?_
   have dB:w.heap.size≤b3:=Nat.le_trans hw.size bQ
   have jx:b1≠b3:=by have:=aI.lt;omega
   have iH:b2≠b3:=by have:=aD.lt;omega
   replace hw:=Ext.trans hw ap;replace aI:=aI.ext ap;replace aD:=aD.ext ap;try replace hX:=hX.ext ap
   try replace hY:=hY.ext ap
   refine SW.nil (ah.sa ap ?_);refine SA.one 2 rfl (by kernel_rfl) rfl ?_;refine SW.call rfl rfl (dw _ _ _ _ _ (hr.words.ext hw) (by omega)) fun v w4 ap hv => ?_
   obtain ⟨X,c4,rfl,hX⟩:=hv;replace hX:=hX.low hw.size;replace hw:=Ext.trans hw ap;replace aI:=aI.ext ap;replace aD:=aD.ext ap;try replace ax:=ax.ext ap
   refine SW.nil (ah.sa ap ?_);refine SA.one 5 rfl (by kernel_rfl) rfl ?_;refine SW.call rfl rfl (kd _ _ _ (hr.heap.ext hw) hs.heap) fun v w4 ap hv => ?_
   obtain ⟨G,rfl,hY⟩:=hv;replace hY:=hY.low hw.size;replace hX:=hX.ext ap;replace hw:=Ext.trans hw ap;replace aI:=aI.ext ap;replace aD:=aD.ext ap;try replace ax:=ax.ext ap
   refine SW.nil (ah.sa ap ?_);refine Wa ?_;refine SA.done (by kernel_rfl) ?_;skip;refine SW.ak ax rfl rfl rfl rfl (bt ⟨⟨X,r.Words.n,c4⟩,G,.nil⟩) fun w5 bU hg => ?_
   have hG:=ax.gr hg;replace hw:=hw.own dB hg;(replace hX:=hX.aw hG rfl;replace hY:=hY.aw hG rfl);replace aI:=aI.grown hg (by simpa using jx);replace aD:=aD.grown hg (by simpa using iH);refine Wz ?_;exact ah.cut (K:=K) (by rw [hK];exact ⟨X,c4,G,b3,⟨rfl,rfl,rfl,trivial⟩,hw,aI,aD,bU,hX,hY,dB,jx,iH⟩)
 ·clear aI aD hw;subst hK;rintro L' w' ⟨X,c4,G,b3,lQ,hw,aI,aD,ax,hX,hY,dB,jx,iH⟩
  refine ah.sub lQ ?_;refine Wz ?_
  refine CW.loop (fun s:Nat×Option Addr×Nat×List dv=>[(2,.pointer (some ⟨b2,0,none⟩)),(3,.pointer (some ⟨b3,0,none⟩)),(14,.slice r.aa.A r.aa.n r.aa.c),(15,.int .i64 (r.aa.n:Int)),(16,.int .i64 (s.1:Int))])
   (fun t w'=>t.1≤r.aa.n∧Ext w w'∧aW w' b2 44 (ba .zero)∧aW w' b3 44 (ba ⟨⟨X,r.Words.n,c4⟩,G,⟨t.2.1,t.1,t.2.2.1⟩⟩)∧Own w' w.heap.size 3 1 bK X r.Words.n c4 s.Words∧gZ w' w.heap.size G s.Heap ∧
     dV w' w.heap.size ⟨t.2.1,t.1,t.2.2.1⟩ t.2.2.2 (s.aa.take t.1)∧uf ⟨X,r.Words.n,c4⟩ t.2.2.2) (fun t=>r.aa.n-t.1) (0,none,0,[]) ⟨rfl,rfl,rfl,rfl,rfl,trivial⟩ ⟨by omega,hw,aD,ax,hX,hY,dV.nil _ _,uf.nil _⟩ ?_
  clear aI aD ax hX hY hw lQ;rintro ⟨k,A,c,zr⟩ w' ⟨hk,hw,aD,ax,hX,hY,hO,tY⟩
  simp only at hk ax hO tY ⊢;have hA:=hc.row.base;by_cases dY:k<r.aa.n
  ·have iS:=hc.each.get k (by omega) (by omega);have q:=hs.each _ (List.getElem_mem (show k<s.aa.length by omega));have q1:=iS.names.len;have q2:=iS.aH.len;have q3:=iS.a8.len;have q4:=q.names;have q5:=q.aH;have q6:=q.a8;have C3:=hO.row.lt_size;repeat' (first|refine Wz ?_|refine SW.st (aU hw rfl rfl ((hc.row.all dY))) rfl ?_)
   refine SW.alloc rfl fun b5 w1 ae jj bC => ?_
   skip;refine SW.ak bC rfl rfl rfl rfl (AI _) fun w2 fg hg => ?_
   have ap:=ae.own jj hg;have kN:w.heap.size≤b5:=Nat.le_trans hw.size jj
   replace hw:=Ext.trans hw ap;replace aD:=aD.ext ap;replace ax:=ax.ext ap;replace hX:=hX.ext ap;replace hY:=hY.ext ap;replace hO:=hO.ext ap;replace bC:=fg;clear fg ae hg ap;refine Wz ?_;refine CW.any 10 mixed (da (by kernel_rfl)) rfl fun w1 ae aJ => ?_
   replace hw:=Ext.trans hw ae;replace aD:=aD.ext ae;replace ax:=ax.ext ae;replace bC:=bC.ext ae;replace hX:=hX.ext ae;replace hY:=hY.ext ae;replace hO:=hO.ext ae;clear ae;refine Wa ?_;refine SA.one 2 rfl (by kernel_rfl) rfl ?_;refine SW.call rfl rfl (rE _ _ _ _ _ (iS.names.ext hw) (by omega)) fun v w4 ap hv => ?_
   obtain ⟨N,n4,rfl,hN⟩:=hv;have Gv:=hO.RV (b:=⟨N,cs[k].Names.n,n4⟩) hN.bc;replace hN:=hN.low hw.size;(replace hw:=Ext.trans hw ap;replace aD:=aD.ext ap;replace ax:=ax.ext ap;replace bC:=bC.ext ap;replace hX:=hX.ext ap;replace hY:=hY.ext ap;replace hO:=hO.ext ap);refine SW.nil (ah.sa ap ?_);refine Wa ?_;refine SA.one 5 rfl (by kernel_rfl) rfl ?_;refine SW.call rfl rfl (qb _ _ _ _ _ (iS.aH.ext hw) (by omega)) fun v w4 ap hv => ?_
   obtain ⟨M,m4,rfl,hM⟩:=hv;have Cd:=hO.RW (b:=⟨M,cs[k].ab.n,m4⟩) hM.bc;replace hM:=hM.low hw.size;(replace hw:=Ext.trans hw ap;replace aD:=aD.ext ap;replace ax:=ax.ext ap;replace bC:=bC.ext ap;replace hX:=hX.ext ap;replace hY:=hY.ext ap;replace hO:=hO.ext ap;replace hN:=hN.ext ap);refine SW.nil (ah.sa ap ?_);refine SA.one 8 rfl (by kernel_rfl) rfl ?_;refine SW.call rfl rfl (dw _ _ _ _ _ (iS.a8.ext hw) (by omega)) fun v w4 ap hv => ?_
   obtain ⟨Q,q7,rfl,hQ⟩:=hv;have G3:=hO.RX (b:=⟨Q,cs[k].ar.n,q7⟩) hQ.bc;have sr:=mP (a:=⟨X,r.Words.n,c4⟩) (b:=⟨Q,cs[k].ar.n,q7⟩) hX hQ.bc;replace hQ:=hQ.low hw.size;(replace hw:=Ext.trans hw ap;replace aD:=aD.ext ap;replace ax:=ax.ext ap;replace bC:=bC.ext ap;replace hX:=hX.ext ap;replace hY:=hY.ext ap;replace hO:=hO.ext ap;replace hN:=hN.ext ap;replace hM:=hM.ext ap);refine SW.nil (ah.sa ap ?_);refine SA.done (by kernel_rfl) ?_;refine SW.bz (i:=0) bC rfl rfl rfl rfl fun w6 fg hg => ?_
   have hG:=bC.gr hg;replace hw:=hw.own kN hg;replace hO:=hO.dD bC hg C3 jj;(replace aD:=aD.aw hG rfl;replace ax:=ax.aw hG rfl;replace hX:=hX.aw hG rfl;replace hY:=hY.aw hG rfl;replace hN:=hN.aw hG rfl;replace hM:=hM.aw hG rfl;replace hQ:=hQ.aw hG rfl);replace bC:=fg;clear fg hg hG;refine Wz ?_;refine SW.bz (i:=4) bC rfl rfl rfl rfl fun w6 fg hg => ?_
   have hG:=bC.gr hg;replace hw:=hw.own kN hg;replace hO:=hO.dD bC hg C3 jj;(replace aD:=aD.aw hG rfl;replace ax:=ax.aw hG rfl;replace hX:=hX.aw hG rfl;replace hY:=hY.aw hG rfl;replace hN:=hN.aw hG rfl;replace hM:=hM.aw hG rfl;replace hQ:=hQ.aw hG rfl);replace bC:=fg;clear fg hg hG;refine Wz ?_;refine SW.bz (i:=5) bC rfl rfl rfl rfl fun w6 fg hg => ?_
   have hG:=bC.gr hg;replace hw:=hw.own kN hg;replace hO:=hO.dD bC hg C3 jj;(replace aD:=aD.aw hG rfl;replace ax:=ax.aw hG rfl;replace hX:=hX.aw hG rfl;replace hY:=hY.aw hG rfl;replace hN:=hN.aw hG rfl;replace hM:=hM.aw hG rfl;replace hQ:=hQ.aw hG rfl);replace bC:=fg;clear fg hg hG;refine Wz ?_;refine SW.dR rfl rfl rfl rfl rfl fun b w6 ap hb hB => ?_
   (replace hw:=Ext.trans hw ap;replace aD:=aD.ext ap;replace ax:=ax.ext ap;replace hX:=hX.ext ap;replace hY:=hY.ext ap;replace hO:=hO.ext ap;replace hN:=hN.ext ap;replace hM:=hM.ext ap;replace hQ:=hQ.ext ap);refine SW.append hO.row (aW.z7 (enc:=eA) (x:=⟨⟨N,_,n4⟩,cs[k].aE,cs[k].bG,cs[k].Order,⟨M,_,m4⟩,⟨Q,_,q7⟩⟩) hB) hw.size rfl rfl rfl (by simp only;omega) (by simp only;omega) fun A2 c2 w5 n7 hg => ?_
   have hG:=hO.row.gr hg;replace hw:=aO hw hg (Nat.le_refl _) hO.row.bc;(replace aD:=aD.aw hG rfl;replace ax:=ax.aw hG rfl;replace hX:=hX.aw hG rfl;replace hY:=hY.aw hG rfl;replace hN:=hN.aw hG rfl;replace hM:=hM.aw hG rfl;replace hQ:=hQ.aw hG rfl);have hE:=hO.each.mono fun _ _ h=>h.aw hG rfl
   refine Wz ?_;refine SW.bz (i:=6) ax rfl rfl rfl rfl fun w6 cW hg => ?_
   have hG:=ax.gr hg;replace hw:=hw.own dB hg;replace aD:=aD.grown hg (by simpa using iH);(replace hX:=hX.aw hG rfl;replace hY:=hY.aw hG rfl;replace hN:=hN.aw hG rfl;replace hM:=hM.aw hG rfl;replace hQ:=hQ.aw hG rfl;replace n7:=n7.aw hG rfl);replace hE:=hE.mono fun _ _ h=>h.aw hG rfl
   refine Wz ?_;refine ah.again (k+1,A2,c2,zr++[⟨⟨N,_,n4⟩,cs[k].aE,cs[k].bG,cs[k].Order,⟨M,_,m4⟩,⟨Q,_,q7⟩⟩]) ⟨rfl,rfl,rfl,rfl,rfl,trivial⟩ (by simp only;omega) ⟨by simp only;omega,hw,aD,cW,hX,hY,⟨n7,?_⟩,tY.snoc (fun u hu=>⟨Gv u hu,Cd u hu,G3 u hu⟩) sr⟩;rw [List.take_succ_eq_append_getElem (by omega)];exact hE.snoc ⟨iS.size,iS.g7,iS.order,hN,hM,hQ⟩
  ·obtain rfl:k=r.aa.n:=by omega
   rw [List.take_of_length_le (by omega)] at hO;refine Wz ?_;refine SW.ak aD rfl rfl rfl rfl (bt _) fun w5 bU hg => ?_
   have hG:=aD.gr hg;replace hw:=hw.own qZ hg;(replace hX:=hX.aw hG rfl;replace hY:=hY.aw hG rfl;replace hO:=hO.aw hG rfl);refine Wz ?_;exact ah.Al rfl rfl bU rfl ⟨_,rfl,hw,⟨_,G,_⟩,zr,rfl,hX,hY,hO,tY⟩
open Go.RowKit
theorem sR {a b:gg} (h:apart a b∨apart b a) : aM b.A b.c=none∨aM b.A b.c≠aM a.A a.c:=by
 cases e:aM b.A b.c with
 | none=>exact .inl rfl
 | some g =>
   right;intro e2;rcases h with h|h
   ·exact h g e2.symm e
   ·exact h g e e2.symm
structure iU (w:World) (lo hi:Nat) (r:gC) (h:Heap) : Prop where
 cpus:r.bw=h.bw
 dA:Own w lo 3 1 bK r.dk.A r.dk.n r.dk.c h.dk
 live:Own w lo 165 3 aL r.Live.A r.Live.n r.Live.c h.Live
 parts:∃ zs ls,jo w lo r.bf zs h.bf∧eH w lo r.au ls h.au∧(∀ g,aM r.dk.A r.dk.c=some g→g<hi)∧(∀ u∈zs,∀ g,aM u.Types.A u.Types.c=some g→g<hi)∧(∀ u∈ls,∀ g,aM u.av.A u.av.c=some g→g<hi)
section
variable {w w':World} {lo hi t g:Nat} {r:gC} {h:Heap}
theorem gZ.uN (a:gZ w lo r h) : iU w lo w.heap.size r h:=by
 obtain ⟨zs,hz⟩:=a.cj;obtain ⟨ls,hl⟩:=a.lists;refine ⟨a.cpus,a.dA,a.live,zs,ls,hz,hl,a.dA.lt_size,fun u hu g e => ?_,fun u hu g e => ?_⟩
 ·obtain ⟨j,hj,rfl⟩:=List.getElem_of_mem hu;exact (hz.each.get j hj (by rw [← hz.each.len];exact hj)).types.lt_size g e
 ·obtain ⟨j,hj,rfl⟩:=List.getElem_of_mem hu;exact (hl.each.get j hj (by rw [← hl.each.len];exact hj)).bM.lt_size g e
theorem iU.own (a:iU w lo hi r h) : gZ w lo r h:=by
 obtain ⟨zs,ls,hz,hl,_⟩:=a.parts;exact ⟨a.cpus,a.dA,a.live,⟨zs,hz⟩,⟨ls,hl⟩⟩
theorem iU.ext (a:iU w lo hi r h) (hx:Ext w w') : iU w' lo hi r h:=by
 obtain ⟨zs,ls,hz,hl,hb⟩:=a.parts;exact ⟨a.cpus,a.dA.ext hx,a.live.ext hx,zs,ls,hz.ext hx,hl.ext hx,hb⟩
theorem iU.aw (a:iU w lo hi r h) (hG:r7 w w' t) (bW:(Nat.beq t 3 || (Nat.beq t 165 || (Nat.beq t 139 || Nat.beq t 142)))=false) : iU w' lo hi r h:=by
 obtain ⟨zs,ls,hz,hl,hb⟩:=a.parts;simp only [Bool.or_eq_false_iff] at bW;obtain ⟨h1,h2,h3,h4⟩:=bW;exact ⟨a.cpus,a.dA.aw hG h1,a.live.aw hG h2,zs,ls,hz.aw hG (by simp [h1,h2,h3]),hl.aw hG (by simp [h1,h4]),hb⟩
theorem iU.KB (a:iU w lo hi r h) (hg:w.grownBy w' (some g)) (hG:r7 w w' 3) (hb:g<lo∨hi≤g) : iU w' lo hi r h:=by
 obtain ⟨zs,ls,hz,hl,b1,b2,b3⟩:=a.parts;have key:∀ k,lo≤k→k<hi→(some g:Option Nat)≠some k:=fun k h1 h2 e=>by cases e;omega
 refine ⟨a.cpus,a.dA.apart hg fun k e=>key k (a.dA.bc k e) (b1 k e),a.live.aw hG rfl,zs,ls,⟨hz.row.aw hG rfl,⟨hz.each.len,fun j h1 h2 => ?_⟩⟩,⟨hl.row.aw hG rfl,⟨hl.each.len,fun j h1 h2 => ?_⟩⟩,b1,b2,b3⟩
 ·have hj:=hz.each.get j h1 h2;exact ⟨hj.from_,hj.lV,hj.free.aw hG rfl,hj.types.apart hg fun k e=>key k (hj.types.bc k e) (b2 _ (List.getElem_mem h1) k e)⟩
 ·have hj:=hl.each.get j h1 h2;exact ⟨hj.cpu,hj.iG,hj.ty,hj.bM.apart hg fun k e=>key k (hj.bM.bc k e) (b3 _ (List.getElem_mem h1) k e)⟩
end
structure pS (w:World) (lo:Nat) (r:eQ) (s:ag) (xz cs:List dv) : Prop where
 words:Own w lo 3 1 bK r.Words.A r.Words.n r.Words.c s.Words
 heap:gZ w lo r.Heap s.Heap
 row:Own w lo 89 6 eA r.aa.A r.aa.n r.aa.c xz
 each:eK (mJ w lo) cs s.aa
 pair:cs.Pairwise jS
abbrev SX (w:World) (lo:Nat) (r:eQ) (s:ag) (cs:List dv) : Prop:=pS w lo r s cs cs
structure SI (w:World) (lo:Nat) (r:eQ) (s:ag) (cs:List dv) : Prop where
 ints:∃ m1 m2,lo≤m1∧m1≤m2∧(∀ g,aM r.Words.A r.Words.c=some g→g<m1)∧iU w m1 m2 r.Heap s.Heap∧eK (mJ w m2) cs s.aa
theorem Bh {cs:List dv} (h:cs.Pairwise jS) {i:Nat} {u:dv} (hu:∀ (j:Nat) (hj:j<cs.length),j≠i→jS u cs[j]∧jS cs[j] u) : (cs.set i u).Pairwise jS:=by
 rw [List.pairwise_iff_getElem] at h ⊢;intro a b ha hb MY;rw [List.length_set] at ha hb;rw [List.getElem_set,List.getElem_set];split
 ·split
  ·omega
  ·exact (hu b hb (by omega)).1
 ·split
  ·exact (hu a ha (by omega)).2
  ·exact h a b ha hb MY
theorem gh {a b:gg} (h:apart a b) : apart b a:=fun k h1 h2=>h k h2 h1
theorem jS.symm {u v:dv} (h:jS u v) : jS v u:=⟨gh h.names,gh h.aH,gh h.a8⟩
theorem o6 {cs:List dv} (h:cs.Pairwise jS) {i j:Nat} (hi:i<cs.length) (hj:j<cs.length) (lz:j≠i) : jS cs[i] cs[j]:=by
 have hp:=List.pairwise_iff_getElem.1 h;rcases Nat.lt_or_ge i j with g|g
 ·exact hp i j hi hj g
 ·exact (hp j i hj hi (by omega)).symm
section
variable {w w':World} {lo t:Nat} {r:eQ} {s:ag} {xz cs:List dv}
theorem pS.ext (h:pS w lo r s xz cs) (hx:Ext w w') : pS w' lo r s xz cs:=⟨h.words.ext hx,h.heap.ext hx,h.row.ext hx,h.each.mono fun _ _ h=>h.ext hx,h.pair⟩
theorem pS.low {lj:Nat} (h:pS w lo r s xz cs) (hl:lj≤lo) : pS w lj r s xz cs:=⟨h.words.low hl,h.heap.low hl,h.row.low hl,h.each.mono fun _ _ h=>h.low hl,h.pair⟩
theorem pS.aw (h:pS w lo r s xz cs) (hG:r7 w w' t) (bW:(Nat.beq t 89 || (Nat.beq t 9 || (Nat.beq t 91 || (Nat.beq t 3 || (Nat.beq t 165 || (Nat.beq t 139 || Nat.beq t 142))))))=false) : pS w' lo r s xz cs:=by
 simp only [Bool.or_eq_false_iff] at bW;obtain ⟨h1,h2,h3,h4,h5,h6,h7⟩:=bW;exact ⟨h.words.aw hG h4,h.heap.aw hG (by simp [h4,h5,h6,h7]),h.row.aw hG h1,h.each.mono fun _ _ h=>h.aw hG (by simp [h2,h3,h4]),h.pair⟩
theorem pS.len (h:SX w lo r s cs) : cs.length=r.aa.n∧s.aa.length=r.aa.n:=⟨h.row.len,by rw [← h.each.len,h.row.len]⟩
theorem pS.Bi (h:SX w lo r s cs) : lR w lo r s:=⟨h.words,h.heap,⟨cs,h.row,h.each⟩⟩
theorem SI.ext (h:SI w lo r s cs) (hx:Ext w w') : SI w' lo r s cs:=by
 obtain ⟨m1,m2,h1,h2,h3,h4,h5⟩:=h.ints;exact ⟨m1,m2,h1,h2,h3,h4.ext hx,h5.mono fun _ _ h=>h.ext hx⟩
theorem SI.low {lj:Nat} (h:SI w lo r s cs) (hl:lj≤lo) : SI w lj r s cs:=by
 obtain ⟨m1,m2,h1,h2,h3,h4,h5⟩:=h.ints;exact ⟨m1,m2,Nat.le_trans hl h1,h2,h3,h4,h5⟩
theorem SI.aw (h:SI w lo r s cs) (hG:r7 w w' t) (bW:(Nat.beq t 9 || (Nat.beq t 91 || (Nat.beq t 3 || (Nat.beq t 165 || (Nat.beq t 139 || Nat.beq t 142)))))=false) : SI w' lo r s cs:=by
 simp only [Bool.or_eq_false_iff] at bW;obtain ⟨h2,h3,h4,h5,h6,h7⟩:=bW;obtain ⟨m1,m2,g1,g2,g3,g4,g5⟩:=h.ints;exact ⟨m1,m2,g1,g2,g3,g4.aw hG (by simp [h4,h5,h6,h7]),g5.mono fun _ _ h=>h.aw hG (by simp [h2,h3,h4])⟩
theorem pS.aH {i n':Nat} {l':List Slab} (h:SX w lo r s cs) (hi:i<cs.length) (r6:i<s.aa.length) (hO:Own w' lo 91 3 aX cs[i].ab.A n' cs[i].ab.c l') (hg:w.grownBy w' (aM cs[i].ab.A cs[i].ab.c)) :
 pS w' lo r ⟨s.Words,s.Heap,s.aa.set i ⟨s.aa[i].Names,s.aa[i].aE,s.aa[i].bG,s.aa[i].Order,l',s.aa[i].ar⟩⟩ cs (cs.set i ⟨cs[i].Names,cs[i].aE,cs[i].bG,cs[i].Order,⟨cs[i].ab.A,n',cs[i].ab.c⟩,cs[i].ar⟩):=by
 have hc:=h.each.get i hi r6;have hG:=hc.aH.gr hg;refine ⟨h.words.aw hG rfl,h.heap.aw hG rfl,h.row.aw hG rfl,?_,?_⟩
 ·exact eK.setAt h.each ⟨hc.size,hc.g7,hc.order,hc.names.aw hG rfl,hO,hc.a8.aw hG rfl⟩ fun j h1 h2 jm ho=>⟨ho.size,ho.g7,ho.order,ho.names.aw hG rfl,ho.aH.grown hg (sR (.inl (o6 h.pair hi h1 jm).aH)),ho.a8.aw hG rfl⟩
 ·refine Bh h.pair fun j hj jm => ?_
  have hp:=o6 h.pair hi hj jm;exact ⟨⟨hp.names,hp.aH,hp.a8⟩,⟨gh hp.names,gh hp.aH,gh hp.a8⟩⟩
theorem pS.wg {i:Nat} {u:dv} (h:pS w lo r s xz (xz.set i u)) (hO:Own w' lo 89 6 eA r.aa.A r.aa.n r.aa.c (xz.set i u)) (hg:w.grownBy w' (aM r.aa.A r.aa.c)) : SX w' lo r s (xz.set i u):=by
 have hG:=h.row.gr hg;exact ⟨h.words.aw hG rfl,h.heap.aw hG rfl,hO,h.each.mono fun _ _ h=>h.aw hG rfl,h.pair⟩
theorem pS.Hs {l':List Int} (h:SX w lo r s cs) (hI:SI w lo r s cs) (hO:Own w' lo 3 1 bK r.Words.A r.Words.n r.Words.c l') (hg:w.grownBy w' (aM r.Words.A r.Words.c)) : SX w' lo r ⟨l',s.Heap,s.aa⟩ cs:=by
 obtain ⟨m1,m2,h1,h2,h3,h4,h5⟩:=hI.ints;have hG:=h.words.gr hg
 have hh:iU w' m1 m2 r.Heap s.Heap:=by
  cases e:aM r.Words.A r.Words.c with
  | none=>rw [e] at hg;exact h4.aw (⟨none,hg,fun k hk=>by cases hk⟩ : r7 w w' 44) rfl
  | some g=>rw [e] at hg;exact h4.KB hg hG (.inl (h3 g e))
 refine ⟨hO,hh.own.low h1,h.row.aw hG rfl,⟨h.each.len,fun j hj pX => ?_⟩,h.pair⟩;have ho:=h.each.get j hj pX
 exact ⟨ho.size,ho.g7,ho.order,ho.names.aw hG rfl,ho.aH.aw hG rfl,ho.a8.apart hg fun g e e2=>by
  have:=h3 g e2;have:=(h5.get j hj pX).a8.bc g e;omega⟩
end
open Go.RowKit
open Go.RowKit
structure mQ (w:World) (lo:Nat) (m li lv:gg) (ls:List cy) (h:Heap) : Prop where
 dA:Own w lo 3 1 bK m.A m.n m.c h.dk
 live:Own w lo 165 3 aL lv.A lv.n lv.c h.Live
 lists:eH w lo li ls h.au
section
variable {w w':World} {lo t:Nat} {m li lv:gg} {ls:List cy} {h:Heap}
theorem mQ.ext (a:mQ w lo m li lv ls h) (hx:Ext w w') : mQ w' lo m li lv ls h:=⟨a.dA.ext hx,a.live.ext hx,a.lists.ext hx⟩
theorem mQ.aw (a:mQ w lo m li lv ls h) (hG:r7 w w' t) (bW:(Nat.beq t 3 || (Nat.beq t 165 || Nat.beq t 142))=false) : mQ w' lo m li lv ls h:=by
 simp only [Bool.or_eq_false_iff] at bW;obtain ⟨h1,h2,h3⟩:=bW;exact ⟨a.dA.aw hG h1,a.live.aw hG h2,a.lists.aw hG (by simp [h1,h3])⟩
theorem gZ.split {r:gC} (a:gZ w lo r h) {z0 z1:ao} (hz:h.bf=[z0,z1]) : ∃ g c u0 u1 ls,r.bf=⟨some ⟨g,0,none⟩,2,c⟩∧eV w lo g c u0 u1 (z0,z1)∧mQ w lo r.dk r.au r.Live ls h:=by
 obtain ⟨zs,zy⟩:=a.cj;obtain ⟨ls,M5⟩:=a.lists;have l0:=zy.each.len;rw [hz] at l0;obtain ⟨u0,u1,rfl⟩:=vM (show zs.length=2 from l0);have l1:=zy.row.len;have h0:=zy.each.get 0 (by simp) (by simp [hz]);have h1:=zy.each.get 1 (by simp) (by simp [hz]);simp only [hz] at h0 h1;have hc : 0<r.bf.c:=by have:=zy.row.le;simp at l1;omega
 obtain ⟨g,rest,hA,gB,_⟩:=zy.row.opened hc;refine ⟨g,r.bf.c,u0,u1,ls,?_,⟨?_,h0,h1,gB,hc⟩,⟨a.dA,a.live,M5⟩⟩
 ·rw [← hA];have:(2:Nat)=r.bf.n:=l1
  rw [this]
 ·have:=zy.row
  rw [hA,← l1] at this;exact this
theorem mQ.join (a:mQ w lo m li lv ls h) {g c:Nat} {u0 u1:cU} {s:ao×ao} (hZ:eV w lo g c u0 u1 s) {cp:Int} (hc:cp=h.bw) : gZ w lo ⟨⟨some ⟨g,0,none⟩,2,c⟩,m,cp,.nil,lv⟩ ⟨[s.1,s.2],h.dk,h.bw,[],h.Live⟩ :=
 ⟨hc,a.dA,a.live,⟨[u0,u1],⟨hZ.row,eK.snoc (eK.snoc eK.nil hZ.z0) hZ.z1⟩⟩,⟨[],.nil _ _⟩⟩
end
structure G2 (w0 w:World) (g b:Nat) : Prop where
 os:w.os=w0.os
 tape:w.tape=w0.tape
 output:w.output=w0.output
 size:w0.heap.size≤w.heap.size
 block:∀ k,k<w0.heap.size→k≠g→k≠b→w.heap[k]?=w0.heap[k]?
section
variable {w0 w w':World} {g b k t:Nat} {cs:List Value}
theorem G2.refl (w:World) (g b:Nat) : G2 w w g b:=⟨rfl,rfl,rfl,Nat.le_refl _,fun _ _ _ _=>rfl⟩
theorem G2.step (h:G2 w0 w g b) {row:Option Nat} (hg:w.grownBy w' row) (hr:∀ k,row=some k→k=g∨k=b∨w0.heap.size≤k) : G2 w0 w' g b :=
 ⟨hg.os.trans h.os,hg.tape.trans h.tape,hg.output.trans h.output,Nat.le_trans h.size hg.size,fun k hk h1 h2=>by
  rw [hg.block k (Nat.lt_of_lt_of_le hk h.size) (fun e=>by rcases hr k e.symm with e|e|e<;>omega)];exact h.block k hk h1 h2⟩
theorem G2.ext (h:G2 w0 w g b) (hx:Ext w w') : G2 w0 w' g b:=h.step (hx.gr none) (fun k e=>by cases e)
theorem G2.QA (h:G2 w0 w g b) (hg:w.grownBy w' (some g)) : G2 w0 w' g b:=h.step hg (fun k e=>by cases e;exact .inl rfl)
theorem G2.QB (h:G2 w0 w g b) (hg:w.grownBy w' (some b)) : G2 w0 w' g b:=h.step hg (fun k e=>by cases e;exact .inr (.inl rfl))
theorem G2.dD (h:G2 w0 w g b) (hB:aW w0 k t cs) (h1:k≠g) (h2:k≠b) : aW w k t cs:=(h.block k hB.lt h1 h2).trans hB
end
noncomputable def jT (h:Heap) (z0 z1:ao) (k:Nat) : ao×ao:=bE (z0,z1) ((aR h.au).take k)
set_option maxHeartbeats 2000000 in
theorem FA (h:Heap) (z0 z1:ao) (hd:lF h z0 z1) (hs:h.small) (m:gg) (cp:Int) (li lv:gg) (ls:List cy) (u0 u1:cU) (g c b1 lo:Nat) (w w0:World) (hw:Ext w w0) (gB:w.heap.size≤lo) (Ht:lo≤w0.heap.size) (Hu:lo≤b1)
 (aI:aW w0 b1 41 (cV ⟨⟨some ⟨g,0,none⟩,2,c⟩,m,cp,li,lv⟩)) (hZ:eV w0 lo g c u0 u1 (z0,z1)) (hR:mQ w0 lo m li lv ls h) :
 jw Tryz.prog 154 [.pointer (some ⟨b1,0,none⟩)] w0 fun v w'=>Ext w w'∧G2 w0 w' g b1∧aW w' b1 41 (cV ⟨⟨some ⟨g,0,none⟩,2,c⟩,m,cp,.nil,lv⟩)∧mQ w' lo m li lv ls h ∧ ∃ u0 u1,eV w' lo g c u0 u1 (bE (z0,z1) (aR h.au)):=by
 refine dM Tryz.func154 rfl Tryz.ntmps154 rfl ?_;have QC:w.heap.size≤g:=Nat.le_trans gB hZ.Ei
 have z8:w.heap.size≤b1:=Nat.le_trans gB Hu
 have hE:=G2.refl w0 g b1;have pp:=hR.lists.rd.len;have s4:=hs.lists;have LY:=hR.lists.row.sl.base;refine Wz ?_
 refine CW.loop (fun t:Nat×cU×cU=>[(0,.pointer (some ⟨b1,0,none⟩)),(9,.slice li.A li.n li.c),(10,.int .i64 (li.n:Int)),(11,.int .i64 (t.1:Int))])
  (fun t w'=>t.1≤li.n∧Ext w w'∧G2 w0 w' g b1∧lo≤w'.heap.size∧aW w' b1 41 (cV ⟨⟨some ⟨g,0,none⟩,2,c⟩,m,cp,li,lv⟩)∧eV w' lo g c t.2.1 t.2.2 (jT h z0 z1 (iI h.au t.1))∧mQ w' lo m li lv ls h) (fun t=>li.n-t.1) (0,u0,u1)
  ⟨rfl,rfl,rfl,rfl,trivial⟩ ⟨by omega,hw,hE,Ht,aI,by simpa [jT,iI,aR,bE] using hZ,hR⟩ ?_
 clear hw hE aI hZ hR LY Ht;rintro ⟨i,u0,u1⟩ w' ⟨hi,hw,hE,Ht,aI,hZ,hR⟩
 simp only at hi hZ ⊢;have hA:=hR.lists.row.sl.base;by_cases df:i<li.n
 ·have r9:i<h.au.length:=by omega
  have xv:i<ls.length:=by omega
  have ua:=hR.lists.each.get i xv r9;have Cc:=ua.bM.sl.len;have IY:=hs.bM _ (List.getElem_mem r9);repeat' (first|refine Wz ?_|refine SW.st (aB rfl rfl ((hR.lists.row.sl.all df))) rfl ?_)
  have qO:=hw.size;refine SW.alloc rfl fun b3 w1 ae bQ ax => ?_
  skip;refine SW.ak ax rfl rfl rfl rfl (fP.one (enc:=bI) _) fun w2 cW hg => ?_
  have ap:=ae.own bQ hg;have dB:w.heap.size≤b3:=Nat.le_trans hw.size bQ
  replace hw:=Ext.trans hw ap;replace aI:=aI.ext ap;replace hZ:=hZ.ext ap;replace hR:=hR.ext ap;replace hE:=hE.ext ap;replace ax:=cW;clear cW ae hg ap;have Bj:=(hR.lists.each.get i xv r9).bM.sl.base;have Oa:lo≤w2.heap.size:=Nat.le_trans Ht (Nat.le_trans bQ (Nat.le_of_lt ax.lt))
  refine Wz ?_
  refine CW.loop (fun t:Nat×cU×cU=>[(0,.pointer (some ⟨b1,0,none⟩)),(9,.slice li.A li.n li.c),(10,.int .i64 (li.n:Int)),(11,.int .i64 (i:Int)),(16,.slice ls[i].av.A ls[i].av.n ls[i].av.c),(17,.int .i64 (ls[i].av.n:Int)),(18,.int .i64 (t.1:Int))])
   (fun t w'=>t.1≤ls[i].av.n∧Ext w w'∧G2 w0 w' g b1∧lo≤w'.heap.size∧aW w' b1 41 (cV ⟨⟨some ⟨g,0,none⟩,2,c⟩,m,cp,li,lv⟩)∧eV w' lo g c t.2.1 t.2.2 (jT h z0 z1 (iI h.au i+t.1))∧mQ w' lo m li lv ls h) (fun t=>ls[i].av.n-t.1) (0,u0,u1)
   ⟨rfl,rfl,rfl,rfl,rfl,rfl,rfl,trivial⟩ ⟨by omega,hw,hE,Oa,aI,hZ,hR⟩ ?_
  clear hw hE aI hZ hR ax Ht Oa qO hA Bj bQ dB ua;rintro ⟨j,u0,u1⟩ w' ⟨hj,hw,hE,Ht,aI,hZ,hR⟩
  simp only at hj hZ ⊢;by_cases nd:j<ls[i].av.n
  ·have pq:j<h.au[i].av.length:=by omega
   have ua:=hR.lists.each.get i xv r9;have Bj:=ua.bM.sl.base;obtain ⟨hK,NR⟩:=uG r9 pq;have hN:=hd.next hK;have hD:=hd.inv (iI h.au i+j) (by omega);have hT:=ld (z0,z1) (aR h.au) _ hK;rw [NR] at hN hT;have M0:jT h z0 z1 (iI h.au i+(j+1))=eR (jT h z0 z1 (iI h.au i+j)) (bL h.au[i].av[j]):=hT
   repeat' (first|refine Wz ?_|refine SW.st (aq rfl (ua.bM.sl.one nd rfl)) rfl ?_)
   refine SW.dt rfl rfl (sN m cp li lv u0 u1 _ _ (bL h.au[i].av[j]) lo g c b1 _ aI hZ Ht hD hN) fun v w5 hv => ?_
   obtain ⟨hg,u2,u3,Ce⟩:=hv;have hG:=hZ.gr hg;replace hw:=hw.own QC hg;replace hE:=hE.QA hg;replace aI:=aI.aw hG rfl;replace hR:=hR.aw hG rfl;replace Ht:=Nat.le_trans Ht hg.size;refine Wz ?_;refine ah.again (j+1,u2,u3) ⟨rfl,rfl,rfl,rfl,rfl,rfl,rfl,trivial⟩ (by simp only;omega) ⟨by simp only;omega,hw,hE,Ht,aI,?_,hR⟩;simp only;rw [M0];exact Ce
  ·have ej:iI h.au i+j=iI h.au (i+1):=by rw [vI r9];omega
   rw [ej] at hZ;refine Wz ?_;exact ah.again (i+1,u0,u1) ⟨rfl,rfl,rfl,rfl,trivial⟩ (by simp only;omega) ⟨by simp only;omega,hw,hE,Ht,aI,hZ,hR⟩
 ·have ei:i=h.au.length:=by omega
  have L6:jT h z0 z1 (iI h.au i)=bE (z0,z1) (aR h.au):=by
   rw [ei,zu,jT,List.take_of_length_le (Nat.le_refl _)]
  rw [L6] at hZ;refine Wz ?_;refine SW.bz (i:=3) aI rfl rfl rfl rfl fun w6 pO hg => ?_
  have hG:=aI.gr hg;replace hw:=hw.own z8 hg;refine Wz ?_;exact ah.vB rfl ⟨_,rfl,hw,hE.QB hg,pO,hR.aw hG rfl,u0,u1,hZ.aw hG rfl⟩
open Go.RowKit
noncomputable def qg (z:ao) (a:Int) : Int×Int:=if dO z then (if z.aK≤a∧a<z.To then (z.Types.getD ((a-z.aK) / 8).toNat 0,0) else (0,1)) else (0,8)
noncomputable def o7 (z:ao) : Int×Int:=if dO z then (im z.aj,0) else (0,8)
theorem C4 (r:cU) (z:ao) (w:World) (hr:Ca w r z) (hf:r.aj.n≤100000000000000000) (ht:r.Types.n≤1000000000000000000) (h1 : -9223372036854775808≤r.aK∧r.aK≤9223372036854775807) (h2 : -9223372036854775808≤r.To∧r.To≤9223372036854775807) :
 bq Tryz.prog 245 [.agg (bX r).toArray] w fun v _=>v = .tuple #[.int .i64 (o7 z).1,.int .i64 (o7 z).2]:=by
 refine aG Tryz.func245 rfl Tryz.ntmps245 rfl ?_;refine CW.seq (CW.region (SW.box rfl rfl fun b1 w1 hw jh aI => ?_));have IP:=hr.free.len;obtain ⟨q,hq⟩ : ∃ q,dO z=q:=⟨_,rfl⟩
 have c1:∀ w',Ext w w'→bq Tryz.prog 176 [.agg (bX r).toArray] w' fun v _=>v = .int .i64 (if q then 0 else 8):=fun w' h=>by
  have:=jg r z w' (hr.ext h) (by omega) (by omega) h1 h2
  rwa [hq] at this
 cases q
 ·have e:o7 z=(0,8):=by simp [o7,hq]
  rw [e];simp only [Bool.false_eq_true,if_false] at c1;repeat' (first|refine Wz ?_|(refine SW.call rfl rfl (c1 _ hw) ?_;intro v w1 ae hv;subst hv;replace hw:=Ext.trans hw ae;replace aI:=aI.ext ae;clear ae))
  exact ah.cb rfl rfl rfl ⟨_,rfl,hw,rfl⟩
 ·simp only [if_true] at c1;have hz:=ed.1 hq;have e:o7 z=(im z.aj,0):=by simp [o7,hq]
  rw [e];repeat' (first|refine Wz ?_|(refine SW.call rfl rfl (c1 _ hw) ?_;intro v w1 ae hv;subst hv;replace hw:=Ext.trans hw ae;replace aI:=aI.ext ae;clear ae))
  refine CW.loop (fun k:Nat=>[(5,.int .i64 (im (z.aj.take k))),(14,.slice r.aj.A r.aj.n r.aj.c),(15,.int .i64 (r.aj.n:Int)),(16,.int .i64 (k:Int))]) (fun k w'=>k≤r.aj.n∧Ext w w') (fun k=>r.aj.n-k) 0 ⟨rfl,rfl,rfl,rfl,trivial⟩ ⟨by omega,hw⟩ ?_;clear hw aI;rintro k w' ⟨hk,hw⟩
  have hA:=hr.free.base;by_cases dY:k<r.aj.n
  ·have fe:=hr.free.lt dY;obtain ⟨f1,f2,_⟩:=(hz.dD k fe).1;have hp:=bT f1 f2;have et:=qY z.aj k fe;have hs:=mm hz k (by omega);repeat' (first|refine Wz ?_|refine SW.st (aU hw rfl rfl ((hr.free.all dY))) rfl ?_)
   refine SW.alloc rfl fun b7 w3 jA jG bO => ?_
   have jH:w.heap.size≤b7:=Nat.le_trans hw.size jG
   replace hw:=Ext.trans hw jA;skip;refine SW.ak bO rfl rfl rfl rfl (fP.one (enc:=aL) _) fun w4 bB hg => ?_
   replace hw:=hw.own jH hg;repeat' (first|refine Wz ?_|(refine SW.st (fb (r:=pw (z.aj[k]).Order) rfl rfl (by omega) (by omega) (by simp [pw]) (by omega) (by omega)) rfl ?_))
   exact ah.again (k+1) ⟨by rw [et];rfl,rfl,rfl,rfl,trivial⟩ (by omega) ⟨by omega,hw⟩
  ·refine Wz ?_;refine ah.cb rfl rfl rfl ⟨_,rfl,hw,?_⟩;rw [List.take_of_length_le (by omega)]
open Go.RowKit
theorem L7.C5 (r:cU) (z:ao) (a:Int) (w:World) (hr:Ca w r z) (hf:r.aj.n≤2305843009213693952) (ht:r.Types.n≤1000000000000000000) (h1 : -9223372036854775808≤r.aK∧r.aK≤9223372036854775807) (h2 : -9223372036854775808≤r.To∧r.To≤9223372036854775807) :
 bq Tryz.prog 111 [.agg (bX r).toArray,.int .i64 a] w fun v _=>v = .tuple #[.int .i64 (qg z a).1,.int .i64 (qg z a).2]:=by
 refine aG Tryz.func111 rfl Tryz.ntmps111 rfl ?_;refine CW.seq (CW.region (SW.box rfl rfl fun b1 w1 hw jh aI => ?_));have eF:=hr.from_;have eT:=hr.lV;have MX:=hr.types.len;obtain ⟨q,hq⟩ : ∃ q,dO z=q:=⟨_,rfl⟩
 have c1:∀ w',Ext w w'→bq Tryz.prog 176 [.agg (bX r).toArray] w' fun v _=>v = .int .i64 (if q then 0 else 8):=fun w' h=>by
  have:=jg r z w' (hr.ext h) hf (by omega) h1 h2
  rwa [hq] at this
 have c2:∀ w',Ext w w'→bq Tryz.prog 195 [.agg (bX r).toArray] w' fun v _=>v = .bool q:=fun w' h=>by
  have:=Ap r z w' (hr.ext h) hf ht h1 h2
  rwa [hq] at this
 cases q
 ·have e:qg z a=(0,8):=by simp [qg,hq]
  rw [e];simp only [Bool.false_eq_true,if_false] at c1;repeat' (first|refine Wz ?_|(refine SW.call rfl rfl (c1 _ hw) ?_;intro v w1 ae hv;subst hv;replace hw:=Ext.trans hw ae;replace aI:=aI.ext ae;clear ae))
  exact ah.cb rfl rfl rfl ⟨_,rfl,hw,rfl⟩
 ·simp only [if_true] at c1;have hz:=ed.1 hq;obtain ⟨o1,o2,o3,o4,o5⟩:=hz.ok;have hA:=hr.types.base;by_cases df:z.aK≤a∧a<z.To
  ·obtain ⟨k,hk,fe⟩:=DS hz df.1 df.2;have dY:k<r.Types.n:=by omega
   have e:qg z a=(z.Types[k],0):=by simp [qg,hq,df,hk,List.getD_eq_getElem?_getD,List.getElem?_eq_getElem fe]
   rw [e];obtain ⟨i1,i2⟩:=id df;repeat' (first|refine Wz ?_|refine SW.st (aZ (k) rfl rfl (by assumption) (by omega) (by omega)) rfl ?_|refine SW.st (aT hw rfl (hr.types.one dY rfl)) rfl ?_|(refine SW.call rfl rfl (c1 _ hw) ?_;intro v w1 ae hv;subst hv;replace hw:=Ext.trans hw ae;replace aI:=aI.ext ae;clear ae))
   all_goals try omega
   exact ah.cb rfl rfl rfl ⟨_,rfl,hw,rfl⟩
  ·have e:qg z a=(0,1):=by simp only [qg,hq,if_true,if_neg df]
   rw [e];repeat' (first|refine Wz ?_|refine SW.cw rfl rfl rfl (fun h => ?_) (fun h => ?_)|(refine SW.call rfl rfl (c1 _ hw) ?_;intro v w1 ae hv;subst hv;replace hw:=Ext.trans hw ae;replace aI:=aI.ext ae;clear ae))
   all_goals try omega
   all_goals exact ah.cb rfl rfl rfl ⟨_,rfl,hw,rfl⟩
def ja (lo:Nat) (o:Int×Heap) (v:Value) (w:World) : Prop := ∃ s:gC,v = .tuple #[.agg (cV s).toArray,.int .i64 o.1]∧gZ w lo s o.2
theorem ja.zero (e:Int) (lo:Nat) (w:World) : ja lo (e,⟨[],[],0,[],[]⟩) (.tuple #[.agg (cV .zero).toArray,.int .i64 e]) w:=⟨.zero,rfl,gZ.zero w lo⟩
theorem eK.two {α β:Type} {R : α → β → Prop} {a b : α} {c d : β} (h1:R a c) (h2:R b d) : eK R [a,b] [c,d]:=eK.snoc (eK.snoc eK.nil h1) h2
end Go.Proofs.YtbidkghlpijecaaGreatDoor
