/-
  Texts of the claim TopRoom, part 18: what its theorem leans on.
-/
import Derived.Test.YtbidkghlpijecaaGreatDoorPackTopRoom5
import Derived.Test.YtbidkghlpijecaaGreatDoorPackTopRoom3
import Derived.Test.YtbidkghlpijecaaGreatDoorPackTopRoom6
import Derived.Test.YtbidkghlpijecaaGreatDoorPackTopRoom17
import Derived.Test.YtbidkghlpijecaaGreatDoorPackTopRoom13
import Derived.Test.YtbidkghlpijecaaGreatDoorPackTopRoom12
import Derived.Test.YtbidkghlpijecaaGreatDoorPackTopRoom2
import Derived.Test.YtbidkghlpijecaaGreatDoorPackTopRoom8
import Derived.Test.YtbidkghlpijecaaGreatDoorPackTopRoom14
import Derived.Test.YtbidkghlpijecaaGreatDoorPackTopRoom11
import Derived.Test.YtbidkghlpijecaaGreatDoorPackTopRoom15
import Derived.Test.YtbidkghlpijecaaGreatDoorPackTopRoom4
set_option linter.unusedVariables false
set_option linter.unusedSimpArgs false
namespace Go.Proofs.YtbidkghlpijecaaGreatDoor
noncomputable def ja (z:ab) (p:Int) : ab:=(bV z p 0).2
noncomputable def iu:Nat→ab→Int→ab
 | 0,z,_=>z
 | k+1,z,p=>iu k (ja z p) (p+1)
theorem ou:∀ (k:Nat) (z:ab) (p:Int),iu (k+1) z p=ja (iu k z p) (p+k)
 | 0,z,p=>by simp [iu]
 | k+1,z,p=>by
   rw [iu,ou k,iu];congr 1
   omega
theorem tw {z:ab} {p o:Int} (h:(bV z p o).1≠0) : (bV z p o).2 = .zero:=by
 cases hq:df z
 ·rw [oO hq]
 ·by_cases hf:dK z.aw z.To p o
  ·cases ho:eK z.ag p o
   ·exfalso;obtain ⟨⟨l,a',o'⟩,hj⟩ : ∃ u,dr 5 z.ag p o=u:=⟨_,rfl⟩;rw [j8 hq hf ho hj rfl] at h;exact h rfl
   ·rw [vR hq hf ho]
  ·rw [rF hq hf]
theorem tx {z:ab} {p:Int} (h:p<z.aw∨z.To≤p) : ja z p = .zero:=by
 unfold ja;cases hq:df z
 ·rw [oO hq]
 ·rw [rF hq (fun hf=>by unfold dK at hf;omega)]
theorem CA (p:Int) : ja .zero p = .zero:=tx (by simp only [ab.zero];omega)
theorem fold_zero:∀ (k:Nat) (p:Int),iu k .zero p = .zero
 | 0,_=>rfl
 | k+1,p=>by rw [iu,CA,fold_zero k]
theorem tz:∀ (k:Nat) (z:ab) (p:Int),(oP k z p).2=iu k z p
 | 0,_,_=>rfl
 | k+1,z,p=>by
   rw [oP,iu];split
   ·exact tz k _ _
   ·rename_i h;rw [ja,tw h,fold_zero]
theorem yq:∀ (k:Nat) (z:ab) (p:Int),p≤z.To→z.To<p+k→iu k z p = .zero
 | 0,z,p,h1,h2=>by omega
 | k+1,z,p,h1,h2=>by
   rw [iu];by_cases e:p=z.To
   ·rw [tx (by omega),fold_zero]
   ·by_cases h:(bV z p 0).1=0
    ·have:=((iC z p 0).2.2 h).2.1
     exact yq k _ _ (by rw [ja];omega) (by rw [ja];omega)
    ·rw [ja,tw h,fold_zero]
theorem vh {k:Nat} (z:ab) (p:Int) (h : 0<k) : (kG z p (k:Int)).2=iu k z p:=by
 obtain ⟨k,rfl⟩ : ∃ m,k=m+1:=⟨k-1,by omega⟩;cases hq:df z
 ·rw [AO hq,iu,ja,oO hq,fold_zero]
 ·by_cases ha:iT z p ((k+1:Nat) : Int)
  ·rw [AQ hq ha,tz]
  ·rw [AP hq ha];unfold iT at ha;by_cases h1:p<z.aw∨z.To≤p
   ·rw [iu,tx h1,fold_zero]
   ·exact (yq _ _ _ (by omega) (by omega)).symm
noncomputable def dw (l:List Region) (split:Int) : Nat→ab×ab
 | 0=>((eJ 0 split).2,(eJ split 256).2)
 | p+1=>if cK l p then (if (p:Int)<split then (ja (dw l split p).1 p,(dw l split p).2) else ((dw l split p).1,ja (dw l split p).2 p)) else dw l split p
theorem qs {l:List Region} {split:Int} {p:Nat}:∀ n:Nat,(∀ i:Nat,i<n→cK l ((p+i:Nat) : Int)=false)→dw l split (p+n)=dw l split p
 | 0,_=>rfl
 | n+1,h=>by
   rw [← Nat.add_assoc,dw,h n (by omega),if_neg (by simp)];exact qs n fun i hi=>h i (by omega)
theorem yr {l:List Region} {split:Int} {p:Nat}:∀ n:Nat,(∀ i:Nat,i<n→cK l ((p+i:Nat) : Int)=true∧((p+i:Nat) : Int)<split)→dw l split (p+n)=(iu n (dw l split p).1 p,(dw l split p).2)
 | 0,_=>rfl
 | n+1,h=>by
   rw [← Nat.add_assoc,dw,(h n (by omega)).1,if_pos rfl,if_pos (h n (by omega)).2,yr n fun i hi=>h i (by omega),ou];simp
theorem vi {l:List Region} {split:Int} {p:Nat}:∀ n:Nat,(∀ i:Nat,i<n→cK l ((p+i:Nat) : Int)=true∧split≤((p+i:Nat) : Int))→dw l split (p+n)=((dw l split p).1,iu n (dw l split p).2 p)
 | 0,_=>rfl
 | n+1,h=>by
   rw [← Nat.add_assoc,dw,(h n (by omega)).1,if_pos rfl,if_neg (by have:=(h n (by omega)).2;omega),vi n fun i hi=>h i (by omega),ou];simp
def cd (l:List Region) (k:Nat) : Int:=match k with
 | 0=>0
 | k+1=>if h:k<l.length then l[k].aw+l[k].aY else 256
theorem nC {l:List Region} (h:dX l) : ∀ (j:Nat) (hj:j<l.length) (i:Nat) (hi:i<j),(l[i]'(Nat.lt_trans hi hj)).aw+(l[i]'(Nat.lt_trans hi hj)).aY<l[j].aw
 | 0,_,i,hi=>by omega
 | j+1,hj,i,hi=>by
   have h1:=(h.2 (j+1) hj).2 (by omega);simp only [Nat.add_sub_cancel] at h1;by_cases e:i=j
   ·subst e;exact h1
   ·have h2:=nC h j (by omega) i (by omega);have h3:=(h.2 j (by omega)).1;unfold Region.ok at h3;omega
theorem CB {l:List Region} {k:Nat} (hk:k<l.length) : cd l (k+1)=l[k].aw+l[k].aY:=by simp only [cd,dif_pos hk]
theorem EP {l:List Region} (h:dX l) {k:Nat} (hk:k<l.length) : 0≤cd l k∧cd l k≤l[k].aw:=by
 have h0:=(h.2 k hk).1;unfold Region.ok at h0;cases k with
 | zero=>simp only [cd];omega
 | succ k =>
   have h1:=(h.2 k (by omega)).1;unfold Region.ok at h1;have h2:=nC h (k+1) hk k (by omega);simp only [cd,dif_pos (show k<l.length by omega)];omega
theorem nY {l:List Region} (h:dX l) {k:Nat} (hk:k≤l.length) {p:Int} (h1:cd l k≤p) (h2:∀ hk:k<l.length,p<l[k].aw) : cK l p=false:=by
 unfold cK;rw [List.any_eq_false];intro r hr;obtain ⟨j,hj,rfl⟩:=List.getElem_of_mem hr;have h0:=(h.2 j hj).1;unfold Region.ok at h0;simp only [Bool.and_eq_true,decide_eq_true_eq,not_and];intro h3 h4;by_cases kB:j<k
 ·obtain ⟨m,rfl⟩ : ∃ m,k=m+1:=⟨k-1,by omega⟩;simp only [cd,dif_pos (show m<l.length by omega)] at h1;by_cases e:j=m
  ·subst e;omega
  ·have h5:=nC h m (by omega) j (by omega);have h6:=(h.2 m (by omega)).1;unfold Region.ok at h6;omega
 ·have h5:=h2 (by omega);by_cases e:k=j
  ·subst e;omega
  ·have h6:=nC h j hj k (by omega);have h7:=(h.2 k (by omega)).1;unfold Region.ok at h7;omega
theorem yu {l:List Region} {k:Nat} (hk:k<l.length) {p:Int} (h1:l[k].aw≤p) (h2:p<l[k].aw+l[k].aY) : cK l p=true:=by
 unfold cK;rw [List.any_eq_true];exact ⟨l[k],List.getElem_mem hk,by simp;omega⟩
def gG (r:Region) (split:Int) : Int:=max 0 (min (r.aw+r.aY) split-r.aw)
noncomputable def jj (l:List Region) (split:Int) (k:Nat) : ab×ab:=dw l split (cd l k).toNat
noncomputable def ov (z:ab) (f s:Int) : ab:=if 0<s then (kG z f s).2 else z
theorem tA {z:ab} {f s:Int} (h : 0<s) : (kG z f s).2=ov z f s:=by rw [ov,if_pos h]
theorem yv {z:ab} {f s:Int} (h : ¬ 0<s) : z=ov z f s:=by rw [ov,if_neg h]
theorem Af {l:List Region} (h:dX l) {split:Int} {k:Nat} (hk:k<l.length) :
 jj l split (k+1)=(ov (jj l split k).1 l[k].aw (gG l[k] split),ov (jj l split k).2 (l[k].aw+gG l[k] split) (l[k].aY-gG l[k] split)):=by
 have h0:=(h.2 k hk).1;unfold Region.ok at h0;have hs:=EP h hk;have hb : 0≤gG l[k] split∧gG l[k] split≤l[k].aY∧(0<gG l[k] split→l[k].aw+gG l[k] split≤split)∧(gG l[k] split<l[k].aY→split≤l[k].aw+gG l[k] split):=by unfold gG;omega
 obtain ⟨b,Qy⟩ : ∃ b,gG l[k] split=b:=⟨_,rfl⟩;rw [Qy] at hb ⊢;obtain ⟨b1,b2,b3,b4⟩:=hb;unfold jj
 have e1:(cd l (k+1)).toNat=((cd l k).toNat+(l[k].aw-cd l k).toNat+b.toNat)+(l[k].aY-b).toNat:=by
  rw [CB hk];omega
 have e2:((cd l k).toNat+(l[k].aw-cd l k).toNat:Nat)=l[k].aw.toNat:=by omega
 rw [e1,vi (p:=(cd l k).toNat+(l[k].aw-cd l k).toNat+b.toNat) (l[k].aY-b).toNat,yr (p:=(cd l k).toNat+(l[k].aw-cd l k).toNat) b.toNat,qs (p:=(cd l k).toNat) (l[k].aw-cd l k).toNat]
 ·rw [e2];unfold ov
  have g1:iu b.toNat (dw l split (cd l k).toNat).1 (l[k].aw.toNat:Int)=if 0<b then (kG (dw l split (cd l k).toNat).1 l[k].aw b).2 else (dw l split (cd l k).toNat).1:=by
   split
   ·have:=vh (k:=b.toNat) (dw l split (cd l k).toNat).1 l[k].aw (by omega)
    rw [Int.toNat_of_nonneg b1] at this;rw [this,Int.toNat_of_nonneg (by omega)]
   ·rw [show b.toNat=0 by omega];rfl
  have g2:iu (l[k].aY-b).toNat (dw l split (cd l k).toNat).2 ((l[k].aw.toNat+b.toNat:Nat) : Int)=if 0<l[k].aY-b then (kG (dw l split (cd l k).toNat).2 (l[k].aw+b) (l[k].aY-b)).2 else (dw l split (cd l k).toNat).2:=by
   split
   ·have:=vh (k:=(l[k].aY-b).toNat) (dw l split (cd l k).toNat).2 (l[k].aw+b) (by omega)
    rw [Int.toNat_of_nonneg (by omega)] at this;rw [this,show ((l[k].aw.toNat+b.toNat:Nat) : Int)=l[k].aw+b by omega]
   ·rw [show (l[k].aY-b).toNat=0 by omega];rfl
  simp only [g1,g2]
 ·intro i hi;exact nY (k:=k) h (by omega) (by omega) (fun _=>by omega)
 ·intro i hi;rw [e2];exact ⟨yu hk (by omega) (by omega),by omega⟩
 ·intro i hi;rw [e2];exact ⟨yu hk (by omega) (by omega),by omega⟩
theorem CC {l:List Region} (h:dX l) (split:Int) : jj l split l.length=dw l split 256:=by
 have hs : 0≤cd l l.length∧cd l l.length≤256:=by
  cases he:l.length with
  | zero=>simp [cd]
  | succ k =>
    have h0:=(h.2 k (by omega)).1;unfold Region.ok at h0;simp only [cd,dif_pos (show k<l.length by omega)];omega
 unfold jj;have:=qs (l:=l) (split:=split) (p:=(cd l l.length).toNat) (256-(cd l l.length).toNat) fun i hi=>nY (k:=l.length) h (Nat.le_refl _) (by omega) (fun hk=>absurd hk (Nat.lt_irrefl _))
 rw [← this];congr 1
 omega
structure nb (z:ab) : Prop where
 free:z.ag.length≤257
 types:z.Types.length≤32
 from_ : 0≤z.aw∧z.aw≤256
 jA : 0≤z.To∧z.To≤256
theorem Ag:nb .zero:=by constructor<;>simp [ab.zero]
theorem tB {z:ab} (h:nb z) (p:Int) : nb (ja z p):=by
 unfold ja;by_cases e:(bV z p 0).1=0
 ·obtain ⟨h1,h2,h3⟩:=iC z p 0;obtain ⟨h4,h5,_⟩:=h3 e;exact ⟨h1,h2,by rw [h4];exact h.from_,by rw [h5];exact h.jA⟩
 ·rw [tw e];exact Ag
theorem vj {f t:Int} (h:cw f t) : nb (eJ f t).2:=by
 rw [ep h];unfold cw at h;exact ⟨by simp,by simp;omega,by simp only;omega,by simp only;omega⟩
theorem yw {split:Int}:cw split 256↔cw 0 split:=by unfold cw;omega
theorem lM {l:List Region} {split:Int} (h:cw 0 split) : ∀ p,nb (dw l split p).1∧nb (dw l split p).2
 | 0=>⟨vj h,vj (yw.2 h)⟩
 | p+1=>by
   have ih:=lM (l:=l) h p;unfold dw;split
   ·split
    ·exact ⟨tB ih.1 _,ih.2⟩
    ·exact ⟨ih.1,tB ih.2 _⟩
   ·exact ih
def iL (split least cpus:Int) : Prop:=cw 0 split∧(0≤least∧least≤256)∧(1≤cpus∧cpus≤4)
instance (a b c:Int) : Decidable (iL a b c):=inferInstanceAs (Decidable (_∧_))
def kv (z:ab×ab) (least cpus:Int) : Heap:=⟨[z.1,z.2],[least,least],cpus,[],[]⟩
noncomputable def dP (l:List Region) (split least cpus:Int) : Int×Heap :=
 if da l then (if iL split least cpus then (0,kv (dw l split 256) least cpus) else (1,⟨[],[],0,[],[]⟩)) else (8,⟨[],[],0,[],[]⟩)
theorem ow {l:List Region} {a b c:Int} (h:da l=false) : dP l a b c=(8,⟨[],[],0,[],[]⟩):=by simp [dP,h]
theorem lN {l:List Region} {a b c:Int} (h:da l=true) (ha : ¬ iL a b c) : dP l a b c=(1,⟨[],[],0,[],[]⟩):=by simp [dP,h,ha]
theorem lO {l:List Region} {a b c:Int} (h:da l=true) (ha:iL a b c) : dP l a b c=(0,kv (dw l a 256) b c):=by simp [dP,h,ha]
open Go.RowKit
theorem dT.small {w:World} {lo:Nat} {r:bU} {z:ab} (h:dT w lo r z) (hs:nb z) : (r.ag.n+1)*24≤140737488355328∧r.Types.n*8≤140737488355328∧(-9223372036854775808≤r.aw∧r.aw≤9223372036854775807)∧(-9223372036854775808≤r.To∧r.To≤9223372036854775807):=by
 have e1:=h.free.sl.len;have e2:=h.types.sl.len;have e3:=h.from_;have e4:=h.jA;obtain ⟨h1,h2,h3,h4⟩:=hs;refine ⟨Nat.le_trans (Nat.mul_le_mul_right 24 (show r.ag.n+1≤258 by omega)) (by decide),by omega,by omega,by omega⟩
theorem EQ {w':World} {lo:Nat} {r:bU} {z:ab} (f s:Int) (h:dT w' lo r z) (hs:nb z) : bl Tryz.prog 135 [.agg (bG r).toArray,.int .i64 f,.int .i64 s] w' (oL w'.heap.size (kG z f s)):=by
 obtain ⟨h1,h2,h3,h4⟩:=h.small hs;exact Cz r z f s w' h.rd h1 h2 h3 h4
set_option maxHeartbeats 4000000 in
theorem ER (A:Option Addr) (n c:Nat) (l:List Region) (split least cpus:Int) (w:World) (hl:Sl w 2 gp A n l) (hn:n≤9223372036854775807) (Fp : -9223372036854775808≤split∧split≤9223372036854775807) :
 bl Tryz.prog 56 [.slice A n c,.int .i64 split,.int .i64 least,.int .i64 cpus] w (gE w.heap.size (dP l split least cpus)):=by
 refine aD Tryz.func56 rfl Tryz.ntmps56 rfl ?_;refine CW.seq (CW.region (SW.alloc rfl fun b8 w1 hw tm bX => ?_));have ks:=tm;obtain ⟨q,hq⟩ : ∃ q,da l=q:=⟨_,rfl⟩
 have c1:∀ w',Ext w w'→bl Tryz.prog 131 [.agg (kX A n c none 0 0).toArray] w' fun v _=>v = .int .i64 (if q then 0 else 8):=fun w' h=>by
  have:=ve A n c none 0 0 l [] w' (hl.ext h) (Sl.fj _ _ _ _) hn (by omega)
  have e:kY l []=q:=by
   have:da []=true:=iA ⟨by simp,fun i h=>by simp at h⟩
   simp [kY,this,hq]
  rwa [e] at this
 cases q
 ·simp only [Bool.false_eq_true,if_false] at c1;rw [ow hq];repeat' (first|refine Wy ?_|(refine SW.call rfl rfl (c1 _ hw) ?_;intro v w1 aa hv;subst hv;replace hw:=Ext.trans hw aa;replace bX:=bX.ext aa;clear aa))
  refine SW.ah bX rfl rfl rfl rfl (dt .zero) fun w5 ct hg => ?_
  replace hw:=hw.own ks hg;repeat' (first|refine Wy ?_|fail);exact ae.cA rfl rfl rfl ct rfl ⟨_,rfl,hw,gE.zero 8 _ _⟩
 ·simp only [if_true] at c1;have iO:=oH.1 hq;repeat' (first|refine Wy ?_|(refine SW.call rfl rfl (c1 _ hw) ?_;intro v w1 aa hv;subst hv;replace hw:=Ext.trans hw aa;replace bX:=bX.ext aa;clear aa))
  refine SW.call rfl rfl (sn 0 split _ (by omega) Fp) fun v w4 dz hv => ?_
  obtain ⟨o1,IL⟩ : ∃ o,eJ 0 split=o:=⟨_,rfl⟩;rw [IL] at hv;obtain ⟨u1,rfl,iy⟩:=hv;replace iy:=iy.low hw.size;(replace hw:=Ext.trans hw dz;replace bX:=bX.ext dz);clear c1;have Qz:=bX.lt;repeat' (first|refine Wy ?_|fail);refine SW.alloc rfl fun Fk w1 aa qN eA => ?_
  skip;refine SW.ah eA rfl rfl rfl rfl (cx u1) fun w2 kg hg => ?_
  have ao:=aa.own qN hg;have A6:w.heap.size≤Fk:=Nat.le_trans hw.size qN
  replace hw:=Ext.trans hw ao;replace bX:=bX.ext ao;replace iy:=iy.ext ao;replace eA:=kg;clear kg aa hg ao;have ES:b8≠Fk:=by omega
  repeat' (first|refine Wy ?_|fail);refine SW.call rfl rfl (sn split 256 _ Fp (by omega)) fun v w4 dz hv => ?_
  obtain ⟨o2,Jr⟩ : ∃ o,eJ split 256=o:=⟨_,rfl⟩;rw [Jr] at hv;obtain ⟨u2,rfl,kw⟩:=hv;replace kw:=kw.low hw.size;(replace hw:=Ext.trans hw dz;replace bX:=bX.ext dz;replace eA:=eA.ext dz;replace iy:=iy.ext dz);repeat' (first|refine Wy ?_|fail);have OO:=eA.lt;have QA:=bX.lt;refine SW.alloc rfl fun z9 w1 aa qR cV => ?_
  skip;refine SW.ah cV rfl rfl rfl rfl (cx u2) fun w2 m9 hg => ?_
  have ao:=aa.own qR hg;have va:w.heap.size≤z9:=Nat.le_trans hw.size qR
  replace hw:=Ext.trans hw ao;replace bX:=bX.ext ao;replace eA:=eA.ext ao;replace iy:=iy.ext ao;replace kw:=kw.ext ao;replace cV:=m9;clear m9 aa hg ao;have wB:Fk≠z9:=by omega
  have IM:b8≠z9:=by omega
  by_cases hz:cw 0 split
  ·have g1:o1.1=0:=by rw [← IL,ep hz]
   have g2:o2.1=0:=by rw [← Jr,ep (yw.2 hz)]
   rw [g1,g2];by_cases ha:iL split least cpus
   ·obtain ⟨_,⟨a1,a2⟩,a3,a4⟩:=id ha;obtain ⟨z1,z2,z3,z4,z5⟩:=id hz;rw [lO hq ha];have hA:=hl.base;have nP:=hl.len;repeat' (first|refine Wy ?_|fail);have i1:o1.2=(jj l split 0).1:=by rw [← IL];rfl
    have i2:o2.2=(jj l split 0).2:=by rw [← Jr];rfl
    rw [i1] at iy;rw [i2] at kw
    refine CW.loop (fun t:Nat×bU×bU=>[(1,.int .i64 split),(2,.int .i64 least),(3,.int .i64 cpus),(8,.pointer (some ⟨b8,0,none⟩)),(10,.pointer (some ⟨Fk,0,none⟩)),(12,.pointer (some ⟨z9,0,none⟩)),(55,.slice A n c),(56,.int .i64 (n:Int)),(57,.int .i64 (t.1:Int))])
     (fun t w'=>t.1≤n∧Ext w w'∧aT w' b8 41 (bW .zero)∧aT w' Fk 139 (bG t.2.1)∧aT w' z9 139 (bG t.2.2)∧dT w' w.heap.size t.2.1 (jj l split t.1).1∧dT w' w.heap.size t.2.2 (jj l split t.1).2) (fun t=>n-t.1) (0,u1,u2)
     ⟨rfl,rfl,rfl,rfl,rfl,rfl,rfl,rfl,rfl,trivial⟩ ⟨by omega,hw,bX,eA,cV,iy,kw⟩ ?_
    clear hw bX eA cV iy kw;rintro ⟨k,u1,u2⟩ w' ⟨hk,hw,bX,eA,cV,iy,kw⟩
    simp only at hk eA cV iy kw ⊢;have hm:=lM (l:=l) hz (cd l k).toNat;by_cases ey:k<n
    ·have eV:=hl.lt ey;have tv:=(iO.2 k eV).1;unfold Region.ok at tv;have HZ:=Af iO (split:=split) eV;obtain ⟨e1,Js⟩ : ∃ e,gG l[k] split=e:=⟨_,rfl⟩;have Nl:max 0 (min (l[k].aw+l[k].aY) split-l[k].aw)=e1:=Js
     have Mw : 0≤e1∧e1≤l[k].aY:=by omega
     rw [Js] at HZ;repeat' (first|refine Wy ?_|refine SW.st (aN hw rfl rfl ((hl.all ey))) rfl ?_)
     have R1:=eA.lt;have R2:=cV.lt;refine SW.alloc rfl fun uN w1 aa yb bJ => ?_
     skip;refine SW.ah bJ rfl rfl rfl rfl (fu.one (enc:=gp) _) fun w2 ka hg => ?_
     have ao:=aa.own yb hg;have Kp:w.heap.size≤uN:=Nat.le_trans hw.size yb
     replace hw:=Ext.trans hw ao;replace bX:=bX.ext ao;replace eA:=eA.ext ao;replace cV:=cV.ext ao;replace iy:=iy.ext ao;replace kw:=kw.ext ao;replace bJ:=ka;clear ka aa hg ao;have d10:Fk≠uN:=by omega
     have d12:z9≠uN:=by omega
     by_cases h2:e1<l[k].aY
     ·by_cases h1 : 0<e1
      case' pos =>
       repeat' (first|refine Wy ?_|refine SW.st (ax rfl (bJ.cell rfl)) rfl ?_|refine SW.st (ay rfl rfl ((fun _ _=>eA.cell))) rfl ?_|(refine SW.st (vG rfl rfl) rfl ?_)|(refine SW.st (vF rfl rfl) rfl ?_))
       rw [Nl];refine SW.call rfl rfl (EQ l[k].aw e1 iy hm.1) fun v w4 dz hv => ?_
       obtain ⟨u3,rfl,pK⟩:=hv;replace pK:=pK.low hw.size;(replace hw:=Ext.trans hw dz;replace bX:=bX.ext dz;replace eA:=eA.ext dz;replace cV:=cV.ext dz;replace bJ:=bJ.ext dz;replace iy:=iy.ext dz;replace kw:=kw.ext dz);repeat' (first|refine Wy ?_|fail);refine SW.ah eA rfl rfl rfl rfl (cx u3) fun w5 kg hg => ?_
       replace hw:=hw.own A6 hg;replace kw:=kw.cU eA hg rfl rfl;replace pK:=pK.cU eA hg rfl rfl;replace bX:=bX.grown hg (by simpa using ES);replace cV:=cV.grown hg (by simpa using Ne.symm wB);replace bJ:=bJ.grown hg (by simpa using Ne.symm d10);replace eA:=kg;clear kg hg iy;have iy:=pK;rw [tA h1] at iy;clear pK;repeat' (first|refine Wy ?_|fail)
      case' neg =>
       repeat' (first|refine Wy ?_|refine SW.st (ax rfl (bJ.cell rfl)) rfl ?_|(refine SW.st (vG rfl rfl) rfl ?_)|(refine SW.st (vF rfl rfl) rfl ?_))
       rw [Nl];have pK:=iy;clear iy;obtain ⟨u3,QB⟩ : ∃ u,u=u1:=⟨_,rfl⟩;rw [← QB] at pK eA;have iy:=pK;rw [yv (z:=(jj l split k).1) (f:=l[k].aw) h1] at iy;clear pK
      all_goals
       repeat' (first|refine Wy ?_|refine SW.st (ax rfl (bJ.cell rfl)) rfl ?_|refine SW.st (ay rfl rfl ((fun _ _=>cV.cell))) rfl ?_)
       refine SW.call rfl rfl (EQ (l[k].aw+e1) (l[k].aY-e1) kw hm.2) fun v w4 dz hv => ?_
       obtain ⟨u4,rfl,pK⟩:=hv;replace pK:=pK.low hw.size;(replace hw:=Ext.trans hw dz;replace bX:=bX.ext dz;replace eA:=eA.ext dz;replace cV:=cV.ext dz;replace bJ:=bJ.ext dz;replace iy:=iy.ext dz;replace kw:=kw.ext dz);repeat' (first|refine Wy ?_|fail);refine SW.ah cV rfl rfl rfl rfl (cx u4) fun w5 m9 hg => ?_
       replace hw:=hw.own va hg;replace iy:=iy.cU cV hg rfl rfl;replace pK:=pK.cU cV hg rfl rfl;replace bX:=bX.grown hg (by simpa using IM);replace eA:=eA.grown hg (by simpa using wB);replace cV:=m9;clear m9 hg kw;have kw:=pK;rw [tA (by omega)] at kw;clear pK;repeat' (first|refine Wy ?_|fail)
      all_goals
       refine ae.again (k+1,u3,u4) ⟨rfl,rfl,rfl,rfl,rfl,rfl,rfl,rfl,rfl,trivial⟩ (by simp only;omega) ⟨by simp only;omega,hw,bX,eA,cV,?_,?_⟩
       ·simp only;rw [HZ];exact iy
       ·simp only;rw [HZ];exact kw
     ·have h1 : 0<e1:=by omega
      repeat' (first|refine Wy ?_|refine SW.st (ax rfl (bJ.cell rfl)) rfl ?_|refine SW.st (ay rfl rfl ((fun _ _=>eA.cell))) rfl ?_|(refine SW.st (vG rfl rfl) rfl ?_)|(refine SW.st (vF rfl rfl) rfl ?_))
      rw [Nl];refine SW.call rfl rfl (EQ l[k].aw e1 iy hm.1) fun v w4 dz hv => ?_
      obtain ⟨u3,rfl,pK⟩:=hv;replace pK:=pK.low hw.size;(replace hw:=Ext.trans hw dz;replace bX:=bX.ext dz;replace eA:=eA.ext dz;replace cV:=cV.ext dz;replace bJ:=bJ.ext dz;replace iy:=iy.ext dz;replace kw:=kw.ext dz);repeat' (first|refine Wy ?_|fail);refine SW.ah eA rfl rfl rfl rfl (cx u3) fun w5 kg hg => ?_
      replace hw:=hw.own A6 hg;replace kw:=kw.cU eA hg rfl rfl;replace pK:=pK.cU eA hg rfl rfl;replace bX:=bX.grown hg (by simpa using ES);replace cV:=cV.grown hg (by simpa using Ne.symm wB);replace bJ:=bJ.grown hg (by simpa using Ne.symm d10);replace eA:=kg;clear kg hg iy;have iy:=pK;rw [tA h1] at iy;clear pK;repeat' (first|refine Wy ?_|fail);repeat' (first|refine Wy ?_|refine SW.st (ax rfl (bJ.cell rfl)) rfl ?_)
      have pK:=kw;clear kw;obtain ⟨u4,QC⟩ : ∃ u,u=u2:=⟨_,rfl⟩;rw [← QC] at pK cV;have kw:=pK;rw [yv (z:=(jj l split k).2) (f:=l[k].aw+e1) (s:=l[k].aY-e1) (by omega)] at kw;clear pK;refine ae.again (k+1,u3,u4) ⟨rfl,rfl,rfl,rfl,rfl,rfl,rfl,rfl,rfl,trivial⟩ (by simp only;omega) ⟨by simp only;omega,hw,bX,eA,cV,?_,?_⟩
      ·simp only;rw [HZ];exact iy
      ·simp only;rw [HZ];exact kw
    ·have ek:k=l.length:=by omega
     have KQ:=CC iO split;rw [← ek] at KQ;rw [KQ] at iy kw;repeat' (first|refine Wy ?_|refine SW.st (ay rfl rfl ((fun _ _=>eA.cell))) rfl ?_|refine SW.st (ay rfl rfl ((fun _ _=>cV.cell))) rfl ?_)
     refine SW.s9 (enc:=bG) u1 u2 rfl rfl rfl rfl rfl rfl fun g w2 qX MR hZ => ?_
     replace hZ:=hZ.low hw.size;(replace hw:=Ext.trans hw qX;replace bX:=bX.ext qX;replace iy:=iy.ext qX;replace kw:=kw.ext qX);repeat' (first|refine Wy ?_|fail);refine SW.s9 (enc:=bB) least least rfl rfl rfl rfl rfl rfl fun g' w3 oz QD hM => ?_
     replace hM:=hM.low hw.size;(replace hw:=Ext.trans hw oz;replace bX:=bX.ext oz;replace iy:=iy.ext oz;replace kw:=kw.ext oz;replace hZ:=hZ.ext oz);repeat' (first|refine Wy ?_|fail);refine SW.ah bX rfl rfl rfl rfl (dt ⟨⟨some ⟨g,0,none⟩,2,2⟩,⟨some ⟨g',0,none⟩,2,2⟩,cpus,.nil,.nil⟩) fun w5 ct hg => ?_
     replace hw:=hw.own ks hg;replace iy:=iy.cU bX hg rfl rfl;replace kw:=kw.cU bX hg rfl rfl;replace hZ:=hZ.grown hg (.inr (hZ.cu bX rfl));replace hM:=hM.grown hg (.inr (hM.cu bX rfl));repeat' (first|refine Wy ?_|fail);exact ae.cA rfl rfl rfl ct rfl ⟨_,rfl,hw,⟨⟨some ⟨g,0,none⟩,2,2⟩,⟨some ⟨g',0,none⟩,2,2⟩,cpus,.nil,.nil⟩,rfl,⟨rfl,hM,Own.fj _ _ _ _ _ _,⟨[u1,u2],⟨hZ,dV.two iy kw⟩⟩,⟨[],.nil _ _⟩⟩⟩
   ·rw [lN hq ha];have oA : ¬ ((0≤least∧least≤256)∧1≤cpus∧cpus≤4):=fun h=>ha ⟨hz,h⟩
    repeat' (first|refine Wy ?_|refine SW.en rfl rfl rfl (fun h => ?_) (fun h => ?_))
    all_goals try omega
    all_goals
     refine SW.ah bX rfl rfl rfl rfl (dt .zero) fun w5 ct hg => ?_
     replace hw:=hw.own ks hg;repeat' (first|refine Wy ?_|fail);exact ae.cA rfl rfl rfl ct rfl ⟨_,rfl,hw,gE.zero 1 _ _⟩
  ·have g1:o1.1=1:=by rw [← IL,jB hz]
   rw [g1,lN hq (fun h=>hz h.1)];repeat' (first|refine Wy ?_|fail);refine SW.ah bX rfl rfl rfl rfl (dt .zero) fun w5 ct hg => ?_
   replace hw:=hw.own ks hg;repeat' (first|refine Wy ?_|fail);exact ae.cA rfl rfl rfl ct rfl ⟨_,rfl,hw,gE.zero 1 _ _⟩
open Go.RowKit
theorem tC (l:List Region) (split least cpus:Int) : (dP l split least cpus).2.small:=by
 cases hq:da l
 ·rw [ow hq];constructor<;>simp
 ·by_cases ha:iL split least cpus
  ·rw [lO hq ha];obtain ⟨h1,h2⟩:=lM (l:=l) ha.1 256;constructor<;>simp [kv]
   exact ⟨⟨by have:=h1.free;omega,by have:=h1.types;omega⟩,by have:=h2.free;omega,by have:=h2.types;omega⟩
  ·rw [lN hq ha];constructor<;>simp
open Go.RowKit
inductive pu (s0:ak) : Nat→ak→Prop where
 | zero:pu s0 0 s0
 | succ {j:Nat} {s:ak} {u:ak×Int} (m:pu s0 j s) (h:lG s (jT (kP j)) (kP j) 1 u) : pu s0 (j+1) u.1
theorem ak.vk:ak.zero.g7:=⟨ak.lH,by simp [ak.zero,Heap.zero],by simp [ak.zero],by simp [ak.zero]⟩
theorem lG.g7 {s:ak} {n:ByteArray} {size align:Int} {u:ak×Int} (a:lG s n size align u) (hf:s.g7) (hn:n.size≤140737488351232) : u.1.g7:=by
 have yV:=a.small hf.small;cases a with
 | bad|form|range|dG|full=>exact ak.vk
 | @CZ i h DA jo ht hi hz ha =>
   refine ⟨yV,hf.bz,fun c hm => ?_,fun c hm => ?_⟩
   ·rcases List.mem_or_eq_of_mem_set hm with hm|rfl
    ·exact hf.bK c hm
    ·exact hf.bK s.ai[i] (List.getElem_mem hi)
   ·rcases List.mem_or_eq_of_mem_set hm with hm|rfl
    ·exact hf.names c hm
    ·intro m qp;simp only [ph] at qp;unfold aH at qp;simp only [List.mem_append,List.mem_singleton] at qp;rcases qp with (qp|rfl)|qp
     ·exact hf.names _ (List.getElem_mem hi) _ (List.mem_of_mem_take qp)
     ·exact hn
     ·exact hf.names _ (List.getElem_mem hi) _ (List.mem_of_mem_drop qp)
 | new h DA jo ht hz hc =>
   refine ⟨yV,hf.bz,fun c hm => ?_,fun c hm => ?_⟩
   ·rcases List.mem_append.1 hm with hm|hm
    ·exact hf.bK c hm
    ·simp only [List.mem_singleton] at hm;subst hm;simp [gy]
   ·rcases List.mem_append.1 hm with hm|hm
    ·exact hf.names c hm
    ·simp only [List.mem_singleton] at hm;subst hm;simpa [gy] using hn
theorem pu.g7 {s0:ak} {j:Nat} {s:ak} (x:pu s0 j s) : s0.g7→j≤6→s.g7:=by
 induction x with
 | zero=>exact fun h _=>h
 | succ m h ih=>exact fun hf hj=>h.g7 (ih hf (by omega)) (uY (by omega))
def Ah (h:Heap) : ak:=⟨List.replicate 4096 0,h,[]⟩
theorem ET {l:List Region} {split:Int} (h:cw 0 split) : ∀ z∈[(dw l split 256).1,(dw l split 256).2],kM z:=by
 obtain ⟨h1,h2⟩:=lM (l:=l) h 256;have a1:=h1.from_;have a2:=h1.jA;have a3:=h2.from_;have a4:=h2.jA
 refine Ge ⟨?_,?_⟩<;>(unfold kM;omega)
inductive gg (o:Int×List Region) (split least cpus:Int) : ak×Int→Prop where
 | IN (h:o.1≠0) : gg o split least cpus (.zero,o.1)
 | heap (h:o.1=0) (h2:(dP o.2 split least cpus).1≠0) : gg o split least cpus (.zero,(dP o.2 split least cpus).1)
 | made {t:ak} (h:o.1=0) (h2:(dP o.2 split least cpus).1=0) (m:pu (Ah (dP o.2 split least cpus).2) 6 t) : gg o split least cpus (t,0)
theorem vl {l:List Region} {split least cpus:Int} (h:(dP l split least cpus).1=0) : (Ah (dP l split least cpus).2).g7:=by
 have yV:=tC l split least cpus;refine ⟨⟨by unfold Ah;rw [List.length_replicate];omega,yV,Nat.zero_le _,fun c h=>absurd h List.not_mem_nil⟩,?_,fun c h=>absurd h List.not_mem_nil,fun c h=>absurd h List.not_mem_nil⟩;cases hq:da l
 ·rw [ow hq] at h;simp at h
 ·by_cases ha:iL split least cpus
  ·rw [lO hq ha];exact ET ha.1
  ·rw [lN hq ha] at h;simp at h
theorem gg.g7 {o:Int×List Region} {split least cpus:Int} {u:ak×Int} (a:gg o split least cpus u) : u.1.g7:=by
 cases a with
 | IN|heap=>exact ak.vk
 | made h h2 m=>exact m.g7 (vl h2) (by omega)
theorem yx (N:Nat) (x y:List Region) : (gF N x y).2.length≤N:=by
 cases h:kY x y
 ·rw [vf h];exact Nat.zero_le _
 ·rw [qq h];exact (oR _ _).len
open Go.RowKit
set_option maxHeartbeats 4000000 in
theorem nK (A:Option Addr) (n c lo:Nat) (l:List ByteArray) (w:World) (hO:Own w lo 9 1 encStr A n c l) (i:Nat) (hi:i≤n) (x:ByteArray) (b:Nat) (hB:aT w b 9 (encStr x)) (cr:aG A c≠some b) (hn:(n+1)*16≤140737488355328) (gQ:lo≤w.heap.size) :
 jr Tryz.prog 140 [.slice A n c,.int .i64 (i:Int),.slice (some ⟨b,0,none⟩) 1 1] w fun v w' => ∃ A' c',v = .slice A' (n+1) c'∧Own w' lo 9 1 encStr A' (n+1) c' (aH l i x)∧w.grownBy w' (aG A c) ∧ ∀ k,aG A' c'=some k→aG A c=some k∨w.heap.size≤k:=by
 refine eG Tryz.func140 rfl Tryz.ntmps140 rfl ?_;have hle:=hO.le;have nP:=hO.len;have hA:=hO.sl.base;have hw:=Ext.refl w;have j0:Sl w 1 encStr (some ⟨b,0,none⟩) 1 [x]:=aT.wU hB
 have mF:(encStr x).length=1:=rfl
 have nR:∀ q:List ByteArray,(q.flatMap encStr).length=q.length*1:=fun q=>aE q
 have lZ:∀ (q:List ByteArray) (v:Value),v∈q.flatMap encStr→v.oneCell'=true:=fun q v hv=>by
  obtain ⟨u,_,hu⟩:=List.mem_flatMap.1 hv;exact fu.one (enc:=encStr) u v hu
 by_cases gR:i=n
 ·subst gR;repeat' (first|refine Wz ?_|(refine SW.st (aP (k:=i) rfl rfl (by omega) (by omega)) rfl ?_))
  all_goals try omega
  refine SW.wq hO j0 gQ (by omega) rfl rfl rfl (by omega) (by omega) fun A2 c2 w2 uQ => ?_
  have DT:Own w2 lo 9 1 encStr A2 (i+1) c2 (l++[x])∧w.grownBy w2 (aG A c) ∧ ∀ k,aG A2 c2=some k→aG A c=some k∨w.heap.size≤k:=by
   rcases uQ with ⟨rfl,rfl,h1,h2⟩|⟨h1,h2⟩
   ·exact ⟨h1,h2,fun k e => .inl e⟩
   ·exact ⟨h1.low gQ,(aJ (Ext.refl w) h2 (Nat.le_refl _) (fun k e=>by cases e)).gr _,fun k e => .inr (h1.ba k e)⟩
  obtain ⟨cm,hg,l8⟩:=DT;refine Wz ?_;refine ae.aI rfl rfl ⟨_,rfl,A2,c2,rfl,?_,hg,l8⟩;have e:aH l i x=l++[x]:=by unfold aH;rw [List.take_of_length_le (by omega),List.drop_eq_nil_of_le (by omega)];simp
  rw [e];exact cm
 ·by_cases iQ:n+1≤c
  ·obtain ⟨g,rest,rfl,h1,h2,h3,h4,h5,h6⟩:=hO.opened (by omega);have AN:g≠b:=fun e=>cr (by rw [h6,e])
   have es:l.flatMap encStr++rest=(l.take i).flatMap encStr++((l.drop i).flatMap encStr++rest):=by rw [← List.append_assoc,← List.flatMap_append,List.take_append_drop]
   have e1:((l.take i).flatMap encStr).length=i*1:=by rw [nR];simp;omega
   have e2:((l.drop i).flatMap encStr).length=(n-i)*1:=by rw [nR];simp [nP]
   have lp:=hO.sl.drop i c (by omega) (by omega);rw [if_neg (by omega)] at lp;rw [es] at h2
   have Dn:∀ w',Ext w w'→(Extern.SlicesOverlaps.overlaps #[61,61] #[4] #[.slice (some ⟨b,0,none⟩) 1 1,.slice (if c=i+1 then (some ⟨g,0,none⟩) else (some (⟨g,0,none⟩ : Addr)).map (·.add ((i+1)*1))) (n+1-(i+1)) (c-(i+1))]).run Tryz.prog w' = .ok (.bool false) w':=fun w' hx=>by
    rw [if_neg (by omega),Option.map_some,cn];have b1:=hB.ext hx;have b2:=h2.ext hx;unfold aT at b1 b2
    exact Lib.run_overlaps_apart w' 61 4 9 (aX.kz (t:=61)) 1 (fun w0=>run_sizeOf (aX.size (t:=61)) w0) ⟨b,0,none⟩ ⟨g,(i+1)*1,none⟩ 1 1 _ _ (fun e=>AN e.symm) 9 9 (encStr x).toArray.size ((l.take i).flatMap encStr++((l.drop i).flatMap encStr++rest)).toArray.size
     (by simp only [World.shape?,b1]) (by simp only [World.shape?,b2]) (by simp [e1,e2];omega) (by simp [World.frozen?,b1]) (by simp [World.frozen?,b1])
   repeat' (first|refine Wz ?_|(refine CW.eX rfl ?_)|(refine SW.st (aP (k:=i) rfl rfl (by omega) (by omega)) rfl ?_)|(refine SW.st (cG (k:=n+1) rfl rfl (by omega)) rfl ?_)|(refine SW.st (aP (k:=i+1) rfl rfl (by omega) (by omega)) rfl ?_)|(refine SW.entry Tryz.func207 (by kernel_rfl) (by kernel_rfl) (by kernel_rfl) (e:=Extern.SlicesOverlaps.overlaps #[61,61] #[4]) (by kernel_rfl) rfl rfl (Dn _ hw) ?_))
   all_goals try omega
   have qW:((n-i)+1)*1≤((l.drop i).flatMap encStr++rest).length:=by rw [List.length_append,e2];omega
   have e4:(l.drop i).flatMap encStr++rest=((l.drop i).flatMap encStr++rest).take 1++(((l.drop i).flatMap encStr++rest).drop 1).take ((n-i)*1)++((l.drop i).flatMap encStr++rest).drop (1+(n-i)*1):=by
    rw [List.append_assoc,← List.drop_drop,List.take_append_drop,List.take_append_drop]
   generalize Dp:((l.drop i).flatMap encStr++rest).take 1=D1 at e4
   generalize Dq:(((l.drop i).flatMap encStr++rest).drop 1).take ((n-i)*1)=D2 at e4
   generalize Dr:((l.drop i).flatMap encStr++rest).drop (1+(n-i)*1)=D3 at e4
   have f1:D1.length=1:=by rw [← Dp];simp only [List.length_take];omega
   have f2:D2.length=(n-i)*1:=by rw [← Dq];simp only [List.length_take,List.length_drop];omega
   have f3:D3.length+1=rest.length:=by rw [← Dr];simp only [List.length_drop,List.length_append,e2];omega
   rw [e4] at h2;refine CW.any 8 mixed (dq (by kernel_rfl)) rfl fun w1 aa bm => ?_
   replace hw:=Ext.trans hw aa;replace hO:=hO.ext aa;replace hB:=hB.ext aa;replace h2:=h2.ext aa;clear aa;refine Wa ?_;refine SA.take 4 bm rfl (by kernel_rfl) (by kernel_rfl) rfl ?_;repeat ((refine SW.st (aP (k:=i+1) rfl rfl (by omega) (by omega)) rfl ?_))
   refine SW.ar ?_;refine Wa ?_;refine SA.take 7 bm rfl (by kernel_rfl) (by kernel_rfl) rfl ?_;repeat ((refine SW.st (aP (k:=i) rfl rfl (by omega) (by omega)) rfl ?_))
   refine SW.ar ?_;refine SA.done (by kernel_rfl) ?_;refine SW.copy (k:=n-i) ((i+1)*1) ((l.drop i).flatMap encStr) h2 rfl rfl rfl (by omega) e2 (by simp only [List.length_append,e1,e2,f1,f2];omega) (fun h0=>⟨by rw [if_neg (by omega)];simp [cn],(⟨g,0,none⟩ : Addr).add (i*1),by rw [if_neg (by omega)];rfl,fun j v hv=>cg (by omega) (lp.ext hw) j v hv⟩) (lZ _) fun w3 ml oz => ?_
   have g1:=eE ((l.take i).flatMap encStr++D1) D2 D3 ((l.drop i).flatMap encStr) (by rw [e2,f2]) (o:=(i+1)*1) (by rw [List.length_append,e1,f1];omega);have g0:(l.take i).flatMap encStr++(D1++D2++D3)=(l.take i).flatMap encStr++D1++D2++D3:=by simp only [List.append_assoc]
   rw [g0,g1] at ml;have FH:=bR (hw.gr (aG (some ⟨g,0,none⟩) c)) oz (.inl h6.symm);have JK:=hB.grown oz (by simpa using fun e=>AN e.symm);repeat' (first|refine Wz ?_|(refine SW.st (aP (k:=i) rfl rfl (by omega) (by omega)) rfl ?_))
   refine SW.copy (k:=1) (i*1) (encStr x) ml rfl rfl rfl (by omega) mF (by simp only [List.length_append,e1,e2,f1,mF];omega) (fun h0=>⟨by rw [if_neg (by omega)];simp [cn],⟨b,0,none⟩,rfl,fun j v hv=>JK.cell hv⟩) (fu.one (enc:=encStr) x) fun w4 mG vD => ?_
   have g2:=eE ((l.take i).flatMap encStr) D1 ((l.drop i).flatMap encStr++D3) (encStr x) (by rw [mF,f1]) (o:=i*1) e1.symm;have g3:(l.take i).flatMap encStr++D1++(l.drop i).flatMap encStr++D3=(l.take i).flatMap encStr++D1++((l.drop i).flatMap encStr++D3):=by simp only [List.append_assoc]
   have g4:(l.take i).flatMap encStr++encStr x++((l.drop i).flatMap encStr++D3)=(aH l i x).flatMap encStr++D3:=by unfold aH;simp only [List.flatMap_append,List.flatMap_cons,List.flatMap_nil,List.append_nil,List.append_assoc]
   rw [g3,g2,g4] at mG;have Bz:=Own.closed (n:=n+1) (c:=c) (l:=aH l i x) (by unfold aH;simp;omega) mG (by omega) iQ (by omega) h5 h1;have Ds:=bR FH vD (.inl h6.symm);refine Wz ?_;exact ae.aI rfl rfl ⟨_,rfl,_,_,rfl,Bz,Ds,fun k e => .inl e⟩
  ·have Li:c=n:=by omega
   have lp:=hO.sl.drop i c (by omega) (by omega);have xj:=hO.sl.pre (i:=i) (by omega);repeat' (first|refine Wz ?_|(refine SW.st (aP (k:=i) rfl rfl (by omega) (by omega)) rfl ?_)|(refine SW.st (cG (k:=i) rfl rfl (by omega)) rfl ?_))
   all_goals try omega
   refine SW.vP (k:=n+1-i) xj Tryz.underlying3 rfl rfl (by omega) rfl (by omega) (by omega) (by omega) (by omega) fun g rest c2 w2 bo qX h2 h3 h4 h5 => ?_
   have e1:((l.take i).flatMap encStr).length=i*1:=by rw [nR];simp;omega
   have e2:((l.drop i).flatMap encStr).length=(n-i)*1:=by rw [nR];simp [nP]
   have qW:((n-i)+1)*1≤rest.length:=by omega
   have e4:rest=rest.take 1++(rest.drop 1).take ((n-i)*1)++rest.drop (1+(n-i)*1):=by
    rw [List.append_assoc,← List.drop_drop,List.take_append_drop,List.take_append_drop]
   generalize Dp:rest.take 1=D1 at e4
   generalize Dq:(rest.drop 1).take ((n-i)*1)=D2 at e4
   generalize Dr:rest.drop (1+(n-i)*1)=D3 at e4
   have f1:D1.length=1:=by rw [← Dp];simp only [List.length_take];omega
   have f2:D2.length=(n-i)*1:=by rw [← Dq];simp only [List.length_take,List.length_drop];omega
   have f3:D3.length+((n-i)+1)*1=rest.length:=by rw [← Dr];simp only [List.length_drop];omega
   rw [e4] at h2;have fQ:aG A c≠some g:=fun e=>by have:=hO.lt_size _ e;omega
   have AN:b≠g:=by have:=hB.lt;omega
   replace lp:=lp.ext bo;replace hB:=hB.ext bo;replace hw:=Ext.trans hw bo;repeat' (first|refine Wz ?_|(refine SW.st (aP (k:=i) rfl rfl (by omega) (by omega)) rfl ?_))
   refine SW.copy (k:=1) (i*1) (encStr x) h2 rfl rfl rfl (by omega) mF (by simp only [List.length_append,e1,f1,f2,mF];omega) (fun h0=>⟨by rw [if_neg (by omega)];simp [cn],⟨b,0,none⟩,rfl,fun j v hv=>hB.cell hv⟩) (fu.one (enc:=encStr) x) fun w3 ml oz => ?_
   have g2:=eE ((l.take i).flatMap encStr) D1 (D2++D3) (encStr x) (by rw [mF,f1]) (o:=i*1) e1.symm;have g3:(l.take i).flatMap encStr++(D1++D2++D3)=(l.take i).flatMap encStr++D1++(D2++D3):=by simp only [List.append_assoc]
   rw [g3,g2] at ml;have GJ:Ext w w3:=hw.own qX oz
   have j7:Sl w3 1 encStr (if c=i then A else A.map (·.add (i*1))) (n-i) (l.drop i):=(hO.sl.drop i c (by omega) (by omega)).ext GJ
   replace hw:=GJ;refine Wz ?_;refine CW.any 8 mixed (dq (by kernel_rfl)) rfl fun w1 aa bm => ?_
   replace hw:=Ext.trans hw aa;replace ml:=ml.ext aa;replace j7:=j7.ext aa;clear aa;refine Wa ?_;refine SA.take 4 bm rfl (by kernel_rfl) (by kernel_rfl) rfl ?_;repeat ((refine SW.st (aP (k:=i+1) rfl rfl (by omega) (by omega)) rfl ?_))
   refine SW.ar ?_;refine Wa ?_;refine SA.take 7 bm rfl (by kernel_rfl) (by kernel_rfl) rfl ?_;repeat ((refine SW.st (aP (k:=i) rfl rfl (by omega) (by omega)) rfl ?_))
   refine SW.ar ?_;refine SA.done (by kernel_rfl) ?_;refine SW.copy (k:=n-i) ((i+1)*1) ((l.drop i).flatMap encStr) ml rfl rfl rfl (by omega) e2 (by simp only [List.length_append,e1,e2,f2,mF];omega) (fun h0=>⟨by rw [if_neg (by omega)];simp [cn],(if c=i then A else A.map (·.add (i*1))).getD default,?_,fun j v hv=>cg (by omega) j7 j v hv⟩) (lZ _) fun w4 mG vD => ?_
   ·obtain ⟨a,ha⟩:=Option.isSome_iff_exists.1 (j7.base h0);rw [ha];rfl
   ·have g4:=eE ((l.take i).flatMap encStr++encStr x) D2 D3 ((l.drop i).flatMap encStr) (by rw [e2,f2]) (o:=(i+1)*1) (by rw [List.length_append,e1,mF];omega);have g5:(l.take i).flatMap encStr++encStr x++(D2++D3)=(l.take i).flatMap encStr++encStr x++D2++D3:=by simp only [List.append_assoc]
    have g6:(l.take i).flatMap encStr++encStr x++(l.drop i).flatMap encStr++D3=(aH l i x).flatMap encStr++D3:=by unfold aH;simp only [List.flatMap_append,List.flatMap_cons,List.flatMap_nil,List.append_nil,List.append_assoc]
    rw [g5,g4,g6] at mG;have Bz:=Own.closed (n:=n+1) (c:=c2) (lo:=lo) (l:=aH l i x) (by unfold aH;simp;omega) mG (by omega) (by omega) (by omega) h5 (by omega);have dz:Ext w w4:=hw.own qX vD
    have e9:i+(n+1-i)=n+1:=by omega
    refine Wz ?_;rw [e9]
    exact ae.aI rfl rfl ⟨_,rfl,_,_,rfl,Bz,dz.gr _,fun k e => .inr (by
     have:k=g:=by
      unfold aG at e;split at e
      ·cases e
      ·simpa using e.symm
     omega)⟩
open Go.RowKit
section
variable {P:Program} {L:Env} {w:World} {d:Option Nat} {T:TypeId} {pos:String} {af:Array Edge} {g:Option (Nat×Bool)}
def IP (a:Int) : Int:=((a.toNat &&& (a-1).toNat:Nat) : Int)
theorem rQ {t ty:TypeId} {x y:Operand} {a:Int} (hx:bF L x=some (.int .i64 a)) (hy:bF L y=some (.int .i64 (a-1))) (h : 1≤a∧a≤8) : St P ⟨d,.binOp .and t x y ty,T,pos,af,g⟩ L w (.int .i64 (IP a)) :=
 Bh a.toNat (a-1).toNat hx hy (by omega) (by omega) (by omega) (by omega)
end
theorem Gn {a:Int} (h : 1≤a∧a≤8) : IP a=0↔fL a:=by
 rcases (show a=1∨a=2∨a=3∨a=4∨a=5∨a=6∨a=7∨a=8 by omega) with rfl|rfl|rfl|rfl|rfl|rfl|rfl|rfl<;>unfold fL<;>decide
theorem yy {α:Type} {p : α → Bool} {l:List α} (h:l.any p=true) : ∃ (i:Nat) (hi:i<l.length),p l[i]=true∧(∀ (j:Nat) (hj:j<l.length),j<i→p l[j]=false)∧idxOf p l=(i:Int):=by
 have h1:l.findIdx p<l.length:=List.findIdx_lt_length_of_exists (by simpa using h)
 exact ⟨l.findIdx p,h1,List.findIdx_getElem (w:=h1),fun j hj j5=>by simpa using List.not_of_lt_findIdx j5,by unfold idxOf;rw [if_pos h]⟩
theorem EU {a b:fD} (h:apart a b∨apart b a) : aG b.A b.c=none∨aG b.A b.c≠aG a.A a.c:=by
 cases e:aG b.A b.c with
 | none=>exact .inl rfl
 | some g =>
   right;intro e2;rcases h with h|h
   ·exact h g e2.symm e
   ·exact h g e e2.symm
theorem rj.ne {x:fD} {cs:List dL} (h:rj x cs) {i j:Nat} (hi:i<cs.length) (hj:j<cs.length) (j1:j≠i) : tc cs[i] cs[j]∨tc cs[j] cs[i]:=by
 have hp:=List.pairwise_iff_getElem.1 h.pair;rcases Nat.lt_or_ge i j with g|g
 ·exact .inl (hp i j hi hj g)
 ·exact .inr (hp j i hj hi (by omega))
theorem CD (x:dL) (b3:Nat) (z:Int) (w:World) (h3:aT w b3 3 [.int .i64 z]) :
 bl Tryz.prog 138 ([.agg (fG x).toArray]++[.pointer (some ⟨b3,0,none⟩)]) w fun v _=>v = .bool (decide (x.aY=z)):=by
 refine aD Tryz.func138 rfl Tryz.ntmps138 rfl ?_;refine CW.seq (CW.region (SW.box rfl rfl fun b1 w1 hw gX aB => ?_));replace h3:=h3.ext hw;have GW:=h3.cell (i:=0) (v := .int .i64 z) rfl;rw [add_zero] at GW;repeat' (first|refine Wz ?_|refine SW.st (ax rfl GW) rfl ?_)
 exact ae.aI rfl rfl ⟨_,rfl,hw,rfl⟩
set_option maxHeartbeats 8000000 in
theorem Ai (r:ik) (s:ak) (n:ByteArray) (size align:Int) (w:World) (hr:DN w r s) (hf:s.g7) (QE:n.size≤140737488351232) :
 bl Tryz.prog 58 [.agg (bq r).toArray,.string n,.int .i64 size,.int .i64 align] w fun v w' => ∃ u,lG s n size align u∧jS w.heap.size u v w':=by
 refine aD Tryz.func58 rfl Tryz.ntmps58 rfl ?_;have hs:=hf.small;refine CW.seq (CW.region (SW.box rfl rfl fun b4 w1 hw je aQ => ?_));have fZ:=je;refine SW.Dg rfl rfl rfl fun b6 w2 bo fk az => ?_
 have dU:w.heap.size≤b6:=Nat.le_trans hw.size fk
 (replace hw:=Ext.trans hw bo;replace aQ:=aQ.ext bo);refine SW.alloc rfl fun b8 w3 iN tm bX => ?_
 have ks:w.heap.size≤b8:=Nat.le_trans hw.size tm
 have tp:b4≠b8:=by have:=aQ.lt;omega
 (replace hw:=Ext.trans hw iN;replace aQ:=aQ.ext iN;replace az:=az.ext iN)
 have Ch:∀ (w':World) (z:Int),aT w' b6 3 [.int .i64 z]→w'.cell? ⟨b6,0,none⟩=some (.int .i64 z):=fun w' z h=>by
  have:=h.cell (i:=0) (v := .int .i64 z) rfl
  rwa [add_zero] at this
 obtain ⟨q,hq⟩ : ∃ q,fA s=q:=⟨_,rfl⟩
 have c1:∀ w',Ext w w'→bl Tryz.prog 41 [.agg (bq r).toArray] w' fun v _=>v = .int .i64 (if q then 0 else 8):=fun w' hx=>by
  have:=zK r s w' (hr.ext hx) hf
  rwa [hq] at this
 cases q
 ·simp only [Bool.false_eq_true,if_false] at c1;repeat' (first|refine Wz ?_|(refine SW.call rfl rfl (c1 _ hw) ?_;intro v w1 aa hv;subst hv;replace hw:=Ext.trans hw aa;replace aQ:=aQ.ext aa;replace bX:=bX.ext aa;clear aa))
  refine SW.ah bX rfl rfl rfl rfl (cq .zero) fun w5 ct hg => ?_
  replace hw:=hw.own ks hg;refine Wz ?_;exact ae.cA rfl rfl rfl ct rfl ⟨_,rfl,hw,_,.bad hq,jS.zero 8 _ _⟩
 ·simp only [if_true] at c1;have hM:=sR.1 hq;obtain ⟨p,hp⟩ : ∃ p,eR n=p:=⟨_,rfl⟩
  have c2:∀ w',bl Tryz.prog 92 [.string n] w' fun v _=>v = .bool p:=fun w'=>by
   have:=xw n w' QE
   rwa [hp] at this
  obtain ⟨gv,KR⟩ : ∃ gv,IP align=gv:=⟨_,rfl⟩;have KQ : 1≤align∧align≤8→(gv=0↔fL align):=fun h=>by rw [← KR];exact Gn h
  by_cases Fq:p=true∧fL align
  ·obtain ⟨rfl,Fq⟩:=Fq;have Nm:=Fq;unfold fL at Nm;have Dm:gv=0:=(KQ (by omega)).2 Fq
   have IQ:eR n=true∧fL align:=⟨hp,Fq⟩
   by_cases qW : 1≤size∧size≤64
   ·obtain ⟨t,ht⟩ : ∃ t,s.ai.any (kq n)=t:=⟨_,rfl⟩;obtain ⟨ix,BL⟩ : ∃ ix,idxOf (kq n) s.ai=ix:=⟨_,rfl⟩
    have c3:∀ w',Ext w w'→bl Tryz.prog 136 [.agg (bq r).toArray,.string n] w' fun v _=>v = .tuple #[.int .i64 ix,.bool t]:=fun w' hx=>by
     have:=B9 r s n w' (hr.ext hx) hs
     rwa [ht,BL] at this
    have hu:=F7 Fq qW;have Nn:pf size align=(size+align-1) / align*align:=rfl
    rw [Nn] at hu;cases t
    ·repeat' (first|refine Wz ?_|(refine CW.eY rfl ?_)|refine SW.want rfl rfl ?_|refine SW.st (ax rfl (Ch _ _ az)) rfl ?_|((first|refine SW.call rfl rfl (c1 _ hw) ?_|refine SW.call rfl rfl (c2 _) ?_|refine SW.call rfl rfl (c3 _ hw) ?_);intro v w1 aa hv;subst hv;replace hw:=Ext.trans hw aa;replace aQ:=aQ.ext aa;replace az:=az.ext aa;replace bX:=bX.ext aa;clear aa)|(refine SW.st ((rQ rfl rfl (by omega)).eq (congrArg (Value.int .i64) KR)) rfl ?_))
     all_goals try omega
     clear c1 c2 c3;refine SW.bp (i:=0) az rfl rfl rfl rfl fun w5 de hg => ?_
     have hG:=az.gr hg;replace hw:=hw.own dU hg;(replace aQ:=aQ.au hG rfl;replace bX:=bX.au hG rfl);obtain ⟨z,hz⟩ : ∃ z,pf size align=z:=⟨_,rfl⟩;replace az:aT w5 b6 3 [.int .i64 z]:=by rw [← hz,Nn];exact de
     clear de hg hG;have wi : 1≤z∧z≤64:=by rw [← hz,Nn];omega
     clear hu;refine Wz ?_;refine SW.call rfl rfl (zS r s _ (hr.ext hw) hs) fun v w6 ao hv => ?_
     obtain ⟨q,zr,rfl,hO⟩:=hv;replace hO:=hO.low hw.size;(replace hw:=Ext.trans hw ao;replace aQ:=aQ.ext ao;replace az:=az.ext ao;replace bX:=bX.ext ao);obtain ⟨hX,hY,hC,rc⟩:=hO;skip;refine SW.ah aQ rfl rfl rfl rfl (cq q) fun w7 eW hg => ?_
     have hG:=aQ.gr hg;replace hw:=hw.own fZ hg;replace bX:=bX.grown hg (by simpa using fun e=>tp e.symm);(replace az:=az.au hG rfl;replace hX:=hX.au hG rfl;replace hY:=hY.au hG rfl;replace hC:=hC.au hG rfl);replace aQ:=eW;clear eW hg hG;obtain ⟨z1,z2⟩:=hC.rd.len;have m3:=hs.ck
     have xW:=mX (p:=fun x:dL=>decide (x.aY=z)) (q:=s8 z) (l:=zr) (m:=s.ai) (by omega) fun k h1 h2=>by
      have:=(hC.each.get k h1 h2).size
      simp only [s8,this]
     repeat' (first|refine Wz ?_|(refine SW.st (g9 (vs:=[.pointer (some ⟨b6,0,none⟩)]) rfl) rfl ?_))
     refine SW.call rfl rfl (il _ _ _ _ _ hC.row.sl _ [.pointer (some ⟨b6,0,none⟩)] (fun x=>decide (x.aY=z)) (fun x => .agg (fG x).toArray) (fun x=>rfl) (fun x hx w1 j0=>CD x b6 z w1 (az.ext j0)) (by omega)) fun v w8 ao hv => ?_
     subst hv;rw [xW.1];(replace hw:=Ext.trans hw ao;replace aQ:=aQ.ext ao;replace az:=az.ext ao;replace bX:=bX.ext ao;replace hX:=hX.ext ao;replace hY:=hY.ext ao;replace hC:=hC.ext ao);cases ga:s.ai.any (s8 z)
     ·obtain ⟨hI,_⟩:=iB (p:=s8 z) (l:=s.ai) (fun j hj=>by
       have:=List.any_eq_false.1 ga _ (List.getElem_mem hj)
       simpa using this)
      rw [hI]
      have nD:∀ (j:Nat) (hj:j<s.ai.length),s.ai[j].aY≠z:=fun j hj=>by
       have:=List.any_eq_false.1 ga _ (List.getElem_mem hj)
       simpa [s8] using this
      by_cases QF:s.ai.length=20
      ·refine Wz ?_;refine SW.ah bX rfl rfl rfl rfl (cq .zero) fun w5 ct hg => ?_
       replace hw:=hw.own ks hg;refine Wz ?_;exact ae.cA rfl rfl rfl ct rfl ⟨_,rfl,hw,_,.full hq IQ qW ht (by rw [hz];exact nD) QF,jS.zero 9 _ _⟩
      ·have QG:s.ai.length<20:=by
        have:=hM.most
        omega
       obtain ⟨o,qI,e,Np⟩ : ∃ o qI e,dj z=(o,qI,e):=⟨_,_,_,rfl⟩;have cL:∀ w',bl Tryz.prog 141 [.int .i64 z] w' fun v _=>v = .tuple #[.int .i64 o,.int .i64 qI,.int .i64 e]:=fun w'=>uT (sE z w') Np
       have CV:=hM.heap.cpus;have eC:=hY.cpus;repeat' (first|refine Wz ?_|refine SW.st (ax rfl (Ch _ _ az)) rfl ?_|(refine SW.call rfl rfl (cL _) ?_;intro v w1 aa hv;subst hv;replace hw:=Ext.trans hw aa;replace aQ:=aQ.ext aa;replace az:=az.ext aa;replace bX:=bX.ext aa;replace hX:=hX.ext aa;replace hY:=hY.ext aa;replace hC:=hC.ext aa;clear aa))
       clear cL;refine SW.dJ (vs:=[.string n]) rfl rfl rfl rfl rfl fun bn w9 ao OP Nq => ?_
       have Nr:w.heap.size≤bn:=Nat.le_trans hw.size OP
       (replace hw:=Ext.trans hw ao;replace aQ:=aQ.ext ao;replace az:=az.ext ao;replace bX:=bX.ext ao;replace hX:=hX.ext ao;replace hY:=hY.ext ao;replace hC:=hC.ext ao);have hN:Own w9 w.heap.size 9 1 encStr (some ⟨bn,0,none⟩) 1 1 [n]:=Own.closed (rest:=[]) rfl Nq rfl (by omega) (by omega) (by simp [maxLen]) Nr
       repeat' (first|refine Wz ?_|refine SW.st (ax rfl (Ch _ _ az)) rfl ?_)
       have Ns:Ext w w9:=hw
       refine SW.alloc rfl fun LF Jp Nt yA nL => ?_
       skip;refine SW.ah nL rfl rfl rfl rfl (AV ⟨⟨some ⟨bn,0,none⟩,1,1⟩,z,qI,o,.nil,.nil⟩) fun Cu tD hg => ?_
       replace hw:=Nt.own yA hg;replace nL:=tD;clear tD hg;repeat' (first|refine Wz ?_|refine SW.st (aM hw rfl (aQ.cell (i:=3) (v := .int .i64 q.Heap.bt) rfl)) rfl ?_)
       obtain ⟨C,QH⟩:=Int.eq_ofNat_of_zero_le (show 0≤q.Heap.bt by omega);rw [QH]
       refine CW.loop (fun t:Nat×Option Addr×Nat=>[(4,.pointer (some ⟨b4,0,none⟩)),(8,.pointer (some ⟨b8,0,none⟩)),(20,.pointer (some ⟨LF,0,none⟩)),(121,.int .i64 (C:Int)),(122,.int .i64 (t.1:Int))])
        (fun t w'=>t.1≤C∧Ext w9 w'∧aT w' LF 89 (fG ⟨⟨some ⟨bn,0,none⟩,1,1⟩,z,qI,o,.nil,⟨t.2.1,t.1,t.2.2⟩⟩)∧Own w' w9.heap.size 3 1 bB t.2.1 t.1 t.2.2 (List.replicate t.1 (-1))) (fun t=>C-t.1) (0,none,0)
        ⟨rfl,rfl,rfl,rfl,rfl,trivial⟩ ⟨by omega,hw,nL,Own.fj _ _ _ _ _ _⟩ ?_
       clear hw nL;rintro ⟨k,A,c⟩ C1 ⟨hk,hw,nL,hA⟩
       simp only at hk nL hA ⊢;by_cases R3:k<C
       ·refine Wz ?_;refine SW.dJ rfl rfl rfl rfl rfl fun b w1 ao hb hB => ?_
        (replace hw:=Ext.trans hw ao;replace nL:=nL.ext ao;replace hA:=hA.ext ao);refine SW.append hA (aT.wU (enc:=bB) hB) hw.size rfl rfl rfl (by omega) (by omega) fun A2 c2 w5 mn hg => ?_
        have hG:=hA.gr hg;replace hw:=aJ hw hg (Nat.le_refl _) hA.ba;(replace nL:=nL.au hG rfl);refine Wz ?_;refine SW.bp (i:=5) nL rfl rfl rfl rfl fun w6 tD hg => ?_
        have hG:=nL.gr hg;replace hw:=hw.own yA hg;(replace mn:=mn.au hG rfl);refine Wz ?_;refine ae.again (k+1,A2,c2) ⟨rfl,rfl,rfl,rfl,rfl,trivial⟩ (by simp only;omega) ⟨by simp only;omega,hw,tD,?_⟩;simp only;rw [List.replicate_succ'];exact mn
       ·obtain rfl:k=C:=by omega
        have Hh:=hw;replace hw:=Ns;(replace hw:=Ext.trans hw Hh;replace aQ:=aQ.ext Hh;replace az:=az.ext Hh;replace bX:=bX.ext Hh;replace hX:=hX.ext Hh;replace hY:=hY.ext Hh;replace hC:=hC.ext Hh;replace hN:=hN.ext Hh);replace hA:=hA.low Ns.size;have OQ:w.heap.size≤LF:=Nat.le_trans Ns.size yA
        refine Wz ?_;refine SW.dJ rfl rfl rfl rfl rfl fun b QI ao hb hB => ?_
        (replace hw:=Ext.trans hw ao;replace aQ:=aQ.ext ao;replace bX:=bX.ext ao;replace hX:=hX.ext ao;replace hY:=hY.ext ao;replace hC:=hC.ext ao;replace hN:=hN.ext ao;replace hA:=hA.ext ao);refine SW.append hC.row (aT.wU (enc:=fG) (x:=⟨⟨some ⟨bn,0,none⟩,1,1⟩,z,qI,o,.nil,⟨A,k,c⟩⟩) hB) hw.size rfl rfl rfl (by omega) (by omega) fun A2 c2 R4 mn hg => ?_
        have hG:=hC.row.gr hg;replace hw:=aJ hw hg (Nat.le_refl _) hC.row.ba;(replace aQ:=aQ.au hG rfl;replace bX:=bX.au hG rfl;replace hX:=hX.au hG rfl;replace hY:=hY.au hG rfl;replace hN:=hN.au hG rfl;replace hA:=hA.au hG rfl);have hE:=hC.each.mono fun _ _ h=>h.au hG rfl
        refine Wz ?_;refine SW.bp (i:=6) aQ rfl rfl rfl rfl fun R5 eW hg => ?_
        have hG:=aQ.gr hg;replace hw:=hw.own fZ hg;replace bX:=bX.grown hg (by simpa using fun e=>tp e.symm);(replace hX:=hX.au hG rfl;replace hY:=hY.au hG rfl;replace hN:=hN.au hG rfl;replace hA:=hA.au hG rfl;replace mn:=mn.au hG rfl);replace hE:=hE.mono fun _ _ h=>h.au hG rfl
        refine Wz ?_;refine SW.ah bX rfl rfl rfl rfl (cq ⟨q.Words,q.Heap,⟨A2,q.ai.n+1,c2⟩⟩) fun R6 ct hg => ?_
        have hG:=bX.gr hg;replace hw:=hw.own ks hg;(replace hX:=hX.au hG rfl;replace hY:=hY.au hG rfl;replace hN:=hN.au hG rfl;replace hA:=hA.au hG rfl;replace mn:=mn.au hG rfl);replace hE:=hE.mono fun _ _ h=>h.au hG rfl
        refine Wz ?_;refine ae.cA rfl rfl rfl ct rfl ⟨_,rfl,hw,_,.new hq IQ qW ht (by rw [hz];exact nD) QG,⟨q.Words,q.Heap,⟨A2,q.ai.n+1,c2⟩⟩,rfl,hX,hY,_,mn,?_⟩;rw [hz];refine hE.snoc ⟨rfl,?_,?_,hN,Own.fj _ _ _ _ _ _,?_⟩
        ·simp only [gy,Np]
        ·simp only [gy,Np]
        ·have e9:s.Heap.bt.toNat=k:=by omega
         simp only [gy,e9];exact hA
     ·obtain ⟨i,hi,QJ,QK,BL⟩:=yy ga;rw [BL];have Nu:s.ai[i].aY=z:=by simpa [s8] using QJ
      have gR:i<q.ai.n:=by omega
      have EV:i<zr.length:=by omega
      have kO:=hC.each.get i EV hi;have QL:=(hM.each i hi).names;have R7:=hC.row.sl.base;have q1:=kO.names.sl.len;have q2:=(hM.each i hi).uW hM.heap (fun j h=>hM.each j h);have Lg:=rL s.ai[i].Names n;repeat' (first|refine Wz ?_|refine SW.st (ax rfl (hC.row.sl.qV gR (j:=0) (u := .slice zr[i].Names.A zr[i].Names.n zr[i].Names.c) rfl)) rfl ?_)
      refine SW.call rfl rfl (zQ _ _ _ _ n _ kO.names.sl QL.jQ (by omega)) fun v w9 ao hv => ?_
      obtain ⟨bb,rfl⟩:=hv;(replace hw:=Ext.trans hw ao;replace aQ:=aQ.ext ao;replace bX:=bX.ext ao;replace hX:=hX.ext ao;replace hY:=hY.ext ao;replace hC:=hC.ext ao);repeat' (first|refine Wz ?_|refine SW.st (ax rfl (hC.row.sl.qV gR (j:=0) (u := .slice zr[i].Names.A zr[i].Names.n zr[i].Names.c) rfl)) rfl ?_)
      refine SW.dJ (vs:=[.string n]) rfl rfl rfl rfl rfl fun bn Jp ao OP Nq => ?_
      have dg:=(hC.each.get i EV hi).names.lt_size;have sD:aG zr[i].Names.A zr[i].Names.c≠some bn:=fun e=>by have:=dg _ e;omega
      (replace hw:=Ext.trans hw ao;replace aQ:=aQ.ext ao;replace bX:=bX.ext ao;replace hX:=hX.ext ao;replace hY:=hY.ext ao;replace hC:=hC.ext ao);have hN:=(hC.each.get i EV hi).names;refine SW.dy rfl rfl (nK _ _ _ w.heap.size s.ai[i].Names _ hN (pe s.ai[i].Names n) (by omega) n bn Nq sD (by omega) hw.size) fun v Cu hv => ?_
      obtain ⟨A2,c2,rfl,cm,hg,l8⟩:=hv;have hG:=hN.gr hg;replace hw:=aJ hw hg (Nat.le_refl _) hN.ba;have fQ:=hC.row.au hG rfl
      have hE:=dV.setAt (R':=nF Cu w.heap.size) (i:=i) hC.each (x:=⟨⟨A2,zr[i].Names.n+1,c2⟩,zr[i].aY,zr[i].jm,zr[i].Order,zr[i].aK,zr[i].a8⟩) (y:=ph s.ai[i] n)
       ⟨(hC.each.get i EV hi).size,(hC.each.get i EV hi).qI,(hC.each.get i EV hi).order,cm,(hC.each.get i EV hi).bK.au hG rfl,(hC.each.get i EV hi).dh.au hG rfl⟩
       (fun j h1 h2 j5 ho=>⟨ho.size,ho.qI,ho.order,ho.names.grown hg (EU ((rc.ne EV h1 j5).imp (·.names) (·.names))),ho.bK.au hG rfl,ho.dh.au hG rfl⟩)
      (replace aQ:=aQ.au hG rfl;replace bX:=bX.au hG rfl;replace hX:=hX.au hG rfl;replace hY:=hY.au hG rfl);clear hC;refine Wz ?_;refine SW.jz i 0 ⟨⟨A2,zr[i].Names.n+1,c2⟩,zr[i].aY,zr[i].jm,zr[i].Order,zr[i].aK,zr[i].a8⟩ fQ rfl rfl rfl gR (by decide) rfl rfl fun C1 jL qY => ?_
      have rK:=fQ.gr qY;replace hw:=aJ hw qY (Nat.le_refl _) fQ.ba;(replace aQ:=aQ.au rK rfl;replace bX:=bX.au rK rfl;replace hX:=hX.au rK rfl;replace hY:=hY.au rK rfl);replace hE:=hE.mono fun _ _ h=>h.au rK rfl
      refine Wz ?_;refine SW.ah bX rfl rfl rfl rfl (cq q) fun QI ct hg => ?_
      have hG:=bX.gr hg;replace hw:=hw.own ks hg;(replace hX:=hX.au hG rfl;replace hY:=hY.au hG rfl;replace jL:=jL.au hG rfl);replace hE:=hE.mono fun _ _ h=>h.au hG rfl
      refine Wz ?_;refine ae.cA rfl rfl rfl ct rfl ⟨_,rfl,hw,_,.CZ hq IQ qW ht hi (by rw [hz];exact Nu) (fun j hj j5 => ?_),q,rfl,hX,hY,_,jL,hE⟩;rw [hz];simpa [s8] using QK j hj j5
    ·repeat' (first|refine Wz ?_|(refine CW.eX rfl ?_)|refine SW.want rfl rfl ?_|refine SW.st (ax rfl (Ch _ _ az)) rfl ?_|((first|refine SW.call rfl rfl (c1 _ hw) ?_|refine SW.call rfl rfl (c2 _) ?_|refine SW.call rfl rfl (c3 _ hw) ?_);intro v w1 aa hv;subst hv;replace hw:=Ext.trans hw aa;replace aQ:=aQ.ext aa;replace az:=az.ext aa;replace bX:=bX.ext aa;clear aa)|(refine SW.st ((rQ rfl rfl (by omega)).eq (congrArg (Value.int .i64) KR)) rfl ?_))
     all_goals try omega
     refine SW.ah bX rfl rfl rfl rfl (cq .zero) fun w5 ct hg => ?_
     replace hw:=hw.own ks hg;refine Wz ?_;exact ae.cA rfl rfl rfl ct rfl ⟨_,rfl,hw,_,.dG hq IQ qW ht,jS.zero 5 _ _⟩
   ·rcases (show size<1∨(1≤size∧64<size) by omega) with g|g
    all_goals
     repeat' (first|refine Wz ?_|refine SW.want rfl rfl ?_|refine SW.st (ax rfl (Ch _ _ az)) rfl ?_|((first|refine SW.call rfl rfl (c1 _ hw) ?_|refine SW.call rfl rfl (c2 _) ?_);intro v w1 aa hv;subst hv;replace hw:=Ext.trans hw aa;replace aQ:=aQ.ext aa;replace az:=az.ext aa;replace bX:=bX.ext aa;clear aa)|(refine SW.st ((rQ rfl rfl (by omega)).eq (congrArg (Value.int .i64) KR)) rfl ?_))
     all_goals try omega
     refine SW.ah bX rfl rfl rfl rfl (cq .zero) fun w5 ct hg => ?_
     replace hw:=hw.own ks hg;refine Wz ?_;exact ae.cA rfl rfl rfl ct rfl ⟨_,rfl,hw,_,.range hq IQ qW,jS.zero 1 _ _⟩
  ·have IQ : ¬ (eR n=true∧fL align):=by rw [hp];exact Fq
   rcases (show p=false∨(p=true∧align<1)∨(p=true∧1≤align∧8<align)∨(p=true∧(1≤align∧align≤8)∧gv≠0) by
    cases p
    ·exact .inl rfl
    ·right;by_cases a1:align<1
     ·exact .inl ⟨rfl,a1⟩
     ·by_cases a2 : 8<align
      ·exact .inr (.inl ⟨rfl,by omega,a2⟩)
      ·exact .inr (.inr ⟨rfl,by omega,fun h=>Fq ⟨rfl,(KQ (by omega)).1 h⟩⟩)) with rfl|⟨rfl,g⟩|⟨rfl,g⟩|⟨rfl,g,g0⟩
   all_goals
    repeat' (first|refine Wz ?_|refine SW.want rfl rfl ?_|refine SW.skip rfl rfl rfl rfl ?_|((first|refine SW.call rfl rfl (c1 _ hw) ?_|refine SW.call rfl rfl (c2 _) ?_);intro v w1 aa hv;subst hv;replace hw:=Ext.trans hw aa;replace aQ:=aQ.ext aa;replace az:=az.ext aa;replace bX:=bX.ext aa;clear aa)|(refine SW.st ((rQ rfl rfl (by omega)).eq (congrArg (Value.int .i64) KR)) rfl ?_))
    all_goals try omega
    refine SW.ah bX rfl rfl rfl rfl (cq .zero) fun w5 ct hg => ?_
    replace hw:=hw.own ks hg;refine Wz ?_;exact ae.cA rfl rfl rfl ct rfl ⟨_,rfl,hw,_,.form hq IQ,jS.zero 3 _ _⟩
open Go.RowKit
open Go.RowKit
section
variable {P:Program} {n:Nat} {ops:Array Oper} {Q:Exit→Act→World→Prop} {rest:List Oper} {L:Env} {w:World}
end
open Go.RowKit
open Go.RowKit
end Go.Proofs.YtbidkghlpijecaaGreatDoor
