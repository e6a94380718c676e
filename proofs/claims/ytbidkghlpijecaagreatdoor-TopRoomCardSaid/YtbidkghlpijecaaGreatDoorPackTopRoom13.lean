/-
  Texts of the claim TopRoom, part 13: what its theorem leans on.
-/
import Derived.Test.YtbidkghlpijecaaGreatDoorPackTopRoom12
import Derived.Test.YtbidkghlpijecaaGreatDoorPackTopRoom2
import Derived.Test.YtbidkghlpijecaaGreatDoorPackTopRoom8
import Derived.Test.YtbidkghlpijecaaGreatDoorPackTopRoom5
import Derived.Test.YtbidkghlpijecaaGreatDoorPackTopRoom11
import Derived.Test.YtbidkghlpijecaaGreatDoorPackTopRoom9
import Derived.Test.YtbidkghlpijecaaGreatDoorPackTopRoom4
set_option linter.unusedVariables false
set_option linter.unusedSimpArgs false
namespace Go.Proofs.YtbidkghlpijecaaGreatDoor
open Go.RowKit
theorem Cg {w:World} {A:Option Addr} {n:Nat} {l l':List Slab} (h:Sl w 3 fH A n l) (h':Sl w 3 fH A n l') : l=l':=by
 have e1:=h.len;have e2:=h'.len;refine List.ext_getElem (by omega) fun k h1 h2 => ?_
 obtain ⟨x,hx⟩ : ∃ x,l[k]=x:=⟨_,rfl⟩;obtain ⟨y,hy⟩ : ∃ y,l'[k]=y:=⟨_,rfl⟩;have a:=h.all (i:=k) (by omega);have b:=h'.all (i:=k) (by omega);rw [show l[k]'(h.lt (by omega))=x from hx] at a;rw [show l'[k]'(h'.lt (by omega))=y from hy] at b;have p0:=(a 0 (.int .i64 x.At) rfl).symm.trans (b 0 (.int .i64 y.At) rfl);have p1:=(a 1 (.int .i64 x.ag) rfl).symm.trans (b 1 (.int .i64 y.ag) rfl);have p2:=(a 2 (.int .i64 x.si) rfl).symm.trans (b 2 (.int .i64 y.si) rfl);simp at p0 p1 p2;rw [hx,hy];cases x
 cases y
 simp only at p0 p1 p2;rw [p0,p1,p2]
theorem mZ (A:Option Addr) (n c:Nat) (l:List Slab) (w:World) (hl:Sl w 3 fH A n l) (f:FuncId) (cap:List Value) [Body Tryz.prog f] (p:Slab→Bool) (arg:Slab→Value) (ln:∀ x,arg x=(if 3=1 then (fH x)[0]?.getD undef else .agg (fH x).toArray))
 (hf:∀ x∈l,∀ w',Ext w w'→bl Tryz.prog f ([arg x]++cap) w' fun v _=>v = .bool (p x)) (hn:n≤9223372036854775807) :
 bl Tryz.prog 103 [.slice A n c,.func (.func f) #[] cap.toArray] w fun v _=>v = .bool (l.any p):=by
 refine aD Tryz.func103 rfl Tryz.ntmps103 rfl ?_;have hw:=Ext.refl w;repeat' (first|refine Wz ?_|(refine SW.call rfl rfl (kb _ _ _ _ _ (hl.ext hw) f cap p arg ln (fun x hx w1 h1=>hf x hx w1 (Ext.trans hw h1)) hn) ?_;intro v w1 aa hv;subst hv;replace hw:=Ext.trans hw aa;clear aa))
 exact ae.aI rfl rfl ⟨_,rfl,hw,by rw [jC]⟩
def m6 (t:Int) (c:aV) : Bool:=c.aK.any (Fi t)
def ny (s:ak) (t:Int) : Bool:=s.ai.any (m6 t)
def dN (s:ak) (a:Int) : Bool:=decide (0≤a∧a % 16=0) && (!ny s (a / 16) && bf s.Heap.Live (a / 16))
theorem Ei (w:World) (t:Int) : ∃ p:dL→Bool,∀ x c,CY w x c→p x=m6 t c:=by
 classical
 refine ⟨fun x=>decide (∃ c,CY w x c∧m6 t c=true),fun x c h => ?_⟩;cases e:m6 t c
 ·refine decide_eq_false ?_;rintro ⟨c',h',e'⟩
  unfold m6 at e e';rw [Cg h'.bK h.bK,e] at e';cases e'
 ·exact decide_eq_true ⟨c,h,e⟩
theorem F8 (t:Int) (b6:Nat) (x:Slab) (w:World) (h6:aT w b6 3 [.int .i64 t]) :
 bl Tryz.prog 104 ([.agg (fH x).toArray]++[.pointer (some ⟨b6,0,none⟩)]) w fun v _=>v = .bool (Fi t x):=by
 refine aD Tryz.func104 rfl Tryz.ntmps104 rfl ?_;refine CW.seq (CW.region (SW.box rfl rfl fun b1 w1 hw gX aB => ?_));replace h6:=h6.ext hw;have Ch:=h6.cell (i:=0) (v := .int .i64 t) rfl;rw [add_zero] at Ch;repeat' (first|refine Wz ?_|refine SW.st (ax rfl Ch) rfl ?_)
 exact ae.aI rfl rfl ⟨_,rfl,hw,rfl⟩
theorem F9 (t:Int) (b6:Nat) (x:dL) (c:aV) (w:World) (h6:aT w b6 3 [.int .i64 t]) (hx:CY w x c) (hn:x.aK.n≤9223372036854775807) :
 bl Tryz.prog 102 ([.agg (fG x).toArray]++[.pointer (some ⟨b6,0,none⟩)]) w fun v _=>v = .bool (m6 t c):=by
 refine aD Tryz.func102 rfl Tryz.ntmps102 rfl ?_;refine CW.seq (CW.region (SW.box rfl rfl fun b2 w1 hw jg aC => ?_));replace h6:=h6.ext hw;repeat' (first|refine Wz ?_|(refine SW.st (g9 (vs:=[.pointer (some ⟨b6,0,none⟩)]) rfl) rfl ?_))
 refine SW.call rfl rfl (mZ _ _ _ c.aK _ (hx.bK.ext hw) _ [.pointer (some ⟨b6,0,none⟩)] (Fi t) (fun x => .agg (fH x).toArray) (fun x=>rfl) (fun x hx w1 j0=>F8 t b6 x w1 (h6.ext j0)) hn) fun v w4 dz hv => ?_
 subst hv;replace hw:=Ext.trans hw dz;refine Wz ?_;exact ae.aI rfl rfl ⟨_,rfl,hw,rfl⟩
theorem Ej (x:Block) (a:Int) (w:World) (hx : -4000000000000000000≤x.At∧x.At≤4000000000000000000) (ha : -4000000000000000000≤a∧a≤4000000000000000000) : bl Tryz.prog 106 ([.agg (aA x).toArray,.int .i64 a]++[]) w fun v _=>v = .int .i64 (x.At-a):=by
 refine aD Tryz.func106 rfl Tryz.ntmps106 rfl ?_;refine CW.seq (CW.region (SW.box rfl rfl fun b1 w1 hw gX aB => ?_));refine Wz ?_;exact ae.aI rfl rfl ⟨_,rfl,hw,rfl⟩
theorem Ci (r:ik) (s:ak) (a:Int) (w:World) (hr:DN w r s) (hs:s.small) (hM:gf s) (ha : -9223372036854775808≤a∧a≤9223372036854775807) :
 bl Tryz.prog 45 [.agg (bq r).toArray,.int .i64 a] w fun v _ => ∃ i:Int,v = .tuple #[.int .i64 i,.bool (dN s a)]∧(dN s a=true→i=(aZ s.Heap.Live (a / 16) : Int)):=by
 refine aD Tryz.func45 rfl Tryz.ntmps45 rfl ?_;refine CW.seq (CW.region (SW.box rfl rfl fun b2 w1 hw jg aC => ?_));obtain ⟨cs,hc⟩:=hr.ck;obtain ⟨z1,z2⟩:=hc.len;have m3:=hs.ck;have nP:=hr.heap.live.len;have m5:=hs.heap.live;by_cases h0 : 0≤a
 ·have RN:a.tmod 16=a % 16:=Int.tmod_eq_emod_of_nonneg h0
  by_cases h1:a % 16=0
  ·obtain ⟨t,ht⟩ : ∃ t,a / 16=t:=⟨_,rfl⟩;have Lv : 0≤t∧t≤1000000000000000000:=by omega
   obtain ⟨p,hp⟩:=Ei w t;have xW:=mX (p:=p) (q:=m6 t) (l:=cs) (m:=s.ai) (by omega) fun k h1 h2=>hp _ _ (hc.each.get k h1 h2)
   have hP:dN s a=(!ny s t && bf s.Heap.Live t):=by unfold dN;rw [decide_eq_true ⟨h0,h1⟩,ht,Bool.true_and]
   refine Wz ?_;refine SW.alloc rfl fun b6 w2 bo Ll az => ?_
   have Ma:w.heap.size≤b6:=Nat.le_trans hw.size Ll
   (replace hw:=Ext.trans hw bo;replace aC:=aC.ext bo);skip;refine SW.bp (i:=0) az rfl rfl rfl rfl fun w3 de hg => ?_
   have hG:=az.gr hg;replace hw:=hw.own Ma hg;(replace aC:=aC.au hG rfl);replace az:aT w3 b6 3 [.int .i64 t]:=by rw [← ht];exact de
   have Ch:=az.cell (i:=0) (v := .int .i64 t) rfl;rw [add_zero] at Ch;clear de hg hG;repeat' (first|refine Wz ?_|(refine SW.st (g9 (vs:=[.pointer (some ⟨b6,0,none⟩)]) rfl) rfl ?_))
   refine SW.call rfl rfl (iV _ _ _ cs _ (hc.row.ext hw) _ [.pointer (some ⟨b6,0,none⟩)] p (fun x => .agg (fG x).toArray) (fun x=>rfl) (fun x hx w1 j0=>by
    obtain ⟨k,hk,rfl⟩:=List.getElem_of_mem hx;have kj:k<s.ai.length:=by omega
    have kO:=hc.each.get k hk kj;have q1:=(hs.each _ (List.getElem_mem kj)).bK;have q2:=kO.bK.len;rw [hp _ _ kO];exact F9 t b6 _ _ w1 (az.ext j0) (kO.ext (Ext.trans hw j0)) (by omega)) (by omega)) fun v w4 dz hv => ?_
   subst hv;rw [xW.2,show s.ai.any (m6 t)=ny s t from rfl];(replace hw:=Ext.trans hw dz;replace aC:=aC.ext dz;replace az:=az.ext dz);have Ch:=az.cell (i:=0) (v := .int .i64 t) rfl;rw [add_zero] at Ch;cases hi:ny s t
   ·rw [hi] at hP;simp only [Bool.not_false,Bool.true_and] at hP;repeat' (first|refine Wz ?_|refine SW.st (ax rfl Ch) rfl ?_)
    refine SW.call rfl rfl (fy _ _ _ s.Heap.Live t _ (hr.heap.live.ext hw) 106 (fun x hx w1 j0=>by
     obtain ⟨k,hk,rfl⟩:=List.getElem_of_mem hx;obtain ⟨l1,l2,l3,l4⟩:=hM.heap.live.each k hk;exact Ej _ t w1 (by omega) (by omega)) (im hM.heap.live) (by omega)) fun v w5 qL hv => ?_
    subst hv;(replace hw:=Ext.trans hw qL;replace aC:=aC.ext qL;replace az:=az.ext qL);refine Wz ?_;exact ae.dk rfl rfl rfl ⟨_,rfl,hw,(aZ s.Heap.Live t:Int),by rw [hP];rfl,fun _=>by rw [ht]⟩
   ·rw [hi] at hP;simp only [Bool.not_true,Bool.false_and] at hP;refine Wz ?_;exact ae.dk rfl rfl rfl ⟨_,rfl,hw,0,by rw [hP],fun h=>by rw [hP] at h;cases h⟩
  ·have hP:dN s a=false:=by unfold dN;rw [decide_eq_false (by omega)];rfl
   refine Wz ?_;exact ae.dk rfl rfl rfl ⟨_,rfl,hw,0,by rw [hP],fun h=>by rw [hP] at h;cases h⟩
 ·have hP:dN s a=false:=by unfold dN;rw [decide_eq_false (by omega)];rfl
  refine Wz ?_;exact ae.dk rfl rfl rfl ⟨_,rfl,hw,0,by rw [hP],fun h=>by rw [hP] at h;cases h⟩
def Im (s:ak) (a:Int) : Int:=if dN s a=true then rf s.Heap.Live (a / 16) else -1
open Go.RowKit
inductive x9 (s:ak) (a:Int) : Option Nat→Prop where
 | no {u:Int×Int×Int} (hF:qO s a u) (hn:∀ (i:Nat) (hi:i<s.ai.length),u.2.2=0→u.1=(i:Int)→G0 s.ai[i]=false) : x9 s a none
 | yes {i:Nat} {k:Int} (hF:qO s a ((i:Int),k,0)) (hi:i<s.ai.length) (hm:G0 s.ai[i]=true) : x9 s a (some i)
inductive ta (s:ak) (a:Int) : Int×Int→Prop where
 | bad (h:fA s=false) : ta s a (0,8)
 | obj {i:Nat} (h:fA s=true) (hi:i<s.ai.length) (ho:x9 s a (some i)) : ta s a (s.ai[i].aY,0)
 | whole (h:fA s=true) (ho:x9 s a none) (hw:dN s a=true) : ta s a (16*pw (Im s a),0)
 | no (h:fA s=true) (ho:x9 s a none) (hw:dN s a=false) : ta s a (0,4)
open Go.RowKit
theorem pj (A:Option Addr) (n c:Nat) (l:List ByteArray) (w:World) (hl:Sl w 1 encStr A n l) (hn:n*16≤140737488355328) : bl Tryz.prog 84 [.slice A n c] w (vK w 9 1 encStr n l):=by
 refine aD Tryz.func84 rfl Tryz.ntmps84 rfl ?_;have hw:=Ext.refl w;refine Wz ?_;refine SW.st (oE rfl rfl) rfl ?_;repeat' (first|refine Wz ?_|(refine CW.cond rfl (fun h => ?_) (fun h => ?_)))
 ·have FD:n=0:=by
   rcases Nat.eq_zero_or_pos n with h0|h0
   ·exact h0
   ·have:=hl.base h0;simp_all
  subst FD;have:l=[]:=List.eq_nil_of_length_eq_zero hl.len
  subst this;exact ae.aI rfl rfl ⟨_,rfl,hw,none,0,rfl,Own.fj _ _ _ _ _ _⟩
 ·refine SW.vC rfl fun b w1 aa hb => ?_
  replace hw:=Ext.trans hw aa;refine Wz ?_;refine SW.rC (Nat.zero_add n) (List.nil_append l) (Own.fj w1 w.heap.size _ _ encStr (some ⟨b,0,none⟩)) (hl.ext hw) hw.size rfl rfl rfl (by omega) (by omega) fun A2 c2 w2 hO hg => ?_
  replace hw:=aJ hw hg (Nat.le_refl _) (by simp [aG]);refine Wz ?_;exact ae.aI rfl rfl ⟨_,rfl,hw,A2,c2,rfl,hO⟩
open Go.RowKit
def apart (a b:fD) : Prop := ∀ k,aG a.A a.c=some k→aG b.A b.c≠some k
theorem kR {α:Type} {w:World} {lo:Nat} {e:TypeId} {sz:Nat} {enc : α → List Value} {a b:fD} {l:List α} (h:Own w lo e sz enc a.A a.n a.c l) (hb:∀ k,aG b.A b.c=some k→w.heap.size≤k) : apart a b:=fun k h1 h2=>by
 have:=h.lt_size k h1
 have:=hb k h2
 omega
structure tc (u v:dL) : Prop where
 names:apart u.Names v.Names
 bK:apart u.aK v.aK
 dh:apart u.a8 v.a8
structure rj (words:fD) (cs:List dL) : Prop where
 pair:cs.Pairwise tc
 words:∀ u∈cs,apart words u.a8
theorem rj.nil (x:fD) : rj x []:=⟨.nil,fun _ h=>by simp at h⟩
theorem rj.snoc {x:fD} {cs:List dL} {v:dL} (h:rj x cs) (h1:∀ u∈cs,tc u v) (h2:apart x v.a8) : rj x (cs++[v]):=by
 refine ⟨List.pairwise_append.2 ⟨h.pair,by simp,fun a ha b hb => ?_⟩,fun u hu => ?_⟩
 ·simp at hb;subst hb;exact h1 a ha
 ·rcases List.mem_append.1 hu with hu|hu
  ·exact h.words u hu
  ·simp at hu;subst hu;exact h2
structure Bc (w:World) (lo:Nat) (r:ik) (s:ak) (cs:List dL) : Prop where
 words:Own w lo 3 1 bB r.Words.A r.Words.n r.Words.c s.Words
 heap:gq w lo r.Heap s.Heap
 ck:dB w lo r.ai cs s.ai
 sep:rj r.Words cs
theorem Bc.low {w:World} {lo kA:Nat} {r:ik} {s:ak} {cs:List dL} (h:Bc w lo r s cs) (hl:kA≤lo) : Bc w kA r s cs:=⟨h.words.low hl,h.heap.low hl,h.ck.low hl,h.sep⟩
theorem dB.mem {w:World} {lo:Nat} {s:fD} {cs:List dL} {l:List aV} (h:dB w lo s cs l) {u:dL} (hu:u∈cs) : ∃ c,nF w lo u c:=by
 obtain ⟨i,hi,rfl⟩:=List.getElem_of_mem hu;exact ⟨_,h.each.get i hi (by rw [← h.each.len];exact hi)⟩
theorem dB.Og {w:World} {lo:Nat} {s:fD} {cs:List dL} {l:List aV} (h:dB w lo s cs l) {b:fD} (hb:∀ k,aG b.A b.c=some k→w.heap.size≤k) : ∀ u∈cs,apart u.Names b:=fun u hu=>by
 obtain ⟨c,hc⟩:=h.mem hu;exact kR hc.names hb
theorem dB.Oh {w:World} {lo:Nat} {s:fD} {cs:List dL} {l:List aV} (h:dB w lo s cs l) {b:fD} (hb:∀ k,aG b.A b.c=some k→w.heap.size≤k) : ∀ u∈cs,apart u.aK b:=fun u hu=>by
 obtain ⟨c,hc⟩:=h.mem hu;exact kR hc.bK hb
theorem dB.Oi {w:World} {lo:Nat} {s:fD} {cs:List dL} {l:List aV} (h:dB w lo s cs l) {b:fD} (hb:∀ k,aG b.A b.c=some k→w.heap.size≤k) : ∀ u∈cs,apart u.a8 b:=fun u hu=>by
 obtain ⟨c,hc⟩:=h.mem hu;exact kR hc.dh hb
set_option maxHeartbeats 4000000 in
theorem zS (r:ik) (s:ak) (w:World) (hr:DN w r s) (hs:s.small) :
 bl Tryz.prog 36 [.agg (bq r).toArray] w fun v w' => ∃ q zr,v = .agg (bq q).toArray∧Bc w' w.heap.size q s zr:=by
 refine aD Tryz.func36 rfl Tryz.ntmps36 rfl ?_;refine CW.seq (CW.region (SW.box rfl rfl fun b1 w1 hw gX aB => ?_));refine SW.alloc rfl fun b2 w2 bo jg aC => ?_
 have oK:w.heap.size≤b2:=Nat.le_trans hw.size jg
 have BM:b2≠b1:=by have:=aB.lt;omega
 (replace hw:=Ext.trans hw bo;replace aB:=aB.ext bo);obtain ⟨cs,hc⟩:=hr.ck;have N6:=hr.words.len;have s1:=hs.words;have s3:=hs.ck;obtain ⟨c1,c2⟩:=hc.len;refine Wz ?_
 obtain ⟨K,hK⟩ : ∃ K:Env→World→Prop,K=fun L' w' => ∃ X c1 G b3,gH L' [(1,.pointer (some ⟨b1,0,none⟩)),(2,.pointer (some ⟨b2,0,none⟩)),(3,.pointer (some ⟨b3,0,none⟩))]∧Ext w w'∧aT w' b1 44 (bq r)∧aT w' b2 44 (bq .zero) ∧
  aT w' b3 44 (bq ⟨⟨X,r.Words.n,c1⟩,G,.nil⟩)∧Own w' w.heap.size 3 1 bB X r.Words.n c1 s.Words∧gq w' w.heap.size G s.Heap∧w.heap.size≤b3∧b1≠b3∧b2≠b3:=⟨_,rfl⟩
 refine CW.cut K ?_ ?_
 ·refine CW.any 8 mixed (dq (by kernel_rfl)) rfl fun w1 aa bm => ?_
  replace hw:=Ext.trans hw aa;replace aB:=aB.ext aa;replace aC:=aC.ext aa;clear aa;refine Wa ?_;refine SA.take 4 bm rfl (by kernel_rfl) (by kernel_rfl) rfl ?_;repeat ((show SW _ _ _ _ (⟨_,Op.load _ _,_,_,_,none⟩::_) _ _;refine SW.st (ay rfl rfl ((mP aB))) rfl ?_))
  refine SW.ar ?_;refine SA.two 2 7 rfl rfl (by kernel_rfl) rfl rfl ?_ ?_
  ·refine SW.call rfl rfl (cX _ _ _ _ _ (hr.words.ext hw) (by omega)) fun v w4 ao hv => ?_
   obtain ⟨X,c4,rfl,hX⟩:=hv;replace hX:=hX.low hw.size;replace hw:=Ext.trans hw ao;replace aB:=aB.ext ao;replace aC:=aC.ext ao;try replace aq:=aq.ext ao
   refine SW.nil (ae.sa ao ?_);refine SA.two 5 7 rfl rfl (by kernel_rfl) rfl rfl ?_ ?_
   ·refine SW.call rfl rfl (iD _ _ _ (hr.heap.ext hw) hs.heap) fun v w4 ao hv => ?_
    obtain ⟨G,rfl,hY⟩:=hv;replace hY:=hY.low hw.size;replace hX:=hX.ext ao;replace hw:=Ext.trans hw ao;replace aB:=aB.ext ao;replace aC:=aC.ext ao;try replace aq:=aq.ext ao
    refine SW.nil (ae.sa ao ?_);refine Wa ?_;refine SA.one 7 rfl (by kernel_rfl) rfl ?_;refine SW.alloc rfl fun b3 w4 ao bL aq => ?_
    have cJ:w.heap.size≤b3:=Nat.le_trans hw.size bL
    have gY:b1≠b3:=by have:=aB.lt;omega
    have gl:b2≠b3:=by have:=aC.lt;omega
    replace hw:=Ext.trans hw ao;replace aB:=aB.ext ao;replace aC:=aC.ext ao;try replace hX:=hX.ext ao
    try replace hY:=hY.ext ao
    refine SW.nil (ae.sa ao ?_);refine SA.done (by kernel_rfl) ?_;skip;refine SW.ah aq rfl rfl rfl rfl (cq ⟨⟨X,r.Words.n,c4⟩,G,.nil⟩) fun w5 ct hg => ?_
    have hG:=aq.gr hg;replace hw:=hw.own cJ hg;(replace hX:=hX.au hG rfl;replace hY:=hY.au hG rfl);replace aB:=aB.grown hg (by simpa using gY);replace aC:=aC.grown hg (by simpa using gl);refine Wz ?_;exact ae.cut (K:=K) (by rw [hK];exact ⟨X,c4,G,b3,⟨rfl,rfl,rfl,trivial⟩,hw,aB,aC,ct,hX,hY,cJ,gY,gl⟩)
   ·refine SW.alloc rfl fun b3 w4 ao bL aq => ?_
    have cJ:w.heap.size≤b3:=Nat.le_trans hw.size bL
    have gY:b1≠b3:=by have:=aB.lt;omega
    have gl:b2≠b3:=by have:=aC.lt;omega
    replace hw:=Ext.trans hw ao;replace aB:=aB.ext ao;replace aC:=aC.ext ao;try replace hX:=hX.ext ao
    try replace hY:=hY.ext ao
    refine SW.nil (ae.sa ao ?_);refine SA.one 5 rfl (by kernel_rfl) rfl ?_;refine SW.call rfl rfl (iD _ _ _ (hr.heap.ext hw) hs.heap) fun v w4 ao hv => ?_
    obtain ⟨G,rfl,hY⟩:=hv;replace hY:=hY.low hw.size;replace hX:=hX.ext ao;replace hw:=Ext.trans hw ao;replace aB:=aB.ext ao;replace aC:=aC.ext ao;try replace aq:=aq.ext ao
    refine SW.nil (ae.sa ao ?_);refine Wa ?_;refine SA.done (by kernel_rfl) ?_;skip;refine SW.ah aq rfl rfl rfl rfl (cq ⟨⟨X,r.Words.n,c4⟩,G,.nil⟩) fun w5 ct hg => ?_
    have hG:=aq.gr hg;replace hw:=hw.own cJ hg;(replace hX:=hX.au hG rfl;replace hY:=hY.au hG rfl);replace aB:=aB.grown hg (by simpa using gY);replace aC:=aC.grown hg (by simpa using gl);refine Wz ?_;exact ae.cut (K:=K) (by rw [hK];exact ⟨X,c4,G,b3,⟨rfl,rfl,rfl,trivial⟩,hw,aB,aC,ct,hX,hY,cJ,gY,gl⟩)
  ·refine SW.alloc rfl fun b3 w4 ao bL aq => ?_
   have cJ:w.heap.size≤b3:=Nat.le_trans hw.size bL
   have gY:b1≠b3:=by have:=aB.lt;omega
   have gl:b2≠b3:=by have:=aC.lt;omega
   replace hw:=Ext.trans hw ao;replace aB:=aB.ext ao;replace aC:=aC.ext ao;try replace hX:=hX.ext ao
   try replace hY:=hY.ext ao
   refine SW.nil (ae.sa ao ?_);refine SA.one 2 rfl (by kernel_rfl) rfl ?_;refine SW.call rfl rfl (cX _ _ _ _ _ (hr.words.ext hw) (by omega)) fun v w4 ao hv => ?_
   obtain ⟨X,c4,rfl,hX⟩:=hv;replace hX:=hX.low hw.size;replace hw:=Ext.trans hw ao;replace aB:=aB.ext ao;replace aC:=aC.ext ao;try replace aq:=aq.ext ao
   refine SW.nil (ae.sa ao ?_);refine SA.one 5 rfl (by kernel_rfl) rfl ?_;refine SW.call rfl rfl (iD _ _ _ (hr.heap.ext hw) hs.heap) fun v w4 ao hv => ?_
   obtain ⟨G,rfl,hY⟩:=hv;replace hY:=hY.low hw.size;replace hX:=hX.ext ao;replace hw:=Ext.trans hw ao;replace aB:=aB.ext ao;replace aC:=aC.ext ao;try replace aq:=aq.ext ao
   refine SW.nil (ae.sa ao ?_);refine Wa ?_;refine SA.done (by kernel_rfl) ?_;skip;refine SW.ah aq rfl rfl rfl rfl (cq ⟨⟨X,r.Words.n,c4⟩,G,.nil⟩) fun w5 ct hg => ?_
   have hG:=aq.gr hg;replace hw:=hw.own cJ hg;(replace hX:=hX.au hG rfl;replace hY:=hY.au hG rfl);replace aB:=aB.grown hg (by simpa using gY);replace aC:=aC.grown hg (by simpa using gl);refine Wz ?_;exact ae.cut (K:=K) (by rw [hK];exact ⟨X,c4,G,b3,⟨rfl,rfl,rfl,trivial⟩,hw,aB,aC,ct,hX,hY,cJ,gY,gl⟩)
 ·clear aB aC hw;subst hK;rintro L' w' ⟨X,c4,G,b3,nE,hw,aB,aC,aq,hX,hY,cJ,gY,gl⟩
  refine ae.sub nE ?_;refine Wz ?_
  refine CW.loop (fun s:Nat×Option Addr×Nat×List dL=>[(2,.pointer (some ⟨b2,0,none⟩)),(3,.pointer (some ⟨b3,0,none⟩)),(14,.slice r.ai.A r.ai.n r.ai.c),(15,.int .i64 (r.ai.n:Int)),(16,.int .i64 (s.1:Int))])
   (fun t w'=>t.1≤r.ai.n∧Ext w w'∧aT w' b2 44 (bq .zero)∧aT w' b3 44 (bq ⟨⟨X,r.Words.n,c4⟩,G,⟨t.2.1,t.1,t.2.2.1⟩⟩)∧Own w' w.heap.size 3 1 bB X r.Words.n c4 s.Words∧gq w' w.heap.size G s.Heap ∧
     dB w' w.heap.size ⟨t.2.1,t.1,t.2.2.1⟩ t.2.2.2 (s.ai.take t.1)∧rj ⟨X,r.Words.n,c4⟩ t.2.2.2) (fun t=>r.ai.n-t.1) (0,none,0,[]) ⟨rfl,rfl,rfl,rfl,rfl,trivial⟩ ⟨by omega,hw,aC,aq,hX,hY,dB.nil _ _,rj.nil _⟩ ?_
  clear aB aC aq hX hY hw nE;rintro ⟨k,A,c,zr⟩ w' ⟨hk,hw,aC,aq,hX,hY,hO,rc⟩
  simp only at hk aq hO rc ⊢;have hA:=hc.row.base;by_cases ey:k<r.ai.n
  ·have kO:=hc.each.get k (by omega) (by omega);have q:=hs.each _ (List.getElem_mem (show k<s.ai.length by omega));have q1:=kO.names.len;have q2:=kO.bK.len;have q3:=kO.dh.len;have q4:=q.names;have q5:=q.bK;have q6:=q.dh;have zT:=hO.row.lt_size;repeat' (first|refine Wz ?_|refine SW.st (aN hw rfl rfl ((hc.row.all ey))) rfl ?_)
   refine SW.alloc rfl fun b5 w1 aa ig bw => ?_
   skip;refine SW.ah bw rfl rfl rfl rfl (AV _) fun w2 eQ hg => ?_
   have ao:=aa.own ig hg;have j2:w.heap.size≤b5:=Nat.le_trans hw.size ig
   replace hw:=Ext.trans hw ao;replace aC:=aC.ext ao;replace aq:=aq.ext ao;replace hX:=hX.ext ao;replace hY:=hY.ext ao;replace hO:=hO.ext ao;replace bw:=eQ;clear eQ aa hg ao;refine Wz ?_;refine CW.any 10 mixed (dq (by kernel_rfl)) rfl fun w1 aa bm => ?_
   replace hw:=Ext.trans hw aa;replace aC:=aC.ext aa;replace aq:=aq.ext aa;replace bw:=bw.ext aa;replace hX:=hX.ext aa;replace hY:=hY.ext aa;replace hO:=hO.ext aa;clear aa;refine Wa ?_;refine SA.one 2 rfl (by kernel_rfl) rfl ?_;refine SW.call rfl rfl (pj _ _ _ _ _ (kO.names.ext hw) (by omega)) fun v w4 ao hv => ?_
   obtain ⟨N,n4,rfl,hN⟩:=hv;have FB:=hO.Og (b:=⟨N,cs[k].Names.n,n4⟩) hN.ba;replace hN:=hN.low hw.size;(replace hw:=Ext.trans hw ao;replace aC:=aC.ext ao;replace aq:=aq.ext ao;replace bw:=bw.ext ao;replace hX:=hX.ext ao;replace hY:=hY.ext ao;replace hO:=hO.ext ao);refine SW.nil (ae.sa ao ?_);refine Wa ?_;refine SA.one 5 rfl (by kernel_rfl) rfl ?_;refine SW.call rfl rfl (nV _ _ _ _ _ (kO.bK.ext hw) (by omega)) fun v w4 ao hv => ?_
   obtain ⟨M,m4,rfl,hM⟩:=hv;have yW:=hO.Oh (b:=⟨M,cs[k].aK.n,m4⟩) hM.ba;replace hM:=hM.low hw.size;(replace hw:=Ext.trans hw ao;replace aC:=aC.ext ao;replace aq:=aq.ext ao;replace bw:=bw.ext ao;replace hX:=hX.ext ao;replace hY:=hY.ext ao;replace hO:=hO.ext ao;replace hN:=hN.ext ao);refine SW.nil (ae.sa ao ?_);refine SA.one 8 rfl (by kernel_rfl) rfl ?_;refine SW.call rfl rfl (cX _ _ _ _ _ (kO.dh.ext hw) (by omega)) fun v w4 ao hv => ?_
   obtain ⟨Q,q7,rfl,hQ⟩:=hv;have H7:=hO.Oi (b:=⟨Q,cs[k].a8.n,q7⟩) hQ.ba;have uG:=kR (a:=⟨X,r.Words.n,c4⟩) (b:=⟨Q,cs[k].a8.n,q7⟩) hX hQ.ba;replace hQ:=hQ.low hw.size;(replace hw:=Ext.trans hw ao;replace aC:=aC.ext ao;replace aq:=aq.ext ao;replace bw:=bw.ext ao;replace hX:=hX.ext ao;replace hY:=hY.ext ao;replace hO:=hO.ext ao;replace hN:=hN.ext ao;replace hM:=hM.ext ao);refine SW.nil (ae.sa ao ?_);refine SA.done (by kernel_rfl) ?_;refine SW.bp (i:=0) bw rfl rfl rfl rfl fun w6 eQ hg => ?_
   have hG:=bw.gr hg;replace hw:=hw.own j2 hg;replace hO:=hO.cU bw hg zT ig;(replace aC:=aC.au hG rfl;replace aq:=aq.au hG rfl;replace hX:=hX.au hG rfl;replace hY:=hY.au hG rfl;replace hN:=hN.au hG rfl;replace hM:=hM.au hG rfl;replace hQ:=hQ.au hG rfl);replace bw:=eQ;clear eQ hg hG;refine Wz ?_;refine SW.bp (i:=4) bw rfl rfl rfl rfl fun w6 eQ hg => ?_
   have hG:=bw.gr hg;replace hw:=hw.own j2 hg;replace hO:=hO.cU bw hg zT ig;(replace aC:=aC.au hG rfl;replace aq:=aq.au hG rfl;replace hX:=hX.au hG rfl;replace hY:=hY.au hG rfl;replace hN:=hN.au hG rfl;replace hM:=hM.au hG rfl;replace hQ:=hQ.au hG rfl);replace bw:=eQ;clear eQ hg hG;refine Wz ?_;refine SW.bp (i:=5) bw rfl rfl rfl rfl fun w6 eQ hg => ?_
   have hG:=bw.gr hg;replace hw:=hw.own j2 hg;replace hO:=hO.cU bw hg zT ig;(replace aC:=aC.au hG rfl;replace aq:=aq.au hG rfl;replace hX:=hX.au hG rfl;replace hY:=hY.au hG rfl;replace hN:=hN.au hG rfl;replace hM:=hM.au hG rfl;replace hQ:=hQ.au hG rfl);replace bw:=eQ;clear eQ hg hG;refine Wz ?_;refine SW.dJ rfl rfl rfl rfl rfl fun b w6 ao hb hB => ?_
   (replace hw:=Ext.trans hw ao;replace aC:=aC.ext ao;replace aq:=aq.ext ao;replace hX:=hX.ext ao;replace hY:=hY.ext ao;replace hO:=hO.ext ao;replace hN:=hN.ext ao;replace hM:=hM.ext ao;replace hQ:=hQ.ext ao);refine SW.append hO.row (aT.wU (enc:=fG) (x:=⟨⟨N,_,n4⟩,cs[k].aY,cs[k].jm,cs[k].Order,⟨M,_,m4⟩,⟨Q,_,q7⟩⟩) hB) hw.size rfl rfl rfl (by simp only;omega) (by simp only;omega) fun A2 c2 w5 mn hg => ?_
   have hG:=hO.row.gr hg;replace hw:=aJ hw hg (Nat.le_refl _) hO.row.ba;(replace aC:=aC.au hG rfl;replace aq:=aq.au hG rfl;replace hX:=hX.au hG rfl;replace hY:=hY.au hG rfl;replace hN:=hN.au hG rfl;replace hM:=hM.au hG rfl;replace hQ:=hQ.au hG rfl);have hE:=hO.each.mono fun _ _ h=>h.au hG rfl
   refine Wz ?_;refine SW.bp (i:=6) aq rfl rfl rfl rfl fun w6 cS hg => ?_
   have hG:=aq.gr hg;replace hw:=hw.own cJ hg;replace aC:=aC.grown hg (by simpa using gl);(replace hX:=hX.au hG rfl;replace hY:=hY.au hG rfl;replace hN:=hN.au hG rfl;replace hM:=hM.au hG rfl;replace hQ:=hQ.au hG rfl;replace mn:=mn.au hG rfl);replace hE:=hE.mono fun _ _ h=>h.au hG rfl
   refine Wz ?_;refine ae.again (k+1,A2,c2,zr++[⟨⟨N,_,n4⟩,cs[k].aY,cs[k].jm,cs[k].Order,⟨M,_,m4⟩,⟨Q,_,q7⟩⟩]) ⟨rfl,rfl,rfl,rfl,rfl,trivial⟩ (by simp only;omega) ⟨by simp only;omega,hw,aC,cS,hX,hY,⟨mn,?_⟩,rc.snoc (fun u hu=>⟨FB u hu,yW u hu,H7 u hu⟩) uG⟩;rw [List.take_succ_eq_append_getElem (by omega)];exact hE.snoc ⟨kO.size,kO.qI,kO.order,hN,hM,hQ⟩
  ·obtain rfl:k=r.ai.n:=by omega
   rw [List.take_of_length_le (by omega)] at hO;refine Wz ?_;refine SW.ah aC rfl rfl rfl rfl (cq _) fun w5 ct hg => ?_
   have hG:=aC.gr hg;replace hw:=hw.own oK hg;(replace hX:=hX.au hG rfl;replace hY:=hY.au hG rfl;replace hO:=hO.au hG rfl);refine Wz ?_;exact ae.wY rfl rfl ct rfl ⟨_,rfl,hw,⟨_,G,_⟩,zr,rfl,hX,hY,hO,rc⟩
open Go.RowKit
structure jV (w:World) (lo hi:Nat) (r:gb) (h:Heap) : Prop where
 cpus:r.bt=h.bt
 cT:Own w lo 3 1 bB r.bT.A r.bT.n r.bT.c h.bT
 live:Own w lo 165 3 aA r.Live.A r.Live.n r.Live.c h.Live
 parts:∃ zs ls,gT w lo r.aL zs h.aL∧dE w lo r.aj ls h.aj∧(∀ g,aG r.bT.A r.bT.c=some g→g<hi)∧(∀ u∈zs,∀ g,aG u.Types.A u.Types.c=some g→g<hi)∧(∀ u∈ls,∀ g,aG u.an.A u.an.c=some g→g<hi)
section
variable {w w':World} {lo hi t g:Nat} {r:gb} {h:Heap}
theorem gq.wu (a:gq w lo r h) : jV w lo w.heap.size r h:=by
 obtain ⟨zs,hz⟩:=a.bz;obtain ⟨ls,hl⟩:=a.lists;refine ⟨a.cpus,a.cT,a.live,zs,ls,hz,hl,a.cT.lt_size,fun u hu g e => ?_,fun u hu g e => ?_⟩
 ·obtain ⟨j,hj,rfl⟩:=List.getElem_of_mem hu;exact (hz.each.get j hj (by rw [← hz.each.len];exact hj)).types.lt_size g e
 ·obtain ⟨j,hj,rfl⟩:=List.getElem_of_mem hu;exact (hl.each.get j hj (by rw [← hl.each.len];exact hj)).cb.lt_size g e
theorem jV.own (a:jV w lo hi r h) : gq w lo r h:=by
 obtain ⟨zs,ls,hz,hl,_⟩:=a.parts;exact ⟨a.cpus,a.cT,a.live,⟨zs,hz⟩,⟨ls,hl⟩⟩
theorem jV.ext (a:jV w lo hi r h) (hx:Ext w w') : jV w' lo hi r h:=by
 obtain ⟨zs,ls,hz,hl,hb⟩:=a.parts;exact ⟨a.cpus,a.cT.ext hx,a.live.ext hx,zs,ls,hz.ext hx,hl.ext hx,hb⟩
theorem jV.au (a:jV w lo hi r h) (hG:tZ w w' t) (cr:(Nat.beq t 3 || (Nat.beq t 165 || (Nat.beq t 139 || Nat.beq t 142)))=false) : jV w' lo hi r h:=by
 obtain ⟨zs,ls,hz,hl,hb⟩:=a.parts;simp only [Bool.or_eq_false_iff] at cr;obtain ⟨h1,h2,h3,h4⟩:=cr;exact ⟨a.cpus,a.cT.au hG h1,a.live.au hG h2,zs,ls,hz.au hG (by simp [h1,h2,h3]),hl.au hG (by simp [h1,h4]),hb⟩
end
structure Oj (w:World) (lo:Nat) (r:ik) (s:ak) (G1 cs:List dL) : Prop where
 words:Own w lo 3 1 bB r.Words.A r.Words.n r.Words.c s.Words
 heap:gq w lo r.Heap s.Heap
 row:Own w lo 89 6 fG r.ai.A r.ai.n r.ai.c G1
 each:dV (nF w lo) cs s.ai
 pair:cs.Pairwise tc
abbrev SX (w:World) (lo:Nat) (r:ik) (s:ak) (cs:List dL) : Prop:=Oj w lo r s cs cs
structure SI (w:World) (lo:Nat) (r:ik) (s:ak) (cs:List dL) : Prop where
 ints:∃ m1 m2,lo≤m1∧m1≤m2∧(∀ g,aG r.Words.A r.Words.c=some g→g<m1)∧jV w m1 m2 r.Heap s.Heap∧dV (nF w m2) cs s.ai
section
variable {w w':World} {lo t:Nat} {r:ik} {s:ak} {G1 cs:List dL}
theorem Oj.MO (h:SX w lo r s cs) : km w lo r s:=⟨h.words,h.heap,⟨cs,h.row,h.each⟩⟩
end
open Go.RowKit
open Go.RowKit
structure kT (w:World) (lo:Nat) (m li lv:fD) (ls:List bO) (h:Heap) : Prop where
 cT:Own w lo 3 1 bB m.A m.n m.c h.bT
 live:Own w lo 165 3 aA lv.A lv.n lv.c h.Live
 lists:dE w lo li ls h.aj
section
variable {w w':World} {lo t:Nat} {m li lv:fD} {ls:List bO} {h:Heap}
theorem kT.ext (a:kT w lo m li lv ls h) (hx:Ext w w') : kT w' lo m li lv ls h:=⟨a.cT.ext hx,a.live.ext hx,a.lists.ext hx⟩
theorem kT.au (a:kT w lo m li lv ls h) (hG:tZ w w' t) (cr:(Nat.beq t 3 || (Nat.beq t 165 || Nat.beq t 142))=false) : kT w' lo m li lv ls h:=by
 simp only [Bool.or_eq_false_iff] at cr;obtain ⟨h1,h2,h3⟩:=cr;exact ⟨a.cT.au hG h1,a.live.au hG h2,a.lists.au hG (by simp [h1,h3])⟩
theorem gq.split {r:gb} (a:gq w lo r h) {z0 z1:ab} (hz:h.aL=[z0,z1]) : ∃ g c u0 u1 ls,r.aL=⟨some ⟨g,0,none⟩,2,c⟩∧dM w lo g c u0 u1 (z0,z1)∧kT w lo r.bT r.aj r.Live ls h:=by
 obtain ⟨zs,wi⟩:=a.bz;obtain ⟨ls,Je⟩:=a.lists;have l0:=wi.each.len;rw [hz] at l0;obtain ⟨u0,u1,rfl⟩:=sM (show zs.length=2 from l0);have l1:=wi.row.len;have h0:=wi.each.get 0 (by simp) (by simp [hz]);have h1:=wi.each.get 1 (by simp) (by simp [hz]);simp only [hz] at h0 h1;have hc : 0<r.aL.c:=by have:=wi.row.le;simp at l1;omega
 obtain ⟨g,rest,hA,gQ,_⟩:=wi.row.opened hc;refine ⟨g,r.aL.c,u0,u1,ls,?_,⟨?_,h0,h1,gQ,hc⟩,⟨a.cT,a.live,Je⟩⟩
 ·rw [← hA];have:(2:Nat)=r.aL.n:=l1
  rw [this]
 ·have:=wi.row
  rw [hA,← l1] at this;exact this
theorem kT.join (a:kT w lo m li lv ls h) {g c:Nat} {u0 u1:bU} {s:ab×ab} (hZ:dM w lo g c u0 u1 s) {cp:Int} (hc:cp=h.bt) : gq w lo ⟨⟨some ⟨g,0,none⟩,2,c⟩,m,cp,.nil,lv⟩ ⟨[s.1,s.2],h.bT,h.bt,[],h.Live⟩ :=
 ⟨hc,a.cT,a.live,⟨[u0,u1],⟨hZ.row,dV.snoc (dV.snoc dV.nil hZ.z0) hZ.z1⟩⟩,⟨[],.nil _ _⟩⟩
end
structure G2 (w0 w:World) (g b:Nat) : Prop where
 os:w.os=w0.os
 tape:w.tape=w0.tape
 output:w.output=w0.output
 size:w0.heap.size≤w.heap.size
 block:∀ k,k<w0.heap.size→k≠g→k≠b→w.heap[k]?=w0.heap[k]?
section
variable {w0 w w':World} {g b k t:Nat} {cs:List Value}
theorem G2.refl (w:World) (g b:Nat) : G2 w w g b:=⟨rfl,rfl,rfl,Nat.le_refl _,fun _ _ _ _=>rfl⟩
theorem G2.step (h:G2 w0 w g b) {row:Option Nat} (hg:w.grownBy w' row) (hr:∀ k,row=some k→k=g∨k=b∨w0.heap.size≤k) : G2 w0 w' g b :=
 ⟨hg.os.trans h.os,hg.tape.trans h.tape,hg.output.trans h.output,Nat.le_trans h.size hg.size,fun k hk h1 h2=>by
  rw [hg.block k (Nat.lt_of_lt_of_le hk h.size) (fun e=>by rcases hr k e.symm with e|e|e<;>omega)];exact h.block k hk h1 h2⟩
theorem G2.ext (h:G2 w0 w g b) (hx:Ext w w') : G2 w0 w' g b:=h.step (hx.gr none) (fun k e=>by cases e)
theorem G2.MP (h:G2 w0 w g b) (hg:w.grownBy w' (some g)) : G2 w0 w' g b:=h.step hg (fun k e=>by cases e;exact .inl rfl)
theorem G2.MQ (h:G2 w0 w g b) (hg:w.grownBy w' (some b)) : G2 w0 w' g b:=h.step hg (fun k e=>by cases e;exact .inr (.inl rfl))
theorem G2.cU (h:G2 w0 w g b) (hB:aT w0 k t cs) (h1:k≠g) (h2:k≠b) : aT w k t cs:=(h.block k hB.lt h1 h2).trans hB
end
noncomputable def iq (h:Heap) (z0 z1:ab) (k:Nat) : ab×ab:=bh (z0,z1) ((aF h.aj).take k)
set_option maxHeartbeats 2000000 in
theorem Cj (h:Heap) (z0 z1:ab) (hd:jK h z0 z1) (hs:h.small) (m:fD) (cp:Int) (li lv:fD) (ls:List bO) (u0 u1:bU) (g c b1 lo:Nat) (w w0:World) (hw:Ext w w0) (gQ:w.heap.size≤lo) (Ek:lo≤w0.heap.size) (El:lo≤b1)
 (aB:aT w0 b1 41 (bW ⟨⟨some ⟨g,0,none⟩,2,c⟩,m,cp,li,lv⟩)) (hZ:dM w0 lo g c u0 u1 (z0,z1)) (hR:kT w0 lo m li lv ls h) :
 jr Tryz.prog 154 [.pointer (some ⟨b1,0,none⟩)] w0 fun v w'=>Ext w w'∧G2 w0 w' g b1∧aT w' b1 41 (bW ⟨⟨some ⟨g,0,none⟩,2,c⟩,m,cp,.nil,lv⟩)∧kT w' lo m li lv ls h ∧ ∃ u0 u1,dM w' lo g c u0 u1 (bh (z0,z1) (aF h.aj)):=by
 refine eG Tryz.func154 rfl Tryz.ntmps154 rfl ?_;have MR:w.heap.size≤g:=Nat.le_trans gQ hZ.A7
 have wP:w.heap.size≤b1:=Nat.le_trans gQ El
 have hE:=G2.refl w0 g b1;have nP:=hR.lists.rd.len;have s4:=hs.lists;have Ij:=hR.lists.row.sl.base;refine Wz ?_
 refine CW.loop (fun t:Nat×bU×bU=>[(0,.pointer (some ⟨b1,0,none⟩)),(9,.slice li.A li.n li.c),(10,.int .i64 (li.n:Int)),(11,.int .i64 (t.1:Int))])
  (fun t w'=>t.1≤li.n∧Ext w w'∧G2 w0 w' g b1∧lo≤w'.heap.size∧aT w' b1 41 (bW ⟨⟨some ⟨g,0,none⟩,2,c⟩,m,cp,li,lv⟩)∧dM w' lo g c t.2.1 t.2.2 (iq h z0 z1 (gm h.aj t.1))∧kT w' lo m li lv ls h) (fun t=>li.n-t.1) (0,u0,u1)
  ⟨rfl,rfl,rfl,rfl,trivial⟩ ⟨by omega,hw,hE,Ek,aB,by simpa [iq,gm,aF,bh] using hZ,hR⟩ ?_
 clear hw hE aB hZ hR Ij Ek;rintro ⟨i,u0,u1⟩ w' ⟨hi,hw,hE,Ek,aB,hZ,hR⟩
 simp only at hi hZ ⊢;have hA:=hR.lists.row.sl.base;by_cases gR:i<li.n
 ·have um:i<h.aj.length:=by omega
  have uo:i<ls.length:=by omega
  have re:=hR.lists.each.get i uo um;have Fo:=re.cb.sl.len;have Fp:=hs.cb _ (List.getElem_mem um);repeat' (first|refine Wz ?_|refine SW.st (ay rfl rfl ((hR.lists.row.sl.all gR))) rfl ?_)
  have qW:=hw.size;refine SW.alloc rfl fun b3 w1 aa bL aq => ?_
  skip;refine SW.ah aq rfl rfl rfl rfl (fu.one (enc:=bi) _) fun w2 cS hg => ?_
  have ao:=aa.own bL hg;have cJ:w.heap.size≤b3:=Nat.le_trans hw.size bL
  replace hw:=Ext.trans hw ao;replace aB:=aB.ext ao;replace hZ:=hZ.ext ao;replace hR:=hR.ext ao;replace hE:=hE.ext ao;replace aq:=cS;clear cS aa hg ao;have Kk:=(hR.lists.each.get i uo um).cb.sl.base;have Kl:lo≤w2.heap.size:=Nat.le_trans Ek (Nat.le_trans bL (Nat.le_of_lt aq.lt))
  refine Wz ?_
  refine CW.loop (fun t:Nat×bU×bU=>[(0,.pointer (some ⟨b1,0,none⟩)),(9,.slice li.A li.n li.c),(10,.int .i64 (li.n:Int)),(11,.int .i64 (i:Int)),(16,.slice ls[i].an.A ls[i].an.n ls[i].an.c),(17,.int .i64 (ls[i].an.n:Int)),(18,.int .i64 (t.1:Int))])
   (fun t w'=>t.1≤ls[i].an.n∧Ext w w'∧G2 w0 w' g b1∧lo≤w'.heap.size∧aT w' b1 41 (bW ⟨⟨some ⟨g,0,none⟩,2,c⟩,m,cp,li,lv⟩)∧dM w' lo g c t.2.1 t.2.2 (iq h z0 z1 (gm h.aj i+t.1))∧kT w' lo m li lv ls h) (fun t=>ls[i].an.n-t.1) (0,u0,u1)
   ⟨rfl,rfl,rfl,rfl,rfl,rfl,rfl,trivial⟩ ⟨by omega,hw,hE,Kl,aB,hZ,hR⟩ ?_
  clear hw hE aB hZ hR aq Ek Kl qW hA Kk bL cJ re;rintro ⟨j,u0,u1⟩ w' ⟨hj,hw,hE,Ek,aB,hZ,hR⟩
  simp only at hj hZ ⊢;by_cases mm:j<ls[i].an.n
  ·have nQ:j<h.aj[i].an.length:=by omega
   have re:=hR.lists.each.get i uo um;have Kk:=re.cb.sl.base;obtain ⟨hK,J3⟩:=rI um nQ;have hN:=hd.next hK;have hD:=hd.inv (gm h.aj i+j) (by omega);have hT:=jv (z0,z1) (aF h.aj) _ hK;rw [J3] at hN hT;have I8:iq h z0 z1 (gm h.aj i+(j+1))=ee (iq h z0 z1 (gm h.aj i+j)) (bj h.aj[i].an[j]):=hT
   repeat' (first|refine Wz ?_|refine SW.st (ax rfl (re.cb.sl.one mm rfl)) rfl ?_)
   refine SW.dy rfl rfl (qf m cp li lv u0 u1 _ _ (bj h.aj[i].an[j]) lo g c b1 _ aB hZ Ek hD hN) fun v w5 hv => ?_
   obtain ⟨hg,u2,u3,yX⟩:=hv;have hG:=hZ.gr hg;replace hw:=hw.own MR hg;replace hE:=hE.MP hg;replace aB:=aB.au hG rfl;replace hR:=hR.au hG rfl;replace Ek:=Nat.le_trans Ek hg.size;refine Wz ?_;refine ae.again (j+1,u2,u3) ⟨rfl,rfl,rfl,rfl,rfl,rfl,rfl,trivial⟩ (by simp only;omega) ⟨by simp only;omega,hw,hE,Ek,aB,?_,hR⟩;simp only;rw [I8];exact yX
  ·have ej:gm h.aj i+j=gm h.aj (i+1):=by rw [sI um];omega
   rw [ej] at hZ;refine Wz ?_;exact ae.again (i+1,u0,u1) ⟨rfl,rfl,rfl,rfl,trivial⟩ (by simp only;omega) ⟨by simp only;omega,hw,hE,Ek,aB,hZ,hR⟩
 ·have ei:i=h.aj.length:=by omega
  have Io:iq h z0 z1 (gm h.aj i)=bh (z0,z1) (aF h.aj):=by
   rw [ei,wa,iq,List.take_of_length_le (Nat.le_refl _)]
  rw [Io] at hZ;refine Wz ?_;refine SW.bp (i:=3) aB rfl rfl rfl rfl fun w6 nH hg => ?_
  have hG:=aB.gr hg;replace hw:=hw.own wP hg;refine Wz ?_;exact ae.uj rfl ⟨_,rfl,hw,hE.MQ hg,nH,hR.au hG rfl,u0,u1,hZ.au hG rfl⟩
open Go.RowKit
noncomputable def nX (z:ab) (a:Int) : Int×Int:=if df z then (if z.aw≤a∧a<z.To then (z.Types.getD ((a-z.aw) / 8).toNat 0,0) else (0,1)) else (0,8)
noncomputable def m7 (z:ab) : Int×Int:=if df z then (di z.ag,0) else (0,8)
theorem zU (r:bU) (z:ab) (w:World) (hr:yU w r z) (hf:r.ag.n≤100000000000000000) (ht:r.Types.n≤1000000000000000000) (h1 : -9223372036854775808≤r.aw∧r.aw≤9223372036854775807) (h2 : -9223372036854775808≤r.To∧r.To≤9223372036854775807) :
 bl Tryz.prog 245 [.agg (bG r).toArray] w fun v _=>v = .tuple #[.int .i64 (m7 z).1,.int .i64 (m7 z).2]:=by
 refine aD Tryz.func245 rfl Tryz.ntmps245 rfl ?_;refine CW.seq (CW.region (SW.box rfl rfl fun b1 w1 hw gX aB => ?_));have Fe:=hr.free.len;obtain ⟨q,hq⟩ : ∃ q,df z=q:=⟨_,rfl⟩
 have c1:∀ w',Ext w w'→bl Tryz.prog 176 [.agg (bG r).toArray] w' fun v _=>v = .int .i64 (if q then 0 else 8):=fun w' h=>by
  have:=gK r z w' (hr.ext h) (by omega) (by omega) h1 h2
  rwa [hq] at this
 cases q
 ·have e:m7 z=(0,8):=by simp [m7,hq]
  rw [e];simp only [Bool.false_eq_true,if_false] at c1;repeat' (first|refine Wz ?_|(refine SW.call rfl rfl (c1 _ hw) ?_;intro v w1 aa hv;subst hv;replace hw:=Ext.trans hw aa;replace aB:=aB.ext aa;clear aa))
  exact ae.dk rfl rfl rfl ⟨_,rfl,hw,rfl⟩
 ·simp only [if_true] at c1;have hz:=dc.1 hq;have e:m7 z=(di z.ag,0):=by simp [m7,hq]
  rw [e];repeat' (first|refine Wz ?_|(refine SW.call rfl rfl (c1 _ hw) ?_;intro v w1 aa hv;subst hv;replace hw:=Ext.trans hw aa;replace aB:=aB.ext aa;clear aa))
  refine CW.loop (fun k:Nat=>[(5,.int .i64 (di (z.ag.take k))),(14,.slice r.ag.A r.ag.n r.ag.c),(15,.int .i64 (r.ag.n:Int)),(16,.int .i64 (k:Int))]) (fun k w'=>k≤r.ag.n∧Ext w w') (fun k=>r.ag.n-k) 0 ⟨rfl,rfl,rfl,rfl,trivial⟩ ⟨by omega,hw⟩ ?_;clear hw aB;rintro k w' ⟨hk,hw⟩
  have hA:=hr.free.base;by_cases ey:k<r.ag.n
  ·have eV:=hr.free.lt ey;obtain ⟨f1,f2,_⟩:=(hz.cU k eV).1;have hp:=bM f1 f2;have et:=oJ z.ag k eV;have hs:=ki hz k (by omega);repeat' (first|refine Wz ?_|refine SW.st (aN hw rfl rfl ((hr.free.all ey))) rfl ?_)
   refine SW.alloc rfl fun b7 w3 iN iP bP => ?_
   have jq:w.heap.size≤b7:=Nat.le_trans hw.size iP
   replace hw:=Ext.trans hw iN;skip;refine SW.ah bP rfl rfl rfl rfl (fu.one (enc:=aA) _) fun w4 bu hg => ?_
   replace hw:=hw.own jq hg;repeat' (first|refine Wz ?_|(refine SW.st (fE (r:=pw (z.ag[k]).Order) rfl rfl (by omega) (by omega) (by simp [pw]) (by omega) (by omega)) rfl ?_))
   exact ae.again (k+1) ⟨by rw [et];rfl,rfl,rfl,rfl,trivial⟩ (by omega) ⟨by omega,hw⟩
  ·refine Wz ?_;refine ae.dk rfl rfl rfl ⟨_,rfl,hw,?_⟩;rw [List.take_of_length_le (by omega)]
open Go.RowKit
theorem Ip.zV (r:bU) (z:ab) (a:Int) (w:World) (hr:yU w r z) (hf:r.ag.n≤2305843009213693952) (ht:r.Types.n≤1000000000000000000) (h1 : -9223372036854775808≤r.aw∧r.aw≤9223372036854775807) (h2 : -9223372036854775808≤r.To∧r.To≤9223372036854775807) :
 bl Tryz.prog 111 [.agg (bG r).toArray,.int .i64 a] w fun v _=>v = .tuple #[.int .i64 (nX z a).1,.int .i64 (nX z a).2]:=by
 refine aD Tryz.func111 rfl Tryz.ntmps111 rfl ?_;refine CW.seq (CW.region (SW.box rfl rfl fun b1 w1 hw gX aB => ?_));have eF:=hr.from_;have eT:=hr.jA;have I5:=hr.types.len;obtain ⟨q,hq⟩ : ∃ q,df z=q:=⟨_,rfl⟩
 have c1:∀ w',Ext w w'→bl Tryz.prog 176 [.agg (bG r).toArray] w' fun v _=>v = .int .i64 (if q then 0 else 8):=fun w' h=>by
  have:=gK r z w' (hr.ext h) hf (by omega) h1 h2
  rwa [hq] at this
 have c2:∀ w',Ext w w'→bl Tryz.prog 195 [.agg (bG r).toArray] w' fun v _=>v = .bool q:=fun w' h=>by
  have:=xe r z w' (hr.ext h) hf ht h1 h2
  rwa [hq] at this
 cases q
 ·have e:nX z a=(0,8):=by simp [nX,hq]
  rw [e];simp only [Bool.false_eq_true,if_false] at c1;repeat' (first|refine Wz ?_|(refine SW.call rfl rfl (c1 _ hw) ?_;intro v w1 aa hv;subst hv;replace hw:=Ext.trans hw aa;replace aB:=aB.ext aa;clear aa))
  exact ae.dk rfl rfl rfl ⟨_,rfl,hw,rfl⟩
 ·simp only [if_true] at c1;have hz:=dc.1 hq;obtain ⟨o1,o2,o3,o4,o5⟩:=hz.ok;have hA:=hr.types.base;by_cases gR:z.aw≤a∧a<z.To
  ·obtain ⟨k,hk,eV⟩:=AH hz gR.1 gR.2;have ey:k<r.Types.n:=by omega
   have e:nX z a=(z.Types[k],0):=by simp [nX,hq,gR,hk,List.getD_eq_getElem?_getD,List.getElem?_eq_getElem eV]
   rw [e];obtain ⟨i1,i2⟩:=id gR;repeat' (first|refine Wz ?_|refine SW.st (bc (k) rfl rfl (by assumption) (by omega) (by omega)) rfl ?_|refine SW.st (aM hw rfl (hr.types.one ey rfl)) rfl ?_|(refine SW.call rfl rfl (c1 _ hw) ?_;intro v w1 aa hv;subst hv;replace hw:=Ext.trans hw aa;replace aB:=aB.ext aa;clear aa))
   all_goals try omega
   exact ae.dk rfl rfl rfl ⟨_,rfl,hw,rfl⟩
  ·have e:nX z a=(0,1):=by simp only [nX,hq,if_true,if_neg gR]
   rw [e];repeat' (first|refine Wz ?_|refine SW.en rfl rfl rfl (fun h => ?_) (fun h => ?_)|(refine SW.call rfl rfl (c1 _ hw) ?_;intro v w1 aa hv;subst hv;replace hw:=Ext.trans hw aa;replace aB:=aB.ext aa;clear aa))
   all_goals try omega
   all_goals exact ae.dk rfl rfl rfl ⟨_,rfl,hw,rfl⟩
def gE (lo:Nat) (o:Int×Heap) (v:Value) (w:World) : Prop := ∃ s:gb,v = .tuple #[.agg (bW s).toArray,.int .i64 o.1]∧gq w lo s o.2
theorem gE.zero (e:Int) (lo:Nat) (w:World) : gE lo (e,⟨[],[],0,[],[]⟩) (.tuple #[.agg (bW .zero).toArray,.int .i64 e]) w:=⟨.zero,rfl,gq.zero w lo⟩
theorem dV.two {α β:Type} {R : α → β → Prop} {a b : α} {c d : β} (h1:R a c) (h2:R b d) : dV R [a,b] [c,d]:=dV.snoc (dV.snoc dV.nil h1) h2
end Go.Proofs.YtbidkghlpijecaaGreatDoor
