/-
  Texts of the claim KmemAllocs, part 8: what its theorem leans on.
-/
import Derived.Test.YtbidkghlpijecaaGreatDoorPackKmemAllocs7
import Derived.Test.YtbidkghlpijecaaGreatDoorPackKmemAllocs2
import Derived.Test.YtbidkghlpijecaaGreatDoorPackKmemAllocs3
import Derived.Test.YtbidkghlpijecaaGreatDoorPackKmemAllocs5
import Derived.Test.YtbidkghlpijecaaGreatDoorPackKmemAllocs6
set_option linter.unusedVariables false
set_option linter.unusedSimpArgs false
namespace Go.Proofs.YtbidkghlpijecaaGreatDoor
open Go.RowKit
set_option maxHeartbeats 4000000 in
theorem vM (r s:eB) (h:Heap) (w:World) (ha:wI w r h) (hb:wI w s h) (hs:h.small) :
 bo Tryz.prog 54 [.agg (bm r).toArray,.agg (bm s).toArray] w fun v _=>v = .bool true:=by
 refine aI Tryz.func54 rfl Tryz.ntmps54 rfl ?_;refine CW.seq (CW.region (SW.box rfl rfl fun b2 w1 hw g7 aL => ?_));refine SW.box rfl rfl fun b3 w2 cq bH aq => ?_
 (replace hw:=Ext.trans hw cq;replace aL:=aL.ext cq);obtain ⟨zs,hz⟩:=ha.cQ;obtain ⟨ls,hl⟩:=ha.lists;obtain ⟨Mv,lN⟩:=hb.cQ;obtain ⟨vN,yx⟩:=hb.lists;obtain ⟨z1,z2⟩:=hz.len;obtain ⟨l1,l2⟩:=hl.len;obtain ⟨z3,z4⟩:=lN.len;obtain ⟨l3,l4⟩:=yx.len;have s1:=hs.ck;have s2:=hs.live;have s3:=hs.cQ;have s4:=hs.lists;have m1:=ha.ck.len;have m2:=ha.live.len;have e1:=ha.dY;have e2:=hb.dY
 have cM:∀ w',Ext w w'→bo Tryz.prog 53 [.slice r.bJ.A r.bJ.n r.bJ.c,.slice s.bJ.A s.bJ.n s.bJ.c] w' fun v _=>v = .bool true:=fun w' hx=>by
  have:=iA _ _ _ _ r.bJ.c s.bJ.c _ _ w' (ha.ck.ext hx) (hb.ck.ext hx) (by omega)
  simpa using this
 have cL:∀ w',Ext w w'→bo Tryz.prog 129 [.slice r.Live.A r.Live.n r.Live.c,.slice s.Live.A s.Live.n s.Live.c] w' fun v _=>v = .bool true:=fun w' hx=>by
  have:=mN _ _ _ _ r.Live.c s.Live.c _ _ w' (ha.live.ext hx) (hb.live.ext hx) (by omega)
  simpa using this
 repeat' (first|refine Wz ?_|(refine CW.bB rfl ?_)|refine SW.want rfl rfl ?_|((first|refine SW.call rfl rfl (cM _ hw) ?_|refine SW.call rfl rfl (cL _ hw) ?_);intro v w1 ab hv;subst hv;replace hw:=Ext.trans hw ab;replace aL:=aL.ext ab;replace aq:=aq.ext ab;clear ab))
 all_goals try omega
 refine CW.loop (fun k:Nat=>[(2,.pointer (some ⟨b2,0,none⟩)),(3,.pointer (some ⟨b3,0,none⟩)),(5,.int .i64 (k:Int))]) (fun k w'=>k≤r.aQ.n∧Ext w w'∧aJ w' b2 41 (bm r)∧aJ w' b3 41 (bm s)) (fun k=>r.aQ.n-k) 0
  ⟨rfl,rfl,rfl,trivial⟩ ⟨by omega,hw,aL,aq⟩ ?_
 clear hw aL aq;rintro k w' ⟨hk,hw,aL,aq⟩
 have hA:=hz.row.base;have hB:=lN.row.base;by_cases cb:k<r.aQ.n
 ·have CZ:k<s.aQ.n:=by omega
  have A6:=hz.each.get k (by omega) (by omega);have KS:=lN.each.get k (by omega) (by omega);have q:=hs.free _ (List.getElem_mem (show k<h.aQ.length by omega));have q1:=A6.free.len;have q2:=A6.types.len
  have cZ:∀ w',Ext w w'→bo Tryz.prog 130 [.agg (bp zs[k]).toArray,.agg (bp Mv[k]).toArray] w' fun v _=>v = .bool true:=fun w' hx=>by
   have:=vz zs[k] Mv[k] _ _ w' (A6.ext hx) (KS.ext hx) (by omega) (by omega)
   simpa using this
  repeat' (first|refine Wz ?_|(first|refine CW.bB rfl ?_|(apply CW.aP mixed;(· kernel_rfl);rotate_left;intro w1 ab;replace hw:=Ext.trans hw ab;replace aL:=aL.ext ab;replace aq:=aq.ext ab;clear ab;rotate_right))|refine SW.st (aH hw rfl rfl ((hz.row.all cb))) rfl ?_|refine SW.st (aH hw rfl rfl ((lN.row.all CZ))) rfl ?_|refine SW.br rfl rfl (fun w1 ab=>(cZ _ (Ext.trans hw ab))) ?_|exact SW.bx rfl)
  exact ae.again (k+1) ⟨rfl,rfl,rfl,trivial⟩ (by omega) ⟨by omega,hw,aL,aq⟩
 ·refine Wz ?_;clear cb hk hA hB
  refine CW.loop (fun k:Nat=>[(2,.pointer (some ⟨b2,0,none⟩)),(3,.pointer (some ⟨b3,0,none⟩)),(6,.int .i64 (k:Int))]) (fun k w'=>k≤r.av.n∧Ext w w'∧aJ w' b2 41 (bm r)∧aJ w' b3 41 (bm s)) (fun k=>r.av.n-k) 0
   ⟨rfl,rfl,rfl,trivial⟩ ⟨by omega,hw,aL,aq⟩ ?_
  clear hw aL aq;rintro k w' ⟨hk,hw,aL,aq⟩
  have hA:=hl.row.base;have hB:=yx.row.base;by_cases cb:k<r.av.n
  ·have CZ:k<s.av.n:=by omega
   have uq:=hl.each.get k (by omega) (by omega);have ET:=yx.each.get k (by omega) (by omega);have q:=hs.bL _ (List.getElem_mem (show k<h.av.length by omega));have q1:=uq.bL.len;have g1:=uq.cpu;have g2:=uq.fu;have g3:=uq.ty;have g4:=ET.cpu;have g5:=ET.fu;have g6:=ET.ty
   have cP:∀ w',Ext w w'→bo Tryz.prog 53 [.slice ls[k].ax.A ls[k].ax.n ls[k].ax.c,.slice vN[k].ax.A vN[k].ax.n vN[k].ax.c] w' fun v _=>v = .bool true:=fun w' hx=>by
    have:=iA _ _ _ _ ls[k].ax.c vN[k].ax.c _ _ w' (uq.bL.ext hx) (ET.bL.ext hx) (by omega)
    simpa using this
   repeat' (first|refine Wz ?_|refine SW.st (aH hw rfl rfl ((hl.row.all cb))) rfl ?_)
   refine SW.alloc rfl fun b7 w1 ab lm jY => ?_
   skip;refine SW.ak jY rfl rfl rfl rfl (sM _) fun w2 dJ hg => ?_
   have aj:=ab.own lm hg;have rr:w.heap.size≤b7:=Nat.le_trans hw.size lm
   replace hw:=Ext.trans hw aj;replace aL:=aL.ext aj;replace aq:=aq.ext aj;replace jY:=dJ;clear dJ ab hg aj;repeat' (first|refine Wz ?_|refine SW.st (aH hw rfl rfl ((yx.row.all CZ))) rfl ?_)
   refine SW.alloc rfl fun b8 w1 ab kY bw => ?_
   skip;refine SW.ak bw rfl rfl rfl rfl (sM _) fun w2 iU hg => ?_
   have aj:=ab.own kY hg;have jr:w.heap.size≤b8:=Nat.le_trans hw.size kY
   replace hw:=Ext.trans hw aj;replace aL:=aL.ext aj;replace aq:=aq.ext aj;replace jY:=jY.ext aj;replace bw:=iU;clear iU ab hg aj;repeat' (first|refine Wz ?_|(refine CW.bB rfl ?_)|(refine SW.call rfl rfl (cP _ hw) ?_;intro v w1 ab hv;subst hv;replace hw:=Ext.trans hw ab;replace aL:=aL.ext ab;replace aq:=aq.ext ab;clear ab))
   all_goals try omega
   exact ae.again (k+1) ⟨rfl,rfl,rfl,trivial⟩ (by omega) ⟨by omega,hw,aL,aq⟩
  ·refine Wz ?_;exact ae.aO rfl rfl ⟨_,rfl,hw,rfl⟩
open Go.RowKit
theorem ur (A:Option Addr) (n c:Nat) (l:List Slab) (w:World) (hl:Sl w 3 aY A n l) (hn:n*24≤140737488355328) : bo Tryz.prog 85 [.slice A n c] w (pW w 91 3 aY n l):=by
 refine aI Tryz.func85 rfl Tryz.ntmps85 rfl ?_;have hw:=Ext.refl w;refine Wz ?_;refine SW.st (oW rfl rfl) rfl ?_;repeat' (first|refine Wz ?_|(refine CW.cond rfl (fun h => ?_) (fun h => ?_)))
 ·have EI:n=0:=by
   rcases Nat.eq_zero_or_pos n with h0|h0
   ·exact h0
   ·have:=hl.base h0;simp_all
  subst EI;have:l=[]:=List.eq_nil_of_length_eq_zero hl.len
  subst this;exact ae.aO rfl rfl ⟨_,rfl,hw,none,0,rfl,Own.eJ _ _ _ _ _ _⟩
 ·refine SW.vu rfl fun b w1 ab hb => ?_
  replace hw:=Ext.trans hw ab;refine Wz ?_;refine SW.rN (Nat.zero_add n) (List.nil_append l) (Own.eJ w1 w.heap.size _ _ aY (some ⟨b,0,none⟩)) (hl.ext hw) hw.size rfl rfl rfl (by omega) (by omega) fun A2 c2 w2 hO hg => ?_
  replace hw:=aF hw hg (Nat.le_refl _) (by simp [aU]);refine Wz ?_;exact ae.aO rfl rfl ⟨_,rfl,hw,A2,c2,rfl,hO⟩
open Go.RowKit
structure bf where
 Names:List ByteArray
 bg:Int
 cm:Int
 Order:Int
 ai:List Slab
 au:List Int
structure aE where
 Words:List Int
 Heap:Heap
 aa:List bf
def encStr (s:ByteArray) : List Value:=[.string s]
instance:fw encStr 1:=⟨fun _=>rfl,fun r u hu=>by simp [encStr] at hu;subst hu;rfl⟩
structure dr where
 Names:fF
 bg:Int
 cm:Int
 Order:Int
 ai:fF
 au:fF
def dh (r:dr) : List Value:=[r.Names.v,.int .i64 r.bg,.int .i64 r.cm,.int .i64 r.Order,r.ai.v,r.au.v]
instance:fw dh 6:=⟨fun _=>rfl,fun r u hu=>by simp [dh,fF.v] at hu;rcases hu with rfl|rfl|rfl|rfl|rfl|rfl<;>rfl⟩
structure dQ where
 Words:fF
 Heap:eB
 aa:fF
def aR (r:dQ) : List Value:=[r.Words.v,r.Heap.aQ.v,r.Heap.bJ.v,.int .i64 r.Heap.bY,r.Heap.av.v,r.Heap.Live.v,r.aa.v]
instance:fw aR 7:=⟨fun _=>rfl,fun r u hu=>by simp [aR,fF.v] at hu;rcases hu with rfl|rfl|rfl|rfl|rfl|rfl|rfl<;>rfl⟩
def dQ.zero:dQ:=⟨.nil,.zero,.nil⟩
theorem sO (r:dr) : ∀ v∈dh r,v.oneCell'=true:=fw.one (enc:=dh) r
theorem cr (r:dQ) : ∀ v∈aR r,v.oneCell'=true:=fw.one (enc:=aR) r
theorem fY {w:World} {b t:Nat} {r:dQ} (h:aJ w b t (aR r)) : ∀ j v,(bm r.Heap)[j]?=some v→w.cell? ((((⟨b,0,none⟩ : Addr)).add 1).add j)=some v:=fun j v hv=>by
 rw [add_add];refine h.cell (i:=1+j) ?_
 match j,hv with
 | 0,hv=>exact hv
 | 1,hv=>exact hv
 | 2,hv=>exact hv
 | 3,hv=>exact hv
 | 4,hv=>exact hv
 | j+5,hv=>simp [bm] at hv
theorem Own.FM {α:Type} {w:World} {lo:Nat} {e:TypeId} {sz:Nat} {enc : α → List Value} {A:Option Addr} {n c:Nat} {l:List α} (h:Own w lo e sz enc A n c l) : n≤c:=by
 rcases h.row with ⟨rfl,rfl⟩|⟨_,_,_,_,_,_,h,_⟩
 ·exact Nat.le_refl _
 ·exact h
structure Cf (w:World) (r:dr) (c:bf) : Prop where
 size:r.bg=c.bg
 ji:r.cm=c.cm
 order:r.Order=c.Order
 names:Sl w 1 encStr r.Names.A r.Names.n c.Names
 aS:Sl w 3 aY r.ai.A r.ai.n c.ai
 a8:Sl w 1 bd r.au.A r.au.n c.au
 cap:r.au.n≤r.au.c
structure mF (w:World) (lo:Nat) (r:dr) (c:bf) : Prop where
 size:r.bg=c.bg
 ji:r.cm=c.cm
 order:r.Order=c.Order
 names:Own w lo 9 1 encStr r.Names.A r.Names.n r.Names.c c.Names
 aS:Own w lo 91 3 aY r.ai.A r.ai.n r.ai.c c.ai
 a8:Own w lo 3 1 bd r.au.A r.au.n r.au.c c.au
section
variable {w w':World} {lo mm t:Nat} {r:dr} {c:bf}
theorem Cf.ext (h:Cf w r c) (hx:Ext w w') : Cf w' r c:=⟨h.size,h.ji,h.order,h.names.ext hx,h.aS.ext hx,h.a8.ext hx,h.cap⟩
theorem mF.ext (h:mF w lo r c) (hx:Ext w w') : mF w' lo r c:=⟨h.size,h.ji,h.order,h.names.ext hx,h.aS.ext hx,h.a8.ext hx⟩
theorem mF.low (h:mF w lo r c) (hl:mm≤lo) : mF w mm r c:=⟨h.size,h.ji,h.order,h.names.low hl,h.aS.low hl,h.a8.low hl⟩
theorem mF.rd (h:mF w lo r c) : Cf w r c:=⟨h.size,h.ji,h.order,h.names.sl,h.aS.sl,h.a8.sl,h.a8.FM⟩
theorem mF.ay (h:mF w lo r c) (hG:oa w w' t) (cG:(Nat.beq t 9 || (Nat.beq t 91 || Nat.beq t 3))=false) : mF w' lo r c:=by
 simp only [Bool.or_eq_false_iff] at cG;exact ⟨h.size,h.ji,h.order,h.names.ay hG cG.1,h.aS.ay hG cG.2.1,h.a8.ay hG cG.2.2⟩
end
structure yR (w:World) (s:fF) (cs:List dr) (l:List bf) : Prop where
 row:Sl w 6 dh s.A s.n cs
 each:eA (Cf w) cs l
 cap:s.n≤s.c
structure dX (w:World) (lo:Nat) (s:fF) (cs:List dr) (l:List bf) : Prop where
 row:Own w lo 89 6 dh s.A s.n s.c cs
 each:eA (mF w lo) cs l
section
variable {w w':World} {lo mm t:Nat} {s:fF} {cs:List dr} {l:List bf}
theorem yR.ext (h:yR w s cs l) (hx:Ext w w') : yR w' s cs l:=⟨h.row.ext hx,h.each.mono fun _ _ h=>h.ext hx,h.cap⟩
theorem dX.ext (h:dX w lo s cs l) (hx:Ext w w') : dX w' lo s cs l:=⟨h.row.ext hx,h.each.mono fun _ _ h=>h.ext hx⟩
theorem dX.low (h:dX w lo s cs l) (hl:mm≤lo) : dX w mm s cs l:=⟨h.row.low hl,h.each.mono fun _ _ h=>h.low hl⟩
theorem dX.rd (h:dX w lo s cs l) : yR w s cs l:=⟨h.row.sl,h.each.mono fun _ _ h=>h.rd,h.row.FM⟩
theorem dX.ay (h:dX w lo s cs l) (hG:oa w w' t) (cG:(Nat.beq t 89 || (Nat.beq t 9 || (Nat.beq t 91 || Nat.beq t 3)))=false) : dX w' lo s cs l:=by
 rw [Bool.or_eq_false_iff] at cG;exact ⟨h.row.ay hG cG.1,h.each.mono fun _ _ h=>h.ay hG cG.2⟩
theorem dX.nil (w:World) (lo:Nat) : dX w lo .nil [] []:=⟨Own.eJ _ _ _ _ _ _,.nil⟩
theorem yR.len (h:yR w s cs l) : cs.length=s.n∧l.length=s.n:=⟨h.row.len,by rw [← h.each.len,h.row.len]⟩
theorem dX.c8 {b:Nat} {vs:List Value} (h:dX w lo s cs l) (hB:aJ w b 89 vs) (hg:w.grownBy w' (some b)) (de:∀ k,aU s.A s.c=some k→k<mm) (hm:mm≤b) : dX w' lo s cs l :=
 ⟨h.row.grown hg (.inr (fun e=>by have:=de _ e;omega)),h.each.mono fun _ _ h=>h.ay (hB.gr hg) rfl⟩
end
structure qR (w:World) (r:dQ) (s:aE) : Prop where
 words:Sl w 1 bd r.Words.A r.Words.n s.Words
 heap:wI w r.Heap s.Heap
 dn:∃ cs,yR w r.aa cs s.aa
structure na (w:World) (lo:Nat) (r:dQ) (s:aE) : Prop where
 words:Own w lo 3 1 bd r.Words.A r.Words.n r.Words.c s.Words
 heap:iD w lo r.Heap s.Heap
 dn:∃ cs,dX w lo r.aa cs s.aa
section
variable {w w':World} {lo mm t:Nat} {r:dQ} {s:aE}
theorem qR.ext (h:qR w r s) (hx:Ext w w') : qR w' r s:=by
 obtain ⟨cs,hc⟩:=h.dn;exact ⟨h.words.ext hx,h.heap.ext hx,⟨cs,hc.ext hx⟩⟩
theorem na.ext (h:na w lo r s) (hx:Ext w w') : na w' lo r s:=by
 obtain ⟨cs,hc⟩:=h.dn;exact ⟨h.words.ext hx,h.heap.ext hx,⟨cs,hc.ext hx⟩⟩
theorem na.low (h:na w lo r s) (hl:mm≤lo) : na w mm r s:=by
 obtain ⟨cs,hc⟩:=h.dn;exact ⟨h.words.low hl,h.heap.low hl,⟨cs,hc.low hl⟩⟩
theorem na.rd (h:na w lo r s) : qR w r s:=by
 obtain ⟨cs,hc⟩:=h.dn;exact ⟨h.words.sl,h.heap.rd,⟨cs,hc.rd⟩⟩
end
structure bf.small (c:bf) : Prop where
 names:c.Names.length*16≤140737488355328
 aS:c.ai.length*24≤140737488355328
 a8:c.au.length*8≤140737488355328
structure aE.small (s:aE) : Prop where
 words:s.Words.length*8≤140737488355328
 heap:s.Heap.small
 dn:s.aa.length*96≤140737488355328
 each:∀ c∈s.aa,c.small
open Go.RowKit
instance:xi Tryz.prog 9:=⟨by kernel_rfl⟩
theorem GZ:Tryz.prog.underlying 5=some (.int .u8):=by kernel_rfl
theorem oB (A:Option Addr) (n c:Nat) (l:List UInt8) (w:World) (hl:Sl w 1 vL A n l) (f:FuncId) (cap:List Value) [Body Tryz.prog f] (p:UInt8→Bool) (arg:UInt8→Value) (mQ:∀ x,arg x=(if 1=1 then (vL x)[0]?.getD undef else .agg (vL x).toArray))
 (hf:∀ x∈l,∀ w',Ext w w'→bo Tryz.prog f ([arg x]++cap) w' fun v _=>v = .bool (p x)) (hn:n≤9223372036854775807) :
 bo Tryz.prog 232 [.slice A n c,.func (.func f) #[] cap.toArray] w fun v _=>v = .int .i64 (idxOf p l):=by
 refine aI Tryz.func232 rfl Tryz.ntmps232 rfl ?_;have hw:=Ext.refl w;have hA:=hl.base;refine Wz ?_;refine CW.loop (fun k:Nat=>[(0,.slice A n c),(1,.func (.func f) #[] cap.toArray),(7,.int .i64 (n:Int)),(8,.int .i64 (k:Int))]) (fun k w'=>k≤n∧Ext w w' ∧ ∀ j (hj:j<l.length),j<k→p l[j]=false) (fun k=>n-k) 0 ⟨rfl,rfl,rfl,rfl,trivial⟩ ⟨by omega,hw,fun j _ h=>by omega⟩ ?_;clear hw;rintro k w' ⟨oR,hw,hI⟩
 by_cases hk:k<n
 ·have hx:=mQ (l[k]'(hl.lt hk));have pa:=hf (l[k]'(hl.lt hk)) (List.getElem_mem _);rw [hx] at pa;repeat' (first|refine Wz ?_|refine SW.st (ap hw rfl (hl.one hk rfl)) rfl ?_)
  refine SW.oY rfl rfl rfl (pa _ hw) fun v w1 ab hv => ?_
  subst hv;replace hw:=Ext.trans hw ab;cases hp:p (l[k]'(hl.lt hk))
  ·refine Wz ?_;refine ae.again (k+1) ⟨rfl,rfl,rfl,rfl,trivial⟩ (by omega) ⟨by omega,hw,fun j hj h => ?_⟩;by_cases lg:j=k
   ·subst lg;exact hp
   ·exact hI j hj (by omega)
  ·refine Wz ?_;exact ae.aO rfl rfl ⟨_,rfl,hw,by rw [ib (hl.lt hk) hp hI]⟩
 ·refine Wz ?_;exact ae.aO rfl rfl ⟨_,rfl,hw,by rw [(fq (fun j hj=>hI j hj (by have:=hl.len;omega))).1]⟩
theorem iF (A:Option Addr) (n c:Nat) (l:List Slab) (w:World) (hl:Sl w 3 aY A n l) (f:FuncId) (cap:List Value) [Body Tryz.prog f] (p:Slab→Bool) (arg:Slab→Value) (mQ:∀ x,arg x=(if 3=1 then (aY x)[0]?.getD undef else .agg (aY x).toArray))
 (hf:∀ x∈l,∀ w',Ext w w'→bo Tryz.prog f ([arg x]++cap) w' fun v _=>v = .bool (p x)) (hn:n≤9223372036854775807) :
 bo Tryz.prog 190 [.slice A n c,.func (.func f) #[] cap.toArray] w fun v _=>v = .int .i64 (idxOf p l):=by
 refine aI Tryz.func190 rfl Tryz.ntmps190 rfl ?_;have hw:=Ext.refl w;have hA:=hl.base;refine Wz ?_;refine CW.loop (fun k:Nat=>[(0,.slice A n c),(1,.func (.func f) #[] cap.toArray),(7,.int .i64 (n:Int)),(8,.int .i64 (k:Int))]) (fun k w'=>k≤n∧Ext w w' ∧ ∀ j (hj:j<l.length),j<k→p l[j]=false) (fun k=>n-k) 0 ⟨rfl,rfl,rfl,rfl,trivial⟩ ⟨by omega,hw,fun j _ h=>by omega⟩ ?_;clear hw;rintro k w' ⟨oR,hw,hI⟩
 by_cases hk:k<n
 ·have hx:=mQ (l[k]'(hl.lt hk));have pa:=hf (l[k]'(hl.lt hk)) (List.getElem_mem _);rw [hx] at pa;repeat' (first|refine Wz ?_|refine SW.st (aH hw rfl rfl ((hl.all hk))) rfl ?_)
  refine SW.oY rfl rfl rfl (pa _ hw) fun v w1 ab hv => ?_
  subst hv;replace hw:=Ext.trans hw ab;cases hp:p (l[k]'(hl.lt hk))
  ·refine Wz ?_;refine ae.again (k+1) ⟨rfl,rfl,rfl,rfl,trivial⟩ (by omega) ⟨by omega,hw,fun j hj h => ?_⟩;by_cases lg:j=k
   ·subst lg;exact hp
   ·exact hI j hj (by omega)
  ·refine Wz ?_;exact ae.aO rfl rfl ⟨_,rfl,hw,by rw [ib (hl.lt hk) hp hI]⟩
 ·refine Wz ?_;exact ae.aO rfl rfl ⟨_,rfl,hw,by rw [(fq (fun j hj=>hI j hj (by have:=hl.len;omega))).1]⟩
theorem kI (A:Option Addr) (n c:Nat) (l:List dr) (w:World) (hl:Sl w 6 dh A n l) (f:FuncId) (cap:List Value) [Body Tryz.prog f] (p:dr→Bool) (arg:dr→Value) (mQ:∀ x,arg x=(if 6=1 then (dh x)[0]?.getD undef else .agg (dh x).toArray))
 (hf:∀ x∈l,∀ w',Ext w w'→bo Tryz.prog f ([arg x]++cap) w' fun v _=>v = .bool (p x)) (hn:n≤9223372036854775807) :
 bo Tryz.prog 137 [.slice A n c,.func (.func f) #[] cap.toArray] w fun v _=>v = .int .i64 (idxOf p l):=by
 refine aI Tryz.func137 rfl Tryz.ntmps137 rfl ?_;have hw:=Ext.refl w;have hA:=hl.base;refine Wz ?_;refine CW.loop (fun k:Nat=>[(0,.slice A n c),(1,.func (.func f) #[] cap.toArray),(7,.int .i64 (n:Int)),(8,.int .i64 (k:Int))]) (fun k w'=>k≤n∧Ext w w' ∧ ∀ j (hj:j<l.length),j<k→p l[j]=false) (fun k=>n-k) 0 ⟨rfl,rfl,rfl,rfl,trivial⟩ ⟨by omega,hw,fun j _ h=>by omega⟩ ?_;clear hw;rintro k w' ⟨oR,hw,hI⟩
 by_cases hk:k<n
 ·have hx:=mQ (l[k]'(hl.lt hk));have pa:=hf (l[k]'(hl.lt hk)) (List.getElem_mem _);rw [hx] at pa;repeat' (first|refine Wz ?_|refine SW.st (aH hw rfl rfl ((hl.all hk))) rfl ?_)
  refine SW.oY rfl rfl rfl (pa _ hw) fun v w1 ab hv => ?_
  subst hv;replace hw:=Ext.trans hw ab;cases hp:p (l[k]'(hl.lt hk))
  ·refine Wz ?_;refine ae.again (k+1) ⟨rfl,rfl,rfl,rfl,trivial⟩ (by omega) ⟨by omega,hw,fun j hj h => ?_⟩;by_cases lg:j=k
   ·subst lg;exact hp
   ·exact hI j hj (by omega)
  ·refine Wz ?_;exact ae.aO rfl rfl ⟨_,rfl,hw,by rw [ib (hl.lt hk) hp hI]⟩
 ·refine Wz ?_;exact ae.aO rfl rfl ⟨_,rfl,hw,by rw [(fq (fun j hj=>hI j hj (by have:=hl.len;omega))).1]⟩
theorem mG (A:Option Addr) (n c:Nat) (l:List UInt8) (w:World) (hl:Sl w 1 vL A n l) (f:FuncId) (cap:List Value) [Body Tryz.prog f] (p:UInt8→Bool) (arg:UInt8→Value) (mQ:∀ x,arg x=(if 1=1 then (vL x)[0]?.getD undef else .agg (vL x).toArray))
 (hf:∀ x∈l,∀ w',Ext w w'→bo Tryz.prog f ([arg x]++cap) w' fun v _=>v = .bool (p x)) (hn:n≤9223372036854775807) :
 bo Tryz.prog 182 [.slice A n c,.func (.func f) #[] cap.toArray] w fun v _=>v = .bool (l.any p):=by
 refine aI Tryz.func182 rfl Tryz.ntmps182 rfl ?_;have hw:=Ext.refl w;repeat' (first|refine Wz ?_|(refine SW.call rfl rfl (oB _ _ _ _ _ (hl.ext hw) f cap p arg mQ (fun x hx w1 h1=>hf x hx w1 (Ext.trans hw h1)) hn) ?_;intro v w1 ab hv;subst hv;replace hw:=Ext.trans hw ab;clear ab))
 exact ae.aO rfl rfl ⟨_,rfl,hw,by rw [iC]⟩
theorem nb (A:Option Addr) (n c:Nat) (l:List dr) (w:World) (hl:Sl w 6 dh A n l) (f:FuncId) (cap:List Value) [Body Tryz.prog f] (p:dr→Bool) (arg:dr→Value) (mQ:∀ x,arg x=(if 6=1 then (dh x)[0]?.getD undef else .agg (dh x).toArray))
 (hf:∀ x∈l,∀ w',Ext w w'→bo Tryz.prog f ([arg x]++cap) w' fun v _=>v = .bool (p x)) (hn:n≤9223372036854775807) :
 bo Tryz.prog 90 [.slice A n c,.func (.func f) #[] cap.toArray] w fun v _=>v = .bool (l.any p):=by
 refine aI Tryz.func90 rfl Tryz.ntmps90 rfl ?_;have hw:=Ext.refl w;repeat' (first|refine Wz ?_|(refine SW.call rfl rfl (kI _ _ _ _ _ (hl.ext hw) f cap p arg mQ (fun x hx w1 h1=>hf x hx w1 (Ext.trans hw h1)) hn) ?_;intro v w1 ab hv;subst hv;replace hw:=Ext.trans hw ab;clear ab))
 exact ae.aO rfl rfl ⟨_,rfl,hw,by rw [iC]⟩
def ly (b:UInt8) : Bool:=(decide ((b.toNat:Int)<97) || decide (122<(b.toNat:Int))) && (decide ((b.toNat:Int)<48) || decide (57<(b.toNat:Int)))
def gm (s:ByteArray) : Bool:=decide (1≤(s.size:Int)∧(s.size:Int)≤8) && !(s.data.toList.any ly)
theorem EU {s:ByteArray} (h : 1≤s.size∧s.size≤8) (k:s.data.toList.any ly=false) : gm s=true:=by
 unfold gm;rw [k,decide_eq_true (by omega)]
 rfl
theorem yS {s:ByteArray} (h : ¬ (1≤s.size∧s.size≤8)) : gm s=false:=by
 unfold gm;rw [decide_eq_false (by omega)]
 rfl
theorem uV {s:ByteArray} (k:s.data.toList.any ly=true) : gm s=false:=by
 unfold gm;rw [k];simp
theorem C0 (b:UInt8) (w:World) : bo Tryz.prog 183 ([.int .u8 b.toNat]++[]) w fun v _=>v = .bool (ly b):=by
 refine aI Tryz.func183 rfl Tryz.ntmps183 rfl ?_;have hw:=Ext.refl w;unfold ly;obtain ⟨z,hz⟩ : ∃ z:Int,(b.toNat:Int)=z:=⟨_,rfl⟩;rw [hz];by_cases a1:z<97
 ·by_cases a2:z<48
  ·refine Wz ?_;exact ae.aO rfl rfl ⟨_,rfl,hw,by simp [a1,a2]<;>omega⟩
  ·refine Wz ?_;exact ae.aO rfl rfl ⟨_,rfl,hw,by simp [a1,a2]<;>omega⟩
 ·by_cases a2 : 122<z
  ·refine Wz ?_;exact ae.aO rfl rfl ⟨_,rfl,hw,by simp [a1,a2]<;>omega⟩
  ·refine Wz ?_;exact ae.aO rfl rfl ⟨_,rfl,hw,by simp [a1,a2]<;>omega⟩
theorem C1 (s:ByteArray) (w:World) (hs:s.size≤140737488351232) : bo Tryz.prog 92 [.string s] w fun v _=>v = .bool (gm s):=by
 refine aI Tryz.func92 rfl Tryz.ntmps92 rfl ?_;have hw:=Ext.refl w;by_cases h0:s=⟨#[]⟩
 ·subst h0;repeat' (first|refine Wz ?_|refine SW.cV rfl rfl rfl (fun h => ?_) (fun h => ?_)|(refine SW.st (iE rfl rfl) rfl ?_))
  all_goals first|(exfalso;simp_all;done)|skip
  exact ae.aO rfl rfl ⟨_,rfl,hw,rfl⟩
 ·by_cases h8:s.size≤8
  ·have h1 : 1≤s.size:=by
    rcases Nat.eq_zero_or_pos s.size with h|h
    ·exact absurd (by cases s;simp [ByteArray.size] at h;subst h;rfl) h0
    ·exact h
   have cG:decide (s=⟨#[]⟩)=false:=decide_eq_false h0
   repeat' (first|refine Wz ?_|(refine SW.st ((iE rfl rfl).eq (congrArg Value.bool cG)) rfl ?_)|refine SW.st (po rfl) rfl ?_)
   refine SW.AZ (e:=5) GZ rfl rfl fun b c w1 ab hb hS => ?_
   replace hw:=Ext.trans hw ab;refine SW.call rfl rfl (mG _ _ _ _ _ hS _ [] ly (fun x => .int .u8 x.toNat) (fun x=>rfl) (fun x _ w1 _=>C0 x w1) (by omega)) fun v w2 cq hv => ?_
   subst hv;replace hw:=Ext.trans hw cq;refine Wz ?_;refine ae.aO rfl rfl ⟨_,rfl,hw,?_⟩;cases k:s.data.toList.any ly
   ·rw [EU ⟨h1,h8⟩ k];rfl
   ·rw [uV k];rfl
  ·have cG:decide (s=⟨#[]⟩)=false:=decide_eq_false h0
   rw [yS (by omega)];repeat' (first|refine Wz ?_|(refine SW.st ((iE rfl rfl).eq (congrArg Value.bool cG)) rfl ?_)|refine SW.st (po rfl) rfl ?_)
   exact ae.aO rfl rfl ⟨_,rfl,hw,rfl⟩
theorem xm (s:ByteArray) (w:World) (hs:s.size≤140737488351232) : bo Tryz.prog 116 [.string s] w fun v _=>v = .bool (gm s):=by
 refine aI Tryz.func116 rfl Tryz.ntmps116 rfl ?_;have hw:=Ext.refl w;refine Wz ?_;have El:s.data.toList.length=s.size:=Array.length_toList
 refine CW.loop (fun k:Nat=>[(0,.string s),(3,.int .i64 (k:Int))]) (fun k w'=>k≤s.size∧Ext w w' ∧ ∀ (i:Nat) (h:i<s.data.toList.length),i<k→ly s.data.toList[i]=false) (fun k=>s.size-k) 0 ⟨rfl,rfl,trivial⟩ ⟨by omega,hw,fun i h h'=>by omega⟩ ?_;clear hw;rintro k w' ⟨hk,hw,hI⟩
 by_cases nF:k<s.size
 ·have dk:k<s.data.toList.length:=by omega
  have eb:s[k]'nF=s.data.toList[k]:=rfl
  obtain ⟨q,hq⟩ : ∃ q,ly s.data.toList[k]=q:=⟨_,rfl⟩;obtain ⟨z,hz⟩ : ∃ z:Int,((s.data.toList[k]).toNat:Int)=z:=⟨_,rfl⟩;have lN:(((s[k]'nF).toNat:Nat) : Int)=z:=hz
  have H4:=hq;unfold ly at H4;rw [hz] at H4;cases q
  ·have hc:(97≤z∧z≤122)∨(48≤z∧z≤57):=by
    simp at H4;omega
   repeat' (first|refine Wz ?_|(refine CW.bB rfl ?_)|refine SW.cV rfl rfl rfl (fun h => ?_) (fun h => ?_)|refine SW.st (po rfl) rfl ?_|(refine SW.st ((Am k rfl rfl rfl nF).eq (congrArg (Value.int .u8) lN)) rfl ?_))
   all_goals try omega
   all_goals exact ae.again (k+1) ⟨rfl,rfl,trivial⟩ (by omega) ⟨by omega,hw,fun i h h'=>by
    by_cases e:i=k
    ·subst e;exact hq
    ·exact hI i h (by omega)⟩
  ·have hc : ¬ ((97≤z∧z≤122)∨(48≤z∧z≤57)):=by
    simp at H4;omega
   have hn:gm s=false:=uV (List.any_eq_true.2 ⟨_,List.getElem_mem dk,hq⟩)
   rw [hn];repeat' (first|refine Wz ?_|(refine CW.bO rfl ?_)|refine SW.cV rfl rfl rfl (fun h => ?_) (fun h => ?_)|refine SW.st (po rfl) rfl ?_|(refine SW.st ((Am k rfl rfl rfl nF).eq (congrArg (Value.int .u8) lN)) rfl ?_))
   all_goals try omega
   all_goals exact ae.aO rfl rfl ⟨_,rfl,hw,rfl⟩
 ·have hn:s.data.toList.any ly=false:=by
   rw [List.any_eq_false];intro x hx;obtain ⟨i,hi,rfl⟩:=List.getElem_of_mem hx;rw [hI i hi (by omega)];simp
  repeat' (first|refine Wz ?_|(refine SW.call rfl rfl (bP _ _ _ _) ?_;intro v w1 ab hv;subst hv;replace hw:=Ext.trans hw ab;clear ab)|refine SW.st (po rfl) rfl ?_)
  refine ae.aO rfl rfl ⟨_,rfl,hw,?_⟩;unfold gm;rw [hn];simp
open Go.RowKit
def dZ (x:Int) : Int×Int×Int:=if 1≤x∧x≤64 then (if 4≤16 / x then (0,16 / x,0) else if 4≤32 / x then (1,32 / x,0) else (2,64 / x,0)) else (0,0,1)
def jj (x:Int) : Value := .tuple #[.int .i64 (dZ x).1,.int .i64 (dZ x).2.1,.int .i64 (dZ x).2.2]
theorem vO (x:Int) (w:World) : bo Tryz.prog 150 [.int .i64 x] w fun v _=>v=jj x:=by
 refine aI Tryz.func150 rfl Tryz.ntmps150 rfl ?_;have hw:=Ext.refl w;repeat' (first|refine Wz ?_|(first|refine CW.jG rfl (fun h => ?_) (fun h => ?_)|refine CW.jH rfl (fun h => ?_) (fun h => ?_)|(apply CW.aP mixed;(· kernel_rfl);rotate_left;intro w1 ab;replace hw:=Ext.trans hw ab;clear ab;rotate_right))|(refine SW.call rfl rfl (bP _ _ _ _) ?_;intro v w1 ab hv;subst hv;replace hw:=Ext.trans hw ab;clear ab)|exact SW.bx rfl)
 all_goals refine ae.AH rfl rfl rfl rfl ⟨_,rfl,hw,?_⟩
 all_goals unfold jj dZ
 ·rw [if_neg (by omega)]
 ·rw [if_pos (by omega),if_pos (by omega)]
 ·rw [if_pos (by omega),if_neg (by omega),if_pos (by omega)]
 ·rw [if_pos (by omega),if_neg (by omega),if_neg (by omega)]
theorem yT (x:Int) (w:World) : bo Tryz.prog 141 [.int .i64 x] w fun v _=>v=jj x:=by
 refine aI Tryz.func141 rfl Tryz.ntmps141 rfl ?_;have hw:=Ext.refl w;repeat' (first|refine Wz ?_|(refine CW.jG rfl (fun h => ?_) (fun h => ?_))|refine SW.cV rfl rfl rfl (fun h => ?_) (fun h => ?_))
 ·refine ae.AH rfl rfl rfl rfl ⟨_,rfl,hw,?_⟩;unfold jj dZ;rw [if_neg (by omega)]
 ·refine ae.AH rfl rfl rfl rfl ⟨_,rfl,hw,?_⟩;unfold jj dZ;rw [if_neg (by omega)]
 ·have hx : 1≤x∧x≤64:=by omega
  refine CW.loop (fun k:Nat=>[(0,.int .i64 x),(5,.int .i64 (k:Int))]) (fun k w'=>k≤2∧Ext w w'∧(1≤k → ¬ 4≤16 / x)∧(2≤k → ¬ 4≤32 / x)) (fun k=>2-k) 0 ⟨rfl,rfl,trivial⟩ ⟨by omega,hw,by omega,by omega⟩ ?_;clear hw;rintro k w' ⟨hk,hw,h1,h2⟩
  obtain rfl|rfl|rfl:k=0∨k=1∨k=2:=by omega
  ·refine Wz ?_;refine SW.st (eW (r:=16) rfl rfl (by decide) (by decide) (by decide) (by decide) (by decide)) rfl ?_;repeat' (first|refine Wz ?_|refine SW.cV rfl rfl rfl (fun h => ?_) (fun h => ?_))
   ·refine ae.AH rfl rfl rfl rfl ⟨_,rfl,hw,?_⟩;unfold jj dZ;rw [if_pos (by omega),if_pos (by omega)]
    rfl
   ·exact ae.again 1 ⟨rfl,rfl,trivial⟩ (by omega) ⟨by omega,hw,fun _=>by omega,fun h=>by omega⟩
  ·refine Wz ?_;refine SW.st (eW (r:=32) rfl rfl (by decide) (by decide) (by decide) (by decide) (by decide)) rfl ?_;repeat' (first|refine Wz ?_|refine SW.cV rfl rfl rfl (fun h => ?_) (fun h => ?_))
   ·refine ae.AH rfl rfl rfl rfl ⟨_,rfl,hw,?_⟩;have:=h1 (by omega)
    unfold jj dZ;rw [if_pos (by omega),if_neg (by omega),if_pos (by omega)]
    rfl
   ·exact ae.again 2 ⟨rfl,rfl,trivial⟩ (by omega) ⟨by omega,hw,fun _=>h1 (by omega),fun _=>by omega⟩
  ·refine Wz ?_;refine SW.st (eW (r:=64) rfl rfl (by decide) (by decide) (by decide) (by decide) (by decide)) rfl ?_;have NK:=h1 (by omega);have mx:=h2 (by omega);repeat' (first|refine Wz ?_|refine SW.cV rfl rfl rfl (fun h => ?_) (fun h => ?_))
   all_goals refine ae.AH rfl rfl rfl rfl ⟨_,rfl,hw,?_⟩
   all_goals unfold jj dZ
   all_goals rw [if_pos (by omega),if_neg (by omega),if_neg (by omega)]
   all_goals rfl
open Go.RowKit
def A7 (b:Bool) : List Value:=[.bool b]
instance:fw A7 1:=⟨fun _=>rfl,fun _ u hu=>by simp [A7] at hu;subst hu;rfl⟩
theorem vP (A:Option Addr) (n c:Nat) (l:List Int) (x:Int) (w:World) (hl:Sl w 1 bd A n l) (hn:n≤9223372036854775807) :
 bo Tryz.prog 186 [.slice A n c,.int .i64 x] w fun v _ => ∃ i:Int,v = .int .i64 i∧(0≤i↔x∈l):=by
 refine aI Tryz.func186 rfl Tryz.ntmps186 rfl ?_;have hw:=Ext.refl w;have hA:=hl.base;have mn:=hl.len;refine Wz ?_
 refine CW.loop (fun k:Nat=>[(0,.slice A n c),(1,.int .i64 x),(7,.int .i64 (n:Int)),(8,.int .i64 (k:Int))]) (fun k w'=>k≤n∧Ext w w' ∧ ∀ (i:Nat) (h:i<l.length),i<k→l[i]≠x)
  (fun k=>n-k) 0 ⟨rfl,rfl,rfl,rfl,trivial⟩ ⟨by omega,hw,fun i h hi=>by omega⟩ ?_
 clear hw;rintro k w' ⟨hk,hw,hI⟩
 by_cases cb:k<n
 ·repeat' (first|refine Wz ?_|(refine CW.jG rfl (fun h => ?_) (fun h => ?_))|refine SW.st (ap hw rfl (hl.one cb rfl)) rfl ?_)
  ·refine ae.aO rfl rfl ⟨_,rfl,hw,_,rfl,?_⟩;have hx:x∈l:=by rw [h];exact List.getElem_mem _
   simp [hx]
  ·refine ae.again (k+1) ⟨rfl,rfl,rfl,rfl,trivial⟩ (by omega) ⟨by omega,hw,fun i h' hi => ?_⟩;by_cases z7:i=k
   ·subst z7;exact fun e=>h e.symm
   ·exact hI i h' (by omega)
 ·refine Wz ?_;refine ae.aO rfl rfl ⟨_,rfl,hw,_,rfl,?_⟩
  have hx : ¬ x∈l:=fun hm=>by
   obtain ⟨i,hi,e⟩:=List.getElem_of_mem hm;exact hI i hi (by omega) e
  simp [hx]
theorem gK (A:Option Addr) (n c:Nat) (l:List Int) (x:Int) (w:World) (hl:Sl w 1 bd A n l) (hn:n≤9223372036854775807) :
 bo Tryz.prog 95 [.slice A n c,.int .i64 x] w fun v _=>v = .bool (decide (x∈l)):=by
 refine aI Tryz.func95 rfl Tryz.ntmps95 rfl ?_;have hw:=Ext.refl w;refine Wz ?_;refine SW.call rfl rfl (vP _ _ _ _ _ _ (hl.ext hw) hn) fun v w1 ab hv => ?_
 obtain ⟨i,rfl,hi⟩:=hv;replace hw:=Ext.trans hw ab;refine Wz ?_;refine ae.aO rfl rfl ⟨_,rfl,hw,?_⟩;congr 1
 rw [decide_eq_decide];exact hi
inductive dN (l:List Int) (most:Int) : Int→List Int→Option (List Int)→Prop where
 | done (out:List Int) : dN l most (-1) out (some out)
 | bad {x:Int} {out:List Int} (h:x ≠ -1) (hb:most≤out.length ∨ ¬ (0≤x∧x<l.length)∨x∈out) : dN l most x out none
 | step {k:Nat} {out:List Int} {r:Option (List Int)} (h1:out.length<most) (hk:k<l.length) (h3:(k:Int)∉out) (h:dN l most l[k] (out++[(k:Int)]) r) : dN l most k out r
theorem dN.jy {l:List Int} {most x:Int} {out:List Int} {r s:Option (List Int)} (h:dN l most x out r) : dN l most x out s→r=s:=by
 induction h with
 | done out=>intro h';generalize hx:(-1:Int)=y at h';cases h' with
   | done=>rfl
   | bad h hb=>exact absurd hx.symm h
   | step h1 hk h3 h=>omega
 | @bad x out h hb=>intro h';cases h' with
   | done=>exact absurd rfl h
   | bad=>rfl
   | @step k _ _ h1 hk h3 h'=>rcases hb with h0|h0|h0<;>first|omega|exact absurd h0 h3
 | @step k out r h1 hk h3 h ih=>intro h';generalize hx:(k:Int)=y at h';cases h' with
   | done=>omega
   | bad h hb=>subst hx;rcases hb with h0|h0|h0<;>first|omega|exact absurd h0 h3
   | @step k' _ _ NK oR Pt h' =>
     have:k=k':=by omega
     subst this;exact ih h'
def nc (n:Nat) (out:List Int) : Nat:=((List.range n).filter fun i:Nat=>decide ((i:Int)∉out)).length
theorem uW {n k:Nat} {out:List Int} (hk:k<n) (h:(k:Int)∉out) : nc n (out++[(k:Int)])<nc n out:=by
 unfold nc
 have e:((List.range n).filter fun i:Nat=>decide ((i:Int)∉out++[(k:Int)]))=((List.range n).filter fun i:Nat=>decide ((i:Int)∉out)).filter fun i:Nat=>decide (i≠k):=by
  rw [List.filter_filter];apply List.filter_congr;intro i _;rw [← Bool.decide_and,decide_eq_decide];simp only [List.mem_append,List.mem_singleton,not_or];constructor
  ·rintro ⟨h1,h2⟩;exact ⟨fun e=>h2 (by rw [e]),h1⟩
  ·rintro ⟨h1,h2⟩;exact ⟨h2,fun e=>h1 (by omega)⟩
 rw [e];refine List.length_filter_lt_length_iff_exists.2 ⟨k,?_,by simp⟩;simp [hk,h]
open Go.RowKit
theorem Own.vQ {α β:Type} {w:World} {lo mm:Nat} {e e':TypeId} {sz KT:Nat} {enc : α → List Value} {G0 : β → List Value} {A B:Option Addr} {m c k d:Nat} {l:List α} {l':List β}
 (hO:Own w lo e sz enc A m c l) (hS:Own w mm e' KT G0 B k d l') (cG:Nat.beq e e'=false) : aU A c=none∨aU A c≠aU B d:=by
 rcases hO.row with ⟨_,rfl⟩|⟨hc,g,gd,rfl,_,h2,_⟩
 ·exact .inl (by simp [aU])
 ·right;rcases hS.row with ⟨_,rfl⟩|⟨hd,g',NL,rfl,_,mx,_⟩
  ·simp [aU,Nat.pos_iff_ne_zero.1 hc]
  ·simp only [aU,Nat.pos_iff_ne_zero.1 hc,Nat.pos_iff_ne_zero.1 hd,if_false,Option.map_some,ne_eq,Option.some.injEq];rintro rfl;rw [h2] at mx;injection mx with mx
   injection mx with _ h _
   subst h;simp at cG
def An (lo:Nat) (r:Option (List Int)) (v:Value) (w:World) : Prop:=match r with
 | none=>v = .tuple #[.slice none 0 0,.int .i64 8]
 | some out => ∃ A c,v = .tuple #[.slice A out.length c,.int .i64 0]∧Own w lo 3 1 bd A out.length c out∧out.length≤17592186044416
theorem sP (n:Nat) : nc n []≤n:=Nat.le_trans (List.length_filter_le _ _) (by simp)
theorem yU (A:Option Addr) (n c:Nat) (l:List Int) (x most:Int) (w:World) (hl:Sl w 1 bd A n l) (hn:n*8≤140737488355328) :
 bo Tryz.prog 184 [.slice A n c,.int .i64 x,.int .i64 most] w fun v w' => ∃ r,dN l most x [] r∧An w.heap.size r v w':=by
 refine aI Tryz.func184 rfl Tryz.ntmps184 rfl ?_;have hw:=Ext.refl w;have lO:n≤2305843009213693952:=by omega
 have hA:=hl.base;have mn:=hl.len;refine Wz ?_
 refine CW.loop (fun s:List Int×Int×Option Addr×Nat=>[(0,.slice A n c),(1,.int .i64 s.2.1),(2,.int .i64 most),(8,.slice s.2.2.1 s.1.length s.2.2.2)])
  (fun s w'=>s.1.length+nc n s.1≤n∧(∀ r,dN l most s.2.1 s.1 r→dN l most x [] r)∧Ext w w'∧Own w' w.heap.size 3 1 bd s.2.2.1 s.1.length s.2.2.2 s.1) (fun s=>nc n s.1) ([],x,none,0) ⟨rfl,rfl,rfl,rfl,trivial⟩
  ⟨by simpa using sP n,fun _ h=>h,hw,Own.eJ _ _ _ _ _ _⟩ ?_
 clear hw;rintro ⟨out,y,A1,c1⟩ w' ⟨hk,hF,hw,hO⟩
 simp only at hk hF hO ⊢;by_cases hy:y = -1
 ·refine Wz ?_;refine ae.cx rfl rfl rfl ⟨_,rfl,hw,some out,hF _ (by subst hy;exact .done _),A1,c1,rfl,hO,by omega⟩
 ·by_cases hm:most≤out.length
  ·refine Wz ?_;exact ae.cx rfl rfl rfl ⟨_,rfl,hw,none,hF _ (.bad hy (.inl hm)),rfl⟩
  ·by_cases hx : 0≤y∧y<n
   ·obtain ⟨k,rfl⟩:=Int.eq_ofNat_of_zero_le hx.1;have cb:k<n:=by omega
    by_cases lz:(k:Int)∈out
    ·repeat' (first|refine Wz ?_|(refine SW.call rfl rfl (sq _ _ _ _ _ _ lO) ?_;intro v w1 ab hv;subst hv;replace hw:=Ext.trans hw ab;replace hO:=hO.ext ab;clear ab))
     refine SW.call rfl rfl (gK _ _ _ _ _ _ hO.sl (by omega)) fun v w1 ab hv => ?_
     rw [decide_eq_true lz] at hv;subst hv;replace hw:=Ext.trans hw ab;refine Wz ?_;exact ae.cx rfl rfl rfl ⟨_,rfl,hw,none,hF _ (.bad hy (.inr (.inr lz))),rfl⟩
    ·have hu:=uW cb lz;repeat' (first|refine Wz ?_|(refine SW.call rfl rfl (sq _ _ _ _ _ _ lO) ?_;intro v w1 ab hv;subst hv;replace hw:=Ext.trans hw ab;replace hO:=hO.ext ab;clear ab))
     refine SW.call rfl rfl (gK _ _ _ _ _ _ hO.sl (by omega)) fun v w1 ab hv => ?_
     rw [decide_eq_false lz] at hv;subst hv;replace hw:=Ext.trans hw ab;replace hO:=hO.ext ab;refine Wz ?_;refine SW.bK rfl rfl rfl rfl rfl fun b w1 ab hb hB => ?_
     replace hw:=Ext.trans hw ab;replace hO:=hO.ext ab;refine SW.append hO (aJ.mo (enc:=bd) hB) hw.size rfl rfl rfl (by omega) (by omega) fun A2 c2 w2 fU hg => ?_
     replace hw:=aF hw hg (Nat.le_refl _) hO.aM;repeat' (first|refine Wz ?_|refine SW.st (ap hw rfl (hl.one cb rfl)) rfl ?_)
     refine ae.again (out++[(k:Int)],l[k]'(hl.lt cb),A2,c2) ⟨rfl,rfl,rfl,by simp;rfl,trivial⟩ hu ⟨by simp only [List.length_append,List.length_singleton];omega,fun r h=>hF r (.step (by omega) (hl.lt cb) lz h),hw,by simpa using fU⟩
   ·repeat' (first|refine Wz ?_|(refine SW.call rfl rfl (sq _ _ _ _ _ _ lO) ?_;intro v w1 ab hv;subst hv;replace hw:=Ext.trans hw ab;replace hO:=hO.ext ab;clear ab))
    exact ae.cx rfl rfl rfl ⟨_,rfl,hw,none,hF _ (.bad hy (.inr (.inl (by omega)))),rfl⟩
def nd (n:Nat) (out:List Int) : List Bool:=(List.range n).map fun i:Nat=>decide ((i:Int)∈out)
theorem A8 (n:Nat) : nd n []=List.replicate n false:=by
 apply List.ext_getElem (by simp [nd]);intro i h1 h2;simp [nd]
theorem A9 {n k:Nat} {out:List Int}:(nd n out).set k true=nd n (out++[(k:Int)]):=by
 apply List.ext_getElem (by simp [nd]);intro i h1 h2;rw [List.getElem_set];by_cases h:k=i
 ·subst h;simp [nd]
 ·have : ¬ i=k:=fun e=>h e.symm
  simp [nd,h,Int.natCast_inj,this]
theorem oC {w:World} {B:Option Addr} {n k:Nat} {out:List Int} (h:Sl w 1 A7 B n (nd n out)) (hk:k<n) : w.cell? ((B.getD default).add (k*1))=some (.bool (decide ((k:Int)∈out))):=by
 have:=h.one (u := .bool (decide ((k:Int)∈out))) hk (by simp [A7,nd])
 exact this
theorem vR (A:Option Addr) (n c:Nat) (l:List Int) (x most:Int) (w:World) (hl:Sl w 1 bd A n l) (hn:n*8≤140737488355328) :
 bo Tryz.prog 237 [.slice A n c,.int .i64 x,.int .i64 most] w fun v w' => ∃ r,dN l most x [] r∧An w.heap.size r v w':=by
 refine aI Tryz.func237 rfl Tryz.ntmps237 rfl ?_;have hw:=Ext.refl w;have lO:n≤2305843009213693952:=by omega
 have hA:=hl.base;have mn:=hl.len;refine Wz ?_;refine SW.make (enc:=A7) (k:=n) false rfl rfl rfl (by omega) (by omega) rfl fun B d w1 ab hS => ?_
 have fy:=hw.size;replace hw:=Ext.trans hw ab;rw [← A8 n] at hS;replace hS:=Own.low hS fy;refine Wz ?_
 refine CW.loop (fun s:List Int×Int×Option Addr×Nat=>[(0,.slice A n c),(1,.int .i64 s.2.1),(2,.int .i64 most),(8,.slice B n d),(9,.slice s.2.2.1 s.1.length s.2.2.2)])
  (fun s w'=>s.1.length+nc n s.1≤n∧(∀ r,dN l most s.2.1 s.1 r→dN l most x [] r)∧Ext w w'∧Own w' w.heap.size 3 1 bd s.2.2.1 s.1.length s.2.2.2 s.1∧Own w' w.heap.size 4 1 A7 B n d (nd n s.1)) (fun s=>nc n s.1) ([],x,none,0) ⟨rfl,rfl,rfl,rfl,rfl,trivial⟩
  ⟨by simpa using sP n,fun _ h=>h,hw,Own.eJ _ _ _ _ _ _,hS⟩ ?_
 clear hw hS;rintro ⟨out,y,A1,c1⟩ w' ⟨hk,hF,hw,hO,hS⟩
 simp only at hk hF hO hS ⊢;by_cases hy:y = -1
 ·refine Wz ?_;refine ae.cx rfl rfl rfl ⟨_,rfl,hw,some out,hF _ (by subst hy;exact .done _),A1,c1,rfl,hO,by omega⟩
 ·by_cases hm:most≤out.length
  ·refine Wz ?_;exact ae.cx rfl rfl rfl ⟨_,rfl,hw,none,hF _ (.bad hy (.inl hm)),rfl⟩
  ·by_cases hx : 0≤y∧y<n
   ·obtain ⟨k,rfl⟩:=Int.eq_ofNat_of_zero_le hx.1;have cb:k<n:=by omega
    have Pu:=hS.sl.base;by_cases lz:(k:Int)∈out
    ·have qM:=oC hS.sl cb;rw [decide_eq_true lz] at qM;repeat' (first|refine Wz ?_|refine SW.st (ao rfl (oC hS.sl cb)) rfl ?_|(refine SW.call rfl rfl (lj _ _ _ _ _ _ lO) ?_;intro v w1 ab hv;subst hv;replace hw:=Ext.trans hw ab;replace hO:=hO.ext ab;replace hS:=hS.ext ab;clear ab))
     exact ae.cx rfl rfl rfl ⟨_,rfl,hw,none,hF _ (.bad hy (.inr (.inr lz))),rfl⟩
    ·have hu:=uW cb lz;repeat' (first|refine Wz ?_|refine SW.st (ao rfl (oC hS.sl cb)) rfl ?_|(refine SW.call rfl rfl (lj _ _ _ _ _ _ lO) ?_;intro v w1 ab hv;subst hv;replace hw:=Ext.trans hw ab;replace hO:=hO.ext ab;replace hS:=hS.ext ab;clear ab))
     refine SW.gR k 0 true hS rfl rfl rfl cb (by omega) (by rw [add_zero]) rfl fun w2 jt hg => ?_
     replace hw:=aF hw hg (Nat.le_refl _) hS.aM;replace hO:=hO.grown hg (hO.vQ hS rfl);rw [A9] at jt;refine Wz ?_;refine SW.bK rfl rfl rfl rfl rfl fun b w1 ab hb hB => ?_
     replace hw:=Ext.trans hw ab;replace hO:=hO.ext ab;replace jt:=jt.ext ab;refine SW.append hO (aJ.mo (enc:=bd) hB) hw.size rfl rfl rfl (by omega) (by omega) fun A2 c2 w2 fU hg => ?_
     replace hw:=aF hw hg (Nat.le_refl _) hO.aM;replace jt:=jt.grown hg (jt.vQ hO rfl);repeat' (first|refine Wz ?_|refine SW.st (ap hw rfl (hl.one cb rfl)) rfl ?_)
     refine ae.again (out++[(k:Int)],l[k]'(hl.lt cb),A2,c2) ⟨rfl,rfl,rfl,rfl,by simp;rfl,trivial⟩ hu ⟨by simp only [List.length_append,List.length_singleton];omega,fun r h=>hF r (.step (by omega) (hl.lt cb) lz h),hw,by simpa using fU,jt⟩
   ·repeat' (first|refine Wz ?_|(refine SW.call rfl rfl (lj _ _ _ _ _ _ lO) ?_;intro v w1 ab hv;subst hv;replace hw:=Ext.trans hw ab;replace hO:=hO.ext ab;replace hS:=hS.ext ab;clear ab))
    exact ae.cx rfl rfl rfl ⟨_,rfl,hw,none,hF _ (.bad hy (.inr (.inl (by omega)))),rfl⟩
def xn (l:List Block) : Prop:=l.Pairwise gU
theorem lY {y o:Int} (h0 : 0≤o) (h4:o<4) (hm:y % pw o=0) : beside (beside y o) o=y∧(beside y o=y+pw o∨beside y o=y-pw o):=by
 unfold beside;have hp:=ev h0 (show o≤4 by omega);generalize pw o=q at *
 rcases hp with ⟨e,rfl⟩|⟨e,rfl⟩|⟨e,rfl⟩|⟨e,rfl⟩|⟨e,rfl⟩<;>(refine ⟨?_,?_⟩<;>split<;>(try split)<;>omega)
theorem xo {z:ar} (h:bU z) : xn z.ag:=by
 have hu:=ln h;unfold xn;rw [List.pairwise_iff_getElem];intro i j hi hj kW;by_cases e:j=i+1
 ·subst e;exact h.next i hj
 ·refine ⟨fr hu hj kW,fun hh => ?_⟩;obtain ⟨h1,h2,h3⟩:=hh;have g1:=fr hu (show i+1<z.ag.length by omega) (Nat.lt_succ_self i);have g2:=fr hu hj (show i+1<j by omega);have b1:=(h.c8 (i+1) (by omega)).1;have b2:=(h.c8 j hj).1;have p1:=bE b1.1 b1.2.1;have p2:=(lY b2.1 h1 b2.2.2.2.2).2;have p3:=bE b2.1 b2.2.1;rw [h2] at g1;omega
theorem Ba {a o:Int} (h0 : 0≤o) (h4:o<4) (hm:a % pw o=0) (t1 t2 t3:Int) (i:Nat) : qe ⟨min a (beside a o),o+1,t1⟩ i=(qe ⟨a,o,t2⟩ i || qe ⟨beside a o,o,t3⟩ i):=by
 have h1:=(lY h0 h4 hm).2;have h2:=jf h0 (show o≤4 by omega);have h3:=bE h0 (show o≤4 by omega);rw [Bool.eq_iff_iff];simp only [qe,Bool.and_eq_true,Bool.or_eq_true,decide_eq_true_eq];rw [h2];omega
theorem xp {l:List Block} {a o:Int} (h:l.any (rv a o)=true) (i:Nat) : dP l i=(dP (dc l a o) i || qe ⟨a,o,0⟩ i):=by
 rw [Bool.eq_iff_iff];simp only [Bool.or_eq_true,dP,List.any_eq_true,dc,List.mem_filter];constructor
 ·rintro ⟨x,hx,hi⟩
  by_cases e:rv a o x=true
  ·obtain ⟨e1,e2⟩:=gH.1 e;right;rw [← hi,← e1,← e2];rfl
  ·left;exact ⟨x,⟨hx,by simp [e]⟩,hi⟩
 ·rintro (⟨x,⟨hx,_⟩,hi⟩|hi)
  ·exact ⟨x,hx,hi⟩
  ·obtain ⟨b,hb,hh⟩:=List.any_eq_true.1 h;obtain ⟨e1,e2⟩:=gH.1 hh;exact ⟨b,hb,by rw [← hi,← e1,← e2];rfl⟩
structure Joined (f t:Int) (l:List Block) (a o:Int) (l':List Block) (a' o':Int) : Prop where
 ok:vC f t l' a' o'
 nx:xn l'
 Cg:∀ i,(dP l' i || qe ⟨a',o',0⟩ i)=(dP l i || qe ⟨a,o,0⟩ i)
 fin:o'<4→l'.any (rv (beside a' o') o')=false
theorem pq {f t:Int} (h0 : 0≤f) : ∀ (k:Nat) {l:List Block} {a o:Int},4-o<k→vC f t l a o→xn l→Joined f t l a o (ic k l a o).1 (ic k l a o).2.1 (ic k l a o).2.2
 | 0,l,a,o,hk,h,hn=>by have:=h.fit.2.1;omega
 | k+1,l,a,o,hk,h,hn=>by
   simp only [ic];split
   ·rename_i ho;split
    ·rename_i dU;have ih:=pq h0 k (by omega) (h.step h0 ho dU) (hn.sublist List.filter_sublist);refine ⟨ih.ok,ih.nx,fun i => ?_,ih.fin⟩;rw [ih.Cg i,Ba h.fit.1 ho h.fit.2.2.2.2 0 0 0,xp dU i];rw [Bool.or_assoc,Bool.or_comm (qe _ i) (qe _ i)]
    ·rename_i dU;exact ⟨h,hn,fun _=>rfl,fun _=>by simpa using dU⟩
   ·rename_i ho;exact ⟨h,hn,fun _=>rfl,fun h=>absurd h ho⟩
theorem EV {f t:Int} {l0:List Block} {a0 o0:Int} {l:List Block} {a o:Int} (h:Joined f t l0 a0 o0 l a o) (u:Int) : xn (aV l (bG l a) ⟨a,o,u⟩):=by
 have hk:=h.ok;have hp:=bE hk.fit.1 hk.fit.2.1
 have Gw:∀ x∈l.take (bG l a),gU x ⟨a,o,u⟩:=fun x hx=>by
  obtain ⟨j,hj,rfl⟩:=List.getElem_of_mem hx;simp only [List.length_take] at hj;rw [List.getElem_take];have h1:=mS (l:=l) (a:=a) (k:=j) (by omega);have h2:=hk.Cb _ (List.getElem_mem (show j<l.length by omega));refine ⟨by simp only;omega,fun hh => ?_⟩;obtain ⟨g1,g2,g3⟩:=hh;have:=h.fin g1
  rw [List.any_eq_false] at this;exact this _ (List.getElem_mem (show j<l.length by omega)) (gH.2 ⟨g3,g2⟩)
 have IU:∀ y∈l.drop (bG l a),gU ⟨a,o,u⟩ y:=fun y hy=>by
  obtain ⟨j,hj,rfl⟩:=List.getElem_of_mem hy;simp only [List.length_drop] at hj;rw [List.getElem_drop];have de:bG l a<l.length:=by omega
  have h1:=Ab de;have hm:=List.getElem_mem (show bG l a+j<l.length by omega);have h2:=hk.Cb _ hm;have hb:=(hk.c8 _ hm).1;have Pv:=bE hb.1 hb.2.1
  have h3:(l[bG l a]).At≤(l[bG l a+j]'(by omega)).At:=by
   rcases Nat.eq_zero_or_pos j with e|e
   ·subst e;simp
   ·have:=fr hk.nQ (show bG l a+j<l.length by omega) (show bG l a<bG l a+j by omega)
    have FN:=(hk.c8 _ (List.getElem_mem de)).1;have:=bE FN.1 FN.2.1
    omega
  refine ⟨by simp only;omega,fun hh => ?_⟩;obtain ⟨g1,g2,g3⟩:=hh;simp only at g2 g3;have e:=(lY hb.1 g1 hb.2.2.2.2).1;rw [← g3,← g2] at e;have:=h.fin (by omega)
  rw [List.any_eq_false] at this;exact this _ hm (gH.2 ⟨e.symm,g2.symm⟩)
 have fP:(l.take (bG l a)++l.drop (bG l a)).Pairwise gU:=by rw [List.take_append_drop];exact h.nx
 rw [List.pairwise_append] at fP;unfold xn aV;rw [List.append_assoc,List.pairwise_append];refine ⟨fP.1,?_,fun x hx y hy => ?_⟩
 ·rw [List.singleton_append,List.pairwise_cons];exact ⟨IU,fP.2.1⟩
 ·rw [List.singleton_append,List.mem_cons] at hy;rcases hy with rfl|hy
  ·exact Gw x hx
  ·exact fP.2.2 x hx y hy
theorem Bb (l:List Block) (i:Nat) (b:Block) (k:Nat) : dP (aV l i b) k=(dP l k || qe b k):=by
 have:dP l k=(dP (l.take i) k || dP (l.drop i) k):=by
  unfold dP;rw [← List.any_append,List.take_append_drop]
 rw [this];simp only [dP,aV,List.any_append,List.any_cons,List.any_nil,Bool.or_false];cases (l.take i).any fun b=>qe b k<;>cases qe b k<;>simp
theorem Bc {l:List Block} {i:Nat} {b x:Block} (h:x∈aV l i b) : x=b∨x∈l:=by
 unfold aV at h;rw [List.mem_append,List.mem_append] at h;rcases h with (h|h)|h
 ·exact .inr (List.mem_of_mem_take h)
 ·exact .inl (by simpa using h)
 ·exact .inr (List.mem_of_mem_drop h)
structure Kept (z z':ar) (a o:Int) : Prop where
 may:bU z'
 from_:z'.aX=z.aX
 j6:z'.To=z.To
 types:z'.Types=z.Types
 Cg:∀ i,dP z'.ag i=(dP z.ag i || qe ⟨a,o,0⟩ i)
theorem sQ {z:ar} {a o:Int} (hz:bU z) (hf:eX z.aX z.To a o) (ho:e8 z.ag a o=false) : (iM z a o).1=0∧Kept z (iM z a o).2 a o:=by
 have h0 : 0≤z.aX:=hz.ok.1
 have hJ:=ss (f:=0) (t:=0) hz hf ho;have hj:=pq h0 5 (by have:=hf.1;omega) hJ (xo hz);obtain ⟨⟨l,a',o'⟩,hq⟩ : ∃ u,ic 5 z.ag a o=u:=⟨_,rfl⟩;rw [hq] at hj;simp only at hj;obtain ⟨t,ht⟩ : ∃ t,z.Types.getD ((a'-z.aX) / 8).toNat 0=t:=⟨_,rfl⟩;rw [vG (rP hz) hf ho hq ht]
 have KU:fp t:=by
  subst ht;rw [List.getD_eq_getElem?_getD];cases e:z.Types[((a'-z.aX) / 8).toNat]? with
  | none=>exact ⟨by decide,by decide⟩
  | some v =>
    obtain ⟨h,rfl⟩:=List.getElem?_eq_some_iff.1 e;exact hz.types _ (List.getElem_mem h)
 have hn:=EV hj t;refine ⟨rfl,⟨hz.ok,hz.len,hz.types,fun i hi => ?_,fun i hi => ?_⟩,rfl,rfl,rfl,fun i => ?_⟩
 ·rcases Bc (List.getElem_mem hi) with e|e
  ·simp only at e ⊢;rw [e];exact ⟨hj.ok.fit,KU⟩
  ·exact hj.ok.c8 _ e
 ·unfold xn at hn;rw [List.pairwise_iff_getElem] at hn;exact hn i (i+1) (by simp only at hi;omega) hi (Nat.lt_succ_self i)
 ·rw [Bb,← hj.Cg i];rfl
noncomputable def iG (s:ar×ar) (b:Block) : ar×ar:=if b.At<s.1.To then ((iM s.1 b.At b.Order).2,s.2) else (s.1,(iM s.2 b.At b.Order).2)
noncomputable def dt (s:ar×ar) (l:List Block) : ar×ar:=l.foldl iG s
theorem lZ (s:ar×ar) (l:List Block) (k:Nat) (h:k<l.length) : dt s (l.take (k+1))=iG (dt s (l.take k)) l[k]:=by
 unfold dt;rw [List.take_succ_eq_append_getElem h,List.foldl_append];rfl
structure nT (s:ar×ar) (bs:List Block) : Prop where
 nU:bU s.1
 mH:bU s.2
 pr:s.1.aX=0
 Ao:s.1.To=s.2.aX
 EW:s.2.To=256
 Cg:∀ i,(dP s.1.ag i || dP s.2.ag i)=dP bs i
theorem fh (l m:List Block) (i:Nat) : dP (l++m) i=(dP l i || dP m i):=by simp [dP]
theorem jZ {z:ar} (h:bU z) : ∀ b∈z.ag,0≤b.At∧1≤pw b.Order:=fun b hb=>by
 obtain ⟨i,hi,rfl⟩:=List.getElem_of_mem hb;have h1:=(h.c8 i hi).1;have h2:=h.ok.1;have:=bE h1.1 h1.2.1
 obtain ⟨_,_,h3,_,_⟩:=h1;omega
structure qS (bs:List Block) (b:Block) : Prop where
 ord : 0≤b.Order∧b.Order≤4
 at_ : 0≤b.At∧b.At<256
 al:b.At % pw b.Order=0
 fits:lp bs b
 oD:∀ x∈bs,0≤x.At∧1≤pw x.Order
theorem nT.free {s:ar×ar} {bs:List Block} (h:nT s bs) {b:Block} (hb:qS bs b) : e8 s.1.ag b.At b.Order=false∧e8 s.2.ag b.At b.Order=false:=by
 have hp:=bE hb.ord.1 hb.ord.2;have hm:=(rR hb.oD hp.1).2 hb.fits;obtain ⟨m1,m2,m3,m4⟩:=hm
 have key:∀ l:List Block,(∀ x∈l,0≤x.At∧1≤pw x.Order)→(∀ i,dP l i=true→dP bs i=true)→e8 l b.At b.Order=false:=fun l hl hc =>
  ((rR hl hp.1).1 ⟨m1,m2,m3,fun i h1 h2=>by
   cases e:dP l i with
   | false=>rfl
   | true=>have:=hc i e;rw [m4 i h1 h2] at this;cases this⟩).2.2
 exact ⟨key _ (jZ h.nU) fun i hi=>by rw [← h.Cg i,hi];rfl,key _ (jZ h.mH) fun i hi=>by rw [← h.Cg i,hi];simp⟩
theorem nT.low {s:ar×ar} {bs:List Block} (h:nT s bs) {b:Block} (hb:qS bs b) (hl:b.At<s.1.To) : eX s.1.aX s.1.To b.At b.Order:=⟨hb.ord.1,hb.ord.2,by rw [h.pr];exact hb.at_.1,hl,hb.al⟩
theorem nT.vS {s:ar×ar} {bs:List Block} (h:nT s bs) {b:Block} (hb:qS bs b) (hl : ¬ b.At<s.1.To) : eX s.2.aX s.2.To b.At b.Order:=⟨hb.ord.1,hb.ord.2,by rw [← h.Ao];omega,by rw [h.EW];exact hb.at_.2,hb.al⟩
theorem sR (b:Block) (i:Nat) : dP [b] i=qe b i:=by simp [dP]
theorem nT.back {s:ar×ar} {bs:List Block} (h:nT s bs) {b:Block} (hb:qS bs b) : nT (iG s b) (bs++[b])∧(iG s b).1.To=s.1.To:=by
 obtain ⟨o0,o1⟩:=h.free hb;unfold iG;by_cases hl:b.At<s.1.To
 ·rw [if_pos hl];obtain ⟨_,k⟩:=sQ h.nU (h.low hb hl) o0;refine ⟨⟨k.may,h.mH,by rw [← h.pr];exact k.from_,by rw [← h.Ao];exact k.j6,h.EW,fun i => ?_⟩,k.j6⟩;rw [fh,sR,← h.Cg i];simp only;rw [k.Cg i];have:qe ⟨b.At,b.Order,0⟩ i=qe b i:=rfl
  rw [this];cases dP s.1.ag i<;>cases dP s.2.ag i<;>cases qe b i<;>rfl
 ·rw [if_neg hl];obtain ⟨_,k⟩:=sQ h.mH (h.vS hb hl) o1;refine ⟨⟨h.nU,k.may,h.pr,by simp only;rw [k.from_];exact h.Ao,by simp only;rw [k.j6];exact h.EW,fun i => ?_⟩,rfl⟩;rw [fh,sR,← h.Cg i];simp only;rw [k.Cg i];have:qe ⟨b.At,b.Order,0⟩ i=qe b i:=rfl
  rw [this,Bool.or_assoc]
theorem kJ:∀ {l s t:List Block},bi (some s) l=some t→t=s++l
 | [],s,t,h=>by simp [bi] at h;simp [h]
 | b::l,s,t,h=>by
   have e:bi (some s) (b::l)=bi (jP (some s) b) l:=rfl
   rw [e] at h;cases e2:jP (some s) b with
   | none=>rw [e2,fg] at h;cases h
   | some u =>
     rw [e2] at h;obtain ⟨cs,gG,_,rfl⟩:=lq e2;cases gG
     rw [kJ h];simp
theorem l6 {l m:List Block} {b:Block} (h:(bi (some []) (l++b::m)).isSome=true) : lp l b:=by
 have h1:(bi (some []) (l++[b])).isSome=true:=fa (m:=m) (by simpa using h)
 rw [bt] at h1;cases e:bi (some []) l with
 | none=>rw [e,fg] at h1;cases h1
 | some t =>
   have:=kJ e
   rw [List.nil_append] at this;subst this;rw [e] at h1;cases e2:bi (some t) [b] with
   | none=>rw [e2] at h1;cases h1
   | some u =>
     have:jP (some t) b=some u:=e2
     obtain ⟨cs,gG,hf,_⟩:=lq this;cases gG
     exact hf
theorem xq {l:List Block} (h:(bi (some []) l).isSome=true) (hb:∀ b∈l,1≤pw b.Order) : ∀ x∈l,0≤x.At∧1≤pw x.Order:=by
 have hg:=ie (l:=l) uP hb;obtain ⟨t,ht⟩:=Option.isSome_iff_exists.1 h;have e:=kJ ht;rw [List.nil_append] at e;subst e;exact hg _ ht
structure lA (h:Heap) (z0 z1:ar) : Prop where
 cQ:h.aQ=[z0,z1]
 nU:bU z0
 mH:bU z1
 pr:z0.aX=0
 Ao:z0.To=z1.aX
 EW:z1.To=256
 all:(bi (some []) (z0.ag++z1.ag++aT h.av)).isSome=true
theorem sS {l:List aC}:∀ b∈aT l,b.Order=0:=fun b hb=>by
 unfold aT at hb;obtain ⟨x,_,hx⟩:=List.mem_flatMap.1 hb;obtain ⟨p,_,rfl⟩:=List.mem_map.1 hx
 rfl
theorem lA.start {h:Heap} {z0 z1:ar} (d:lA h z0 z1) : nT (z0,z1) (z0.ag++z1.ag):=⟨d.nU,d.mH,d.pr,d.Ao,d.EW,fun i=>by rw [fh]⟩
theorem lA.pw {h:Heap} {z0 z1:ar} (d:lA h z0 z1) : ∀ b∈z0.ag++z1.ag++aT h.av,1≤pw b.Order:=fun b hb=>by
 rcases List.mem_append.1 hb with hb|hb
 ·rcases List.mem_append.1 hb with hb|hb
  ·exact (jZ d.nU b hb).2
  ·exact (jZ d.mH b hb).2
 ·rw [sS b hb,jQ];omega
theorem lA.next {h:Heap} {z0 z1:ar} (d:lA h z0 z1) {k:Nat} (hk:k<(aT h.av).length) : qS (z0.ag++z1.ag++(aT h.av).take k) (aT h.av)[k]:=by
 have fP:=d.all;have e:z0.ag++z1.ag++aT h.av=(z0.ag++z1.ag++(aT h.av).take k)++(aT h.av)[k]::(aT h.av).drop (k+1):=by simp
 rw [e] at fP;have hf:=l6 fP;have ho:=sS _ (List.getElem_mem hk)
 have hg:=xq (fa fP) (fun b hb=>d.pw b (by
  rcases List.mem_append.1 hb with hb|hb
  ·exact List.mem_append_left _ hb
  ·exact List.mem_append_right _ (List.mem_of_mem_take hb)))
 have hp:=jQ;refine ⟨by rw [ho];decide,⟨hf.1,?_⟩,by rw [ho,hp];omega,hf,hg⟩;have:=hf.2.1
 rw [ho,hp] at this;omega
theorem lA.inv {h:Heap} {z0 z1:ar} (d:lA h z0 z1) : ∀ k,k≤(aT h.av).length→nT (dt (z0,z1) ((aT h.av).take k)) (z0.ag++z1.ag++(aT h.av).take k)
 | 0,_=>by simpa [dt] using d.start
 | k+1,hk=>by
   have ih:=(d.inv k (by omega)).back (d.next (show k<_ by omega));rw [lZ _ _ _ (by omega),List.take_succ_eq_append_getElem (by omega),← List.append_assoc];exact ih.1
def gC (l:List aC) (i:Nat) : Nat:=(aT (l.take i)).length
theorem sU {l:List aC} {i:Nat} (hi:i<l.length) : gC l (i+1)=gC l i+l[i].ax.length:=by
 unfold gC;rw [kH _ _ hi];simp
theorem yV (l:List aC) (i:Nat) : aT l=aT (l.take i)++aT (l.drop i):=by
 unfold aT;rw [← List.flatMap_append,List.take_append_drop]
theorem Ap {l:List aC} {i j:Nat} (hi:i<l.length) (hj:j<l[i].ax.length) : ∃ h:gC l i+j<(aT l).length,(aT l)[gC l i+j]=db (l[i].ax[j]):=by
 have e:=yV l i;have e2:l.drop i=l[i]::l.drop (i+1):=by simp
 have e3:aT (l.drop i)=l[i].ax.map db++aT (l.drop (i+1)):=by rw [e2];rfl
 have de:gC l i+j<(aT l).length:=by rw [e,e3];simp [gC];omega
 refine ⟨de,?_⟩
 have:(aT l)[gC l i+j]?=some (db (l[i].ax[j])):=by
  rw [e,List.getElem?_append_right (by unfold gC;omega)];have:gC l i+j-(aT (l.take i)).length=j:=by unfold gC;omega
  rw [this,e3,List.getElem?_append_left (by simpa using hj)];simp [hj]
 rw [List.getElem?_eq_getElem de] at this;exact Option.some.inj this
theorem vT (l:List aC) : gC l l.length=(aT l).length:=by simp [gC]
end Go.Proofs.YtbidkghlpijecaaGreatDoor
