/-
  Texts of the claim SlabAllocs, part 15: what its theorem leans on.
-/
import Derived.Test.YtjimadiidbkohaaGreatDoorPackSlabAllocs14
import Derived.Test.YtjimadiidbkohaaGreatDoorPackSlabAllocs9
import Derived.Test.YtjimadiidbkohaaGreatDoorPackSlabAllocs11
import Derived.Test.YtjimadiidbkohaaGreatDoorPackSlabAllocs2
import Derived.Test.YtjimadiidbkohaaGreatDoorPackSlabAllocs1
import Derived.Maps.OwnSet
import Derived.Test.YtjimadiidbkohaaGreatDoorPackSlabAllocs13
import Derived.Test.YtjimadiidbkohaaGreatDoorPackSlabAllocs10
set_option linter.unusedVariables false
set_option linter.unusedSimpArgs false
namespace Go.Proofs.YtjimadiidbkohaaGreatDoor
open Go.RowKit
theorem qF (x:Block) (a:Int) (w:World) : bt Tryz.prog 66 ([.agg (az x).toArray,.int .i64 a]++[]) w fun v _=>v = .int .i64 (IntKind.i64.wrap (x.At-a)):=by
 refine aL Tryz.func66 rfl Tryz.ntmps66 rfl ?_;refine CW.seq (CW.region (SW.box rfl rfl fun b1 w1 hw gK aA => ?_));repeat' (first|refine Wz ?_|(refine SW.st (rl rfl rfl) rfl ?_))
 exact ae.aN rfl rfl ⟨_,rfl,hw,rfl⟩
theorem xk (A:Option Addr) (n c:Nat) (l:List Block) (a:Int) (w:World) (hl:Sl w 3 az A n l) (hu:l.Pairwise fun x y=>x.At<y.At) (hb:∀ b∈l,0≤b.At∧b.At≤255) (hn:n≤1000000000000000000) (ha : -9223372036854775808≤a∧a≤9223372036854775807) :
 bt Tryz.prog 65 [.slice A n c,.int .i64 a,.func (.func 66) #[] #[]] w fun v _=>Ed l a v:=by
 by_cases cf : -1000000≤a∧a≤1000000
 ·refine (ju _ _ _ _ a _ hl _ (fun x hx w' _=>by
   have:=qF x a w'
   have h:=hb x hx;rwa [ir (by omega) (by omega)] at this) hu hn).mono fun v w2 cw hv => ?_
  subst hv;exact ⟨fun h=>by rw [h],fun h=>⟨bE l a,by rw [h]⟩⟩
 ·have hf:cc l a=false:=by
   unfold cc;split
   ·rename_i h;have:=hb _ (List.getElem_mem h)
    exact decide_eq_false (by omega)
   ·rfl
  refine (sA _ _ _ _ a _ hl _ (fun x=>IntKind.i64.wrap (x.At-a)) (fun x hx w' _=>qF x a w') (fun x hx h0=>by
   have h:=hb x hx;have:=wrap_zero (by omega) (by omega) h0
   omega) hn).mono fun v w2 cw hv => ?_
  obtain ⟨i,rfl⟩:=hv;exact ⟨fun h=>absurd (hf.symm.trans h) (by simp),fun _=>⟨i,rfl⟩⟩
theorem AT (x:Slab) (b3:Nat) (t:Int) (w:World) (h3:aJ w b3 3 [.int .i64 t]) :
 bt Tryz.prog 73 ([.agg (aZ x).toArray]++[.pointer (some ⟨b3,0,none⟩)]) w fun v _=>v = .bool (zV t x):=by
 refine aL Tryz.func73 rfl Tryz.ntmps73 rfl ?_;refine CW.seq (CW.region (SW.box rfl rfl fun b1 w1 hw gK aA => ?_));replace h3:=h3.ext hw;have Io:=h3.cell (i:=0) (v := .int .i64 t) rfl;rw [add_zero] at Io;repeat' (first|refine Wz ?_|refine SW.st (ak rfl Io) rfl ?_)
 exact ae.aN rfl rfl ⟨_,rfl,hw,rfl⟩
theorem xl (q:dn) (l:List Slab) (t:Int) (w:World) (hl:Sl w 3 aZ q.ai.A q.ai.n l) (hn:q.ai.n≤9223372036854775807) :
 bt Tryz.prog 46 [.agg (db q).toArray,.int .i64 t] w fun v _=>v = .int .i64 (idxOf (zV t) l):=by
 refine aL Tryz.func46 rfl Tryz.ntmps46 rfl ?_;refine CW.seq (CW.region (SW.box rfl rfl fun b2 w1 hw gQ aK => ?_));refine SW.DS rfl rfl rfl fun b3 w2 cw bK ar => ?_
 (replace hw:=Ext.trans hw cw;replace aK:=aK.ext cw);repeat' (first|refine Wz ?_|(refine SW.st (iv (vs:=[.pointer (some ⟨b3,0,none⟩)]) rfl) rfl ?_))
 refine SW.call rfl rfl (iD _ _ _ _ _ (hl.ext hw) _ [.pointer (some ⟨b3,0,none⟩)] (zV t) (fun x => .agg (aZ x).toArray) (fun x=>rfl) (fun x _ w1 kz=>AT x b3 t w1 (ar.ext kz)) hn) fun v w4 iG hv => ?_
 subst hv;replace hw:=Ext.trans hw iG;refine Wz ?_;exact ae.aN rfl rfl ⟨_,rfl,hw,rfl⟩
theorem uK {x:Int} {w:World} {f:FuncId} {o n e:Int} (h:bt Tryz.prog f [.int .i64 x] w fun v _=>v=jg x) (hE:dX x=(o,n,e)) : bt Tryz.prog f [.int .i64 x] w fun v _=>v = .tuple #[.int .i64 o,.int .i64 n,.int .i64 e]:=by
 refine h.mono fun v w' _ hv => ?_
 rw [hv,jg,hE]
set_option maxHeartbeats 4000000 in
theorem AU (r:dV) (s:aF) (q:dn) (c:bd) (w:World) (hr:ry w r s) (hq:BC w q c) (hs:s.small) (ic:c.small) (hH:bD s.Heap) (ur:∀ x∈c.ai,-9223372036854775808≤x.At∧x.At≤9223372036854775807) :
 bt Tryz.prog 35 [.agg (aU r).toArray,.agg (db q).toArray] w fun v _=>v = .bool (iT s c):=by
 refine aL Tryz.func35 rfl Tryz.ntmps35 rfl ?_;refine CW.seq (CW.region (SW.box rfl rfl fun b2 w1 hw gQ aK => ?_));refine SW.box rfl rfl fun b3 w2 cw bK ar => ?_
 (replace hw:=Ext.trans hw cw;replace aK:=aK.ext cw);obtain ⟨o,n,e,hE⟩ : ∃ o n e,dX c.bf=(o,n,e):=⟨_,_,_,rfl⟩;have eS:=hq.size;have eP:=hq.jd;have eO:=hq.order;have n1:=hq.names.len;have n2:=hq.aR.len;have n3:=hq.a9.len;have m1:=ic.names;have m2:=ic.aR;have m3:=ic.a9;have eC:=hr.heap.dU;have wl:=hr.words.len;have m4:=hs.words;have ma:=hr.heap.live.len;have m5:=hs.heap.live;have FP:=hq.cap;have cL:∀ w',bt Tryz.prog 64 [.int .i64 q.bf] w' fun v _=>v = .tuple #[.int .i64 o,.int .i64 n,.int .i64 e]:=fun w'=>uK (yE q.bf w') (by rw [eS];exact hE)
 rcases (show ¬ (e=0∧c.Order=o∧c.ck=n∧0<c.Names.length∧(c.au.length:Int)=s.Heap.bW)∨(e=0∧c.Order=o∧c.ck=n∧0<c.Names.length∧(c.au.length:Int)=s.Heap.bW) by omega) with nC|⟨h1,h2,h3,h4,h5⟩
 ·have hF:iT s c=false:=fb fun hm=>nC (by
   have:=hm.lay
   rw [hE] at this;simp only [Prod.mk.injEq] at this;exact ⟨this.2.2,this.1.symm,this.2.1.symm,hm.names,hm.a9⟩)
  rw [hF];rcases (show e≠0∨(e=0∧c.Order≠o)∨(e=0∧c.Order=o∧c.ck≠n)∨(e=0∧c.Order=o∧c.ck=n∧c.Names.length=0)∨(e=0∧c.Order=o∧c.ck=n∧0<c.Names.length∧(c.au.length:Int)≠s.Heap.bW) by omega) with g|g|g|g|g
  all_goals
   repeat' (first|refine Wz ?_|(refine SW.call rfl rfl (cL _) ?_;intro v w1 ab hv;subst hv;replace hw:=Ext.trans hw ab;replace aK:=aK.ext ab;replace ar:=ar.ext ab;clear ab))
   all_goals try omega
   exact ae.aN rfl rfl ⟨_,rfl,hw,rfl⟩
 ·subst h1;have El:dX c.bf=(c.Order,c.ck,0):=by rw [hE,h2,h3]
  obtain ⟨l1,l2,l3⟩:=iU hE;have c9:=rC hH.live
  have Jp:∀ b∈s.Heap.Live,0≤b.At∧b.At≤255:=fun b hb=>by
   obtain ⟨i,hi,rfl⟩:=List.getElem_of_mem hb;exact (hH.live.each i hi).2.1
  repeat' (first|refine Wz ?_|(refine SW.call rfl rfl (cL _) ?_;intro v w1 ab hv;subst hv;replace hw:=Ext.trans hw ab;replace aK:=aK.ext ab;replace ar:=ar.ext ab;clear ab))
  all_goals try omega
  clear cL
  refine CW.loop (fun k:Nat=>[(2,.pointer (some ⟨b2,0,none⟩)),(3,.pointer (some ⟨b3,0,none⟩)),(5,.int .i64 o),(53,.slice q.ai.A q.ai.n q.ai.c),(54,.int .i64 (q.ai.n:Int)),(55,.int .i64 (k:Int))])
   (fun k w'=>k≤q.ai.n∧Ext w w'∧aJ w' b2 30 (aU r)∧aJ w' b3 46 (db q) ∧ ∀ (i:Nat) (h:i<c.ai.length),i<k→lW s c i h) (fun k=>q.ai.n-k) 0
   ⟨rfl,rfl,rfl,rfl,rfl,rfl,trivial⟩ ⟨by omega,hw,aK,ar,fun i h h'=>by omega⟩ ?_
  clear hw aK ar;rintro k w' ⟨hk,hw,aK,ar,hI⟩
  have hA:=hq.aR.base;by_cases bY:k<q.ai.n
  ·have de:k<c.ai.length:=by omega
   repeat' (first|refine Wz ?_|refine SW.st (aH hw rfl rfl ((hq.aR.all bY))) rfl ?_)
   refine SW.alloc rfl fun b9 w1 ab oa bk => ?_
   refine Wz ?_;refine SW.ap bk rfl rfl rfl rfl (fB.one (enc:=aZ) _) fun w2 gg hg => ?_
   have aj:=ab.own oa hg;have qV:w.heap.size≤b9:=Nat.le_trans hw.size oa
   replace hw:=Ext.trans hw aj;replace aK:=aK.ext aj;replace ar:=ar.ext aj;replace bk:=gg;clear gg ab hg aj;refine Wz ?_;refine SW.call rfl rfl (xk _ _ _ _ _ _ (hr.heap.live.ext hw) c9 Jp (by omega) (ur _ (List.getElem_mem de))) fun v w4 iG hv => ?_
   (replace hw:=Ext.trans hw iG;replace aK:=aK.ext iG;replace ar:=ar.ext iG;replace bk:=bk.ext iG);cases Em:cc s.Heap.Live c.ai[k].At
   ·obtain ⟨j,rfl⟩:=hv.2 Em
    have hF:iT s c=false:=fb fun hm=>by
     have:=(hm.aR k de).live
     rw [vG Em] at this;omega
    rw [hF];repeat' (first|refine Wz ?_|((apply CW.aO mixed;(· kernel_rfl);rotate_left;intro w1 ab;replace hw:=Ext.trans hw ab;replace aK:=aK.ext ab;replace ar:=ar.ext ab;replace bk:=bk.ext ab;clear ab;rotate_right))|refine SW.skip rfl rfl rfl rfl ?_|exact SW.bx rfl)
    exact ae.aN rfl rfl ⟨_,rfl,hw,rfl⟩
   ·have AV:=hv.1 Em;subst AV;obtain ⟨rL,LO⟩:=pe Em;have Kn:=yH Em rL;obtain ⟨m,em⟩ : ∃ m,bE s.Heap.Live c.ai[k].At=m:=⟨_,rfl⟩;simp only [em] at rL LO Kn hv ⊢;have E8:m<r.Heap.Live.n:=by omega
    have Oz:=hr.heap.live.base;have gO:=hr.heap.live.dv E8 (j:=1) (u := .int .i64 s.Heap.Live[m].Order) rfl
    have ht : 0≤c.ai[k].At∧c.ai[k].At≤255:=by
     have:=Jp _ (List.getElem_mem rL)
     omega
    have hS : 1≤q.bf∧q.bf≤64:=by omega
    have hP : 1≤q.ck∧q.ck≤64:=by omega
    by_cases qW:s.Heap.Live[m].Order=o
    ·by_cases En : 0<k→(c.ai[k-1]'(by omega)).At<c.ai[k].At
     ·rcases Nat.eq_zero_or_pos k with pJ|pJ
      all_goals
       first
       | (have gP:=hq.aR.dv (show k-1<q.ai.n by omega) (j:=0) (u := .int .i64 (c.ai[k-1]'(by omega)).At) rfl
          have rP:=En pJ)
       | skip
      all_goals
       repeat' (first|refine Wz ?_|((apply CW.aO mixed;(· kernel_rfl);rotate_left;intro w1 ab;replace hw:=Ext.trans hw ab;replace aK:=aK.ext ab;replace ar:=ar.ext ab;replace bk:=bk.ext ab;clear ab;rotate_right))|refine SW.want rfl rfl ?_|refine SW.st (aY (k-1) rfl rfl (by assumption) (by omega) (by omega)) rfl ?_|refine SW.st (ao hw rfl gO) rfl ?_|refine SW.st (ao hw rfl gP) rfl ?_|exact SW.bx rfl)
       all_goals try omega
       refine SW.call rfl rfl (AS r q c.ai[k] s.Words _ (hr.words.ext hw) (by omega) hS hP ht) fun v w5 jv sO => ?_
       (replace hw:=Ext.trans hw jv;replace aK:=aK.ext jv;replace ar:=ar.ext jv);rw [eS,eP] at sO;rcases sO with ⟨out,A5,c5,hC,rfl,_,_⟩|⟨k6,rfl⟩
       ·repeat' (first|refine Wz ?_|(refine CW.bA rfl ?_))
        exact ae.again (k+1) ⟨rfl,rfl,rfl,rfl,rfl,rfl,trivial⟩ (by omega) ⟨by omega,hw,aK,ar,fun i h h'=>by
         by_cases ei:i=k
         ·subst ei;exact ⟨by omega,En,⟨out,hC⟩⟩
         ·exact hI i h (by omega)⟩
       ·rw [fb fun hm=>(hm.aR k de).chain.elim k6];repeat' (first|refine Wz ?_|(refine CW.bF rfl ?_))
        exact ae.aN rfl rfl ⟨_,rfl,hw,rfl⟩
     ·have pJ : 0<k:=by
       rcases Nat.eq_zero_or_pos k with h|h
       ·exact absurd (fun h'=>by omega) En
       ·exact h
      have xK : ¬ (c.ai[k-1]'(by omega)).At<c.ai[k].At:=fun h=>En fun _=>h
      have gP:=hq.aR.dv (show k-1<q.ai.n by omega) (j:=0) (u := .int .i64 (c.ai[k-1]'(by omega)).At) rfl;rw [fb fun hm=>xK ((hm.aR k de).next pJ)];repeat' (first|refine Wz ?_|((apply CW.aO mixed;(· kernel_rfl);rotate_left;intro w1 ab;replace hw:=Ext.trans hw ab;replace aK:=aK.ext ab;replace ar:=ar.ext ab;replace bk:=bk.ext ab;clear ab;rotate_right))|refine SW.want rfl rfl ?_|refine SW.st (aY (k-1) rfl rfl (by assumption) (by omega) (by omega)) rfl ?_|refine SW.st (ao hw rfl gO) rfl ?_|refine SW.st (ao hw rfl gP) rfl ?_|exact SW.bx rfl)
      all_goals try omega
      exact ae.aN rfl rfl ⟨_,rfl,hw,rfl⟩
    ·rw [fb fun hm=>qW (by have:=(hm.aR k de).live;omega)];repeat' (first|refine Wz ?_|((apply CW.aO mixed;(· kernel_rfl);rotate_left;intro w1 ab;replace hw:=Ext.trans hw ab;replace aK:=aK.ext ab;replace ar:=ar.ext ab;replace bk:=bk.ext ab;clear ab;rotate_right))|refine SW.want rfl rfl ?_|refine SW.st (ao hw rfl gO) rfl ?_|exact SW.bx rfl)
     all_goals try omega
     exact ae.aN rfl rfl ⟨_,rfl,hw,rfl⟩
  ·have fO:∀ (i:Nat) (h:i<c.ai.length),lW s c i h:=fun i h=>hI i h (by omega)
   refine Wz ?_;clear hI bY hk hA
   refine CW.loop (fun k:Nat=>[(3,.pointer (some ⟨b3,0,none⟩)),(109,.slice q.au.A q.au.n q.au.c),(110,.int .i64 (q.au.n:Int)),(111,.int .i64 (k:Int))])
    (fun k w'=>k≤q.au.n∧Ext w w'∧aJ w' b3 46 (db q) ∧ ∀ (i:Nat) (h:i<c.au.length),i<k→yI c i h) (fun k=>q.au.n-k) 0
    ⟨rfl,rfl,rfl,rfl,trivial⟩ ⟨by omega,hw,ar,fun i h h'=>by omega⟩ ?_
   clear hw ar aK;rintro k w' ⟨hk,hw,ar,hI⟩
   have hA:=hq.a9.base;by_cases bY:k<q.au.n
   ·have de:k<c.au.length:=by omega
    obtain ⟨a,ea⟩ : ∃ a,c.au[k]=a:=⟨_,rfl⟩;have gA:=hq.a9.one bY (u := .int .i64 a) (by rw [← ea];rfl);by_cases ha:a = -1
    ·repeat' (first|refine Wz ?_|refine SW.st (ao hw rfl gA) rfl ?_)
     exact ae.again (k+1) ⟨rfl,rfl,rfl,rfl,trivial⟩ (by omega) ⟨by omega,hw,ar,fun i h h'=>by
      by_cases ei:i=k
      ·subst ei;exact .inl (by omega)
      ·exact hI i h (by omega)⟩
    ·have cN:∀ w',Ext w w'→bt Tryz.prog 49 [.slice q.au.A k q.au.c,.int .i64 a] w' fun v _=>v = .bool (decide (a∈c.au.take k)):=fun w' hx=>gG _ _ _ _ _ _ ((hq.a9.ext hx).pre (show k≤q.au.n by omega)) (by omega)
     obtain ⟨z,hz⟩ : ∃ z,idxOf (zV a) c.ai=z:=⟨_,rfl⟩;have iM:=iz (zV a) c.ai;rw [hz] at iM
     have cF:∀ w',Ext w w'→bt Tryz.prog 46 [.agg (db q).toArray,.int .i64 a] w' fun v _=>v = .int .i64 z:=fun w' hx=>by
      have:=xl q c.ai a w' (hq.aR.ext hx) (by omega)
      rwa [hz] at this
     have Fa:(a∈c.au.take k ∨ ¬ 0≤z)→iT s c=false:=fun h=>fb fun hm=>by
      rcases hm.AR k de with g|⟨g1,g2⟩
      ·omega
      ·rw [ea] at g1 g2;rcases h with h|h
       ·exact g1 h
       ·rw [g2] at iM;exact h (of_decide_eq_true iM)
     by_cases ly:a∈c.au.take k
     ·rw [decide_eq_true ly] at cN;rw [Fa (.inl ly)];repeat' (first|refine Wz ?_|refine SW.st (ao hw rfl gA) rfl ?_|(refine SW.call rfl rfl (cN _ hw) ?_;intro v w1 ab hv;subst hv;replace hw:=Ext.trans hw ab;replace ar:=ar.ext ab;clear ab)|(refine SW.st (da (k:=k) rfl rfl (by omega)) rfl ?_))
      all_goals try omega
      exact ae.aN rfl rfl ⟨_,rfl,hw,rfl⟩
     ·rw [decide_eq_false ly] at cN;by_cases sI : 0≤z
      ·repeat' (first|refine Wz ?_|refine SW.st (ao hw rfl gA) rfl ?_|((first|refine SW.call rfl rfl (cN _ hw) ?_|refine SW.call rfl rfl (cF _ hw) ?_);intro v w1 ab hv;subst hv;replace hw:=Ext.trans hw ab;replace ar:=ar.ext ab;clear ab)|(refine SW.st (da (k:=k) rfl rfl (by omega)) rfl ?_))
       all_goals try omega
       exact ae.again (k+1) ⟨rfl,rfl,rfl,rfl,trivial⟩ (by omega) ⟨by omega,hw,ar,fun i h h'=>by
        by_cases ei:i=k
        ·subst ei;exact .inr ⟨by rw [ea];exact ly,by rw [ea,← iM];exact decide_eq_true sI⟩
        ·exact hI i h (by omega)⟩
      ·rw [Fa (.inr sI)];repeat' (first|refine Wz ?_|refine SW.st (ao hw rfl gA) rfl ?_|((first|refine SW.call rfl rfl (cN _ hw) ?_|refine SW.call rfl rfl (cF _ hw) ?_);intro v w1 ab hv;subst hv;replace hw:=Ext.trans hw ab;replace ar:=ar.ext ab;clear ab)|(refine SW.st (da (k:=k) rfl rfl (by omega)) rfl ?_))
       all_goals try omega
       exact ae.aN rfl rfl ⟨_,rfl,hw,rfl⟩
   ·rw [m7 ⟨El,h4,h5,fO,fun i h=>hI i h (by omega)⟩];refine Wz ?_;exact ae.aN rfl rfl ⟨_,rfl,hw,rfl⟩
open Go.RowKit Go.Maps
structure lz (w:World) (P:Program) (k e:TypeId) (b:Nat) (keys:List Lit) : Prop where
 own:w.ownsMap (H:=Unit) P k (plainElem P e) b keys.length (setOf (.lit (.bool true)) keys)
 ok:∀ x∈keys,WideAt.IsKeyLit x
theorem lz.ext {w w':World} {P:Program} {k e:TypeId} {b:Nat} {keys:List Lit} (h:lz w P k e b keys) (hx:Ext w w') : lz w' P k e b keys:=⟨h.own.kept (row:=none) ⟨hx.os,hx.tape,hx.output,hx.size,fun i hi _=>hx.block i hi⟩ (by simp),h.ok⟩
theorem lz.grown {w w':World} {P:Program} {k e:TypeId} {b:Nat} {keys:List Lit} {row:Option Nat} (h:lz w P k e b keys) (hg:w.grownBy w' row) (cG:some b≠row) : lz w' P k e b keys:=⟨h.own.kept hg cG,h.ok⟩
theorem lz.lt {w:World} {P:Program} {k e:TypeId} {b:Nat} {keys:List Lit} (h:lz w P k e b keys) : b<w.heap.size:=h.own.lt
theorem sP (u z:DataW Unit) (k:Lit) : ∀ (acc:List Lit) (m:DataW Unit),IsMap m→(∀ x∈acc,WideAt.IsKeyLit x)→(acc.foldl (fun m x=>m.put x u) m).atKey k z=if acc.any (fun x=>x.sameKey k) then u else m.atKey k z
 | [],m,_,_=>by simp
 | x::r,m,hm,h=>by
   rw [List.foldl_cons,sP u z k r (m.put x u) (hm.put x u) (fun y hy=>h y (by simp [hy])),List.any_cons];by_cases e:k=x
   ·subst e;rw [atKey_put_same hm (h k (by simp)),WideAt.sameKey_self (h k (by simp))];simp
   ·rw [atKey_put_other e,sameKey_ne (fun e'=>e e'.symm)];simp
theorem AW (k:Lit) (acc:List Lit) (h:∀ x∈acc,WideAt.IsKeyLit x) : (setOf (.lit (.bool true)) acc:DataW Unit).atKey k (.lit (.bool false)) = .lit (.bool (acc.any fun x=>x.sameKey k)):=by
 rw [setOf,sP _ _ k acc _ isMap_empty h];cases acc.any fun x=>x.sameKey k<;>rfl
section
variable {P:Program} {n:Nat} {ops:Array Oper} {Q:Exit→Act→World→Prop} {rest:List Oper} {L:Env} {w:World} {T:TypeId} {pos:String} {af:Array Edge}
theorem SW.makeMap {d:Nat} {t:TypeId} (k e:TypeId) (hn:Nat.blt d n=true) (h:∀ b w',Ext w w'→w.heap.size≤b→lz w' P k e b []→SW P n ops (.fr Q) rest ((d,.map (some b))::L) w') :
 SW P n ops (.fr Q) (⟨some d,.makeMap t none,T,pos,af,none⟩::rest) L w :=
 ⟨fun a ha=>by
  simp only [swp,wpList,Region.wanted,if_true];refine .inl ?_;unfold Oper.wp
  have:(execOp a.eval ⟨some d,.makeMap t none,T,pos,af,none⟩).run P w = .ok (.value (.map (some w.heap.size))) (w.alloc (.map #[] 0)):=by
   simp [execOp,run_makeMap]
  rw [this,Oper.upon_value];exact (h _ _ (Ext.alloc w _) (Nat.le_refl _) ⟨World.ownsMap_made w P k _,fun x hx=>by simp at hx⟩).out _ (ha.put hn _)⟩
theorem sQ {d:Option Nat} {g:Option (Nat×Bool)} {t k e:TypeId} {b:Nat} {keys:List Lit} {m x:Operand} {key:Value} {kl:Lit} (hB:lz w P k e b keys) (K:Keyed P k) (ht:P.underlying t=some (.map k e)) (he:P.underlying e=some .bool) (hz:∀ w,(zeroValue e).run P w = .ok (.bool false) w)
 (hm:ca L m=some (.map (some b))) (hx:ca L x=some key) (lT:Go.keyOf P k key=some kl) : St P ⟨d,.lookup t m x false,T,pos,af,g⟩ L w (.bool (keys.any fun y=>y.sameKey kl)) :=
 ⟨fun n a ha w' Nn=>by
  have qR:=hB.ext Nn;obtain ⟨v,ps,yn,hv⟩:=qR.own.lookup K ht (hz w') (plainElem_bool he false) lT;rw [AW _ _ hB.ok] at hv
  have HI:v = .bool (keys.any fun y=>y.sameKey kl):=by
   unfold plainElem at hv;rw [he] at hv;cases v<;>simp at hv
   rw [hv.1]
  subst HI;simp [execOp,ha.eval hm,ha.eval hx,yn]⟩
theorem SW.yN {t k e:TypeId} {b:Nat} {keys:List Lit} {m x y:Operand} {key:Value} {kl:Lit} (hB:lz w P k e b keys) (K:Keyed P k) (ht:P.underlying t=some (.map k e)) (he:P.underlying e=some .bool) (jk:keys.length<maxLen)
 (hm:ca L m=some (.map (some b))) (hx:ca L x=some key) (hy:ca L y=some (.bool true)) (lT:Go.keyOf P k key=some kl) (hk:WideAt.IsKeyLit kl)
 (h:∀ w',lz w' P k e b (keys++[kl])→w.grownBy w' (some b)→SW P n ops (.fr Q) rest L w') : SW P n ops (.fr Q) (⟨none,.mapUpdate t m x y,T,pos,af,none⟩::rest) L w :=
 ⟨fun a ha=>by
  obtain ⟨w',yn,r1,r2⟩:=hB.own.update K ht jk lT (plainElem_bool he true);simp only [swp,wpList,Region.wanted,if_true];refine .inl ?_;unfold Oper.wp
  have:(execOp a.eval ⟨none,.mapUpdate t m x y,T,pos,af,none⟩).run P w = .ok .skip w':=by
   simp [execOp,ha.eval hm,ha.eval hx,ha.eval hy,yn]
  rw [this,Oper.upon_skip];refine (h w' ⟨?_,fun z hz => ?_⟩ r2).out _ ha
  ·rw [setOf_snoc];simpa using r1
  ·rcases List.mem_append.1 hz with hz|hz
   ·exact hB.ok z hz
   ·simp at hz;subst hz;exact hk⟩
end
open Go.RowKit Go.Maps
def nI (s:ByteArray) : Lit := .string s.data.toList
def rb (z:Int) : Lit := .int .i64 z
def tZ (l:List ByteArray) (n:ByteArray) : Bool:=l.any fun m=>decide (m=n)
theorem ka {l:List ByteArray} {n:ByteArray}:tZ l n=true↔n∈l:=by
 unfold tZ;rw [List.any_eq_true];exact ⟨fun ⟨m,h,e⟩=>of_decide_eq_true e ▸ h,fun h=>⟨n,h,decide_eq_true rfl⟩⟩
theorem CR (l:List ByteArray) (n:ByteArray) : ((l.map nI).any fun y=>y.sameKey (nI n))=tZ l n:=by
 rw [Bool.eq_iff_iff,List.any_eq_true,ka];constructor
 ·rintro ⟨y,hy,hs⟩
  obtain ⟨m,hm,rfl⟩:=List.mem_map.1 hy;have:=WideAt.sameKey_eq hs
  simp only [nI,Lit.string.injEq] at this
  have e:m=n:=by
   cases m;cases n
   simpa using this
  rw [← e];exact hm
 ·intro h;exact ⟨nI n,List.mem_map.2 ⟨n,h,rfl⟩,WideAt.sameKey_self trivial⟩
theorem CS (l:List Int) (n:Int) : ((l.map rb).any fun y=>y.sameKey (rb n))=decide (n∈l):=by
 rw [Bool.eq_iff_iff,List.any_eq_true,decide_eq_true_iff];constructor
 ·rintro ⟨y,hy,hs⟩
  obtain ⟨m,hm,rfl⟩:=List.mem_map.1 hy;have:=WideAt.sameKey_eq hs
  simp only [rb,Lit.int.injEq] at this;rw [← this.2];exact hm
 ·intro h;exact ⟨rb n,List.mem_map.2 ⟨n,h,rfl⟩,WideAt.sameKey_self trivial⟩
theorem vJ:Tryz.prog.underlying 9=some .string:=by kernel_rfl
theorem vK:Tryz.prog.underlying 3=some (.int .i64):=by kernel_rfl
theorem m9:Tryz.prog.underlying 4=some .bool:=by kernel_rfl
theorem sR:Tryz.prog.underlying 79=some (.map 9 4):=by kernel_rfl
theorem xm:Tryz.prog.underlying 80=some (.map 3 4):=by kernel_rfl
theorem uL (w:World) : (zeroValue 4).run Tryz.prog w = .ok (.bool false) w:=by
 obtain ⟨inf,hi,hz,hs,uj⟩:=dK Tryz.prog 4 (z := .bool false) (sz:=1) (bytes:=1);simp [zeroValue,typeInfo,hi,hz]
theorem qa (s:ByteArray) (h:s.size≤140737488351232) : Go.keyOf Tryz.prog 9 (.string s)=some (nI s):=by
 simp [Go.keyOf,mapKey,nI];unfold maxLen;omega
theorem keyOf_int {z:Int} (h : -9223372036854775808≤z∧z≤9223372036854775807) : Go.keyOf Tryz.prog 3 (.int .i64 z)=some (rb z):=keyOf_int_mk vK (by
 have h1:IntKind.i64.min = -9223372036854775808:=by decide
 have h2:IntKind.i64.max=9223372036854775807:=by decide
 simp [Lit.wf,h1,h2];omega)
section
variable {L:Env} {w:World} {d:Option Nat} {T:TypeId} {pos:String} {af:Array Edge} {g:Option (Nat×Bool)}
theorem pk {b:Nat} {l:List ByteArray} {n:ByteArray} {m x:Operand} (hB:lz w Tryz.prog 9 4 b (l.map nI)) (hn:n.size≤140737488351232) (hm:ca L m=some (.map (some b))) (hx:ca L x=some (.string n)) :
 St Tryz.prog ⟨d,.lookup 79 m x false,T,pos,af,g⟩ L w (.bool (tZ l n)) :=
 (sQ hB (string_keyed vJ) sR m9 uL hm hx (qa n hn)).eq (by rw [CR])
theorem xn {b:Nat} {l:List Int} {n:Int} {m x:Operand} (hB:lz w Tryz.prog 3 4 b (l.map rb)) (hn : -9223372036854775808≤n∧n≤9223372036854775807) (hm:ca L m=some (.map (some b))) (hx:ca L x=some (.int .i64 n)) :
 St Tryz.prog ⟨d,.lookup 80 m x false,T,pos,af,g⟩ L w (.bool (decide (n∈l))) :=
 (sQ hB (int_keyed vK) xm m9 uL hm hx (keyOf_int hn)).eq (by rw [CS])
end
theorem AX (d:dn) (b6:Nat) (q:dn) (w:World) (h6:aJ w b6 46 (db q)) :
 bt Tryz.prog 37 ([.agg (db d).toArray]++[.pointer (some ⟨b6,0,none⟩)]) w fun v _=>v = .bool (decide (d.bf=q.bf)):=by
 refine aL Tryz.func37 rfl Tryz.ntmps37 rfl ?_;refine CW.seq (CW.region (SW.box rfl rfl fun b1 w1 hw gK aA => ?_));replace h6:=h6.ext hw;refine Wz ?_;exact ae.aN rfl rfl ⟨_,rfl,hw,rfl⟩
structure aF.lA (s:aF) : Prop where
 small:s.small
 cK:∀ z∈s.Heap.aQ,qC z
 aR:∀ c∈s.aa,∀ x∈c.ai,-9223372036854775808≤x.At∧x.At≤9223372036854775807
 names:∀ c∈s.aa,∀ n∈c.Names,n.size≤140737488351232
theorem sS (cs:List bd) (h:∀ c∈cs,c.small) : (bZ cs).length≤cs.length*8796093022208:=by
 induction cs with
 | nil=>simp [bZ]
 | cons c r ih =>
   have h1:=(h c (by simp)).names;have h2:=ih (fun x hx=>h x (by simp [hx]));simp only [bZ,List.flatMap_cons,List.length_append,List.length_cons] at h2 ⊢;omega
theorem sU (cs:List bd) (h:∀ c∈cs,c.small) : (cx cs).length≤cs.length*8796093022208:=by
 induction cs with
 | nil=>simp [cx]
 | cons c r ih =>
   have h1:=(h c (by simp)).aR;have h2:=ih (fun x hx=>h x (by simp [hx]));simp only [cx,List.flatMap_cons,List.length_append,List.length_cons,List.length_map] at h2 ⊢;omega
set_option maxHeartbeats 4000000 in
theorem yO (r:dV) (s:aF) (w:World) (hr:ry w r s) (hf:s.lA) :
 bt Tryz.prog 23 [.agg (aU r).toArray] w fun v _=>v = .int .i64 (if j8 s then 0 else 8):=by
 refine aL Tryz.func23 rfl Tryz.ntmps23 rfl ?_;refine CW.seq (CW.region (SW.box rfl rfl fun b1 w1 hw gK aA => ?_));obtain ⟨cs,hc⟩:=hr.dN;obtain ⟨z1,z2⟩:=hc.len;have wl:=hr.words.len;have hs:=hf.small;have m3:=hs.dN;have FP:=hc.cap;obtain ⟨q,hq⟩ : ∃ q,iK s.Heap=q:=⟨_,rfl⟩
 have c1:∀ w',Ext w w'→bt Tryz.prog 34 [.agg (bm r.Heap).toArray] w' fun v _=>v = .int .i64 (if q then 0 else 8):=fun w' hx=>by
  have:=sH r.Heap s.Heap w' (hr.heap.ext hx) hs.heap hf.cK
  rwa [hq] at this
 by_cases sV:s.Words.length=4096∧q=true∧s.aa.length≤20
 ·obtain ⟨g1,g2,g3⟩:=sV;subst g2;have hH:=ia.1 hq;simp only [if_true] at c1;repeat' (first|refine Wz ?_|refine SW.st (aX rfl rfl ((gR aA))) rfl ?_|(refine SW.call rfl rfl (c1 _ hw) ?_;intro v w1 ab hv;subst hv;replace hw:=Ext.trans hw ab;replace aA:=aA.ext ab;clear ab))
  all_goals try omega
  clear c1;refine SW.makeMap 9 4 rfl fun bN w3 jQ Ip hN => ?_
  have LP:w.heap.size≤bN:=Nat.le_trans hw.size Ip
  have DP:=aA.lt;(replace hw:=Ext.trans hw jQ;replace aA:=aA.ext jQ);refine SW.makeMap 3 4 rfl fun bS w4 iG Iq hS => ?_
  have Np:w.heap.size≤bS:=Nat.le_trans hw.size Iq
  have DQ:=hN.lt;(replace hw:=Ext.trans hw iG;replace aA:=aA.ext iG;replace hN:=hN.ext iG);have Ir:b1≠bN:=by omega
  have Ko:b1≠bS:=by omega
  have Gq:bN≠bS:=by omega
  clear DP DQ Ip Iq;refine Wz ?_
  refine CW.loop (fun k:Nat=>[(1,.pointer (some ⟨b1,0,none⟩)),(3,.map (some bN)),(4,.map (some bS)),(30,.slice r.aa.A r.aa.n r.aa.c),(31,.int .i64 (r.aa.n:Int)),(32,.int .i64 (k:Int))])
   (fun k w'=>k≤r.aa.n∧Ext w w'∧aJ w' b1 30 (aU r)∧lz w' Tryz.prog 9 4 bN ((bZ (s.aa.take k)).map nI)∧lz w' Tryz.prog 3 4 bS ((cx (s.aa.take k)).map rb) ∧ ∀ (i:Nat) (h:i<s.aa.length),i<k→rD s i h) (fun k=>r.aa.n-k) 0
   ⟨rfl,rfl,rfl,rfl,rfl,rfl,trivial⟩ ⟨by omega,hw,aA,hN,hS,fun i h h'=>by omega⟩ ?_
  clear hw aA hN hS;rintro k w' ⟨hk,hw,aA,hN,hS,hI⟩
  have hA:=hc.row.base;by_cases bY:k<r.aa.n
  ·have tP:k<cs.length:=by omega
   have de:k<s.aa.length:=by omega
   have gb:=hc.each.get k tP de;have sm:=hs.each _ (List.getElem_mem de);have fS:=hf.aR _ (List.getElem_mem de);have fN:=hf.names _ (List.getElem_mem de);have q1:=gb.names.len;have q2:=gb.aR.len;have q4:=sm.names;have q5:=sm.aR;have bn:=sS (s.aa.take k) (fun c hc=>hs.each c (List.mem_of_mem_take hc));have bs:=sU (s.aa.take k) (fun c hc=>hs.each c (List.mem_of_mem_take hc));rw [List.length_take] at bn bs;repeat' (first|refine Wz ?_|refine SW.st (aH hw rfl rfl ((hc.row.all bY))) rfl ?_)
   have Kq:=hN.lt;have Kr:=hS.lt;refine SW.alloc rfl fun b6 w1 ab eW ax => ?_
   refine Wz ?_;refine SW.ap ax rfl rfl rfl rfl (sq _) fun w2 gp hg => ?_
   have aj:=ab.own eW hg;have di:w.heap.size≤b6:=Nat.le_trans hw.size eW
   replace hw:=Ext.trans hw aj;replace aA:=aA.ext aj;replace hN:=hN.ext aj;replace hS:=hS.ext aj;replace ax:=gp;clear gp ab hg aj;have Is:bN≠b6:=by omega
   have Nq:bS≠b6:=by omega
   clear Kq Kr;obtain ⟨qc,Gr⟩ : ∃ qc,iT s s.aa[k]=qc:=⟨_,rfl⟩
   have cC:∀ w',Ext w w'→bt Tryz.prog 35 [.agg (aU r).toArray,.agg (db cs[k]).toArray] w' fun v _=>v = .bool qc:=fun w' hx=>by
    have:=AU r s cs[k] s.aa[k] w' (hr.ext hx) (gb.ext hx) hs sm hH fS
    rwa [Gr] at this
   cases qc
   ·have hF:j8 s=false:=j9 fun hm=>by
     have:=m7 (hm.each k de).may
     rw [Gr] at this;cases this
    rw [hF];repeat' (first|refine Wz ?_|refine SW.skip rfl rfl rfl rfl ?_|(refine SW.call rfl rfl (cC _ hw) ?_;intro v w1 ab hv;subst hv;replace hw:=Ext.trans hw ab;replace aA:=aA.ext ab;replace ax:=ax.ext ab;replace hN:=hN.ext ab;replace hS:=hS.ext ab;clear ab))
    exact ae.aN rfl rfl ⟨_,rfl,hw,rfl⟩
   ·have Jq:=sN.1 Gr;obtain ⟨y,hy⟩ : ∃ y,((cs.take k).any fun d=>decide (d.bf=cs[k].bf))=y:=⟨_,rfl⟩
    have cD:∀ w',Ext w w'→aJ w' b6 46 (db cs[k])→bt Tryz.prog 36 [.slice r.aa.A k r.aa.c,.func (.func 37) #[] [.pointer (some ⟨b6,0,none⟩)].toArray] w' fun v _=>v = .bool y:=fun w' hx h6=>by
     have:=mY r.aa.A k r.aa.c (cs.take k) w' ((hc.row.ext hx).pre (show k≤r.aa.n by omega)) 37 [.pointer (some ⟨b6,0,none⟩)] (fun d=>decide (d.bf=cs[k].bf)) (fun d => .agg (db d).toArray) (fun x=>rfl)
      (fun x _ w1 kz=>AX x b6 cs[k] w1 (h6.ext kz)) (by omega)
     rwa [hy] at this
    cases y
    ·have ui:∀ (j:Nat) (hj:j<k),(s.aa[j]'(by omega)).bf≠s.aa[k].bf:=fun j hj e=>by
      rw [List.any_eq_false] at hy;refine hy cs[j] (List.mem_take_iff_getElem.2 ⟨j,by omega,rfl⟩) ?_;have e1:=(hc.each.get j (by omega) (by omega)).size;have e2:=gb.size;exact decide_eq_true (by rw [e1,e2];exact e)
     repeat' (first|refine Wz ?_|refine SW.want rfl rfl ?_|((first|refine SW.call rfl rfl (cC _ hw) ?_|refine SW.call rfl rfl (cD _ hw ax) ?_);intro v w1 ab hv;subst hv;replace hw:=Ext.trans hw ab;replace aA:=aA.ext ab;replace ax:=ax.ext ab;replace hN:=hN.ext ab;replace hS:=hS.ext ab;clear ab)|(refine SW.st (da (k:=k) rfl rfl (by omega)) rfl ?_)|(refine SW.st (iv (vs:=[.pointer (some ⟨b6,0,none⟩)]) rfl) rfl ?_))
     obtain ⟨acc,vL⟩ : ∃ acc,bZ (s.aa.take k)=acc:=⟨_,rfl⟩;rw [vL] at hN bn;obtain ⟨oC,vM⟩ : ∃ oC,cx (s.aa.take k)=oC:=⟨_,rfl⟩;rw [vM] at hS bs;clear cC cD
     refine CW.loop (fun j:Nat=>[(1,.pointer (some ⟨b1,0,none⟩)),(3,.map (some bN)),(4,.map (some bS)),(6,.pointer (some ⟨b6,0,none⟩)),(30,.slice r.aa.A r.aa.n r.aa.c),(31,.int .i64 (r.aa.n:Int)),(32,.int .i64 (k:Int)),(50,.slice cs[k].Names.A cs[k].Names.n cs[k].Names.c),(51,.int .i64 (cs[k].Names.n:Int)),(52,.int .i64 (j:Int))])
      (fun j w'=>j≤cs[k].Names.n∧Ext w w'∧aJ w' b1 30 (aU r)∧aJ w' b6 46 (db cs[k])∧lz w' Tryz.prog 9 4 bN ((acc++s.aa[k].Names.take j).map nI)∧lz w' Tryz.prog 3 4 bS (oC.map rb) ∧
        ∀ (i:Nat) (h:i<s.aa[k].Names.length),i<j→gm s.aa[k].Names[i]=true∧s.aa[k].Names[i]∉acc++s.aa[k].Names.take i∧(0<i→fK (s.aa[k].Names[i-1]'(by omega)) s.aa[k].Names[i]=true)) (fun j=>cs[k].Names.n-j) 0
      ⟨rfl,rfl,rfl,rfl,rfl,rfl,rfl,rfl,rfl,rfl,trivial⟩ ⟨by omega,hw,aA,ax,by simpa using hN,hS,fun i h h'=>by omega⟩ ?_
     clear hw aA hN hS ax;rintro j w' ⟨hj,hw,aA,ax,hN,hS,hJ⟩
     have rE:=gb.names.base;by_cases iZ:j<cs[k].Names.n
     ·have kO:j<s.aa[k].Names.length:=by omega
      obtain ⟨nm,tM⟩ : ∃ nm,s.aa[k].Names[j]=nm:=⟨_,rfl⟩;have gN:=gb.names.one iZ (u := .string nm) (by rw [← tM];rfl);have Eo:nm.size≤140737488351232:=by rw [← tM];exact fN _ (List.getElem_mem kO)
      obtain ⟨qn,Gs⟩ : ∃ qn,gm nm=qn:=⟨_,rfl⟩;obtain ⟨qh,Gt⟩ : ∃ qh,tZ (acc++s.aa[k].Names.take j) nm=qh:=⟨_,rfl⟩
      have Ep:∀ w',bt Tryz.prog 38 [.string nm] w' fun v _=>v = .bool qn:=fun w'=>by
       have:=CN nm w' Eo
       rwa [Gs] at this
      have qG:(qn=false∨qh=true ∨ ∃ vk : 0<j,fK (s.aa[k].Names[j-1]'(by omega)) nm=false)→j8 s=false:=fun h=>j9 fun hm=>by
       have h1:=(hm.each k de).names.each j kO;rw [tM,vL] at h1;rcases h with h|h|⟨vk,h⟩
       ·rw [Gs,h] at h1;exact absurd h1.1 (by simp)
       ·exact h1.2.1 (ka.1 (by rw [Gt,h]))
       ·rw [h1.2.2 vk] at h;cases h
      cases qn
      ·rw [qG (.inl rfl)];repeat' (first|refine Wz ?_|refine SW.skip rfl rfl rfl rfl ?_|refine SW.st (ao hw rfl gN) rfl ?_|(refine SW.call rfl rfl (Ep _) ?_;intro v w1 ab hv;subst hv;replace hw:=Ext.trans hw ab;replace aA:=aA.ext ab;replace ax:=ax.ext ab;replace hN:=hN.ext ab;replace hS:=hS.ext ab;clear ab))
       exact ae.aN rfl rfl ⟨_,rfl,hw,rfl⟩
      ·cases qh
       ·have go:∀ (sW : 0<j→fK (s.aa[k].Names[j-1]'(by omega)) nm=true) (i:Nat) (h:i<s.aa[k].Names.length),i<j+1→gm s.aa[k].Names[i]=true∧s.aa[k].Names[i]∉acc++s.aa[k].Names.take i∧(0<i→fK (s.aa[k].Names[i-1]'(by omega)) s.aa[k].Names[i]=true):=fun sW i h h'=>by
         by_cases ei:i=j
         ·subst ei;rw [tM];exact ⟨Gs,(fun hm=>by rw [ka.2 hm] at Gt;cases Gt),sW⟩
         ·exact hJ i h (by omega)
        rcases Nat.eq_zero_or_pos j with vk|vk
        ·repeat' (first|refine Wz ?_|refine SW.want rfl rfl ?_|refine SW.st (ao hw rfl gN) rfl ?_|(refine SW.call rfl rfl (Ep _) ?_;intro v w1 ab hv;subst hv;replace hw:=Ext.trans hw ab;replace aA:=aA.ext ab;replace ax:=ax.ext ab;replace hN:=hN.ext ab;replace hS:=hS.ext ab;clear ab)|(refine SW.st ((pk hN Eo rfl rfl).eq (congrArg Value.bool Gt)) rfl ?_))
         all_goals try omega
         refine SW.yN hN (string_keyed vJ) sR m9 (by simp only [List.length_map,List.length_append,List.length_take];unfold maxLen;omega) rfl rfl rfl (qa nm Eo) trivial fun w5 It hg => ?_
         replace hw:=hw.own LP hg;replace aA:=aA.grown hg (by simpa using Ir);replace ax:=ax.grown hg (by simpa using Is.symm);replace hS:=hS.grown hg (by simpa using Gq.symm);have eN:(acc++s.aa[k].Names.take j).map nI++[nI nm]=(acc++s.aa[k].Names.take (j+1)).map nI:=by rw [List.take_succ_eq_append_getElem kO,tM];simp
         rw [eN] at It;refine Wz ?_;exact ae.again (j+1) ⟨rfl,rfl,rfl,rfl,rfl,rfl,rfl,rfl,rfl,rfl,trivial⟩ (by omega) ⟨by omega,hw,aA,ax,It,hS,go (fun h=>by omega)⟩
        ·obtain ⟨ql,Fb⟩ : ∃ ql,(!fK (s.aa[k].Names[j-1]'(by omega)) nm)=ql:=⟨_,rfl⟩;have gP:=gb.names.one (show j-1<cs[k].Names.n by omega) (u := .string (s.aa[k].Names[j-1]'(by omega))) rfl;cases ql
         ·repeat' (first|refine Wz ?_|refine SW.want rfl rfl ?_|refine SW.st (aY (j-1) rfl rfl (by assumption) (by omega) (by omega)) rfl ?_|refine SW.st (ao hw rfl gN) rfl ?_|refine SW.st (ao hw rfl gP) rfl ?_|(refine SW.call rfl rfl (Ep _) ?_;intro v w1 ab hv;subst hv;replace hw:=Ext.trans hw ab;replace aA:=aA.ext ab;replace ax:=ax.ext ab;replace hN:=hN.ext ab;replace hS:=hS.ext ab;clear ab)|(refine SW.st ((pk hN Eo rfl rfl).eq (congrArg Value.bool Gt)) rfl ?_)|(refine SW.st ((xh rfl rfl).eq (congrArg Value.bool Fb)) rfl ?_))
          all_goals try omega
          refine SW.yN hN (string_keyed vJ) sR m9 (by simp only [List.length_map,List.length_append,List.length_take];unfold maxLen;omega) rfl rfl rfl (qa nm Eo) trivial fun w5 It hg => ?_
          replace hw:=hw.own LP hg;replace aA:=aA.grown hg (by simpa using Ir);replace ax:=ax.grown hg (by simpa using Is.symm);replace hS:=hS.grown hg (by simpa using Gq.symm);have eN:(acc++s.aa[k].Names.take j).map nI++[nI nm]=(acc++s.aa[k].Names.take (j+1)).map nI:=by rw [List.take_succ_eq_append_getElem kO,tM];simp
          rw [eN] at It;refine Wz ?_;exact ae.again (j+1) ⟨rfl,rfl,rfl,rfl,rfl,rfl,rfl,rfl,rfl,rfl,trivial⟩ (by omega) ⟨by omega,hw,aA,ax,It,hS,go (fun _=>by simpa using Fb)⟩
         ·rw [qG (.inr (.inr ⟨vk,by simpa using Fb⟩))];repeat' (first|refine Wz ?_|refine SW.want rfl rfl ?_|refine SW.st (aY (j-1) rfl rfl (by assumption) (by omega) (by omega)) rfl ?_|refine SW.st (ao hw rfl gN) rfl ?_|refine SW.st (ao hw rfl gP) rfl ?_|(refine SW.call rfl rfl (Ep _) ?_;intro v w1 ab hv;subst hv;replace hw:=Ext.trans hw ab;replace aA:=aA.ext ab;replace ax:=ax.ext ab;replace hN:=hN.ext ab;replace hS:=hS.ext ab;clear ab)|(refine SW.st ((pk hN Eo rfl rfl).eq (congrArg Value.bool Gt)) rfl ?_)|(refine SW.st ((xh rfl rfl).eq (congrArg Value.bool Fb)) rfl ?_))
          all_goals try omega
          exact ae.aN rfl rfl ⟨_,rfl,hw,rfl⟩
       ·rw [qG (.inr (.inl rfl))];repeat' (first|refine Wz ?_|refine SW.want rfl rfl ?_|refine SW.st (ao hw rfl gN) rfl ?_|(refine SW.call rfl rfl (Ep _) ?_;intro v w1 ab hv;subst hv;replace hw:=Ext.trans hw ab;replace aA:=aA.ext ab;replace ax:=ax.ext ab;replace hN:=hN.ext ab;replace hS:=hS.ext ab;clear ab)|(refine SW.st ((pk hN Eo rfl rfl).eq (congrArg Value.bool Gt)) rfl ?_))
        exact ae.aN rfl rfl ⟨_,rfl,hw,rfl⟩
     ·have Gu:vH (bZ (s.aa.take k)) s.aa[k].Names:=⟨fun i h=>by rw [vL];exact hJ i h (by omega)⟩
      rw [List.take_of_length_le (by omega)] at hN;refine Wz ?_;clear hJ hj iZ rE
      refine CW.loop (fun j:Nat=>[(1,.pointer (some ⟨b1,0,none⟩)),(3,.map (some bN)),(4,.map (some bS)),(30,.slice r.aa.A r.aa.n r.aa.c),(31,.int .i64 (r.aa.n:Int)),(32,.int .i64 (k:Int)),(83,.slice cs[k].ai.A cs[k].ai.n cs[k].ai.c),(84,.int .i64 (cs[k].ai.n:Int)),(85,.int .i64 (j:Int))])
       (fun j w'=>j≤cs[k].ai.n∧Ext w w'∧aJ w' b1 30 (aU r)∧lz w' Tryz.prog 9 4 bN ((acc++s.aa[k].Names).map nI)∧lz w' Tryz.prog 3 4 bS ((oC++(s.aa[k].ai.take j).map fun x=>x.At).map rb) ∧
         ∀ (i:Nat) (h:i<s.aa[k].ai.length),i<j→s.aa[k].ai[i].At∉oC++(s.aa[k].ai.take i).map fun x=>x.At) (fun j=>cs[k].ai.n-j) 0
       ⟨rfl,rfl,rfl,rfl,rfl,rfl,rfl,rfl,rfl,trivial⟩ ⟨by omega,hw,aA,hN,by simpa using hS,fun i h h'=>by omega⟩ ?_
      clear hw aA hN hS ax;rintro j w' ⟨hj,hw,aA,hN,hS,hJ⟩
      have rE:=gb.aR.base;by_cases iZ:j<cs[k].ai.n
      ·have kO:j<s.aa[k].ai.length:=by omega
       obtain ⟨x,hx⟩ : ∃ x,s.aa[k].ai[j]=x:=⟨_,rfl⟩;have gS:=gb.aR.all iZ;rw [hx] at gS;have fx : -9223372036854775808≤x.At∧x.At≤9223372036854775807:=by rw [← hx];exact fS _ (List.getElem_mem kO)
       repeat' (first|refine Wz ?_|refine SW.st (aH hw rfl rfl gS) rfl ?_)
       refine SW.alloc rfl fun kn w1 ab kG aP => ?_
       skip;refine SW.ap aP rfl rfl rfl rfl (fB.one (enc:=aZ) _) fun w2 dW hg => ?_
       have aj:=ab.own kG hg;have lu:w.heap.size≤kn:=Nat.le_trans hw.size kG
       replace hw:=Ext.trans hw aj;replace aA:=aA.ext aj;replace hN:=hN.ext aj;replace hS:=hS.ext aj;replace aP:=dW;clear dW ab hg aj;by_cases ly:x.At∈oC++(s.aa[k].ai.take j).map fun x=>x.At
       ·have Ks:=decide_eq_true ly
        rw [j9 fun hm=>by
         have:=(hm.each k de).aR j kO
         rw [hx,vM] at this;exact this ly]
        repeat' (first|refine Wz ?_|(refine SW.st ((xn hS fx rfl rfl).eq (congrArg Value.bool Ks)) rfl ?_))
        exact ae.aN rfl rfl ⟨_,rfl,hw,rfl⟩
       ·have Ks:=decide_eq_false ly;repeat' (first|refine Wz ?_|(refine SW.st ((xn hS fx rfl rfl).eq (congrArg Value.bool Ks)) rfl ?_))
        refine SW.yN hS (int_keyed vK) xm m9 (by simp only [List.length_map,List.length_append,List.length_take];unfold maxLen;omega) rfl rfl rfl (keyOf_int fx) trivial fun w5 mx hg => ?_
        replace hw:=hw.own Np hg;replace aA:=aA.grown hg (by simpa using Ko);replace hN:=hN.grown hg (by simpa using Gq);have eN:(oC++(s.aa[k].ai.take j).map fun x=>x.At).map rb++[rb x.At]=(oC++(s.aa[k].ai.take (j+1)).map fun x=>x.At).map rb:=by rw [List.take_succ_eq_append_getElem kO,hx];simp
        rw [eN] at mx;refine Wz ?_
        exact ae.again (j+1) ⟨rfl,rfl,rfl,rfl,rfl,rfl,rfl,rfl,rfl,trivial⟩ (by omega) ⟨by omega,hw,aA,hN,mx,fun i h h'=>by
         by_cases ei:i=j
         ·subst ei;rw [hx];exact ly
         ·exact hJ i h (by omega)⟩
      ·rw [List.take_of_length_le (by omega),← vM,← jz s.aa k de] at hS;rw [← vL,← jy s.aa k de] at hN;refine Wz ?_
       exact ae.again (k+1) ⟨rfl,rfl,rfl,rfl,rfl,rfl,trivial⟩ (by omega) ⟨by omega,hw,aA,hN,hS,fun i h h'=>by
        by_cases ei:i=k
        ·subst ei;exact ⟨Jq,ui,Gu,fun i h=>by rw [vM];exact hJ i h (by omega)⟩
        ·exact hI i h (by omega)⟩
    ·have hF:j8 s=false:=j9 fun hm=>by
      obtain ⟨d,hd,he⟩:=List.any_eq_true.1 hy;obtain ⟨j,hj,rfl⟩:=List.mem_take_iff_getElem.1 hd;have e1:=(hc.each.get j (by omega) (by omega)).size;have e2:=gb.size;have:=of_decide_eq_true he
      exact (hm.each k de).size j (by omega) (by rw [← e1,← e2];exact this)
     rw [hF];repeat' (first|refine Wz ?_|refine SW.want rfl rfl ?_|((first|refine SW.call rfl rfl (cC _ hw) ?_|refine SW.call rfl rfl (cD _ hw ax) ?_);intro v w1 ab hv;subst hv;replace hw:=Ext.trans hw ab;replace aA:=aA.ext ab;replace ax:=ax.ext ab;replace hN:=hN.ext ab;replace hS:=hS.ext ab;clear ab)|(refine SW.st (da (k:=k) rfl rfl (by omega)) rfl ?_)|(refine SW.st (iv (vs:=[.pointer (some ⟨b6,0,none⟩)]) rfl) rfl ?_))
     exact ae.aN rfl rfl ⟨_,rfl,hw,rfl⟩
  ·rw [yJ ⟨g1,hH,g3,fun i h=>hI i h (by omega)⟩];refine Wz ?_;exact ae.aN rfl rfl ⟨_,rfl,hw,rfl⟩
 ·have hF:j8 s=false:=j9 fun hm=>sV ⟨hm.words,by rw [← hq];exact oU hm.heap,hm.most⟩
  rw [hF];cases q
  all_goals simp only [if_true,Bool.false_eq_true,if_false] at c1
  all_goals simp only [true_and,Bool.false_eq_true,false_and,and_false,not_false_eq_true] at sV
  ·rcases (show s.Words.length≠4096∨s.Words.length=4096 by omega) with g|g
   all_goals
    repeat' (first|refine Wz ?_|refine SW.st (aX rfl rfl ((gR aA))) rfl ?_|(refine SW.call rfl rfl (c1 _ hw) ?_;intro v w1 ab hv;subst hv;replace hw:=Ext.trans hw ab;replace aA:=aA.ext ab;clear ab))
    all_goals try omega
    exact ae.aN rfl rfl ⟨_,rfl,hw,rfl⟩
  ·rcases (show s.Words.length≠4096∨(s.Words.length=4096∧20<s.aa.length) by omega) with g|g
   all_goals
    repeat' (first|refine Wz ?_|refine SW.st (aX rfl rfl ((gR aA))) rfl ?_|(refine SW.call rfl rfl (c1 _ hw) ?_;intro v w1 ab hv;subst hv;replace hw:=Ext.trans hw ab;replace aA:=aA.ext ab;clear ab))
    all_goals try omega
    exact ae.aN rfl rfl ⟨_,rfl,hw,rfl⟩
open Go.RowKit
structure Nr (h:Heap) : Prop where
 small:h.small
 uC:∀ z∈h.aQ,qC z
def cm (s:aF) (i:Nat) (p:Heap×bd) : aF:=⟨s.Words,p.1,s.aa.set i p.2⟩
structure Ns (c:bd) : Prop where
 small:c.small
 at_:∀ x∈c.ai,-9223372036854775808≤x.At∧x.At≤9223372036854775807
theorem aF.lA.jc {s:aF} (h:s.lA) : Nr s.Heap:=⟨h.small.heap,h.cK⟩
theorem aF.lA.Kt {s:aF} (h:s.lA) {i:Nat} (hi:i<s.aa.length) : Ns s.aa[i]:=⟨h.small.each _ (List.getElem_mem hi),h.aR _ (List.getElem_mem hi)⟩
theorem sX:∀ (n:Nat) (l:List Nat),l.Nodup→(∀ x∈l,x<n)→l.length≤n
 | 0,l,_,h=>by
   cases l with
   | nil=>simp
   | cons a r=>exact absurd (h a (by simp)) (by omega)
 | n+1,l,hd,h=>by
   have h1:=sX n (l.erase n) (hd.erase n) (fun x hx=>by
    have:=hd.mem_erase_iff.1 hx
    have:=h x this.2
    omega)
   have h2:l.length≤(l.erase n).length+1:=by
    rw [List.length_erase];split<;>omega
   omega
theorem uM {α β:Type} {f : α → β} {l:List α} (hd:l.Nodup) (hf:∀ x∈l,∀ y∈l,f x=f y→x=y) : (l.map f).Nodup:=by
 induction l with
 | nil=>simp
 | cons a r ih =>
   rw [List.nodup_cons] at hd;rw [List.map_cons,List.nodup_cons];refine ⟨fun h => ?_,ih hd.2 fun x hx y hy=>hf x (by simp [hx]) y (by simp [hy])⟩;obtain ⟨b,hb,e⟩:=List.mem_map.1 h;have:=hf b (by simp [hb]) a (by simp) e
   subst this;exact hd.1 hb
theorem kb {α:Type} {acc l:List α} (h:acc.Nodup) : ∀ (j:Nat),(∀ (k:Nat) (hk:k<l.length),k<j→l[k]∉acc++l.take k)→(acc++l.take j).Nodup
 | 0,_=>by simpa using h
 | j+1,hi=>by
   have ih:=kb (l:=l) h j (fun k hk hj=>hi k hk (by omega));by_cases hj:j<l.length
   ·rw [List.take_succ_eq_append_getElem hj,← List.append_assoc,List.nodup_append];refine ⟨ih,by simp,fun a ha b hb e => ?_⟩;simp at hb;subst hb e;exact hi j hj (by omega) ha
   ·rw [List.take_of_length_le (by omega)];rwa [List.take_of_length_le (by omega)] at ih
def vN (b:UInt8) : Nat:=if b.toNat<97 then b.toNat-47 else b.toNat-86
def mh:List UInt8→Nat
 | []=>0
 | b::r=>vN b+37*mh r
theorem pn {b:UInt8} (h:lx b=false) : 1≤vN b∧vN b≤36:=by
 unfold lx at h;simp at h;unfold vN;split<;>omega
theorem CT {b c:UInt8} (h:lx b=false) (k:lx c=false) (e:vN b=vN c) : b=c:=by
 unfold lx at h k;simp at h k;unfold vN at e;apply UInt8.toNat_inj.1;split at e<;>split at e<;>omega
theorem xo:∀ (l:List UInt8),(∀ b∈l,lx b=false)→mh l<37 ^ l.length
 | [],_=>by simp [mh]
 | b::r,h=>by
   have h1:=pn (h b (by simp));have h2:=xo r (fun x hx=>h x (by simp [hx]));simp only [mh,List.length_cons,Nat.pow_succ];omega
theorem uN:∀ (l m:List UInt8),(∀ b∈l,lx b=false)→(∀ b∈m,lx b=false)→mh l=mh m→l=m
 | [],[],_,_,_=>rfl
 | [],c::t,_,k,e=>by
   have:=pn (k c (by simp))
   simp only [mh] at e;omega
 | b::r,[],h,_,e=>by
   have:=pn (h b (by simp))
   simp only [mh] at e;omega
 | b::r,c::t,h,k,e=>by
   have h1:=pn (h b (by simp));have h2:=pn (k c (by simp));simp only [mh] at e;have e1:vN b=vN c:=by omega
   have e2:mh r=mh t:=by omega
   rw [CT (h b (by simp)) (k c (by simp)) e1,uN r t (fun x hx=>h x (by simp [hx])) (fun x hx=>k x (by simp [hx])) e2]
theorem qb {s:ByteArray}:gm s=true↔(1≤s.size∧s.size≤8) ∧ ∀ b∈s.data.toList,lx b=false:=by
 unfold gm;rw [Bool.and_eq_true,decide_eq_true_iff,Bool.not_eq_true',List.any_eq_false];constructor
 ·rintro ⟨h,k⟩
  exact ⟨by omega,fun b hb=>by simpa using k b hb⟩
 ·rintro ⟨h,k⟩
  exact ⟨by omega,fun b hb=>by simp [k b hb]⟩
theorem xp {l:List ByteArray} (hd:l.Nodup) (hv:∀ n∈l,gm n=true) : l.length≤3512479453921:=by
 have h:=sX 3512479453921 (l.map fun n=>mh n.data.toList) (uM hd fun x hx y hy e => ?_) (fun z hz => ?_)
 ·simpa using h
 ·have h1:=uN _ _ (qb.1 (hv x hx)).2 (qb.1 (hv y hy)).2 e;cases x;cases y
  simpa using h1
 ·obtain ⟨n,hn,rfl⟩:=List.mem_map.1 hz;obtain ⟨h1,h2⟩:=qb.1 (hv n hn);have h3:=xo _ h2;have h4:n.data.toList.length≤8:=by rw [Array.length_toList];exact h1.2
  have h5 : 37 ^ n.data.toList.length≤37 ^ 8:=Nat.pow_le_pow_right (by omega) h4
  exact Nat.lt_of_lt_of_le h3 h5
theorem AY {l:List Int} (hd:l.Nodup) (hv:∀ n∈l,0≤n∧n≤255) : l.length≤256:=by
 have h:=sX 256 (l.map Int.toNat) (uM hd fun x hx y hy e => ?_) (fun z hz => ?_)
 ·simpa using h
 ·have:=hv x hx
  have:=hv y hy
  omega
 ·obtain ⟨n,hn,rfl⟩:=List.mem_map.1 hz;have:=hv n hn
  omega
theorem Er {l:List Block} (h:mL l) {a:Int} (hf:cc l a=true) : 0≤a∧a≤255:=by
 obtain ⟨hm,e⟩:=pe hf;have:=(h.each _ hm).2.1
 omega
theorem lW.at_ {s:aF} {c:bd} {i:Nat} {h:i<c.ai.length} (hm:lW s c i h) (hH:bD s.Heap) (ho : 0≤c.Order) : cc s.Heap.Live c.ai[i].At=true∧0≤c.ai[i].At∧c.ai[i].At≤255:=by
 have hf:cc s.Heap.Live c.ai[i].At=true:=by
  cases hf:cc s.Heap.Live c.ai[i].At
  ·have:=hm.live
   rw [vG hf] at this;omega
  ·rfl
 exact ⟨hf,Er hH.live hf⟩
theorem jq.LQ {s:aF} {c:bd} (hm:jq s c) (hH:bD s.Heap) : ∀ x∈c.ai,0≤x.At∧x.At≤255:=fun x hx=>by
 obtain ⟨i,hi,rfl⟩:=List.getElem_of_mem hx;exact ((hm.aR i hi).at_ hH (iU hm.lay).2.1.1).2
theorem xq {s:aF} (hH:bD s.Heap) : ∀ (k:Nat),k≤s.aa.length→(∀ (i:Nat) (h:i<s.aa.length),i<k→rD s i h) →
 ((bZ (s.aa.take k)).Nodup ∧ ∀ n∈bZ (s.aa.take k),gm n=true)∧((cx (s.aa.take k)).Nodup ∧ ∀ a∈cx (s.aa.take k),0≤a∧a≤255)
 | 0,_,_=>by simp [bZ,cx]
 | k+1,hk,hI=>by
   obtain ⟨⟨h1,h2⟩,h3,h4⟩:=xq hH k (by omega) (fun i h h'=>hI i h (by omega));have hc:=hI k (by omega) (by omega);rw [jy _ _ (by omega),jz _ _ (by omega)];refine ⟨⟨?_,fun n hn => ?_⟩,?_,fun a ha => ?_⟩
   ·have:=kb (l:=(s.aa[k]'(by omega)).Names) h1 (s.aa[k]'(by omega)).Names.length (fun i hi _=>(hc.names.each i hi).2.1)
    rwa [List.take_length] at this
   ·rcases List.mem_append.1 hn with hn|hn
    ·exact h2 n hn
    ·obtain ⟨i,hi,rfl⟩:=List.getElem_of_mem hn;exact (hc.names.each i hi).1
   ·have:=kb (l:=(s.aa[k]'(by omega)).ai.map fun x=>x.At) h3 (s.aa[k]'(by omega)).ai.length (fun i hi _=>by
     have:=hc.aR i (by simpa using hi)
     simpa [List.map_take] using this)
    rwa [← List.map_take,List.take_length] at this
   ·rcases List.mem_append.1 ha with ha|ha
    ·exact h4 a ha
    ·obtain ⟨x,hx,rfl⟩:=List.mem_map.1 ha;exact hc.may.LQ hH x hx
def iV (n:ByteArray) (c:bd) : Bool:=tZ c.Names n
def aF.zero:aF:=⟨[],.zero,[]⟩
theorem Heap.lX:Heap.zero.small:=by constructor<;>simp [Heap.zero]
theorem aF.lX:aF.zero.small:=⟨by simp [aF.zero],Heap.lX,by simp [aF.zero],by simp [aF.zero]⟩
open Go.RowKit
theorem jN {α:Type} {p : α → Bool} {l:List α} (h:l.any p=true) : ∃ (i:Nat) (hi:i<l.length),p l[i]=true∧(∀ (j:Nat) (hj:j<l.length),j<i→p l[j]=false)∧idxOf p l=(i:Int):=by
 have h1:l.findIdx p<l.length:=List.findIdx_lt_length_of_exists (by simpa using h)
 exact ⟨l.findIdx p,h1,List.findIdx_getElem (w:=h1),fun j hj iI=>by simpa using List.not_of_lt_findIdx iI,by unfold idxOf;rw [if_pos h]⟩
noncomputable def lY (s:aF) (n:ByteArray) (cpu:Int) : Int:=if j8 s then (if s.aa.any (iV n) then (if 0≤cpu∧cpu<s.Heap.bW then 0 else 1) else 4) else 8
theorem yP {s:aF} {n:ByteArray} {cpu:Int} (h:j8 s=false) : lY s n cpu=8:=by simp [lY,h]
theorem yQ {s:aF} {n:ByteArray} {cpu:Int} (h:j8 s=true) (h1:s.aa.any (iV n)=false) : lY s n cpu=4:=by simp only [lY,h,h1,if_true,Bool.false_eq_true,if_false]
theorem yR {s:aF} {n:ByteArray} {cpu:Int} (h:j8 s=true) (h1:s.aa.any (iV n)=true) (h2 : ¬ (0≤cpu∧cpu<s.Heap.bW)) : lY s n cpu=1:=by simp only [lY,h,h1,if_true,if_neg h2]
theorem CU {s:aF} {n:ByteArray} {cpu:Int} (h:j8 s=true) (h1:s.aa.any (iV n)=true) (h2 : 0≤cpu∧cpu<s.Heap.bW) : lY s n cpu=0:=by simp only [lY,h,h1,if_true,if_pos h2]
theorem vO {s:aF} {n:ByteArray} {cpu:Int} (h:lY s n cpu=0) : j8 s=true∧s.aa.any (iV n)=true∧0≤cpu∧cpu<s.Heap.bW:=by
 unfold lY at h;split at h
 ·rename_i h0;split at h
  ·rename_i h1;split at h
   ·rename_i h2;exact ⟨h0,h1,h2⟩
   ·omega
  ·omega
 ·omega
def Gv (lo:Nat) (s:aF) (n:ByteArray) (cpu:Int) (v:Value) (w:World) : Prop :=
 (lY s n cpu≠0∧v = .tuple #[.agg (aU .zero).toArray,.int .i64 0,.int .i64 (lY s n cpu)]) ∨
 (lY s n cpu=0 ∧ ∃ q cs,v = .tuple #[.agg (aU q).toArray,.int .i64 (idxOf (iV n) s.aa),.int .i64 0]∧SX w lo q s cs∧SI w lo q s cs)
theorem nt {s:aF} {i:Nat} {p:Heap×bd}:(cm s i p).aa.length=s.aa.length:=List.length_set
theorem ou {s:aF} {i:Nat} (hi:i<s.aa.length) : cm s i (s.Heap,s.aa[i])=s:=by
 cases s
 simp [cm]
section
variable {w w':World} {lo:Nat} {r:dV} {s:aF} {cs:List dn} {i:Nat} {p:Heap×bd}
theorem nH.rows (h:SX w lo r (cm s i p) cs) : cs.length=s.aa.length∧r.aa.n=s.aa.length:=by
 have h1:=h.row.len;have h2:=h.each.len;rw [nt] at h2;omega
theorem nH.get (h:SX w lo r (cm s i p) cs) (hi:i<cs.length) (pL:i<s.aa.length) : mr w lo cs[i] p.2:=by
 have:=h.each.get i hi (by rw [nt];exact pL)
 simpa [cm] using this
theorem nH.Es {n':Nat} {l':List Slab} (h:SX w lo r (cm s i p) cs) (hi:i<cs.length) (pL:i<s.aa.length) (hO:Own w' lo 48 3 aZ cs[i].ai.A n' cs[i].ai.c l') (hg:w.grownBy w' (aT cs[i].ai.A cs[i].ai.c)) :
 nH w' lo r (cm s i (p.1,⟨p.2.Names,p.2.bf,p.2.ck,p.2.Order,l',p.2.au⟩)) cs (cs.set i ⟨cs[i].Names,cs[i].bf,cs[i].ck,cs[i].Order,⟨cs[i].ai.A,n',cs[i].ai.c⟩,cs[i].au⟩):=by
 have:=h.aR hi (by rw [nt];exact pL) hO hg
 simpa [cm] using this
theorem nH.sY {n' c':Nat} {A':Option Addr} {l':List Slab} (h:SX w lo r (cm s i p) cs) (fC:lo≤w.heap.size) (hi:i<cs.length) (pL:i<s.aa.length) (hx:Ext w w') (hO:Own w' w.heap.size 48 3 aZ A' n' c' l') :
 nH w' lo r (cm s i (p.1,⟨p.2.Names,p.2.bf,p.2.ck,p.2.Order,l',p.2.au⟩)) cs (cs.set i ⟨cs[i].Names,cs[i].bf,cs[i].ck,cs[i].Order,⟨A',n',c'⟩,cs[i].au⟩):=by
 have:=h.CE fC hi (by rw [nt];exact pL) hx hO
 simpa [cm] using this
end
open Go.RowKit
structure SJ (G:Nat→Prop) (w:World) (lo:Nat) (r:dV) (s:aF) (cs:List dn) : Prop where
 ints:∃ m1 m2,lo≤m1∧fw w m1 m2 r.Heap s.Heap ∧ ∀ g,((∃ u∈cs,aT u.au.A u.au.c=some g)∨G g)→(g<m1∨m2≤g)∧aT r.Words.A r.Words.c≠some g
 sep:∀ u∈cs,∀ g,G g→aT u.au.A u.au.c≠some g
section
variable {w w':World} {lo t:Nat} {r:dV} {s:aF} {cs:List dn} {i:Nat} {p:Heap×bd} {G:Nat→Prop}
theorem SJ.rows {cs':List dn} {s':aF} (h:SJ G w lo r s cs) (hh:s'.Heap=s.Heap) (hc:∀ u∈cs',∃ v∈cs,aT u.au.A u.au.c=aT v.au.A v.au.c) : SJ G w lo r s' cs':=by
 obtain ⟨m1,m2,h1,h2,h3⟩:=h.ints;refine ⟨⟨m1,m2,h1,by rw [hh];exact h2,fun g e=>h3 g ?_⟩,fun u hu => ?_⟩
 ·rcases e with ⟨u,hu,e⟩|e
  ·obtain ⟨v,hv,e2⟩:=hc u hu;exact .inl ⟨v,hv,e2 ▸ e⟩
  ·exact .inr e
 ·obtain ⟨v,hv,e2⟩:=hc u hu;rw [e2];exact h.sep v hv
theorem SI.sj (h:SI w lo r s cs) : SJ (fun _=>False) w lo r s cs:=by
 obtain ⟨m1,m2,h1,h2,h3,h4,h5⟩:=h.ints;refine ⟨⟨m1,m2,h1,h4,fun g e => ?_⟩,fun u hu g e=>e.elim⟩;rcases e with ⟨u,hu,e⟩|e
 ·obtain ⟨j,hj,rfl⟩:=List.getElem_of_mem hu;have:=(h5.get j hj (by rw [← h5.len];exact hj)).a9.aM g e
  exact ⟨.inr this,fun e2=>by have:=h3 g e2;omega⟩
 ·exact e.elim
theorem SJ.ext (h:SJ G w lo r s cs) (hx:Ext w w') : SJ G w' lo r s cs:=by
 obtain ⟨m1,m2,h1,h2,h3⟩:=h.ints;exact ⟨⟨m1,m2,h1,h2.ext hx,h3⟩,h.sep⟩
theorem SJ.ay (h:SJ G w lo r s cs) (hG:n9 w w' t) (cG:(Nat.beq t 3 || (Nat.beq t 77 || (Nat.beq t 59 || Nat.beq t 62)))=false) : SJ G w' lo r s cs:=by
 obtain ⟨m1,m2,h1,h2,h3⟩:=h.ints;exact ⟨⟨m1,m2,h1,h2.ay hG cG,h3⟩,h.sep⟩
theorem SJ.ne (h:SJ G w lo r s cs) {g:Nat} (hg:G g) (hi:i<cs.length) : some g≠aT cs[i].au.A cs[i].au.c:=fun e=>h.sep _ (List.getElem_mem hi) g hg e.symm
theorem nH.act {l':List Int} (h:SX w lo r (cm s i p) cs) (hJ:SJ G w lo r (cm s i p) cs) (hi:i<cs.length) (pL:i<s.aa.length) (hO:Own w' lo 3 1 bh cs[i].au.A cs[i].au.n cs[i].au.c l') (hg:w.grownBy w' (aT cs[i].au.A cs[i].au.c)) :
 SX w' lo r (cm s i (p.1,⟨p.2.Names,p.2.bf,p.2.ck,p.2.Order,p.2.ai,l'⟩)) cs∧SJ G w' lo r (cm s i (p.1,⟨p.2.Names,p.2.bf,p.2.ck,p.2.Order,p.2.ai,l'⟩)) cs:=by
 obtain ⟨m1,m2,h1,h2,h3⟩:=hJ.ints;have hc:=h.get hi pL;have hG:=hc.a9.gr hg;have Iu:cs.set i cs[i]=cs:=List.set_getElem_self hi
 have hh:fw w' m1 m2 r.Heap p.1:=by
  cases e:aT cs[i].au.A cs[i].au.c with
  | none=>rw [e] at hg;exact h2.ay (⟨none,hg,fun k hk=>by cases hk⟩ : n9 w w' 30) rfl
  | some g=>rw [e] at hg;exact h2.CD hg hG (h3 g (.inl ⟨_,List.getElem_mem hi,e⟩)).1
 have Iv:Own w' lo 3 1 bh r.Words.A r.Words.n r.Words.c s.Words:=h.words.apart hg fun g e e2=>(h3 g (.inl ⟨_,List.getElem_mem hi,e2⟩)).2 e
 refine ⟨⟨Iv,hh.own.low h1,h.row.ay hG rfl,?_,h.pair⟩,⟨⟨m1,m2,h1,hh,h3⟩,hJ.sep⟩⟩;have:=ey.setAt (x:=cs[i]) (R':=mr w' lo) h.each (i:=i) (y:=⟨p.2.Names,p.2.bf,p.2.ck,p.2.Order,p.2.ai,l'⟩) ⟨hc.size,hc.jd,hc.order,hc.names.ay hG rfl,hc.aR.ay hG rfl,hO⟩ fun j h1 h2 iI ho=>⟨ho.size,ho.jd,ho.order,ho.names.ay hG rfl,ho.aR.ay hG rfl,ho.a9.grown hg (p7 (.inl (lp h.pair hi h1 iI).a9))⟩
 rw [Iu] at this;simpa [cm] using this
theorem nH.fresh {X:fE} {l':List Int} {H:ez} {h':Heap} {m:Nat} (h:SX w lo r (cm s i p) cs) (fC:lo≤m) (hm:∀ u∈cs,∀ g,aT u.au.A u.au.c=some g→g<m) (LR:∀ g,G g→g<m ∧ ∀ u∈cs,aT u.au.A u.au.c≠some g) (hX:Own w m 3 1 bh X.A X.n X.c l') (hH:iH w m H h') :
 SX w lo ⟨X,H,r.aa⟩ (cm ⟨l',s.Heap,s.aa⟩ i (h',p.2)) cs∧SJ G w lo ⟨X,H,r.aa⟩ (cm ⟨l',s.Heap,s.aa⟩ i (h',p.2)) cs:=by
 have key:∀ g,((∃ u∈cs,aT u.au.A u.au.c=some g)∨G g)→g<m:=fun g e=>by
  rcases e with ⟨u,hu,e⟩|e
  ·exact hm u hu g e
  ·exact (LR g e).1
 refine ⟨⟨hX.low fC,hH.low fC,h.row,h.each,h.pair⟩,⟨m,w.heap.size,fC,hH.lU,fun g e=>⟨.inl (key g e),fun e2 => ?_⟩⟩,fun u hu g e=>(LR g e).2 u hu⟩;have:=key g e
 have:=hX.aM g e2
 omega
theorem nH.nu {n' c':Nat} {A':Option Addr} {l':List Slab} (h:SX w lo r (cm s i p) cs) (hi:i<cs.length) (pL:i<s.aa.length) (hO:Own w' lo 48 3 aZ A' n' c' l') (hg:w.grownBy w' (aT cs[i].ai.A cs[i].ai.c)) (kN:∀ k,aT A' c'=some k→aT cs[i].ai.A cs[i].ai.c=some k∨w.heap.size≤k) :
 nH w' lo r (cm s i (p.1,⟨p.2.Names,p.2.bf,p.2.ck,p.2.Order,l',p.2.au⟩)) cs (cs.set i ⟨cs[i].Names,cs[i].bf,cs[i].ck,cs[i].Order,⟨A',n',c'⟩,cs[i].au⟩):=by
 have hc:=h.get hi pL;have hG:=hc.aR.gr hg;refine ⟨h.words.ay hG rfl,h.heap.ay hG rfl,h.row.ay hG rfl,?_,?_⟩
 ·have:=ey.setAt (R':=mr w' lo) (i:=i) (x:=⟨cs[i].Names,cs[i].bf,cs[i].ck,cs[i].Order,⟨A',n',c'⟩,cs[i].au⟩) (y:=⟨p.2.Names,p.2.bf,p.2.ck,p.2.Order,l',p.2.au⟩) h.each ⟨hc.size,hc.jd,hc.order,hc.names.ay hG rfl,hO,hc.a9.ay hG rfl⟩ fun j h1 h2 iI ho=>⟨ho.size,ho.jd,ho.order,ho.names.ay hG rfl,ho.aR.grown hg (p7 (.inl (lp h.pair hi h1 iI).aR)),ho.a9.ay hG rfl⟩
  simpa [cm] using this
 ·refine sE h.pair fun j hj iI => ?_
  have hp:=lp h.pair hi hj iI;have c9:=(h.each.get j hj (by rw [← h.each.len];exact hj)).aR.lt_size
  have ha:apart ⟨A',n',c'⟩ cs[j].ai:=fun k e e2=>by
   rcases kN k e with e3|e3
   ·exact hp.aR k e3 e2
   ·have:=c9 k e2;omega
  exact ⟨⟨hp.names,ha,hp.a9⟩,⟨dO hp.names,dO ha,dO hp.a9⟩⟩
theorem nH.zW (h:SX w lo r s cs) : ∀ u∈cs,∀ g,aT u.au.A u.au.c=some g→g<w.heap.size:=fun u hu g e=>by
 obtain ⟨j,hj,rfl⟩:=List.getElem_of_mem hu;exact (h.each.get j hj (by rw [← h.each.len];exact hj)).a9.lt_size g e
end
end Go.Proofs.YtjimadiidbkohaaGreatDoor
