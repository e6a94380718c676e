/-
  Texts of the claim SlabAllocs, part 16: what its theorem leans on.
-/
import Derived.Test.YtjimadiidbkohaaGreatDoorPackSlabAllocs15
import Derived.Test.YtjimadiidbkohaaGreatDoorPackSlabAllocs2
import Derived.Test.YtjimadiidbkohaaGreatDoorPackSlabAllocs13
import Derived.Test.YtjimadiidbkohaaGreatDoorPackSlabAllocs8
import Derived.Test.YtjimadiidbkohaaGreatDoorPackSlabAllocs6
import Derived.Test.YtjimadiidbkohaaGreatDoorPackSlabAllocs11
set_option linter.unusedVariables false
set_option linter.unusedSimpArgs false
namespace Go.Proofs.YtjimadiidbkohaaGreatDoor
open Go.RowKit
theorem ua (r:ez) (l:List Block) (a:Int) (w:World) (hl:Sl w 3 az r.Live.A r.Live.n l) (hu:l.Pairwise fun x y=>x.At<y.At) (hn:r.Live.n≤1000000000000000000) :
 bt Tryz.prog 84 [.agg (bm r).toArray,.int .i64 a] w fun v _=>v = .int .i64 (yG l a):=by
 refine aL Tryz.func84 rfl Tryz.ntmps84 rfl ?_;refine CW.seq (CW.region (SW.box rfl rfl fun b2 w1 hw gQ aK => ?_));have ma:=hl.len;refine Wz ?_
 refine CW.loop (fun k:Nat=>[(1,.int .i64 a),(2,.pointer (some ⟨b2,0,none⟩)),(5,.int .i64 (k:Int))]) (fun k w'=>k≤r.Live.n∧Ext w w'∧aJ w' b2 27 (bm r) ∧ ∀ (i:Nat) (h:i<l.length),i<k→l[i].At≠a) (fun k=>r.Live.n-k) 0
  ⟨rfl,rfl,rfl,trivial⟩ ⟨by omega,hw,aK,fun i h h'=>by omega⟩ ?_
 clear hw aK;rintro k w' ⟨hk,hw,aK,hI⟩
 have hA:=hl.base;by_cases bY:k<r.Live.n
 ·have de:k<l.length:=by omega
  have g0:=hl.dv bY (j:=0) (u := .int .i64 l[k].At) rfl;have g1:=hl.dv bY (j:=1) (u := .int .i64 l[k].Order) rfl;by_cases hx:l[k].At=a
  ·obtain ⟨e1,e2⟩:=yw hu de hx;have e3:=yH e2 (by omega);simp only [e1] at e3;rw [e3];repeat' (first|refine Wz ?_|refine SW.st (ao hw rfl g0) rfl ?_|refine SW.st (ao hw rfl g1) rfl ?_)
   exact ae.aN rfl rfl ⟨_,rfl,hw,rfl⟩
  ·repeat' (first|refine Wz ?_|refine SW.st (ao hw rfl g0) rfl ?_)
   exact ae.again (k+1) ⟨rfl,rfl,rfl,trivial⟩ (by omega) ⟨by omega,hw,aK,fun i h h'=>by
    by_cases e:i=k
    ·subst e;exact hx
    ·exact hI i h (by omega)⟩
 ·rw [vG (yx fun i h=>hI i h (by omega))];refine Wz ?_;exact ae.aN rfl rfl ⟨_,rfl,hw,rfl⟩
theorem sZ (q:dn) (l:List Slab) (t:Int) (w:World) (hl:Sl w 3 aZ q.ai.A q.ai.n l) (hn:q.ai.n≤1000000000000000000) :
 bt Tryz.prog 28 [.agg (db q).toArray,.int .i64 t] w fun v _=>v = .int .i64 (idxOf (zV t) l):=by
 refine aL Tryz.func28 rfl Tryz.ntmps28 rfl ?_;refine CW.seq (CW.region (SW.box rfl rfl fun b2 w1 hw gQ aK => ?_));have ma:=hl.len;refine Wz ?_
 refine CW.loop (fun k:Nat=>[(1,.int .i64 t),(2,.pointer (some ⟨b2,0,none⟩)),(5,.int .i64 (k:Int))]) (fun k w'=>k≤q.ai.n∧Ext w w'∧aJ w' b2 46 (db q) ∧ ∀ (i:Nat) (h:i<l.length),i<k→zV t l[i]=false) (fun k=>q.ai.n-k) 0
  ⟨rfl,rfl,rfl,trivial⟩ ⟨by omega,hw,aK,fun i h h'=>by omega⟩ ?_
 clear hw aK;rintro k w' ⟨hk,hw,aK,hI⟩
 have hA:=hl.base;by_cases bY:k<q.ai.n
 ·have de:k<l.length:=by omega
  have g0:=hl.dv bY (j:=0) (u := .int .i64 l[k].At) rfl;by_cases hx:l[k].At=t
  ·rw [gX de (show zV t l[k]=true from decide_eq_true hx) (fun j hj h=>hI j hj h)];repeat' (first|refine Wz ?_|refine SW.st (ao hw rfl g0) rfl ?_)
   exact ae.aN rfl rfl ⟨_,rfl,hw,rfl⟩
  ·repeat' (first|refine Wz ?_|refine SW.st (ao hw rfl g0) rfl ?_)
   exact ae.again (k+1) ⟨rfl,rfl,rfl,trivial⟩ (by omega) ⟨by omega,hw,aK,fun i h h'=>by
    by_cases e:i=k
    ·subst e;exact decide_eq_false hx
    ·exact hI i h (by omega)⟩
 ·rw [(fj fun i h=>hI i h (by omega)).1];refine Wz ?_;exact ae.aN rfl rfl ⟨_,rfl,hw,rfl⟩
theorem m8.bool {lo:Nat} {ws:List Int} {size jd:Int} {x:Slab} {v:Value} {w:World} (h:m8 lo ws size jd x v w) : ∃ A n c b,v = .tuple #[.slice A n c,.bool b]∧(b=true ↔ ∃ out,pi ws size jd x out):=by
 rcases h with ⟨out,A5,c5,hC,rfl,_,_⟩|⟨k6,rfl⟩
 ·exact ⟨_,_,_,true,rfl,by simp;exact ⟨out,hC⟩⟩
 ·exact ⟨_,_,_,false,rfl,by simp;exact k6⟩
set_option maxHeartbeats 4000000 in
theorem vP (r:dV) (s:aF) (q:dn) (c:bd) (w:World) (hr:ry w r s) (hq:BC w q c) (hs:s.small) (ic:c.small) (hH:bD s.Heap) :
 bt Tryz.prog 52 [.agg (aU r).toArray,.agg (db q).toArray] w fun v _=>v = .bool (iT s c):=by
 refine aL Tryz.func52 rfl Tryz.ntmps52 rfl ?_;refine CW.seq (CW.region (SW.box rfl rfl fun b2 w1 hw gQ aK => ?_));refine SW.box rfl rfl fun b3 w2 cw bK ar => ?_
 (replace hw:=Ext.trans hw cw;replace aK:=aK.ext cw);obtain ⟨o,n,e,hE⟩ : ∃ o n e,dX c.bf=(o,n,e):=⟨_,_,_,rfl⟩;have eS:=hq.size;have eP:=hq.jd;have eO:=hq.order;have n1:=hq.names.len;have n2:=hq.aR.len;have n3:=hq.a9.len;have m1:=ic.names;have m2:=ic.aR;have m3:=ic.a9;have eC:=hr.heap.dU;have wl:=hr.words.len;have m4:=hs.words;have ma:=hr.heap.live.len;have m5:=hs.heap.live;have cL:∀ w',bt Tryz.prog 83 [.int .i64 q.bf] w' fun v _=>v = .tuple #[.int .i64 o,.int .i64 n,.int .i64 e]:=fun w'=>uK (vC q.bf w') (by rw [eS];exact hE)
 rcases (show ¬ (e=0∧c.Order=o∧c.ck=n∧0<c.Names.length∧(c.au.length:Int)=s.Heap.bW)∨(e=0∧c.Order=o∧c.ck=n∧0<c.Names.length∧(c.au.length:Int)=s.Heap.bW) by omega) with nC|⟨h1,h2,h3,h4,h5⟩
 ·have hF:iT s c=false:=fb fun hm=>nC (by
   have:=hm.lay
   rw [hE] at this;simp only [Prod.mk.injEq] at this;exact ⟨this.2.2,this.1.symm,this.2.1.symm,hm.names,hm.a9⟩)
  rw [hF];rcases (show e≠0∨(e=0∧c.Order≠o)∨(e=0∧c.Order=o∧c.ck≠n)∨(e=0∧c.Order=o∧c.ck=n∧c.Names.length=0)∨(e=0∧c.Order=o∧c.ck=n∧0<c.Names.length∧(c.au.length:Int)≠s.Heap.bW) by omega) with g|g|g|g|g
  all_goals
   repeat' (first|refine Wz ?_|(refine SW.call rfl rfl (cL _) ?_;intro v w1 ab hv;subst hv;replace hw:=Ext.trans hw ab;replace aK:=aK.ext ab;replace ar:=ar.ext ab;clear ab))
   all_goals try omega
   exact ae.aN rfl rfl ⟨_,rfl,hw,rfl⟩
 ·subst h1;have El:dX c.bf=(c.Order,c.ck,0):=by rw [hE,h2,h3]
  obtain ⟨l1,l2,l3⟩:=iU hE;have c9:=rC hH.live
  have Jp:∀ b∈s.Heap.Live,0≤b.At∧b.At≤255:=fun b hb=>by
   obtain ⟨i,hi,rfl⟩:=List.getElem_of_mem hb;exact (hH.live.each i hi).2.1
  repeat' (first|refine Wz ?_|(refine SW.call rfl rfl (cL _) ?_;intro v w1 ab hv;subst hv;replace hw:=Ext.trans hw ab;replace aK:=aK.ext ab;replace ar:=ar.ext ab;clear ab))
  all_goals try omega
  clear cL
  refine CW.loop (fun k:Nat=>[(2,.pointer (some ⟨b2,0,none⟩)),(3,.pointer (some ⟨b3,0,none⟩)),(5,.int .i64 o),(8,.int .i64 (k:Int))])
   (fun k w'=>k≤q.ai.n∧Ext w w'∧aJ w' b2 30 (aU r)∧aJ w' b3 46 (db q) ∧ ∀ (i:Nat) (h:i<c.ai.length),i<k→lW s c i h) (fun k=>q.ai.n-k) 0
   ⟨rfl,rfl,rfl,rfl,trivial⟩ ⟨by omega,hw,aK,ar,fun i h h'=>by omega⟩ ?_
  clear hw aK ar;rintro k w' ⟨hk,hw,aK,ar,hI⟩
  have hA:=hq.aR.base;by_cases bY:k<q.ai.n
  ·have de:k<c.ai.length:=by omega
   have g0:=hq.aR.dv bY (j:=0) (u := .int .i64 c.ai[k].At) rfl;obtain ⟨z,hz⟩ : ∃ z,yG s.Heap.Live c.ai[k].At=z:=⟨_,rfl⟩
   have cO:∀ w',Ext w w'→bt Tryz.prog 84 [.agg (bm r.Heap).toArray,.int .i64 c.ai[k].At] w' fun v _=>v = .int .i64 z:=fun w' hx=>by
    have:=ua r.Heap s.Heap.Live c.ai[k].At w' (hr.heap.live.ext hx) c9 (by omega)
    rwa [hz] at this
   by_cases qW:z=o
   ·have Em:cc s.Heap.Live c.ai[k].At=true:=by
     cases Em:cc s.Heap.Live c.ai[k].At
     ·rw [vG Em] at hz;omega
     ·rfl
    obtain ⟨rL,LO⟩:=pe Em
    have ht : 0≤c.ai[k].At∧c.ai[k].At≤255:=by
     have:=Jp _ (List.getElem_mem rL)
     omega
    have hS : 1≤q.bf∧q.bf≤64:=by omega
    have hP : 1≤q.ck∧q.ck≤64:=by omega
    by_cases En : 0<k→(c.ai[k-1]'(by omega)).At<c.ai[k].At
    ·rcases Nat.eq_zero_or_pos k with pJ|pJ
     all_goals
      first
      | (have gP:=hq.aR.dv (show k-1<q.ai.n by omega) (j:=0) (u := .int .i64 (c.ai[k-1]'(by omega)).At) rfl
         have rP:=En pJ)
      | skip
     all_goals
      refine Wz ?_;(apply CW.aO mixed;(· kernel_rfl);rotate_left;intro w1 ab;replace hw:=Ext.trans hw ab;replace aK:=aK.ext ab;replace ar:=ar.ext ab;clear ab;rotate_right);repeat' (first|refine Wz ?_|refine SW.st (aY (k-1) rfl rfl (by assumption) (by omega) (by omega)) rfl ?_|refine SW.st (aX rfl rfl ((gR aK))) rfl ?_|refine SW.st (ao hw rfl g0) rfl ?_|refine SW.st (ao hw rfl gP) rfl ?_|refine SW.bq rfl rfl (fun w1 ab=>(cO _ (Ext.trans hw ab))) ?_|exact SW.bx rfl)
      all_goals try omega
      refine CW.any 12 mixed (cl (by kernel_rfl)) rfl fun w1 ab aG => ?_
      replace hw:=Ext.trans hw ab;replace aK:=aK.ext ab;replace ar:=ar.ext ab;clear ab;refine Wa ?_;refine SA.take 6 aG rfl (by kernel_rfl) (by kernel_rfl) rfl ?_;repeat ((show SW _ _ _ _ (⟨_,Op.load _ _,_,_,_,none⟩::_) _ _;refine SW.st (aH hw rfl rfl ((hq.aR.all bY))) rfl ?_))
      refine SW.ah ?_;refine SA.one 7 rfl (by kernel_rfl) rfl ?_;refine SW.call rfl rfl (yM r q c.ai[k] s.Words _ (hr.words.ext hw) (by omega) hS hP ht) fun v w5 aj sO => ?_
      (replace hw:=Ext.trans hw aj;replace aK:=aK.ext aj;replace ar:=ar.ext aj);rw [eS,eP] at sO;obtain ⟨A5,n5,c5,bb,rfl,hb⟩:=m8.bool sO;refine SW.nil (ae.sa aj ?_);refine Wa ?_;refine SA.done (by kernel_rfl) ?_;cases bb
      ·rw [fb fun hm=>by simpa using hb.2 (hm.aR k de).chain];repeat' (first|refine Wz ?_|(refine CW.bF rfl ?_))
       exact ae.aN rfl rfl ⟨_,rfl,hw,rfl⟩
      ·repeat' (first|refine Wz ?_|(refine CW.bA rfl ?_))
       exact ae.again (k+1) ⟨rfl,rfl,rfl,rfl,trivial⟩ (by omega) ⟨by omega,hw,aK,ar,fun i h h'=>by
        by_cases ei:i=k
        ·subst ei;exact ⟨by omega,En,hb.1 rfl⟩
        ·exact hI i h (by omega)⟩
    ·have pJ : 0<k:=by
      rcases Nat.eq_zero_or_pos k with h|h
      ·exact absurd (fun h'=>by omega) En
      ·exact h
     have xK : ¬ (c.ai[k-1]'(by omega)).At<c.ai[k].At:=fun h=>En fun _=>h
     have gP:=hq.aR.dv (show k-1<q.ai.n by omega) (j:=0) (u := .int .i64 (c.ai[k-1]'(by omega)).At) rfl;rw [fb fun hm=>xK ((hm.aR k de).next pJ)];repeat' (first|refine Wz ?_|((apply CW.aO mixed;(· kernel_rfl);rotate_left;intro w1 ab;replace hw:=Ext.trans hw ab;replace aK:=aK.ext ab;replace ar:=ar.ext ab;clear ab;rotate_right))|refine SW.st (aY (k-1) rfl rfl (by assumption) (by omega) (by omega)) rfl ?_|refine SW.st (aX rfl rfl ((gR aK))) rfl ?_|refine SW.st (ao hw rfl g0) rfl ?_|refine SW.st (ao hw rfl gP) rfl ?_|refine SW.bq rfl rfl (fun w1 ab=>(cO _ (Ext.trans hw ab))) ?_|exact SW.bx rfl)
     all_goals try omega
     exact ae.aN rfl rfl ⟨_,rfl,hw,rfl⟩
   ·rw [fb fun hm=>qW (by have:=(hm.aR k de).live;omega)];repeat' (first|refine Wz ?_|((apply CW.aO mixed;(· kernel_rfl);rotate_left;intro w1 ab;replace hw:=Ext.trans hw ab;replace aK:=aK.ext ab;replace ar:=ar.ext ab;clear ab;rotate_right))|refine SW.st (aX rfl rfl ((gR aK))) rfl ?_|refine SW.st (ao hw rfl g0) rfl ?_|refine SW.bq rfl rfl (fun w1 ab=>(cO _ (Ext.trans hw ab))) ?_|exact SW.bx rfl)
    all_goals try omega
    exact ae.aN rfl rfl ⟨_,rfl,hw,rfl⟩
  ·have fO:∀ (i:Nat) (h:i<c.ai.length),lW s c i h:=fun i h=>hI i h (by omega)
   refine Wz ?_;clear hI bY hk hA
   refine CW.loop (fun k:Nat=>[(3,.pointer (some ⟨b3,0,none⟩)),(11,.int .i64 (k:Int))])
    (fun k w'=>k≤q.au.n∧Ext w w'∧aJ w' b3 46 (db q) ∧ ∀ (i:Nat) (h:i<c.au.length),i<k→yI c i h) (fun k=>q.au.n-k) 0
    ⟨rfl,rfl,trivial⟩ ⟨by omega,hw,ar,fun i h h'=>by omega⟩ ?_
   clear hw ar aK;rintro k w' ⟨hk,hw,ar,hI⟩
   have hA:=hq.a9.base;by_cases bY:k<q.au.n
   ·have de:k<c.au.length:=by omega
    obtain ⟨a,ea⟩ : ∃ a,c.au[k]=a:=⟨_,rfl⟩;have gA:=hq.a9.one bY (u := .int .i64 a) (by rw [← ea];rfl);by_cases ha:a = -1
    ·repeat' (first|refine Wz ?_|refine SW.st (ao hw rfl gA) rfl ?_)
     exact ae.again (k+1) ⟨rfl,rfl,trivial⟩ (by omega) ⟨by omega,hw,ar,fun i h h'=>by
      by_cases ei:i=k
      ·subst ei;exact .inl (by omega)
      ·exact hI i h (by omega)⟩
    ·obtain ⟨z,hz⟩ : ∃ z,idxOf (zV a) c.ai=z:=⟨_,rfl⟩;have iM:=iz (zV a) c.ai;rw [hz] at iM
     have cF:∀ w',Ext w w'→bt Tryz.prog 28 [.agg (db q).toArray,.int .i64 a] w' fun v _=>v = .int .i64 z:=fun w' hx=>by
      have:=sZ q c.ai a w' (hq.aR.ext hx) (by omega)
      rwa [hz] at this
     by_cases sI : 0≤z
     ·repeat' (first|refine Wz ?_|((apply CW.aO mixed;(· kernel_rfl);rotate_left;intro w1 ab;replace hw:=Ext.trans hw ab;replace ar:=ar.ext ab;clear ab;rotate_right))|refine SW.st (ao hw rfl gA) rfl ?_|refine SW.bq rfl rfl (fun w1 ab=>(cF _ (Ext.trans hw ab))) ?_|exact SW.bx rfl)
      all_goals try omega
      refine CW.loop (fun j:Nat=>[(3,.pointer (some ⟨b3,0,none⟩)),(11,.int .i64 (k:Int)),(12,.int .i64 (j:Int))])
       (fun j w'=>j≤k∧Ext w w'∧aJ w' b3 46 (db q) ∧ ∀ (i:Nat) (h:i<c.au.length),i<j→c.au[i]≠a) (fun j=>k-j) 0
       ⟨rfl,rfl,rfl,trivial⟩ ⟨by omega,hw,ar,fun i h h'=>by omega⟩ ?_
      clear hw ar;rintro j w' ⟨hj,hw,ar,hJ⟩
      by_cases k7:j<k
      ·have gJ:=hq.a9.one (show j<q.au.n by omega) (u := .int .i64 (c.au[j]'(by omega))) rfl;by_cases hx:(c.au[j]'(by omega))=a
       ·rw [fb fun hm=>by
         rcases hm.AR k de with g|⟨g1,g2⟩
         ·omega
         ·rw [ea] at g1;exact g1 (List.mem_take_iff_getElem.2 ⟨j,by omega,hx⟩)]
        repeat' (first|refine Wz ?_|((apply CW.aO mixed;(· kernel_rfl);rotate_left;intro w1 ab;replace hw:=Ext.trans hw ab;replace ar:=ar.ext ab;clear ab;rotate_right))|refine SW.st (ao hw rfl gA) rfl ?_|refine SW.st (ao hw rfl gJ) rfl ?_|exact SW.bx rfl)
        all_goals try omega
        exact ae.aN rfl rfl ⟨_,rfl,hw,rfl⟩
       ·repeat' (first|refine Wz ?_|((apply CW.aO mixed;(· kernel_rfl);rotate_left;intro w1 ab;replace hw:=Ext.trans hw ab;replace ar:=ar.ext ab;clear ab;rotate_right))|refine SW.st (ao hw rfl gA) rfl ?_|refine SW.st (ao hw rfl gJ) rfl ?_|exact SW.bx rfl)
        all_goals try omega
        exact ae.again (j+1) ⟨rfl,rfl,rfl,trivial⟩ (by omega) ⟨by omega,hw,ar,fun i h h'=>by
         by_cases ei:i=j
         ·subst ei;exact hx
         ·exact hJ i h (by omega)⟩
      ·refine Wz ?_
       exact ae.again (k+1) ⟨rfl,rfl,trivial⟩ (by omega) ⟨by omega,hw,ar,fun i h h'=>by
        by_cases ei:i=k
        ·subst ei;refine .inr ⟨?_,by rw [ea,← iM];exact decide_eq_true sI⟩;rw [ea];intro hm;obtain ⟨i',pL,e'⟩:=List.mem_take_iff_getElem.1 hm;exact hJ i' (by omega) (by omega) e'
        ·exact hI i h (by omega)⟩
     ·rw [fb fun hm=>by
       rcases hm.AR k de with g|⟨g1,g2⟩
       ·omega
       ·rw [ea] at g2;rw [g2] at iM;exact sI (of_decide_eq_true iM)]
      repeat' (first|refine Wz ?_|((apply CW.aO mixed;(· kernel_rfl);rotate_left;intro w1 ab;replace hw:=Ext.trans hw ab;replace ar:=ar.ext ab;clear ab;rotate_right))|refine SW.st (ao hw rfl gA) rfl ?_|refine SW.bq rfl rfl (fun w1 ab=>(cF _ (Ext.trans hw ab))) ?_|exact SW.bx rfl)
      all_goals try omega
      exact ae.aN rfl rfl ⟨_,rfl,hw,rfl⟩
   ·rw [m7 ⟨El,h4,h5,fO,fun i h=>hI i h (by omega)⟩];refine Wz ?_;exact ae.aN rfl rfl ⟨_,rfl,hw,rfl⟩
open Go.RowKit
set_option maxHeartbeats 8000000 in
theorem CV (r:dV) (s:aF) (w:World) (hr:ry w r s) (hf:s.lA) :
 bt Tryz.prog 27 [.agg (aU r).toArray] w fun v _=>v = .bool (j8 s):=by
 refine aL Tryz.func27 rfl Tryz.ntmps27 rfl ?_;refine CW.seq (CW.region (SW.box rfl rfl fun b1 w1 hw gK aA => ?_));obtain ⟨cs,hc⟩:=hr.dN;obtain ⟨z1,z2⟩:=hc.len;have wl:=hr.words.len;have hs:=hf.small;have m3:=hs.dN;obtain ⟨q,hq⟩ : ∃ q,iK s.Heap=q:=⟨_,rfl⟩
 have c1:∀ w',Ext w w'→bt Tryz.prog 51 [.agg (bm r.Heap).toArray] w' fun v _=>v = .bool q:=fun w' hx=>by
  have:=xg r.Heap s.Heap w' (hr.heap.ext hx) hs.heap hf.cK
  rwa [hq] at this
 by_cases sV:s.Words.length=4096∧q=true∧s.aa.length≤20
 ·obtain ⟨g1,g2,g3⟩:=sV;subst g2;have hH:=ia.1 hq;repeat' (first|refine Wz ?_|refine SW.want rfl rfl ?_|refine SW.st (aX rfl rfl ((gR aA))) rfl ?_|(refine SW.call rfl rfl (c1 _ hw) ?_;intro v w1 ab hv;subst hv;replace hw:=Ext.trans hw ab;replace aA:=aA.ext ab;clear ab))
  all_goals try omega
  clear c1
  refine CW.loop (fun u:Nat×Option Addr×Nat×Option Addr×Nat=>[(1,.pointer (some ⟨b1,0,none⟩)),(3,.slice u.2.1 (bZ (s.aa.take u.1)).length u.2.2.1),(4,.slice u.2.2.2.1 (cx (s.aa.take u.1)).length u.2.2.2.2),(5,.int .i64 (u.1:Int))])
   (fun u w'=>u.1≤r.aa.n∧Ext w w'∧aJ w' b1 30 (aU r)∧Own w' w.heap.size 9 1 encStr u.2.1 (bZ (s.aa.take u.1)).length u.2.2.1 (bZ (s.aa.take u.1))∧Own w' w.heap.size 3 1 bh u.2.2.2.1 (cx (s.aa.take u.1)).length u.2.2.2.2 (cx (s.aa.take u.1)) ∧
     ∀ (i:Nat) (h:i<s.aa.length),i<u.1→rD s i h) (fun u=>r.aa.n-u.1) (0,none,0,none,0)
   ⟨rfl,by simp [bZ];rfl,by simp [cx];rfl,rfl,trivial⟩ ⟨by simp only;omega,hw,aA,Own.eR _ _ _ _ _ _,Own.eR _ _ _ _ _ _,fun i h h'=>by simp only at h';omega⟩ ?_
  clear hw aA;rintro ⟨k,A1,c1,A2,c2⟩ w' ⟨hk,hw,aA,hN,hS,hI⟩
  simp only at hk hN hS hI ⊢;have hA:=hc.row.base;by_cases bY:k<r.aa.n
  ·have tP:k<cs.length:=by omega
   have de:k<s.aa.length:=by omega
   have gb:=hc.each.get k tP de;have sm:=hs.each _ (List.getElem_mem de);have fN:=hf.names _ (List.getElem_mem de);have q1:=gb.names.len;have q2:=gb.aR.len;have q4:=sm.names;have q5:=sm.aR;obtain ⟨⟨Hi,Hj⟩,LS,LU⟩:=xq hH k (by omega) hI;repeat' (first|refine Wz ?_|refine SW.st (aH hw rfl rfl ((hc.row.all bY))) rfl ?_)
   refine SW.alloc rfl fun b6 w1 ab eW ax => ?_
   skip;refine SW.ap ax rfl rfl rfl rfl (sq _) fun w2 gp hg => ?_
   have aj:=ab.own eW hg;have di:w.heap.size≤b6:=Nat.le_trans hw.size eW
   replace hw:=Ext.trans hw aj;replace aA:=aA.ext aj;replace hN:=hN.ext aj;replace hS:=hS.ext aj;replace ax:=gp;clear gp ab hg aj;obtain ⟨qc,Gr⟩ : ∃ qc,iT s s.aa[k]=qc:=⟨_,rfl⟩
   have cC:∀ w',Ext w w'→bt Tryz.prog 52 [.agg (aU r).toArray,.agg (db cs[k]).toArray] w' fun v _=>v = .bool qc:=fun w' hx=>by
    have:=vP r s cs[k] s.aa[k] w' (hr.ext hx) (gb.ext hx) hs sm hH
    rwa [Gr] at this
   cases qc
   ·have hF:j8 s=false:=j9 fun hm=>by
     have:=m7 (hm.each k de).may
     rw [Gr] at this;cases this
    rw [hF];repeat' (first|refine Wz ?_|(refine CW.bF rfl ?_)|(refine SW.call rfl rfl (cC _ hw) ?_;intro v w1 ab hv;subst hv;replace hw:=Ext.trans hw ab;replace aA:=aA.ext ab;replace ax:=ax.ext ab;replace hN:=hN.ext ab;replace hS:=hS.ext ab;clear ab))
    exact ae.aN rfl rfl ⟨_,rfl,hw,rfl⟩
   ·have Jq:=sN.1 Gr;repeat' (first|refine Wz ?_|(refine CW.bA rfl ?_)|(refine SW.call rfl rfl (cC _ hw) ?_;intro v w1 ab hv;subst hv;replace hw:=Ext.trans hw ab;replace aA:=aA.ext ab;replace ax:=ax.ext ab;replace hN:=hN.ext ab;replace hS:=hS.ext ab;clear ab))
    clear cC;obtain ⟨acc,vL⟩ : ∃ acc,bZ (s.aa.take k)=acc:=⟨_,rfl⟩;rw [vL] at hN Hi Hj ⊢;obtain ⟨oC,vM⟩ : ∃ oC,cx (s.aa.take k)=oC:=⟨_,rfl⟩;rw [vM] at hS LS LU ⊢
    refine CW.loop (fun j:Nat=>[(1,.pointer (some ⟨b1,0,none⟩)),(3,.slice A1 acc.length c1),(4,.slice A2 oC.length c2),(5,.int .i64 (k:Int)),(6,.pointer (some ⟨b6,0,none⟩)),(7,.int .i64 (j:Int))])
     (fun j w'=>j≤k∧Ext w w'∧aJ w' b1 30 (aU r)∧aJ w' b6 46 (db cs[k])∧Own w' w.heap.size 9 1 encStr A1 acc.length c1 acc∧Own w' w.heap.size 3 1 bh A2 oC.length c2 oC ∧ ∀ (i:Nat) (h:i<k),i<j→(s.aa[i]'(by omega)).bf≠s.aa[k].bf) (fun j=>k-j) 0
     ⟨rfl,rfl,rfl,rfl,rfl,rfl,trivial⟩ ⟨by omega,hw,aA,ax,hN,hS,fun i h h'=>by omega⟩ ?_
    clear hw aA hN hS ax;rintro j w' ⟨hj,hw,aA,ax,hN,hS,hZ⟩
    by_cases k7:j<k
    ·have gZ:=hc.row.dv (show j<r.aa.n by omega) (j:=1) (u := .int .i64 (cs[j]'(by omega)).bf) rfl;have e1:=(hc.each.get j (by omega) (by omega)).size;have e2:=gb.size;by_cases hx:(s.aa[j]'(by omega)).bf=s.aa[k].bf
     ·rw [j9 fun hm=>(hm.each k de).size j k7 hx];repeat' (first|refine Wz ?_|((apply CW.aO mixed;(· kernel_rfl);rotate_left;intro w1 ab;replace hw:=Ext.trans hw ab;replace aA:=aA.ext ab;replace ax:=ax.ext ab;replace hN:=hN.ext ab;replace hS:=hS.ext ab;clear ab;rotate_right))|refine SW.st (ao hw rfl gZ) rfl ?_|exact SW.bx rfl)
      all_goals try omega
      exact ae.aN rfl rfl ⟨_,rfl,hw,rfl⟩
     ·repeat' (first|refine Wz ?_|((apply CW.aO mixed;(· kernel_rfl);rotate_left;intro w1 ab;replace hw:=Ext.trans hw ab;replace aA:=aA.ext ab;replace ax:=ax.ext ab;replace hN:=hN.ext ab;replace hS:=hS.ext ab;clear ab;rotate_right))|refine SW.st (ao hw rfl gZ) rfl ?_|exact SW.bx rfl)
      all_goals try omega
      exact ae.again (j+1) ⟨rfl,rfl,rfl,rfl,rfl,rfl,trivial⟩ (by omega) ⟨by omega,hw,aA,ax,hN,hS,fun i h h'=>by
       by_cases ei:i=j
       ·subst ei;exact hx
       ·exact hZ i h (by omega)⟩
    ·have ui:∀ (i:Nat) (h:i<k),(s.aa[i]'(by omega)).bf≠s.aa[k].bf:=fun i h=>hZ i h (by omega)
     refine Wz ?_;clear hZ
     refine CW.loop (fun u:Nat×Option Addr×Nat=>[(1,.pointer (some ⟨b1,0,none⟩)),(3,.slice u.2.1 (acc++s.aa[k].Names.take u.1).length u.2.2),(4,.slice A2 oC.length c2),(5,.int .i64 (k:Int)),(6,.pointer (some ⟨b6,0,none⟩)),(8,.int .i64 (u.1:Int))])
      (fun u w'=>u.1≤cs[k].Names.n∧Ext w w'∧aJ w' b1 30 (aU r)∧aJ w' b6 46 (db cs[k])∧Own w' w.heap.size 9 1 encStr u.2.1 (acc++s.aa[k].Names.take u.1).length u.2.2 (acc++s.aa[k].Names.take u.1)∧Own w' w.heap.size 3 1 bh A2 oC.length c2 oC ∧
        ∀ (i:Nat) (h:i<s.aa[k].Names.length),i<u.1→gm s.aa[k].Names[i]=true∧s.aa[k].Names[i]∉acc++s.aa[k].Names.take i∧(0<i→fK (s.aa[k].Names[i-1]'(by omega)) s.aa[k].Names[i]=true)) (fun u=>cs[k].Names.n-u.1) (0,A1,c1)
      ⟨rfl,by simp;rfl,rfl,rfl,rfl,rfl,trivial⟩ ⟨by simp only;omega,hw,aA,ax,by simpa using hN,hS,fun i h h'=>by simp only at h';omega⟩ ?_
     clear hw aA hN hS ax;rintro ⟨j,A1,c1⟩ w' ⟨hj,hw,aA,ax,hN,hS,hJ⟩
     simp only at hj hN hJ ⊢;have rE:=gb.names.base;by_cases iZ:j<cs[k].Names.n
     ·have kO:j<s.aa[k].Names.length:=by omega
      obtain ⟨nm,tM⟩ : ∃ nm,s.aa[k].Names[j]=nm:=⟨_,rfl⟩;have gN:=gb.names.one iZ (u := .string nm) (by rw [← tM];rfl);have Eo:nm.size≤140737488351232:=by rw [← tM];exact fN _ (List.getElem_mem kO)
      obtain ⟨qn,Gs⟩ : ∃ qn,gm nm=qn:=⟨_,rfl⟩
      have Ep:∀ w',bt Tryz.prog 53 [.string nm] w' fun v _=>v = .bool qn:=fun w'=>by
       have:=xj nm w' Eo
       rwa [Gs] at this
      have vQ:=xp (kb (l:=s.aa[k].Names) Hi j (fun i h h'=>(hJ i h h').2.1)) (fun n hn=>by
       rcases List.mem_append.1 hn with hn|hn
       ·exact Hj n hn
       ·obtain ⟨i,hi,rfl⟩:=List.mem_take_iff_getElem.1 hn;exact (hJ i (by omega) (by omega)).1)
      have jF:acc++s.aa[k].Names.take (j+1)=(acc++s.aa[k].Names.take j)++[nm]:=by rw [List.take_succ_eq_append_getElem kO,tM];simp
      have qG:(qn=false∨nm∈acc++s.aa[k].Names.take j ∨ ∃ vk : 0<j,fK (s.aa[k].Names[j-1]'(by omega)) nm=false)→j8 s=false:=fun h=>j9 fun hm=>by
       have h1:=(hm.each k de).names.each j kO;rw [tM,vL] at h1;rcases h with h|h|⟨vk,h⟩
       ·rw [Gs,h] at h1;exact absurd h1.1 (by simp)
       ·exact h1.2.1 h
       ·rw [h1.2.2 vk] at h;cases h
      have go:gm nm=true→(0<j→fK (s.aa[k].Names[j-1]'(by omega)) nm=true)→nm∉acc++s.aa[k].Names.take j → ∀ (i:Nat) (h:i<s.aa[k].Names.length),i<j+1→gm s.aa[k].Names[i]=true∧s.aa[k].Names[i]∉acc++s.aa[k].Names.take i∧(0<i→fK (s.aa[k].Names[i-1]'(by omega)) s.aa[k].Names[i]=true):=fun h1 h2 h3 i h h'=>by
       by_cases ei:i=j
       ·subst ei;rw [tM];exact ⟨h1,h3,h2⟩
       ·exact hJ i h (by omega)
      obtain ⟨ac,xr⟩ : ∃ ac,acc++s.aa[k].Names.take j=ac:=⟨_,rfl⟩;rw [xr] at hN vQ jF qG go ⊢;cases qn
      ·rw [qG (.inl rfl)];repeat' (first|refine Wz ?_|((apply CW.aO mixed;(· kernel_rfl);rotate_left;intro w1 ab;replace hw:=Ext.trans hw ab;replace aA:=aA.ext ab;replace ax:=ax.ext ab;replace hN:=hN.ext ab;replace hS:=hS.ext ab;clear ab;rotate_right))|refine SW.skip rfl rfl rfl rfl ?_|refine SW.st (ao hw rfl gN) rfl ?_|refine SW.bq rfl rfl (fun w1 ab=>(Ep _)) ?_|exact SW.bx rfl)
       exact ae.aN rfl rfl ⟨_,rfl,hw,rfl⟩
      ·by_cases sW : 0<j→fK (s.aa[k].Names[j-1]'(by omega)) nm=true
       ·rcases Nat.eq_zero_or_pos j with vk|vk
        all_goals
         first
         | (have gP:=gb.names.one (show j-1<cs[k].Names.n by omega) (u := .string (s.aa[k].Names[j-1]'(by omega))) rfl
            have Fb:(!fK (s.aa[k].Names[j-1]'(by omega)) nm)=false:=by rw [sW vk];rfl)
         | skip
        all_goals
         refine Wz ?_;(apply CW.aO mixed;(· kernel_rfl);rotate_left;intro w1 ab;replace hw:=Ext.trans hw ab;replace aA:=aA.ext ab;replace ax:=ax.ext ab;replace hN:=hN.ext ab;replace hS:=hS.ext ab;clear ab;rotate_right);repeat' (first|refine Wz ?_|refine SW.want rfl rfl ?_|refine SW.st (aY (j-1) rfl rfl (by assumption) (by omega) (by omega)) rfl ?_|refine SW.st (ao hw rfl gN) rfl ?_|refine SW.st (ao hw rfl gP) rfl ?_|refine SW.bq rfl rfl (fun w1 ab=>(Ep _)) ?_|(refine SW.st ((xi rfl rfl).eq (congrArg Value.bool Fb)) rfl ?_)|exact SW.bx rfl)
         all_goals try omega
         refine CW.loop (fun i:Nat=>[(1,.pointer (some ⟨b1,0,none⟩)),(3,.slice A1 ac.length c1),(4,.slice A2 oC.length c2),(5,.int .i64 (k:Int)),(6,.pointer (some ⟨b6,0,none⟩)),(8,.int .i64 (j:Int)),(9,.int .i64 (i:Int))])
          (fun i w'=>i≤ac.length∧Ext w w'∧aJ w' b1 30 (aU r)∧aJ w' b6 46 (db cs[k])∧Own w' w.heap.size 9 1 encStr A1 ac.length c1 ac∧Own w' w.heap.size 3 1 bh A2 oC.length c2 oC ∧ ∀ (m:Nat) (h:m<ac.length),m<i→ac[m]≠nm) (fun i=>ac.length-i) 0
          ⟨rfl,rfl,rfl,rfl,rfl,rfl,rfl,trivial⟩ ⟨by omega,hw,aA,ax,hN,hS,fun m h h'=>by omega⟩ ?_
         clear hw aA hN hS ax;rintro i w' ⟨hi,hw,aA,ax,hN,hS,hM⟩
         have Iw:=hN.sl.base;by_cases cf:i<ac.length
         ·have gM:=hN.sl.one cf (u := .string ac[i]) rfl;by_cases hx:ac[i]=nm
          ·have Ku:=decide_eq_true hx;rw [qG (.inr (.inl (hx ▸ List.getElem_mem cf)))];repeat' (first|refine Wz ?_|((apply CW.aO mixed;(· kernel_rfl);rotate_left;intro w1 ab;replace hw:=Ext.trans hw ab;replace aA:=aA.ext ab;replace ax:=ax.ext ab;replace hN:=hN.ext ab;replace hS:=hS.ext ab;clear ab;rotate_right))|refine SW.st (ao hw rfl gN) rfl ?_|refine SW.st (ak rfl gM) rfl ?_|(refine SW.st ((iC rfl rfl).eq (congrArg Value.bool Ku)) rfl ?_)|exact SW.bx rfl)
           exact ae.aN rfl rfl ⟨_,rfl,hw,rfl⟩
          ·have Ku:=decide_eq_false hx;repeat' (first|refine Wz ?_|((apply CW.aO mixed;(· kernel_rfl);rotate_left;intro w1 ab;replace hw:=Ext.trans hw ab;replace aA:=aA.ext ab;replace ax:=ax.ext ab;replace hN:=hN.ext ab;replace hS:=hS.ext ab;clear ab;rotate_right))|refine SW.st (ao hw rfl gN) rfl ?_|refine SW.st (ak rfl gM) rfl ?_|(refine SW.st ((iC rfl rfl).eq (congrArg Value.bool Ku)) rfl ?_)|exact SW.bx rfl)
           exact ae.again (i+1) ⟨rfl,rfl,rfl,rfl,rfl,rfl,rfl,trivial⟩ (by omega) ⟨by omega,hw,aA,ax,hN,hS,fun m h h'=>by
            by_cases em:m=i
            ·subst em;exact hx
            ·exact hM m h (by omega)⟩
         ·have tK:nm∉ac:=fun hm=>by
           obtain ⟨m,qd,qe⟩:=List.getElem_of_mem hm;exact hM m qd (by omega) qe
          repeat' (first|refine Wz ?_|refine SW.st (ao hw rfl gN) rfl ?_)
          refine SW.bJ rfl rfl rfl rfl rfl fun b w1 ab hb hB => ?_
          (replace hw:=Ext.trans hw ab;replace aA:=aA.ext ab;replace ax:=ax.ext ab;replace hN:=hN.ext ab;replace hS:=hS.ext ab);refine SW.append hN (aJ.mb (enc:=encStr) hB) hw.size rfl rfl rfl (by omega) (by omega) fun A3 c3 w2 Nt hg => ?_
          replace hw:=aE hw hg (Nat.le_refl _) hN.aM;replace aA:=aA.grown hg (fun e=>hN.dh aA rfl e.symm);replace ax:=ax.grown hg (fun e=>hN.dh ax rfl e.symm);replace hS:=hS.grown hg (hS.vE hN rfl);refine Wz ?_;exact ae.again (j+1,A3,c3) ⟨rfl,by simp only [jF,List.length_append];rfl,rfl,rfl,rfl,rfl,trivial⟩ (by simp only;omega) ⟨by simp only;omega,hw,aA,ax,by simp only [jF,List.length_append];exact Nt,hS,go Gs sW tK⟩
       ·have vk : 0<j:=by
         rcases Nat.eq_zero_or_pos j with h|h
         ·exact absurd (fun h'=>by omega) sW
         ·exact h
        have Kv:fK (s.aa[k].Names[j-1]'(by omega)) nm=false:=by
         cases e:fK (s.aa[k].Names[j-1]'(by omega)) nm
         ·rfl
         ·exact absurd (fun _=>e) sW
        have gP:=gb.names.one (show j-1<cs[k].Names.n by omega) (u := .string (s.aa[k].Names[j-1]'(by omega))) rfl;have Fb:(!fK (s.aa[k].Names[j-1]'(by omega)) nm)=true:=by rw [Kv];rfl
        rw [qG (.inr (.inr ⟨vk,Kv⟩))];repeat' (first|refine Wz ?_|((apply CW.aO mixed;(· kernel_rfl);rotate_left;intro w1 ab;replace hw:=Ext.trans hw ab;replace aA:=aA.ext ab;replace ax:=ax.ext ab;replace hN:=hN.ext ab;replace hS:=hS.ext ab;clear ab;rotate_right))|refine SW.want rfl rfl ?_|refine SW.st (aY (j-1) rfl rfl (by assumption) (by omega) (by omega)) rfl ?_|refine SW.st (ao hw rfl gN) rfl ?_|refine SW.st (ao hw rfl gP) rfl ?_|refine SW.bq rfl rfl (fun w1 ab=>(Ep _)) ?_|(refine SW.st ((xi rfl rfl).eq (congrArg Value.bool Fb)) rfl ?_)|exact SW.bx rfl)
        all_goals try omega
        exact ae.aN rfl rfl ⟨_,rfl,hw,rfl⟩
     ·have Gu:vH (bZ (s.aa.take k)) s.aa[k].Names:=⟨fun i h=>by rw [vL];exact hJ i h (by omega)⟩
      rw [List.take_of_length_le (show s.aa[k].Names.length≤j by omega)] at hN ⊢;rw [← vL,← jy s.aa k de] at hN ⊢;refine Wz ?_;clear hJ;obtain ⟨nl,LV⟩ : ∃ nl,bZ (s.aa.take (k+1))=nl:=⟨_,rfl⟩;rw [LV] at hN ⊢
      refine CW.loop (fun u:Nat×Option Addr×Nat=>[(1,.pointer (some ⟨b1,0,none⟩)),(3,.slice A1 nl.length c1),(4,.slice u.2.1 (oC++(s.aa[k].ai.take u.1).map fun x=>x.At).length u.2.2),(5,.int .i64 (k:Int)),(6,.pointer (some ⟨b6,0,none⟩)),(10,.int .i64 (u.1:Int))])
       (fun u w'=>u.1≤cs[k].ai.n∧Ext w w'∧aJ w' b1 30 (aU r)∧aJ w' b6 46 (db cs[k])∧Own w' w.heap.size 9 1 encStr A1 nl.length c1 nl∧Own w' w.heap.size 3 1 bh u.2.1 (oC++(s.aa[k].ai.take u.1).map fun x=>x.At).length u.2.2 (oC++(s.aa[k].ai.take u.1).map fun x=>x.At) ∧
         ∀ (i:Nat) (h:i<s.aa[k].ai.length),i<u.1→s.aa[k].ai[i].At∉oC++(s.aa[k].ai.take i).map fun x=>x.At) (fun u=>cs[k].ai.n-u.1) (0,A2,c2)
       ⟨rfl,rfl,by simp;rfl,rfl,rfl,rfl,trivial⟩ ⟨by simp only;omega,hw,aA,ax,hN,by simpa using hS,fun i h h'=>by simp only at h';omega⟩ ?_
      clear hw aA hN hS ax;rintro ⟨j,A2,c2⟩ w' ⟨hj,hw,aA,ax,hN,hS,hJ⟩
      simp only at hj hS hJ ⊢;have rE:=gb.aR.base;by_cases iZ:j<cs[k].ai.n
      ·have kO:j<s.aa[k].ai.length:=by omega
       obtain ⟨t,ht⟩ : ∃ t,s.aa[k].ai[j].At=t:=⟨_,rfl⟩;have gT:=gb.aR.dv iZ (j:=0) (u := .int .i64 t) (by rw [← ht];rfl)
       have vQ:=AY (kb (l:=s.aa[k].ai.map fun x=>x.At) LS j (fun i h h'=>by
        have:=hJ i (by simpa using h) h'
        simpa [List.map_take] using this)) (fun n hn=>by
        rcases List.mem_append.1 hn with hn|hn
        ·exact LU n hn
        ·obtain ⟨x,hx,rfl⟩:=List.mem_map.1 (List.mem_of_mem_take hn);exact Jq.LQ hH x hx)
       rw [← List.map_take] at vQ
       have jF:(oC++(s.aa[k].ai.take (j+1)).map fun x=>x.At)=(oC++(s.aa[k].ai.take j).map fun x=>x.At)++[t]:=by
        rw [List.take_succ_eq_append_getElem kO,← ht,List.map_append,List.append_assoc]
        rfl
       have Fc:t∈(oC++(s.aa[k].ai.take j).map fun x=>x.At)→j8 s=false:=fun h=>j9 fun hm=>by
        have h1:=(hm.each k de).aR j kO;rw [ht,vM] at h1;exact h1 h
       have go:t∉(oC++(s.aa[k].ai.take j).map fun x=>x.At) → ∀ (i:Nat) (h:i<s.aa[k].ai.length),i<j+1→s.aa[k].ai[i].At∉oC++(s.aa[k].ai.take i).map fun x=>x.At:=fun h1 i h h'=>by
        by_cases ei:i=j
        ·subst ei;rw [ht];exact h1
        ·exact hJ i h (by omega)
       obtain ⟨ac,xr⟩ : ∃ ac,(oC++(s.aa[k].ai.take j).map fun x=>x.At)=ac:=⟨_,rfl⟩;rw [xr] at hS vQ jF Fc go ⊢;refine Wz ?_
       refine CW.loop (fun i:Nat=>[(1,.pointer (some ⟨b1,0,none⟩)),(3,.slice A1 nl.length c1),(4,.slice A2 ac.length c2),(5,.int .i64 (k:Int)),(6,.pointer (some ⟨b6,0,none⟩)),(10,.int .i64 (j:Int)),(11,.int .i64 (i:Int))])
        (fun i w'=>i≤ac.length∧Ext w w'∧aJ w' b1 30 (aU r)∧aJ w' b6 46 (db cs[k])∧Own w' w.heap.size 9 1 encStr A1 nl.length c1 nl∧Own w' w.heap.size 3 1 bh A2 ac.length c2 ac ∧ ∀ (m:Nat) (h:m<ac.length),m<i→ac[m]≠t) (fun i=>ac.length-i) 0
        ⟨rfl,rfl,rfl,rfl,rfl,rfl,rfl,trivial⟩ ⟨by omega,hw,aA,ax,hN,hS,fun m h h'=>by omega⟩ ?_
       clear hw aA hN hS ax;rintro i w' ⟨hi,hw,aA,ax,hN,hS,hM⟩
       have Iw:=hS.sl.base;by_cases cf:i<ac.length
       ·have gM:=hS.sl.one cf (u := .int .i64 ac[i]) rfl;by_cases hx:ac[i]=t
        ·rw [Fc (hx ▸ List.getElem_mem cf)];repeat' (first|refine Wz ?_|((apply CW.aO mixed;(· kernel_rfl);rotate_left;intro w1 ab;replace hw:=Ext.trans hw ab;replace aA:=aA.ext ab;replace ax:=ax.ext ab;replace hN:=hN.ext ab;replace hS:=hS.ext ab;clear ab;rotate_right))|refine SW.st (ao hw rfl gT) rfl ?_|refine SW.st (ak rfl gM) rfl ?_|exact SW.bx rfl)
         all_goals try omega
         exact ae.aN rfl rfl ⟨_,rfl,hw,rfl⟩
        ·repeat' (first|refine Wz ?_|((apply CW.aO mixed;(· kernel_rfl);rotate_left;intro w1 ab;replace hw:=Ext.trans hw ab;replace aA:=aA.ext ab;replace ax:=ax.ext ab;replace hN:=hN.ext ab;replace hS:=hS.ext ab;clear ab;rotate_right))|refine SW.st (ao hw rfl gT) rfl ?_|refine SW.st (ak rfl gM) rfl ?_|exact SW.bx rfl)
         all_goals try omega
         exact ae.again (i+1) ⟨rfl,rfl,rfl,rfl,rfl,rfl,rfl,trivial⟩ (by omega) ⟨by omega,hw,aA,ax,hN,hS,fun m h h'=>by
          by_cases em:m=i
          ·subst em;exact hx
          ·exact hM m h (by omega)⟩
       ·have tK:t∉ac:=fun hm=>by
         obtain ⟨m,qd,qe⟩:=List.getElem_of_mem hm;exact hM m qd (by omega) qe
        repeat' (first|refine Wz ?_|refine SW.st (ao hw rfl gT) rfl ?_)
        refine SW.bJ rfl rfl rfl rfl rfl fun b w1 ab hb hB => ?_
        (replace hw:=Ext.trans hw ab;replace aA:=aA.ext ab;replace ax:=ax.ext ab;replace hN:=hN.ext ab;replace hS:=hS.ext ab);refine SW.append hS (aJ.mb (enc:=bh) hB) hw.size rfl rfl rfl (by omega) (by omega) fun A3 c3 w2 Et hg => ?_
        replace hw:=aE hw hg (Nat.le_refl _) hS.aM;replace aA:=aA.grown hg (fun e=>hS.dh aA rfl e.symm);replace ax:=ax.grown hg (fun e=>hS.dh ax rfl e.symm);replace hN:=hN.grown hg (hN.vE hS rfl);refine Wz ?_;exact ae.again (j+1,A3,c3) ⟨rfl,rfl,by simp only [jF,List.length_append];rfl,rfl,rfl,rfl,trivial⟩ (by simp only;omega) ⟨by simp only;omega,hw,aA,ax,hN,by simp only [jF,List.length_append];exact Et,go tK⟩
      ·rw [List.take_of_length_le (show s.aa[k].ai.length≤j by omega),← vM,← jz s.aa k de] at hS ⊢;rw [← LV] at hN ⊢;refine Wz ?_
       exact ae.again (k+1,A1,c1,A2,c2) ⟨rfl,rfl,rfl,rfl,trivial⟩ (by simp only;omega) ⟨by simp only;omega,hw,aA,hN,hS,fun i h h'=>by
        simp only at h';by_cases ei:i=k
        ·subst ei;exact ⟨Jq,ui,Gu,fun i h=>by rw [vM];exact hJ i h (by omega)⟩
        ·exact hI i h (by omega)⟩
  ·rw [yJ ⟨g1,hH,g3,fun i h=>hI i h (by omega)⟩];refine Wz ?_;exact ae.aN rfl rfl ⟨_,rfl,hw,rfl⟩
 ·have hF:j8 s=false:=j9 fun hm=>sV ⟨hm.words,by rw [← hq];exact oU hm.heap,hm.most⟩
  rw [hF];cases q
  all_goals simp only [true_and,Bool.false_eq_true,false_and,and_false,not_false_eq_true] at sV
  ·rcases (show s.Words.length≠4096∨s.Words.length=4096 by omega) with g|g
   all_goals
    repeat' (first|refine Wz ?_|refine SW.skip rfl rfl rfl rfl ?_|refine SW.st (aX rfl rfl ((gR aA))) rfl ?_|(refine SW.call rfl rfl (c1 _ hw) ?_;intro v w1 ab hv;subst hv;replace hw:=Ext.trans hw ab;replace aA:=aA.ext ab;clear ab))
    all_goals try omega
    exact ae.aN rfl rfl ⟨_,rfl,hw,rfl⟩
  ·rcases (show s.Words.length≠4096∨(s.Words.length=4096∧20<s.aa.length) by omega) with g|g
   all_goals
    repeat' (first|refine Wz ?_|refine SW.want rfl rfl ?_|refine SW.st (aX rfl rfl ((gR aA))) rfl ?_|(refine SW.call rfl rfl (c1 _ hw) ?_;intro v w1 ab hv;subst hv;replace hw:=Ext.trans hw ab;replace aA:=aA.ext ab;clear ab))
    all_goals try omega
    exact ae.aN rfl rfl ⟨_,rfl,hw,rfl⟩
open Go.RowKit
theorem aF.og.lA {s:aF} (h:s.og) : s.lA :=
 ⟨h.small,fun z hz=>⟨(h.heap.cK z hz).1,(h.heap.cK z hz).2.1⟩,fun c hc x hx=>(h.dN c hc).aR x hx,fun c hc n hn=>(h.dN c hc).names n hn⟩
open Go.RowKit
open Go.RowKit
theorem dJ.Ix {l:List Int} {most x:Int} {acc:List Int} {r:Option (List Int)} (h:dJ l most x acc r) : (acc.length:Int)≤most → ∀ out,r=some out→(out.length:Int)≤most:=by
 induction h with
 | done out=>intro ha o e;cases e;exact ha
 | bad=>intro _ _ e;cases e
 | @step k out r h1 hk h3 h ih =>
   intro ha o e;exact ih (by rw [List.length_append];simp;omega) o e
theorem AZ {x y x' y':Block} (h:gI x y) (e1:x'.At=x.At) (e2:x'.Order=x.Order) (e3:y'.At=y.At) (e4:y'.Order=y.Order) : gI x' y':=by
 unfold gI at *;rw [e1,e2,e3,e4];exact h
theorem A6 {z:aq} (hz:bR z) {b:Block} {t:Int} (st:Bool) : wP (eD z b t st):=by
 have h:=wQ hz;unfold eD;split
 ·unfold eA;split
  ·exact h
  ·unfold wP at *;rw [List.pairwise_map];exact h.imp fun {x y} JS=>AZ JS (lO _ _ _ x).1 (lO _ _ _ x).2 (lO _ _ _ y).1 (lO _ _ _ y).2
 ·exact h
theorem xt {a q:Int} (h1 : 1≤q) (h4:q≤4) (hm:a % pw q=0) : beside (a+pw (q-1)) (q-1)=a∧(a+pw (q-1)) % pw (q-1)=0:=by
 have hp:pw q=2*pw (q-1):=by
  have:=ja (o:=q-1) (by omega) (by omega)
  rwa [Int.sub_add_cancel] at this
 unfold beside;rcases eg (show 0≤q-1 by omega) (show q-1≤4 by omega) with ⟨e1,e2⟩|⟨e1,e2⟩|⟨e1,e2⟩|⟨e1,e2⟩|⟨e1,e2⟩<;>rw [hp,e2] at hm<;>rw [e2]<;>(refine ⟨?_,by omega⟩)<;>split<;>omega
theorem CX {f t:Int} {l:List Block} {a q ty:Int} (h:ve f t l a q) (hn:wP l) (hq : 1≤q) : wP (mP ty a q l):=by
 obtain ⟨f1,f2,f3,f4,f5⟩:=h.fit;obtain ⟨hb,hm⟩:=xt hq f2 f5
 have hp:pw q=2*pw (q-1):=by
  have:=ja (o:=q-1) (by omega) (by omega)
  rwa [Int.sub_add_cancel] at this
 have EU:=bG (o:=q-1) (by omega) (by omega)
 have cG:∀ x∈l,x.At≠a:=fun x hx e=>by
  have:=bG (h.cU x hx).1.1 (h.cU x hx).1.2.1
  rcases h.Bx x hx with g|g<;>omega
 have e:l=l.take (bE l (a+pw (q-1)))++l.drop (bE l (a+pw (q-1))):=(List.take_append_drop _ l).symm
 have h0:=hn;unfold wP at h0;rw [e,List.pairwise_append] at h0;obtain ⟨h1,h2,h3⟩:=h0
 have hA:∀ x∈l.take (bE l (a+pw (q-1))),gI x (jG ty a q):=fun x hx=>by
  have jI:=List.mem_of_mem_take hx;obtain ⟨j,hj,rfl⟩:=List.getElem_of_mem hx;simp only [List.length_take] at hj;rw [List.getElem_take] at jI ⊢;have c9:=mH (l:=l) (a:=a+pw (q-1)) (k:=j) (by omega);refine ⟨?_,fun hh => ?_⟩
  ·simp only [jG];rcases h.Bx _ jI with g|g<;>omega
  ·obtain ⟨_,_,hh⟩:=hh;simp only [jG,hb] at hh;exact cG _ jI hh
 have hB:∀ x∈l.drop (bE l (a+pw (q-1))),gI (jG ty a q) x:=fun x hx=>by
  have jI:=List.mem_of_mem_drop hx;obtain ⟨j,hj,rfl⟩:=List.getElem_of_mem hx;simp only [List.length_drop] at hj;rw [List.getElem_drop] at jI ⊢;have xK:=zz (l:=l) (a:=a+pw (q-1)) (by omega)
  have hle:(l[bE l (a+pw (q-1))]'(by omega)).At≤(l[bE l (a+pw (q-1))+j]'(by omega)).At:=by
   rcases Nat.eq_zero_or_pos j with rfl|vk
   ·exact Int.le_refl _
   ·have:=fk h.nD (show bE l (a+pw (q-1))+j<l.length by omega) (show bE l (a+pw (q-1))<bE l (a+pw (q-1))+j by omega)
    have:=bG (h.cU _ (List.getElem_mem (show bE l (a+pw (q-1))<l.length by omega))).1.1 (h.cU _ (List.getElem_mem (show bE l (a+pw (q-1))<l.length by omega))).1.2.1
    omega
  have Jr:=(h.cU _ jI).1;have Kw:=bG Jr.1 Jr.2.1;refine ⟨?_,fun hh => ?_⟩
  ·simp only [jG];rcases h.Bx _ jI with g|g<;>omega
  ·obtain ⟨g4,g5,hh⟩:=hh;have g6:=(lP Jr.1 g4 Jr.2.2.2.2).1;simp only [jG] at g5 hh;rw [← hh,← g5,hb] at g6;exact cG _ jI g6.symm
 unfold mP aV wP;rw [List.append_assoc,List.pairwise_append];refine ⟨h1,?_,fun x hx y hy => ?_⟩
 ·rw [List.singleton_append,List.pairwise_cons];exact ⟨hB,h2⟩
 ·rw [List.singleton_append,List.mem_cons] at hy;rcases hy with rfl|hy
  ·exact hA x hx
  ·exact h3 x hx y hy
theorem uO {f t ty:Int} (h0 : 0≤f) (ht:t≤256) (FX:t % 16=0) (nn:fi ty) {a:Int}:∀ (k:Nat) (q:Int) (l:List Block),(k:Int)≤q→ve f t l a q→wP l→ve f t (iR ty a k q l) a (q-k)∧wP (iR ty a k q l)
 | 0,q,l,_,h,hn=>by
   refine ⟨?_,hn⟩;have:q-((0:Nat) : Int)=q:=by omega
   rw [this];exact h
 | k+1,q,l,hk,h,hn=>by
   have hq : 1≤q:=by omega
   have:=uO h0 ht FX nn k (q-1) (mP ty a q l) (by omega) (sb h h0 ht FX hq nn).1 (CX h hn hq)
   rw [iR];rwa [show q-1-(k:Int)=q-((k+1:Nat) : Int) by omega] at this
structure Fe (z z':aq) : Prop where
 may:bR z'
 from_:z'.aW=z.aW
 jZ:z'.To=z.To
theorem gl.yf {z:aq} {o t:Int} {u:aq×Int×Int} (h:gl z o t u) (h0:u.2.2=0) : Fe z u.1∧(∃ x∈z.ag,x.At=u.2.1)∧dZ z=true:=by
 cases h with
 | bad|range|kind|room=>simp at h0
 | @ok k st hq ho ht hk hp =>
   have hz:=dC.1 hq;obtain ⟨o1,o2,o3,o4,o5⟩:=hz.ok;obtain ⟨_,Ha,Jf⟩:=hp.ord;obtain ⟨l1,l2,l3⟩:=oY hz (b:=z.ag[k]) ht st;have D9:k<(eD z z.ag[k] t st).length:=by omega
   have Ao:=pQ hz ht st hk;have hJ:=pP l2 l3 D9;rw [Ao] at hJ;simp only at hJ;have hn:wP ((eD z z.ag[k] t st).eraseIdx k):=(A6 hz st).sublist (List.eraseIdx_sublist _ _)
   have mG:=hz.cU k hk;have BX:fi (kS z t st z.ag[k]):=by unfold kS;split;exact ht;exact mG.2
   have hS:=uO (ty:=kS z t st z.ag[k]) o1 o3 o5 BX (z.ag[k].Order-o).toNat z.ag[k].Order _ (by omega) hJ hn;have e:(if st=true then eA z.ag z.ag[k] t else z.ag)=eD z z.ag[k] t st:=rfl
   refine ⟨⟨⟨hz.ok,?_,?_,fun i hi => ?_,fun i hi => ?_⟩,rfl,rfl⟩,⟨z.ag[k],List.getElem_mem hk,rfl⟩,hq⟩
   ·simp only [mQ];have hlen:=hz.len;split
    ·unfold dz;split
     ·exact hlen
     ·split<;>simpa using hlen
    ·exact hlen
   ·simp only [mQ];intro v hv;split at hv
    ·unfold dz at hv;split at hv
     ·exact hz.types v hv
     ·split at hv
      ·rcases List.mem_or_eq_of_mem_set hv with hv|rfl
       ·rcases List.mem_or_eq_of_mem_set hv with hv|rfl
        ·exact hz.types v hv
        ·exact ht
       ·exact ht
      ·rcases List.mem_or_eq_of_mem_set hv with hv|rfl
       ·exact hz.types v hv
       ·exact ht
    ·exact hz.types v hv
   ·exact hS.1.cU _ (List.getElem_mem hi)
   ·have hn:=hS.2;unfold wP at hn;rw [List.pairwise_iff_getElem] at hn;exact hn i (i+1) (by simp only [mQ] at hi;exact Nat.lt_of_succ_lt hi) hi (Nat.lt_succ_self i)
def dH (fl:Int) : Int:=if 0≤fl∧fl≤15 then (if fl / 2 % 4=0 then 0 else if fl / 2 % 4=1 then 1 else if fl / 2 % 4=2 then 2 else -1) else -1
theorem xu {fl:Int} (h : 0≤dH fl) : (0≤fl∧fl≤15)∧fi (dH fl):=by
 unfold dH fi at *;split at h
 ·rename_i hf;rw [if_pos hf];refine ⟨hf,?_⟩;repeat' split
  all_goals omega
 ·omega
def rc (s:aq×aq) (zi:Int) : aq:=if zi=0 then s.1 else s.2
def kU (s:aq×aq) (zi:Int) (z:aq) : aq×aq:=if zi=0 then (z,s.2) else (s.1,z)
def na (m0 m1:Int) (s:aq×aq) (zi fl:Int) : Int:=(if 8≤fl then (if zi=0 then m0 else m1) / 2 else (if zi=0 then m0 else m1))+(if zi=0∧fl % 2=0 then (s.2.To-s.2.aW) / 32 else 0)
def dr (m0 m1:Int) (s:aq×aq) (zi o fl:Int) : Prop:=na m0 m1 s zi fl≤dE (rc s zi).ag-pw o
instance (m0 m1:Int) (s:aq×aq) (zi o fl:Int) : Decidable (dr m0 m1 s zi o fl):=inferInstanceAs (Decidable (_≤_))
inductive ff (m0 m1 zi t fl:Int) : aq×aq→List Int→(aq×aq)×List Int→Prop
 | full {s:aq×aq} {l:List Int} (h:l.length=3) : ff m0 m1 zi t fl s l (s,l)
 | jO {s:aq×aq} {l:List Int} (h:l.length<3) (he : ¬ dr m0 m1 s zi 0 fl) : ff m0 m1 zi t fl s l (s,l)
 | none {s:aq×aq} {l:List Int} {u:aq×Int×Int} (h:l.length<3) (he:dr m0 m1 s zi 0 fl) (ht:gl (rc s zi) 0 t u) (hu:u.2.2≠0) : ff m0 m1 zi t fl s l (s,l)
 | more {s:aq×aq} {l:List Int} {u:aq×Int×Int} {r:(aq×aq)×List Int} (h:l.length<3) (he:dr m0 m1 s zi 0 fl) (ht:gl (rc s zi) 0 t u) (hu:u.2.2=0) (hr:ff m0 m1 zi t fl (kU s zi u.1) (l++[u.2.1]) r) : ff m0 m1 zi t fl s l r
theorem ff.km {m0 m1 zi t fl:Int} {s:aq×aq} {l:List Int} {r r':(aq×aq)×List Int} (h:ff m0 m1 zi t fl s l r) : ff m0 m1 zi t fl s l r'→r=r':=by
 induction h with
 | full h=>intro k;cases k with
   | full=>rfl
   | jO h'|none h'|more h'=>omega
 | jO h he=>intro k;cases k with
   | full h'=>omega
   | jO=>rfl
   | none _ nO|more _ nO=>exact absurd nO he
 | none h he ht hu=>intro k;cases k with
   | full h'=>omega
   | jO _ nO=>exact absurd he nO
   | none=>rfl
   | more _ _ mo A7=>rw [ht.km mo] at hu;exact absurd A7 hu
 | more h he ht hu hr ih=>intro k;cases k with
   | full h'=>omega
   | jO _ nO=>exact absurd he nO
   | none _ _ mo A7=>rw [ht.km mo] at hu;exact absurd hu A7
   | more _ _ mo A7 mj =>
     have e:=ht.km mo;subst e;exact ih mj
def dk (x:aB) (pg:List Int) : aB:=⟨x.dL,x.aq,x.Ty,pg⟩
def re (L:List aB) (x:aB) (pg:List Int) : List aB:=if pg.length≤1 then L.eraseIdx (a8 L x) else L.set (a8 L x) (dk x pg.dropLast)
def fX (L:List aB) (x:aB) (pg:List Int) : List aB:=if pg=[] then L else jx L (dk x pg)
inductive ij (m0 m1 cpu zi o t fl:Int) (s:aq×aq) (L:List aB) : Option ((aq×aq)×List aB×Int)→Prop
 | list (ho:o=0) (hk:bT L ⟨cpu,zi,t,[]⟩=true) (hp:dA L ⟨cpu,zi,t,[]⟩≠[]) : ij m0 m1 cpu zi o t fl s L (some (s,re L ⟨cpu,zi,t,[]⟩ (dA L ⟨cpu,zi,t,[]⟩),(dA L ⟨cpu,zi,t,[]⟩).getLast hp))
 | jO (hn : ¬ (o=0∧bT L ⟨cpu,zi,t,[]⟩=true)) (he : ¬ dr m0 m1 s zi o fl) : ij m0 m1 cpu zi o t fl s L none
 | none {u:aq×Int×Int} (hn : ¬ (o=0∧bT L ⟨cpu,zi,t,[]⟩=true)) (he:dr m0 m1 s zi o fl) (ht:gl (rc s zi) o t u) (hu:u.2.2≠0) : ij m0 m1 cpu zi o t fl s L none
 | uC {u:aq×Int×Int} (ho : 0<o) (he:dr m0 m1 s zi o fl) (ht:gl (rc s zi) o t u) (hu:u.2.2=0) : ij m0 m1 cpu zi o t fl s L (some (kU s zi u.1,L,u.2.1))
 | fill {u:aq×Int×Int} {r:(aq×aq)×List Int} (ho:o=0) (hk:bT L ⟨cpu,zi,t,[]⟩=false) (he:dr m0 m1 s zi o fl) (ht:gl (rc s zi) o t u) (hu:u.2.2=0) (hr:ff m0 m1 zi t fl (kU s zi u.1) [] r) : ij m0 m1 cpu zi o t fl s L (some (r.1,fX L ⟨cpu,zi,t,[]⟩ r.2,u.2.1))
theorem ij.km {m0 m1 cpu zi o t fl:Int} {s:aq×aq} {L:List aB} {r r':Option ((aq×aq)×List aB×Int)} (h:ij m0 m1 cpu zi o t fl s L r) (k:ij m0 m1 cpu zi o t fl s L r') : r=r':=by
 cases h with
 | list ho hk hp=>cases k with
   | list=>rfl
   | jO hn|none hn=>exact absurd ⟨ho,hk⟩ hn
   | uC tI=>omega
   | fill _ oO=>rw [hk] at oO;cases oO
 | jO hn he=>cases k with
   | list ho hk=>exact absurd ⟨ho,hk⟩ hn
   | jO=>rfl
   | none _ nO|uC _ nO|fill _ _ nO=>exact absurd nO he
 | none hn he ht hu=>cases k with
   | list ho hk=>exact absurd ⟨ho,hk⟩ hn
   | jO _ nO=>exact absurd he nO
   | none=>rfl
   | uC _ _ mo A7|fill _ _ _ mo A7=>rw [ht.km mo] at hu;exact absurd A7 hu
 | uC ho he ht hu=>cases k with
   | list tI=>omega
   | jO _ nO=>exact absurd he nO
   | none _ _ mo A7=>rw [ht.km mo] at hu;exact absurd hu A7
   | uC _ _ mo=>rw [ht.km mo]
   | fill tI=>omega
 | fill ho hk he ht hu hr=>cases k with
   | list _ oO=>rw [hk] at oO;cases oO
   | jO _ nO=>exact absurd he nO
   | none _ _ mo A7=>rw [ht.km mo] at hu;exact absurd hu A7
   | uC tI=>omega
   | fill _ _ _ mo _ mj =>
     have e:=ht.km mo;subst e;rw [hr.km mj]
inductive ik (m0 m1 cpu o t fl:Int) (s:aq×aq) (L:List aB) : Option ((aq×aq)×List aB×Int)→Prop
 | vr {r:(aq×aq)×List aB×Int} (hf:fl % 2=0) (h:ij m0 m1 cpu 1 o t fl s L (some r)) : ik m0 m1 cpu o t fl s L (some r)
 | low {r:Option ((aq×aq)×List aB×Int)} (hf:fl % 2=0→ij m0 m1 cpu 1 o t fl s L none) (h:ij m0 m1 cpu 0 o t fl s L r) : ik m0 m1 cpu o t fl s L r
theorem ik.km {m0 m1 cpu o t fl:Int} {s:aq×aq} {L:List aB} {r r':Option ((aq×aq)×List aB×Int)} (h:ik m0 m1 cpu o t fl s L r) (k:ik m0 m1 cpu o t fl s L r') : r=r':=by
 cases h with
 | vr hf h=>cases k with
   | vr _ h'=>exact h.km h'
   | low tL=>cases h.km (tL hf)
 | low hf h=>cases k with
   | vr tL h'=>cases h'.km (hf tL)
   | low _ h'=>exact h.km h'
def bQ (h:Heap) (i:Nat) : Int:=h.bH.getD i 0
def kV (h:Heap) (s:aq×aq) (L:List aB) (lv:List Block) : Heap:=⟨[s.1,s.2],h.bH,h.bW,L,lv⟩
def gB (h:Heap) (at_ o t:Int) : List Block:=aV h.Live (bE h.Live at_) ⟨at_,o,t⟩
inductive dP (h:Heap) (cpu o fl:Int) : Heap×Int×Int→Prop
 | bad (hb:iK h=false) : dP h cpu o fl (.zero,0,8)
 | range (hb:iK h=true) (hr : ¬ ((0≤cpu∧cpu<h.bW)∧0≤o∧o≤4)) : dP h cpu o fl (.zero,0,1)
 | form (hb:iK h=true) (hr:(0≤cpu∧cpu<h.bW)∧0≤o∧o≤4) (ht:dH fl<0) : dP h cpu o fl (.zero,0,3)
 | once {z0 z1:aq} {r:(aq×aq)×List aB×Int} (hb:iK h=true) (hr:(0≤cpu∧cpu<h.bW)∧0≤o∧o≤4) (ht : 0≤dH fl) (hz:h.aQ=[z0,z1]) (ha:ik (bQ h 0) (bQ h 1) cpu o (dH fl) fl (z0,z1) h.av (some r)) :
    dP h cpu o fl (kV h r.1 r.2.1 (gB h r.2.2 o (dH fl)),r.2.2,0)
 | nb {z0 z1:aq} {r:(aq×aq)×List aB×Int} (hb:iK h=true) (hr:(0≤cpu∧cpu<h.bW)∧0≤o∧o≤4) (ht : 0≤dH fl) (hz:h.aQ=[z0,z1]) (ha:ik (bQ h 0) (bQ h 1) cpu o (dH fl) fl (z0,z1) h.av none)
    (h2:ik (bQ h 0) (bQ h 1) cpu o (dH fl) fl (dp (z0,z1) (aS h.av)) [] (some r)) : dP h cpu o fl (kV h r.1 r.2.1 (gB h r.2.2 o (dH fl)),r.2.2,0)
 | room {z0 z1:aq} (hb:iK h=true) (hr:(0≤cpu∧cpu<h.bW)∧0≤o∧o≤4) (ht : 0≤dH fl) (hz:h.aQ=[z0,z1]) (ha:ik (bQ h 0) (bQ h 1) cpu o (dH fl) fl (z0,z1) h.av none)
    (h2:ik (bQ h 0) (bQ h 1) cpu o (dH fl) fl (dp (z0,z1) (aS h.av)) [] none) : dP h cpu o fl (.zero,0,6)
theorem dP.km {h:Heap} {cpu o fl:Int} {u v:Heap×Int×Int} (a:dP h cpu o fl u) (b:dP h cpu o fl v) : u=v:=by
 cases a with
 | bad hb=>cases b with
   | bad=>rfl
   | range jE|form jE|once jE|nb jE|room jE=>rw [hb] at jE;cases jE
 | range hb hr=>cases b with
   | bad jE=>rw [hb] at jE;cases jE
   | range=>rfl
   | form _ mj|once _ mj|nb _ mj|room _ mj=>exact absurd mj hr
 | form hb hr ht=>cases b with
   | bad jE=>rw [hb] at jE;cases jE
   | range _ mj=>exact absurd hr mj
   | form=>rfl
   | once _ _ mo|nb _ _ mo|room _ _ mo=>omega
 | once hb hr ht hz ha=>cases b with
   | bad jE=>rw [hb] at jE;cases jE
   | range _ mj=>exact absurd hr mj
   | form _ _ mo=>omega
   | once _ _ _ lF ie=>rw [hz] at lF;simp only [List.cons.injEq,and_true] at lF;obtain ⟨rfl,rfl⟩:=lF;cases ha.km ie;rfl
   | nb _ _ _ lF ie|room _ _ _ lF ie=>rw [hz] at lF;simp only [List.cons.injEq,and_true] at lF;obtain ⟨rfl,rfl⟩:=lF;cases ha.km ie
 | nb hb hr ht hz ha h2=>cases b with
   | bad jE=>rw [hb] at jE;cases jE
   | range _ mj=>exact absurd hr mj
   | form _ _ mo=>omega
   | once _ _ _ lF ie=>rw [hz] at lF;simp only [List.cons.injEq,and_true] at lF;obtain ⟨rfl,rfl⟩:=lF;cases ha.km ie
   | nb _ _ _ lF ie mi=>rw [hz] at lF;simp only [List.cons.injEq,and_true] at lF;obtain ⟨rfl,rfl⟩:=lF;cases h2.km mi;rfl
   | room _ _ _ lF ie mi=>rw [hz] at lF;simp only [List.cons.injEq,and_true] at lF;obtain ⟨rfl,rfl⟩:=lF;cases h2.km mi
 | room hb hr ht hz ha h2=>cases b with
   | bad jE=>rw [hb] at jE;cases jE
   | range _ mj=>exact absurd hr mj
   | form _ _ mo=>omega
   | once _ _ _ lF ie=>rw [hz] at lF;simp only [List.cons.injEq,and_true] at lF;obtain ⟨rfl,rfl⟩:=lF;cases ha.km ie
   | nb _ _ _ lF ie mi=>rw [hz] at lF;simp only [List.cons.injEq,and_true] at lF;obtain ⟨rfl,rfl⟩:=lF;cases h2.km mi
   | room=>rfl
structure VS (s:aq×aq) : Prop where
 nG:bR s.1
 ms:bR s.2
 o9:s.1.aW=0
 zM:s.1.To=s.2.aW
 Ec:s.2.To=256
theorem VS.rc {s:aq×aq} (h:VS s) (zi:Int) : bR (rc s zi):=by unfold Go.Proofs.YtjimadiidbkohaaGreatDoor.rc;split;exact h.nG;exact h.ms
theorem VS.pZ {s:aq×aq} (h:VS s) {zi:Int} {z':aq} (hk:Fe (Go.Proofs.YtjimadiidbkohaaGreatDoor.rc s zi) z') : VS (kU s zi z'):=by
 obtain ⟨k1,k2,k3⟩:=hk;unfold Go.Proofs.YtjimadiidbkohaaGreatDoor.rc at k2 k3;unfold kU;split
 ·rename_i e;rw [if_pos e] at k2 k3;exact ⟨k1,h.ms,by rw [k2];exact h.o9,by rw [k3];exact h.zM,h.Ec⟩
 ·rename_i e;rw [if_neg e] at k2 k3;exact ⟨h.nG,k1,h.o9,by rw [k2];exact h.zM,by rw [k3];exact h.Ec⟩
theorem ff.vs {m0 m1 zi t fl:Int} {s:aq×aq} {l:List Int} {r:(aq×aq)×List Int} (h:ff m0 m1 zi t fl s l r) : VS s→VS r.1∧r.2.length≤3:=by
 induction h with
 | full h=>exact fun k=>⟨k,by simp only;omega⟩
 | jO h he=>exact fun k=>⟨k,by simp only;omega⟩
 | none h=>exact fun k=>⟨k,by simp only;omega⟩
 | more h he ht hu hr ih=>exact fun k=>ih (k.pZ (ht.yf hu).1)
theorem nF.vs {s:aq×aq} {bs:List Block} (h:nF s bs) : VS s:=⟨h.nG,h.ms,h.o9,h.zM,h.Ec⟩
def s8 (s:aq×aq) (L:List aB) (a:Int) : Prop:=(∃ x∈s.1.ag,x.At=a)∨(∃ x∈s.2.ag,x.At=a) ∨ ∃ l∈L,a∈l.aw
theorem ij.found {m0 m1 cpu zi o t fl:Int} {s:aq×aq} {L:List aB} {r:(aq×aq)×List aB×Int} (h:ij m0 m1 cpu zi o t fl s L (some r)) (hv:VS s) : VS r.1∧s8 s L r.2.2:=by
 have fz:∀ {u:aq×Int×Int},gl (rc s zi) o t u→u.2.2=0→VS (kU s zi u.1)∧s8 s L u.2.1:=fun {u} ht hu=>by
  obtain ⟨k1,⟨x,hx,e⟩,_⟩:=ht.yf hu;refine ⟨hv.pZ k1,?_⟩;unfold rc at hx;split at hx
  ·exact .inl ⟨x,hx,e⟩
  ·exact .inr (.inl ⟨x,hx,e⟩)
 cases h with
 | list ho hk hp =>
   refine ⟨hv,.inr (.inr ?_)⟩;obtain ⟨hl,_⟩:=je hk;refine ⟨_,List.getElem_mem hl,?_⟩;have e:=iS hk hl;have hm:∀ a,a∈dA L ⟨cpu,zi,t,[]⟩→a∈L[a8 L ⟨cpu,zi,t,[]⟩].aw:=fun a ha=>by rw [e] at ha;exact ha
   exact hm _ (List.getLast_mem hp)
 | uC ho he ht hu=>exact fz ht hu
 | fill ho hk he ht hu hr=>exact ⟨(hr.vs (fz ht hu).1).1,(fz ht hu).2⟩
theorem ik.found {m0 m1 cpu o t fl:Int} {s:aq×aq} {L:List aB} {r:(aq×aq)×List aB×Int} (h:ik m0 m1 cpu o t fl s L (some r)) (hv:VS s) : VS r.1∧s8 s L r.2.2:=by
 cases h with
 | vr _ h=>exact h.found hv
 | low _ h=>exact h.found hv
theorem yS {L:List aB} {y:aB} (hs:rz L) (hk:bT L y=false) : rz (aV L (a8 L y) y):=by
 have h0:=hs;unfold rz at h0 ⊢;rw [← List.take_append_drop (a8 L y) L,List.pairwise_append] at h0;obtain ⟨h1,h2,h3⟩:=h0
 have hT:∀ z∈L.take (a8 L y),bz z y:=fun z hz=>by
  obtain ⟨j,hj,rfl⟩:=List.getElem_of_mem hz;rw [List.length_take] at hj;rw [List.getElem_take];exact lS (by omega)
 have hD:∀ z∈L.drop (a8 L y),bz y z:=fun z hz=>by
  obtain ⟨j,hj,rfl⟩:=List.getElem_of_mem hz;rw [List.length_drop] at hj;rw [List.getElem_drop];have h:=zP hk (by omega);rcases Nat.eq_zero_or_pos j with rfl|vk
  ·exact h
  ·exact qy h (hs.get (show a8 L y+j<L.length by omega) (by omega))
 unfold aV;rw [List.append_assoc,List.pairwise_append];refine ⟨h1,?_,fun a ha b hb => ?_⟩
 ·rw [List.singleton_append,List.pairwise_cons];exact ⟨hD,h2⟩
 ·rw [List.singleton_append,List.mem_cons] at hb;rcases hb with rfl|hb
  ·exact hT a ha
  ·exact h3 a ha b hb
section
variable {L:List aB} {x:aB} {pg:List Int}
theorem kd:df x (dk x pg):=⟨rfl,rfl,rfl⟩
theorem lB:fX L x []=L:=by simp [fX]
theorem qf (hk:bT L x=false) (hp:pg≠[]) : fX L x pg=aV L (a8 L (dk x pg)) (dk x pg):=by
 rw [fX,if_neg hp,ol (by rw [← (jn (L:=L) (kd (x:=x) (pg:=pg))).2];exact hk)]
theorem vR (hs:rz L) (hk:bT L x=false) : rz (fX L x pg):=by
 by_cases hp:pg=[]
 ·subst hp;rw [lB];exact hs
 ·rw [qf hk hp];exact yS hs (by rw [← (jn (L:=L) (kd (x:=x) (pg:=pg))).2];exact hk)
theorem uP (hk:bT L x=false) : ∀ l∈fX L x pg,l∈L∨l=dk x pg:=fun l hl=>by
 by_cases hp:pg=[]
 ·subst hp;rw [lB] at hl;exact .inl hl
 ·rw [qf hk hp] at hl;unfold aV at hl;rw [List.mem_append,List.mem_append,List.mem_singleton] at hl;rcases hl with (hl|hl)|hl
  ·exact .inl (List.mem_of_mem_take hl)
  ·exact .inr hl
  ·exact .inl (List.mem_of_mem_drop hl)
theorem uQ (hk:bT L x=false) : (fX L x pg).length≤L.length+1:=by
 by_cases hp:pg=[]
 ·subst hp;rw [lB];omega
 ·rw [qf hk hp,dq _ (fI _ _)];omega
theorem yT (hk:bT L x=false) (a:Int) : jx (fX L x pg) ⟨x.dL,x.aq,x.Ty,dA (fX L x pg) x++[a]⟩=fX L x (pg++[a]):=by
 have cG:pg++[a]≠[]:=by simp
 by_cases hp:pg=[]
 ·subst hp;rw [lB,lm hk,fX,if_neg cG];rfl
 ·have e:fX L x pg=jx L (dk x pg):=by rw [fX,if_neg hp]
  obtain ⟨e1,e2⟩:=jn (L:=jx L (dk x pg)) (kd (x:=x) (pg:=pg));obtain ⟨e3,e4⟩:=Cw (L:=L) (x:=dk x pg);obtain ⟨c9,kT⟩:=List.getElem?_eq_some_iff.1 (wT (L:=L) (x:=dk x pg))
  have DG:dA (jx L (dk x pg)) x=pg:=by
   rw [iS (by rw [e2];exact e4) (by rw [e1,e3];exact c9)];simp only [e1,e3,kT]
   rfl
  rw [e,DG,fX,if_neg cG];have lT:df (dk x pg) (⟨x.dL,x.aq,x.Ty,pg++[a]⟩ : aB):=⟨rfl,rfl,rfl⟩
  obtain ⟨e5,e6⟩:=jn (L:=jx L (dk x pg)) lT;rw [oh (by rw [← e6];exact e4),← e5,e3];exact Cx lT
end
theorem CY {x:aB} {L:List aB} {pg:List Int} (h : 1<pg.length) : re L x pg=L.set (a8 L x) (dk x pg.dropLast):=by rw [re,if_neg (by omega)]
theorem yU {x:aB} {L:List aB} {pg:List Int} (h:pg.length=1) : re L x pg=L.eraseIdx (a8 L x):=by rw [re,if_pos (by omega)]
theorem s9 {l:List Int} (h:l≠[]) {i:Nat} (hi:i<l.length) (e:i=l.length-1) : l.getLast h=l[i]:=by
 subst e;rw [List.getLast_eq_getElem]
theorem mg.zX {h:Heap} {z0 z1:aq} (f:mg h z0 z1) {a:Int} {i:Nat} (ha:a=(i:Int)) (hc:dM (z0.ag++z1.ag++aS h.av) i=true) : ∀ b∈h.Live,b.At≠a:=fun b hb e=>by
 obtain ⟨l,m,e1⟩:=List.append_of_mem hb;have fO:=f.all;rw [e1,← List.append_assoc] at fO;have hf:=lR fO;obtain ⟨j,hj,rfl⟩:=List.getElem_of_mem hb;have Iy:=(f.live.each j hj).1;have hp:=bG Iy.1 Iy.2;obtain ⟨_,_,ho⟩:=hf;unfold dM at hc;rw [List.any_eq_true] at hc;obtain ⟨y,hy,Iz⟩:=hc;unfold pO at Iz;rw [Bool.and_eq_true,decide_eq_true_eq,decide_eq_true_eq] at Iz
 have:eX (z0.ag++z1.ag++aS h.av++l) h.Live[j].At h.Live[j].Order=true:=by
  unfold eX;rw [List.any_eq_true];refine ⟨y,List.mem_append_left _ hy,?_⟩;rw [Bool.and_eq_true,decide_eq_true_eq,decide_eq_true_eq];omega
 rw [ho] at this;cases this
theorem po {z:aq} (hz:bR z) {x:Block} (hx:x∈z.ag) : ∃ i:Nat,x.At=(i:Int)∧i<256∧dM z.ag i=true:=by
 obtain ⟨j,hj,rfl⟩:=List.getElem_of_mem hx;have h1:=(hz.cU j hj).1;have h2:=hz.ok;obtain ⟨o1,o2,o3,o4,o5⟩:=h2;have hp:=bG h1.1 h1.2.1;obtain ⟨b1,b2,b3,b4,b5⟩:=h1;refine ⟨z.ag[j].At.toNat,by omega,by omega,?_⟩;unfold dM;rw [List.any_eq_true];refine ⟨_,hx,?_⟩;unfold pO;rw [Bool.and_eq_true,decide_eq_true_eq,decide_eq_true_eq];omega
theorem nv {h:Heap} {z0 z1:aq} (f:mg h z0 z1) {a:Int} (ha:s8 (z0,z1) h.av a) : ∃ i:Nat,a=(i:Int)∧i<256∧dM (z0.ag++z1.ag++aS h.av) i=true:=by
 rcases ha with ⟨x,hx,rfl⟩|⟨x,hx,rfl⟩|⟨l,hl,hp⟩
 ·obtain ⟨i,h1,h2,h3⟩:=po f.d.nG hx;exact ⟨i,h1,h2,by rw [fe,fe,h3];rfl⟩
 ·obtain ⟨i,h1,h2,h3⟩:=po f.d.ms hx;exact ⟨i,h1,h2,by rw [fe,fe,h3];simp⟩
 ·have hm:cX a∈aS h.av:=by
   unfold aS;rw [List.mem_flatMap];exact ⟨l,hl,List.mem_map_of_mem hp⟩
  obtain ⟨j,hj,e⟩:=List.getElem_of_mem hm;have hN:=f.d.next hj;rw [e] at hN;have h1:=hN.at_;simp only [cX] at h1;refine ⟨a.toNat,by omega,by omega,?_⟩;rw [fe]
  have:dM (aS h.av) a.toNat=true:=by
   unfold dM;rw [List.any_eq_true];refine ⟨_,hm,?_⟩;unfold pO;rw [Bool.and_eq_true,decide_eq_true_eq,decide_eq_true_eq];have:pw 0=1:=by decide
   change a≤_∧_<a+pw 0
   omega
  rw [this];simp
theorem fY {h:Heap} {z0 z1:aq} (d:ll h z0 z1) : nF (dp (z0,z1) (aS h.av)) (z0.ag++z1.ag++aS h.av):=by
 have:=d.inv (aS h.av).length (Nat.le_refl _)
 rwa [List.take_length] at this
theorem lZ {h:Heap} {z0 z1:aq} (f:mg h z0 z1) {a:Int} (ha:s8 (dp (z0,z1) (aS h.av)) [] a) : ∃ i:Nat,a=(i:Int)∧i<256∧dM (z0.ag++z1.ag++aS h.av) i=true:=by
 have hD:=fY f.d;rcases ha with ⟨x,hx,rfl⟩|⟨x,hx,rfl⟩|⟨l,hl,hp⟩
 ·obtain ⟨i,h1,h2,h3⟩:=po hD.nG hx;exact ⟨i,h1,h2,by rw [← hD.BD,h3];rfl⟩
 ·obtain ⟨i,h1,h2,h3⟩:=po hD.ms hx;exact ⟨i,h1,h2,by rw [← hD.BD,h3];simp⟩
 ·simp at hl
theorem ta {h:Heap} {z0 z1:aq} (f:mg h z0 z1) : h.Live.length≤256:=by
 have hu:=rC f.live;rw [List.pairwise_iff_getElem] at hu
 have key:∀ (i:Nat) (hi:i<h.Live.length),(i:Int)≤h.Live[i].At:=by
  intro i;induction i with
  | zero=>intro hi;have:=(f.next hi).at_;exact this.1
  | succ i ih=>intro hi;have h1:=ih (by omega);have h2:=hu i (i+1) (by omega) hi (by omega);omega
 rcases Nat.lt_or_ge 256 h.Live.length with h1|h1
 ·have h2:=key 256 h1;have h3:=(f.next h1).at_;omega
 ·exact h1
end Go.Proofs.YtjimadiidbkohaaGreatDoor
