/-
  Texts of the claim SlabBulks, part 16: what its theorem leans on.
-/
import Derived.Test.YtjimadiidbkohaaGreatDoorPackSlabBulks15
import Derived.Test.YtjimadiidbkohaaGreatDoorPackSlabBulks2
import Derived.Test.YtjimadiidbkohaaGreatDoorPackSlabBulks13
import Derived.Test.YtjimadiidbkohaaGreatDoorPackSlabBulks8
import Derived.Test.YtjimadiidbkohaaGreatDoorPackSlabBulks6
import Derived.Test.YtjimadiidbkohaaGreatDoorPackSlabBulks11
set_option linter.unusedVariables false
set_option linter.unusedSimpArgs false
namespace Go.Proofs.YtjimadiidbkohaaGreatDoor
open Go.RowKit
theorem um (r:eI) (l:List Block) (a:Int) (w:World) (hl:Sl w 3 az r.Live.A r.Live.n l) (hu:l.Pairwise fun x y=>x.At<y.At) (hn:r.Live.n≤1000000000000000000) :
 bt Tryz.prog 84 [.agg (bm r).toArray,.int .i64 a] w fun v _=>v = .int .i64 (za l a):=by
 refine aM Tryz.func84 rfl Tryz.ntmps84 rfl ?_;refine CW.seq (CW.region (SW.box rfl rfl fun b2 w1 hw im aK => ?_));have kB:=hl.len;refine Wz ?_
 refine CW.loop (fun k:Nat=>[(1,.int .i64 a),(2,.pointer (some ⟨b2,0,none⟩)),(5,.int .i64 (k:Int))]) (fun k w'=>k≤r.Live.n∧Ext w w'∧aI w' b2 27 (bm r) ∧ ∀ (i:Nat) (h:i<l.length),i<k→l[i].At≠a) (fun k=>r.Live.n-k) 0
  ⟨rfl,rfl,rfl,trivial⟩ ⟨by omega,hw,aK,fun i h h'=>by omega⟩ ?_
 clear hw aK;rintro k w' ⟨hk,hw,aK,hI⟩
 have hA:=hl.base;by_cases cb:k<r.Live.n
 ·have di:k<l.length:=by omega
  have g0:=hl.dA cb (j:=0) (u := .int .i64 l[k].At) rfl;have g1:=hl.dA cb (j:=1) (u := .int .i64 l[k].Order) rfl;by_cases hx:l[k].At=a
  ·obtain ⟨e1,e2⟩:=yV hu di hx;have e3:=zb e2 (by omega);simp only [e1] at e3;rw [e3];repeat' (first|refine Wz ?_|refine SW.st (ao hw rfl g0) rfl ?_|refine SW.st (ao hw rfl g1) rfl ?_)
   exact ae.aO rfl rfl ⟨_,rfl,hw,rfl⟩
  ·repeat' (first|refine Wz ?_|refine SW.st (ao hw rfl g0) rfl ?_)
   exact ae.again (k+1) ⟨rfl,rfl,rfl,trivial⟩ (by omega) ⟨by omega,hw,aK,fun i h h'=>by
    by_cases e:i=k
    ·subst e;exact hx
    ·exact hI i h (by omega)⟩
 ·rw [vV (yW fun i h=>hI i h (by omega))];refine Wz ?_;exact ae.aO rfl rfl ⟨_,rfl,hw,rfl⟩
theorem tg (q:de) (l:List Slab) (t:Int) (w:World) (hl:Sl w 3 a8 q.ah.A q.ah.n l) (hn:q.ah.n≤1000000000000000000) :
 bt Tryz.prog 28 [.agg (df q).toArray,.int .i64 t] w fun v _=>v = .int .i64 (idxOf (xI t) l):=by
 refine aM Tryz.func28 rfl Tryz.ntmps28 rfl ?_;refine CW.seq (CW.region (SW.box rfl rfl fun b2 w1 hw im aK => ?_));have kB:=hl.len;refine Wz ?_
 refine CW.loop (fun k:Nat=>[(1,.int .i64 t),(2,.pointer (some ⟨b2,0,none⟩)),(5,.int .i64 (k:Int))]) (fun k w'=>k≤q.ah.n∧Ext w w'∧aI w' b2 46 (df q) ∧ ∀ (i:Nat) (h:i<l.length),i<k→xI t l[i]=false) (fun k=>q.ah.n-k) 0
  ⟨rfl,rfl,rfl,trivial⟩ ⟨by omega,hw,aK,fun i h h'=>by omega⟩ ?_
 clear hw aK;rintro k w' ⟨hk,hw,aK,hI⟩
 have hA:=hl.base;by_cases cb:k<q.ah.n
 ·have di:k<l.length:=by omega
  have g0:=hl.dA cb (j:=0) (u := .int .i64 l[k].At) rfl;by_cases hx:l[k].At=t
  ·rw [iw di (show xI t l[k]=true from decide_eq_true hx) (fun j hj h=>hI j hj h)];repeat' (first|refine Wz ?_|refine SW.st (ao hw rfl g0) rfl ?_)
   exact ae.aO rfl rfl ⟨_,rfl,hw,rfl⟩
  ·repeat' (first|refine Wz ?_|refine SW.st (ao hw rfl g0) rfl ?_)
   exact ae.again (k+1) ⟨rfl,rfl,rfl,trivial⟩ (by omega) ⟨by omega,hw,aK,fun i h h'=>by
    by_cases e:i=k
    ·subst e;exact decide_eq_false hx
    ·exact hI i h (by omega)⟩
 ·rw [(fA fun i h=>hI i h (by omega)).1];refine Wz ?_;exact ae.aO rfl rfl ⟨_,rfl,hw,rfl⟩
theorem nj.bool {lo:Nat} {ws:List Int} {size fk:Int} {x:Slab} {v:Value} {w:World} (h:nj lo ws size fk x v w) : ∃ A n c b,v = .tuple #[.slice A n c,.bool b]∧(b=true ↔ ∃ out,px ws size fk x out):=by
 rcases h with ⟨out,A5,c5,hC,rfl,_,_⟩|⟨ll,rfl⟩
 ·exact ⟨_,_,_,true,rfl,by simp;exact ⟨out,hC⟩⟩
 ·exact ⟨_,_,_,false,rfl,by simp;exact ll⟩
set_option maxHeartbeats 4000000 in
theorem we (r:dP) (s:aE) (q:de) (c:bg) (w:World) (hr:rG w r s) (hq:B5 w q c) (hs:s.small) (gU:c.small) (hH:bE s.Heap) :
 bt Tryz.prog 52 [.agg (aT r).toArray,.agg (df q).toArray] w fun v _=>v = .bool (jl s c):=by
 refine aM Tryz.func52 rfl Tryz.ntmps52 rfl ?_;refine CW.seq (CW.region (SW.box rfl rfl fun b2 w1 hw im aK => ?_));refine SW.box rfl rfl fun b3 w2 cJ bM ar => ?_
 (replace hw:=Ext.trans hw cJ;replace aK:=aK.ext cJ);obtain ⟨o,n,e,hE⟩ : ∃ o n e,dF c.bh=(o,n,e):=⟨_,_,_,rfl⟩;have eS:=hq.size;have eP:=hq.fk;have eO:=hq.order;have n1:=hq.names.len;have n2:=hq.aR.len;have n3:=hq.ba.len;have m1:=gU.names;have m2:=gU.aR;have m3:=gU.ba;have eC:=hr.heap.er;have wl:=hr.words.len;have m4:=hs.words;have kB:=hr.heap.live.len;have m5:=hs.heap.live;have cL:∀ w',bt Tryz.prog 83 [.int .i64 q.bh] w' fun v _=>v = .tuple #[.int .i64 o,.int .i64 n,.int .i64 e]:=fun w'=>uY (vR q.bh w') (by rw [eS];exact hE)
 rcases (show ¬ (e=0∧c.Order=o∧c.cj=n∧0<c.Names.length∧(c.au.length:Int)=s.Heap.bX)∨(e=0∧c.Order=o∧c.cj=n∧0<c.Names.length∧(c.au.length:Int)=s.Heap.bX) by omega) with nN|⟨h1,h2,h3,h4,h5⟩
 ·have hF:jl s c=false:=fj fun hm=>nN (by
   have:=hm.lay
   rw [hE] at this;simp only [Prod.mk.injEq] at this;exact ⟨this.2.2,this.1.symm,this.2.1.symm,hm.names,hm.ba⟩)
  rw [hF];rcases (show e≠0∨(e=0∧c.Order≠o)∨(e=0∧c.Order=o∧c.cj≠n)∨(e=0∧c.Order=o∧c.cj=n∧c.Names.length=0)∨(e=0∧c.Order=o∧c.cj=n∧0<c.Names.length∧(c.au.length:Int)≠s.Heap.bX) by omega) with g|g|g|g|g
  all_goals
   repeat' (first|refine Wz ?_|(refine SW.call rfl rfl (cL _) ?_;intro v w1 ab hv;subst hv;replace hw:=Ext.trans hw ab;replace aK:=aK.ext ab;replace ar:=ar.ext ab;clear ab))
   all_goals try omega
   exact ae.aO rfl rfl ⟨_,rfl,hw,rfl⟩
 ·subst h1;have EN:dF c.bh=(c.Order,c.cj,0):=by rw [hE,h2,h3]
  obtain ⟨l1,l2,l3⟩:=gm hE;have c8:=rL hH.live
  have JN:∀ b∈s.Heap.Live,0≤b.At∧b.At≤255:=fun b hb=>by
   obtain ⟨i,hi,rfl⟩:=List.getElem_of_mem hb;exact (hH.live.each i hi).2.1
  repeat' (first|refine Wz ?_|(refine SW.call rfl rfl (cL _) ?_;intro v w1 ab hv;subst hv;replace hw:=Ext.trans hw ab;replace aK:=aK.ext ab;replace ar:=ar.ext ab;clear ab))
  all_goals try omega
  clear cL
  refine CW.loop (fun k:Nat=>[(2,.pointer (some ⟨b2,0,none⟩)),(3,.pointer (some ⟨b3,0,none⟩)),(5,.int .i64 o),(8,.int .i64 (k:Int))])
   (fun k w'=>k≤q.ah.n∧Ext w w'∧aI w' b2 30 (aT r)∧aI w' b3 46 (df q) ∧ ∀ (i:Nat) (h:i<c.ah.length),i<k→mf s c i h) (fun k=>q.ah.n-k) 0
   ⟨rfl,rfl,rfl,rfl,trivial⟩ ⟨by omega,hw,aK,ar,fun i h h'=>by omega⟩ ?_
  clear hw aK ar;rintro k w' ⟨hk,hw,aK,ar,hI⟩
  have hA:=hq.aR.base;by_cases cb:k<q.ah.n
  ·have di:k<c.ah.length:=by omega
   have g0:=hq.aR.dA cb (j:=0) (u := .int .i64 c.ah[k].At) rfl;obtain ⟨z,hz⟩ : ∃ z,za s.Heap.Live c.ah[k].At=z:=⟨_,rfl⟩
   have cO:∀ w',Ext w w'→bt Tryz.prog 84 [.agg (bm r.Heap).toArray,.int .i64 c.ah[k].At] w' fun v _=>v = .int .i64 z:=fun w' hx=>by
    have:=um r.Heap s.Heap.Live c.ah[k].At w' (hr.heap.live.ext hx) c8 (by omega)
    rwa [hz] at this
   by_cases re:z=o
   ·have EO:cf s.Heap.Live c.ah[k].At=true:=by
     cases EO:cf s.Heap.Live c.ah[k].At
     ·rw [vV EO] at hz;omega
     ·rfl
    obtain ⟨tS,Mk⟩:=pq EO
    have ht : 0≤c.ah[k].At∧c.ah[k].At≤255:=by
     have:=JN _ (List.getElem_mem tS)
     omega
    have hS : 1≤q.bh∧q.bh≤64:=by omega
    have hP : 1≤q.cj∧q.cj≤64:=by omega
    by_cases zj : 0<k→(c.ah[k-1]'(by omega)).At<c.ah[k].At
    ·rcases Nat.eq_zero_or_pos k with pS|pS
     all_goals
      first
      | (have gP:=hq.aR.dA (show k-1<q.ah.n by omega) (j:=0) (u := .int .i64 (c.ah[k-1]'(by omega)).At) rfl
         have rX:=zj pS)
      | skip
     all_goals
      refine Wz ?_;(apply CW.aP mixed;(· kernel_rfl);rotate_left;intro w1 ab;replace hw:=Ext.trans hw ab;replace aK:=aK.ext ab;replace ar:=ar.ext ab;clear ab;rotate_right);repeat' (first|refine Wz ?_|refine SW.st (aZ (k-1) rfl rfl (by assumption) (by omega) (by omega)) rfl ?_|refine SW.st (aY rfl rfl ((iq aK))) rfl ?_|refine SW.st (ao hw rfl g0) rfl ?_|refine SW.st (ao hw rfl gP) rfl ?_|refine SW.bq rfl rfl (fun w1 ab=>(cO _ (Ext.trans hw ab))) ?_|exact SW.bx rfl)
      all_goals try omega
      refine CW.any 12 mixed (cq (by kernel_rfl)) rfl fun w1 ab aG => ?_
      replace hw:=Ext.trans hw ab;replace aK:=aK.ext ab;replace ar:=ar.ext ab;clear ab;refine Wa ?_;refine SA.take 6 aG rfl (by kernel_rfl) (by kernel_rfl) rfl ?_;repeat ((show SW _ _ _ _ (⟨_,Op.load _ _,_,_,_,none⟩::_) _ _;refine SW.st (aH hw rfl rfl ((hq.aR.all cb))) rfl ?_))
      refine SW.ai ?_;refine SA.one 7 rfl (by kernel_rfl) rfl ?_;refine SW.call rfl rfl (zh r q c.ah[k] s.Words _ (hr.words.ext hw) (by omega) hS hP ht) fun v w5 aj sX => ?_
      (replace hw:=Ext.trans hw aj;replace aK:=aK.ext aj;replace ar:=ar.ext aj);rw [eS,eP] at sX;obtain ⟨A5,n5,c5,bb,rfl,hb⟩:=nj.bool sX;refine SW.nil (ae.sa aj ?_);refine Wa ?_;refine SA.done (by kernel_rfl) ?_;cases bb
      ·rw [fj fun hm=>by simpa using hb.2 (hm.aR k di).chain];repeat' (first|refine Wz ?_|(refine CW.bG rfl ?_))
       exact ae.aO rfl rfl ⟨_,rfl,hw,rfl⟩
      ·repeat' (first|refine Wz ?_|(refine CW.bA rfl ?_))
       exact ae.again (k+1) ⟨rfl,rfl,rfl,rfl,trivial⟩ (by omega) ⟨by omega,hw,aK,ar,fun i h h'=>by
        by_cases ei:i=k
        ·subst ei;exact ⟨by omega,zj,hb.1 rfl⟩
        ·exact hI i h (by omega)⟩
    ·have pS : 0<k:=by
      rcases Nat.eq_zero_or_pos k with h|h
      ·exact absurd (fun h'=>by omega) zj
      ·exact h
     have yj : ¬ (c.ah[k-1]'(by omega)).At<c.ah[k].At:=fun h=>zj fun _=>h
     have gP:=hq.aR.dA (show k-1<q.ah.n by omega) (j:=0) (u := .int .i64 (c.ah[k-1]'(by omega)).At) rfl;rw [fj fun hm=>yj ((hm.aR k di).next pS)];repeat' (first|refine Wz ?_|((apply CW.aP mixed;(· kernel_rfl);rotate_left;intro w1 ab;replace hw:=Ext.trans hw ab;replace aK:=aK.ext ab;replace ar:=ar.ext ab;clear ab;rotate_right))|refine SW.st (aZ (k-1) rfl rfl (by assumption) (by omega) (by omega)) rfl ?_|refine SW.st (aY rfl rfl ((iq aK))) rfl ?_|refine SW.st (ao hw rfl g0) rfl ?_|refine SW.st (ao hw rfl gP) rfl ?_|refine SW.bq rfl rfl (fun w1 ab=>(cO _ (Ext.trans hw ab))) ?_|exact SW.bx rfl)
     all_goals try omega
     exact ae.aO rfl rfl ⟨_,rfl,hw,rfl⟩
   ·rw [fj fun hm=>re (by have:=(hm.aR k di).live;omega)];repeat' (first|refine Wz ?_|((apply CW.aP mixed;(· kernel_rfl);rotate_left;intro w1 ab;replace hw:=Ext.trans hw ab;replace aK:=aK.ext ab;replace ar:=ar.ext ab;clear ab;rotate_right))|refine SW.st (aY rfl rfl ((iq aK))) rfl ?_|refine SW.st (ao hw rfl g0) rfl ?_|refine SW.bq rfl rfl (fun w1 ab=>(cO _ (Ext.trans hw ab))) ?_|exact SW.bx rfl)
    all_goals try omega
    exact ae.aO rfl rfl ⟨_,rfl,hw,rfl⟩
  ·have gd:∀ (i:Nat) (h:i<c.ah.length),mf s c i h:=fun i h=>hI i h (by omega)
   refine Wz ?_;clear hI cb hk hA
   refine CW.loop (fun k:Nat=>[(3,.pointer (some ⟨b3,0,none⟩)),(11,.int .i64 (k:Int))])
    (fun k w'=>k≤q.au.n∧Ext w w'∧aI w' b3 46 (df q) ∧ ∀ (i:Nat) (h:i<c.au.length),i<k→zd c i h) (fun k=>q.au.n-k) 0
    ⟨rfl,rfl,trivial⟩ ⟨by omega,hw,ar,fun i h h'=>by omega⟩ ?_
   clear hw ar aK;rintro k w' ⟨hk,hw,ar,hI⟩
   have hA:=hq.ba.base;by_cases cb:k<q.au.n
   ·have di:k<c.au.length:=by omega
    obtain ⟨a,ea⟩ : ∃ a,c.au[k]=a:=⟨_,rfl⟩;have gA:=hq.ba.one cb (u := .int .i64 a) (by rw [← ea];rfl);by_cases ha:a = -1
    ·repeat' (first|refine Wz ?_|refine SW.st (ao hw rfl gA) rfl ?_)
     exact ae.again (k+1) ⟨rfl,rfl,trivial⟩ (by omega) ⟨by omega,hw,ar,fun i h h'=>by
      by_cases ei:i=k
      ·subst ei;exact .inl (by omega)
      ·exact hI i h (by omega)⟩
    ·obtain ⟨z,hz⟩ : ∃ z,idxOf (xI a) c.ah=z:=⟨_,rfl⟩;have jc:=iL (xI a) c.ah;rw [hz] at jc
     have cF:∀ w',Ext w w'→bt Tryz.prog 28 [.agg (df q).toArray,.int .i64 a] w' fun v _=>v = .int .i64 z:=fun w' hx=>by
      have:=tg q c.ah a w' (hq.aR.ext hx) (by omega)
      rwa [hz] at this
     by_cases sQ : 0≤z
     ·repeat' (first|refine Wz ?_|((apply CW.aP mixed;(· kernel_rfl);rotate_left;intro w1 ab;replace hw:=Ext.trans hw ab;replace ar:=ar.ext ab;clear ab;rotate_right))|refine SW.st (ao hw rfl gA) rfl ?_|refine SW.bq rfl rfl (fun w1 ab=>(cF _ (Ext.trans hw ab))) ?_|exact SW.bx rfl)
      all_goals try omega
      refine CW.loop (fun j:Nat=>[(3,.pointer (some ⟨b3,0,none⟩)),(11,.int .i64 (k:Int)),(12,.int .i64 (j:Int))])
       (fun j w'=>j≤k∧Ext w w'∧aI w' b3 46 (df q) ∧ ∀ (i:Nat) (h:i<c.au.length),i<j→c.au[i]≠a) (fun j=>k-j) 0
       ⟨rfl,rfl,rfl,trivial⟩ ⟨by omega,hw,ar,fun i h h'=>by omega⟩ ?_
      clear hw ar;rintro j w' ⟨hj,hw,ar,hJ⟩
      by_cases kx:j<k
      ·have gJ:=hq.ba.one (show j<q.au.n by omega) (u := .int .i64 (c.au[j]'(by omega))) rfl;by_cases hx:(c.au[j]'(by omega))=a
       ·rw [fj fun hm=>by
         rcases hm.xJ k di with g|⟨g1,g2⟩
         ·omega
         ·rw [ea] at g1;exact g1 (List.mem_take_iff_getElem.2 ⟨j,by omega,hx⟩)]
        repeat' (first|refine Wz ?_|((apply CW.aP mixed;(· kernel_rfl);rotate_left;intro w1 ab;replace hw:=Ext.trans hw ab;replace ar:=ar.ext ab;clear ab;rotate_right))|refine SW.st (ao hw rfl gA) rfl ?_|refine SW.st (ao hw rfl gJ) rfl ?_|exact SW.bx rfl)
        all_goals try omega
        exact ae.aO rfl rfl ⟨_,rfl,hw,rfl⟩
       ·repeat' (first|refine Wz ?_|((apply CW.aP mixed;(· kernel_rfl);rotate_left;intro w1 ab;replace hw:=Ext.trans hw ab;replace ar:=ar.ext ab;clear ab;rotate_right))|refine SW.st (ao hw rfl gA) rfl ?_|refine SW.st (ao hw rfl gJ) rfl ?_|exact SW.bx rfl)
        all_goals try omega
        exact ae.again (j+1) ⟨rfl,rfl,rfl,trivial⟩ (by omega) ⟨by omega,hw,ar,fun i h h'=>by
         by_cases ei:i=j
         ·subst ei;exact hx
         ·exact hJ i h (by omega)⟩
      ·refine Wz ?_
       exact ae.again (k+1) ⟨rfl,rfl,trivial⟩ (by omega) ⟨by omega,hw,ar,fun i h h'=>by
        by_cases ei:i=k
        ·subst ei;refine .inr ⟨?_,by rw [ea,← jc];exact decide_eq_true sQ⟩;rw [ea];intro hm;obtain ⟨i',ol,e'⟩:=List.mem_take_iff_getElem.1 hm;exact hJ i' (by omega) (by omega) e'
        ·exact hI i h (by omega)⟩
     ·rw [fj fun hm=>by
       rcases hm.xJ k di with g|⟨g1,g2⟩
       ·omega
       ·rw [ea] at g2;rw [g2] at jc;exact sQ (of_decide_eq_true jc)]
      repeat' (first|refine Wz ?_|((apply CW.aP mixed;(· kernel_rfl);rotate_left;intro w1 ab;replace hw:=Ext.trans hw ab;replace ar:=ar.ext ab;clear ab;rotate_right))|refine SW.st (ao hw rfl gA) rfl ?_|refine SW.bq rfl rfl (fun w1 ab=>(cF _ (Ext.trans hw ab))) ?_|exact SW.bx rfl)
      all_goals try omega
      exact ae.aO rfl rfl ⟨_,rfl,hw,rfl⟩
   ·rw [ni ⟨EN,h4,h5,gd,fun i h=>hI i h (by omega)⟩];refine Wz ?_;exact ae.aO rfl rfl ⟨_,rfl,hw,rfl⟩
open Go.RowKit
set_option maxHeartbeats 8000000 in
theorem Dn (r:dP) (s:aE) (w:World) (hr:rG w r s) (hf:s.gL) :
 bt Tryz.prog 27 [.agg (aT r).toArray] w fun v _=>v = .bool (kj s):=by
 refine aM Tryz.func27 rfl Tryz.ntmps27 rfl ?_;refine CW.seq (CW.region (SW.box rfl rfl fun b1 w1 hw ik aB => ?_));obtain ⟨cs,hc⟩:=hr.dW;obtain ⟨z1,z2⟩:=hc.len;have wl:=hr.words.len;have hs:=hf.small;have m3:=hs.dW;obtain ⟨q,hq⟩ : ∃ q,ja s.Heap=q:=⟨_,rfl⟩
 have c1:∀ w',Ext w w'→bt Tryz.prog 51 [.agg (bm r.Heap).toArray] w' fun v _=>v = .bool q:=fun w' hx=>by
  have:=xD r.Heap s.Heap w' (hr.heap.ext hx) hs.heap hf.cx
  rwa [hq] at this
 by_cases tc:s.Words.length=4096∧q=true∧s.aa.length≤20
 ·obtain ⟨g1,g2,g3⟩:=tc;subst g2;have hH:=fP.1 hq;repeat' (first|refine Wz ?_|refine SW.want rfl rfl ?_|refine SW.st (aY rfl rfl ((iq aB))) rfl ?_|(refine SW.call rfl rfl (c1 _ hw) ?_;intro v w1 ab hv;subst hv;replace hw:=Ext.trans hw ab;replace aB:=aB.ext ab;clear ab))
  all_goals try omega
  clear c1
  refine CW.loop (fun u:Nat×Option Addr×Nat×Option Addr×Nat=>[(1,.pointer (some ⟨b1,0,none⟩)),(3,.slice u.2.1 (cc (s.aa.take u.1)).length u.2.2.1),(4,.slice u.2.2.2.1 (cK (s.aa.take u.1)).length u.2.2.2.2),(5,.int .i64 (u.1:Int))])
   (fun u w'=>u.1≤r.aa.n∧Ext w w'∧aI w' b1 30 (aT r)∧Own w' w.heap.size 9 1 encStr u.2.1 (cc (s.aa.take u.1)).length u.2.2.1 (cc (s.aa.take u.1))∧Own w' w.heap.size 3 1 bf u.2.2.2.1 (cK (s.aa.take u.1)).length u.2.2.2.2 (cK (s.aa.take u.1)) ∧
     ∀ (i:Nat) (h:i<s.aa.length),i<u.1→rM s i h) (fun u=>r.aa.n-u.1) (0,none,0,none,0)
   ⟨rfl,by simp [cc];rfl,by simp [cK];rfl,rfl,trivial⟩ ⟨by simp only;omega,hw,aB,Own.dS _ _ _ _ _ _,Own.dS _ _ _ _ _ _,fun i h h'=>by simp only at h';omega⟩ ?_
  clear hw aB;rintro ⟨k,A1,c1,A2,c2⟩ w' ⟨hk,hw,aB,hN,hS,hI⟩
  simp only at hk hN hS hI ⊢;have hA:=hc.row.base;by_cases cb:k<r.aa.n
  ·have ua:k<cs.length:=by omega
   have di:k<s.aa.length:=by omega
   have gu:=hc.each.get k ua di;have sm:=hs.each _ (List.getElem_mem di);have fN:=hf.names _ (List.getElem_mem di);have q1:=gu.names.len;have q2:=gu.aR.len;have q4:=sm.names;have q5:=sm.aR;obtain ⟨⟨HD,HE⟩,Mo,Mp⟩:=xR hH k (by omega) hI;repeat' (first|refine Wz ?_|refine SW.st (aH hw rfl rfl ((hc.row.all cb))) rfl ?_)
   refine SW.alloc rfl fun b6 w1 ab fb ax => ?_
   skip;refine SW.ap ax rfl rfl rfl rfl (sB _) fun w2 gH hg => ?_
   have aj:=ab.own fb hg;have dr:w.heap.size≤b6:=Nat.le_trans hw.size fb
   replace hw:=Ext.trans hw aj;replace aB:=aB.ext aj;replace hN:=hN.ext aj;replace hS:=hS.ext aj;replace ax:=gH;clear gH ab hg aj;obtain ⟨qc,GQ⟩ : ∃ qc,jl s s.aa[k]=qc:=⟨_,rfl⟩
   have cC:∀ w',Ext w w'→bt Tryz.prog 52 [.agg (aT r).toArray,.agg (df cs[k]).toArray] w' fun v _=>v = .bool qc:=fun w' hx=>by
    have:=we r s cs[k] s.aa[k] w' (hr.ext hx) (gu.ext hx) hs sm hH
    rwa [GQ] at this
   cases qc
   ·have hF:kj s=false:=km fun hm=>by
     have:=ni (hm.each k di).may
     rw [GQ] at this;cases this
    rw [hF];repeat' (first|refine Wz ?_|(refine CW.bG rfl ?_)|(refine SW.call rfl rfl (cC _ hw) ?_;intro v w1 ab hv;subst hv;replace hw:=Ext.trans hw ab;replace aB:=aB.ext ab;replace ax:=ax.ext ab;replace hN:=hN.ext ab;replace hS:=hS.ext ab;clear ab))
    exact ae.aO rfl rfl ⟨_,rfl,hw,rfl⟩
   ·have JO:=sW.1 GQ;repeat' (first|refine Wz ?_|(refine CW.bA rfl ?_)|(refine SW.call rfl rfl (cC _ hw) ?_;intro v w1 ab hv;subst hv;replace hw:=Ext.trans hw ab;replace aB:=aB.ext ab;replace ax:=ax.ext ab;replace hN:=hN.ext ab;replace hS:=hS.ext ab;clear ab))
    clear cC;obtain ⟨acc,v5⟩ : ∃ acc,cc (s.aa.take k)=acc:=⟨_,rfl⟩;rw [v5] at hN HD HE ⊢;obtain ⟨oJ,v7⟩ : ∃ oJ,cK (s.aa.take k)=oJ:=⟨_,rfl⟩;rw [v7] at hS Mo Mp ⊢
    refine CW.loop (fun j:Nat=>[(1,.pointer (some ⟨b1,0,none⟩)),(3,.slice A1 acc.length c1),(4,.slice A2 oJ.length c2),(5,.int .i64 (k:Int)),(6,.pointer (some ⟨b6,0,none⟩)),(7,.int .i64 (j:Int))])
     (fun j w'=>j≤k∧Ext w w'∧aI w' b1 30 (aT r)∧aI w' b6 46 (df cs[k])∧Own w' w.heap.size 9 1 encStr A1 acc.length c1 acc∧Own w' w.heap.size 3 1 bf A2 oJ.length c2 oJ ∧ ∀ (i:Nat) (h:i<k),i<j→(s.aa[i]'(by omega)).bh≠s.aa[k].bh) (fun j=>k-j) 0
     ⟨rfl,rfl,rfl,rfl,rfl,rfl,trivial⟩ ⟨by omega,hw,aB,ax,hN,hS,fun i h h'=>by omega⟩ ?_
    clear hw aB hN hS ax;rintro j w' ⟨hj,hw,aB,ax,hN,hS,hZ⟩
    by_cases kx:j<k
    ·have gZ:=hc.row.dA (show j<r.aa.n by omega) (j:=1) (u := .int .i64 (cs[j]'(by omega)).bh) rfl;have e1:=(hc.each.get j (by omega) (by omega)).size;have e2:=gu.size;by_cases hx:(s.aa[j]'(by omega)).bh=s.aa[k].bh
     ·rw [km fun hm=>(hm.each k di).size j kx hx];repeat' (first|refine Wz ?_|((apply CW.aP mixed;(· kernel_rfl);rotate_left;intro w1 ab;replace hw:=Ext.trans hw ab;replace aB:=aB.ext ab;replace ax:=ax.ext ab;replace hN:=hN.ext ab;replace hS:=hS.ext ab;clear ab;rotate_right))|refine SW.st (ao hw rfl gZ) rfl ?_|exact SW.bx rfl)
      all_goals try omega
      exact ae.aO rfl rfl ⟨_,rfl,hw,rfl⟩
     ·repeat' (first|refine Wz ?_|((apply CW.aP mixed;(· kernel_rfl);rotate_left;intro w1 ab;replace hw:=Ext.trans hw ab;replace aB:=aB.ext ab;replace ax:=ax.ext ab;replace hN:=hN.ext ab;replace hS:=hS.ext ab;clear ab;rotate_right))|refine SW.st (ao hw rfl gZ) rfl ?_|exact SW.bx rfl)
      all_goals try omega
      exact ae.again (j+1) ⟨rfl,rfl,rfl,rfl,rfl,rfl,trivial⟩ (by omega) ⟨by omega,hw,aB,ax,hN,hS,fun i h h'=>by
       by_cases ei:i=j
       ·subst ei;exact hx
       ·exact hZ i h (by omega)⟩
    ·have uB:∀ (i:Nat) (h:i<k),(s.aa[i]'(by omega)).bh≠s.aa[k].bh:=fun i h=>hZ i h (by omega)
     refine Wz ?_;clear hZ
     refine CW.loop (fun u:Nat×Option Addr×Nat=>[(1,.pointer (some ⟨b1,0,none⟩)),(3,.slice u.2.1 (acc++s.aa[k].Names.take u.1).length u.2.2),(4,.slice A2 oJ.length c2),(5,.int .i64 (k:Int)),(6,.pointer (some ⟨b6,0,none⟩)),(8,.int .i64 (u.1:Int))])
      (fun u w'=>u.1≤cs[k].Names.n∧Ext w w'∧aI w' b1 30 (aT r)∧aI w' b6 46 (df cs[k])∧Own w' w.heap.size 9 1 encStr u.2.1 (acc++s.aa[k].Names.take u.1).length u.2.2 (acc++s.aa[k].Names.take u.1)∧Own w' w.heap.size 3 1 bf A2 oJ.length c2 oJ ∧
        ∀ (i:Nat) (h:i<s.aa[k].Names.length),i<u.1→gE s.aa[k].Names[i]=true∧s.aa[k].Names[i]∉acc++s.aa[k].Names.take i∧(0<i→fY (s.aa[k].Names[i-1]'(by omega)) s.aa[k].Names[i]=true)) (fun u=>cs[k].Names.n-u.1) (0,A1,c1)
      ⟨rfl,by simp;rfl,rfl,rfl,rfl,rfl,trivial⟩ ⟨by simp only;omega,hw,aB,ax,by simpa using hN,hS,fun i h h'=>by simp only at h';omega⟩ ?_
     clear hw aB hN hS ax;rintro ⟨j,A1,c1⟩ w' ⟨hj,hw,aB,ax,hN,hS,hJ⟩
     simp only at hj hN hJ ⊢;have rN:=gu.names.base;by_cases jo:j<cs[k].Names.n
     ·have kW:j<s.aa[k].Names.length:=by omega
      obtain ⟨nm,r6⟩ : ∃ nm,s.aa[k].Names[j]=nm:=⟨_,rfl⟩;have gN:=gu.names.one jo (u := .string nm) (by rw [← r6];rfl);have EP:nm.size≤140737488351232:=by rw [← r6];exact fN _ (List.getElem_mem kW)
      obtain ⟨qn,GR⟩ : ∃ qn,gE nm=qn:=⟨_,rfl⟩
      have EQ:∀ w',bt Tryz.prog 53 [.string nm] w' fun v _=>v = .bool qn:=fun w'=>by
       have:=xG nm w' EP
       rwa [GR] at this
      have wg:=xQ (ko (l:=s.aa[k].Names) HD j (fun i h h'=>(hJ i h h').2.1)) (fun n hn=>by
       rcases List.mem_append.1 hn with hn|hn
       ·exact HE n hn
       ·obtain ⟨i,hi,rfl⟩:=List.mem_take_iff_getElem.1 hn;exact (hJ i (by omega) (by omega)).1)
      have jS:acc++s.aa[k].Names.take (j+1)=(acc++s.aa[k].Names.take j)++[nm]:=by rw [List.take_succ_eq_append_getElem kW,r6];simp
      have qP:(qn=false∨nm∈acc++s.aa[k].Names.take j ∨ ∃ uJ : 0<j,fY (s.aa[k].Names[j-1]'(by omega)) nm=false)→kj s=false:=fun h=>km fun hm=>by
       have h1:=(hm.each k di).names.each j kW;rw [r6,v5] at h1;rcases h with h|h|⟨uJ,h⟩
       ·rw [GR,h] at h1;exact absurd h1.1 (by simp)
       ·exact h1.2.1 h
       ·rw [h1.2.2 uJ] at h;cases h
      have go:gE nm=true→(0<j→fY (s.aa[k].Names[j-1]'(by omega)) nm=true)→nm∉acc++s.aa[k].Names.take j → ∀ (i:Nat) (h:i<s.aa[k].Names.length),i<j+1→gE s.aa[k].Names[i]=true∧s.aa[k].Names[i]∉acc++s.aa[k].Names.take i∧(0<i→fY (s.aa[k].Names[i-1]'(by omega)) s.aa[k].Names[i]=true):=fun h1 h2 h3 i h h'=>by
       by_cases ei:i=j
       ·subst ei;rw [r6];exact ⟨h1,h3,h2⟩
       ·exact hJ i h (by omega)
      obtain ⟨ac,xS⟩ : ∃ ac,acc++s.aa[k].Names.take j=ac:=⟨_,rfl⟩;rw [xS] at hN wg jS qP go ⊢;cases qn
      ·rw [qP (.inl rfl)];repeat' (first|refine Wz ?_|((apply CW.aP mixed;(· kernel_rfl);rotate_left;intro w1 ab;replace hw:=Ext.trans hw ab;replace aB:=aB.ext ab;replace ax:=ax.ext ab;replace hN:=hN.ext ab;replace hS:=hS.ext ab;clear ab;rotate_right))|refine SW.skip rfl rfl rfl rfl ?_|refine SW.st (ao hw rfl gN) rfl ?_|refine SW.bq rfl rfl (fun w1 ab=>(EQ _)) ?_|exact SW.bx rfl)
       exact ae.aO rfl rfl ⟨_,rfl,hw,rfl⟩
      ·by_cases td : 0<j→fY (s.aa[k].Names[j-1]'(by omega)) nm=true
       ·rcases Nat.eq_zero_or_pos j with uJ|uJ
        all_goals
         first
         | (have gP:=gu.names.one (show j-1<cs[k].Names.n by omega) (u := .string (s.aa[k].Names[j-1]'(by omega))) rfl
            have FE:(!fY (s.aa[k].Names[j-1]'(by omega)) nm)=false:=by rw [td uJ];rfl)
         | skip
        all_goals
         refine Wz ?_;(apply CW.aP mixed;(· kernel_rfl);rotate_left;intro w1 ab;replace hw:=Ext.trans hw ab;replace aB:=aB.ext ab;replace ax:=ax.ext ab;replace hN:=hN.ext ab;replace hS:=hS.ext ab;clear ab;rotate_right);repeat' (first|refine Wz ?_|refine SW.want rfl rfl ?_|refine SW.st (aZ (j-1) rfl rfl (by assumption) (by omega) (by omega)) rfl ?_|refine SW.st (ao hw rfl gN) rfl ?_|refine SW.st (ao hw rfl gP) rfl ?_|refine SW.bq rfl rfl (fun w1 ab=>(EQ _)) ?_|(refine SW.st ((xF rfl rfl).eq (congrArg Value.bool FE)) rfl ?_)|exact SW.bx rfl)
         all_goals try omega
         refine CW.loop (fun i:Nat=>[(1,.pointer (some ⟨b1,0,none⟩)),(3,.slice A1 ac.length c1),(4,.slice A2 oJ.length c2),(5,.int .i64 (k:Int)),(6,.pointer (some ⟨b6,0,none⟩)),(8,.int .i64 (j:Int)),(9,.int .i64 (i:Int))])
          (fun i w'=>i≤ac.length∧Ext w w'∧aI w' b1 30 (aT r)∧aI w' b6 46 (df cs[k])∧Own w' w.heap.size 9 1 encStr A1 ac.length c1 ac∧Own w' w.heap.size 3 1 bf A2 oJ.length c2 oJ ∧ ∀ (m:Nat) (h:m<ac.length),m<i→ac[m]≠nm) (fun i=>ac.length-i) 0
          ⟨rfl,rfl,rfl,rfl,rfl,rfl,rfl,trivial⟩ ⟨by omega,hw,aB,ax,hN,hS,fun m h h'=>by omega⟩ ?_
         clear hw aB hN hS ax;rintro i w' ⟨hi,hw,aB,ax,hN,hS,hM⟩
         have IU:=hN.sl.base;by_cases ck:i<ac.length
         ·have gM:=hN.sl.one ck (u := .string ac[i]) rfl;by_cases hx:ac[i]=nm
          ·have KV:=decide_eq_true hx;rw [qP (.inr (.inl (hx ▸ List.getElem_mem ck)))];repeat' (first|refine Wz ?_|((apply CW.aP mixed;(· kernel_rfl);rotate_left;intro w1 ab;replace hw:=Ext.trans hw ab;replace aB:=aB.ext ab;replace ax:=ax.ext ab;replace hN:=hN.ext ab;replace hS:=hS.ext ab;clear ab;rotate_right))|refine SW.st (ao hw rfl gN) rfl ?_|refine SW.st (ak rfl gM) rfl ?_|(refine SW.st ((iO rfl rfl).eq (congrArg Value.bool KV)) rfl ?_)|exact SW.bx rfl)
           exact ae.aO rfl rfl ⟨_,rfl,hw,rfl⟩
          ·have KV:=decide_eq_false hx;repeat' (first|refine Wz ?_|((apply CW.aP mixed;(· kernel_rfl);rotate_left;intro w1 ab;replace hw:=Ext.trans hw ab;replace aB:=aB.ext ab;replace ax:=ax.ext ab;replace hN:=hN.ext ab;replace hS:=hS.ext ab;clear ab;rotate_right))|refine SW.st (ao hw rfl gN) rfl ?_|refine SW.st (ak rfl gM) rfl ?_|(refine SW.st ((iO rfl rfl).eq (congrArg Value.bool KV)) rfl ?_)|exact SW.bx rfl)
           exact ae.again (i+1) ⟨rfl,rfl,rfl,rfl,rfl,rfl,rfl,trivial⟩ (by omega) ⟨by omega,hw,aB,ax,hN,hS,fun m h h'=>by
            by_cases em:m=i
            ·subst em;exact hx
            ·exact hM m h (by omega)⟩
         ·have tW:nm∉ac:=fun hm=>by
           obtain ⟨m,qq,pB⟩:=List.getElem_of_mem hm;exact hM m qq (by omega) pB
          repeat' (first|refine Wz ?_|refine SW.st (ao hw rfl gN) rfl ?_)
          refine SW.bD rfl rfl rfl rfl rfl fun b w1 ab hb hB => ?_
          (replace hw:=Ext.trans hw ab;replace aB:=aB.ext ab;replace ax:=ax.ext ab;replace hN:=hN.ext ab;replace hS:=hS.ext ab);refine SW.append hN (aI.lj (enc:=encStr) hB) hw.size rfl rfl rfl (by omega) (by omega) fun A3 c3 w2 NT hg => ?_
          replace hw:=aF hw hg (Nat.le_refl _) hN.aL;replace aB:=aB.grown hg (fun e=>hN.dm aB rfl e.symm);replace ax:=ax.grown hg (fun e=>hN.dm ax rfl e.symm);replace hS:=hS.grown hg (hS.vT hN rfl);refine Wz ?_;exact ae.again (j+1,A3,c3) ⟨rfl,by simp only [jS,List.length_append];rfl,rfl,rfl,rfl,rfl,trivial⟩ (by simp only;omega) ⟨by simp only;omega,hw,aB,ax,by simp only [jS,List.length_append];exact NT,hS,go GR td tW⟩
       ·have uJ : 0<j:=by
         rcases Nat.eq_zero_or_pos j with h|h
         ·exact absurd (fun h'=>by omega) td
         ·exact h
        have KW:fY (s.aa[k].Names[j-1]'(by omega)) nm=false:=by
         cases e:fY (s.aa[k].Names[j-1]'(by omega)) nm
         ·rfl
         ·exact absurd (fun _=>e) td
        have gP:=gu.names.one (show j-1<cs[k].Names.n by omega) (u := .string (s.aa[k].Names[j-1]'(by omega))) rfl;have FE:(!fY (s.aa[k].Names[j-1]'(by omega)) nm)=true:=by rw [KW];rfl
        rw [qP (.inr (.inr ⟨uJ,KW⟩))];repeat' (first|refine Wz ?_|((apply CW.aP mixed;(· kernel_rfl);rotate_left;intro w1 ab;replace hw:=Ext.trans hw ab;replace aB:=aB.ext ab;replace ax:=ax.ext ab;replace hN:=hN.ext ab;replace hS:=hS.ext ab;clear ab;rotate_right))|refine SW.want rfl rfl ?_|refine SW.st (aZ (j-1) rfl rfl (by assumption) (by omega) (by omega)) rfl ?_|refine SW.st (ao hw rfl gN) rfl ?_|refine SW.st (ao hw rfl gP) rfl ?_|refine SW.bq rfl rfl (fun w1 ab=>(EQ _)) ?_|(refine SW.st ((xF rfl rfl).eq (congrArg Value.bool FE)) rfl ?_)|exact SW.bx rfl)
        all_goals try omega
        exact ae.aO rfl rfl ⟨_,rfl,hw,rfl⟩
     ·have GU:vW (cc (s.aa.take k)) s.aa[k].Names:=⟨fun i h=>by rw [v5];exact hJ i h (by omega)⟩
      rw [List.take_of_length_le (show s.aa[k].Names.length≤j by omega)] at hN ⊢;rw [← v5,← jN s.aa k di] at hN ⊢;refine Wz ?_;clear hJ;obtain ⟨nl,Mq⟩ : ∃ nl,cc (s.aa.take (k+1))=nl:=⟨_,rfl⟩;rw [Mq] at hN ⊢
      refine CW.loop (fun u:Nat×Option Addr×Nat=>[(1,.pointer (some ⟨b1,0,none⟩)),(3,.slice A1 nl.length c1),(4,.slice u.2.1 (oJ++(s.aa[k].ah.take u.1).map fun x=>x.At).length u.2.2),(5,.int .i64 (k:Int)),(6,.pointer (some ⟨b6,0,none⟩)),(10,.int .i64 (u.1:Int))])
       (fun u w'=>u.1≤cs[k].ah.n∧Ext w w'∧aI w' b1 30 (aT r)∧aI w' b6 46 (df cs[k])∧Own w' w.heap.size 9 1 encStr A1 nl.length c1 nl∧Own w' w.heap.size 3 1 bf u.2.1 (oJ++(s.aa[k].ah.take u.1).map fun x=>x.At).length u.2.2 (oJ++(s.aa[k].ah.take u.1).map fun x=>x.At) ∧
         ∀ (i:Nat) (h:i<s.aa[k].ah.length),i<u.1→s.aa[k].ah[i].At∉oJ++(s.aa[k].ah.take i).map fun x=>x.At) (fun u=>cs[k].ah.n-u.1) (0,A2,c2)
       ⟨rfl,rfl,by simp;rfl,rfl,rfl,rfl,trivial⟩ ⟨by simp only;omega,hw,aB,ax,hN,by simpa using hS,fun i h h'=>by simp only at h';omega⟩ ?_
      clear hw aB hN hS ax;rintro ⟨j,A2,c2⟩ w' ⟨hj,hw,aB,ax,hN,hS,hJ⟩
      simp only at hj hS hJ ⊢;have rN:=gu.aR.base;by_cases jo:j<cs[k].ah.n
      ·have kW:j<s.aa[k].ah.length:=by omega
       obtain ⟨t,ht⟩ : ∃ t,s.aa[k].ah[j].At=t:=⟨_,rfl⟩;have gT:=gu.aR.dA jo (j:=0) (u := .int .i64 t) (by rw [← ht];rfl)
       have wg:=Bt (ko (l:=s.aa[k].ah.map fun x=>x.At) Mo j (fun i h h'=>by
        have:=hJ i (by simpa using h) h'
        simpa [List.map_take] using this)) (fun n hn=>by
        rcases List.mem_append.1 hn with hn|hn
        ·exact Mp n hn
        ·obtain ⟨x,hx,rfl⟩:=List.mem_map.1 (List.mem_of_mem_take hn);exact JO.Mm hH x hx)
       rw [← List.map_take] at wg
       have jS:(oJ++(s.aa[k].ah.take (j+1)).map fun x=>x.At)=(oJ++(s.aa[k].ah.take j).map fun x=>x.At)++[t]:=by
        rw [List.take_succ_eq_append_getElem kW,← ht,List.map_append,List.append_assoc]
        rfl
       have FF:t∈(oJ++(s.aa[k].ah.take j).map fun x=>x.At)→kj s=false:=fun h=>km fun hm=>by
        have h1:=(hm.each k di).aR j kW;rw [ht,v7] at h1;exact h1 h
       have go:t∉(oJ++(s.aa[k].ah.take j).map fun x=>x.At) → ∀ (i:Nat) (h:i<s.aa[k].ah.length),i<j+1→s.aa[k].ah[i].At∉oJ++(s.aa[k].ah.take i).map fun x=>x.At:=fun h1 i h h'=>by
        by_cases ei:i=j
        ·subst ei;rw [ht];exact h1
        ·exact hJ i h (by omega)
       obtain ⟨ac,xS⟩ : ∃ ac,(oJ++(s.aa[k].ah.take j).map fun x=>x.At)=ac:=⟨_,rfl⟩;rw [xS] at hS wg jS FF go ⊢;refine Wz ?_
       refine CW.loop (fun i:Nat=>[(1,.pointer (some ⟨b1,0,none⟩)),(3,.slice A1 nl.length c1),(4,.slice A2 ac.length c2),(5,.int .i64 (k:Int)),(6,.pointer (some ⟨b6,0,none⟩)),(10,.int .i64 (j:Int)),(11,.int .i64 (i:Int))])
        (fun i w'=>i≤ac.length∧Ext w w'∧aI w' b1 30 (aT r)∧aI w' b6 46 (df cs[k])∧Own w' w.heap.size 9 1 encStr A1 nl.length c1 nl∧Own w' w.heap.size 3 1 bf A2 ac.length c2 ac ∧ ∀ (m:Nat) (h:m<ac.length),m<i→ac[m]≠t) (fun i=>ac.length-i) 0
        ⟨rfl,rfl,rfl,rfl,rfl,rfl,rfl,trivial⟩ ⟨by omega,hw,aB,ax,hN,hS,fun m h h'=>by omega⟩ ?_
       clear hw aB hN hS ax;rintro i w' ⟨hi,hw,aB,ax,hN,hS,hM⟩
       have IU:=hS.sl.base;by_cases ck:i<ac.length
       ·have gM:=hS.sl.one ck (u := .int .i64 ac[i]) rfl;by_cases hx:ac[i]=t
        ·rw [FF (hx ▸ List.getElem_mem ck)];repeat' (first|refine Wz ?_|((apply CW.aP mixed;(· kernel_rfl);rotate_left;intro w1 ab;replace hw:=Ext.trans hw ab;replace aB:=aB.ext ab;replace ax:=ax.ext ab;replace hN:=hN.ext ab;replace hS:=hS.ext ab;clear ab;rotate_right))|refine SW.st (ao hw rfl gT) rfl ?_|refine SW.st (ak rfl gM) rfl ?_|exact SW.bx rfl)
         all_goals try omega
         exact ae.aO rfl rfl ⟨_,rfl,hw,rfl⟩
        ·repeat' (first|refine Wz ?_|((apply CW.aP mixed;(· kernel_rfl);rotate_left;intro w1 ab;replace hw:=Ext.trans hw ab;replace aB:=aB.ext ab;replace ax:=ax.ext ab;replace hN:=hN.ext ab;replace hS:=hS.ext ab;clear ab;rotate_right))|refine SW.st (ao hw rfl gT) rfl ?_|refine SW.st (ak rfl gM) rfl ?_|exact SW.bx rfl)
         all_goals try omega
         exact ae.again (i+1) ⟨rfl,rfl,rfl,rfl,rfl,rfl,rfl,trivial⟩ (by omega) ⟨by omega,hw,aB,ax,hN,hS,fun m h h'=>by
          by_cases em:m=i
          ·subst em;exact hx
          ·exact hM m h (by omega)⟩
       ·have tW:t∉ac:=fun hm=>by
         obtain ⟨m,qq,pB⟩:=List.getElem_of_mem hm;exact hM m qq (by omega) pB
        repeat' (first|refine Wz ?_|refine SW.st (ao hw rfl gT) rfl ?_)
        refine SW.bD rfl rfl rfl rfl rfl fun b w1 ab hb hB => ?_
        (replace hw:=Ext.trans hw ab;replace aB:=aB.ext ab;replace ax:=ax.ext ab;replace hN:=hN.ext ab;replace hS:=hS.ext ab);refine SW.append hS (aI.lj (enc:=bf) hB) hw.size rfl rfl rfl (by omega) (by omega) fun A3 c3 w2 EU hg => ?_
        replace hw:=aF hw hg (Nat.le_refl _) hS.aL;replace aB:=aB.grown hg (fun e=>hS.dm aB rfl e.symm);replace ax:=ax.grown hg (fun e=>hS.dm ax rfl e.symm);replace hN:=hN.grown hg (hN.vT hS rfl);refine Wz ?_;exact ae.again (j+1,A3,c3) ⟨rfl,rfl,by simp only [jS,List.length_append];rfl,rfl,rfl,rfl,trivial⟩ (by simp only;omega) ⟨by simp only;omega,hw,aB,ax,hN,by simp only [jS,List.length_append];exact EU,go tW⟩
      ·rw [List.take_of_length_le (show s.aa[k].ah.length≤j by omega),← v7,← jO s.aa k di] at hS ⊢;rw [← Mq] at hN ⊢;refine Wz ?_
       exact ae.again (k+1,A1,c1,A2,c2) ⟨rfl,rfl,rfl,rfl,trivial⟩ (by simp only;omega) ⟨by simp only;omega,hw,aB,hN,hS,fun i h h'=>by
        simp only at h';by_cases ei:i=k
        ·subst ei;exact ⟨JO,uB,GU,fun i h=>by rw [v7];exact hJ i h (by omega)⟩
        ·exact hI i h (by omega)⟩
  ·rw [ze ⟨g1,hH,g3,fun i h=>hI i h (by omega)⟩];refine Wz ?_;exact ae.aO rfl rfl ⟨_,rfl,hw,rfl⟩
 ·have hF:kj s=false:=km fun hm=>tc ⟨hm.words,by rw [← hq];exact o8 hm.heap,hm.most⟩
  rw [hF];cases q
  all_goals simp only [true_and,Bool.false_eq_true,false_and,and_false,not_false_eq_true] at tc
  ·rcases (show s.Words.length≠4096∨s.Words.length=4096 by omega) with g|g
   all_goals
    repeat' (first|refine Wz ?_|refine SW.skip rfl rfl rfl rfl ?_|refine SW.st (aY rfl rfl ((iq aB))) rfl ?_|(refine SW.call rfl rfl (c1 _ hw) ?_;intro v w1 ab hv;subst hv;replace hw:=Ext.trans hw ab;replace aB:=aB.ext ab;clear ab))
    all_goals try omega
    exact ae.aO rfl rfl ⟨_,rfl,hw,rfl⟩
  ·rcases (show s.Words.length≠4096∨(s.Words.length=4096∧20<s.aa.length) by omega) with g|g
   all_goals
    repeat' (first|refine Wz ?_|refine SW.want rfl rfl ?_|refine SW.st (aY rfl rfl ((iq aB))) rfl ?_|(refine SW.call rfl rfl (c1 _ hw) ?_;intro v w1 ab hv;subst hv;replace hw:=Ext.trans hw ab;replace aB:=aB.ext ab;clear ab))
    all_goals try omega
    exact ae.aO rfl rfl ⟨_,rfl,hw,rfl⟩
open Go.RowKit
theorem aE.ou.gL {s:aE} (h:s.ou) : s.gL :=
 ⟨h.small,fun z hz=>⟨(h.heap.cx z hz).1,(h.heap.cx z hz).2.1⟩,fun c hc x hx=>(h.dW c hc).aR x hx,fun c hc n hn=>(h.dW c hc).names n hn⟩
open Go.RowKit
open Go.RowKit
theorem dR.IV {l:List Int} {most x:Int} {acc:List Int} {r:Option (List Int)} (h:dR l most x acc r) : (acc.length:Int)≤most → ∀ out,r=some out→(out.length:Int)≤most:=by
 induction h with
 | done out=>intro ha o e;cases e;exact ha
 | bad=>intro _ _ e;cases e
 | @step k out r h1 hk h3 h ih =>
   intro ha o e;exact ih (by rw [List.length_append];simp;omega) o e
theorem wh {x o n:Int} (h:dF x=(o,n,0)) : (o=0∧n*x≤16)∨(o=1∧n*x≤32)∨(o=2∧n*x≤64):=by
 unfold dF at h;split at h
 ·rename_i hx;have k1:=Int.ediv_mul_le 16 (show x≠0 by omega);have k2:=Int.ediv_mul_le 32 (show x≠0 by omega);have k3:=Int.ediv_mul_le 64 (show x≠0 by omega);split at h
  ·simp only [Prod.mk.injEq] at h;obtain ⟨rfl,rfl,_⟩:=h;exact .inl ⟨rfl,k1⟩
  ·split at h
   ·simp only [Prod.mk.injEq] at h;obtain ⟨rfl,rfl,_⟩:=h;exact .inr (.inl ⟨rfl,k2⟩)
   ·simp only [Prod.mk.injEq] at h;obtain ⟨rfl,rfl,_⟩:=h;exact .inr (.inr ⟨rfl,k3⟩)
 ·simp only [Prod.mk.injEq] at h;omega
theorem Bu {x y x' y':Block} (h:ij x y) (e1:x'.At=x.At) (e2:x'.Order=x.Order) (e3:y'.At=y.At) (e4:y'.Order=y.Order) : ij x' y':=by
 unfold ij at *;rw [e1,e2,e3,e4];exact h
theorem Bv {z:aq} (hz:bT z) {b:Block} {t:Int} (st:Bool) : xk (eQ z b t st):=by
 have h:=xl hz;unfold eQ;split
 ·unfold eJ;split
  ·exact h
  ·unfold xk at *;rw [List.pairwise_map];exact h.imp fun {x y} Ki=>Bu Ki (lZ _ _ _ x).1 (lZ _ _ _ x).2 (lZ _ _ _ y).1 (lZ _ _ _ y).2
 ·exact h
theorem xT {a q:Int} (h1 : 1≤q) (h4:q≤4) (hm:a % pw q=0) : beside (a+pw (q-1)) (q-1)=a∧(a+pw (q-1)) % pw (q-1)=0:=by
 have hp:pw q=2*pw (q-1):=by
  have:=jq (o:=q-1) (by omega) (by omega)
  rwa [Int.sub_add_cancel] at this
 unfold beside;rcases dZ (show 0≤q-1 by omega) (show q-1≤4 by omega) with ⟨e1,e2⟩|⟨e1,e2⟩|⟨e1,e2⟩|⟨e1,e2⟩|⟨e1,e2⟩<;>rw [hp,e2] at hm<;>rw [e2]<;>(refine ⟨?_,by omega⟩)<;>split<;>omega
theorem Dp {f t:Int} {l:List Block} {a q ty:Int} (h:vw f t l a q) (hn:xk l) (hq : 1≤q) : xk (mX ty a q l):=by
 obtain ⟨f1,f2,f3,f4,f5⟩:=h.fit;obtain ⟨hb,hm⟩:=xT hq f2 f5
 have hp:pw q=2*pw (q-1):=by
  have:=jq (o:=q-1) (by omega) (by omega)
  rwa [Int.sub_add_cancel] at this
 have Fj:=bH (o:=q-1) (by omega) (by omega)
 have cG:∀ x∈l,x.At≠a:=fun x hx e=>by
  have:=bH (h.cV x hx).1.1 (h.cV x hx).1.2.1
  rcases h.BZ x hx with g|g<;>omega
 have e:l=l.take (bF l (a+pw (q-1)))++l.drop (bF l (a+pw (q-1))):=(List.take_append_drop _ l).symm
 have h0:=hn;unfold xk at h0;rw [e,List.pairwise_append] at h0;obtain ⟨h1,h2,h3⟩:=h0
 have hA:∀ x∈l.take (bF l (a+pw (q-1))),ij x (jT ty a q):=fun x hx=>by
  have jV:=List.mem_of_mem_take hx;obtain ⟨j,hj,rfl⟩:=List.getElem_of_mem hx;simp only [List.length_take] at hj;rw [List.getElem_take] at jV ⊢;have c8:=mP (l:=l) (a:=a+pw (q-1)) (k:=j) (by omega);refine ⟨?_,fun hh => ?_⟩
  ·simp only [jT];rcases h.BZ _ jV with g|g<;>omega
  ·obtain ⟨_,_,hh⟩:=hh;simp only [jT,hb] at hh;exact cG _ jV hh
 have hB:∀ x∈l.drop (bF l (a+pw (q-1))),ij (jT ty a q) x:=fun x hx=>by
  have jV:=List.mem_of_mem_drop hx;obtain ⟨j,hj,rfl⟩:=List.getElem_of_mem hx;simp only [List.length_drop] at hj;rw [List.getElem_drop] at jV ⊢;have yj:=z5 (l:=l) (a:=a+pw (q-1)) (by omega)
  have hle:(l[bF l (a+pw (q-1))]'(by omega)).At≤(l[bF l (a+pw (q-1))+j]'(by omega)).At:=by
   rcases Nat.eq_zero_or_pos j with rfl|uJ
   ·exact Int.le_refl _
   ·have:=fB h.nO (show bF l (a+pw (q-1))+j<l.length by omega) (show bF l (a+pw (q-1))<bF l (a+pw (q-1))+j by omega)
    have:=bH (h.cV _ (List.getElem_mem (show bF l (a+pw (q-1))<l.length by omega))).1.1 (h.cV _ (List.getElem_mem (show bF l (a+pw (q-1))<l.length by omega))).1.2.1
    omega
  have JP:=(h.cV _ jV).1;have KX:=bH JP.1 JP.2.1;refine ⟨?_,fun hh => ?_⟩
  ·simp only [jT];rcases h.BZ _ jV with g|g<;>omega
  ·obtain ⟨g4,g5,hh⟩:=hh;have g6:=(l6 JP.1 g4 JP.2.2.2.2).1;simp only [jT] at g5 hh;rw [← hh,← g5,hb] at g6;exact cG _ jV g6.symm
 unfold mX aU xk;rw [List.append_assoc,List.pairwise_append];refine ⟨h1,?_,fun x hx y hy => ?_⟩
 ·rw [List.singleton_append,List.pairwise_cons];exact ⟨hB,h2⟩
 ·rw [List.singleton_append,List.mem_cons] at hy;rcases hy with rfl|hy
  ·exact hA x hx
  ·exact h3 x hx y hy
theorem u7 {f t ty:Int} (h0 : 0≤f) (ht:t≤256) (Gl:t % 16=0) (nz:fy ty) {a:Int}:∀ (k:Nat) (q:Int) (l:List Block),(k:Int)≤q→vw f t l a q→xk l→vw f t (ji ty a k q l) a (q-k)∧xk (ji ty a k q l)
 | 0,q,l,_,h,hn=>by
   refine ⟨?_,hn⟩;have:q-((0:Nat) : Int)=q:=by omega
   rw [this];exact h
 | k+1,q,l,hk,h,hn=>by
   have hq : 1≤q:=by omega
   have:=u7 h0 ht Gl nz k (q-1) (mX ty a q l) (by omega) (sr h h0 ht Gl hq nz).1 (Dp h hn hq)
   rw [ji];rwa [show q-1-(k:Int)=q-((k+1:Nat) : Int) by omega] at this
structure FG (z z':aq) : Prop where
 may:bT z'
 from_:z'.aV=z.aV
 ka:z'.To=z.To
theorem fV.vC {z:aq} {o t:Int} {u:aq×Int×Int} (h:fV z o t u) (h0:u.2.2=0) : FG z u.1∧(∃ x∈z.ag,x.At=u.2.1)∧ev z=true:=by
 cases h with
 | bad|range|kind|room=>simp at h0
 | @ok k st hq ho ht hk hp =>
   have hz:=dw.1 hq;obtain ⟨o1,o2,o3,o4,o5⟩:=hz.ok;obtain ⟨_,Hw,JD⟩:=hp.ord;obtain ⟨l1,l2,l3⟩:=pd hz (b:=z.ag[k]) ht st;have Ez:k<(eQ z z.ag[k] t st).length:=by omega
   have AQ:=pZ hz ht st hk;have hJ:=pY l2 l3 Ez;rw [AQ] at hJ;simp only at hJ;have hn:xk ((eQ z z.ag[k] t st).eraseIdx k):=(Bv hz st).sublist (List.eraseIdx_sublist _ _)
   have mO:=hz.cV k hk;have Cp:fy (k6 z t st z.ag[k]):=by unfold k6;split;exact ht;exact mO.2
   have hS:=u7 (ty:=k6 z t st z.ag[k]) o1 o3 o5 Cp (z.ag[k].Order-o).toNat z.ag[k].Order _ (by omega) hJ hn;have e:(if st=true then eJ z.ag z.ag[k] t else z.ag)=eQ z z.ag[k] t st:=rfl
   refine ⟨⟨⟨hz.ok,?_,?_,fun i hi => ?_,fun i hi => ?_⟩,rfl,rfl⟩,⟨z.ag[k],List.getElem_mem hk,rfl⟩,hq⟩
   ·simp only [mY];have hlen:=hz.len;split
    ·unfold dD;split
     ·exact hlen
     ·split<;>simpa using hlen
    ·exact hlen
   ·simp only [mY];intro v hv;split at hv
    ·unfold dD at hv;split at hv
     ·exact hz.types v hv
     ·split at hv
      ·rcases List.mem_or_eq_of_mem_set hv with hv|rfl
       ·rcases List.mem_or_eq_of_mem_set hv with hv|rfl
        ·exact hz.types v hv
        ·exact ht
       ·exact ht
      ·rcases List.mem_or_eq_of_mem_set hv with hv|rfl
       ·exact hz.types v hv
       ·exact ht
    ·exact hz.types v hv
   ·exact hS.1.cV _ (List.getElem_mem hi)
   ·have hn:=hS.2;unfold xk at hn;rw [List.pairwise_iff_getElem] at hn;exact hn i (i+1) (by simp only [mY] at hi;exact Nat.lt_of_succ_lt hi) hi (Nat.lt_succ_self i)
def dN (fl:Int) : Int:=if 0≤fl∧fl≤15 then (if fl / 2 % 4=0 then 0 else if fl / 2 % 4=1 then 1 else if fl / 2 % 4=2 then 2 else -1) else -1
theorem xU {fl:Int} (h : 0≤dN fl) : (0≤fl∧fl≤15)∧fy (dN fl):=by
 unfold dN fy at *;split at h
 ·rename_i hf;rw [if_pos hf];refine ⟨hf,?_⟩;repeat' split
  all_goals omega
 ·omega
def rm (s:aq×aq) (zi:Int) : aq:=if zi=0 then s.1 else s.2
def la (s:aq×aq) (zi:Int) (z:aq) : aq×aq:=if zi=0 then (z,s.2) else (s.1,z)
def nn (m0 m1:Int) (s:aq×aq) (zi fl:Int) : Int:=(if 8≤fl then (if zi=0 then m0 else m1) / 2 else (if zi=0 then m0 else m1))+(if zi=0∧fl % 2=0 then (s.2.To-s.2.aV) / 32 else 0)
def dv (m0 m1:Int) (s:aq×aq) (zi o fl:Int) : Prop:=nn m0 m1 s zi fl≤dK (rm s zi).ag-pw o
instance (m0 m1:Int) (s:aq×aq) (zi o fl:Int) : Decidable (dv m0 m1 s zi o fl):=inferInstanceAs (Decidable (_≤_))
inductive fr (m0 m1 zi t fl:Int) : aq×aq→List Int→(aq×aq)×List Int→Prop
 | full {s:aq×aq} {l:List Int} (h:l.length=3) : fr m0 m1 zi t fl s l (s,l)
 | jY {s:aq×aq} {l:List Int} (h:l.length<3) (he : ¬ dv m0 m1 s zi 0 fl) : fr m0 m1 zi t fl s l (s,l)
 | none {s:aq×aq} {l:List Int} {u:aq×Int×Int} (h:l.length<3) (he:dv m0 m1 s zi 0 fl) (ht:fV (rm s zi) 0 t u) (hu:u.2.2≠0) : fr m0 m1 zi t fl s l (s,l)
 | more {s:aq×aq} {l:List Int} {u:aq×Int×Int} {r:(aq×aq)×List Int} (h:l.length<3) (he:dv m0 m1 s zi 0 fl) (ht:fV (rm s zi) 0 t u) (hu:u.2.2=0) (hr:fr m0 m1 zi t fl (la s zi u.1) (l++[u.2.1]) r) : fr m0 m1 zi t fl s l r
theorem fr.jK {m0 m1 zi t fl:Int} {s:aq×aq} {l:List Int} {r r':(aq×aq)×List Int} (h:fr m0 m1 zi t fl s l r) : fr m0 m1 zi t fl s l r'→r=r':=by
 induction h with
 | full h=>intro k;cases k with
   | full=>rfl
   | jY h'|none h'|more h'=>omega
 | jY h he=>intro k;cases k with
   | full h'=>omega
   | jY=>rfl
   | none _ nV|more _ nV=>exact absurd nV he
 | none h he ht hu=>intro k;cases k with
   | full h'=>omega
   | jY _ nV=>exact absurd he nV
   | none=>rfl
   | more _ _ mC Bw=>rw [ht.jK mC] at hu;exact absurd Bw hu
 | more h he ht hu hr ih=>intro k;cases k with
   | full h'=>omega
   | jY _ nV=>exact absurd he nV
   | none _ _ mC Bw=>rw [ht.jK mC] at hu;exact absurd hu Bw
   | more _ _ mC Bw lQ =>
     have e:=ht.jK mC;subst e;exact ih lQ
def dn (x:aA) (pg:List Int) : aA:=⟨x.dU,x.aq,x.Ty,pg⟩
def rn (L:List aA) (x:aA) (pg:List Int) : List aA:=if pg.length≤1 then L.eraseIdx (a9 L x) else L.set (a9 L x) (dn x pg.dropLast)
def gn (L:List aA) (x:aA) (pg:List Int) : List aA:=if pg=[] then L else jM L (dn x pg)
inductive g7 (m0 m1 cpu zi o t fl:Int) (s:aq×aq) (L:List aA) : Option ((aq×aq)×List aA×Int)→Prop
 | list (ho:o=0) (hk:bU L ⟨cpu,zi,t,[]⟩=true) (hp:dE L ⟨cpu,zi,t,[]⟩≠[]) : g7 m0 m1 cpu zi o t fl s L (some (s,rn L ⟨cpu,zi,t,[]⟩ (dE L ⟨cpu,zi,t,[]⟩),(dE L ⟨cpu,zi,t,[]⟩).getLast hp))
 | jY (hn : ¬ (o=0∧bU L ⟨cpu,zi,t,[]⟩=true)) (he : ¬ dv m0 m1 s zi o fl) : g7 m0 m1 cpu zi o t fl s L none
 | none {u:aq×Int×Int} (hn : ¬ (o=0∧bU L ⟨cpu,zi,t,[]⟩=true)) (he:dv m0 m1 s zi o fl) (ht:fV (rm s zi) o t u) (hu:u.2.2≠0) : g7 m0 m1 cpu zi o t fl s L none
 | qI {u:aq×Int×Int} (ho : 0<o) (he:dv m0 m1 s zi o fl) (ht:fV (rm s zi) o t u) (hu:u.2.2=0) : g7 m0 m1 cpu zi o t fl s L (some (la s zi u.1,L,u.2.1))
 | fill {u:aq×Int×Int} {r:(aq×aq)×List Int} (ho:o=0) (hk:bU L ⟨cpu,zi,t,[]⟩=false) (he:dv m0 m1 s zi o fl) (ht:fV (rm s zi) o t u) (hu:u.2.2=0) (hr:fr m0 m1 zi t fl (la s zi u.1) [] r) : g7 m0 m1 cpu zi o t fl s L (some (r.1,gn L ⟨cpu,zi,t,[]⟩ r.2,u.2.1))
theorem g7.jK {m0 m1 cpu zi o t fl:Int} {s:aq×aq} {L:List aA} {r r':Option ((aq×aq)×List aA×Int)} (h:g7 m0 m1 cpu zi o t fl s L r) (k:g7 m0 m1 cpu zi o t fl s L r') : r=r':=by
 cases h with
 | list ho hk hp=>cases k with
   | list=>rfl
   | jY hn|none hn=>exact absurd ⟨ho,hk⟩ hn
   | qI tU=>omega
   | fill _ oV=>rw [hk] at oV;cases oV
 | jY hn he=>cases k with
   | list ho hk=>exact absurd ⟨ho,hk⟩ hn
   | jY=>rfl
   | none _ nV|qI _ nV|fill _ _ nV=>exact absurd nV he
 | none hn he ht hu=>cases k with
   | list ho hk=>exact absurd ⟨ho,hk⟩ hn
   | jY _ nV=>exact absurd he nV
   | none=>rfl
   | qI _ _ mC Bw|fill _ _ _ mC Bw=>rw [ht.jK mC] at hu;exact absurd Bw hu
 | qI ho he ht hu=>cases k with
   | list tU=>omega
   | jY _ nV=>exact absurd he nV
   | none _ _ mC Bw=>rw [ht.jK mC] at hu;exact absurd hu Bw
   | qI _ _ mC=>rw [ht.jK mC]
   | fill tU=>omega
 | fill ho hk he ht hu hr=>cases k with
   | list _ oV=>rw [hk] at oV;cases oV
   | jY _ nV=>exact absurd he nV
   | none _ _ mC Bw=>rw [ht.jK mC] at hu;exact absurd hu Bw
   | qI tU=>omega
   | fill _ _ _ mC _ lQ =>
     have e:=ht.jK mC;subst e;rw [hr.jK lQ]
inductive g9 (m0 m1 cpu o t fl:Int) (s:aq×aq) (L:List aA) : Option ((aq×aq)×List aA×Int)→Prop
 | uh {r:(aq×aq)×List aA×Int} (hf:fl % 2=0) (h:g7 m0 m1 cpu 1 o t fl s L (some r)) : g9 m0 m1 cpu o t fl s L (some r)
 | low {r:Option ((aq×aq)×List aA×Int)} (hf:fl % 2=0→g7 m0 m1 cpu 1 o t fl s L none) (h:g7 m0 m1 cpu 0 o t fl s L r) : g9 m0 m1 cpu o t fl s L r
theorem g9.jK {m0 m1 cpu o t fl:Int} {s:aq×aq} {L:List aA} {r r':Option ((aq×aq)×List aA×Int)} (h:g9 m0 m1 cpu o t fl s L r) (k:g9 m0 m1 cpu o t fl s L r') : r=r':=by
 cases h with
 | uh hf h=>cases k with
   | uh _ h'=>exact h.jK h'
   | low tX=>cases h.jK (tX hf)
 | low hf h=>cases k with
   | uh tX h'=>cases h'.jK (hf tX)
   | low _ h'=>exact h.jK h'
def bR (h:Heap) (i:Nat) : Int:=h.bJ.getD i 0
def lc (h:Heap) (s:aq×aq) (L:List aA) (lv:List Block) : Heap:=⟨[s.1,s.2],h.bJ,h.bX,L,lv⟩
def gp (h:Heap) (at_ o t:Int) : List Block:=aU h.Live (bF h.Live at_) ⟨at_,o,t⟩
inductive dJ (h:Heap) (cpu o fl:Int) : Heap×Int×Int→Prop
 | bad (hb:ja h=false) : dJ h cpu o fl (.zero,0,8)
 | range (hb:ja h=true) (hr : ¬ ((0≤cpu∧cpu<h.bX)∧0≤o∧o≤4)) : dJ h cpu o fl (.zero,0,1)
 | form (hb:ja h=true) (hr:(0≤cpu∧cpu<h.bX)∧0≤o∧o≤4) (ht:dN fl<0) : dJ h cpu o fl (.zero,0,3)
 | once {z0 z1:aq} {r:(aq×aq)×List aA×Int} (hb:ja h=true) (hr:(0≤cpu∧cpu<h.bX)∧0≤o∧o≤4) (ht : 0≤dN fl) (hz:h.aN=[z0,z1]) (ha:g9 (bR h 0) (bR h 1) cpu o (dN fl) fl (z0,z1) h.av (some r)) :
    dJ h cpu o fl (lc h r.1 r.2.1 (gp h r.2.2 o (dN fl)),r.2.2,0)
 | mu {z0 z1:aq} {r:(aq×aq)×List aA×Int} (hb:ja h=true) (hr:(0≤cpu∧cpu<h.bX)∧0≤o∧o≤4) (ht : 0≤dN fl) (hz:h.aN=[z0,z1]) (ha:g9 (bR h 0) (bR h 1) cpu o (dN fl) fl (z0,z1) h.av none)
    (h2:g9 (bR h 0) (bR h 1) cpu o (dN fl) fl (dt (z0,z1) (aS h.av)) [] (some r)) : dJ h cpu o fl (lc h r.1 r.2.1 (gp h r.2.2 o (dN fl)),r.2.2,0)
 | room {z0 z1:aq} (hb:ja h=true) (hr:(0≤cpu∧cpu<h.bX)∧0≤o∧o≤4) (ht : 0≤dN fl) (hz:h.aN=[z0,z1]) (ha:g9 (bR h 0) (bR h 1) cpu o (dN fl) fl (z0,z1) h.av none)
    (h2:g9 (bR h 0) (bR h 1) cpu o (dN fl) fl (dt (z0,z1) (aS h.av)) [] none) : dJ h cpu o fl (.zero,0,6)
theorem dJ.jK {h:Heap} {cpu o fl:Int} {u v:Heap×Int×Int} (a:dJ h cpu o fl u) (b:dJ h cpu o fl v) : u=v:=by
 cases a with
 | bad hb=>cases b with
   | bad=>rfl
   | range jR|form jR|once jR|mu jR|room jR=>rw [hb] at jR;cases jR
 | range hb hr=>cases b with
   | bad jR=>rw [hb] at jR;cases jR
   | range=>rfl
   | form _ lQ|once _ lQ|mu _ lQ|room _ lQ=>exact absurd lQ hr
 | form hb hr ht=>cases b with
   | bad jR=>rw [hb] at jR;cases jR
   | range _ lQ=>exact absurd hr lQ
   | form=>rfl
   | once _ _ mC|mu _ _ mC|room _ _ mC=>omega
 | once hb hr ht hz ha=>cases b with
   | bad jR=>rw [hb] at jR;cases jR
   | range _ lQ=>exact absurd hr lQ
   | form _ _ mC=>omega
   | once _ _ _ lO iB=>rw [hz] at lO;simp only [List.cons.injEq,and_true] at lO;obtain ⟨rfl,rfl⟩:=lO;cases ha.jK iB;rfl
   | mu _ _ _ lO iB|room _ _ _ lO iB=>rw [hz] at lO;simp only [List.cons.injEq,and_true] at lO;obtain ⟨rfl,rfl⟩:=lO;cases ha.jK iB
 | mu hb hr ht hz ha h2=>cases b with
   | bad jR=>rw [hb] at jR;cases jR
   | range _ lQ=>exact absurd hr lQ
   | form _ _ mC=>omega
   | once _ _ _ lO iB=>rw [hz] at lO;simp only [List.cons.injEq,and_true] at lO;obtain ⟨rfl,rfl⟩:=lO;cases ha.jK iB
   | mu _ _ _ lO iB mx=>rw [hz] at lO;simp only [List.cons.injEq,and_true] at lO;obtain ⟨rfl,rfl⟩:=lO;cases h2.jK mx;rfl
   | room _ _ _ lO iB mx=>rw [hz] at lO;simp only [List.cons.injEq,and_true] at lO;obtain ⟨rfl,rfl⟩:=lO;cases h2.jK mx
 | room hb hr ht hz ha h2=>cases b with
   | bad jR=>rw [hb] at jR;cases jR
   | range _ lQ=>exact absurd hr lQ
   | form _ _ mC=>omega
   | once _ _ _ lO iB=>rw [hz] at lO;simp only [List.cons.injEq,and_true] at lO;obtain ⟨rfl,rfl⟩:=lO;cases ha.jK iB
   | mu _ _ _ lO iB mx=>rw [hz] at lO;simp only [List.cons.injEq,and_true] at lO;obtain ⟨rfl,rfl⟩:=lO;cases h2.jK mx
   | room=>rfl
structure VS (s:aq×aq) : Prop where
 m8:bT s.1
 l8:bT s.2
 pk:s.1.aV=0
 Ag:s.1.To=s.2.aV
 ED:s.2.To=256
theorem VS.rm {s:aq×aq} (h:VS s) (zi:Int) : bT (rm s zi):=by unfold Go.Proofs.YtjimadiidbkohaaGreatDoor.rm;split;exact h.m8;exact h.l8
theorem VS.qi {s:aq×aq} (h:VS s) {zi:Int} {z':aq} (hk:FG (Go.Proofs.YtjimadiidbkohaaGreatDoor.rm s zi) z') : VS (la s zi z'):=by
 obtain ⟨k1,k2,k3⟩:=hk;unfold Go.Proofs.YtjimadiidbkohaaGreatDoor.rm at k2 k3;unfold la;split
 ·rename_i e;rw [if_pos e] at k2 k3;exact ⟨k1,h.l8,by rw [k2];exact h.pk,by rw [k3];exact h.Ag,h.ED⟩
 ·rename_i e;rw [if_neg e] at k2 k3;exact ⟨h.m8,k1,h.pk,by rw [k2];exact h.Ag,by rw [k3];exact h.ED⟩
theorem fr.vs {m0 m1 zi t fl:Int} {s:aq×aq} {l:List Int} {r:(aq×aq)×List Int} (h:fr m0 m1 zi t fl s l r) : VS s→VS r.1∧r.2.length≤3:=by
 induction h with
 | full h=>exact fun k=>⟨k,by simp only;omega⟩
 | jY h he=>exact fun k=>⟨k,by simp only;omega⟩
 | none h=>exact fun k=>⟨k,by simp only;omega⟩
 | more h he ht hu hr ih=>exact fun k=>ih (k.qi (ht.vC hu).1)
theorem nQ.vs {s:aq×aq} {bs:List Block} (h:nQ s bs) : VS s:=⟨h.m8,h.l8,h.pk,h.Ag,h.ED⟩
def th (s:aq×aq) (L:List aA) (a:Int) : Prop:=(∃ x∈s.1.ag,x.At=a)∨(∃ x∈s.2.ag,x.At=a) ∨ ∃ l∈L,a∈l.aw
theorem g7.found {m0 m1 cpu zi o t fl:Int} {s:aq×aq} {L:List aA} {r:(aq×aq)×List aA×Int} (h:g7 m0 m1 cpu zi o t fl s L (some r)) (hv:VS s) : VS r.1∧th s L r.2.2:=by
 have fz:∀ {u:aq×Int×Int},fV (rm s zi) o t u→u.2.2=0→VS (la s zi u.1)∧th s L u.2.1:=fun {u} ht hu=>by
  obtain ⟨k1,⟨x,hx,e⟩,_⟩:=ht.vC hu;refine ⟨hv.qi k1,?_⟩;unfold rm at hx;split at hx
  ·exact .inl ⟨x,hx,e⟩
  ·exact .inr (.inl ⟨x,hx,e⟩)
 cases h with
 | list ho hk hp =>
   refine ⟨hv,.inr (.inr ?_)⟩;obtain ⟨hl,_⟩:=jt hk;refine ⟨_,List.getElem_mem hl,?_⟩;have e:=jj hk hl;have hm:∀ a,a∈dE L ⟨cpu,zi,t,[]⟩→a∈L[a9 L ⟨cpu,zi,t,[]⟩].aw:=fun a ha=>by rw [e] at ha;exact ha
   exact hm _ (List.getLast_mem hp)
 | qI ho he ht hu=>exact fz ht hu
 | fill ho hk he ht hu hr=>exact ⟨(hr.vs (fz ht hu).1).1,(fz ht hu).2⟩
theorem g9.found {m0 m1 cpu o t fl:Int} {s:aq×aq} {L:List aA} {r:(aq×aq)×List aA×Int} (h:g9 m0 m1 cpu o t fl s L (some r)) (hv:VS s) : VS r.1∧th s L r.2.2:=by
 cases h with
 | uh _ h=>exact h.found hv
 | low _ h=>exact h.found hv
theorem zt {L:List aA} {y:aA} (hs:rH L) (hk:bU L y=false) : rH (aU L (a9 L y) y):=by
 have h0:=hs;unfold rH at h0 ⊢;rw [← List.take_append_drop (a9 L y) L,List.pairwise_append] at h0;obtain ⟨h1,h2,h3⟩:=h0
 have hT:∀ z∈L.take (a9 L y),bz z y:=fun z hz=>by
  obtain ⟨j,hj,rfl⟩:=List.getElem_of_mem hz;rw [List.length_take] at hj;rw [List.getElem_take];exact ma (by omega)
 have hD:∀ z∈L.drop (a9 L y),bz y z:=fun z hz=>by
  obtain ⟨j,hj,rfl⟩:=List.getElem_of_mem hz;rw [List.length_drop] at hj;rw [List.getElem_drop];have h:=Aj hk (by omega);rcases Nat.eq_zero_or_pos j with rfl|uJ
  ·exact h
  ·exact qH h (hs.get (show a9 L y+j<L.length by omega) (by omega))
 unfold aU;rw [List.append_assoc,List.pairwise_append];refine ⟨h1,?_,fun a ha b hb => ?_⟩
 ·rw [List.singleton_append,List.pairwise_cons];exact ⟨hD,h2⟩
 ·rw [List.singleton_append,List.mem_cons] at hb;rcases hb with rfl|hb
  ·exact hT a ha
  ·exact h3 a ha b hb
section
variable {L:List aA} {x:aA} {pg:List Int}
theorem kr:dk x (dn x pg):=⟨rfl,rfl,rfl⟩
theorem lJ:gn L x []=L:=by simp [gn]
theorem qs (hk:bU L x=false) (hp:pg≠[]) : gn L x pg=aU L (a9 L (dn x pg)) (dn x pg):=by
 rw [gn,if_neg hp,ow (by rw [← (jD (L:=L) (kr (x:=x) (pg:=pg))).2];exact hk)]
theorem wi (hs:rH L) (hk:bU L x=false) : rH (gn L x pg):=by
 by_cases hp:pg=[]
 ·subst hp;rw [lJ];exact hs
 ·rw [qs hk hp];exact zt hs (by rw [← (jD (L:=L) (kr (x:=x) (pg:=pg))).2];exact hk)
theorem u9 (hk:bU L x=false) : ∀ l∈gn L x pg,l∈L∨l=dn x pg:=fun l hl=>by
 by_cases hp:pg=[]
 ·subst hp;rw [lJ] at hl;exact .inl hl
 ·rw [qs hk hp] at hl;unfold aU at hl;rw [List.mem_append,List.mem_append,List.mem_singleton] at hl;rcases hl with (hl|hl)|hl
  ·exact .inl (List.mem_of_mem_take hl)
  ·exact .inr hl
  ·exact .inl (List.mem_of_mem_drop hl)
theorem va (hk:bU L x=false) : (gn L x pg).length≤L.length+1:=by
 by_cases hp:pg=[]
 ·subst hp;rw [lJ];omega
 ·rw [qs hk hp,du _ (fW _ _)];omega
theorem zu (hk:bU L x=false) (a:Int) : jM (gn L x pg) ⟨x.dU,x.aq,x.Ty,dE (gn L x pg) x++[a]⟩=gn L x (pg++[a]):=by
 have cG:pg++[a]≠[]:=by simp
 by_cases hp:pg=[]
 ·subst hp;rw [lJ,lD hk,gn,if_neg cG];rfl
 ·have e:gn L x pg=jM L (dn x pg):=by rw [gn,if_neg hp]
  obtain ⟨e1,e2⟩:=jD (L:=jM L (dn x pg)) (kr (x:=x) (pg:=pg));obtain ⟨e3,e4⟩:=CY (L:=L) (x:=dn x pg);obtain ⟨c8,k7⟩:=List.getElem?_eq_some_iff.1 (xo (L:=L) (x:=dn x pg))
  have Ea:dE (jM L (dn x pg)) x=pg:=by
   rw [jj (by rw [e2];exact e4) (by rw [e1,e3];exact c8)];simp only [e1,e3,k7]
   rfl
  rw [e,Ea,gn,if_neg cG];have mc:dk (dn x pg) (⟨x.dU,x.aq,x.Ty,pg++[a]⟩ : aA):=⟨rfl,rfl,rfl⟩
  obtain ⟨e5,e6⟩:=jD (L:=jM L (dn x pg)) mc;rw [ov (by rw [← e6];exact e4),← e5,e3];exact CZ mc
end
theorem Dq {x:aA} {L:List aA} {pg:List Int} (h : 1<pg.length) : rn L x pg=L.set (a9 L x) (dn x pg.dropLast):=by rw [rn,if_neg (by omega)]
theorem zv {x:aA} {L:List aA} {pg:List Int} (h:pg.length=1) : rn L x pg=L.eraseIdx (a9 L x):=by rw [rn,if_pos (by omega)]
theorem ti {l:List Int} (h:l≠[]) {i:Nat} (hi:i<l.length) (e:i=l.length-1) : l.getLast h=l[i]:=by
 subst e;rw [List.getLast_eq_getElem]
end Go.Proofs.YtjimadiidbkohaaGreatDoor
