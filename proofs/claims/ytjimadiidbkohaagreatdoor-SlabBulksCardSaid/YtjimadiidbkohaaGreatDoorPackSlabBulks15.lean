/-
  Texts of the claim SlabBulks, part 15: what its theorem leans on.
-/
import Derived.Test.YtjimadiidbkohaaGreatDoorPackSlabBulks14
import Derived.Test.YtjimadiidbkohaaGreatDoorPackSlabBulks9
import Derived.Test.YtjimadiidbkohaaGreatDoorPackSlabBulks11
import Derived.Test.YtjimadiidbkohaaGreatDoorPackSlabBulks2
import Derived.Test.YtjimadiidbkohaaGreatDoorPackSlabBulks1
import Derived.Maps.OwnSet
import Derived.Test.YtjimadiidbkohaaGreatDoorPackSlabBulks13
import Derived.Test.YtjimadiidbkohaaGreatDoorPackSlabBulks10
set_option linter.unusedVariables false
set_option linter.unusedSimpArgs false
namespace Go.Proofs.YtjimadiidbkohaaGreatDoor
open Go.RowKit
theorem qO (x:Block) (a:Int) (w:World) : bt Tryz.prog 66 ([.agg (az x).toArray,.int .i64 a]++[]) w fun v _=>v = .int .i64 (IntKind.i64.wrap (x.At-a)):=by
 refine aM Tryz.func66 rfl Tryz.ntmps66 rfl ?_;refine CW.seq (CW.region (SW.box rfl rfl fun b1 w1 hw ik aB => ?_));repeat' (first|refine Wz ?_|(refine SW.st (rv rfl rfl) rfl ?_))
 exact ae.aO rfl rfl ⟨_,rfl,hw,rfl⟩
theorem xL (A:Option Addr) (n c:Nat) (l:List Block) (a:Int) (w:World) (hl:Sl w 3 az A n l) (hu:l.Pairwise fun x y=>x.At<y.At) (hb:∀ b∈l,0≤b.At∧b.At≤255) (hn:n≤1000000000000000000) (ha : -9223372036854775808≤a∧a≤9223372036854775807) :
 bt Tryz.prog 65 [.slice A n c,.int .i64 a,.func (.func 66) #[] #[]] w fun v _=>EE l a v:=by
 by_cases ck : -1000000≤a∧a≤1000000
 ·refine (jI _ _ _ _ a _ hl _ (fun x hx w' _=>by
   have:=qO x a w'
   have h:=hb x hx;rwa [iH (by omega) (by omega)] at this) hu hn).mono fun v w2 cJ hv => ?_
  subst hv;exact ⟨fun h=>by rw [h],fun h=>⟨bF l a,by rw [h]⟩⟩
 ·have hf:cf l a=false:=by
   unfold cf;split
   ·rename_i h;have:=hb _ (List.getElem_mem h)
    exact decide_eq_false (by omega)
   ·rfl
  refine (sK _ _ _ _ a _ hl _ (fun x=>IntKind.i64.wrap (x.At-a)) (fun x hx w' _=>qO x a w') (fun x hx h0=>by
   have h:=hb x hx;have:=wrap_zero (by omega) (by omega) h0
   omega) hn).mono fun v w2 cJ hv => ?_
  obtain ⟨i,rfl⟩:=hv;exact ⟨fun h=>absurd (hf.symm.trans h) (by simp),fun _=>⟨i,rfl⟩⟩
theorem Bo (x:Slab) (b3:Nat) (t:Int) (w:World) (h3:aI w b3 3 [.int .i64 t]) :
 bt Tryz.prog 73 ([.agg (a8 x).toArray]++[.pointer (some ⟨b3,0,none⟩)]) w fun v _=>v = .bool (xI t x):=by
 refine aM Tryz.func73 rfl Tryz.ntmps73 rfl ?_;refine CW.seq (CW.region (SW.box rfl rfl fun b1 w1 hw ik aB => ?_));replace h3:=h3.ext hw;have IL:=h3.cell (i:=0) (v := .int .i64 t) rfl;rw [add_zero] at IL;repeat' (first|refine Wz ?_|refine SW.st (ak rfl IL) rfl ?_)
 exact ae.aO rfl rfl ⟨_,rfl,hw,rfl⟩
theorem xM (q:de) (l:List Slab) (t:Int) (w:World) (hl:Sl w 3 a8 q.ah.A q.ah.n l) (hn:q.ah.n≤9223372036854775807) :
 bt Tryz.prog 46 [.agg (df q).toArray,.int .i64 t] w fun v _=>v = .int .i64 (idxOf (xI t) l):=by
 refine aM Tryz.func46 rfl Tryz.ntmps46 rfl ?_;refine CW.seq (CW.region (SW.box rfl rfl fun b2 w1 hw im aK => ?_));refine SW.Ek rfl rfl rfl fun b3 w2 cJ bM ar => ?_
 (replace hw:=Ext.trans hw cJ;replace aK:=aK.ext cJ);repeat' (first|refine Wz ?_|(refine SW.st (iJ (vs:=[.pointer (some ⟨b3,0,none⟩)]) rfl) rfl ?_))
 refine SW.call rfl rfl (iP _ _ _ _ _ (hl.ext hw) _ [.pointer (some ⟨b3,0,none⟩)] (xI t) (fun x => .agg (a8 x).toArray) (fun x=>rfl) (fun x _ w1 kH=>Bo x b3 t w1 (ar.ext kH)) hn) fun v w4 iS hv => ?_
 subst hv;replace hw:=Ext.trans hw iS;refine Wz ?_;exact ae.aO rfl rfl ⟨_,rfl,hw,rfl⟩
theorem uY {x:Int} {w:World} {f:FuncId} {o n e:Int} (h:bt Tryz.prog f [.int .i64 x] w fun v _=>v=jv x) (hE:dF x=(o,n,e)) : bt Tryz.prog f [.int .i64 x] w fun v _=>v = .tuple #[.int .i64 o,.int .i64 n,.int .i64 e]:=by
 refine h.mono fun v w' _ hv => ?_
 rw [hv,jv,hE]
set_option maxHeartbeats 4000000 in
theorem Bp (r:dP) (s:aE) (q:de) (c:bg) (w:World) (hr:rG w r s) (hq:B5 w q c) (hs:s.small) (gU:c.small) (hH:bE s.Heap) (o7:∀ x∈c.ah,-9223372036854775808≤x.At∧x.At≤9223372036854775807) :
 bt Tryz.prog 35 [.agg (aT r).toArray,.agg (df q).toArray] w fun v _=>v = .bool (jl s c):=by
 refine aM Tryz.func35 rfl Tryz.ntmps35 rfl ?_;refine CW.seq (CW.region (SW.box rfl rfl fun b2 w1 hw im aK => ?_));refine SW.box rfl rfl fun b3 w2 cJ bM ar => ?_
 (replace hw:=Ext.trans hw cJ;replace aK:=aK.ext cJ);obtain ⟨o,n,e,hE⟩ : ∃ o n e,dF c.bh=(o,n,e):=⟨_,_,_,rfl⟩;have eS:=hq.size;have eP:=hq.fk;have eO:=hq.order;have n1:=hq.names.len;have n2:=hq.aR.len;have n3:=hq.ba.len;have m1:=gU.names;have m2:=gU.aR;have m3:=gU.ba;have eC:=hr.heap.er;have wl:=hr.words.len;have m4:=hs.words;have kB:=hr.heap.live.len;have m5:=hs.heap.live;have Ge:=hq.cap;have cL:∀ w',bt Tryz.prog 64 [.int .i64 q.bh] w' fun v _=>v = .tuple #[.int .i64 o,.int .i64 n,.int .i64 e]:=fun w'=>uY (y8 q.bh w') (by rw [eS];exact hE)
 rcases (show ¬ (e=0∧c.Order=o∧c.cj=n∧0<c.Names.length∧(c.au.length:Int)=s.Heap.bX)∨(e=0∧c.Order=o∧c.cj=n∧0<c.Names.length∧(c.au.length:Int)=s.Heap.bX) by omega) with nN|⟨h1,h2,h3,h4,h5⟩
 ·have hF:jl s c=false:=fj fun hm=>nN (by
   have:=hm.lay
   rw [hE] at this;simp only [Prod.mk.injEq] at this;exact ⟨this.2.2,this.1.symm,this.2.1.symm,hm.names,hm.ba⟩)
  rw [hF];rcases (show e≠0∨(e=0∧c.Order≠o)∨(e=0∧c.Order=o∧c.cj≠n)∨(e=0∧c.Order=o∧c.cj=n∧c.Names.length=0)∨(e=0∧c.Order=o∧c.cj=n∧0<c.Names.length∧(c.au.length:Int)≠s.Heap.bX) by omega) with g|g|g|g|g
  all_goals
   repeat' (first|refine Wz ?_|(refine SW.call rfl rfl (cL _) ?_;intro v w1 ab hv;subst hv;replace hw:=Ext.trans hw ab;replace aK:=aK.ext ab;replace ar:=ar.ext ab;clear ab))
   all_goals try omega
   exact ae.aO rfl rfl ⟨_,rfl,hw,rfl⟩
 ·subst h1;have EN:dF c.bh=(c.Order,c.cj,0):=by rw [hE,h2,h3]
  obtain ⟨l1,l2,l3⟩:=gm hE;have c8:=rL hH.live
  have JN:∀ b∈s.Heap.Live,0≤b.At∧b.At≤255:=fun b hb=>by
   obtain ⟨i,hi,rfl⟩:=List.getElem_of_mem hb;exact (hH.live.each i hi).2.1
  repeat' (first|refine Wz ?_|(refine SW.call rfl rfl (cL _) ?_;intro v w1 ab hv;subst hv;replace hw:=Ext.trans hw ab;replace aK:=aK.ext ab;replace ar:=ar.ext ab;clear ab))
  all_goals try omega
  clear cL
  refine CW.loop (fun k:Nat=>[(2,.pointer (some ⟨b2,0,none⟩)),(3,.pointer (some ⟨b3,0,none⟩)),(5,.int .i64 o),(53,.slice q.ah.A q.ah.n q.ah.c),(54,.int .i64 (q.ah.n:Int)),(55,.int .i64 (k:Int))])
   (fun k w'=>k≤q.ah.n∧Ext w w'∧aI w' b2 30 (aT r)∧aI w' b3 46 (df q) ∧ ∀ (i:Nat) (h:i<c.ah.length),i<k→mf s c i h) (fun k=>q.ah.n-k) 0
   ⟨rfl,rfl,rfl,rfl,rfl,rfl,trivial⟩ ⟨by omega,hw,aK,ar,fun i h h'=>by omega⟩ ?_
  clear hw aK ar;rintro k w' ⟨hk,hw,aK,ar,hI⟩
  have hA:=hq.aR.base;by_cases cb:k<q.ah.n
  ·have di:k<c.ah.length:=by omega
   repeat' (first|refine Wz ?_|refine SW.st (aH hw rfl rfl ((hq.aR.all cb))) rfl ?_)
   refine SW.alloc rfl fun b9 w1 ab om bl => ?_
   refine Wz ?_;refine SW.ap bl rfl rfl rfl rfl (fO.one (enc:=a8) _) fun w2 gz hg => ?_
   have aj:=ab.own om hg;have rc:w.heap.size≤b9:=Nat.le_trans hw.size om
   replace hw:=Ext.trans hw aj;replace aK:=aK.ext aj;replace ar:=ar.ext aj;replace bl:=gz;clear gz ab hg aj;refine Wz ?_;refine SW.call rfl rfl (xL _ _ _ _ _ _ (hr.heap.live.ext hw) c8 JN (by omega) (o7 _ (List.getElem_mem di))) fun v w4 iS hv => ?_
   (replace hw:=Ext.trans hw iS;replace aK:=aK.ext iS;replace ar:=ar.ext iS;replace bl:=bl.ext iS);cases EO:cf s.Heap.Live c.ah[k].At
   ·obtain ⟨j,rfl⟩:=hv.2 EO
    have hF:jl s c=false:=fj fun hm=>by
     have:=(hm.aR k di).live
     rw [vV EO] at this;omega
    rw [hF];repeat' (first|refine Wz ?_|((apply CW.aP mixed;(· kernel_rfl);rotate_left;intro w1 ab;replace hw:=Ext.trans hw ab;replace aK:=aK.ext ab;replace ar:=ar.ext ab;replace bl:=bl.ext ab;clear ab;rotate_right))|refine SW.skip rfl rfl rfl rfl ?_|exact SW.bx rfl)
    exact ae.aO rfl rfl ⟨_,rfl,hw,rfl⟩
   ·have Bq:=hv.1 EO;subst Bq;obtain ⟨tS,Mk⟩:=pq EO;have KP:=zb EO tS;obtain ⟨m,em⟩ : ∃ m,bF s.Heap.Live c.ah[k].At=m:=⟨_,rfl⟩;simp only [em] at tS Mk KP hv ⊢;have FB:m<r.Heap.Live.n:=by omega
    have OW:=hr.heap.live.base;have gO:=hr.heap.live.dA FB (j:=1) (u := .int .i64 s.Heap.Live[m].Order) rfl
    have ht : 0≤c.ah[k].At∧c.ah[k].At≤255:=by
     have:=JN _ (List.getElem_mem tS)
     omega
    have hS : 1≤q.bh∧q.bh≤64:=by omega
    have hP : 1≤q.cj∧q.cj≤64:=by omega
    by_cases re:s.Heap.Live[m].Order=o
    ·by_cases zj : 0<k→(c.ah[k-1]'(by omega)).At<c.ah[k].At
     ·rcases Nat.eq_zero_or_pos k with pS|pS
      all_goals
       first
       | (have gP:=hq.aR.dA (show k-1<q.ah.n by omega) (j:=0) (u := .int .i64 (c.ah[k-1]'(by omega)).At) rfl
          have rX:=zj pS)
       | skip
      all_goals
       repeat' (first|refine Wz ?_|((apply CW.aP mixed;(· kernel_rfl);rotate_left;intro w1 ab;replace hw:=Ext.trans hw ab;replace aK:=aK.ext ab;replace ar:=ar.ext ab;replace bl:=bl.ext ab;clear ab;rotate_right))|refine SW.want rfl rfl ?_|refine SW.st (aZ (k-1) rfl rfl (by assumption) (by omega) (by omega)) rfl ?_|refine SW.st (ao hw rfl gO) rfl ?_|refine SW.st (ao hw rfl gP) rfl ?_|exact SW.bx rfl)
       all_goals try omega
       refine SW.call rfl rfl (Bn r q c.ah[k] s.Words _ (hr.words.ext hw) (by omega) hS hP ht) fun v w5 jJ sX => ?_
       (replace hw:=Ext.trans hw jJ;replace aK:=aK.ext jJ;replace ar:=ar.ext jJ);rw [eS,eP] at sX;rcases sX with ⟨out,A5,c5,hC,rfl,_,_⟩|⟨ll,rfl⟩
       ·repeat' (first|refine Wz ?_|(refine CW.bA rfl ?_))
        exact ae.again (k+1) ⟨rfl,rfl,rfl,rfl,rfl,rfl,trivial⟩ (by omega) ⟨by omega,hw,aK,ar,fun i h h'=>by
         by_cases ei:i=k
         ·subst ei;exact ⟨by omega,zj,⟨out,hC⟩⟩
         ·exact hI i h (by omega)⟩
       ·rw [fj fun hm=>(hm.aR k di).chain.elim ll];repeat' (first|refine Wz ?_|(refine CW.bG rfl ?_))
        exact ae.aO rfl rfl ⟨_,rfl,hw,rfl⟩
     ·have pS : 0<k:=by
       rcases Nat.eq_zero_or_pos k with h|h
       ·exact absurd (fun h'=>by omega) zj
       ·exact h
      have yj : ¬ (c.ah[k-1]'(by omega)).At<c.ah[k].At:=fun h=>zj fun _=>h
      have gP:=hq.aR.dA (show k-1<q.ah.n by omega) (j:=0) (u := .int .i64 (c.ah[k-1]'(by omega)).At) rfl;rw [fj fun hm=>yj ((hm.aR k di).next pS)];repeat' (first|refine Wz ?_|((apply CW.aP mixed;(· kernel_rfl);rotate_left;intro w1 ab;replace hw:=Ext.trans hw ab;replace aK:=aK.ext ab;replace ar:=ar.ext ab;replace bl:=bl.ext ab;clear ab;rotate_right))|refine SW.want rfl rfl ?_|refine SW.st (aZ (k-1) rfl rfl (by assumption) (by omega) (by omega)) rfl ?_|refine SW.st (ao hw rfl gO) rfl ?_|refine SW.st (ao hw rfl gP) rfl ?_|exact SW.bx rfl)
      all_goals try omega
      exact ae.aO rfl rfl ⟨_,rfl,hw,rfl⟩
    ·rw [fj fun hm=>re (by have:=(hm.aR k di).live;omega)];repeat' (first|refine Wz ?_|((apply CW.aP mixed;(· kernel_rfl);rotate_left;intro w1 ab;replace hw:=Ext.trans hw ab;replace aK:=aK.ext ab;replace ar:=ar.ext ab;replace bl:=bl.ext ab;clear ab;rotate_right))|refine SW.want rfl rfl ?_|refine SW.st (ao hw rfl gO) rfl ?_|exact SW.bx rfl)
     all_goals try omega
     exact ae.aO rfl rfl ⟨_,rfl,hw,rfl⟩
  ·have gd:∀ (i:Nat) (h:i<c.ah.length),mf s c i h:=fun i h=>hI i h (by omega)
   refine Wz ?_;clear hI cb hk hA
   refine CW.loop (fun k:Nat=>[(3,.pointer (some ⟨b3,0,none⟩)),(109,.slice q.au.A q.au.n q.au.c),(110,.int .i64 (q.au.n:Int)),(111,.int .i64 (k:Int))])
    (fun k w'=>k≤q.au.n∧Ext w w'∧aI w' b3 46 (df q) ∧ ∀ (i:Nat) (h:i<c.au.length),i<k→zd c i h) (fun k=>q.au.n-k) 0
    ⟨rfl,rfl,rfl,rfl,trivial⟩ ⟨by omega,hw,ar,fun i h h'=>by omega⟩ ?_
   clear hw ar aK;rintro k w' ⟨hk,hw,ar,hI⟩
   have hA:=hq.ba.base;by_cases cb:k<q.au.n
   ·have di:k<c.au.length:=by omega
    obtain ⟨a,ea⟩ : ∃ a,c.au[k]=a:=⟨_,rfl⟩;have gA:=hq.ba.one cb (u := .int .i64 a) (by rw [← ea];rfl);by_cases ha:a = -1
    ·repeat' (first|refine Wz ?_|refine SW.st (ao hw rfl gA) rfl ?_)
     exact ae.again (k+1) ⟨rfl,rfl,rfl,rfl,trivial⟩ (by omega) ⟨by omega,hw,ar,fun i h h'=>by
      by_cases ei:i=k
      ·subst ei;exact .inl (by omega)
      ·exact hI i h (by omega)⟩
    ·have cN:∀ w',Ext w w'→bt Tryz.prog 49 [.slice q.au.A k q.au.c,.int .i64 a] w' fun v _=>v = .bool (decide (a∈c.au.take k)):=fun w' hx=>ie _ _ _ _ _ _ ((hq.ba.ext hx).pre (show k≤q.au.n by omega)) (by omega)
     obtain ⟨z,hz⟩ : ∃ z,idxOf (xI a) c.ah=z:=⟨_,rfl⟩;have jc:=iL (xI a) c.ah;rw [hz] at jc
     have cF:∀ w',Ext w w'→bt Tryz.prog 46 [.agg (df q).toArray,.int .i64 a] w' fun v _=>v = .int .i64 z:=fun w' hx=>by
      have:=xM q c.ah a w' (hq.aR.ext hx) (by omega)
      rwa [hz] at this
     have FD:(a∈c.au.take k ∨ ¬ 0≤z)→jl s c=false:=fun h=>fj fun hm=>by
      rcases hm.xJ k di with g|⟨g1,g2⟩
      ·omega
      ·rw [ea] at g1 g2;rcases h with h|h
       ·exact g1 h
       ·rw [g2] at jc;exact h (of_decide_eq_true jc)
     by_cases lH:a∈c.au.take k
     ·rw [decide_eq_true lH] at cN;rw [FD (.inl lH)];repeat' (first|refine Wz ?_|refine SW.st (ao hw rfl gA) rfl ?_|(refine SW.call rfl rfl (cN _ hw) ?_;intro v w1 ab hv;subst hv;replace hw:=Ext.trans hw ab;replace ar:=ar.ext ab;clear ab)|(refine SW.st (dc (k:=k) rfl rfl (by omega)) rfl ?_))
      all_goals try omega
      exact ae.aO rfl rfl ⟨_,rfl,hw,rfl⟩
     ·rw [decide_eq_false lH] at cN;by_cases sQ : 0≤z
      ·repeat' (first|refine Wz ?_|refine SW.st (ao hw rfl gA) rfl ?_|((first|refine SW.call rfl rfl (cN _ hw) ?_|refine SW.call rfl rfl (cF _ hw) ?_);intro v w1 ab hv;subst hv;replace hw:=Ext.trans hw ab;replace ar:=ar.ext ab;clear ab)|(refine SW.st (dc (k:=k) rfl rfl (by omega)) rfl ?_))
       all_goals try omega
       exact ae.again (k+1) ⟨rfl,rfl,rfl,rfl,trivial⟩ (by omega) ⟨by omega,hw,ar,fun i h h'=>by
        by_cases ei:i=k
        ·subst ei;exact .inr ⟨by rw [ea];exact lH,by rw [ea,← jc];exact decide_eq_true sQ⟩
        ·exact hI i h (by omega)⟩
      ·rw [FD (.inr sQ)];repeat' (first|refine Wz ?_|refine SW.st (ao hw rfl gA) rfl ?_|((first|refine SW.call rfl rfl (cN _ hw) ?_|refine SW.call rfl rfl (cF _ hw) ?_);intro v w1 ab hv;subst hv;replace hw:=Ext.trans hw ab;replace ar:=ar.ext ab;clear ab)|(refine SW.st (dc (k:=k) rfl rfl (by omega)) rfl ?_))
       all_goals try omega
       exact ae.aO rfl rfl ⟨_,rfl,hw,rfl⟩
   ·rw [ni ⟨EN,h4,h5,gd,fun i h=>hI i h (by omega)⟩];refine Wz ?_;exact ae.aO rfl rfl ⟨_,rfl,hw,rfl⟩
open Go.RowKit Go.Maps
structure lI (w:World) (P:Program) (k e:TypeId) (b:Nat) (keys:List Lit) : Prop where
 own:w.ownsMap (H:=Unit) P k (plainElem P e) b keys.length (setOf (.lit (.bool true)) keys)
 ok:∀ x∈keys,WideAt.IsKeyLit x
theorem lI.ext {w w':World} {P:Program} {k e:TypeId} {b:Nat} {keys:List Lit} (h:lI w P k e b keys) (hx:Ext w w') : lI w' P k e b keys:=⟨h.own.kept (row:=none) ⟨hx.os,hx.tape,hx.output,hx.size,fun i hi _=>hx.block i hi⟩ (by simp),h.ok⟩
theorem lI.grown {w w':World} {P:Program} {k e:TypeId} {b:Nat} {keys:List Lit} {row:Option Nat} (h:lI w P k e b keys) (hg:w.grownBy w' row) (cG:some b≠row) : lI w' P k e b keys:=⟨h.own.kept hg cG,h.ok⟩
theorem lI.lt {w:World} {P:Program} {k e:TypeId} {b:Nat} {keys:List Lit} (h:lI w P k e b keys) : b<w.heap.size:=h.own.lt
theorem sY (u z:DataW Unit) (k:Lit) : ∀ (acc:List Lit) (m:DataW Unit),IsMap m→(∀ x∈acc,WideAt.IsKeyLit x)→(acc.foldl (fun m x=>m.put x u) m).atKey k z=if acc.any (fun x=>x.sameKey k) then u else m.atKey k z
 | [],m,_,_=>by simp
 | x::r,m,hm,h=>by
   rw [List.foldl_cons,sY u z k r (m.put x u) (hm.put x u) (fun y hy=>h y (by simp [hy])),List.any_cons];by_cases e:k=x
   ·subst e;rw [atKey_put_same hm (h k (by simp)),WideAt.sameKey_self (h k (by simp))];simp
   ·rw [atKey_put_other e,sameKey_ne (fun e'=>e e'.symm)];simp
theorem Br (k:Lit) (acc:List Lit) (h:∀ x∈acc,WideAt.IsKeyLit x) : (setOf (.lit (.bool true)) acc:DataW Unit).atKey k (.lit (.bool false)) = .lit (.bool (acc.any fun x=>x.sameKey k)):=by
 rw [setOf,sY _ _ k acc _ isMap_empty h];cases acc.any fun x=>x.sameKey k<;>rfl
section
variable {P:Program} {n:Nat} {ops:Array Oper} {Q:Exit→Act→World→Prop} {rest:List Oper} {L:Env} {w:World} {T:TypeId} {pos:String} {af:Array Edge}
theorem SW.makeMap {d:Nat} {t:TypeId} (k e:TypeId) (hn:Nat.blt d n=true) (h:∀ b w',Ext w w'→w.heap.size≤b→lI w' P k e b []→SW P n ops (.fF Q) rest ((d,.map (some b))::L) w') :
 SW P n ops (.fF Q) (⟨some d,.makeMap t none,T,pos,af,none⟩::rest) L w :=
 ⟨fun a ha=>by
  simp only [swp,wpList,Region.wanted,if_true];refine .inl ?_;unfold Oper.wp
  have:(execOp a.eval ⟨some d,.makeMap t none,T,pos,af,none⟩).run P w = .ok (.value (.map (some w.heap.size))) (w.alloc (.map #[] 0)):=by
   simp [execOp,run_makeMap]
  rw [this,Oper.upon_value];exact (h _ _ (Ext.alloc w _) (Nat.le_refl _) ⟨World.ownsMap_made w P k _,fun x hx=>by simp at hx⟩).out _ (ha.put hn _)⟩
theorem sZ {d:Option Nat} {g:Option (Nat×Bool)} {t k e:TypeId} {b:Nat} {keys:List Lit} {m x:Operand} {key:Value} {kl:Lit} (hB:lI w P k e b keys) (K:Keyed P k) (ht:P.underlying t=some (.map k e)) (he:P.underlying e=some .bool) (hz:∀ w,(zeroValue e).run P w = .ok (.bool false) w)
 (hm:cd L m=some (.map (some b))) (hx:cd L x=some key) (mc:Go.keyOf P k key=some kl) : St P ⟨d,.lookup t m x false,T,pos,af,g⟩ L w (.bool (keys.any fun y=>y.sameKey kl)) :=
 ⟨fun n a ha w' NO=>by
  have qZ:=hB.ext NO;obtain ⟨v,ps,yP,hv⟩:=qZ.own.lookup K ht (hz w') (plainElem_bool he false) mc;rw [Br _ _ hB.ok] at hv
  have Ie:v = .bool (keys.any fun y=>y.sameKey kl):=by
   unfold plainElem at hv;rw [he] at hv;cases v<;>simp at hv
   rw [hv.1]
  subst Ie;simp [execOp,ha.eval hm,ha.eval hx,yP]⟩
theorem SW.zm {t k e:TypeId} {b:Nat} {keys:List Lit} {m x y:Operand} {key:Value} {kl:Lit} (hB:lI w P k e b keys) (K:Keyed P k) (ht:P.underlying t=some (.map k e)) (he:P.underlying e=some .bool) (jz:keys.length<maxLen)
 (hm:cd L m=some (.map (some b))) (hx:cd L x=some key) (hy:cd L y=some (.bool true)) (mc:Go.keyOf P k key=some kl) (hk:WideAt.IsKeyLit kl)
 (h:∀ w',lI w' P k e b (keys++[kl])→w.grownBy w' (some b)→SW P n ops (.fF Q) rest L w') : SW P n ops (.fF Q) (⟨none,.mapUpdate t m x y,T,pos,af,none⟩::rest) L w :=
 ⟨fun a ha=>by
  obtain ⟨w',yP,r1,r2⟩:=hB.own.update K ht jz mc (plainElem_bool he true);simp only [swp,wpList,Region.wanted,if_true];refine .inl ?_;unfold Oper.wp
  have:(execOp a.eval ⟨none,.mapUpdate t m x y,T,pos,af,none⟩).run P w = .ok .skip w':=by
   simp [execOp,ha.eval hm,ha.eval hx,ha.eval hy,yP]
  rw [this,Oper.upon_skip];refine (h w' ⟨?_,fun z hz => ?_⟩ r2).out _ ha
  ·rw [setOf_snoc];simpa using r1
  ·rcases List.mem_append.1 hz with hz|hz
   ·exact hB.ok z hz
   ·simp at hz;subst hz;exact hk⟩
end
open Go.RowKit Go.Maps
def nR (s:ByteArray) : Lit := .string s.data.toList
def rl (z:Int) : Lit := .int .i64 z
def ul (l:List ByteArray) (n:ByteArray) : Bool:=l.any fun m=>decide (m=n)
theorem kn {l:List ByteArray} {n:ByteArray}:ul l n=true↔n∈l:=by
 unfold ul;rw [List.any_eq_true];exact ⟨fun ⟨m,h,e⟩=>of_decide_eq_true e ▸ h,fun h=>⟨n,h,decide_eq_true rfl⟩⟩
theorem Dj (l:List ByteArray) (n:ByteArray) : ((l.map nR).any fun y=>y.sameKey (nR n))=ul l n:=by
 rw [Bool.eq_iff_iff,List.any_eq_true,kn];constructor
 ·rintro ⟨y,hy,hs⟩
  obtain ⟨m,hm,rfl⟩:=List.mem_map.1 hy;have:=WideAt.sameKey_eq hs
  simp only [nR,Lit.string.injEq] at this
  have e:m=n:=by
   cases m;cases n
   simpa using this
  rw [← e];exact hm
 ·intro h;exact ⟨nR n,List.mem_map.2 ⟨n,h,rfl⟩,WideAt.sameKey_self trivial⟩
theorem Dk (l:List Int) (n:Int) : ((l.map rl).any fun y=>y.sameKey (rl n))=decide (n∈l):=by
 rw [Bool.eq_iff_iff,List.any_eq_true,decide_eq_true_iff];constructor
 ·rintro ⟨y,hy,hs⟩
  obtain ⟨m,hm,rfl⟩:=List.mem_map.1 hy;have:=WideAt.sameKey_eq hs
  simp only [rl,Lit.int.injEq] at this;rw [← this.2];exact hm
 ·intro h;exact ⟨rl n,List.mem_map.2 ⟨n,h,rfl⟩,WideAt.sameKey_self trivial⟩
theorem vY:Tryz.prog.underlying 9=some .string:=by kernel_rfl
theorem vZ:Tryz.prog.underlying 3=some (.int .i64):=by kernel_rfl
theorem nk:Tryz.prog.underlying 4=some .bool:=by kernel_rfl
theorem s8:Tryz.prog.underlying 79=some (.map 9 4):=by kernel_rfl
theorem xN:Tryz.prog.underlying 80=some (.map 3 4):=by kernel_rfl
theorem uZ (w:World) : (zeroValue 4).run Tryz.prog w = .ok (.bool false) w:=by
 obtain ⟨inf,hi,hz,hs,uC⟩:=dT Tryz.prog 4 (z := .bool false) (sz:=1) (bytes:=1);simp [zeroValue,typeInfo,hi,hz]
theorem qo (s:ByteArray) (h:s.size≤140737488351232) : Go.keyOf Tryz.prog 9 (.string s)=some (nR s):=by
 simp [Go.keyOf,mapKey,nR];unfold maxLen;omega
theorem keyOf_int {z:Int} (h : -9223372036854775808≤z∧z≤9223372036854775807) : Go.keyOf Tryz.prog 3 (.int .i64 z)=some (rl z):=keyOf_int_mk vZ (by
 have h1:IntKind.i64.min = -9223372036854775808:=by decide
 have h2:IntKind.i64.max=9223372036854775807:=by decide
 simp [Lit.wf,h1,h2];omega)
section
variable {L:Env} {w:World} {d:Option Nat} {T:TypeId} {pos:String} {af:Array Edge} {g:Option (Nat×Bool)}
theorem py {b:Nat} {l:List ByteArray} {n:ByteArray} {m x:Operand} (hB:lI w Tryz.prog 9 4 b (l.map nR)) (hn:n.size≤140737488351232) (hm:cd L m=some (.map (some b))) (hx:cd L x=some (.string n)) :
 St Tryz.prog ⟨d,.lookup 79 m x false,T,pos,af,g⟩ L w (.bool (ul l n)) :=
 (sZ hB (string_keyed vY) s8 nk uZ hm hx (qo n hn)).eq (by rw [Dj])
theorem xO {b:Nat} {l:List Int} {n:Int} {m x:Operand} (hB:lI w Tryz.prog 3 4 b (l.map rl)) (hn : -9223372036854775808≤n∧n≤9223372036854775807) (hm:cd L m=some (.map (some b))) (hx:cd L x=some (.int .i64 n)) :
 St Tryz.prog ⟨d,.lookup 80 m x false,T,pos,af,g⟩ L w (.bool (decide (n∈l))) :=
 (sZ hB (int_keyed vZ) xN nk uZ hm hx (keyOf_int hn)).eq (by rw [Dk])
end
theorem Bs (d:de) (b6:Nat) (q:de) (w:World) (h6:aI w b6 46 (df q)) :
 bt Tryz.prog 37 ([.agg (df d).toArray]++[.pointer (some ⟨b6,0,none⟩)]) w fun v _=>v = .bool (decide (d.bh=q.bh)):=by
 refine aM Tryz.func37 rfl Tryz.ntmps37 rfl ?_;refine CW.seq (CW.region (SW.box rfl rfl fun b1 w1 hw ik aB => ?_));replace h6:=h6.ext hw;refine Wz ?_;exact ae.aO rfl rfl ⟨_,rfl,hw,rfl⟩
structure aE.gL (s:aE) : Prop where
 small:s.small
 cx:∀ z∈s.Heap.aN,mq z
 aR:∀ c∈s.aa,∀ x∈c.ah,-9223372036854775808≤x.At∧x.At≤9223372036854775807
 names:∀ c∈s.aa,∀ n∈c.Names,n.size≤140737488351232
theorem s9 (cs:List bg) (h:∀ c∈cs,c.small) : (cc cs).length≤cs.length*8796093022208:=by
 induction cs with
 | nil=>simp [cc]
 | cons c r ih =>
   have h1:=(h c (by simp)).names;have h2:=ih (fun x hx=>h x (by simp [hx]));simp only [cc,List.flatMap_cons,List.length_append,List.length_cons] at h2 ⊢;omega
theorem ta (cs:List bg) (h:∀ c∈cs,c.small) : (cK cs).length≤cs.length*8796093022208:=by
 induction cs with
 | nil=>simp [cK]
 | cons c r ih =>
   have h1:=(h c (by simp)).aR;have h2:=ih (fun x hx=>h x (by simp [hx]));simp only [cK,List.flatMap_cons,List.length_append,List.length_cons,List.length_map] at h2 ⊢;omega
set_option maxHeartbeats 4000000 in
theorem zn (r:dP) (s:aE) (w:World) (hr:rG w r s) (hf:s.gL) :
 bt Tryz.prog 23 [.agg (aT r).toArray] w fun v _=>v = .int .i64 (if kj s then 0 else 8):=by
 refine aM Tryz.func23 rfl Tryz.ntmps23 rfl ?_;refine CW.seq (CW.region (SW.box rfl rfl fun b1 w1 hw ik aB => ?_));obtain ⟨cs,hc⟩:=hr.dW;obtain ⟨z1,z2⟩:=hc.len;have wl:=hr.words.len;have hs:=hf.small;have m3:=hs.dW;have Ge:=hc.cap;obtain ⟨q,hq⟩ : ∃ q,ja s.Heap=q:=⟨_,rfl⟩
 have c1:∀ w',Ext w w'→bt Tryz.prog 34 [.agg (bm r.Heap).toArray] w' fun v _=>v = .int .i64 (if q then 0 else 8):=fun w' hx=>by
  have:=sP r.Heap s.Heap w' (hr.heap.ext hx) hs.heap hf.cx
  rwa [hq] at this
 by_cases tc:s.Words.length=4096∧q=true∧s.aa.length≤20
 ·obtain ⟨g1,g2,g3⟩:=tc;subst g2;have hH:=fP.1 hq;simp only [if_true] at c1;repeat' (first|refine Wz ?_|refine SW.st (aY rfl rfl ((iq aB))) rfl ?_|(refine SW.call rfl rfl (c1 _ hw) ?_;intro v w1 ab hv;subst hv;replace hw:=Ext.trans hw ab;replace aB:=aB.ext ab;clear ab))
  all_goals try omega
  clear c1;refine SW.makeMap 9 4 rfl fun bN w3 j2 IM hN => ?_
  have Ml:w.heap.size≤bN:=Nat.le_trans hw.size IM
  have Eh:=aB.lt;(replace hw:=Ext.trans hw j2;replace aB:=aB.ext j2);refine SW.makeMap 3 4 rfl fun bS w4 iS IN hS => ?_
  have NP:w.heap.size≤bS:=Nat.le_trans hw.size IN
  have Ei:=hN.lt;(replace hw:=Ext.trans hw iS;replace aB:=aB.ext iS;replace hN:=hN.ext iS);have IP:b1≠bN:=by omega
  have KQ:b1≠bS:=by omega
  have GP:bN≠bS:=by omega
  clear Eh Ei IM IN;refine Wz ?_
  refine CW.loop (fun k:Nat=>[(1,.pointer (some ⟨b1,0,none⟩)),(3,.map (some bN)),(4,.map (some bS)),(30,.slice r.aa.A r.aa.n r.aa.c),(31,.int .i64 (r.aa.n:Int)),(32,.int .i64 (k:Int))])
   (fun k w'=>k≤r.aa.n∧Ext w w'∧aI w' b1 30 (aT r)∧lI w' Tryz.prog 9 4 bN ((cc (s.aa.take k)).map nR)∧lI w' Tryz.prog 3 4 bS ((cK (s.aa.take k)).map rl) ∧ ∀ (i:Nat) (h:i<s.aa.length),i<k→rM s i h) (fun k=>r.aa.n-k) 0
   ⟨rfl,rfl,rfl,rfl,rfl,rfl,trivial⟩ ⟨by omega,hw,aB,hN,hS,fun i h h'=>by omega⟩ ?_
  clear hw aB hN hS;rintro k w' ⟨hk,hw,aB,hN,hS,hI⟩
  have hA:=hc.row.base;by_cases cb:k<r.aa.n
  ·have ua:k<cs.length:=by omega
   have di:k<s.aa.length:=by omega
   have gu:=hc.each.get k ua di;have sm:=hs.each _ (List.getElem_mem di);have fS:=hf.aR _ (List.getElem_mem di);have fN:=hf.names _ (List.getElem_mem di);have q1:=gu.names.len;have q2:=gu.aR.len;have q4:=sm.names;have q5:=sm.aR;have bn:=s9 (s.aa.take k) (fun c hc=>hs.each c (List.mem_of_mem_take hc));have bs:=ta (s.aa.take k) (fun c hc=>hs.each c (List.mem_of_mem_take hc));rw [List.length_take] at bn bs;repeat' (first|refine Wz ?_|refine SW.st (aH hw rfl rfl ((hc.row.all cb))) rfl ?_)
   have KR:=hN.lt;have KS:=hS.lt;refine SW.alloc rfl fun b6 w1 ab fb ax => ?_
   refine Wz ?_;refine SW.ap ax rfl rfl rfl rfl (sB _) fun w2 gH hg => ?_
   have aj:=ab.own fb hg;have dr:w.heap.size≤b6:=Nat.le_trans hw.size fb
   replace hw:=Ext.trans hw aj;replace aB:=aB.ext aj;replace hN:=hN.ext aj;replace hS:=hS.ext aj;replace ax:=gH;clear gH ab hg aj;have IQ:bN≠b6:=by omega
   have NQ:bS≠b6:=by omega
   clear KR KS;obtain ⟨qc,GQ⟩ : ∃ qc,jl s s.aa[k]=qc:=⟨_,rfl⟩
   have cC:∀ w',Ext w w'→bt Tryz.prog 35 [.agg (aT r).toArray,.agg (df cs[k]).toArray] w' fun v _=>v = .bool qc:=fun w' hx=>by
    have:=Bp r s cs[k] s.aa[k] w' (hr.ext hx) (gu.ext hx) hs sm hH fS
    rwa [GQ] at this
   cases qc
   ·have hF:kj s=false:=km fun hm=>by
     have:=ni (hm.each k di).may
     rw [GQ] at this;cases this
    rw [hF];repeat' (first|refine Wz ?_|refine SW.skip rfl rfl rfl rfl ?_|(refine SW.call rfl rfl (cC _ hw) ?_;intro v w1 ab hv;subst hv;replace hw:=Ext.trans hw ab;replace aB:=aB.ext ab;replace ax:=ax.ext ab;replace hN:=hN.ext ab;replace hS:=hS.ext ab;clear ab))
    exact ae.aO rfl rfl ⟨_,rfl,hw,rfl⟩
   ·have JO:=sW.1 GQ;obtain ⟨y,hy⟩ : ∃ y,((cs.take k).any fun d=>decide (d.bh=cs[k].bh))=y:=⟨_,rfl⟩
    have cD:∀ w',Ext w w'→aI w' b6 46 (df cs[k])→bt Tryz.prog 36 [.slice r.aa.A k r.aa.c,.func (.func 37) #[] [.pointer (some ⟨b6,0,none⟩)].toArray] w' fun v _=>v = .bool y:=fun w' hx h6=>by
     have:=nd r.aa.A k r.aa.c (cs.take k) w' ((hc.row.ext hx).pre (show k≤r.aa.n by omega)) 37 [.pointer (some ⟨b6,0,none⟩)] (fun d=>decide (d.bh=cs[k].bh)) (fun d => .agg (df d).toArray) (fun x=>rfl)
      (fun x _ w1 kH=>Bs x b6 cs[k] w1 (h6.ext kH)) (by omega)
     rwa [hy] at this
    cases y
    ·have uB:∀ (j:Nat) (hj:j<k),(s.aa[j]'(by omega)).bh≠s.aa[k].bh:=fun j hj e=>by
      rw [List.any_eq_false] at hy;refine hy cs[j] (List.mem_take_iff_getElem.2 ⟨j,by omega,rfl⟩) ?_;have e1:=(hc.each.get j (by omega) (by omega)).size;have e2:=gu.size;exact decide_eq_true (by rw [e1,e2];exact e)
     repeat' (first|refine Wz ?_|refine SW.want rfl rfl ?_|((first|refine SW.call rfl rfl (cC _ hw) ?_|refine SW.call rfl rfl (cD _ hw ax) ?_);intro v w1 ab hv;subst hv;replace hw:=Ext.trans hw ab;replace aB:=aB.ext ab;replace ax:=ax.ext ab;replace hN:=hN.ext ab;replace hS:=hS.ext ab;clear ab)|(refine SW.st (dc (k:=k) rfl rfl (by omega)) rfl ?_)|(refine SW.st (iJ (vs:=[.pointer (some ⟨b6,0,none⟩)]) rfl) rfl ?_))
     obtain ⟨acc,v5⟩ : ∃ acc,cc (s.aa.take k)=acc:=⟨_,rfl⟩;rw [v5] at hN bn;obtain ⟨oJ,v7⟩ : ∃ oJ,cK (s.aa.take k)=oJ:=⟨_,rfl⟩;rw [v7] at hS bs;clear cC cD
     refine CW.loop (fun j:Nat=>[(1,.pointer (some ⟨b1,0,none⟩)),(3,.map (some bN)),(4,.map (some bS)),(6,.pointer (some ⟨b6,0,none⟩)),(30,.slice r.aa.A r.aa.n r.aa.c),(31,.int .i64 (r.aa.n:Int)),(32,.int .i64 (k:Int)),(50,.slice cs[k].Names.A cs[k].Names.n cs[k].Names.c),(51,.int .i64 (cs[k].Names.n:Int)),(52,.int .i64 (j:Int))])
      (fun j w'=>j≤cs[k].Names.n∧Ext w w'∧aI w' b1 30 (aT r)∧aI w' b6 46 (df cs[k])∧lI w' Tryz.prog 9 4 bN ((acc++s.aa[k].Names.take j).map nR)∧lI w' Tryz.prog 3 4 bS (oJ.map rl) ∧
        ∀ (i:Nat) (h:i<s.aa[k].Names.length),i<j→gE s.aa[k].Names[i]=true∧s.aa[k].Names[i]∉acc++s.aa[k].Names.take i∧(0<i→fY (s.aa[k].Names[i-1]'(by omega)) s.aa[k].Names[i]=true)) (fun j=>cs[k].Names.n-j) 0
      ⟨rfl,rfl,rfl,rfl,rfl,rfl,rfl,rfl,rfl,rfl,trivial⟩ ⟨by omega,hw,aB,ax,by simpa using hN,hS,fun i h h'=>by omega⟩ ?_
     clear hw aB hN hS ax;rintro j w' ⟨hj,hw,aB,ax,hN,hS,hJ⟩
     have rN:=gu.names.base;by_cases jo:j<cs[k].Names.n
     ·have kW:j<s.aa[k].Names.length:=by omega
      obtain ⟨nm,r6⟩ : ∃ nm,s.aa[k].Names[j]=nm:=⟨_,rfl⟩;have gN:=gu.names.one jo (u := .string nm) (by rw [← r6];rfl);have EP:nm.size≤140737488351232:=by rw [← r6];exact fN _ (List.getElem_mem kW)
      obtain ⟨qn,GR⟩ : ∃ qn,gE nm=qn:=⟨_,rfl⟩;obtain ⟨qh,GS⟩ : ∃ qh,ul (acc++s.aa[k].Names.take j) nm=qh:=⟨_,rfl⟩
      have EQ:∀ w',bt Tryz.prog 38 [.string nm] w' fun v _=>v = .bool qn:=fun w'=>by
       have:=Dg nm w' EP
       rwa [GR] at this
      have qP:(qn=false∨qh=true ∨ ∃ uJ : 0<j,fY (s.aa[k].Names[j-1]'(by omega)) nm=false)→kj s=false:=fun h=>km fun hm=>by
       have h1:=(hm.each k di).names.each j kW;rw [r6,v5] at h1;rcases h with h|h|⟨uJ,h⟩
       ·rw [GR,h] at h1;exact absurd h1.1 (by simp)
       ·exact h1.2.1 (kn.1 (by rw [GS,h]))
       ·rw [h1.2.2 uJ] at h;cases h
      cases qn
      ·rw [qP (.inl rfl)];repeat' (first|refine Wz ?_|refine SW.skip rfl rfl rfl rfl ?_|refine SW.st (ao hw rfl gN) rfl ?_|(refine SW.call rfl rfl (EQ _) ?_;intro v w1 ab hv;subst hv;replace hw:=Ext.trans hw ab;replace aB:=aB.ext ab;replace ax:=ax.ext ab;replace hN:=hN.ext ab;replace hS:=hS.ext ab;clear ab))
       exact ae.aO rfl rfl ⟨_,rfl,hw,rfl⟩
      ·cases qh
       ·have go:∀ (td : 0<j→fY (s.aa[k].Names[j-1]'(by omega)) nm=true) (i:Nat) (h:i<s.aa[k].Names.length),i<j+1→gE s.aa[k].Names[i]=true∧s.aa[k].Names[i]∉acc++s.aa[k].Names.take i∧(0<i→fY (s.aa[k].Names[i-1]'(by omega)) s.aa[k].Names[i]=true):=fun td i h h'=>by
         by_cases ei:i=j
         ·subst ei;rw [r6];exact ⟨GR,(fun hm=>by rw [kn.2 hm] at GS;cases GS),td⟩
         ·exact hJ i h (by omega)
        rcases Nat.eq_zero_or_pos j with uJ|uJ
        ·repeat' (first|refine Wz ?_|refine SW.want rfl rfl ?_|refine SW.st (ao hw rfl gN) rfl ?_|(refine SW.call rfl rfl (EQ _) ?_;intro v w1 ab hv;subst hv;replace hw:=Ext.trans hw ab;replace aB:=aB.ext ab;replace ax:=ax.ext ab;replace hN:=hN.ext ab;replace hS:=hS.ext ab;clear ab)|(refine SW.st ((py hN EP rfl rfl).eq (congrArg Value.bool GS)) rfl ?_))
         all_goals try omega
         refine SW.zm hN (string_keyed vY) s8 nk (by simp only [List.length_map,List.length_append,List.length_take];unfold maxLen;omega) rfl rfl rfl (qo nm EP) trivial fun w5 IR hg => ?_
         replace hw:=hw.own Ml hg;replace aB:=aB.grown hg (by simpa using IP);replace ax:=ax.grown hg (by simpa using IQ.symm);replace hS:=hS.grown hg (by simpa using GP.symm);have eN:(acc++s.aa[k].Names.take j).map nR++[nR nm]=(acc++s.aa[k].Names.take (j+1)).map nR:=by rw [List.take_succ_eq_append_getElem kW,r6];simp
         rw [eN] at IR;refine Wz ?_;exact ae.again (j+1) ⟨rfl,rfl,rfl,rfl,rfl,rfl,rfl,rfl,rfl,rfl,trivial⟩ (by omega) ⟨by omega,hw,aB,ax,IR,hS,go (fun h=>by omega)⟩
        ·obtain ⟨ql,FE⟩ : ∃ ql,(!fY (s.aa[k].Names[j-1]'(by omega)) nm)=ql:=⟨_,rfl⟩;have gP:=gu.names.one (show j-1<cs[k].Names.n by omega) (u := .string (s.aa[k].Names[j-1]'(by omega))) rfl;cases ql
         ·repeat' (first|refine Wz ?_|refine SW.want rfl rfl ?_|refine SW.st (aZ (j-1) rfl rfl (by assumption) (by omega) (by omega)) rfl ?_|refine SW.st (ao hw rfl gN) rfl ?_|refine SW.st (ao hw rfl gP) rfl ?_|(refine SW.call rfl rfl (EQ _) ?_;intro v w1 ab hv;subst hv;replace hw:=Ext.trans hw ab;replace aB:=aB.ext ab;replace ax:=ax.ext ab;replace hN:=hN.ext ab;replace hS:=hS.ext ab;clear ab)|(refine SW.st ((py hN EP rfl rfl).eq (congrArg Value.bool GS)) rfl ?_)|(refine SW.st ((xE rfl rfl).eq (congrArg Value.bool FE)) rfl ?_))
          all_goals try omega
          refine SW.zm hN (string_keyed vY) s8 nk (by simp only [List.length_map,List.length_append,List.length_take];unfold maxLen;omega) rfl rfl rfl (qo nm EP) trivial fun w5 IR hg => ?_
          replace hw:=hw.own Ml hg;replace aB:=aB.grown hg (by simpa using IP);replace ax:=ax.grown hg (by simpa using IQ.symm);replace hS:=hS.grown hg (by simpa using GP.symm);have eN:(acc++s.aa[k].Names.take j).map nR++[nR nm]=(acc++s.aa[k].Names.take (j+1)).map nR:=by rw [List.take_succ_eq_append_getElem kW,r6];simp
          rw [eN] at IR;refine Wz ?_;exact ae.again (j+1) ⟨rfl,rfl,rfl,rfl,rfl,rfl,rfl,rfl,rfl,rfl,trivial⟩ (by omega) ⟨by omega,hw,aB,ax,IR,hS,go (fun _=>by simpa using FE)⟩
         ·rw [qP (.inr (.inr ⟨uJ,by simpa using FE⟩))];repeat' (first|refine Wz ?_|refine SW.want rfl rfl ?_|refine SW.st (aZ (j-1) rfl rfl (by assumption) (by omega) (by omega)) rfl ?_|refine SW.st (ao hw rfl gN) rfl ?_|refine SW.st (ao hw rfl gP) rfl ?_|(refine SW.call rfl rfl (EQ _) ?_;intro v w1 ab hv;subst hv;replace hw:=Ext.trans hw ab;replace aB:=aB.ext ab;replace ax:=ax.ext ab;replace hN:=hN.ext ab;replace hS:=hS.ext ab;clear ab)|(refine SW.st ((py hN EP rfl rfl).eq (congrArg Value.bool GS)) rfl ?_)|(refine SW.st ((xE rfl rfl).eq (congrArg Value.bool FE)) rfl ?_))
          all_goals try omega
          exact ae.aO rfl rfl ⟨_,rfl,hw,rfl⟩
       ·rw [qP (.inr (.inl rfl))];repeat' (first|refine Wz ?_|refine SW.want rfl rfl ?_|refine SW.st (ao hw rfl gN) rfl ?_|(refine SW.call rfl rfl (EQ _) ?_;intro v w1 ab hv;subst hv;replace hw:=Ext.trans hw ab;replace aB:=aB.ext ab;replace ax:=ax.ext ab;replace hN:=hN.ext ab;replace hS:=hS.ext ab;clear ab)|(refine SW.st ((py hN EP rfl rfl).eq (congrArg Value.bool GS)) rfl ?_))
        exact ae.aO rfl rfl ⟨_,rfl,hw,rfl⟩
     ·have GU:vW (cc (s.aa.take k)) s.aa[k].Names:=⟨fun i h=>by rw [v5];exact hJ i h (by omega)⟩
      rw [List.take_of_length_le (by omega)] at hN;refine Wz ?_;clear hJ hj jo rN
      refine CW.loop (fun j:Nat=>[(1,.pointer (some ⟨b1,0,none⟩)),(3,.map (some bN)),(4,.map (some bS)),(30,.slice r.aa.A r.aa.n r.aa.c),(31,.int .i64 (r.aa.n:Int)),(32,.int .i64 (k:Int)),(83,.slice cs[k].ah.A cs[k].ah.n cs[k].ah.c),(84,.int .i64 (cs[k].ah.n:Int)),(85,.int .i64 (j:Int))])
       (fun j w'=>j≤cs[k].ah.n∧Ext w w'∧aI w' b1 30 (aT r)∧lI w' Tryz.prog 9 4 bN ((acc++s.aa[k].Names).map nR)∧lI w' Tryz.prog 3 4 bS ((oJ++(s.aa[k].ah.take j).map fun x=>x.At).map rl) ∧
         ∀ (i:Nat) (h:i<s.aa[k].ah.length),i<j→s.aa[k].ah[i].At∉oJ++(s.aa[k].ah.take i).map fun x=>x.At) (fun j=>cs[k].ah.n-j) 0
       ⟨rfl,rfl,rfl,rfl,rfl,rfl,rfl,rfl,rfl,trivial⟩ ⟨by omega,hw,aB,hN,by simpa using hS,fun i h h'=>by omega⟩ ?_
      clear hw aB hN hS ax;rintro j w' ⟨hj,hw,aB,hN,hS,hJ⟩
      have rN:=gu.aR.base;by_cases jo:j<cs[k].ah.n
      ·have kW:j<s.aa[k].ah.length:=by omega
       obtain ⟨x,hx⟩ : ∃ x,s.aa[k].ah[j]=x:=⟨_,rfl⟩;have gS:=gu.aR.all jo;rw [hx] at gS;have fx : -9223372036854775808≤x.At∧x.At≤9223372036854775807:=by rw [← hx];exact fS _ (List.getElem_mem kW)
       repeat' (first|refine Wz ?_|refine SW.st (aH hw rfl rfl gS) rfl ?_)
       refine SW.alloc rfl fun nE w1 ab uT aW => ?_
       skip;refine SW.ap aW rfl rfl rfl rfl (fO.one (enc:=a8) _) fun w2 iQ hg => ?_
       have aj:=ab.own uT hg;have xB:w.heap.size≤nE:=Nat.le_trans hw.size uT
       replace hw:=Ext.trans hw aj;replace aB:=aB.ext aj;replace hN:=hN.ext aj;replace hS:=hS.ext aj;replace aW:=iQ;clear iQ ab hg aj;by_cases lH:x.At∈oJ++(s.aa[k].ah.take j).map fun x=>x.At
       ·have KT:=decide_eq_true lH
        rw [km fun hm=>by
         have:=(hm.each k di).aR j kW
         rw [hx,v7] at this;exact this lH]
        repeat' (first|refine Wz ?_|(refine SW.st ((xO hS fx rfl rfl).eq (congrArg Value.bool KT)) rfl ?_))
        exact ae.aO rfl rfl ⟨_,rfl,hw,rfl⟩
       ·have KT:=decide_eq_false lH;repeat' (first|refine Wz ?_|(refine SW.st ((xO hS fx rfl rfl).eq (congrArg Value.bool KT)) rfl ?_))
        refine SW.zm hS (int_keyed vZ) xN nk (by simp only [List.length_map,List.length_append,List.length_take];unfold maxLen;omega) rfl rfl rfl (keyOf_int fx) trivial fun w5 mG hg => ?_
        replace hw:=hw.own NP hg;replace aB:=aB.grown hg (by simpa using KQ);replace hN:=hN.grown hg (by simpa using GP);have eN:(oJ++(s.aa[k].ah.take j).map fun x=>x.At).map rl++[rl x.At]=(oJ++(s.aa[k].ah.take (j+1)).map fun x=>x.At).map rl:=by rw [List.take_succ_eq_append_getElem kW,hx];simp
        rw [eN] at mG;refine Wz ?_
        exact ae.again (j+1) ⟨rfl,rfl,rfl,rfl,rfl,rfl,rfl,rfl,rfl,trivial⟩ (by omega) ⟨by omega,hw,aB,hN,mG,fun i h h'=>by
         by_cases ei:i=j
         ·subst ei;rw [hx];exact lH
         ·exact hJ i h (by omega)⟩
      ·rw [List.take_of_length_le (by omega),← v7,← jO s.aa k di] at hS;rw [← v5,← jN s.aa k di] at hN;refine Wz ?_
       exact ae.again (k+1) ⟨rfl,rfl,rfl,rfl,rfl,rfl,trivial⟩ (by omega) ⟨by omega,hw,aB,hN,hS,fun i h h'=>by
        by_cases ei:i=k
        ·subst ei;exact ⟨JO,uB,GU,fun i h=>by rw [v7];exact hJ i h (by omega)⟩
        ·exact hI i h (by omega)⟩
    ·have hF:kj s=false:=km fun hm=>by
      obtain ⟨d,hd,he⟩:=List.any_eq_true.1 hy;obtain ⟨j,hj,rfl⟩:=List.mem_take_iff_getElem.1 hd;have e1:=(hc.each.get j (by omega) (by omega)).size;have e2:=gu.size;have:=of_decide_eq_true he
      exact (hm.each k di).size j (by omega) (by rw [← e1,← e2];exact this)
     rw [hF];repeat' (first|refine Wz ?_|refine SW.want rfl rfl ?_|((first|refine SW.call rfl rfl (cC _ hw) ?_|refine SW.call rfl rfl (cD _ hw ax) ?_);intro v w1 ab hv;subst hv;replace hw:=Ext.trans hw ab;replace aB:=aB.ext ab;replace ax:=ax.ext ab;replace hN:=hN.ext ab;replace hS:=hS.ext ab;clear ab)|(refine SW.st (dc (k:=k) rfl rfl (by omega)) rfl ?_)|(refine SW.st (iJ (vs:=[.pointer (some ⟨b6,0,none⟩)]) rfl) rfl ?_))
     exact ae.aO rfl rfl ⟨_,rfl,hw,rfl⟩
  ·rw [ze ⟨g1,hH,g3,fun i h=>hI i h (by omega)⟩];refine Wz ?_;exact ae.aO rfl rfl ⟨_,rfl,hw,rfl⟩
 ·have hF:kj s=false:=km fun hm=>tc ⟨hm.words,by rw [← hq];exact o8 hm.heap,hm.most⟩
  rw [hF];cases q
  all_goals simp only [if_true,Bool.false_eq_true,if_false] at c1
  all_goals simp only [true_and,Bool.false_eq_true,false_and,and_false,not_false_eq_true] at tc
  ·rcases (show s.Words.length≠4096∨s.Words.length=4096 by omega) with g|g
   all_goals
    repeat' (first|refine Wz ?_|refine SW.st (aY rfl rfl ((iq aB))) rfl ?_|(refine SW.call rfl rfl (c1 _ hw) ?_;intro v w1 ab hv;subst hv;replace hw:=Ext.trans hw ab;replace aB:=aB.ext ab;clear ab))
    all_goals try omega
    exact ae.aO rfl rfl ⟨_,rfl,hw,rfl⟩
  ·rcases (show s.Words.length≠4096∨(s.Words.length=4096∧20<s.aa.length) by omega) with g|g
   all_goals
    repeat' (first|refine Wz ?_|refine SW.st (aY rfl rfl ((iq aB))) rfl ?_|(refine SW.call rfl rfl (c1 _ hw) ?_;intro v w1 ab hv;subst hv;replace hw:=Ext.trans hw ab;replace aB:=aB.ext ab;clear ab))
    all_goals try omega
    exact ae.aO rfl rfl ⟨_,rfl,hw,rfl⟩
open Go.RowKit
structure NR (h:Heap) : Prop where
 small:h.small
 qI:∀ z∈h.aN,mq z
def bQ (s:aE) (i:Nat) (p:Heap×bg) : aE:=⟨s.Words,p.1,s.aa.set i p.2⟩
structure NS (c:bg) : Prop where
 small:c.small
 at_:∀ x∈c.ah,-9223372036854775808≤x.At∧x.At≤9223372036854775807
theorem aE.gL.iT {s:aE} (h:s.gL) : NR s.Heap:=⟨h.small.heap,h.cx⟩
theorem aE.gL.KU {s:aE} (h:s.gL) {i:Nat} (hi:i<s.aa.length) : NS s.aa[i]:=⟨h.small.each _ (List.getElem_mem hi),h.aR _ (List.getElem_mem hi)⟩
theorem te:∀ (n:Nat) (l:List Nat),l.Nodup→(∀ x∈l,x<n)→l.length≤n
 | 0,l,_,h=>by
   cases l with
   | nil=>simp
   | cons a r=>exact absurd (h a (by simp)) (by omega)
 | n+1,l,hd,h=>by
   have h1:=te n (l.erase n) (hd.erase n) (fun x hx=>by
    have:=hd.mem_erase_iff.1 hx
    have:=h x this.2
    omega)
   have h2:l.length≤(l.erase n).length+1:=by
    rw [List.length_erase];split<;>omega
   omega
theorem u5 {α β:Type} {f : α → β} {l:List α} (hd:l.Nodup) (hf:∀ x∈l,∀ y∈l,f x=f y→x=y) : (l.map f).Nodup:=by
 induction l with
 | nil=>simp
 | cons a r ih =>
   rw [List.nodup_cons] at hd;rw [List.map_cons,List.nodup_cons];refine ⟨fun h => ?_,ih hd.2 fun x hx y hy=>hf x (by simp [hx]) y (by simp [hy])⟩;obtain ⟨b,hb,e⟩:=List.mem_map.1 h;have:=hf b (by simp [hb]) a (by simp) e
   subst this;exact hd.1 hb
theorem ko {α:Type} {acc l:List α} (h:acc.Nodup) : ∀ (j:Nat),(∀ (k:Nat) (hk:k<l.length),k<j→l[k]∉acc++l.take k)→(acc++l.take j).Nodup
 | 0,_=>by simpa using h
 | j+1,hi=>by
   have ih:=ko (l:=l) h j (fun k hk hj=>hi k hk (by omega));by_cases hj:j<l.length
   ·rw [List.take_succ_eq_append_getElem hj,← List.append_assoc,List.nodup_append];refine ⟨ih,by simp,fun a ha b hb e => ?_⟩;simp at hb;subst hb e;exact hi j hj (by omega) ha
   ·rw [List.take_of_length_le (by omega)];rwa [List.take_of_length_le (by omega)] at ih
def v8 (b:UInt8) : Nat:=if b.toNat<97 then b.toNat-47 else b.toNat-86
def ms:List UInt8→Nat
 | []=>0
 | b::r=>v8 b+37*ms r
theorem pA {b:UInt8} (h:lG b=false) : 1≤v8 b∧v8 b≤36:=by
 unfold lG at h;simp at h;unfold v8;split<;>omega
theorem Dl {b c:UInt8} (h:lG b=false) (k:lG c=false) (e:v8 b=v8 c) : b=c:=by
 unfold lG at h k;simp at h k;unfold v8 at e;apply UInt8.toNat_inj.1;split at e<;>split at e<;>omega
theorem xP:∀ (l:List UInt8),(∀ b∈l,lG b=false)→ms l<37 ^ l.length
 | [],_=>by simp [ms]
 | b::r,h=>by
   have h1:=pA (h b (by simp));have h2:=xP r (fun x hx=>h x (by simp [hx]));simp only [ms,List.length_cons,Nat.pow_succ];omega
theorem u6:∀ (l m:List UInt8),(∀ b∈l,lG b=false)→(∀ b∈m,lG b=false)→ms l=ms m→l=m
 | [],[],_,_,_=>rfl
 | [],c::t,_,k,e=>by
   have:=pA (k c (by simp))
   simp only [ms] at e;omega
 | b::r,[],h,_,e=>by
   have:=pA (h b (by simp))
   simp only [ms] at e;omega
 | b::r,c::t,h,k,e=>by
   have h1:=pA (h b (by simp));have h2:=pA (k c (by simp));simp only [ms] at e;have e1:v8 b=v8 c:=by omega
   have e2:ms r=ms t:=by omega
   rw [Dl (h b (by simp)) (k c (by simp)) e1,u6 r t (fun x hx=>h x (by simp [hx])) (fun x hx=>k x (by simp [hx])) e2]
theorem qp {s:ByteArray}:gE s=true↔(1≤s.size∧s.size≤8) ∧ ∀ b∈s.data.toList,lG b=false:=by
 unfold gE;rw [Bool.and_eq_true,decide_eq_true_iff,Bool.not_eq_true',List.any_eq_false];constructor
 ·rintro ⟨h,k⟩
  exact ⟨by omega,fun b hb=>by simpa using k b hb⟩
 ·rintro ⟨h,k⟩
  exact ⟨by omega,fun b hb=>by simp [k b hb]⟩
theorem xQ {l:List ByteArray} (hd:l.Nodup) (hv:∀ n∈l,gE n=true) : l.length≤3512479453921:=by
 have h:=te 3512479453921 (l.map fun n=>ms n.data.toList) (u5 hd fun x hx y hy e => ?_) (fun z hz => ?_)
 ·simpa using h
 ·have h1:=u6 _ _ (qp.1 (hv x hx)).2 (qp.1 (hv y hy)).2 e;cases x;cases y
  simpa using h1
 ·obtain ⟨n,hn,rfl⟩:=List.mem_map.1 hz;obtain ⟨h1,h2⟩:=qp.1 (hv n hn);have h3:=xP _ h2;have h4:n.data.toList.length≤8:=by rw [Array.length_toList];exact h1.2
  have h5 : 37 ^ n.data.toList.length≤37 ^ 8:=Nat.pow_le_pow_right (by omega) h4
  exact Nat.lt_of_lt_of_le h3 h5
theorem Bt {l:List Int} (hd:l.Nodup) (hv:∀ n∈l,0≤n∧n≤255) : l.length≤256:=by
 have h:=te 256 (l.map Int.toNat) (u5 hd fun x hx y hy e => ?_) (fun z hz => ?_)
 ·simpa using h
 ·have:=hv x hx
  have:=hv y hy
  omega
 ·obtain ⟨n,hn,rfl⟩:=List.mem_map.1 hz;have:=hv n hn
  omega
theorem ER {l:List Block} (h:mT l) {a:Int} (hf:cf l a=true) : 0≤a∧a≤255:=by
 obtain ⟨hm,e⟩:=pq hf;have:=(h.each _ hm).2.1
 omega
theorem mf.at_ {s:aE} {c:bg} {i:Nat} {h:i<c.ah.length} (hm:mf s c i h) (hH:bE s.Heap) (ho : 0≤c.Order) : cf s.Heap.Live c.ah[i].At=true∧0≤c.ah[i].At∧c.ah[i].At≤255:=by
 have hf:cf s.Heap.Live c.ah[i].At=true:=by
  cases hf:cf s.Heap.Live c.ah[i].At
  ·have:=hm.live
   rw [vV hf] at this;omega
  ·rfl
 exact ⟨hf,ER hH.live hf⟩
theorem jF.Mm {s:aE} {c:bg} (hm:jF s c) (hH:bE s.Heap) : ∀ x∈c.ah,0≤x.At∧x.At≤255:=fun x hx=>by
 obtain ⟨i,hi,rfl⟩:=List.getElem_of_mem hx;exact ((hm.aR i hi).at_ hH (gm hm.lay).2.1.1).2
theorem xR {s:aE} (hH:bE s.Heap) : ∀ (k:Nat),k≤s.aa.length→(∀ (i:Nat) (h:i<s.aa.length),i<k→rM s i h) →
 ((cc (s.aa.take k)).Nodup ∧ ∀ n∈cc (s.aa.take k),gE n=true)∧((cK (s.aa.take k)).Nodup ∧ ∀ a∈cK (s.aa.take k),0≤a∧a≤255)
 | 0,_,_=>by simp [cc,cK]
 | k+1,hk,hI=>by
   obtain ⟨⟨h1,h2⟩,h3,h4⟩:=xR hH k (by omega) (fun i h h'=>hI i h (by omega));have hc:=hI k (by omega) (by omega);rw [jN _ _ (by omega),jO _ _ (by omega)];refine ⟨⟨?_,fun n hn => ?_⟩,?_,fun a ha => ?_⟩
   ·have:=ko (l:=(s.aa[k]'(by omega)).Names) h1 (s.aa[k]'(by omega)).Names.length (fun i hi _=>(hc.names.each i hi).2.1)
    rwa [List.take_length] at this
   ·rcases List.mem_append.1 hn with hn|hn
    ·exact h2 n hn
    ·obtain ⟨i,hi,rfl⟩:=List.getElem_of_mem hn;exact (hc.names.each i hi).1
   ·have:=ko (l:=(s.aa[k]'(by omega)).ah.map fun x=>x.At) h3 (s.aa[k]'(by omega)).ah.length (fun i hi _=>by
     have:=hc.aR i (by simpa using hi)
     simpa [List.map_take] using this)
    rwa [← List.map_take,List.take_length] at this
   ·rcases List.mem_append.1 ha with ha|ha
    ·exact h4 a ha
    ·obtain ⟨x,hx,rfl⟩:=List.mem_map.1 ha;exact hc.may.Mm hH x hx
def iX (n:ByteArray) (c:bg) : Bool:=ul c.Names n
def aE.zero:aE:=⟨[],.zero,[]⟩
theorem Heap.kq:Heap.zero.small:=by constructor<;>simp [Heap.zero]
theorem aE.kq:aE.zero.small:=⟨by simp [aE.zero],Heap.kq,by simp [aE.zero],by simp [aE.zero]⟩
open Go.RowKit
theorem mg {α:Type} {p : α → Bool} {l:List α} (h:l.any p=true) : ∃ (i:Nat) (hi:i<l.length),p l[i]=true∧(∀ (j:Nat) (hj:j<l.length),j<i→p l[j]=false)∧idxOf p l=(i:Int):=by
 have h1:l.findIdx p<l.length:=List.findIdx_lt_length_of_exists (by simpa using h)
 exact ⟨l.findIdx p,h1,List.findIdx_getElem (w:=h1),fun j hj iY=>by simpa using List.not_of_lt_findIdx iY,by unfold idxOf;rw [if_pos h]⟩
noncomputable def k9 (s:aE) (n:ByteArray) (cpu:Int) : Int:=if kj s then (if s.aa.any (iX n) then (if 0≤cpu∧cpu<s.Heap.bX then 0 else 1) else 4) else 8
theorem zo {s:aE} {n:ByteArray} {cpu:Int} (h:kj s=false) : k9 s n cpu=8:=by simp [k9,h]
theorem zp {s:aE} {n:ByteArray} {cpu:Int} (h:kj s=true) (h1:s.aa.any (iX n)=false) : k9 s n cpu=4:=by simp only [k9,h,h1,if_true,Bool.false_eq_true,if_false]
theorem zq {s:aE} {n:ByteArray} {cpu:Int} (h:kj s=true) (h1:s.aa.any (iX n)=true) (h2 : ¬ (0≤cpu∧cpu<s.Heap.bX)) : k9 s n cpu=1:=by simp only [k9,h,h1,if_true,if_neg h2]
theorem Dm {s:aE} {n:ByteArray} {cpu:Int} (h:kj s=true) (h1:s.aa.any (iX n)=true) (h2 : 0≤cpu∧cpu<s.Heap.bX) : k9 s n cpu=0:=by simp only [k9,h,h1,if_true,if_pos h2]
theorem ES {s:aE} {n:ByteArray} {cpu:Int} (h:k9 s n cpu=0) : kj s=true∧s.aa.any (iX n)=true∧0≤cpu∧cpu<s.Heap.bX:=by
 unfold k9 at h;split at h
 ·rename_i h0;split at h
  ·rename_i h1;split at h
   ·rename_i h2;exact ⟨h0,h1,h2⟩
   ·omega
  ·omega
 ·omega
def GV (lo:Nat) (s:aE) (n:ByteArray) (cpu:Int) (v:Value) (w:World) : Prop :=
 (k9 s n cpu≠0∧v = .tuple #[.agg (aT .zero).toArray,.int .i64 0,.int .i64 (k9 s n cpu)]) ∨
 (k9 s n cpu=0 ∧ ∃ q cs,v = .tuple #[.agg (aT q).toArray,.int .i64 (idxOf (iX n) s.aa),.int .i64 0]∧SX w lo q s cs∧SI w lo q s cs)
theorem nF {s:aE} {i:Nat} {p:Heap×bg}:(bQ s i p).aa.length=s.aa.length:=List.length_set
theorem oB {s:aE} {i:Nat} (hi:i<s.aa.length) : bQ s i (s.Heap,s.aa[i])=s:=by
 cases s
 simp [bQ]
section
variable {w w':World} {lo:Nat} {r:dP} {s:aE} {cs:List de} {i:Nat} {p:Heap×bg}
theorem nD.rows (h:SX w lo r (bQ s i p) cs) : cs.length=s.aa.length∧r.aa.n=s.aa.length:=by
 have h1:=h.row.len;have h2:=h.each.len;rw [nF] at h2;omega
theorem nD.get (h:SX w lo r (bQ s i p) cs) (hi:i<cs.length) (ol:i<s.aa.length) : mE w lo cs[i] p.2:=by
 have:=h.each.get i hi (by rw [nF];exact ol)
 simpa [bQ] using this
theorem nD.ET {n':Nat} {l':List Slab} (h:SX w lo r (bQ s i p) cs) (hi:i<cs.length) (ol:i<s.aa.length) (hO:Own w' lo 48 3 a8 cs[i].ah.A n' cs[i].ah.c l') (hg:w.grownBy w' (aQ cs[i].ah.A cs[i].ah.c)) :
 nD w' lo r (bQ s i (p.1,⟨p.2.Names,p.2.bh,p.2.cj,p.2.Order,l',p.2.au⟩)) cs (cs.set i ⟨cs[i].Names,cs[i].bh,cs[i].cj,cs[i].Order,⟨cs[i].ah.A,n',cs[i].ah.c⟩,cs[i].au⟩):=by
 have:=h.aR hi (by rw [nF];exact ol) hO hg
 simpa [bQ] using this
theorem nD.tf {n' c':Nat} {A':Option Addr} {l':List Slab} (h:SX w lo r (bQ s i p) cs) (fG:lo≤w.heap.size) (hi:i<cs.length) (ol:i<s.aa.length) (hx:Ext w w') (hO:Own w' w.heap.size 48 3 a8 A' n' c' l') :
 nD w' lo r (bQ s i (p.1,⟨p.2.Names,p.2.bh,p.2.cj,p.2.Order,l',p.2.au⟩)) cs (cs.set i ⟨cs[i].Names,cs[i].bh,cs[i].cj,cs[i].Order,⟨A',n',c'⟩,cs[i].au⟩):=by
 have:=h.C5 fG hi (by rw [nF];exact ol) hx hO
 simpa [bQ] using this
end
open Go.RowKit
structure SJ (G:Nat→Prop) (w:World) (lo:Nat) (r:dP) (s:aE) (cs:List de) : Prop where
 ints:∃ m1 m2,lo≤m1∧fi w m1 m2 r.Heap s.Heap ∧ ∀ g,((∃ u∈cs,aQ u.au.A u.au.c=some g)∨G g)→(g<m1∨m2≤g)∧aQ r.Words.A r.Words.c≠some g
 sep:∀ u∈cs,∀ g,G g→aQ u.au.A u.au.c≠some g
section
variable {w w':World} {lo t:Nat} {r:dP} {s:aE} {cs:List de} {i:Nat} {p:Heap×bg} {G:Nat→Prop}
theorem SJ.rows {cs':List de} {s':aE} (h:SJ G w lo r s cs) (hh:s'.Heap=s.Heap) (hc:∀ u∈cs',∃ v∈cs,aQ u.au.A u.au.c=aQ v.au.A v.au.c) : SJ G w lo r s' cs':=by
 obtain ⟨m1,m2,h1,h2,h3⟩:=h.ints;refine ⟨⟨m1,m2,h1,by rw [hh];exact h2,fun g e=>h3 g ?_⟩,fun u hu => ?_⟩
 ·rcases e with ⟨u,hu,e⟩|e
  ·obtain ⟨v,hv,e2⟩:=hc u hu;exact .inl ⟨v,hv,e2 ▸ e⟩
  ·exact .inr e
 ·obtain ⟨v,hv,e2⟩:=hc u hu;rw [e2];exact h.sep v hv
theorem SI.sj (h:SI w lo r s cs) : SJ (fun _=>False) w lo r s cs:=by
 obtain ⟨m1,m2,h1,h2,h3,h4,h5⟩:=h.ints;refine ⟨⟨m1,m2,h1,h4,fun g e => ?_⟩,fun u hu g e=>e.elim⟩;rcases e with ⟨u,hu,e⟩|e
 ·obtain ⟨j,hj,rfl⟩:=List.getElem_of_mem hu;have:=(h5.get j hj (by rw [← h5.len];exact hj)).ba.aL g e
  exact ⟨.inr this,fun e2=>by have:=h3 g e2;omega⟩
 ·exact e.elim
theorem SJ.ext (h:SJ G w lo r s cs) (hx:Ext w w') : SJ G w' lo r s cs:=by
 obtain ⟨m1,m2,h1,h2,h3⟩:=h.ints;exact ⟨⟨m1,m2,h1,h2.ext hx,h3⟩,h.sep⟩
theorem SJ.ay (h:SJ G w lo r s cs) (hG:nY w w' t) (cG:(Nat.beq t 3 || (Nat.beq t 77 || (Nat.beq t 59 || Nat.beq t 62)))=false) : SJ G w' lo r s cs:=by
 obtain ⟨m1,m2,h1,h2,h3⟩:=h.ints;exact ⟨⟨m1,m2,h1,h2.ay hG cG,h3⟩,h.sep⟩
theorem SJ.ne (h:SJ G w lo r s cs) {g:Nat} (hg:G g) (hi:i<cs.length) : some g≠aQ cs[i].au.A cs[i].au.c:=fun e=>h.sep _ (List.getElem_mem hi) g hg e.symm
theorem nD.act {l':List Int} (h:SX w lo r (bQ s i p) cs) (hJ:SJ G w lo r (bQ s i p) cs) (hi:i<cs.length) (ol:i<s.aa.length) (hO:Own w' lo 3 1 bf cs[i].au.A cs[i].au.n cs[i].au.c l') (hg:w.grownBy w' (aQ cs[i].au.A cs[i].au.c)) :
 SX w' lo r (bQ s i (p.1,⟨p.2.Names,p.2.bh,p.2.cj,p.2.Order,p.2.ah,l'⟩)) cs∧SJ G w' lo r (bQ s i (p.1,⟨p.2.Names,p.2.bh,p.2.cj,p.2.Order,p.2.ah,l'⟩)) cs:=by
 obtain ⟨m1,m2,h1,h2,h3⟩:=hJ.ints;have hc:=h.get hi ol;have hG:=hc.ba.gr hg;have IS:cs.set i cs[i]=cs:=List.set_getElem_self hi
 have hh:fi w' m1 m2 r.Heap p.1:=by
  cases e:aQ cs[i].au.A cs[i].au.c with
  | none=>rw [e] at hg;exact h2.ay (⟨none,hg,fun k hk=>by cases hk⟩ : nY w w' 30) rfl
  | some g=>rw [e] at hg;exact h2.Al hg hG (h3 g (.inl ⟨_,List.getElem_mem hi,e⟩)).1
 have IT:Own w' lo 3 1 bf r.Words.A r.Words.n r.Words.c s.Words:=h.words.apart hg fun g e e2=>(h3 g (.inl ⟨_,List.getElem_mem hi,e2⟩)).2 e
 refine ⟨⟨IT,hh.own.low h1,h.row.ay hG rfl,?_,h.pair⟩,⟨⟨m1,m2,h1,hh,h3⟩,hJ.sep⟩⟩;have:=eH.setAt (x:=cs[i]) (R':=mE w' lo) h.each (i:=i) (y:=⟨p.2.Names,p.2.bh,p.2.cj,p.2.Order,p.2.ah,l'⟩) ⟨hc.size,hc.fk,hc.order,hc.names.ay hG rfl,hc.aR.ay hG rfl,hO⟩ fun j h1 h2 iY ho=>⟨ho.size,ho.fk,ho.order,ho.names.ay hG rfl,ho.aR.ay hG rfl,ho.ba.grown hg (qj (.inl (lF h.pair hi h1 iY).ba))⟩
 rw [IS] at this;simpa [bQ] using this
theorem nD.fresh {X:fR} {l':List Int} {H:eI} {h':Heap} {m:Nat} (h:SX w lo r (bQ s i p) cs) (fG:lo≤m) (hm:∀ u∈cs,∀ g,aQ u.au.A u.au.c=some g→g<m) (Mn:∀ g,G g→g<m ∧ ∀ u∈cs,aQ u.au.A u.au.c≠some g) (hX:Own w m 3 1 bf X.A X.n X.c l') (hH:iU w m H h') :
 SX w lo ⟨X,H,r.aa⟩ (bQ ⟨l',s.Heap,s.aa⟩ i (h',p.2)) cs∧SJ G w lo ⟨X,H,r.aa⟩ (bQ ⟨l',s.Heap,s.aa⟩ i (h',p.2)) cs:=by
 have key:∀ g,((∃ u∈cs,aQ u.au.A u.au.c=some g)∨G g)→g<m:=fun g e=>by
  rcases e with ⟨u,hu,e⟩|e
  ·exact hm u hu g e
  ·exact (Mn g e).1
 refine ⟨⟨hX.low fG,hH.low fG,h.row,h.each,h.pair⟩,⟨m,w.heap.size,fG,hH.kO,fun g e=>⟨.inl (key g e),fun e2 => ?_⟩⟩,fun u hu g e=>(Mn g e).2 u hu⟩;have:=key g e
 have:=hX.aL g e2
 omega
theorem nD.nG {n' c':Nat} {A':Option Addr} {l':List Slab} (h:SX w lo r (bQ s i p) cs) (hi:i<cs.length) (ol:i<s.aa.length) (hO:Own w' lo 48 3 a8 A' n' c' l') (hg:w.grownBy w' (aQ cs[i].ah.A cs[i].ah.c)) (kV:∀ k,aQ A' c'=some k→aQ cs[i].ah.A cs[i].ah.c=some k∨w.heap.size≤k) :
 nD w' lo r (bQ s i (p.1,⟨p.2.Names,p.2.bh,p.2.cj,p.2.Order,l',p.2.au⟩)) cs (cs.set i ⟨cs[i].Names,cs[i].bh,cs[i].cj,cs[i].Order,⟨A',n',c'⟩,cs[i].au⟩):=by
 have hc:=h.get hi ol;have hG:=hc.aR.gr hg;refine ⟨h.words.ay hG rfl,h.heap.ay hG rfl,h.row.ay hG rfl,?_,?_⟩
 ·have:=eH.setAt (R':=mE w' lo) (i:=i) (x:=⟨cs[i].Names,cs[i].bh,cs[i].cj,cs[i].Order,⟨A',n',c'⟩,cs[i].au⟩) (y:=⟨p.2.Names,p.2.bh,p.2.cj,p.2.Order,l',p.2.au⟩) h.each ⟨hc.size,hc.fk,hc.order,hc.names.ay hG rfl,hO,hc.ba.ay hG rfl⟩ fun j h1 h2 iY ho=>⟨ho.size,ho.fk,ho.order,ho.names.ay hG rfl,ho.aR.grown hg (qj (.inl (lF h.pair hi h1 iY).aR)),ho.ba.ay hG rfl⟩
  simpa [bQ] using this
 ·refine sN h.pair fun j hj iY => ?_
  have hp:=lF h.pair hi hj iY;have c8:=(h.each.get j hj (by rw [← h.each.len];exact hj)).aR.lt_size
  have ha:apart ⟨A',n',c'⟩ cs[j].ah:=fun k e e2=>by
   rcases kV k e with e3|e3
   ·exact hp.aR k e3 e2
   ·have:=c8 k e2;omega
  exact ⟨⟨hp.names,ha,hp.ba⟩,⟨dX hp.names,dX ha,dX hp.ba⟩⟩
theorem nD.v9 (h:SX w lo r s cs) : ∀ u∈cs,∀ g,aQ u.au.A u.au.c=some g→g<w.heap.size:=fun u hu g e=>by
 obtain ⟨j,hj,rfl⟩:=List.getElem_of_mem hu;exact (h.each.get j hj (by rw [← h.each.len];exact hj)).ba.lt_size g e
end
end Go.Proofs.YtjimadiidbkohaaGreatDoor
