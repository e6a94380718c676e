/-
  Texts of the claim KmemFrees, part 12: what its theorem leans on.
-/
import Derived.Test.YtbidkghlpijecaaGreatDoorPackKmemFrees9
import Derived.Test.YtbidkghlpijecaaGreatDoorPackKmemFrees2
set_option linter.unusedVariables false
set_option linter.unusedSimpArgs false
namespace Go.Proofs.YtbidkghlpijecaaGreatDoor
open Go.RowKit
theorem lm (r:eu) (l:List Block) (a:Int) (w:World) (hl:Sl w 3 aE r.Live.A r.Live.n l) (hu:l.Pairwise fun x y=>x.At<y.At) (hn:r.Live.n≤1000000000000000000) :
 a9 Tryz.prog 123 [.agg (bl r).toArray,.int .i64 a] w fun v _=>v = .int .i64 (r6 l a):=by
 refine aC Tryz.func123 rfl Tryz.ntmps123 rfl ?_;refine CW.seq (CW.region (SW.box rfl rfl fun b2 w1 hw ff ax => ?_));have lz:=hl.len;refine Wz ?_
 refine CW.loop (fun k:Nat=>[(1,.int .i64 a),(2,.pointer (some ⟨b2,0,none⟩)),(5,.int .i64 (k:Int))]) (fun k w'=>k≤r.Live.n∧Ext w w'∧aU w' b2 41 (bl r) ∧ ∀ (i:Nat) (h:i<l.length),i<k→l[i].At≠a) (fun k=>r.Live.n-k) 0
  ⟨rfl,rfl,rfl,trivial⟩ ⟨by omega,hw,ax,fun i h h'=>by omega⟩ ?_
 clear hw ax;rintro k w' ⟨hk,hw,ax,hI⟩
 have hA:=hl.base;by_cases cc:k<r.Live.n
 ·have cG:k<l.length:=by omega
  have g0:=hl.fE cc (j:=0) (u := .int .i64 l[k].At) rfl;have g1:=hl.fE cc (j:=1) (u := .int .i64 l[k].Order) rfl;by_cases hx:l[k].At=a
  ·obtain ⟨e1,e2⟩:=pu hu cG hx;have e3:=r7 e2 (by omega);simp only [e1] at e3;rw [e3];repeat' (first|refine Wz ?_|refine SW.st (ag hw rfl g0) rfl ?_|refine SW.st (ag hw rfl g1) rfl ?_)
   exact ae.aF rfl rfl ⟨_,rfl,hw,rfl⟩
  ·repeat' (first|refine Wz ?_|refine SW.st (ag hw rfl g0) rfl ?_)
   exact ae.again (k+1) ⟨rfl,rfl,rfl,trivial⟩ (by omega) ⟨by omega,hw,ax,fun i h h'=>by
    by_cases e:i=k
    ·subst e;exact hx
    ·exact hI i h (by omega)⟩
 ·rw [nb (uP fun i h=>hI i h (by omega))];refine Wz ?_;exact ae.aF rfl rfl ⟨_,rfl,hw,rfl⟩
theorem pO (q:cr) (l:List Slab) (t:Int) (w:World) (hl:Sl w 3 bB q.ah.A q.ah.n l) (hn:q.ah.n≤1000000000000000000) :
 a9 Tryz.prog 200 [.agg (bR q).toArray,.int .i64 t] w fun v _=>v = .int .i64 (idxOf (uj t) l):=by
 refine aC Tryz.func200 rfl Tryz.ntmps200 rfl ?_;refine CW.seq (CW.region (SW.box rfl rfl fun b2 w1 hw ff ax => ?_));have lz:=hl.len;refine Wz ?_
 refine CW.loop (fun k:Nat=>[(1,.int .i64 t),(2,.pointer (some ⟨b2,0,none⟩)),(5,.int .i64 (k:Int))]) (fun k w'=>k≤q.ah.n∧Ext w w'∧aU w' b2 89 (bR q) ∧ ∀ (i:Nat) (h:i<l.length),i<k→uj t l[i]=false) (fun k=>q.ah.n-k) 0
  ⟨rfl,rfl,rfl,trivial⟩ ⟨by omega,hw,ax,fun i h h'=>by omega⟩ ?_
 clear hw ax;rintro k w' ⟨hk,hw,ax,hI⟩
 have hA:=hl.base;by_cases cc:k<q.ah.n
 ·have cG:k<l.length:=by omega
  have g0:=hl.fE cc (j:=0) (u := .int .i64 l[k].At) rfl;by_cases hx:l[k].At=t
  ·rw [fG cG (show uj t l[k]=true from decide_eq_true hx) (fun j hj h=>hI j hj h)];repeat' (first|refine Wz ?_|refine SW.st (ag hw rfl g0) rfl ?_)
   exact ae.aF rfl rfl ⟨_,rfl,hw,rfl⟩
  ·repeat' (first|refine Wz ?_|refine SW.st (ag hw rfl g0) rfl ?_)
   exact ae.again (k+1) ⟨rfl,rfl,rfl,trivial⟩ (by omega) ⟨by omega,hw,ax,fun i h h'=>by
    by_cases e:i=k
    ·subst e;exact decide_eq_false hx
    ·exact hI i h (by omega)⟩
 ·rw [(fC fun i h=>hI i h (by omega)).1];refine Wz ?_;exact ae.aF rfl rfl ⟨_,rfl,hw,rfl⟩
theorem gU.bool {lo:Nat} {ws:List Int} {size iM:Int} {x:Slab} {v:Value} {w:World} (h:gU lo ws size iM x v w) : ∃ A n c b,v = .tuple #[.slice A n c,.bool b]∧(b=true ↔ ∃ out,gD ws size iM x out):=by
 rcases h with ⟨out,A5,c5,hC,rfl,_,_⟩|⟨lc,rfl⟩
 ·exact ⟨_,_,_,true,rfl,by simp;exact ⟨out,hC⟩⟩
 ·exact ⟨_,_,_,false,rfl,by simp;exact lc⟩
set_option maxHeartbeats 4000000 in
theorem sk (r:dF) (s:ar) (q:cr) (c:aZ) (w:World) (hr:lg w r s) (hq:sD w q c) (hs:s.small) (fK:c.small) (hH:bq s.Heap) :
 a9 Tryz.prog 115 [.agg (aH r).toArray,.agg (bR q).toArray] w fun v _=>v = .bool (gp s c):=by
 refine aC Tryz.func115 rfl Tryz.ntmps115 rfl ?_;refine CW.seq (CW.region (SW.box rfl rfl fun b2 w1 hw ff ax => ?_));refine SW.box rfl rfl fun b3 w2 cg bM ap => ?_
 (replace hw:=Ext.trans hw cg;replace ax:=ax.ext cg);obtain ⟨o,n,e,hE⟩ : ∃ o n e,dk c.bp=(o,n,e):=⟨_,_,_,rfl⟩;have eS:=hq.size;have eP:=hq.iM;have eO:=hq.order;have n1:=hq.names.len;have n2:=hq.aL.len;have n3:=hq.bh.len;have m1:=fK.names;have m2:=fK.aL;have m3:=fK.bh;have eC:=hr.heap.dc;have wl:=hr.words.len;have m4:=hs.words;have lz:=hr.heap.live.len;have m5:=hs.heap.live;have cL:∀ w',a9 Tryz.prog 150 [.int .i64 q.bp] w' fun v _=>v = .tuple #[.int .i64 o,.int .i64 n,.int .i64 e]:=fun w'=>ra (rK q.bp w') (by rw [eS];exact hE)
 rcases (show ¬ (e=0∧c.Order=o∧c.dE=n∧0<c.Names.length∧(c.aG.length:Int)=s.Heap.bt)∨(e=0∧c.Order=o∧c.dE=n∧0<c.Names.length∧(c.aG.length:Int)=s.Heap.bt) by omega) with k6|⟨h1,h2,h3,h4,h5⟩
 ·have hF:gp s c=false:=dU fun hm=>k6 (by
   have:=hm.lay
   rw [hE] at this;simp only [Prod.mk.injEq] at this;exact ⟨this.2.2,this.1.symm,this.2.1.symm,hm.names,hm.bh⟩)
  rw [hF];rcases (show e≠0∨(e=0∧c.Order≠o)∨(e=0∧c.Order=o∧c.dE≠n)∨(e=0∧c.Order=o∧c.dE=n∧c.Names.length=0)∨(e=0∧c.Order=o∧c.dE=n∧0<c.Names.length∧(c.aG.length:Int)≠s.Heap.bt) by omega) with g|g|g|g|g
  all_goals
   repeat' (first|refine Wz ?_|(refine SW.call rfl rfl (cL _) ?_;intro v w1 ab hv;subst hv;replace hw:=Ext.trans hw ab;replace ax:=ax.ext ab;replace ap:=ap.ext ab;clear ab))
   all_goals try omega
   exact ae.aF rfl rfl ⟨_,rfl,hw,rfl⟩
 ·subst h1;have BI:dk c.bp=(c.Order,c.dE,0):=by rw [hE,h2,h3]
  obtain ⟨l1,l2,l3⟩:=gq hE;have dH:=kU hH.live
  have Ef:∀ b∈s.Heap.Live,0≤b.At∧b.At≤255:=fun b hb=>by
   obtain ⟨i,hi,rfl⟩:=List.getElem_of_mem hb;exact (hH.live.each i hi).2.1
  repeat' (first|refine Wz ?_|(refine SW.call rfl rfl (cL _) ?_;intro v w1 ab hv;subst hv;replace hw:=Ext.trans hw ab;replace ax:=ax.ext ab;replace ap:=ap.ext ab;clear ab))
  all_goals try omega
  clear cL
  refine CW.loop (fun k:Nat=>[(2,.pointer (some ⟨b2,0,none⟩)),(3,.pointer (some ⟨b3,0,none⟩)),(5,.int .i64 o),(8,.int .i64 (k:Int))])
   (fun k w'=>k≤q.ah.n∧Ext w w'∧aU w' b2 44 (aH r)∧aU w' b3 89 (bR q) ∧ ∀ (i:Nat) (h:i<c.ah.length),i<k→jR s c i h) (fun k=>q.ah.n-k) 0
   ⟨rfl,rfl,rfl,rfl,trivial⟩ ⟨by omega,hw,ax,ap,fun i h h'=>by omega⟩ ?_
  clear hw ax ap;rintro k w' ⟨hk,hw,ax,ap,hI⟩
  have hA:=hq.aL.base;by_cases cc:k<q.ah.n
  ·have cG:k<c.ah.length:=by omega
   have g0:=hq.aL.fE cc (j:=0) (u := .int .i64 c.ah[k].At) rfl;obtain ⟨z,hz⟩ : ∃ z,r6 s.Heap.Live c.ah[k].At=z:=⟨_,rfl⟩
   have cO:∀ w',Ext w w'→a9 Tryz.prog 123 [.agg (bl r.Heap).toArray,.int .i64 c.ah[k].At] w' fun v _=>v = .int .i64 z:=fun w' hx=>by
    have:=lm r.Heap s.Heap.Live c.ah[k].At w' (hr.heap.live.ext hx) dH (by omega)
    rwa [hz] at this
   by_cases tp:z=o
   ·have zU:bc s.Heap.Live c.ah[k].At=true:=by
     cases zU:bc s.Heap.Live c.ah[k].At
     ·rw [nb zU] at hz;omega
     ·rfl
    obtain ⟨uo,Gd⟩:=fZ zU
    have ht : 0≤c.ah[k].At∧c.ah[k].At≤255:=by
     have:=Ef _ (List.getElem_mem uo)
     omega
    have hS : 1≤q.bp∧q.bp≤64:=by omega
    have hP : 1≤q.dE∧q.dE≤64:=by omega
    by_cases zV : 0<k→(c.ah[k-1]'(by omega)).At<c.ah[k].At
    ·rcases Nat.eq_zero_or_pos k with lh|lh
     all_goals
      first
      | (have gP:=hq.aL.fE (show k-1<q.ah.n by omega) (j:=0) (u := .int .i64 (c.ah[k-1]'(by omega)).At) rfl
         have oM:=zV lh)
      | skip
     all_goals
      refine Wz ?_;(apply CW.aM mixed;(· kernel_rfl);rotate_left;intro w1 ab;replace hw:=Ext.trans hw ab;replace ax:=ax.ext ab;replace ap:=ap.ext ab;clear ab;rotate_right);repeat' (first|refine Wz ?_|refine SW.st (aV (k-1) rfl rfl (by assumption) (by omega) (by omega)) rfl ?_|refine SW.st (aS rfl rfl ((eK ax))) rfl ?_|refine SW.st (ag hw rfl g0) rfl ?_|refine SW.st (ag hw rfl gP) rfl ?_|refine SW.bf rfl rfl (fun w1 ab=>(cO _ (Ext.trans hw ab))) ?_|exact SW.br rfl)
      all_goals try omega
      refine CW.any 12 mixed (bZ (by kernel_rfl)) rfl fun w1 ab bd => ?_
      replace hw:=Ext.trans hw ab;replace ax:=ax.ext ab;replace ap:=ap.ext ab;clear ab;refine Wa ?_;refine SA.take 6 bd rfl (by kernel_rfl) (by kernel_rfl) rfl ?_;repeat ((show SW _ _ _ _ (⟨_,Op.load _ _,_,_,_,none⟩::_) _ _;refine SW.st (aA hw rfl rfl ((hq.aL.all cc))) rfl ?_))
      refine SW.aq ?_;refine SA.one 7 rfl (by kernel_rfl) rfl ?_;refine SW.call rfl rfl (pA r q c.ah[k] s.Words _ (hr.words.ext hw) (by omega) hS hP ht) fun v w5 ai yo => ?_
      (replace hw:=Ext.trans hw ai;replace ax:=ax.ext ai;replace ap:=ap.ext ai);rw [eS,eP] at yo;obtain ⟨A5,n5,c5,bb,rfl,hb⟩:=gU.bool yo;refine SW.nil (ae.sa ai ?_);refine Wa ?_;refine SA.done (by kernel_rfl) ?_;cases bb
      ·rw [dU fun hm=>by simpa using hb.2 (hm.aL k cG).chain];repeat' (first|refine Wz ?_|(refine CW.cU rfl ?_))
       exact ae.aF rfl rfl ⟨_,rfl,hw,rfl⟩
      ·repeat' (first|refine Wz ?_|(refine CW.cj rfl ?_))
       exact ae.again (k+1) ⟨rfl,rfl,rfl,rfl,trivial⟩ (by omega) ⟨by omega,hw,ax,ap,fun i h h'=>by
        by_cases ei:i=k
        ·subst ei;exact ⟨by omega,zV,hb.1 rfl⟩
        ·exact hI i h (by omega)⟩
    ·have lh : 0<k:=by
      rcases Nat.eq_zero_or_pos k with h|h
      ·exact absurd (fun h'=>by omega) zV
      ·exact h
     have qb : ¬ (c.ah[k-1]'(by omega)).At<c.ah[k].At:=fun h=>zV fun _=>h
     have gP:=hq.aL.fE (show k-1<q.ah.n by omega) (j:=0) (u := .int .i64 (c.ah[k-1]'(by omega)).At) rfl;rw [dU fun hm=>qb ((hm.aL k cG).next lh)];repeat' (first|refine Wz ?_|((apply CW.aM mixed;(· kernel_rfl);rotate_left;intro w1 ab;replace hw:=Ext.trans hw ab;replace ax:=ax.ext ab;replace ap:=ap.ext ab;clear ab;rotate_right))|refine SW.st (aV (k-1) rfl rfl (by assumption) (by omega) (by omega)) rfl ?_|refine SW.st (aS rfl rfl ((eK ax))) rfl ?_|refine SW.st (ag hw rfl g0) rfl ?_|refine SW.st (ag hw rfl gP) rfl ?_|refine SW.bf rfl rfl (fun w1 ab=>(cO _ (Ext.trans hw ab))) ?_|exact SW.br rfl)
     all_goals try omega
     exact ae.aF rfl rfl ⟨_,rfl,hw,rfl⟩
   ·rw [dU fun hm=>tp (by have:=(hm.aL k cG).live;omega)];repeat' (first|refine Wz ?_|((apply CW.aM mixed;(· kernel_rfl);rotate_left;intro w1 ab;replace hw:=Ext.trans hw ab;replace ax:=ax.ext ab;replace ap:=ap.ext ab;clear ab;rotate_right))|refine SW.st (aS rfl rfl ((eK ax))) rfl ?_|refine SW.st (ag hw rfl g0) rfl ?_|refine SW.bf rfl rfl (fun w1 ab=>(cO _ (Ext.trans hw ab))) ?_|exact SW.br rfl)
    all_goals try omega
    exact ae.aF rfl rfl ⟨_,rfl,hw,rfl⟩
  ·have gH:∀ (i:Nat) (h:i<c.ah.length),jR s c i h:=fun i h=>hI i h (by omega)
   refine Wz ?_;clear hI cc hk hA
   refine CW.loop (fun k:Nat=>[(3,.pointer (some ⟨b3,0,none⟩)),(11,.int .i64 (k:Int))])
    (fun k w'=>k≤q.aG.n∧Ext w w'∧aU w' b3 89 (bR q) ∧ ∀ (i:Nat) (h:i<c.aG.length),i<k→uQ c i h) (fun k=>q.aG.n-k) 0
    ⟨rfl,rfl,trivial⟩ ⟨by omega,hw,ap,fun i h h'=>by omega⟩ ?_
   clear hw ap ax;rintro k w' ⟨hk,hw,ap,hI⟩
   have hA:=hq.bh.base;by_cases cc:k<q.aG.n
   ·have cG:k<c.aG.length:=by omega
    obtain ⟨a,ea⟩ : ∃ a,c.aG[k]=a:=⟨_,rfl⟩;have gA:=hq.bh.one cc (u := .int .i64 a) (by rw [← ea];rfl);by_cases ha:a = -1
    ·repeat' (first|refine Wz ?_|refine SW.st (ag hw rfl gA) rfl ?_)
     exact ae.again (k+1) ⟨rfl,rfl,trivial⟩ (by omega) ⟨by omega,hw,ap,fun i h h'=>by
      by_cases ei:i=k
      ·subst ei;exact .inl (by omega)
      ·exact hI i h (by omega)⟩
    ·obtain ⟨z,hz⟩ : ∃ z,idxOf (uj a) c.ah=z:=⟨_,rfl⟩;have wI:=fr (uj a) c.ah;rw [hz] at wI
     have cF:∀ w',Ext w w'→a9 Tryz.prog 200 [.agg (bR q).toArray,.int .i64 a] w' fun v _=>v = .int .i64 z:=fun w' hx=>by
      have:=pO q c.ah a w' (hq.aL.ext hx) (by omega)
      rwa [hz] at this
     by_cases sG : 0≤z
     ·repeat' (first|refine Wz ?_|((apply CW.aM mixed;(· kernel_rfl);rotate_left;intro w1 ab;replace hw:=Ext.trans hw ab;replace ap:=ap.ext ab;clear ab;rotate_right))|refine SW.st (ag hw rfl gA) rfl ?_|refine SW.bf rfl rfl (fun w1 ab=>(cF _ (Ext.trans hw ab))) ?_|exact SW.br rfl)
      all_goals try omega
      refine CW.loop (fun j:Nat=>[(3,.pointer (some ⟨b3,0,none⟩)),(11,.int .i64 (k:Int)),(12,.int .i64 (j:Int))])
       (fun j w'=>j≤k∧Ext w w'∧aU w' b3 89 (bR q) ∧ ∀ (i:Nat) (h:i<c.aG.length),i<j→c.aG[i]≠a) (fun j=>k-j) 0
       ⟨rfl,rfl,rfl,trivial⟩ ⟨by omega,hw,ap,fun i h h'=>by omega⟩ ?_
      clear hw ap;rintro j w' ⟨hj,hw,ap,hJ⟩
      by_cases iB:j<k
      ·have gJ:=hq.bh.one (show j<q.aG.n by omega) (u := .int .i64 (c.aG[j]'(by omega))) rfl;by_cases hx:(c.aG[j]'(by omega))=a
       ·rw [dU fun hm=>by
         rcases hm.BH k cG with g|⟨g1,g2⟩
         ·omega
         ·rw [ea] at g1;exact g1 (List.mem_take_iff_getElem.2 ⟨j,by omega,hx⟩)]
        repeat' (first|refine Wz ?_|((apply CW.aM mixed;(· kernel_rfl);rotate_left;intro w1 ab;replace hw:=Ext.trans hw ab;replace ap:=ap.ext ab;clear ab;rotate_right))|refine SW.st (ag hw rfl gA) rfl ?_|refine SW.st (ag hw rfl gJ) rfl ?_|exact SW.br rfl)
        all_goals try omega
        exact ae.aF rfl rfl ⟨_,rfl,hw,rfl⟩
       ·repeat' (first|refine Wz ?_|((apply CW.aM mixed;(· kernel_rfl);rotate_left;intro w1 ab;replace hw:=Ext.trans hw ab;replace ap:=ap.ext ab;clear ab;rotate_right))|refine SW.st (ag hw rfl gA) rfl ?_|refine SW.st (ag hw rfl gJ) rfl ?_|exact SW.br rfl)
        all_goals try omega
        exact ae.again (j+1) ⟨rfl,rfl,rfl,trivial⟩ (by omega) ⟨by omega,hw,ap,fun i h h'=>by
         by_cases ei:i=j
         ·subst ei;exact hx
         ·exact hJ i h (by omega)⟩
      ·refine Wz ?_
       exact ae.again (k+1) ⟨rfl,rfl,trivial⟩ (by omega) ⟨by omega,hw,ap,fun i h h'=>by
        by_cases ei:i=k
        ·subst ei;refine .inr ⟨?_,by rw [ea,← wI];exact decide_eq_true sG⟩;rw [ea];intro hm;obtain ⟨i',oh,e'⟩:=List.mem_take_iff_getElem.1 hm;exact hJ i' (by omega) (by omega) e'
        ·exact hI i h (by omega)⟩
     ·rw [dU fun hm=>by
       rcases hm.BH k cG with g|⟨g1,g2⟩
       ·omega
       ·rw [ea] at g2;rw [g2] at wI;exact sG (of_decide_eq_true wI)]
      repeat' (first|refine Wz ?_|((apply CW.aM mixed;(· kernel_rfl);rotate_left;intro w1 ab;replace hw:=Ext.trans hw ab;replace ap:=ap.ext ab;clear ab;rotate_right))|refine SW.st (ag hw rfl gA) rfl ?_|refine SW.bf rfl rfl (fun w1 ab=>(cF _ (Ext.trans hw ab))) ?_|exact SW.br rfl)
      all_goals try omega
      exact ae.aF rfl rfl ⟨_,rfl,hw,rfl⟩
   ·rw [kw ⟨BI,h4,h5,gH,fun i h=>hI i h (by omega)⟩];refine Wz ?_;exact ae.aF rfl rfl ⟨_,rfl,hw,rfl⟩
end Go.Proofs.YtbidkghlpijecaaGreatDoor
