/-
  Texts of the claim KmemFrees, part 9: what its theorem leans on.
-/
import Derived.Test.YtbidkghlpijecaaGreatDoorPackKmemFrees8
import Derived.Test.YtbidkghlpijecaaGreatDoorPackKmemFrees2
import Derived.Test.YtbidkghlpijecaaGreatDoorPackKmemFrees1
import Derived.Maps.OwnSet
import Derived.Great.BuildSlice
import Derived.ArgAppend
set_option linter.unusedVariables false
set_option linter.unusedSimpArgs false
namespace Go.Proofs.YtbidkghlpijecaaGreatDoor
open Go.RowKit
theorem nD (x:Block) (a:Int) (w:World) : a9 Tryz.prog 180 ([.agg (aE x).toArray,.int .i64 a]++[]) w fun v _=>v = .int .i64 (IntKind.i64.wrap (x.At-a)):=by
 refine aC Tryz.func180 rfl Tryz.ntmps180 rfl ?_;refine CW.seq (CW.region (SW.box rfl rfl fun b1 w1 hw gI au => ?_));repeat' (first|refine Wz ?_|(refine SW.st (od rfl rfl) rfl ?_))
 exact ae.aF rfl rfl ⟨_,rfl,hw,rfl⟩
theorem tm (A:Option Addr) (n c:Nat) (l:List Block) (a:Int) (w:World) (hl:Sl w 3 aE A n l) (hu:l.Pairwise fun x y=>x.At<y.At) (hb:∀ b∈l,0≤b.At∧b.At≤255) (hn:n≤1000000000000000000) (ha : -9223372036854775808≤a∧a≤9223372036854775807) :
 a9 Tryz.prog 105 [.slice A n c,.int .i64 a,.func (.func 180) #[] #[]] w fun v _=>vH l a v:=by
 by_cases cy : -1000000≤a∧a≤1000000
 ·refine (fA _ _ _ _ a _ hl _ (fun x hx w' _=>by
   have:=nD x a w'
   have h:=hb x hx;rwa [gw (by omega) (by omega)] at this) hu hn).mono fun v w2 cg hv => ?_
  subst hv;exact ⟨fun h=>by rw [h],fun h=>⟨bF l a,by rw [h]⟩⟩
 ·have hf:bc l a=false:=by
   unfold bc;split
   ·rename_i h;have:=hb _ (List.getElem_mem h)
    exact decide_eq_false (by omega)
   ·rfl
  refine (kx _ _ _ _ a _ hl _ (fun x=>IntKind.i64.wrap (x.At-a)) (fun x hx w' _=>nD x a w') (fun x hx h0=>by
   have h:=hb x hx;have:=wrap_zero (by omega) (by omega) h0
   omega) hn).mono fun v w2 cg hv => ?_
  obtain ⟨i,rfl⟩:=hv;exact ⟨fun h=>absurd (hf.symm.trans h) (by simp),fun _=>⟨i,rfl⟩⟩
theorem wG (x:Slab) (b3:Nat) (t:Int) (w:World) (h3:aU w b3 3 [.int .i64 t]) :
 a9 Tryz.prog 231 ([.agg (bB x).toArray]++[.pointer (some ⟨b3,0,none⟩)]) w fun v _=>v = .bool (uj t x):=by
 refine aC Tryz.func231 rfl Tryz.ntmps231 rfl ?_;refine CW.seq (CW.region (SW.box rfl rfl fun b1 w1 hw gI au => ?_));replace h3:=h3.ext hw;have C6:=h3.cell (i:=0) (v := .int .i64 t) rfl;rw [add_zero] at C6;repeat' (first|refine Wz ?_|refine SW.st (az rfl C6) rfl ?_)
 exact ae.aF rfl rfl ⟨_,rfl,hw,rfl⟩
theorem yn (q:cr) (l:List Slab) (t:Int) (w:World) (hl:Sl w 3 bB q.ah.A q.ah.n l) (hn:q.ah.n≤9223372036854775807) :
 a9 Tryz.prog 181 [.agg (bR q).toArray,.int .i64 t] w fun v _=>v = .int .i64 (idxOf (uj t) l):=by
 refine aC Tryz.func181 rfl Tryz.ntmps181 rfl ?_;refine CW.seq (CW.region (SW.box rfl rfl fun b2 w1 hw ff ax => ?_));refine SW.CK rfl rfl rfl fun b3 w2 cg bM ap => ?_
 (replace hw:=Ext.trans hw cg;replace ax:=ax.ext cg);repeat' (first|refine Wz ?_|(refine SW.st (fT (vs:=[.pointer (some ⟨b3,0,none⟩)]) rfl) rfl ?_))
 refine SW.call rfl rfl (iW _ _ _ _ _ (hl.ext hw) _ [.pointer (some ⟨b3,0,none⟩)] (uj t) (fun x => .agg (bB x).toArray) (fun x=>rfl) (fun x _ w1 jG=>wG x b3 t w1 (ap.ext jG)) hn) fun v w4 gf hv => ?_
 subst hv;replace hw:=Ext.trans hw gf;refine Wz ?_;exact ae.aF rfl rfl ⟨_,rfl,hw,rfl⟩
theorem ra {x:Int} {w:World} {f:FuncId} {o n e:Int} (h:a9 Tryz.prog f [.int .i64 x] w fun v _=>v=gx x) (hE:dk x=(o,n,e)) : a9 Tryz.prog f [.int .i64 x] w fun v _=>v = .tuple #[.int .i64 o,.int .i64 n,.int .i64 e]:=by
 refine h.mono fun v w' _ hv => ?_
 rw [hv,gx,hE]
set_option maxHeartbeats 4000000 in
theorem wH (r:dF) (s:ar) (q:cr) (c:aZ) (w:World) (hr:lg w r s) (hq:sD w q c) (hs:s.small) (fK:c.small) (hH:bq s.Heap) (nc:∀ x∈c.ah,-9223372036854775808≤x.At∧x.At≤9223372036854775807) :
 a9 Tryz.prog 89 [.agg (aH r).toArray,.agg (bR q).toArray] w fun v _=>v = .bool (gp s c):=by
 refine aC Tryz.func89 rfl Tryz.ntmps89 rfl ?_;refine CW.seq (CW.region (SW.box rfl rfl fun b2 w1 hw ff ax => ?_));refine SW.box rfl rfl fun b3 w2 cg bM ap => ?_
 (replace hw:=Ext.trans hw cg;replace ax:=ax.ext cg);obtain ⟨o,n,e,hE⟩ : ∃ o n e,dk c.bp=(o,n,e):=⟨_,_,_,rfl⟩;have eS:=hq.size;have eP:=hq.iM;have eO:=hq.order;have n1:=hq.names.len;have n2:=hq.aL.len;have n3:=hq.bh.len;have m1:=fK.names;have m2:=fK.aL;have m3:=fK.bh;have eC:=hr.heap.dc;have wl:=hr.words.len;have m4:=hs.words;have lz:=hr.heap.live.len;have m5:=hs.heap.live;have ye:=hq.cap;have cL:∀ w',a9 Tryz.prog 141 [.int .i64 q.bp] w' fun v _=>v = .tuple #[.int .i64 o,.int .i64 n,.int .i64 e]:=fun w'=>ra (uD q.bp w') (by rw [eS];exact hE)
 rcases (show ¬ (e=0∧c.Order=o∧c.dE=n∧0<c.Names.length∧(c.aG.length:Int)=s.Heap.bt)∨(e=0∧c.Order=o∧c.dE=n∧0<c.Names.length∧(c.aG.length:Int)=s.Heap.bt) by omega) with k6|⟨h1,h2,h3,h4,h5⟩
 ·have hF:gp s c=false:=dU fun hm=>k6 (by
   have:=hm.lay
   rw [hE] at this;simp only [Prod.mk.injEq] at this;exact ⟨this.2.2,this.1.symm,this.2.1.symm,hm.names,hm.bh⟩)
  rw [hF];rcases (show e≠0∨(e=0∧c.Order≠o)∨(e=0∧c.Order=o∧c.dE≠n)∨(e=0∧c.Order=o∧c.dE=n∧c.Names.length=0)∨(e=0∧c.Order=o∧c.dE=n∧0<c.Names.length∧(c.aG.length:Int)≠s.Heap.bt) by omega) with g|g|g|g|g
  all_goals
   repeat' (first|refine Wz ?_|(refine SW.call rfl rfl (cL _) ?_;intro v w1 ab hv;subst hv;replace hw:=Ext.trans hw ab;replace ax:=ax.ext ab;replace ap:=ap.ext ab;clear ab))
   all_goals try omega
   exact ae.aF rfl rfl ⟨_,rfl,hw,rfl⟩
 ·subst h1;have BI:dk c.bp=(c.Order,c.dE,0):=by rw [hE,h2,h3]
  obtain ⟨l1,l2,l3⟩:=gq hE;have dH:=kU hH.live
  have Ef:∀ b∈s.Heap.Live,0≤b.At∧b.At≤255:=fun b hb=>by
   obtain ⟨i,hi,rfl⟩:=List.getElem_of_mem hb;exact (hH.live.each i hi).2.1
  repeat' (first|refine Wz ?_|(refine SW.call rfl rfl (cL _) ?_;intro v w1 ab hv;subst hv;replace hw:=Ext.trans hw ab;replace ax:=ax.ext ab;replace ap:=ap.ext ab;clear ab))
  all_goals try omega
  clear cL
  refine CW.loop (fun k:Nat=>[(2,.pointer (some ⟨b2,0,none⟩)),(3,.pointer (some ⟨b3,0,none⟩)),(5,.int .i64 o),(53,.slice q.ah.A q.ah.n q.ah.c),(54,.int .i64 (q.ah.n:Int)),(55,.int .i64 (k:Int))])
   (fun k w'=>k≤q.ah.n∧Ext w w'∧aU w' b2 44 (aH r)∧aU w' b3 89 (bR q) ∧ ∀ (i:Nat) (h:i<c.ah.length),i<k→jR s c i h) (fun k=>q.ah.n-k) 0
   ⟨rfl,rfl,rfl,rfl,rfl,rfl,trivial⟩ ⟨by omega,hw,ax,ap,fun i h h'=>by omega⟩ ?_
  clear hw ax ap;rintro k w' ⟨hk,hw,ax,ap,hI⟩
  have hA:=hq.aL.base;by_cases cc:k<q.ah.n
  ·have cG:k<c.ah.length:=by omega
   repeat' (first|refine Wz ?_|refine SW.st (aA hw rfl rfl ((hq.aL.all cc))) rfl ?_)
   refine SW.alloc rfl fun b9 w1 ab jl cn => ?_
   refine Wz ?_;refine SW.aj cn rfl rfl rfl rfl (fM.one (enc:=bB) _) fun w2 fu hg => ?_
   have ai:=ab.own jl hg;have mz:w.heap.size≤b9:=Nat.le_trans hw.size jl
   replace hw:=Ext.trans hw ai;replace ax:=ax.ext ai;replace ap:=ap.ext ai;replace cn:=fu;clear fu ab hg ai;refine Wz ?_;refine SW.call rfl rfl (tm _ _ _ _ _ _ (hr.heap.live.ext hw) dH Ef (by omega) (nc _ (List.getElem_mem cG))) fun v w4 gf hv => ?_
   (replace hw:=Ext.trans hw gf;replace ax:=ax.ext gf;replace ap:=ap.ext gf;replace cn:=cn.ext gf);cases zU:bc s.Heap.Live c.ah[k].At
   ·obtain ⟨j,rfl⟩:=hv.2 zU
    have hF:gp s c=false:=dU fun hm=>by
     have:=(hm.aL k cG).live
     rw [nb zU] at this;omega
    rw [hF];repeat' (first|refine Wz ?_|((apply CW.aM mixed;(· kernel_rfl);rotate_left;intro w1 ab;replace hw:=Ext.trans hw ab;replace ax:=ax.ext ab;replace ap:=ap.ext ab;replace cn:=cn.ext ab;clear ab;rotate_right))|refine SW.skip rfl rfl rfl rfl ?_|exact SW.br rfl)
    exact ae.aF rfl rfl ⟨_,rfl,hw,rfl⟩
   ·have Hz:=hv.1 zU;subst Hz;obtain ⟨uo,Gd⟩:=fZ zU;have E2:=r7 zU uo;obtain ⟨m,em⟩ : ∃ m,bF s.Heap.Live c.ah[k].At=m:=⟨_,rfl⟩;simp only [em] at uo Gd E2 hv ⊢;have Cq:m<r.Heap.Live.n:=by omega
    have I0:=hr.heap.live.base;have gO:=hr.heap.live.fE Cq (j:=1) (u := .int .i64 s.Heap.Live[m].Order) rfl
    have ht : 0≤c.ah[k].At∧c.ah[k].At≤255:=by
     have:=Ef _ (List.getElem_mem uo)
     omega
    have hS : 1≤q.bp∧q.bp≤64:=by omega
    have hP : 1≤q.dE∧q.dE≤64:=by omega
    by_cases tp:s.Heap.Live[m].Order=o
    ·by_cases zV : 0<k→(c.ah[k-1]'(by omega)).At<c.ah[k].At
     ·rcases Nat.eq_zero_or_pos k with lh|lh
      all_goals
       first
       | (have gP:=hq.aL.fE (show k-1<q.ah.n by omega) (j:=0) (u := .int .i64 (c.ah[k-1]'(by omega)).At) rfl
          have oM:=zV lh)
       | skip
      all_goals
       repeat' (first|refine Wz ?_|((apply CW.aM mixed;(· kernel_rfl);rotate_left;intro w1 ab;replace hw:=Ext.trans hw ab;replace ax:=ax.ext ab;replace ap:=ap.ext ab;replace cn:=cn.ext ab;clear ab;rotate_right))|refine SW.want rfl rfl ?_|refine SW.st (aV (k-1) rfl rfl (by assumption) (by omega) (by omega)) rfl ?_|refine SW.st (ag hw rfl gO) rfl ?_|refine SW.st (ag hw rfl gP) rfl ?_|exact SW.br rfl)
       all_goals try omega
       refine SW.call rfl rfl (q8 r q c.ah[k] s.Words _ (hr.words.ext hw) (by omega) hS hP ht) fun v w5 fI yo => ?_
       (replace hw:=Ext.trans hw fI;replace ax:=ax.ext fI;replace ap:=ap.ext fI);rw [eS,eP] at yo;rcases yo with ⟨out,A5,c5,hC,rfl,_,_⟩|⟨lc,rfl⟩
       ·repeat' (first|refine Wz ?_|(refine CW.cj rfl ?_))
        exact ae.again (k+1) ⟨rfl,rfl,rfl,rfl,rfl,rfl,trivial⟩ (by omega) ⟨by omega,hw,ax,ap,fun i h h'=>by
         by_cases ei:i=k
         ·subst ei;exact ⟨by omega,zV,⟨out,hC⟩⟩
         ·exact hI i h (by omega)⟩
       ·rw [dU fun hm=>(hm.aL k cG).chain.elim lc];repeat' (first|refine Wz ?_|(refine CW.cU rfl ?_))
        exact ae.aF rfl rfl ⟨_,rfl,hw,rfl⟩
     ·have lh : 0<k:=by
       rcases Nat.eq_zero_or_pos k with h|h
       ·exact absurd (fun h'=>by omega) zV
       ·exact h
      have qb : ¬ (c.ah[k-1]'(by omega)).At<c.ah[k].At:=fun h=>zV fun _=>h
      have gP:=hq.aL.fE (show k-1<q.ah.n by omega) (j:=0) (u := .int .i64 (c.ah[k-1]'(by omega)).At) rfl;rw [dU fun hm=>qb ((hm.aL k cG).next lh)];repeat' (first|refine Wz ?_|((apply CW.aM mixed;(· kernel_rfl);rotate_left;intro w1 ab;replace hw:=Ext.trans hw ab;replace ax:=ax.ext ab;replace ap:=ap.ext ab;replace cn:=cn.ext ab;clear ab;rotate_right))|refine SW.want rfl rfl ?_|refine SW.st (aV (k-1) rfl rfl (by assumption) (by omega) (by omega)) rfl ?_|refine SW.st (ag hw rfl gO) rfl ?_|refine SW.st (ag hw rfl gP) rfl ?_|exact SW.br rfl)
      all_goals try omega
      exact ae.aF rfl rfl ⟨_,rfl,hw,rfl⟩
    ·rw [dU fun hm=>tp (by have:=(hm.aL k cG).live;omega)];repeat' (first|refine Wz ?_|((apply CW.aM mixed;(· kernel_rfl);rotate_left;intro w1 ab;replace hw:=Ext.trans hw ab;replace ax:=ax.ext ab;replace ap:=ap.ext ab;replace cn:=cn.ext ab;clear ab;rotate_right))|refine SW.want rfl rfl ?_|refine SW.st (ag hw rfl gO) rfl ?_|exact SW.br rfl)
     all_goals try omega
     exact ae.aF rfl rfl ⟨_,rfl,hw,rfl⟩
  ·have gH:∀ (i:Nat) (h:i<c.ah.length),jR s c i h:=fun i h=>hI i h (by omega)
   refine Wz ?_;clear hI cc hk hA
   refine CW.loop (fun k:Nat=>[(3,.pointer (some ⟨b3,0,none⟩)),(109,.slice q.aG.A q.aG.n q.aG.c),(110,.int .i64 (q.aG.n:Int)),(111,.int .i64 (k:Int))])
    (fun k w'=>k≤q.aG.n∧Ext w w'∧aU w' b3 89 (bR q) ∧ ∀ (i:Nat) (h:i<c.aG.length),i<k→uQ c i h) (fun k=>q.aG.n-k) 0
    ⟨rfl,rfl,rfl,rfl,trivial⟩ ⟨by omega,hw,ap,fun i h h'=>by omega⟩ ?_
   clear hw ap ax;rintro k w' ⟨hk,hw,ap,hI⟩
   have hA:=hq.bh.base;by_cases cc:k<q.aG.n
   ·have cG:k<c.aG.length:=by omega
    obtain ⟨a,ea⟩ : ∃ a,c.aG[k]=a:=⟨_,rfl⟩;have gA:=hq.bh.one cc (u := .int .i64 a) (by rw [← ea];rfl);by_cases ha:a = -1
    ·repeat' (first|refine Wz ?_|refine SW.st (ag hw rfl gA) rfl ?_)
     exact ae.again (k+1) ⟨rfl,rfl,rfl,rfl,trivial⟩ (by omega) ⟨by omega,hw,ap,fun i h h'=>by
      by_cases ei:i=k
      ·subst ei;exact .inl (by omega)
      ·exact hI i h (by omega)⟩
    ·have cN:∀ w',Ext w w'→a9 Tryz.prog 95 [.slice q.aG.A k q.aG.c,.int .i64 a] w' fun v _=>v = .bool (decide (a∈c.aG.take k)):=fun w' hx=>eA _ _ _ _ _ _ ((hq.bh.ext hx).pre (show k≤q.aG.n by omega)) (by omega)
     obtain ⟨z,hz⟩ : ∃ z,idxOf (uj a) c.ah=z:=⟨_,rfl⟩;have wI:=fr (uj a) c.ah;rw [hz] at wI
     have cF:∀ w',Ext w w'→a9 Tryz.prog 181 [.agg (bR q).toArray,.int .i64 a] w' fun v _=>v = .int .i64 z:=fun w' hx=>by
      have:=yn q c.ah a w' (hq.aL.ext hx) (by omega)
      rwa [hz] at this
     have Aw:(a∈c.aG.take k ∨ ¬ 0≤z)→gp s c=false:=fun h=>dU fun hm=>by
      rcases hm.BH k cG with g|⟨g1,g2⟩
      ·omega
      ·rw [ea] at g1 g2;rcases h with h|h
       ·exact g1 h
       ·rw [g2] at wI;exact h (of_decide_eq_true wI)
     by_cases ju:a∈c.aG.take k
     ·rw [decide_eq_true ju] at cN;rw [Aw (.inl ju)];repeat' (first|refine Wz ?_|refine SW.st (ag hw rfl gA) rfl ?_|(refine SW.call rfl rfl (cN _ hw) ?_;intro v w1 ab hv;subst hv;replace hw:=Ext.trans hw ab;replace ap:=ap.ext ab;clear ab)|(refine SW.st (db (k:=k) rfl rfl (by omega)) rfl ?_))
      all_goals try omega
      exact ae.aF rfl rfl ⟨_,rfl,hw,rfl⟩
     ·rw [decide_eq_false ju] at cN;by_cases sG : 0≤z
      ·repeat' (first|refine Wz ?_|refine SW.st (ag hw rfl gA) rfl ?_|((first|refine SW.call rfl rfl (cN _ hw) ?_|refine SW.call rfl rfl (cF _ hw) ?_);intro v w1 ab hv;subst hv;replace hw:=Ext.trans hw ab;replace ap:=ap.ext ab;clear ab)|(refine SW.st (db (k:=k) rfl rfl (by omega)) rfl ?_))
       all_goals try omega
       exact ae.again (k+1) ⟨rfl,rfl,rfl,rfl,trivial⟩ (by omega) ⟨by omega,hw,ap,fun i h h'=>by
        by_cases ei:i=k
        ·subst ei;exact .inr ⟨by rw [ea];exact ju,by rw [ea,← wI];exact decide_eq_true sG⟩
        ·exact hI i h (by omega)⟩
      ·rw [Aw (.inr sG)];repeat' (first|refine Wz ?_|refine SW.st (ag hw rfl gA) rfl ?_|((first|refine SW.call rfl rfl (cN _ hw) ?_|refine SW.call rfl rfl (cF _ hw) ?_);intro v w1 ab hv;subst hv;replace hw:=Ext.trans hw ab;replace ap:=ap.ext ab;clear ab)|(refine SW.st (db (k:=k) rfl rfl (by omega)) rfl ?_))
       all_goals try omega
       exact ae.aF rfl rfl ⟨_,rfl,hw,rfl⟩
   ·rw [kw ⟨BI,h4,h5,gH,fun i h=>hI i h (by omega)⟩];refine Wz ?_;exact ae.aF rfl rfl ⟨_,rfl,hw,rfl⟩
open Go.RowKit Go.Maps
structure jz (w:World) (P:Program) (k e:TypeId) (b:Nat) (keys:List Lit) : Prop where
 own:w.ownsMap (H:=Unit) P k (plainElem P e) b keys.length (setOf (.lit (.bool true)) keys)
 ok:∀ x∈keys,WideAt.IsKeyLit x
theorem jz.ext {w w':World} {P:Program} {k e:TypeId} {b:Nat} {keys:List Lit} (h:jz w P k e b keys) (hx:Ext w w') : jz w' P k e b keys:=⟨h.own.kept (row:=none) ⟨hx.os,hx.tape,hx.output,hx.size,fun i hi _=>hx.block i hi⟩ (by simp),h.ok⟩
theorem jz.grown {w w':World} {P:Program} {k e:TypeId} {b:Nat} {keys:List Lit} {row:Option Nat} (h:jz w P k e b keys) (hg:w.grownBy w' row) (cQ:some b≠row) : jz w' P k e b keys:=⟨h.own.kept hg cQ,h.ok⟩
theorem jz.lt {w:World} {P:Program} {k e:TypeId} {b:Nat} {keys:List Lit} (h:jz w P k e b keys) : b<w.heap.size:=h.own.lt
theorem pB (u z:DataW Unit) (k:Lit) : ∀ (acc:List Lit) (m:DataW Unit),IsMap m→(∀ x∈acc,WideAt.IsKeyLit x)→(acc.foldl (fun m x=>m.put x u) m).atKey k z=if acc.any (fun x=>x.sameKey k) then u else m.atKey k z
 | [],m,_,_=>by simp
 | x::r,m,hm,h=>by
   rw [List.foldl_cons,pB u z k r (m.put x u) (hm.put x u) (fun y hy=>h y (by simp [hy])),List.any_cons];by_cases e:k=x
   ·subst e;rw [atKey_put_same hm (h k (by simp)),WideAt.sameKey_self (h k (by simp))];simp
   ·rw [atKey_put_other e,sameKey_ne (fun e'=>e e'.symm)];simp
theorem wJ (k:Lit) (acc:List Lit) (h:∀ x∈acc,WideAt.IsKeyLit x) : (setOf (.lit (.bool true)) acc:DataW Unit).atKey k (.lit (.bool false)) = .lit (.bool (acc.any fun x=>x.sameKey k)):=by
 rw [setOf,pB _ _ k acc _ isMap_empty h];cases acc.any fun x=>x.sameKey k<;>rfl
section
variable {P:Program} {n:Nat} {ops:Array Oper} {Q:Exit→Act→World→Prop} {rest:List Oper} {L:Env} {w:World} {T:TypeId} {pos:String} {af:Array Edge}
theorem SW.makeMap {d:Nat} {t:TypeId} (k e:TypeId) (hn:Nat.blt d n=true) (h:∀ b w',Ext w w'→w.heap.size≤b→jz w' P k e b []→SW P n ops (.eG Q) rest ((d,.map (some b))::L) w') :
 SW P n ops (.eG Q) (⟨some d,.makeMap t none,T,pos,af,none⟩::rest) L w :=
 ⟨fun a ha=>by
  simp only [swp,wpList,Region.wanted,if_true];refine .inl ?_;unfold Oper.wp
  have:(execOp a.eval ⟨some d,.makeMap t none,T,pos,af,none⟩).run P w = .ok (.value (.map (some w.heap.size))) (w.alloc (.map #[] 0)):=by
   simp [execOp,run_makeMap]
  rw [this,Oper.upon_value];exact (h _ _ (Ext.alloc w _) (Nat.le_refl _) ⟨World.ownsMap_made w P k _,fun x hx=>by simp at hx⟩).out _ (ha.put hn _)⟩
theorem pC {d:Option Nat} {g:Option (Nat×Bool)} {t k e:TypeId} {b:Nat} {keys:List Lit} {m x:Operand} {key:Value} {kl:Lit} (hB:jz w P k e b keys) (K:Keyed P k) (ht:P.underlying t=some (.map k e)) (he:P.underlying e=some .bool) (hz:∀ w,(zeroValue e).run P w = .ok (.bool false) w)
 (hm:bG L m=some (.map (some b))) (hx:bG L x=some key) (pD:Go.keyOf P k key=some kl) : St P ⟨d,.lookup t m x false,T,pos,af,g⟩ L w (.bool (keys.any fun y=>y.sameKey kl)) :=
 ⟨fun n a ha w' HA=>by
  have nU:=hB.ext HA;obtain ⟨v,ps,uU,hv⟩:=nU.own.lookup K ht (hz w') (plainElem_bool he false) pD;rw [wJ _ _ hB.ok] at hv
  have Ge:v = .bool (keys.any fun y=>y.sameKey kl):=by
   unfold plainElem at hv;rw [he] at hv;cases v<;>simp at hv
   rw [hv.1]
  subst Ge;simp [execOp,ha.eval hm,ha.eval hx,uU]⟩
theorem SW.uV {t k e:TypeId} {b:Nat} {keys:List Lit} {m x y:Operand} {key:Value} {kl:Lit} (hB:jz w P k e b keys) (K:Keyed P k) (ht:P.underlying t=some (.map k e)) (he:P.underlying e=some .bool) (iE:keys.length<maxLen)
 (hm:bG L m=some (.map (some b))) (hx:bG L x=some key) (hy:bG L y=some (.bool true)) (pD:Go.keyOf P k key=some kl) (hk:WideAt.IsKeyLit kl)
 (h:∀ w',jz w' P k e b (keys++[kl])→w.grownBy w' (some b)→SW P n ops (.eG Q) rest L w') : SW P n ops (.eG Q) (⟨none,.mapUpdate t m x y,T,pos,af,none⟩::rest) L w :=
 ⟨fun a ha=>by
  obtain ⟨w',uU,r1,r2⟩:=hB.own.update K ht iE pD (plainElem_bool he true);simp only [swp,wpList,Region.wanted,if_true];refine .inl ?_;unfold Oper.wp
  have:(execOp a.eval ⟨none,.mapUpdate t m x y,T,pos,af,none⟩).run P w = .ok .skip w':=by
   simp [execOp,ha.eval hm,ha.eval hx,ha.eval hy,uU]
  rw [this,Oper.upon_skip];refine (h w' ⟨?_,fun z hz => ?_⟩ r2).out _ ha
  ·rw [setOf_snoc];simpa using r1
  ·rcases List.mem_append.1 hz with hz|hz
   ·exact hB.ok z hz
   ·simp at hz;subst hz;exact hk⟩
end
open Go.RowKit Go.Maps
def k7 (s:ByteArray) : Lit := .string s.data.toList
def n7 (z:Int) : Lit := .int .i64 z
def qx (l:List ByteArray) (n:ByteArray) : Bool:=l.any fun m=>decide (m=n)
theorem gb {l:List ByteArray} {n:ByteArray}:qx l n=true↔n∈l:=by
 unfold qx;rw [List.any_eq_true];exact ⟨fun ⟨m,h,e⟩=>of_decide_eq_true e ▸ h,fun h=>⟨n,h,decide_eq_true rfl⟩⟩
theorem yq (l:List ByteArray) (n:ByteArray) : ((l.map k7).any fun y=>y.sameKey (k7 n))=qx l n:=by
 rw [Bool.eq_iff_iff,List.any_eq_true,gb];constructor
 ·rintro ⟨y,hy,hs⟩
  obtain ⟨m,hm,rfl⟩:=List.mem_map.1 hy;have:=WideAt.sameKey_eq hs
  simp only [k7,Lit.string.injEq] at this
  have e:m=n:=by
   cases m;cases n
   simpa using this
  rw [← e];exact hm
 ·intro h;exact ⟨k7 n,List.mem_map.2 ⟨n,h,rfl⟩,WideAt.sameKey_self trivial⟩
theorem yr (l:List Int) (n:Int) : ((l.map n7).any fun y=>y.sameKey (n7 n))=decide (n∈l):=by
 rw [Bool.eq_iff_iff,List.any_eq_true,decide_eq_true_iff];constructor
 ·rintro ⟨y,hy,hs⟩
  obtain ⟨m,hm,rfl⟩:=List.mem_map.1 hy;have:=WideAt.sameKey_eq hs
  simp only [n7,Lit.int.injEq] at this;rw [← this.2];exact hm
 ·intro h;exact ⟨n7 n,List.mem_map.2 ⟨n,h,rfl⟩,WideAt.sameKey_self trivial⟩
theorem sb:Tryz.prog.underlying 9=some .string:=by kernel_rfl
theorem sc:Tryz.prog.underlying 3=some (.int .i64):=by kernel_rfl
theorem ky:Tryz.prog.underlying 4=some .bool:=by kernel_rfl
theorem pE:Tryz.prog.underlying 144=some (.map 9 4):=by kernel_rfl
theorem tq:Tryz.prog.underlying 145=some (.map 3 4):=by kernel_rfl
theorem rb (w:World) : (zeroValue 4).run Tryz.prog w = .ok (.bool false) w:=by
 obtain ⟨inf,hi,hz,hs,qI⟩:=da Tryz.prog 4 (z := .bool false) (sz:=1) (bytes:=1);simp [zeroValue,typeInfo,hi,hz]
theorem nd (s:ByteArray) (h:s.size≤140737488351232) : Go.keyOf Tryz.prog 9 (.string s)=some (k7 s):=by
 simp [Go.keyOf,mapKey,k7];unfold maxLen;omega
theorem keyOf_int {z:Int} (h : -9223372036854775808≤z∧z≤9223372036854775807) : Go.keyOf Tryz.prog 3 (.int .i64 z)=some (n7 z):=keyOf_int_mk sc (by
 have h1:IntKind.i64.min = -9223372036854775808:=by decide
 have h2:IntKind.i64.max=9223372036854775807:=by decide
 simp [Lit.wf,h1,h2];omega)
section
variable {L:Env} {w:World} {d:Option Nat} {T:TypeId} {pos:String} {af:Array Edge} {g:Option (Nat×Bool)}
theorem mD {b:Nat} {l:List ByteArray} {n:ByteArray} {m x:Operand} (hB:jz w Tryz.prog 9 4 b (l.map k7)) (hn:n.size≤140737488351232) (hm:bG L m=some (.map (some b))) (hx:bG L x=some (.string n)) :
 St Tryz.prog ⟨d,.lookup 144 m x false,T,pos,af,g⟩ L w (.bool (qx l n)) :=
 (pC hB (string_keyed sb) pE ky rb hm hx (nd n hn)).eq (by rw [yq])
theorem tr {b:Nat} {l:List Int} {n:Int} {m x:Operand} (hB:jz w Tryz.prog 3 4 b (l.map n7)) (hn : -9223372036854775808≤n∧n≤9223372036854775807) (hm:bG L m=some (.map (some b))) (hx:bG L x=some (.int .i64 n)) :
 St Tryz.prog ⟨d,.lookup 145 m x false,T,pos,af,g⟩ L w (.bool (decide (n∈l))) :=
 (pC hB (int_keyed sc) tq ky rb hm hx (keyOf_int hn)).eq (by rw [yr])
end
theorem wK (d:cr) (b6:Nat) (q:cr) (w:World) (h6:aU w b6 89 (bR q)) :
 a9 Tryz.prog 91 ([.agg (bR d).toArray]++[.pointer (some ⟨b6,0,none⟩)]) w fun v _=>v = .bool (decide (d.bp=q.bp)):=by
 refine aC Tryz.func91 rfl Tryz.ntmps91 rfl ?_;refine CW.seq (CW.region (SW.box rfl rfl fun b1 w1 hw gI au => ?_));replace h6:=h6.ext hw;refine Wz ?_;exact ae.aF rfl rfl ⟨_,rfl,hw,rfl⟩
structure ar.iN (s:ar) : Prop where
 small:s.small
 bU:∀ z∈s.Heap.aI,dK z
 aL:∀ c∈s.aa,∀ x∈c.ah,-9223372036854775808≤x.At∧x.At≤9223372036854775807
 names:∀ c∈s.aa,∀ n∈c.Names,n.size≤140737488351232
theorem pF (cs:List aZ) (h:∀ c∈cs,c.small) : (bI cs).length≤cs.length*8796093022208:=by
 induction cs with
 | nil=>simp [bI]
 | cons c r ih =>
   have h1:=(h c (by simp)).names;have h2:=ih (fun x hx=>h x (by simp [hx]));simp only [bI,List.flatMap_cons,List.length_append,List.length_cons] at h2 ⊢;omega
theorem pG (cs:List aZ) (h:∀ c∈cs,c.small) : (bX cs).length≤cs.length*8796093022208:=by
 induction cs with
 | nil=>simp [bX]
 | cons c r ih =>
   have h1:=(h c (by simp)).aL;have h2:=ih (fun x hx=>h x (by simp [hx]));simp only [bX,List.flatMap_cons,List.length_append,List.length_cons,List.length_map] at h2 ⊢;omega
set_option maxHeartbeats 4000000 in
theorem lR (r:dF) (s:ar) (w:World) (hr:lg w r s) (hf:s.iN) :
 a9 Tryz.prog 41 [.agg (aH r).toArray] w fun v _=>v = .int .i64 (if eD s then 0 else 8):=by
 refine aC Tryz.func41 rfl Tryz.ntmps41 rfl ?_;refine CW.seq (CW.region (SW.box rfl rfl fun b1 w1 hw gI au => ?_));obtain ⟨cs,hc⟩:=hr.bJ;obtain ⟨z1,z2⟩:=hc.len;have wl:=hr.words.len;have hs:=hf.small;have m3:=hs.bJ;have ye:=hc.cap;obtain ⟨q,hq⟩ : ∃ q,gQ s.Heap=q:=⟨_,rfl⟩
 have c1:∀ w',Ext w w'→a9 Tryz.prog 88 [.agg (bl r.Heap).toArray] w' fun v _=>v = .int .i64 (if q then 0 else 8):=fun w' hx=>by
  have:=po r.Heap s.Heap w' (hr.heap.ext hx) hs.heap hf.bU
  rwa [hq] at this
 by_cases pH:s.Words.length=4096∧q=true∧s.aa.length≤20
 ·obtain ⟨g1,g2,g3⟩:=pH;subst g2;have hH:=iu.1 hq;simp only [if_true] at c1;repeat' (first|refine Wz ?_|refine SW.st (aS rfl rfl ((eK au))) rfl ?_|(refine SW.call rfl rfl (c1 _ hw) ?_;intro v w1 ab hv;subst hv;replace hw:=Ext.trans hw ab;replace au:=au.ext ab;clear ab))
  all_goals try omega
  clear c1;refine SW.makeMap 9 4 rfl fun bN w3 jI C7 hN => ?_
  have Gf:w.heap.size≤bN:=Nat.le_trans hw.size C7
  have zF:=au.lt;(replace hw:=Ext.trans hw jI;replace au:=au.ext jI);refine SW.makeMap 3 4 rfl fun bS w4 gf C8 hS => ?_
  have HB:w.heap.size≤bS:=Nat.le_trans hw.size C8
  have zG:=hN.lt;(replace hw:=Ext.trans hw gf;replace au:=au.ext gf;replace hN:=hN.ext gf);have C9:b1≠bN:=by omega
  have E3:b1≠bS:=by omega
  have BJ:bN≠bS:=by omega
  clear zF zG C7 C8;refine Wz ?_
  refine CW.loop (fun k:Nat=>[(1,.pointer (some ⟨b1,0,none⟩)),(3,.map (some bN)),(4,.map (some bS)),(30,.slice r.aa.A r.aa.n r.aa.c),(31,.int .i64 (r.aa.n:Int)),(32,.int .i64 (k:Int))])
   (fun k w'=>k≤r.aa.n∧Ext w w'∧aU w' b1 44 (aH r)∧jz w' Tryz.prog 9 4 bN ((bI (s.aa.take k)).map k7)∧jz w' Tryz.prog 3 4 bS ((bX (s.aa.take k)).map n7) ∧ ∀ (i:Nat) (h:i<s.aa.length),i<k→ox s i h) (fun k=>r.aa.n-k) 0
   ⟨rfl,rfl,rfl,rfl,rfl,rfl,trivial⟩ ⟨by omega,hw,au,hN,hS,fun i h h'=>by omega⟩ ?_
  clear hw au hN hS;rintro k w' ⟨hk,hw,au,hN,hS,hI⟩
  have hA:=hc.row.base;by_cases cc:k<r.aa.n
  ·have Bp:k<cs.length:=by omega
   have cG:k<s.aa.length:=by omega
   have dm:=hc.each.get k Bp cG;have sm:=hs.each _ (List.getElem_mem cG);have fS:=hf.aL _ (List.getElem_mem cG);have fN:=hf.names _ (List.getElem_mem cG);have q1:=dm.names.len;have q2:=dm.aL.len;have q4:=sm.names;have q5:=sm.aL;have bn:=pF (s.aa.take k) (fun c hc=>hs.each c (List.mem_of_mem_take hc));have bs:=pG (s.aa.take k) (fun c hc=>hs.each c (List.mem_of_mem_take hc));rw [List.length_take] at bn bs;repeat' (first|refine Wz ?_|refine SW.st (aA hw rfl rfl ((hc.row.all cc))) rfl ?_)
   have E4:=hN.lt;have E5:=hS.lt;refine SW.alloc rfl fun b6 w1 ab eJ aB => ?_
   refine Wz ?_;refine SW.aj aB rfl rfl rfl rfl (nr _) fun w2 gg hg => ?_
   have ai:=ab.own eJ hg;have cX:w.heap.size≤b6:=Nat.le_trans hw.size eJ
   replace hw:=Ext.trans hw ai;replace au:=au.ext ai;replace hN:=hN.ext ai;replace hS:=hS.ext ai;replace aB:=gg;clear gg ab hg ai;have Da:bN≠b6:=by omega
   have HC:bS≠b6:=by omega
   clear E4 E5;obtain ⟨qc,BK⟩ : ∃ qc,gp s s.aa[k]=qc:=⟨_,rfl⟩
   have cC:∀ w',Ext w w'→a9 Tryz.prog 89 [.agg (aH r).toArray,.agg (bR cs[k]).toArray] w' fun v _=>v = .bool qc:=fun w' hx=>by
    have:=wH r s cs[k] s.aa[k] w' (hr.ext hx) (dm.ext hx) hs sm hH fS
    rwa [BK] at this
   cases qc
   ·have hF:eD s=false:=iG fun hm=>by
     have:=kw (hm.each k cG).may
     rw [BK] at this;cases this
    rw [hF];repeat' (first|refine Wz ?_|refine SW.skip rfl rfl rfl rfl ?_|(refine SW.call rfl rfl (cC _ hw) ?_;intro v w1 ab hv;subst hv;replace hw:=Ext.trans hw ab;replace au:=au.ext ab;replace aB:=aB.ext ab;replace hN:=hN.ext ab;replace hS:=hS.ext ab;clear ab))
    exact ae.aF rfl rfl ⟨_,rfl,hw,rfl⟩
   ·have xy:=py.1 BK;obtain ⟨y,hy⟩ : ∃ y,((cs.take k).any fun d=>decide (d.bp=cs[k].bp))=y:=⟨_,rfl⟩
    have cD:∀ w',Ext w w'→aU w' b6 89 (bR cs[k])→a9 Tryz.prog 90 [.slice r.aa.A k r.aa.c,.func (.func 91) #[] [.pointer (some ⟨b6,0,none⟩)].toArray] w' fun v _=>v = .bool y:=fun w' hx h6=>by
     have:=gL r.aa.A k r.aa.c (cs.take k) w' ((hc.row.ext hx).pre (show k≤r.aa.n by omega)) 91 [.pointer (some ⟨b6,0,none⟩)] (fun d=>decide (d.bp=cs[k].bp)) (fun d => .agg (bR d).toArray) (fun x=>rfl)
      (fun x _ w1 jG=>wK x b6 cs[k] w1 (h6.ext jG)) (by omega)
     rwa [hy] at this
    cases y
    ·have ub:∀ (j:Nat) (hj:j<k),(s.aa[j]'(by omega)).bp≠s.aa[k].bp:=fun j hj e=>by
      rw [List.any_eq_false] at hy;refine hy cs[j] (List.mem_take_iff_getElem.2 ⟨j,by omega,rfl⟩) ?_;have e1:=(hc.each.get j (by omega) (by omega)).size;have e2:=dm.size;exact decide_eq_true (by rw [e1,e2];exact e)
     repeat' (first|refine Wz ?_|refine SW.want rfl rfl ?_|((first|refine SW.call rfl rfl (cC _ hw) ?_|refine SW.call rfl rfl (cD _ hw aB) ?_);intro v w1 ab hv;subst hv;replace hw:=Ext.trans hw ab;replace au:=au.ext ab;replace aB:=aB.ext ab;replace hN:=hN.ext ab;replace hS:=hS.ext ab;clear ab)|(refine SW.st (db (k:=k) rfl rfl (by omega)) rfl ?_)|(refine SW.st (fT (vs:=[.pointer (some ⟨b6,0,none⟩)]) rfl) rfl ?_))
     obtain ⟨acc,sd⟩ : ∃ acc,bI (s.aa.take k)=acc:=⟨_,rfl⟩;rw [sd] at hN bn;obtain ⟨lX,se⟩ : ∃ lX,bX (s.aa.take k)=lX:=⟨_,rfl⟩;rw [se] at hS bs;clear cC cD
     refine CW.loop (fun j:Nat=>[(1,.pointer (some ⟨b1,0,none⟩)),(3,.map (some bN)),(4,.map (some bS)),(6,.pointer (some ⟨b6,0,none⟩)),(30,.slice r.aa.A r.aa.n r.aa.c),(31,.int .i64 (r.aa.n:Int)),(32,.int .i64 (k:Int)),(50,.slice cs[k].Names.A cs[k].Names.n cs[k].Names.c),(51,.int .i64 (cs[k].Names.n:Int)),(52,.int .i64 (j:Int))])
      (fun j w'=>j≤cs[k].Names.n∧Ext w w'∧aU w' b1 44 (aH r)∧aU w' b6 89 (bR cs[k])∧jz w' Tryz.prog 9 4 bN ((acc++s.aa[k].Names.take j).map k7)∧jz w' Tryz.prog 3 4 bS (lX.map n7) ∧
        ∀ (i:Nat) (h:i<s.aa[k].Names.length),i<j→fh s.aa[k].Names[i]=true∧s.aa[k].Names[i]∉acc++s.aa[k].Names.take i∧(0<i→eQ (s.aa[k].Names[i-1]'(by omega)) s.aa[k].Names[i]=true)) (fun j=>cs[k].Names.n-j) 0
      ⟨rfl,rfl,rfl,rfl,rfl,rfl,rfl,rfl,rfl,rfl,trivial⟩ ⟨by omega,hw,au,aB,by simpa using hN,hS,fun i h h'=>by omega⟩ ?_
     clear hw au hN hS aB;rintro j w' ⟨hj,hw,au,aB,hN,hS,hJ⟩
     have yu:=dm.names.base;by_cases fF:j<cs[k].Names.n
     ·have jq:j<s.aa[k].Names.length:=by omega
      obtain ⟨nm,qg⟩ : ∃ nm,s.aa[k].Names[j]=nm:=⟨_,rfl⟩;have gN:=dm.names.one fF (u := .string nm) (by rw [← qg];rfl);have zW:nm.size≤140737488351232:=by rw [← qg];exact fN _ (List.getElem_mem jq)
      obtain ⟨qn,BL⟩ : ∃ qn,fh nm=qn:=⟨_,rfl⟩;obtain ⟨qh,BM⟩ : ∃ qh,qx (acc++s.aa[k].Names.take j) nm=qh:=⟨_,rfl⟩
      have zX:∀ w',a9 Tryz.prog 92 [.string nm] w' fun v _=>v = .bool qn:=fun w'=>by
       have:=xW nm w' zW
       rwa [BL] at this
      have nE:(qn=false∨qh=true ∨ ∃ wL : 0<j,eQ (s.aa[k].Names[j-1]'(by omega)) nm=false)→eD s=false:=fun h=>iG fun hm=>by
       have h1:=(hm.each k cG).names.each j jq;rw [qg,sd] at h1;rcases h with h|h|⟨wL,h⟩
       ·rw [BL,h] at h1;exact absurd h1.1 (by simp)
       ·exact h1.2.1 (gb.1 (by rw [BM,h]))
       ·rw [h1.2.2 wL] at h;cases h
      cases qn
      ·rw [nE (.inl rfl)];repeat' (first|refine Wz ?_|refine SW.skip rfl rfl rfl rfl ?_|refine SW.st (ag hw rfl gN) rfl ?_|(refine SW.call rfl rfl (zX _) ?_;intro v w1 ab hv;subst hv;replace hw:=Ext.trans hw ab;replace au:=au.ext ab;replace aB:=aB.ext ab;replace hN:=hN.ext ab;replace hS:=hS.ext ab;clear ab))
       exact ae.aF rfl rfl ⟨_,rfl,hw,rfl⟩
      ·cases qh
       ·have go:∀ (pI : 0<j→eQ (s.aa[k].Names[j-1]'(by omega)) nm=true) (i:Nat) (h:i<s.aa[k].Names.length),i<j+1→fh s.aa[k].Names[i]=true∧s.aa[k].Names[i]∉acc++s.aa[k].Names.take i∧(0<i→eQ (s.aa[k].Names[i-1]'(by omega)) s.aa[k].Names[i]=true):=fun pI i h h'=>by
         by_cases ei:i=j
         ·subst ei;rw [qg];exact ⟨BL,(fun hm=>by rw [gb.2 hm] at BM;cases BM),pI⟩
         ·exact hJ i h (by omega)
        rcases Nat.eq_zero_or_pos j with wL|wL
        ·repeat' (first|refine Wz ?_|refine SW.want rfl rfl ?_|refine SW.st (ag hw rfl gN) rfl ?_|(refine SW.call rfl rfl (zX _) ?_;intro v w1 ab hv;subst hv;replace hw:=Ext.trans hw ab;replace au:=au.ext ab;replace aB:=aB.ext ab;replace hN:=hN.ext ab;replace hS:=hS.ext ab;clear ab)|(refine SW.st ((mD hN zW rfl rfl).eq (congrArg Value.bool BM)) rfl ?_))
         all_goals try omega
         refine SW.uV hN (string_keyed sb) pE ky (by simp only [List.length_map,List.length_append,List.length_take];unfold maxLen;omega) rfl rfl rfl (nd nm zW) trivial fun w5 Db hg => ?_
         replace hw:=hw.own Gf hg;replace au:=au.grown hg (by simpa using C9);replace aB:=aB.grown hg (by simpa using Da.symm);replace hS:=hS.grown hg (by simpa using BJ.symm);have eN:(acc++s.aa[k].Names.take j).map k7++[k7 nm]=(acc++s.aa[k].Names.take (j+1)).map k7:=by rw [List.take_succ_eq_append_getElem jq,qg];simp
         rw [eN] at Db;refine Wz ?_;exact ae.again (j+1) ⟨rfl,rfl,rfl,rfl,rfl,rfl,rfl,rfl,rfl,rfl,trivial⟩ (by omega) ⟨by omega,hw,au,aB,Db,hS,go (fun h=>by omega)⟩
        ·obtain ⟨ql,Ax⟩ : ∃ ql,(!eQ (s.aa[k].Names[j-1]'(by omega)) nm)=ql:=⟨_,rfl⟩;have gP:=dm.names.one (show j-1<cs[k].Names.n by omega) (u := .string (s.aa[k].Names[j-1]'(by omega))) rfl;cases ql
         ·repeat' (first|refine Wz ?_|refine SW.want rfl rfl ?_|refine SW.st (aV (j-1) rfl rfl (by assumption) (by omega) (by omega)) rfl ?_|refine SW.st (ag hw rfl gN) rfl ?_|refine SW.st (ag hw rfl gP) rfl ?_|(refine SW.call rfl rfl (zX _) ?_;intro v w1 ab hv;subst hv;replace hw:=Ext.trans hw ab;replace au:=au.ext ab;replace aB:=aB.ext ab;replace hN:=hN.ext ab;replace hS:=hS.ext ab;clear ab)|(refine SW.st ((mD hN zW rfl rfl).eq (congrArg Value.bool BM)) rfl ?_)|(refine SW.st ((sO rfl rfl).eq (congrArg Value.bool Ax)) rfl ?_))
          all_goals try omega
          refine SW.uV hN (string_keyed sb) pE ky (by simp only [List.length_map,List.length_append,List.length_take];unfold maxLen;omega) rfl rfl rfl (nd nm zW) trivial fun w5 Db hg => ?_
          replace hw:=hw.own Gf hg;replace au:=au.grown hg (by simpa using C9);replace aB:=aB.grown hg (by simpa using Da.symm);replace hS:=hS.grown hg (by simpa using BJ.symm);have eN:(acc++s.aa[k].Names.take j).map k7++[k7 nm]=(acc++s.aa[k].Names.take (j+1)).map k7:=by rw [List.take_succ_eq_append_getElem jq,qg];simp
          rw [eN] at Db;refine Wz ?_;exact ae.again (j+1) ⟨rfl,rfl,rfl,rfl,rfl,rfl,rfl,rfl,rfl,rfl,trivial⟩ (by omega) ⟨by omega,hw,au,aB,Db,hS,go (fun _=>by simpa using Ax)⟩
         ·rw [nE (.inr (.inr ⟨wL,by simpa using Ax⟩))];repeat' (first|refine Wz ?_|refine SW.want rfl rfl ?_|refine SW.st (aV (j-1) rfl rfl (by assumption) (by omega) (by omega)) rfl ?_|refine SW.st (ag hw rfl gN) rfl ?_|refine SW.st (ag hw rfl gP) rfl ?_|(refine SW.call rfl rfl (zX _) ?_;intro v w1 ab hv;subst hv;replace hw:=Ext.trans hw ab;replace au:=au.ext ab;replace aB:=aB.ext ab;replace hN:=hN.ext ab;replace hS:=hS.ext ab;clear ab)|(refine SW.st ((mD hN zW rfl rfl).eq (congrArg Value.bool BM)) rfl ?_)|(refine SW.st ((sO rfl rfl).eq (congrArg Value.bool Ax)) rfl ?_))
          all_goals try omega
          exact ae.aF rfl rfl ⟨_,rfl,hw,rfl⟩
       ·rw [nE (.inr (.inl rfl))];repeat' (first|refine Wz ?_|refine SW.want rfl rfl ?_|refine SW.st (ag hw rfl gN) rfl ?_|(refine SW.call rfl rfl (zX _) ?_;intro v w1 ab hv;subst hv;replace hw:=Ext.trans hw ab;replace au:=au.ext ab;replace aB:=aB.ext ab;replace hN:=hN.ext ab;replace hS:=hS.ext ab;clear ab)|(refine SW.st ((mD hN zW rfl rfl).eq (congrArg Value.bool BM)) rfl ?_))
        exact ae.aF rfl rfl ⟨_,rfl,hw,rfl⟩
     ·have BN:r8 (bI (s.aa.take k)) s.aa[k].Names:=⟨fun i h=>by rw [sd];exact hJ i h (by omega)⟩
      rw [List.take_of_length_le (by omega)] at hN;refine Wz ?_;clear hJ hj fF yu
      refine CW.loop (fun j:Nat=>[(1,.pointer (some ⟨b1,0,none⟩)),(3,.map (some bN)),(4,.map (some bS)),(30,.slice r.aa.A r.aa.n r.aa.c),(31,.int .i64 (r.aa.n:Int)),(32,.int .i64 (k:Int)),(83,.slice cs[k].ah.A cs[k].ah.n cs[k].ah.c),(84,.int .i64 (cs[k].ah.n:Int)),(85,.int .i64 (j:Int))])
       (fun j w'=>j≤cs[k].ah.n∧Ext w w'∧aU w' b1 44 (aH r)∧jz w' Tryz.prog 9 4 bN ((acc++s.aa[k].Names).map k7)∧jz w' Tryz.prog 3 4 bS ((lX++(s.aa[k].ah.take j).map fun x=>x.At).map n7) ∧
         ∀ (i:Nat) (h:i<s.aa[k].ah.length),i<j→s.aa[k].ah[i].At∉lX++(s.aa[k].ah.take i).map fun x=>x.At) (fun j=>cs[k].ah.n-j) 0
       ⟨rfl,rfl,rfl,rfl,rfl,rfl,rfl,rfl,rfl,trivial⟩ ⟨by omega,hw,au,hN,by simpa using hS,fun i h h'=>by omega⟩ ?_
      clear hw au hN hS aB;rintro j w' ⟨hj,hw,au,hN,hS,hJ⟩
      have yu:=dm.aL.base;by_cases fF:j<cs[k].ah.n
      ·have jq:j<s.aa[k].ah.length:=by omega
       obtain ⟨x,hx⟩ : ∃ x,s.aa[k].ah[j]=x:=⟨_,rfl⟩;have gS:=dm.aL.all fF;rw [hx] at gS;have fx : -9223372036854775808≤x.At∧x.At≤9223372036854775807:=by rw [← hx];exact fS _ (List.getElem_mem jq)
       repeat' (first|refine Wz ?_|refine SW.st (aA hw rfl rfl gS) rfl ?_)
       refine SW.alloc rfl fun vI w1 ab pJ bu => ?_
       skip;refine SW.aj bu rfl rfl rfl rfl (fM.one (enc:=bB) _) fun w2 ll hg => ?_
       have ai:=ab.own pJ hg;have rc:w.heap.size≤vI:=Nat.le_trans hw.size pJ
       replace hw:=Ext.trans hw ai;replace au:=au.ext ai;replace hN:=hN.ext ai;replace hS:=hS.ext ai;replace bu:=ll;clear ll ab hg ai;by_cases ju:x.At∈lX++(s.aa[k].ah.take j).map fun x=>x.At
       ·have E6:=decide_eq_true ju
        rw [iG fun hm=>by
         have:=(hm.each k cG).aL j jq
         rw [hx,se] at this;exact this ju]
        repeat' (first|refine Wz ?_|(refine SW.st ((tr hS fx rfl rfl).eq (congrArg Value.bool E6)) rfl ?_))
        exact ae.aF rfl rfl ⟨_,rfl,hw,rfl⟩
       ·have E6:=decide_eq_false ju;repeat' (first|refine Wz ?_|(refine SW.st ((tr hS fx rfl rfl).eq (congrArg Value.bool E6)) rfl ?_))
        refine SW.uV hS (int_keyed sc) tq ky (by simp only [List.length_map,List.length_append,List.length_take];unfold maxLen;omega) rfl rfl rfl (keyOf_int fx) trivial fun w5 vJ hg => ?_
        replace hw:=hw.own HB hg;replace au:=au.grown hg (by simpa using E3);replace hN:=hN.grown hg (by simpa using BJ);have eN:(lX++(s.aa[k].ah.take j).map fun x=>x.At).map n7++[n7 x.At]=(lX++(s.aa[k].ah.take (j+1)).map fun x=>x.At).map n7:=by rw [List.take_succ_eq_append_getElem jq,hx];simp
        rw [eN] at vJ;refine Wz ?_
        exact ae.again (j+1) ⟨rfl,rfl,rfl,rfl,rfl,rfl,rfl,rfl,rfl,trivial⟩ (by omega) ⟨by omega,hw,au,hN,vJ,fun i h h'=>by
         by_cases ei:i=j
         ·subst ei;rw [hx];exact ju
         ·exact hJ i h (by omega)⟩
      ·rw [List.take_of_length_le (by omega),← se,← gY s.aa k cG] at hS;rw [← sd,← gW s.aa k cG] at hN;refine Wz ?_
       exact ae.again (k+1) ⟨rfl,rfl,rfl,rfl,rfl,rfl,trivial⟩ (by omega) ⟨by omega,hw,au,hN,hS,fun i h h'=>by
        by_cases ei:i=k
        ·subst ei;exact ⟨xy,ub,BN,fun i h=>by rw [se];exact hJ i h (by omega)⟩
        ·exact hI i h (by omega)⟩
    ·have hF:eD s=false:=iG fun hm=>by
      obtain ⟨d,hd,he⟩:=List.any_eq_true.1 hy;obtain ⟨j,hj,rfl⟩:=List.mem_take_iff_getElem.1 hd;have e1:=(hc.each.get j (by omega) (by omega)).size;have e2:=dm.size;have:=of_decide_eq_true he
      exact (hm.each k cG).size j (by omega) (by rw [← e1,← e2];exact this)
     rw [hF];repeat' (first|refine Wz ?_|refine SW.want rfl rfl ?_|((first|refine SW.call rfl rfl (cC _ hw) ?_|refine SW.call rfl rfl (cD _ hw aB) ?_);intro v w1 ab hv;subst hv;replace hw:=Ext.trans hw ab;replace au:=au.ext ab;replace aB:=aB.ext ab;replace hN:=hN.ext ab;replace hS:=hS.ext ab;clear ab)|(refine SW.st (db (k:=k) rfl rfl (by omega)) rfl ?_)|(refine SW.st (fT (vs:=[.pointer (some ⟨b6,0,none⟩)]) rfl) rfl ?_))
     exact ae.aF rfl rfl ⟨_,rfl,hw,rfl⟩
  ·rw [uR ⟨g1,hH,g3,fun i h=>hI i h (by omega)⟩];refine Wz ?_;exact ae.aF rfl rfl ⟨_,rfl,hw,rfl⟩
 ·have hF:eD s=false:=iG fun hm=>pH ⟨hm.words,by rw [← hq];exact mn hm.heap,hm.most⟩
  rw [hF];cases q
  all_goals simp only [if_true,Bool.false_eq_true,if_false] at c1
  all_goals simp only [true_and,Bool.false_eq_true,false_and,and_false,not_false_eq_true] at pH
  ·rcases (show s.Words.length≠4096∨s.Words.length=4096 by omega) with g|g
   all_goals
    repeat' (first|refine Wz ?_|refine SW.st (aS rfl rfl ((eK au))) rfl ?_|(refine SW.call rfl rfl (c1 _ hw) ?_;intro v w1 ab hv;subst hv;replace hw:=Ext.trans hw ab;replace au:=au.ext ab;clear ab))
    all_goals try omega
    exact ae.aF rfl rfl ⟨_,rfl,hw,rfl⟩
  ·rcases (show s.Words.length≠4096∨(s.Words.length=4096∧20<s.aa.length) by omega) with g|g
   all_goals
    repeat' (first|refine Wz ?_|refine SW.st (aS rfl rfl ((eK au))) rfl ?_|(refine SW.call rfl rfl (c1 _ hw) ?_;intro v w1 ab hv;subst hv;replace hw:=Ext.trans hw ab;replace au:=au.ext ab;clear ab))
    all_goals try omega
    exact ae.aF rfl rfl ⟨_,rfl,hw,rfl⟩
theorem pK:∀ (n:Nat) (l:List Nat),l.Nodup→(∀ x∈l,x<n)→l.length≤n
 | 0,l,_,h=>by
   cases l with
   | nil=>simp
   | cons a r=>exact absurd (h a (by simp)) (by omega)
 | n+1,l,hd,h=>by
   have h1:=pK n (l.erase n) (hd.erase n) (fun x hx=>by
    have:=hd.mem_erase_iff.1 hx
    have:=h x this.2
    omega)
   have h2:l.length≤(l.erase n).length+1:=by
    rw [List.length_erase];split<;>omega
   omega
theorem re {α β:Type} {f : α → β} {l:List α} (hd:l.Nodup) (hf:∀ x∈l,∀ y∈l,f x=f y→x=y) : (l.map f).Nodup:=by
 induction l with
 | nil=>simp
 | cons a r ih =>
   rw [List.nodup_cons] at hd;rw [List.map_cons,List.nodup_cons];refine ⟨fun h => ?_,ih hd.2 fun x hx y hy=>hf x (by simp [hx]) y (by simp [hy])⟩;obtain ⟨b,hb,e⟩:=List.mem_map.1 h;have:=hf b (by simp [hb]) a (by simp) e
   subst this;exact hd.1 hb
theorem iH {α:Type} {acc l:List α} (h:acc.Nodup) : ∀ (j:Nat),(∀ (k:Nat) (hk:k<l.length),k<j→l[k]∉acc++l.take k)→(acc++l.take j).Nodup
 | 0,_=>by simpa using h
 | j+1,hi=>by
   have ih:=iH (l:=l) h j (fun k hk hj=>hi k hk (by omega));by_cases hj:j<l.length
   ·rw [List.take_succ_eq_append_getElem hj,← List.append_assoc,List.nodup_append];refine ⟨ih,by simp,fun a ha b hb e => ?_⟩;simp at hb;subst hb e;exact hi j hj (by omega) ha
   ·rw [List.take_of_length_le (by omega)];rwa [List.take_of_length_le (by omega)] at ih
def sh (b:UInt8) : Nat:=if b.toNat<97 then b.toNat-47 else b.toNat-86
def j1:List UInt8→Nat
 | []=>0
 | b::r=>sh b+37*j1 r
theorem mE {b:UInt8} (h:jt b=false) : 1≤sh b∧sh b≤36:=by
 unfold jt at h;simp at h;unfold sh;split<;>omega
theorem yv {b c:UInt8} (h:jt b=false) (k:jt c=false) (e:sh b=sh c) : b=c:=by
 unfold jt at h k;simp at h k;unfold sh at e;apply UInt8.toNat_inj.1;split at e<;>split at e<;>omega
theorem tu:∀ (l:List UInt8),(∀ b∈l,jt b=false)→j1 l<37 ^ l.length
 | [],_=>by simp [j1]
 | b::r,h=>by
   have h1:=mE (h b (by simp));have h2:=tu r (fun x hx=>h x (by simp [hx]));simp only [j1,List.length_cons,Nat.pow_succ];omega
theorem rf:∀ (l m:List UInt8),(∀ b∈l,jt b=false)→(∀ b∈m,jt b=false)→j1 l=j1 m→l=m
 | [],[],_,_,_=>rfl
 | [],c::t,_,k,e=>by
   have:=mE (k c (by simp))
   simp only [j1] at e;omega
 | b::r,[],h,_,e=>by
   have:=mE (h b (by simp))
   simp only [j1] at e;omega
 | b::r,c::t,h,k,e=>by
   have h1:=mE (h b (by simp));have h2:=mE (k c (by simp));simp only [j1] at e;have e1:sh b=sh c:=by omega
   have e2:j1 r=j1 t:=by omega
   rw [yv (h b (by simp)) (k c (by simp)) e1,rf r t (fun x hx=>h x (by simp [hx])) (fun x hx=>k x (by simp [hx])) e2]
theorem nf {s:ByteArray}:fh s=true↔(1≤s.size∧s.size≤8) ∧ ∀ b∈s.data.toList,jt b=false:=by
 unfold fh;rw [Bool.and_eq_true,decide_eq_true_iff,Bool.not_eq_true',List.any_eq_false];constructor
 ·rintro ⟨h,k⟩
  exact ⟨by omega,fun b hb=>by simpa using k b hb⟩
 ·rintro ⟨h,k⟩
  exact ⟨by omega,fun b hb=>by simp [k b hb]⟩
theorem tv {l:List ByteArray} (hd:l.Nodup) (hv:∀ n∈l,fh n=true) : l.length≤3512479453921:=by
 have h:=pK 3512479453921 (l.map fun n=>j1 n.data.toList) (re hd fun x hx y hy e => ?_) (fun z hz => ?_)
 ·simpa using h
 ·have h1:=rf _ _ (nf.1 (hv x hx)).2 (nf.1 (hv y hy)).2 e;cases x;cases y
  simpa using h1
 ·obtain ⟨n,hn,rfl⟩:=List.mem_map.1 hz;obtain ⟨h1,h2⟩:=nf.1 (hv n hn);have h3:=tu _ h2;have h4:n.data.toList.length≤8:=by rw [Array.length_toList];exact h1.2
  have h5 : 37 ^ n.data.toList.length≤37 ^ 8:=Nat.pow_le_pow_right (by omega) h4
  exact Nat.lt_of_lt_of_le h3 h5
theorem wM {l:List Int} (hd:l.Nodup) (hv:∀ n∈l,0≤n∧n≤255) : l.length≤256:=by
 have h:=pK 256 (l.map Int.toNat) (re hd fun x hx y hy e => ?_) (fun z hz => ?_)
 ·simpa using h
 ·have:=hv x hx
  have:=hv y hy
  omega
 ·obtain ⟨n,hn,rfl⟩:=List.mem_map.1 hz;have:=hv n hn
  omega
theorem zY {l:List Block} (h:kq l) {a:Int} (hf:bc l a=true) : 0≤a∧a≤255:=by
 obtain ⟨hm,e⟩:=fZ hf;have:=(h.each _ hm).2.1
 omega
theorem jR.at_ {s:ar} {c:aZ} {i:Nat} {h:i<c.ah.length} (hm:jR s c i h) (hH:bq s.Heap) (ho : 0≤c.Order) : bc s.Heap.Live c.ah[i].At=true∧0≤c.ah[i].At∧c.ah[i].At≤255:=by
 have hf:bc s.Heap.Live c.ah[i].At=true:=by
  cases hf:bc s.Heap.Live c.ah[i].At
  ·have:=hm.live
   rw [nb hf] at this;omega
  ·rfl
 exact ⟨hf,zY hH.live hf⟩
theorem gR.Eg {s:ar} {c:aZ} (hm:gR s c) (hH:bq s.Heap) : ∀ x∈c.ah,0≤x.At∧x.At≤255:=fun x hx=>by
 obtain ⟨i,hi,rfl⟩:=List.getElem_of_mem hx;exact ((hm.aL i hi).at_ hH (gq hm.lay).2.1.1).2
theorem tw {s:ar} (hH:bq s.Heap) : ∀ (k:Nat),k≤s.aa.length→(∀ (i:Nat) (h:i<s.aa.length),i<k→ox s i h) →
 ((bI (s.aa.take k)).Nodup ∧ ∀ n∈bI (s.aa.take k),fh n=true)∧((bX (s.aa.take k)).Nodup ∧ ∀ a∈bX (s.aa.take k),0≤a∧a≤255)
 | 0,_,_=>by simp [bI,bX]
 | k+1,hk,hI=>by
   obtain ⟨⟨h1,h2⟩,h3,h4⟩:=tw hH k (by omega) (fun i h h'=>hI i h (by omega));have hc:=hI k (by omega) (by omega);rw [gW _ _ (by omega),gY _ _ (by omega)];refine ⟨⟨?_,fun n hn => ?_⟩,?_,fun a ha => ?_⟩
   ·have:=iH (l:=(s.aa[k]'(by omega)).Names) h1 (s.aa[k]'(by omega)).Names.length (fun i hi _=>(hc.names.each i hi).2.1)
    rwa [List.take_length] at this
   ·rcases List.mem_append.1 hn with hn|hn
    ·exact h2 n hn
    ·obtain ⟨i,hi,rfl⟩:=List.getElem_of_mem hn;exact (hc.names.each i hi).1
   ·have:=iH (l:=(s.aa[k]'(by omega)).ah.map fun x=>x.At) h3 (s.aa[k]'(by omega)).ah.length (fun i hi _=>by
     have:=hc.aL i (by simpa using hi)
     simpa [List.map_take] using this)
    rwa [← List.map_take,List.take_length] at this
   ·rcases List.mem_append.1 ha with ha|ha
    ·exact h4 a ha
    ·obtain ⟨x,hx,rfl⟩:=List.mem_map.1 ha;exact hc.may.Eg hH x hx
open Go.RowKit
section
variable {P:Program} {n:Nat} {ops:Array Oper} {Q:Exit→Act→World→Prop} {rest:List Oper} {L:Env} {w:World} {d:Nat} {T:TypeId} {pos:String} {af:Array Edge}
end
section
variable {α:Type} {P:Program} {w:World} {lo:Nat} {t e:TypeId} {z:Value} {sz bytes:Nat} {enc : α → List Value} {A X:Option Addr} {n c m d:Nat} {l ys:List α}
theorem tx [S:bj P t e sz] [T:ct P e z sz bytes] [E:fM enc sz] (ty:TypeId) (hO:Own w lo e sz enc A n c l) (hS:Sl w sz enc X m ys) (gh:lo≤w.heap.size) (uo : 0<m)
 (hb:(n+m)*bytes≤140737488355328) (hm:n+m≤maxLen) :
 ∃ A' c' w',(Builtin.append_ #[t,t] ty #[.slice A n c,.slice X m d]).run P w = .ok (.slice A' (n+m) c') w' ∧
  ((A'=A∧c'=c∧Own w' lo e sz enc A (n+m) c (l++ys)∧w.grownBy w' (aX A c))∨(Own w' w.heap.size e sz enc A' (n+m) c' (l++ys)∧w.grownBy w' none)):=by
 obtain ⟨i,hi,hz,hs,qI⟩:=da P e (z:=z) (sz:=sz) (bytes:=bytes);have xu:(ys.flatMap enc).length=m*sz:=by rw [aO,hS.len]
 have mO:∀ u∈ys.flatMap enc,u.oneCell'=true:=fun u hu=>by
  obtain ⟨x,_,hx⟩:=List.mem_flatMap.1 hu;exact E.one x u hx
 have AW:(l++ys).flatMap enc=l.flatMap enc++ys.flatMap enc:=List.flatMap_append
 have lz:(l++ys).length=n+m:=by rw [List.length_append,hO.len,hS.len]
 obtain ⟨ad,rfl⟩:=Option.isSome_iff_exists.1 (hS.base uo);have l7:=dl T.pos hS;have E7:(l.flatMap enc).length=n*sz:=by rw [aO,hO.len]
 have BO:∀ b,A=some b→c<n+m→(∀ j u,(l.flatMap enc)[j]?=some u→w.cell? (b.add j)=some u) →
  ∃ A' c' w',(Builtin.append_ #[t,t] ty #[.slice A n c,.slice (some ad) m d]).run P w = .ok (.slice A' (n+m) c') w'∧(Own w' w.heap.size e sz enc A' (n+m) c' (l++ys)∧w.grownBy w' none):=by
  rintro b rfl dH hold;obtain ⟨v',w',hr,h2,h3⟩:=run_append_arg_grows (P:=P) w t ty e i z sz bytes S.iK hi hz hs qI T.zc T.pos b n c (l.flatMap enc) E7 hold ad m d (ys.flatMap enc) xu l7 dH hm hb;rw [← AW] at h2;obtain ⟨A',c',rfl,ho⟩:=Own.kO h2 lz;exact ⟨A',c',w',hr,ho,h3⟩
 rcases hO.row with ⟨rfl,rfl⟩|⟨hc,g,fk,rfl,D4,xJ,qd,ur,uu,nR⟩
 ·have hl:l=[]:=List.eq_nil_of_length_eq_zero hO.len
  subst hl;cases A with
  | none =>
    obtain ⟨v',w',hr,h2,h3,_⟩:=run_append_own (P:=P) w w.heap.size t ty e i z sz bytes S.iK hi hz hs qI T.zc T.pos (.slice none 0 0) 0 [] (World.ownsRow_nil _ _ _ _) ad m d (ys.flatMap enc) xu l7 mO hm hb (Nat.le_refl _);obtain ⟨A',c',rfl,ho⟩:=Own.kO (m:=0+m) (l:=[]++ys) (enc:=enc) (by simpa using h2) (by simpa using hS.len);exact ⟨A',c',w',hr,.inr ⟨ho,by simpa [Value.ownBlock] using h3⟩⟩
  | some b =>
    obtain ⟨A',c',w',hr,h⟩:=BO b rfl (by omega) (by simp);exact ⟨A',c',w',hr,.inr h⟩
 ·by_cases iE:n+m≤c
  ·obtain ⟨A',c',w',hr,h1,h2⟩:=kd (P:=P) (t:=t) ty hO hS (d:=d) gh hb hm;have sK:=run_append_room (P:=P) w t ty e i S.iK hi g n c fk xJ ad m d (ys.flatMap enc) (by rw [hs];exact xu) l7 mO iE (by rw [hs,xu,uu,← Nat.add_mul];exact Nat.mul_le_mul_right _ iE);have he:=hr.symm.trans sK;injection he with he _
   injection he with e1 _ e3
   subst e1 e3;exact ⟨_,_,w',hr,.inl ⟨rfl,rfl,h1,h2⟩⟩
  ·obtain ⟨A',c',w',hr,h⟩:=BO ⟨g,0,none⟩ rfl (by omega) ((hO.owns hc).cells (g:=g) (by simp [Value.ownBlock]));exact ⟨A',c',w',hr,.inr h⟩
end
theorem SW.vK {α:Type} {P:Program} {n:Nat} {ops:Array Oper} {Q:Exit→Act→World→Prop} {rest:List Oper} {L:Env} {w:World} {dd:Nat} {T:TypeId} {pos:String} {af:Array Edge}
 {lo:Nat} {t e:TypeId} {z:Value} {sz bytes:Nat} {enc : α → List Value} {A X:Option Addr} {k c m c2:Nat} {l ys:List α} [bj P t e sz] [ct P e z sz bytes] [fM enc sz] {x y:Operand}
 (hO:Own w lo e sz enc A k c l) (hS:Sl w sz enc X m ys) (gh:lo≤w.heap.size) (uo : 0<m) (hx:bG L x=some (.slice A k c)) (hy:bG L y=some (.slice X m c2)) (hn:Nat.blt dd n=true)
 (hb:(k+m)*bytes≤140737488355328) (hm:k+m≤9223372036854775807)
 (h:∀ A' c' w',((A'=A∧c'=c∧Own w' lo e sz enc A (k+m) c (l++ys)∧w.grownBy w' (aX A c))∨(Own w' w.heap.size e sz enc A' (k+m) c' (l++ys)∧w.grownBy w' none))→SW P n ops (.eG Q) rest ((dd,.slice A' (k+m) c')::L) w') :
 SW P n ops (.eG Q) (⟨some dd,.call ⟨.builtin .append,#[x,y],#[t,t]⟩,T,pos,af,none⟩::rest) L w :=
 ⟨fun a ha=>by
  obtain ⟨A',c',w',hr,h1⟩:=tx (P:=P) (t:=t) T hO hS (d:=c2) gh uo hb (by simp only [maxLen];omega);simp only [swp,wpList,Region.wanted,if_true];refine .inl ?_;unfold Oper.wp
  have:(execOp a.eval ⟨some dd,.call ⟨.builtin .append,#[x,y],#[t,t]⟩,T,pos,af,none⟩).run P w = .ok (.value (.slice A' (k+m) c')) w':=by
   simp [execOp,resolve,invoke,builtin,ha.eval hx,ha.eval hy,hr]
  rw [this,Oper.upon_value];exact (h A' c' w' h1).out _ (ha.put hn _)⟩
end Go.Proofs.YtbidkghlpijecaaGreatDoor
