/-
  Texts of the claim TopProcessors, part 10: what its theorem leans on.
-/
import Derived.Test.YtbidkghlpijecaaGreatDoorPackTopProcessors9
import Derived.Test.YtbidkghlpijecaaGreatDoorPackTopProcessors2
import Derived.Test.YtbidkghlpijecaaGreatDoorPackTopProcessors5
import Derived.Test.YtbidkghlpijecaaGreatDoorPackTopProcessors1
import Derived.Maps.OwnSet
set_option linter.unusedVariables false
set_option linter.unusedSimpArgs false
namespace Go.Proofs.YtbidkghlpijecaaGreatDoor
open Go.RowKit
theorem G8 {z:Int} (h1 : -18446744073709551616<z) (h2:z < -9223372036854775808) : IntKind.i64.wrap z=z+18446744073709551616:=by
 simp [IntKind.wrap,IntKind.bits,IntKind.signed];omega
theorem vU (r:dv) (t a:Int) (w:World) (hs : 1≤r.aE∧r.aE≤64) (hp : 1≤r.bG∧r.bG≤64) (ht : 0≤t∧t≤255) (ha : -9223372036854775808≤a∧a≤9223372036854775807) :
 bq Tryz.prog 93 [.agg (eA r).toArray,.int .i64 t,.int .i64 a] w fun v _=>v = .bool (iJ r.aE r.bG t a):=by
 refine aG Tryz.func93 rfl Tryz.ntmps93 rfl ?_;refine CW.seq (CW.region (SW.box rfl rfl fun b1 w1 hw jh aI => ?_));have hm:=LQ (x:=r.bG) (y:=r.aE) (by omega) (by omega) (by omega) (by omega);unfold iJ;by_cases gB:a-t*16 < -9223372036854775808
 ·have e:=G8 (z:=a-t*16) (by omega) gB;rw [decide_eq_false (show ¬ 0≤a-t*16 by omega)];repeat' (first|refine Wz ?_|(refine SW.st ((ux rfl rfl).eq (congrArg (Value.int .i64) e)) rfl ?_))
  all_goals try omega
  exact ah.aY rfl rfl ⟨_,rfl,hw,rfl⟩
 ·by_cases h0 : 0≤a-t*16
  ·have e:(a-t*16).tmod r.aE=(a-t*16) % r.aE:=Int.tmod_eq_emod_of_nonneg h0
   rw [decide_eq_true h0];by_cases h1:a-t*16<r.bG*r.aE
   ·rw [decide_eq_true h1];refine Wz ?_;all_goals try omega
    refine ah.aY rfl rfl ⟨_,rfl,hw,?_⟩;rw [e];rfl
   ·rw [decide_eq_false h1];refine Wz ?_;all_goals try omega
    exact ah.aY rfl rfl ⟨_,rfl,hw,rfl⟩
  ·rw [decide_eq_false h0];refine Wz ?_;all_goals try omega
   exact ah.aY rfl rfl ⟨_,rfl,hw,rfl⟩
theorem CP (a:Int) (b4 b5:Nat) (q:dv) (x:Slab) (w:World) (h4:aW w b4 89 (eA q)) (h5:aW w b5 91 (aX x))
 (hs : 1≤q.aE∧q.aE≤64) (hp : 1≤q.bG∧q.bG≤64) (ht : 0≤x.At∧x.At≤255) (ha : 0≤a∧a<9223372036854775807) :
 bq Tryz.prog 185 ([.int .i64 a]++[.pointer (some ⟨b4,0,none⟩),.pointer (some ⟨b5,0,none⟩)]) w fun v _=>v = .bool (!iJ q.aE q.bG x.At a):=by
 refine aG Tryz.func185 rfl Tryz.ntmps185 rfl ?_;have hw:=Ext.refl w;repeat' (first|refine Wz ?_|(refine SW.call rfl rfl (vU q x.At a _ hs hp ht (by omega)) ?_;intro v w1 ae hv;subst hv;replace hw:=Ext.trans hw ae;clear ae))
 exact ah.aY rfl rfl ⟨_,rfl,hw,rfl⟩
def G9 (lo:Nat) (ws:List Int) (size g7:Int) (x:Slab) (v:Value) (w:World) : Prop :=
 (∃ out A k,cm ws size g7 x out∧v = .tuple #[.slice A out.length k,.bool true]∧Own w lo 3 1 bK A out.length k out∧out.length≤17592186044416) ∨
 ((∀ out,¬ cm ws size g7 x out)∧v = .tuple #[.slice none 0 0,.bool false])
theorem xV (r:eQ) (q:dv) (x:Slab) (ws:List Int) (w:World) (hl:Sl w 1 bK r.Words.A r.Words.n ws) (hn:r.Words.n*8≤140737488355328)
 (hs : 1≤q.aE∧q.aE≤64) (hp : 1≤q.bG∧q.bG≤64) (ht : 0≤x.At∧x.At≤255) :
 bq Tryz.prog 94 [.agg (ba r).toArray,.agg (eA q).toArray,.agg (aX x).toArray] w fun v w'=>G9 w.heap.size ws q.aE q.bG x v w':=by
 refine aG Tryz.func94 rfl Tryz.ntmps94 rfl ?_;refine CW.seq (CW.region (SW.box rfl rfl fun b3 w1 hw bQ ax => ?_));refine SW.box rfl rfl fun b4 w2 bF jF bd => ?_
 (replace hw:=Ext.trans hw bF;replace ax:=ax.ext bF);refine SW.box rfl rfl fun b5 w3 jA jj bC => ?_
 (replace hw:=Ext.trans hw jA;replace ax:=ax.ext jA;replace bd:=bd.ext jA);refine Wz ?_;have gB:=hw.size;refine SW.call rfl rfl (CJ _ _ _ _ _ _ _ (hl.ext hw) hn) fun v w4 eM hv => ?_
 obtain ⟨TA,hF,hV⟩:=hv;(replace hw:=Ext.trans hw eM;replace ax:=ax.ext eM;replace bd:=bd.ext eM;replace bC:=bC.ext eM);have NT:=hl.len;rcases TA with _|out
 ·subst hV;refine Wz ?_;refine ah.cb rfl rfl rfl ⟨_,rfl,hw,.inr ⟨fun o h => ?_,rfl⟩⟩;have:=hF.ir h.1
  cases this
 ·obtain ⟨A,k,rfl,hO,hlen⟩:=hV;replace hO:=hO.low gB;by_cases jC:(out.length:Int)=x.aj
  ·have cC:∀ w',Ext w4 w'→bq Tryz.prog 96 [.slice A out.length k,.func (.func 185) #[] [.pointer (some ⟨b4,0,none⟩),.pointer (some ⟨b5,0,none⟩)].toArray] w' fun v _=>v = .bool (out.any fun a => !iJ q.aE q.bG x.At a):=fun w' hx =>
    fF _ _ _ _ _ (hO.sl.ext hx) _ [.pointer (some ⟨b4,0,none⟩),.pointer (some ⟨b5,0,none⟩)] (fun a => !iJ q.aE q.bG x.At a) (fun x => .int .i64 x) (fun x=>rfl)
     (fun a ha w1 jn=>by
       have hm:=hF.mem (by simp) out rfl a ha;exact CP a b4 b5 q x w1 ((bd.ext hx).ext jn) ((bC.ext hx).ext jn) hs hp ht ⟨hm.1,by omega⟩) (by omega)
   have TB:=Ext.refl w4;repeat' (first|refine Wz ?_|(refine SW.st (gI (vs:=[.pointer (some ⟨b4,0,none⟩),.pointer (some ⟨b5,0,none⟩)]) rfl) rfl ?_))
   refine SW.call rfl rfl (cC _ TB) fun v w5 nA hv => ?_
   (replace hw:=Ext.trans hw nA;replace hO:=hO.ext nA);subst hv;cases fJ:out.any fun a => !iJ q.aE q.bG x.At a
   ·refine Wz ?_;refine ah.cb rfl rfl rfl ⟨_,rfl,hw,.inl ⟨out,A,k,⟨hF,jC,fun a ha => ?_⟩,rfl,hO,hlen⟩⟩;rw [List.any_eq_false] at fJ;simpa using fJ a ha
   ·refine Wz ?_;refine ah.cb rfl rfl rfl ⟨_,rfl,hw,.inr ⟨fun o h => ?_,rfl⟩⟩;obtain ⟨a,ha,RM⟩:=List.any_eq_true.1 fJ;have e:=hF.ir h.1;injection e with e
    subst e;rw [h.2.2 a ha] at RM;cases RM
  ·refine Wz ?_;all_goals try omega
   refine ah.cb rfl rfl rfl ⟨_,rfl,hw,.inr ⟨fun o h => ?_,rfl⟩⟩;have e:=hF.ir h.1;injection e with e
   subst e;exact jC h.2.1
open Go.RowKit
def sI (y:cy) (x:ay) : Prop:=y.fT=x.fT∧y.ao=x.ao∧y.Ty=x.Ty
theorem Lx.key {w:World} {r:cy} {l:ay} (h:Lx w r l) : sI r l:=⟨h.cpu,h.iG,h.ty⟩
theorem sJ (r:gC) (L:List ay) (ls:List cy) (x:ay) (y:cy) (w:World) (hl:vy w r.au ls L) (hk:sI y x) (hn:r.au.n≤1000000000000000000) :
 bq Tryz.prog 113 [.agg (cV r).toArray,.agg (bI y).toArray] w fun v _=>v = .tuple #[.int .i64 (bg L x:Int),.bool (cK L x)]:=by
 refine aG Tryz.func113 rfl Tryz.ntmps113 rfl ?_;refine CW.seq (CW.region (SW.box rfl rfl fun b2 w1 hw j0 aD => ?_));refine SW.box rfl rfl fun b3 w2 bF bQ ax => ?_
 (replace hw:=Ext.trans hw bF;replace aD:=aD.ext bF);obtain ⟨l1,l2⟩:=hl.len;have hA:=hl.row.base;refine Wz ?_
 refine CW.loop (fun i:Nat=>[(2,.pointer (some ⟨b2,0,none⟩)),(3,.pointer (some ⟨b3,0,none⟩)),(6,.int .i64 (i:Int))])
  (fun i w'=>i≤r.au.n∧Ext w w'∧aW w' b2 41 (cV r)∧aW w' b3 142 (bI y) ∧ ∀ (k:Nat) (h:k<L.length),k<i→bZ L[k] x) (fun i=>r.au.n-i) 0
  ⟨rfl,rfl,rfl,trivial⟩ ⟨by omega,hw,aD,ax,fun k h h'=>by omega⟩ ?_
 clear hw aD ax;rintro i w' ⟨hi,hw,aD,ax,hI⟩
 by_cases df:i<r.au.n
 ·have r9:i<L.length:=by omega
  have xv:i<ls.length:=by omega
  have RN:=hl.each.get i xv r9;obtain ⟨q,hq⟩ : ∃ q,decide (bZ L[i] x)=q:=⟨_,rfl⟩;obtain ⟨p,hp⟩ : ∃ p,decide (bZ x L[i])=p:=⟨_,rfl⟩
  have cL:∀ w',bq Tryz.prog 194 [.agg (bI ls[i]).toArray,.agg (bI y).toArray] w' fun v _=>v = .bool q:=fun w'=>by
   have:=sG ls[i] y L[i] x w' RN.key hk
   rwa [hq] at this
  have cR:∀ w',bq Tryz.prog 194 [.agg (bI y).toArray,.agg (bI ls[i]).toArray] w' fun v _=>v = .bool p:=fun w'=>by
   have:=sG y ls[i] x L[i] w' hk RN.key
   rwa [hp] at this
  cases q
  ·have m9:=of_decide_eq_false hq;have ek:bg L x=i:=sC (by omega) hI (fun _=>m9)
   have eh:cK L x = !p:=by
    unfold cK;simp only [ek,dif_pos r9,← hp];rcases xR L[i] x with e|e|e
    ·exact absurd e m9
    ·have : ¬ bZ x L[i]:=by unfold bZ fZ at *;omega
     simp [e,this]
    ·have:=(Fa e).2.1
     simp [e,this]
   rw [ek,eh];cases p
   all_goals
    repeat' (first|refine Wz ?_|((apply CW.bl mixed;(· kernel_rfl);rotate_left;intro w1 ae;replace hw:=Ext.trans hw ae;replace aD:=aD.ext ae;replace ax:=ax.ext ae;clear ae;rotate_right))|refine SW.st (aU hw rfl rfl ((hl.row.all df))) rfl ?_|refine SW.cx rfl rfl (fun w1 ae=>(cL _)) ?_|refine SW.cx rfl rfl (fun w1 ae=>(cR _)) ?_|exact SW.dF rfl)
    exact ah.cb rfl rfl rfl ⟨_,rfl,hw,rfl⟩
  ·have Qj:=of_decide_eq_true hq;repeat' (first|refine Wz ?_|((apply CW.bl mixed;(· kernel_rfl);rotate_left;intro w1 ae;replace hw:=Ext.trans hw ae;replace aD:=aD.ext ae;replace ax:=ax.ext ae;clear ae;rotate_right))|refine SW.st (aU hw rfl rfl ((hl.row.all df))) rfl ?_|refine SW.cx rfl rfl (fun w1 ae=>(cL _)) ?_|exact SW.dF rfl)
   exact ah.again (i+1) ⟨rfl,rfl,rfl,trivial⟩ (by omega) ⟨by omega,hw,aD,ax,fun k h h'=>by
    by_cases e:k=i
    ·subst e;exact Qj
    ·exact hI k h (by omega)⟩
 ·have ek:bg L x=i:=sC (by omega) hI (fun h=>by omega)
  have eh:cK L x=false:=by unfold cK;rw [dif_neg (by omega)]
  rw [ek,eh];repeat' (first|refine Wz ?_|((apply CW.bl mixed;(· kernel_rfl);rotate_left;intro w1 ae;replace hw:=Ext.trans hw ae;replace aD:=aD.ext ae;replace ax:=ax.ext ae;clear ae;rotate_right))|exact SW.dF rfl)
  exact ah.cb rfl rfl rfl ⟨_,rfl,hw,rfl⟩
theorem oP (A:Option Addr) (n c:Nat) (l:List Block) (a:Int) (w:World) (hl:Sl w 3 aL A n l) (f:FuncId) [Body Tryz.prog f] (cv:Block→Int) (hf:∀ x∈l,∀ w',Ext w w'→bq Tryz.prog f ([.agg (aL x).toArray,.int .i64 a]++[]) w' fun v _=>v = .int .i64 (cv x))
 (bW:∀ x∈l,cv x≠0) (hn:n≤1000000000000000000) : bq Tryz.prog 105 [.slice A n c,.int .i64 a,.func (.func f) #[] #[]] w fun v _ => ∃ i:Nat,v = .tuple #[.int .i64 (i:Int),.bool false]:=by
 refine aG Tryz.func105 rfl Tryz.ntmps105 rfl ?_;have hw:=Ext.refl w;have hA:=hl.base;have pp:=hl.len;refine Wz ?_
 refine CW.loop (fun s:Nat×Nat=>[(0,.slice A n c),(1,.int .i64 a),(2,.func (.func f) #[] #[]),(8,.int .i64 (n:Int)),(9,.int .i64 (s.1:Int)),(10,.int .i64 (s.2:Int))])
  (fun s w'=>s.1≤s.2∧s.2≤n∧Ext w w') (fun s=>s.2-s.1) (0,n)
  ⟨rfl,rfl,rfl,rfl,rfl,rfl,trivial⟩ ⟨by omega,by omega,hw⟩ ?_
 clear hw;rintro ⟨i,j⟩ w' ⟨lz,nd,hw⟩
 simp only at lz nd ⊢;by_cases dL:i<j
 ·have hk:(i+j) / 2<n:=by omega
  have fe:=hl.lt hk;have tv:=fun w1 h1=>hf (l[(i+j) / 2]) (List.getElem_mem fe) w1 h1
  repeat' (first|refine Wz ?_|refine SW.st (aU hw rfl rfl ((hl.all hk))) rfl ?_|(refine SW.st ((kB Tryz.underlying3 kA rfl).eq (congrArg (Value.int .u64) (wrap_u64 (by omega) (by omega)))) rfl ?_)|(refine SW.st ((kB kA Tryz.underlying3 rfl).eq (congrArg (Value.int .i64) (gf (by omega) (by omega)))) rfl ?_)|(refine SW.st (uB rfl rfl) rfl ?_))
  refine SW.qU (cap:=[]) rfl rfl rfl (tv _ hw) fun v w1 ae hv => ?_
  subst hv;replace hw:=Ext.trans hw ae;by_cases Nz:cv l[(i+j) / 2]<0
  ·refine Wz ?_;exact ah.again ((i+j) / 2+1,j) ⟨rfl,rfl,rfl,rfl,congrArg (fun z=>some (Value.int .i64 z)) (by omega),rfl,trivial⟩ (by simp only;omega) ⟨by simp only;omega,nd,hw⟩
  ·refine Wz ?_;exact ah.again (i,(i+j) / 2) ⟨rfl,rfl,rfl,rfl,rfl,congrArg (fun z=>some (Value.int .i64 z)) (by omega),trivial⟩ (by simp only;omega) ⟨by simp only;omega,by simp only;omega,hw⟩
 ·obtain rfl:i=j:=by omega
  by_cases df:i<n
  ·have fe:=hl.lt df;have tv:=fun w1 h1=>hf (l[i]) (List.getElem_mem fe) w1 h1
   have h0:=bW (l[i]) (List.getElem_mem fe);repeat' (first|refine Wz ?_|refine SW.st (aU hw rfl rfl ((hl.all df))) rfl ?_)
   refine SW.qU (cap:=[]) rfl rfl rfl (tv _ hw) fun v w1 ae hv => ?_
   subst hv;replace hw:=Ext.trans hw ae;refine Wz ?_;refine ah.cb rfl rfl rfl ⟨_,rfl,hw,i,?_⟩;rw [decide_eq_false h0]
  ·refine Wz ?_;exact ah.cb rfl rfl rfl ⟨_,rfl,hw,i,rfl⟩
theorem oQ (x:Block) (a:Int) (w:World) : bq Tryz.prog 191 ([.agg (aL x).toArray,.int .i64 a]++[]) w fun v _=>v = .int .i64 (IntKind.i64.wrap (x.At-a)):=by
 refine aG Tryz.func191 rfl Tryz.ntmps191 rfl ?_;refine CW.seq (CW.region (SW.box rfl rfl fun b1 w1 hw jh aI => ?_));repeat' (first|refine Wz ?_|(refine SW.st (ux rfl rfl) rfl ?_))
 exact ah.aY rfl rfl ⟨_,rfl,hw,rfl⟩
theorem wrap_zero {z:Int} (h1 : -18446744073709551616<z) (h2:z<18446744073709551616) (h:IntKind.i64.wrap z=0) : z=0:=by
 simp [IntKind.wrap,IntKind.bits,IntKind.signed] at h;omega
def Ef (l:List Block) (a:Int) (v:Value) : Prop:=(br l a=true→v = .tuple #[.int .i64 (bi l a:Int),.bool true])∧(br l a=false → ∃ i:Nat,v = .tuple #[.int .i64 (i:Int),.bool false])
theorem Ff (r:gC) (l:List Block) (a:Int) (w:World) (hl:Sl w 3 aL r.Live.A r.Live.n l) (hu:l.Pairwise fun x y=>x.At<y.At) (hb:∀ b∈l,0≤b.At∧b.At≤255) (hn:r.Live.n≤1000000000000000000) (ha : -9223372036854775808≤a∧a≤9223372036854775807) :
 bq Tryz.prog 107 [.agg (cV r).toArray,.int .i64 a] w fun v _=>Ef l a v:=by
 refine aG Tryz.func107 rfl Tryz.ntmps107 rfl ?_;refine CW.seq (CW.region (SW.box rfl rfl fun b1 w1 hw jh aI => ?_));refine Wz ?_;by_cases df : -1000000≤a∧a≤1000000
 ·refine SW.call rfl rfl (gn _ _ _ _ a _ (hl.ext hw) _ (fun x hx w' _=>by
   have:=oQ x a w'
   have h:=hb x hx;rwa [gf (by omega) (by omega)] at this) hu hn) fun v w2 bF hv => ?_
  subst hv;replace hw:=Ext.trans hw bF;refine Wz ?_;refine ah.cb rfl rfl rfl ⟨_,rfl,hw,?_⟩;exact ⟨fun h=>by rw [h];rfl,fun h=>⟨bi l a,by rw [h];rfl⟩⟩
 ·have hf:br l a=false:=by
   unfold br;split
   ·rename_i h;have:=hb _ (List.getElem_mem h)
    exact decide_eq_false (by omega)
   ·rfl
  refine SW.call rfl rfl (oP _ _ _ _ a _ (hl.ext hw) _ (fun x=>IntKind.i64.wrap (x.At-a)) (fun x hx w' _=>oQ x a w') (fun x hx h0=>by
   have h:=hb x hx;have:=wrap_zero (by omega) (by omega) h0
   omega) hn) fun v w2 bF hv => ?_
  obtain ⟨i,rfl⟩:=hv;replace hw:=Ext.trans hw bF;refine Wz ?_;refine ah.cb rfl rfl rfl ⟨_,rfl,hw,?_⟩;exact ⟨fun h=>absurd (hf.symm.trans h) (by simp),fun _=>⟨i,rfl⟩⟩
open Go.RowKit
theorem tE (x:Block) (a:Int) (w:World) : bq Tryz.prog 180 ([.agg (aL x).toArray,.int .i64 a]++[]) w fun v _=>v = .int .i64 (IntKind.i64.wrap (x.At-a)):=by
 refine aG Tryz.func180 rfl Tryz.ntmps180 rfl ?_;refine CW.seq (CW.region (SW.box rfl rfl fun b1 w1 hw jh aI => ?_));repeat' (first|refine Wz ?_|(refine SW.st (ux rfl rfl) rfl ?_))
 exact ah.aY rfl rfl ⟨_,rfl,hw,rfl⟩
theorem AV (A:Option Addr) (n c:Nat) (l:List Block) (a:Int) (w:World) (hl:Sl w 3 aL A n l) (hu:l.Pairwise fun x y=>x.At<y.At) (hb:∀ b∈l,0≤b.At∧b.At≤255) (hn:n≤1000000000000000000) (ha : -9223372036854775808≤a∧a≤9223372036854775807) :
 bq Tryz.prog 105 [.slice A n c,.int .i64 a,.func (.func 180) #[] #[]] w fun v _=>Ef l a v:=by
 by_cases df : -1000000≤a∧a≤1000000
 ·refine (gn _ _ _ _ a _ hl _ (fun x hx w' _=>by
   have:=tE x a w'
   have h:=hb x hx;rwa [gf (by omega) (by omega)] at this) hu hn).mono fun v w2 bF hv => ?_
  subst hv;exact ⟨fun h=>by rw [h],fun h=>⟨bi l a,by rw [h]⟩⟩
 ·have hf:br l a=false:=by
   unfold br;split
   ·rename_i h;have:=hb _ (List.getElem_mem h)
    exact decide_eq_false (by omega)
   ·rfl
  refine (oP _ _ _ _ a _ hl _ (fun x=>IntKind.i64.wrap (x.At-a)) (fun x hx w' _=>tE x a w') (fun x hx h0=>by
   have h:=hb x hx;have:=wrap_zero (by omega) (by omega) h0
   omega) hn).mono fun v w2 bF hv => ?_
  obtain ⟨i,rfl⟩:=hv;exact ⟨fun h=>absurd (hf.symm.trans h) (by simp),fun _=>⟨i,rfl⟩⟩
theorem Fg (x:Slab) (b3:Nat) (t:Int) (w:World) (h3:aW w b3 3 [.int .i64 t]) :
 bq Tryz.prog 231 ([.agg (aX x).toArray]++[.pointer (some ⟨b3,0,none⟩)]) w fun v _=>v = .bool (xg t x):=by
 refine aG Tryz.func231 rfl Tryz.ntmps231 rfl ?_;refine CW.seq (CW.region (SW.box rfl rfl fun b1 w1 hw jh aI => ?_));replace h3:=h3.ext hw;have Kx:=h3.cell (i:=0) (v := .int .i64 t) rfl;rw [add_zero] at Kx;repeat' (first|refine Wz ?_|refine SW.st (aq rfl Kx) rfl ?_)
 exact ah.aY rfl rfl ⟨_,rfl,hw,rfl⟩
theorem AW (q:dv) (l:List Slab) (t:Int) (w:World) (hl:Sl w 3 aX q.ab.A q.ab.n l) (hn:q.ab.n≤9223372036854775807) :
 bq Tryz.prog 181 [.agg (eA q).toArray,.int .i64 t] w fun v _=>v = .int .i64 (idxOf (xg t) l):=by
 refine aG Tryz.func181 rfl Tryz.ntmps181 rfl ?_;refine CW.seq (CW.region (SW.box rfl rfl fun b2 w1 hw j0 aD => ?_));refine SW.Gu rfl rfl rfl fun b3 w2 bF bQ ax => ?_
 (replace hw:=Ext.trans hw bF;replace aD:=aD.ext bF);repeat' (first|refine Wz ?_|(refine SW.st (gI (vs:=[.pointer (some ⟨b3,0,none⟩)]) rfl) rfl ?_))
 refine SW.call rfl rfl (gQ _ _ _ _ _ (hl.ext hw) _ [.pointer (some ⟨b3,0,none⟩)] (xg t) (fun x => .agg (aX x).toArray) (fun x=>rfl) (fun x _ w1 jn=>Fg x b3 t w1 (ax.ext jn)) hn) fun v w4 eM hv => ?_
 subst hv;replace hw:=Ext.trans hw eM;refine Wz ?_;exact ah.aY rfl rfl ⟨_,rfl,hw,rfl⟩
theorem xW {x:Int} {w:World} {f:FuncId} {o n e:Int} (h:bq Tryz.prog f [.int .i64 x] w fun v _=>v=l9 x) (hE:dy x=(o,n,e)) : bq Tryz.prog f [.int .i64 x] w fun v _=>v = .tuple #[.int .i64 o,.int .i64 n,.int .i64 e]:=by
 refine h.mono fun v w' _ hv => ?_
 rw [hv,l9,hE]
set_option maxHeartbeats 4000000 in
theorem Fh (r:eQ) (s:ag) (q:dv) (c:aF) (w:World) (hr:Ab w r s) (hq:CF w q c) (hs:s.small) (m7:c.small) (hH:bp s.Heap) (lP:∀ x∈c.ab,-9223372036854775808≤x.At∧x.At≤9223372036854775807) :
 bq Tryz.prog 89 [.agg (ba r).toArray,.agg (eA q).toArray] w fun v _=>v = .bool (ms s c):=by
 refine aG Tryz.func89 rfl Tryz.ntmps89 rfl ?_;refine CW.seq (CW.region (SW.box rfl rfl fun b2 w1 hw j0 aD => ?_));refine SW.box rfl rfl fun b3 w2 bF bQ ax => ?_
 (replace hw:=Ext.trans hw bF;replace aD:=aD.ext bF);obtain ⟨o,n,e,hE⟩ : ∃ o n e,dy c.aE=(o,n,e):=⟨_,_,_,rfl⟩;have eS:=hq.size;have eP:=hq.g7;have eO:=hq.order;have n1:=hq.names.len;have n2:=hq.aH.len;have n3:=hq.a8.len;have m1:=m7.names;have m2:=m7.aH;have m3:=m7.a8;have eC:=hr.heap.cpus;have wl:=hr.words.len;have m4:=hs.words;have pp:=hr.heap.live.len;have m5:=hs.heap.live;have Jc:=hq.cap;have cL:∀ w',bq Tryz.prog 141 [.int .i64 q.aE] w' fun v _=>v = .tuple #[.int .i64 o,.int .i64 n,.int .i64 e]:=fun w'=>xW (vE q.aE w') (by rw [eS];exact hE)
 rcases (show ¬ (e=0∧c.Order=o∧c.bG=n∧0<c.Names.length∧(c.ar.length:Int)=s.Heap.bw)∨(e=0∧c.Order=o∧c.bG=n∧0<c.Names.length∧(c.ar.length:Int)=s.Heap.bw) by omega) with ra|⟨h1,h2,h3,h4,h5⟩
 ·have hF:ms s c=false:=lG fun hm=>ra (by
   have:=hm.lay
   rw [hE] at this;simp only [Prod.mk.injEq] at this;exact ⟨this.2.2,this.1.symm,this.2.1.symm,hm.names,hm.a8⟩)
  rw [hF];rcases (show e≠0∨(e=0∧c.Order≠o)∨(e=0∧c.Order=o∧c.bG≠n)∨(e=0∧c.Order=o∧c.bG=n∧c.Names.length=0)∨(e=0∧c.Order=o∧c.bG=n∧0<c.Names.length∧(c.ar.length:Int)≠s.Heap.bw) by omega) with g|g|g|g|g
  all_goals
   repeat' (first|refine Wz ?_|(refine SW.call rfl rfl (cL _) ?_;intro v w1 ae hv;subst hv;replace hw:=Ext.trans hw ae;replace aD:=aD.ext ae;replace ax:=ax.ext ae;clear ae))
   all_goals try omega
   exact ah.aY rfl rfl ⟨_,rfl,hw,rfl⟩
 ·subst h1;have Ha:dy c.aE=(c.Order,c.bG,0):=by rw [hE,h2,h3]
  obtain ⟨l1,l2,l3⟩:=db hE;have dL:=jO hH.live
  have RO:∀ b∈s.Heap.Live,0≤b.At∧b.At≤255:=fun b hb=>by
   obtain ⟨i,hi,rfl⟩:=List.getElem_of_mem hb;exact (hH.live.each i hi).2.1
  repeat' (first|refine Wz ?_|(refine SW.call rfl rfl (cL _) ?_;intro v w1 ae hv;subst hv;replace hw:=Ext.trans hw ae;replace aD:=aD.ext ae;replace ax:=ax.ext ae;clear ae))
  all_goals try omega
  clear cL
  refine CW.loop (fun k:Nat=>[(2,.pointer (some ⟨b2,0,none⟩)),(3,.pointer (some ⟨b3,0,none⟩)),(5,.int .i64 o),(53,.slice q.ab.A q.ab.n q.ab.c),(54,.int .i64 (q.ab.n:Int)),(55,.int .i64 (k:Int))])
   (fun k w'=>k≤q.ab.n∧Ext w w'∧aW w' b2 44 (ba r)∧aW w' b3 89 (eA q) ∧ ∀ (i:Nat) (h:i<c.ab.length),i<k→rq s c i h) (fun k=>q.ab.n-k) 0
   ⟨rfl,rfl,rfl,rfl,rfl,rfl,trivial⟩ ⟨by omega,hw,aD,ax,fun i h h'=>by omega⟩ ?_
  clear hw aD ax;rintro k w' ⟨hk,hw,aD,ax,hI⟩
  have hA:=hq.aH.base;by_cases dY:k<q.ab.n
  ·have fe:k<c.ab.length:=by omega
   repeat' (first|refine Wz ?_|refine SW.st (aU hw rfl rfl ((hq.aH.all dY))) rfl ?_)
   refine SW.alloc rfl fun b9 w1 ae oe dg => ?_
   refine Wz ?_;refine SW.ak dg rfl rfl rfl rfl (fP.one (enc:=aX) _) fun w2 ji hg => ?_
   have ap:=ae.own oe hg;have re:w.heap.size≤b9:=Nat.le_trans hw.size oe
   replace hw:=Ext.trans hw ap;replace aD:=aD.ext ap;replace ax:=ax.ext ap;replace dg:=ji;clear ji ae hg ap;refine Wz ?_;refine SW.call rfl rfl (AV _ _ _ _ _ _ (hr.heap.live.ext hw) dL RO (by omega) (lP _ (List.getElem_mem fe))) fun v w4 eM hv => ?_
   (replace hw:=Ext.trans hw eM;replace aD:=aD.ext eM;replace ax:=ax.ext eM;replace dg:=dg.ext eM);cases NU:br s.Heap.Live c.ab[k].At
   ·obtain ⟨j,rfl⟩:=hv.2 NU
    have hF:ms s c=false:=lG fun hm=>by
     have:=(hm.aH k fe).live
     rw [zA NU] at this;omega
    rw [hF];repeat' (first|refine Wz ?_|((apply CW.bl mixed;(· kernel_rfl);rotate_left;intro w1 ae;replace hw:=Ext.trans hw ae;replace aD:=aD.ext ae;replace ax:=ax.ext ae;replace dg:=dg.ext ae;clear ae;rotate_right))|refine SW.skip rfl rfl rfl rfl ?_|exact SW.dF rfl)
    exact ah.aY rfl rfl ⟨_,rfl,hw,rfl⟩
   ·have M7:=hv.1 NU;subst M7;obtain ⟨DP,TC⟩:=ib NU;have Qk:=vS NU DP;obtain ⟨m,em⟩ : ∃ m,bi s.Heap.Live c.ab[k].At=m:=⟨_,rfl⟩;simp only [em] at DP TC Qk hv ⊢;have RP:m<r.Heap.Live.n:=by omega
    have RQ:=hr.heap.live.base;have gO:=hr.heap.live.fw RP (j:=1) (u := .int .i64 s.Heap.Live[m].Order) rfl
    have ht : 0≤c.ab[k].At∧c.ab[k].At≤255:=by
     have:=RO _ (List.getElem_mem DP)
     omega
    have hS : 1≤q.aE∧q.aE≤64:=by omega
    have hP : 1≤q.bG∧q.bG≤64:=by omega
    by_cases su:s.Heap.Live[m].Order=o
    ·by_cases Pf : 0<k→(c.ab[k-1]'(by omega)).At<c.ab[k].At
     ·rcases Nat.eq_zero_or_pos k with xd|xd
      all_goals
       first
       | (have gP:=hq.aH.fw (show k-1<q.ab.n by omega) (j:=0) (u := .int .i64 (c.ab[k-1]'(by omega)).At) rfl
          have xk:=Pf xd)
       | skip
      all_goals
       repeat' (first|refine Wz ?_|((apply CW.bl mixed;(· kernel_rfl);rotate_left;intro w1 ae;replace hw:=Ext.trans hw ae;replace aD:=aD.ext ae;replace ax:=ax.ext ae;replace dg:=dg.ext ae;clear ae;rotate_right))|refine SW.want rfl rfl ?_|refine SW.st (aZ (k-1) rfl rfl (by assumption) (by omega) (by omega)) rfl ?_|refine SW.st (aT hw rfl gO) rfl ?_|refine SW.st (aT hw rfl gP) rfl ?_|exact SW.dF rfl)
       all_goals try omega
       refine SW.call rfl rfl (xV r q c.ab[k] s.Words _ (hr.words.ext hw) (by omega) hS hP ht) fun v w5 nA AX => ?_
       (replace hw:=Ext.trans hw nA;replace aD:=aD.ext nA;replace ax:=ax.ext nA);rw [eS,eP] at AX;rcases AX with ⟨out,A5,c5,hC,rfl,_,_⟩|⟨m9,rfl⟩
       ·repeat' (first|refine Wz ?_|(refine CW.di rfl ?_))
        exact ah.again (k+1) ⟨rfl,rfl,rfl,rfl,rfl,rfl,trivial⟩ (by omega) ⟨by omega,hw,aD,ax,fun i h h'=>by
         by_cases ei:i=k
         ·subst ei;exact ⟨by omega,Pf,⟨out,hC⟩⟩
         ·exact hI i h (by omega)⟩
       ·rw [lG fun hm=>(hm.aH k fe).chain.elim m9];repeat' (first|refine Wz ?_|(refine CW.dh rfl ?_))
        exact ah.aY rfl rfl ⟨_,rfl,hw,rfl⟩
     ·have xd : 0<k:=by
       rcases Nat.eq_zero_or_pos k with h|h
       ·exact absurd (fun h'=>by omega) Pf
       ·exact h
      have Lj : ¬ (c.ab[k-1]'(by omega)).At<c.ab[k].At:=fun h=>Pf fun _=>h
      have gP:=hq.aH.fw (show k-1<q.ab.n by omega) (j:=0) (u := .int .i64 (c.ab[k-1]'(by omega)).At) rfl;rw [lG fun hm=>Lj ((hm.aH k fe).next xd)];repeat' (first|refine Wz ?_|((apply CW.bl mixed;(· kernel_rfl);rotate_left;intro w1 ae;replace hw:=Ext.trans hw ae;replace aD:=aD.ext ae;replace ax:=ax.ext ae;replace dg:=dg.ext ae;clear ae;rotate_right))|refine SW.want rfl rfl ?_|refine SW.st (aZ (k-1) rfl rfl (by assumption) (by omega) (by omega)) rfl ?_|refine SW.st (aT hw rfl gO) rfl ?_|refine SW.st (aT hw rfl gP) rfl ?_|exact SW.dF rfl)
      all_goals try omega
      exact ah.aY rfl rfl ⟨_,rfl,hw,rfl⟩
    ·rw [lG fun hm=>su (by have:=(hm.aH k fe).live;omega)];repeat' (first|refine Wz ?_|((apply CW.bl mixed;(· kernel_rfl);rotate_left;intro w1 ae;replace hw:=Ext.trans hw ae;replace aD:=aD.ext ae;replace ax:=ax.ext ae;replace dg:=dg.ext ae;clear ae;rotate_right))|refine SW.want rfl rfl ?_|refine SW.st (aT hw rfl gO) rfl ?_|exact SW.dF rfl)
     all_goals try omega
     exact ah.aY rfl rfl ⟨_,rfl,hw,rfl⟩
  ·have fk:∀ (i:Nat) (h:i<c.ab.length),rq s c i h:=fun i h=>hI i h (by omega)
   refine Wz ?_;clear hI dY hk hA
   refine CW.loop (fun k:Nat=>[(3,.pointer (some ⟨b3,0,none⟩)),(109,.slice q.ar.A q.ar.n q.ar.c),(110,.int .i64 (q.ar.n:Int)),(111,.int .i64 (k:Int))])
    (fun k w'=>k≤q.ar.n∧Ext w w'∧aW w' b3 89 (eA q) ∧ ∀ (i:Nat) (h:i<c.ar.length),i<k→qB c i h) (fun k=>q.ar.n-k) 0
    ⟨rfl,rfl,rfl,rfl,trivial⟩ ⟨by omega,hw,ax,fun i h h'=>by omega⟩ ?_
   clear hw ax aD;rintro k w' ⟨hk,hw,ax,hI⟩
   have hA:=hq.a8.base;by_cases dY:k<q.ar.n
   ·have fe:k<c.ar.length:=by omega
    obtain ⟨a,ea⟩ : ∃ a,c.ar[k]=a:=⟨_,rfl⟩;have gA:=hq.a8.one dY (u := .int .i64 a) (by rw [← ea];rfl);by_cases ha:a = -1
    ·repeat' (first|refine Wz ?_|refine SW.st (aT hw rfl gA) rfl ?_)
     exact ah.again (k+1) ⟨rfl,rfl,rfl,rfl,trivial⟩ (by omega) ⟨by omega,hw,ax,fun i h h'=>by
      by_cases ei:i=k
      ·subst ei;exact .inl (by omega)
      ·exact hI i h (by omega)⟩
    ·have cN:∀ w',Ext w w'→bq Tryz.prog 95 [.slice q.ar.A k q.ar.c,.int .i64 a] w' fun v _=>v = .bool (decide (a∈c.ar.take k)):=fun w' hx=>fi _ _ _ _ _ _ ((hq.a8.ext hx).pre (show k≤q.ar.n by omega)) (by omega)
     obtain ⟨z,hz⟩ : ∃ z,idxOf (xg a) c.ab=z:=⟨_,rfl⟩;have pD:=kz (xg a) c.ab;rw [hz] at pD
     have cF:∀ w',Ext w w'→bq Tryz.prog 181 [.agg (eA q).toArray,.int .i64 a] w' fun v _=>v = .int .i64 z:=fun w' hx=>by
      have:=AW q c.ab a w' (hq.aH.ext hx) (by omega)
      rwa [hz] at this
     have Ky:(a∈c.ar.take k ∨ ¬ 0≤z)→ms s c=false:=fun h=>lG fun hm=>by
      rcases hm.rr k fe with g|⟨g1,g2⟩
      ·omega
      ·rw [ea] at g1 g2;rcases h with h|h
       ·exact g1 h
       ·rw [g2] at pD;exact h (of_decide_eq_true pD)
     by_cases ke:a∈c.ar.take k
     ·rw [decide_eq_true ke] at cN;rw [Ky (.inl ke)];repeat' (first|refine Wz ?_|refine SW.st (aT hw rfl gA) rfl ?_|(refine SW.call rfl rfl (cN _ hw) ?_;intro v w1 ae hv;subst hv;replace hw:=Ext.trans hw ae;replace ax:=ax.ext ae;clear ae)|(refine SW.st (cS (k:=k) rfl rfl (by omega)) rfl ?_))
      all_goals try omega
      exact ah.aY rfl rfl ⟨_,rfl,hw,rfl⟩
     ·rw [decide_eq_false ke] at cN;by_cases G4 : 0≤z
      ·repeat' (first|refine Wz ?_|refine SW.st (aT hw rfl gA) rfl ?_|((first|refine SW.call rfl rfl (cN _ hw) ?_|refine SW.call rfl rfl (cF _ hw) ?_);intro v w1 ae hv;subst hv;replace hw:=Ext.trans hw ae;replace ax:=ax.ext ae;clear ae)|(refine SW.st (cS (k:=k) rfl rfl (by omega)) rfl ?_))
       all_goals try omega
       exact ah.again (k+1) ⟨rfl,rfl,rfl,rfl,trivial⟩ (by omega) ⟨by omega,hw,ax,fun i h h'=>by
        by_cases ei:i=k
        ·subst ei;exact .inr ⟨by rw [ea];exact ke,by rw [ea,← pD];exact decide_eq_true G4⟩
        ·exact hI i h (by omega)⟩
      ·rw [Ky (.inr G4)];repeat' (first|refine Wz ?_|refine SW.st (aT hw rfl gA) rfl ?_|((first|refine SW.call rfl rfl (cN _ hw) ?_|refine SW.call rfl rfl (cF _ hw) ?_);intro v w1 ae hv;subst hv;replace hw:=Ext.trans hw ae;replace ax:=ax.ext ae;clear ae)|(refine SW.st (cS (k:=k) rfl rfl (by omega)) rfl ?_))
       all_goals try omega
       exact ah.aY rfl rfl ⟨_,rfl,hw,rfl⟩
   ·rw [vT ⟨Ha,h4,h5,fk,fun i h=>hI i h (by omega)⟩];refine Wz ?_;exact ah.aY rfl rfl ⟨_,rfl,hw,rfl⟩
open Go.RowKit Go.Maps
structure mN (w:World) (P:Program) (k e:TypeId) (b:Nat) (keys:List Lit) : Prop where
 own:w.ownsMap (H:=Unit) P k (plainElem P e) b keys.length (setOf (.lit (.bool true)) keys)
 ok:∀ x∈keys,WideAt.IsKeyLit x
theorem mN.ext {w w':World} {P:Program} {k e:TypeId} {b:Nat} {keys:List Lit} (h:mN w P k e b keys) (hx:Ext w w') : mN w' P k e b keys:=⟨h.own.kept (row:=none) ⟨hx.os,hx.tape,hx.output,hx.size,fun i hi _=>hx.block i hi⟩ (by simp),h.ok⟩
theorem mN.grown {w w':World} {P:Program} {k e:TypeId} {b:Nat} {keys:List Lit} {row:Option Nat} (h:mN w P k e b keys) (hg:w.grownBy w' row) (bW:some b≠row) : mN w' P k e b keys:=⟨h.own.kept hg bW,h.ok⟩
theorem mN.lt {w:World} {P:Program} {k e:TypeId} {b:Nat} {keys:List Lit} (h:mN w P k e b keys) : b<w.heap.size:=h.own.lt
theorem vV (u z:DataW Unit) (k:Lit) : ∀ (acc:List Lit) (m:DataW Unit),IsMap m→(∀ x∈acc,WideAt.IsKeyLit x)→(acc.foldl (fun m x=>m.put x u) m).atKey k z=if acc.any (fun x=>x.sameKey k) then u else m.atKey k z
 | [],m,_,_=>by simp
 | x::r,m,hm,h=>by
   rw [List.foldl_cons,vV u z k r (m.put x u) (hm.put x u) (fun y hy=>h y (by simp [hy])),List.any_cons];by_cases e:k=x
   ·subst e;rw [atKey_put_same hm (h k (by simp)),WideAt.sameKey_self (h k (by simp))];simp
   ·rw [atKey_put_other e,sameKey_ne (fun e'=>e e'.symm)];simp
theorem Fi (k:Lit) (acc:List Lit) (h:∀ x∈acc,WideAt.IsKeyLit x) : (setOf (.lit (.bool true)) acc:DataW Unit).atKey k (.lit (.bool false)) = .lit (.bool (acc.any fun x=>x.sameKey k)):=by
 rw [setOf,vV _ _ k acc _ isMap_empty h];cases acc.any fun x=>x.sameKey k<;>rfl
section
variable {P:Program} {n:Nat} {ops:Array Oper} {Q:Exit→Act→World→Prop} {rest:List Oper} {L:Env} {w:World} {T:TypeId} {pos:String} {af:Array Edge}
theorem SW.makeMap {d:Nat} {t:TypeId} (k e:TypeId) (hn:Nat.blt d n=true) (h:∀ b w',Ext w w'→w.heap.size≤b→mN w' P k e b []→SW P n ops (.gw Q) rest ((d,.map (some b))::L) w') :
 SW P n ops (.gw Q) (⟨some d,.makeMap t none,T,pos,af,none⟩::rest) L w :=
 ⟨fun a ha=>by
  simp only [swp,wpList,Region.wanted,if_true];refine .inl ?_;unfold Oper.wp
  have:(execOp a.eval ⟨some d,.makeMap t none,T,pos,af,none⟩).run P w = .ok (.value (.map (some w.heap.size))) (w.alloc (.map #[] 0)):=by
   simp [execOp,run_makeMap]
  rw [this,Oper.upon_value];exact (h _ _ (Ext.alloc w _) (Nat.le_refl _) ⟨World.ownsMap_made w P k _,fun x hx=>by simp at hx⟩).out _ (ha.put hn _)⟩
theorem vW {d:Option Nat} {g:Option (Nat×Bool)} {t k e:TypeId} {b:Nat} {keys:List Lit} {m x:Operand} {key:Value} {kl:Lit} (hB:mN w P k e b keys) (K:Keyed P k) (ht:P.underlying t=some (.map k e)) (he:P.underlying e=some .bool) (hz:∀ w,(zeroValue e).run P w = .ok (.bool false) w)
 (hm:cg L m=some (.map (some b))) (hx:cg L x=some key) (qC:Go.keyOf P k key=some kl) : St P ⟨d,.lookup t m x false,T,pos,af,g⟩ L w (.bool (keys.any fun y=>y.sameKey kl)) :=
 ⟨fun n a ha w' TD=>by
  have tV:=hB.ext TD;obtain ⟨v,ps,CQ,hv⟩:=tV.own.lookup K ht (hz w') (plainElem_bool he false) qC;rw [Fi _ _ hB.ok] at hv
  have NC:v = .bool (keys.any fun y=>y.sameKey kl):=by
   unfold plainElem at hv;rw [he] at hv;cases v<;>simp at hv
   rw [hv.1]
  subst NC;simp [execOp,ha.eval hm,ha.eval hx,CQ]⟩
theorem SW.CR {t k e:TypeId} {b:Nat} {keys:List Lit} {m x y:Operand} {key:Value} {kl:Lit} (hB:mN w P k e b keys) (K:Keyed P k) (ht:P.underlying t=some (.map k e)) (he:P.underlying e=some .bool) (jI:keys.length<maxLen)
 (hm:cg L m=some (.map (some b))) (hx:cg L x=some key) (hy:cg L y=some (.bool true)) (qC:Go.keyOf P k key=some kl) (hk:WideAt.IsKeyLit kl)
 (h:∀ w',mN w' P k e b (keys++[kl])→w.grownBy w' (some b)→SW P n ops (.gw Q) rest L w') : SW P n ops (.gw Q) (⟨none,.mapUpdate t m x y,T,pos,af,none⟩::rest) L w :=
 ⟨fun a ha=>by
  obtain ⟨w',CQ,r1,r2⟩:=hB.own.update K ht jI qC (plainElem_bool he true);simp only [swp,wpList,Region.wanted,if_true];refine .inl ?_;unfold Oper.wp
  have:(execOp a.eval ⟨none,.mapUpdate t m x y,T,pos,af,none⟩).run P w = .ok .skip w':=by
   simp [execOp,ha.eval hm,ha.eval hx,ha.eval hy,CQ]
  rw [this,Oper.upon_skip];refine (h w' ⟨?_,fun z hz => ?_⟩ r2).out _ ha
  ·rw [setOf_snoc];simpa using r1
  ·rcases List.mem_append.1 hz with hz|hz
   ·exact hB.ok z hz
   ·simp at hz;subst hz;exact hk⟩
end
open Go.RowKit Go.Maps
def pP (s:ByteArray) : Lit := .string s.data.toList
def uc (z:Int) : Lit := .int .i64 z
def vX (l:List ByteArray) (n:ByteArray) : Bool:=l.any fun m=>decide (m=n)
theorem iR {l:List ByteArray} {n:ByteArray}:vX l n=true↔n∈l:=by
 unfold vX;rw [List.any_eq_true];exact ⟨fun ⟨m,h,e⟩=>of_decide_eq_true e ▸ h,fun h=>⟨n,h,decide_eq_true rfl⟩⟩
theorem Hb (l:List ByteArray) (n:ByteArray) : ((l.map pP).any fun y=>y.sameKey (pP n))=vX l n:=by
 rw [Bool.eq_iff_iff,List.any_eq_true,iR];constructor
 ·rintro ⟨y,hy,hs⟩
  obtain ⟨m,hm,rfl⟩:=List.mem_map.1 hy;have:=WideAt.sameKey_eq hs
  simp only [pP,Lit.string.injEq] at this
  have e:m=n:=by
   cases m;cases n
   simpa using this
  rw [← e];exact hm
 ·intro h;exact ⟨pP n,List.mem_map.2 ⟨n,h,rfl⟩,WideAt.sameKey_self trivial⟩
theorem Hc (l:List Int) (n:Int) : ((l.map uc).any fun y=>y.sameKey (uc n))=decide (n∈l):=by
 rw [Bool.eq_iff_iff,List.any_eq_true,decide_eq_true_iff];constructor
 ·rintro ⟨y,hy,hs⟩
  obtain ⟨m,hm,rfl⟩:=List.mem_map.1 hy;have:=WideAt.sameKey_eq hs
  simp only [uc,Lit.int.injEq] at this;rw [← this.2];exact hm
 ·intro h;exact ⟨uc n,List.mem_map.2 ⟨n,h,rfl⟩,WideAt.sameKey_self trivial⟩
theorem zC:Tryz.prog.underlying 9=some .string:=by kernel_rfl
theorem zD:Tryz.prog.underlying 3=some (.int .i64):=by kernel_rfl
theorem oR:Tryz.prog.underlying 4=some .bool:=by kernel_rfl
theorem vY:Tryz.prog.underlying 144=some (.map 9 4):=by kernel_rfl
theorem AY:Tryz.prog.underlying 145=some (.map 3 4):=by kernel_rfl
theorem xX (w:World) : (zeroValue 4).run Tryz.prog w = .ok (.bool false) w:=by
 obtain ⟨inf,hi,hz,hs,xb⟩:=dQ Tryz.prog 4 (z := .bool false) (sz:=1) (bytes:=1);simp [zeroValue,typeInfo,hi,hz]
theorem sK (s:ByteArray) (h:s.size≤140737488351232) : Go.keyOf Tryz.prog 9 (.string s)=some (pP s):=by
 simp [Go.keyOf,mapKey,pP];unfold maxLen;omega
theorem keyOf_int {z:Int} (h : -9223372036854775808≤z∧z≤9223372036854775807) : Go.keyOf Tryz.prog 3 (.int .i64 z)=some (uc z):=keyOf_int_mk zD (by
 have h1:IntKind.i64.min = -9223372036854775808:=by decide
 have h2:IntKind.i64.max=9223372036854775807:=by decide
 simp [Lit.wf,h1,h2];omega)
section
variable {L:Env} {w:World} {d:Option Nat} {T:TypeId} {pos:String} {af:Array Edge} {g:Option (Nat×Bool)}
theorem ru {b:Nat} {l:List ByteArray} {n:ByteArray} {m x:Operand} (hB:mN w Tryz.prog 9 4 b (l.map pP)) (hn:n.size≤140737488351232) (hm:cg L m=some (.map (some b))) (hx:cg L x=some (.string n)) :
 St Tryz.prog ⟨d,.lookup 144 m x false,T,pos,af,g⟩ L w (.bool (vX l n)) :=
 (vW hB (string_keyed zC) vY oR xX hm hx (sK n hn)).eq (by rw [Hb])
theorem AZ {b:Nat} {l:List Int} {n:Int} {m x:Operand} (hB:mN w Tryz.prog 3 4 b (l.map uc)) (hn : -9223372036854775808≤n∧n≤9223372036854775807) (hm:cg L m=some (.map (some b))) (hx:cg L x=some (.int .i64 n)) :
 St Tryz.prog ⟨d,.lookup 145 m x false,T,pos,af,g⟩ L w (.bool (decide (n∈l))) :=
 (vW hB (int_keyed zD) AY oR xX hm hx (keyOf_int hn)).eq (by rw [Hc])
end
theorem Fj (d:dv) (b6:Nat) (q:dv) (w:World) (h6:aW w b6 89 (eA q)) :
 bq Tryz.prog 91 ([.agg (eA d).toArray]++[.pointer (some ⟨b6,0,none⟩)]) w fun v _=>v = .bool (decide (d.aE=q.aE)):=by
 refine aG Tryz.func91 rfl Tryz.ntmps91 rfl ?_;refine CW.seq (CW.region (SW.box rfl rfl fun b1 w1 hw jh aI => ?_));replace h6:=h6.ext hw;refine Wz ?_;exact ah.aY rfl rfl ⟨_,rfl,hw,rfl⟩
structure ag.dW (s:ag) : Prop where
 small:s.small
 cj:∀ z∈s.Heap.bf,eU z
 aH:∀ c∈s.aa,∀ x∈c.ab,-9223372036854775808≤x.At∧x.At≤9223372036854775807
 names:∀ c∈s.aa,∀ n∈c.Names,n.size≤140737488351232
theorem vZ (cs:List aF) (h:∀ c∈cs,c.small) : (cT cs).length≤cs.length*8796093022208:=by
 induction cs with
 | nil=>simp [cT]
 | cons c r ih =>
   have h1:=(h c (by simp)).names;have h2:=ih (fun x hx=>h x (by simp [hx]));simp only [cT,List.flatMap_cons,List.length_append,List.length_cons] at h2 ⊢;omega
theorem v5 (cs:List aF) (h:∀ c∈cs,c.small) : (aS cs).length≤cs.length*8796093022208:=by
 induction cs with
 | nil=>simp [aS]
 | cons c r ih =>
   have h1:=(h c (by simp)).aH;have h2:=ih (fun x hx=>h x (by simp [hx]));simp only [aS,List.flatMap_cons,List.length_append,List.length_cons,List.length_map] at h2 ⊢;omega
set_option maxHeartbeats 4000000 in
theorem kg (r:eQ) (s:ag) (w:World) (hr:Ab w r s) (hf:s.dW) :
 bq Tryz.prog 41 [.agg (ba r).toArray] w fun v _=>v = .int .i64 (if en s then 0 else 8):=by
 refine aG Tryz.func41 rfl Tryz.ntmps41 rfl ?_;refine CW.seq (CW.region (SW.box rfl rfl fun b1 w1 hw jh aI => ?_));obtain ⟨cs,hc⟩:=hr.bR;obtain ⟨z1,z2⟩:=hc.len;have wl:=hr.words.len;have hs:=hf.small;have m3:=hs.bR;have Jc:=hc.cap;obtain ⟨q,hq⟩ : ∃ q,fX s.Heap=q:=⟨_,rfl⟩
 have c1:∀ w',Ext w w'→bq Tryz.prog 88 [.agg (cV r.Heap).toArray] w' fun v _=>v = .int .i64 (if q then 0 else 8):=fun w' hx=>by
  have:=nz r.Heap s.Heap w' (hr.heap.ext hx) hs.heap hf.cj
  rwa [hq] at this
 by_cases Eg:s.Words.length=4096∧q=true∧s.aa.length≤20
 ·obtain ⟨g1,g2,g3⟩:=Eg;subst g2;have hH:=cG.1 hq;simp only [if_true] at c1;repeat' (first|refine Wz ?_|refine SW.st (aB rfl rfl ((mq aI))) rfl ?_|(refine SW.call rfl rfl (c1 _ hw) ?_;intro v w1 ae hv;subst hv;replace hw:=Ext.trans hw ae;replace aI:=aI.ext ae;clear ae))
  all_goals try omega
  clear c1;refine SW.makeMap 9 4 rfl fun bN w3 jA NV hN => ?_
  have RR:w.heap.size≤bN:=Nat.le_trans hw.size NV
  have I6:=aI.lt;(replace hw:=Ext.trans hw jA;replace aI:=aI.ext jA);refine SW.makeMap 3 4 rfl fun bS w4 eM NW hS => ?_
  have TE:w.heap.size≤bS:=Nat.le_trans hw.size NW
  have I7:=hN.lt;(replace hw:=Ext.trans hw eM;replace aI:=aI.ext eM;replace hN:=hN.ext eM);have NX:b1≠bN:=by omega
  have Ql:b1≠bS:=by omega
  have LR:bN≠bS:=by omega
  clear I6 I7 NV NW;refine Wz ?_
  refine CW.loop (fun k:Nat=>[(1,.pointer (some ⟨b1,0,none⟩)),(3,.map (some bN)),(4,.map (some bS)),(30,.slice r.aa.A r.aa.n r.aa.c),(31,.int .i64 (r.aa.n:Int)),(32,.int .i64 (k:Int))])
   (fun k w'=>k≤r.aa.n∧Ext w w'∧aW w' b1 44 (ba r)∧mN w' Tryz.prog 9 4 bN ((cT (s.aa.take k)).map pP)∧mN w' Tryz.prog 3 4 bS ((aS (s.aa.take k)).map uc) ∧ ∀ (i:Nat) (h:i<s.aa.length),i<k→pC s i h) (fun k=>r.aa.n-k) 0
   ⟨rfl,rfl,rfl,rfl,rfl,rfl,trivial⟩ ⟨by omega,hw,aI,hN,hS,fun i h h'=>by omega⟩ ?_
  clear hw aI hN hS;rintro k w' ⟨hk,hw,aI,hN,hS,hI⟩
  have hA:=hc.row.base;by_cases dY:k<r.aa.n
  ·have Aw:k<cs.length:=by omega
   have fe:k<s.aa.length:=by omega
   have iS:=hc.each.get k Aw fe;have sm:=hs.each _ (List.getElem_mem fe);have fS:=hf.aH _ (List.getElem_mem fe);have fN:=hf.names _ (List.getElem_mem fe);have q1:=iS.names.len;have q2:=iS.aH.len;have q4:=sm.names;have q5:=sm.aH;have bn:=vZ (s.aa.take k) (fun c hc=>hs.each c (List.mem_of_mem_take hc));have bs:=v5 (s.aa.take k) (fun c hc=>hs.each c (List.mem_of_mem_take hc));rw [List.length_take] at bn bs;repeat' (first|refine Wz ?_|refine SW.st (aU hw rfl rfl ((hc.row.all dY))) rfl ?_)
   have Qm:=hN.lt;have Qn:=hS.lt;refine SW.alloc rfl fun b6 w1 ae eu aA => ?_
   refine Wz ?_;refine SW.ak aA rfl rfl rfl rfl (AI _) fun w2 dE hg => ?_
   have ap:=ae.own eu hg;have dl:w.heap.size≤b6:=Nat.le_trans hw.size eu
   replace hw:=Ext.trans hw ap;replace aI:=aI.ext ap;replace hN:=hN.ext ap;replace hS:=hS.ext ap;replace aA:=dE;clear dE ae hg ap;have NY:bN≠b6:=by omega
   have TF:bS≠b6:=by omega
   clear Qm Qn;obtain ⟨qc,Qo⟩ : ∃ qc,ms s s.aa[k]=qc:=⟨_,rfl⟩
   have cC:∀ w',Ext w w'→bq Tryz.prog 89 [.agg (ba r).toArray,.agg (eA cs[k]).toArray] w' fun v _=>v = .bool qc:=fun w' hx=>by
    have:=Fh r s cs[k] s.aa[k] w' (hr.ext hx) (iS.ext hx) hs sm hH fS
    rwa [Qo] at this
   cases qc
   ·have hF:en s=false:=sH fun hm=>by
     have:=vT (hm.each k fe).may
     rw [Qo] at this;cases this
    rw [hF];repeat' (first|refine Wz ?_|refine SW.skip rfl rfl rfl rfl ?_|(refine SW.call rfl rfl (cC _ hw) ?_;intro v w1 ae hv;subst hv;replace hw:=Ext.trans hw ae;replace aI:=aI.ext ae;replace aA:=aA.ext ae;replace hN:=hN.ext ae;replace hS:=hS.ext ae;clear ae))
    exact ah.aY rfl rfl ⟨_,rfl,hw,rfl⟩
   ·have NZ:=CO.1 Qo;obtain ⟨y,hy⟩ : ∃ y,((cs.take k).any fun d=>decide (d.aE=cs[k].aE))=y:=⟨_,rfl⟩
    have cD:∀ w',Ext w w'→aW w' b6 89 (eA cs[k])→bq Tryz.prog 90 [.slice r.aa.A k r.aa.c,.func (.func 91) #[] [.pointer (some ⟨b6,0,none⟩)].toArray] w' fun v _=>v = .bool y:=fun w' hx h6=>by
     have:=kE r.aa.A k r.aa.c (cs.take k) w' ((hc.row.ext hx).pre (show k≤r.aa.n by omega)) 91 [.pointer (some ⟨b6,0,none⟩)] (fun d=>decide (d.aE=cs[k].aE)) (fun d => .agg (eA d).toArray) (fun x=>rfl)
      (fun x _ w1 jn=>Fj x b6 cs[k] w1 (h6.ext jn)) (by omega)
     rwa [hy] at this
    cases y
    ·have qO:∀ (j:Nat) (hj:j<k),(s.aa[j]'(by omega)).aE≠s.aa[k].aE:=fun j hj e=>by
      rw [List.any_eq_false] at hy;refine hy cs[j] (List.mem_take_iff_getElem.2 ⟨j,by omega,rfl⟩) ?_;have e1:=(hc.each.get j (by omega) (by omega)).size;have e2:=iS.size;exact decide_eq_true (by rw [e1,e2];exact e)
     repeat' (first|refine Wz ?_|refine SW.want rfl rfl ?_|((first|refine SW.call rfl rfl (cC _ hw) ?_|refine SW.call rfl rfl (cD _ hw aA) ?_);intro v w1 ae hv;subst hv;replace hw:=Ext.trans hw ae;replace aI:=aI.ext ae;replace aA:=aA.ext ae;replace hN:=hN.ext ae;replace hS:=hS.ext ae;clear ae)|(refine SW.st (cS (k:=k) rfl rfl (by omega)) rfl ?_)|(refine SW.st (gI (vs:=[.pointer (some ⟨b6,0,none⟩)]) rfl) rfl ?_))
     obtain ⟨acc,Jr⟩ : ∃ acc,cT (s.aa.take k)=acc:=⟨_,rfl⟩;rw [Jr] at hN bn;obtain ⟨Kz,Js⟩ : ∃ Kz,aS (s.aa.take k)=Kz:=⟨_,rfl⟩;rw [Js] at hS bs;clear cC cD
     refine CW.loop (fun j:Nat=>[(1,.pointer (some ⟨b1,0,none⟩)),(3,.map (some bN)),(4,.map (some bS)),(6,.pointer (some ⟨b6,0,none⟩)),(30,.slice r.aa.A r.aa.n r.aa.c),(31,.int .i64 (r.aa.n:Int)),(32,.int .i64 (k:Int)),(50,.slice cs[k].Names.A cs[k].Names.n cs[k].Names.c),(51,.int .i64 (cs[k].Names.n:Int)),(52,.int .i64 (j:Int))])
      (fun j w'=>j≤cs[k].Names.n∧Ext w w'∧aW w' b1 44 (ba r)∧aW w' b6 89 (eA cs[k])∧mN w' Tryz.prog 9 4 bN ((acc++s.aa[k].Names.take j).map pP)∧mN w' Tryz.prog 3 4 bS (Kz.map uc) ∧
        ∀ (i:Nat) (h:i<s.aa[k].Names.length),i<j→fy s.aa[k].Names[i]=true∧s.aa[k].Names[i]∉acc++s.aa[k].Names.take i∧(0<i→eI (s.aa[k].Names[i-1]'(by omega)) s.aa[k].Names[i]=true)) (fun j=>cs[k].Names.n-j) 0
      ⟨rfl,rfl,rfl,rfl,rfl,rfl,rfl,rfl,rfl,rfl,trivial⟩ ⟨by omega,hw,aI,aA,by simpa using hN,hS,fun i h h'=>by omega⟩ ?_
     clear hw aI hN hS aA;rintro j w' ⟨hj,hw,aI,aA,hN,hS,hJ⟩
     have Gh:=iS.names.base;by_cases nd:j<cs[k].Names.n
     ·have pq:j<s.aa[k].Names.length:=by omega
      obtain ⟨nm,Hd⟩ : ∃ nm,s.aa[k].Names[j]=nm:=⟨_,rfl⟩;have gN:=iS.names.one nd (u := .string nm) (by rw [← Hd];rfl);have LS:nm.size≤140737488351232:=by rw [← Hd];exact fN _ (List.getElem_mem pq)
      obtain ⟨qn,Qp⟩ : ∃ qn,fy nm=qn:=⟨_,rfl⟩;obtain ⟨qh,LU⟩ : ∃ qh,vX (acc++s.aa[k].Names.take j) nm=qh:=⟨_,rfl⟩
      have N0:∀ w',bq Tryz.prog 92 [.string nm] w' fun v _=>v = .bool qn:=fun w'=>by
       have:=AJ nm w' LS
       rwa [Qp] at this
      have He:(qn=false∨qh=true ∨ ∃ Km : 0<j,eI (s.aa[k].Names[j-1]'(by omega)) nm=false)→en s=false:=fun h=>sH fun hm=>by
       have h1:=(hm.each k fe).names.each j pq;rw [Hd,Jr] at h1;rcases h with h|h|⟨Km,h⟩
       ·rw [Qp,h] at h1;exact absurd h1.1 (by simp)
       ·exact h1.2.1 (iR.1 (by rw [LU,h]))
       ·rw [h1.2.2 Km] at h;cases h
      cases qn
      ·rw [He (.inl rfl)];repeat' (first|refine Wz ?_|refine SW.skip rfl rfl rfl rfl ?_|refine SW.st (aT hw rfl gN) rfl ?_|(refine SW.call rfl rfl (N0 _) ?_;intro v w1 ae hv;subst hv;replace hw:=Ext.trans hw ae;replace aI:=aI.ext ae;replace aA:=aA.ext ae;replace hN:=hN.ext ae;replace hS:=hS.ext ae;clear ae))
       exact ah.aY rfl rfl ⟨_,rfl,hw,rfl⟩
      ·cases qh
       ·have go:∀ (KA : 0<j→eI (s.aa[k].Names[j-1]'(by omega)) nm=true) (i:Nat) (h:i<s.aa[k].Names.length),i<j+1→fy s.aa[k].Names[i]=true∧s.aa[k].Names[i]∉acc++s.aa[k].Names.take i∧(0<i→eI (s.aa[k].Names[i-1]'(by omega)) s.aa[k].Names[i]=true):=fun KA i h h'=>by
         by_cases ei:i=j
         ·subst ei;rw [Hd];exact ⟨Qp,(fun hm=>by rw [iR.2 hm] at LU;cases LU),KA⟩
         ·exact hJ i h (by omega)
        rcases Nat.eq_zero_or_pos j with Km|Km
        ·repeat' (first|refine Wz ?_|refine SW.want rfl rfl ?_|refine SW.st (aT hw rfl gN) rfl ?_|(refine SW.call rfl rfl (N0 _) ?_;intro v w1 ae hv;subst hv;replace hw:=Ext.trans hw ae;replace aI:=aI.ext ae;replace aA:=aA.ext ae;replace hN:=hN.ext ae;replace hS:=hS.ext ae;clear ae)|(refine SW.st ((ru hN LS rfl rfl).eq (congrArg Value.bool LU)) rfl ?_))
         all_goals try omega
         refine SW.CR hN (string_keyed zC) vY oR (by simp only [List.length_map,List.length_append,List.length_take];unfold maxLen;omega) rfl rfl rfl (sK nm LS) trivial fun w5 N1 hg => ?_
         replace hw:=hw.own RR hg;replace aI:=aI.grown hg (by simpa using NX);replace aA:=aA.grown hg (by simpa using NY.symm);replace hS:=hS.grown hg (by simpa using LR.symm);have eN:(acc++s.aa[k].Names.take j).map pP++[pP nm]=(acc++s.aa[k].Names.take (j+1)).map pP:=by rw [List.take_succ_eq_append_getElem pq,Hd];simp
         rw [eN] at N1;refine Wz ?_;exact ah.again (j+1) ⟨rfl,rfl,rfl,rfl,rfl,rfl,rfl,rfl,rfl,rfl,trivial⟩ (by omega) ⟨by omega,hw,aI,aA,N1,hS,go (fun h=>by omega)⟩
        ·obtain ⟨ql,Pg⟩ : ∃ ql,(!eI (s.aa[k].Names[j-1]'(by omega)) nm)=ql:=⟨_,rfl⟩;have gP:=iS.names.one (show j-1<cs[k].Names.n by omega) (u := .string (s.aa[k].Names[j-1]'(by omega))) rfl;cases ql
         ·repeat' (first|refine Wz ?_|refine SW.want rfl rfl ?_|refine SW.st (aZ (j-1) rfl rfl (by assumption) (by omega) (by omega)) rfl ?_|refine SW.st (aT hw rfl gN) rfl ?_|refine SW.st (aT hw rfl gP) rfl ?_|(refine SW.call rfl rfl (N0 _) ?_;intro v w1 ae hv;subst hv;replace hw:=Ext.trans hw ae;replace aI:=aI.ext ae;replace aA:=aA.ext ae;replace hN:=hN.ext ae;replace hS:=hS.ext ae;clear ae)|(refine SW.st ((ru hN LS rfl rfl).eq (congrArg Value.bool LU)) rfl ?_)|(refine SW.st ((AH rfl rfl).eq (congrArg Value.bool Pg)) rfl ?_))
          all_goals try omega
          refine SW.CR hN (string_keyed zC) vY oR (by simp only [List.length_map,List.length_append,List.length_take];unfold maxLen;omega) rfl rfl rfl (sK nm LS) trivial fun w5 N1 hg => ?_
          replace hw:=hw.own RR hg;replace aI:=aI.grown hg (by simpa using NX);replace aA:=aA.grown hg (by simpa using NY.symm);replace hS:=hS.grown hg (by simpa using LR.symm);have eN:(acc++s.aa[k].Names.take j).map pP++[pP nm]=(acc++s.aa[k].Names.take (j+1)).map pP:=by rw [List.take_succ_eq_append_getElem pq,Hd];simp
          rw [eN] at N1;refine Wz ?_;exact ah.again (j+1) ⟨rfl,rfl,rfl,rfl,rfl,rfl,rfl,rfl,rfl,rfl,trivial⟩ (by omega) ⟨by omega,hw,aI,aA,N1,hS,go (fun _=>by simpa using Pg)⟩
         ·rw [He (.inr (.inr ⟨Km,by simpa using Pg⟩))];repeat' (first|refine Wz ?_|refine SW.want rfl rfl ?_|refine SW.st (aZ (j-1) rfl rfl (by assumption) (by omega) (by omega)) rfl ?_|refine SW.st (aT hw rfl gN) rfl ?_|refine SW.st (aT hw rfl gP) rfl ?_|(refine SW.call rfl rfl (N0 _) ?_;intro v w1 ae hv;subst hv;replace hw:=Ext.trans hw ae;replace aI:=aI.ext ae;replace aA:=aA.ext ae;replace hN:=hN.ext ae;replace hS:=hS.ext ae;clear ae)|(refine SW.st ((ru hN LS rfl rfl).eq (congrArg Value.bool LU)) rfl ?_)|(refine SW.st ((AH rfl rfl).eq (congrArg Value.bool Pg)) rfl ?_))
          all_goals try omega
          exact ah.aY rfl rfl ⟨_,rfl,hw,rfl⟩
       ·rw [He (.inr (.inl rfl))];repeat' (first|refine Wz ?_|refine SW.want rfl rfl ?_|refine SW.st (aT hw rfl gN) rfl ?_|(refine SW.call rfl rfl (N0 _) ?_;intro v w1 ae hv;subst hv;replace hw:=Ext.trans hw ae;replace aI:=aI.ext ae;replace aA:=aA.ext ae;replace hN:=hN.ext ae;replace hS:=hS.ext ae;clear ae)|(refine SW.st ((ru hN LS rfl rfl).eq (congrArg Value.bool LU)) rfl ?_))
        exact ah.aY rfl rfl ⟨_,rfl,hw,rfl⟩
     ·have Qq:uH (cT (s.aa.take k)) s.aa[k].Names:=⟨fun i h=>by rw [Jr];exact hJ i h (by omega)⟩
      rw [List.take_of_length_le (by omega)] at hN;refine Wz ?_;clear hJ hj nd Gh
      refine CW.loop (fun j:Nat=>[(1,.pointer (some ⟨b1,0,none⟩)),(3,.map (some bN)),(4,.map (some bS)),(30,.slice r.aa.A r.aa.n r.aa.c),(31,.int .i64 (r.aa.n:Int)),(32,.int .i64 (k:Int)),(83,.slice cs[k].ab.A cs[k].ab.n cs[k].ab.c),(84,.int .i64 (cs[k].ab.n:Int)),(85,.int .i64 (j:Int))])
       (fun j w'=>j≤cs[k].ab.n∧Ext w w'∧aW w' b1 44 (ba r)∧mN w' Tryz.prog 9 4 bN ((acc++s.aa[k].Names).map pP)∧mN w' Tryz.prog 3 4 bS ((Kz++(s.aa[k].ab.take j).map fun x=>x.At).map uc) ∧
         ∀ (i:Nat) (h:i<s.aa[k].ab.length),i<j→s.aa[k].ab[i].At∉Kz++(s.aa[k].ab.take i).map fun x=>x.At) (fun j=>cs[k].ab.n-j) 0
       ⟨rfl,rfl,rfl,rfl,rfl,rfl,rfl,rfl,rfl,trivial⟩ ⟨by omega,hw,aI,hN,by simpa using hS,fun i h h'=>by omega⟩ ?_
      clear hw aI hN hS aA;rintro j w' ⟨hj,hw,aI,hN,hS,hJ⟩
      have Gh:=iS.aH.base;by_cases nd:j<cs[k].ab.n
      ·have pq:j<s.aa[k].ab.length:=by omega
       obtain ⟨x,hx⟩ : ∃ x,s.aa[k].ab[j]=x:=⟨_,rfl⟩;have gS:=iS.aH.all nd;rw [hx] at gS;have fx : -9223372036854775808≤x.At∧x.At≤9223372036854775807:=by rw [← hx];exact fS _ (List.getElem_mem pq)
       repeat' (first|refine Wz ?_|refine SW.st (aU hw rfl rfl gS) rfl ?_)
       refine SW.alloc rfl fun IV w1 ae tF fB => ?_
       skip;refine SW.ak fB rfl rfl rfl rfl (fP.one (enc:=aX) _) fun w2 mg hg => ?_
       have ap:=ae.own tF hg;have Eh:w.heap.size≤IV:=Nat.le_trans hw.size tF
       replace hw:=Ext.trans hw ap;replace aI:=aI.ext ap;replace hN:=hN.ext ap;replace hS:=hS.ext ap;replace fB:=mg;clear mg ae hg ap;by_cases ke:x.At∈Kz++(s.aa[k].ab.take j).map fun x=>x.At
       ·have Qr:=decide_eq_true ke
        rw [sH fun hm=>by
         have:=(hm.each k fe).aH j pq
         rw [hx,Js] at this;exact this ke]
        repeat' (first|refine Wz ?_|(refine SW.st ((AZ hS fx rfl rfl).eq (congrArg Value.bool Qr)) rfl ?_))
        exact ah.aY rfl rfl ⟨_,rfl,hw,rfl⟩
       ·have Qr:=decide_eq_false ke;repeat' (first|refine Wz ?_|(refine SW.st ((AZ hS fx rfl rfl).eq (congrArg Value.bool Qr)) rfl ?_))
        refine SW.CR hS (int_keyed zD) AY oR (by simp only [List.length_map,List.length_append,List.length_take];unfold maxLen;omega) rfl rfl rfl (keyOf_int fx) trivial fun w5 uI hg => ?_
        replace hw:=hw.own TE hg;replace aI:=aI.grown hg (by simpa using Ql);replace hN:=hN.grown hg (by simpa using LR);have eN:(Kz++(s.aa[k].ab.take j).map fun x=>x.At).map uc++[uc x.At]=(Kz++(s.aa[k].ab.take (j+1)).map fun x=>x.At).map uc:=by rw [List.take_succ_eq_append_getElem pq,hx];simp
        rw [eN] at uI;refine Wz ?_
        exact ah.again (j+1) ⟨rfl,rfl,rfl,rfl,rfl,rfl,rfl,rfl,rfl,trivial⟩ (by omega) ⟨by omega,hw,aI,hN,uI,fun i h h'=>by
         by_cases ei:i=j
         ·subst ei;rw [hx];exact ke
         ·exact hJ i h (by omega)⟩
      ·rw [List.take_of_length_le (by omega),← Js,← n9 s.aa k fe] at hS;rw [← Jr,← n8 s.aa k fe] at hN;refine Wz ?_
       exact ah.again (k+1) ⟨rfl,rfl,rfl,rfl,rfl,rfl,trivial⟩ (by omega) ⟨by omega,hw,aI,hN,hS,fun i h h'=>by
        by_cases ei:i=k
        ·subst ei;exact ⟨NZ,qO,Qq,fun i h=>by rw [Js];exact hJ i h (by omega)⟩
        ·exact hI i h (by omega)⟩
    ·have hF:en s=false:=sH fun hm=>by
      obtain ⟨d,hd,he⟩:=List.any_eq_true.1 hy;obtain ⟨j,hj,rfl⟩:=List.mem_take_iff_getElem.1 hd;have e1:=(hc.each.get j (by omega) (by omega)).size;have e2:=iS.size;have:=of_decide_eq_true he
      exact (hm.each k fe).size j (by omega) (by rw [← e1,← e2];exact this)
     rw [hF];repeat' (first|refine Wz ?_|refine SW.want rfl rfl ?_|((first|refine SW.call rfl rfl (cC _ hw) ?_|refine SW.call rfl rfl (cD _ hw aA) ?_);intro v w1 ae hv;subst hv;replace hw:=Ext.trans hw ae;replace aI:=aI.ext ae;replace aA:=aA.ext ae;replace hN:=hN.ext ae;replace hS:=hS.ext ae;clear ae)|(refine SW.st (cS (k:=k) rfl rfl (by omega)) rfl ?_)|(refine SW.st (gI (vs:=[.pointer (some ⟨b6,0,none⟩)]) rfl) rfl ?_))
     exact ah.aY rfl rfl ⟨_,rfl,hw,rfl⟩
  ·rw [jP ⟨g1,hH,g3,fun i h=>hI i h (by omega)⟩];refine Wz ?_;exact ah.aY rfl rfl ⟨_,rfl,hw,rfl⟩
 ·have hF:en s=false:=sH fun hm=>Eg ⟨hm.words,by rw [← hq];exact zh hm.heap,hm.most⟩
  rw [hF];cases q
  all_goals simp only [if_true,Bool.false_eq_true,if_false] at c1
  all_goals simp only [true_and,Bool.false_eq_true,false_and,and_false,not_false_eq_true] at Eg
  ·rcases (show s.Words.length≠4096∨s.Words.length=4096 by omega) with g|g
   all_goals
    repeat' (first|refine Wz ?_|refine SW.st (aB rfl rfl ((mq aI))) rfl ?_|(refine SW.call rfl rfl (c1 _ hw) ?_;intro v w1 ae hv;subst hv;replace hw:=Ext.trans hw ae;replace aI:=aI.ext ae;clear ae))
    all_goals try omega
    exact ah.aY rfl rfl ⟨_,rfl,hw,rfl⟩
  ·rcases (show s.Words.length≠4096∨(s.Words.length=4096∧20<s.aa.length) by omega) with g|g
   all_goals
    repeat' (first|refine Wz ?_|refine SW.st (aB rfl rfl ((mq aI))) rfl ?_|(refine SW.call rfl rfl (c1 _ hw) ?_;intro v w1 ae hv;subst hv;replace hw:=Ext.trans hw ae;replace aI:=aI.ext ae;clear ae))
    all_goals try omega
    exact ah.aY rfl rfl ⟨_,rfl,hw,rfl⟩
theorem v7:∀ (n:Nat) (l:List Nat),l.Nodup→(∀ x∈l,x<n)→l.length≤n
 | 0,l,_,h=>by
   cases l with
   | nil=>simp
   | cons a r=>exact absurd (h a (by simp)) (by omega)
 | n+1,l,hd,h=>by
   have h1:=v7 n (l.erase n) (hd.erase n) (fun x hx=>by
    have:=hd.mem_erase_iff.1 hx
    have:=h x this.2
    omega)
   have h2:l.length≤(l.erase n).length+1:=by
    rw [List.length_erase];split<;>omega
   omega
theorem xY {α β:Type} {f : α → β} {l:List α} (hd:l.Nodup) (hf:∀ x∈l,∀ y∈l,f x=f y→x=y) : (l.map f).Nodup:=by
 induction l with
 | nil=>simp
 | cons a r ih =>
   rw [List.nodup_cons] at hd;rw [List.map_cons,List.nodup_cons];refine ⟨fun h => ?_,ih hd.2 fun x hx y hy=>hf x (by simp [hx]) y (by simp [hy])⟩;obtain ⟨b,hb,e⟩:=List.mem_map.1 h;have:=hf b (by simp [hb]) a (by simp) e
   subst this;exact hd.1 hb
theorem nE {α:Type} {acc l:List α} (h:acc.Nodup) : ∀ (j:Nat),(∀ (k:Nat) (hk:k<l.length),k<j→l[k]∉acc++l.take k)→(acc++l.take j).Nodup
 | 0,_=>by simpa using h
 | j+1,hi=>by
   have ih:=nE (l:=l) h j (fun k hk hj=>hi k hk (by omega));by_cases hj:j<l.length
   ·rw [List.take_succ_eq_append_getElem hj,← List.append_assoc,List.nodup_append];refine ⟨ih,by simp,fun a ha b hb e => ?_⟩;simp at hb;subst hb e;exact hi j hj (by omega) ha
   ·rw [List.take_of_length_le (by omega)];rwa [List.take_of_length_le (by omega)] at ih
def zE (b:UInt8) : Nat:=if b.toNat<97 then b.toNat-47 else b.toNat-86
def oa:List UInt8→Nat
 | []=>0
 | b::r=>zE b+37*oa r
theorem rv {b:UInt8} (h:pN b=false) : 1≤zE b∧zE b≤36:=by
 unfold pN at h;simp at h;unfold zE;split<;>omega
theorem Hf {b c:UInt8} (h:pN b=false) (k:pN c=false) (e:zE b=zE c) : b=c:=by
 unfold pN at h k;simp at h k;unfold zE at e;apply UInt8.toNat_inj.1;split at e<;>split at e<;>omega
theorem A0:∀ (l:List UInt8),(∀ b∈l,pN b=false)→oa l<37 ^ l.length
 | [],_=>by simp [oa]
 | b::r,h=>by
   have h1:=rv (h b (by simp));have h2:=A0 r (fun x hx=>h x (by simp [hx]));simp only [oa,List.length_cons,Nat.pow_succ];omega
theorem xZ:∀ (l m:List UInt8),(∀ b∈l,pN b=false)→(∀ b∈m,pN b=false)→oa l=oa m→l=m
 | [],[],_,_,_=>rfl
 | [],c::t,_,k,e=>by
   have:=rv (k c (by simp))
   simp only [oa] at e;omega
 | b::r,[],h,_,e=>by
   have:=rv (h b (by simp))
   simp only [oa] at e;omega
 | b::r,c::t,h,k,e=>by
   have h1:=rv (h b (by simp));have h2:=rv (k c (by simp));simp only [oa] at e;have e1:zE b=zE c:=by omega
   have e2:oa r=oa t:=by omega
   rw [Hf (h b (by simp)) (k c (by simp)) e1,xZ r t (fun x hx=>h x (by simp [hx])) (fun x hx=>k x (by simp [hx])) e2]
theorem sL {s:ByteArray}:fy s=true↔(1≤s.size∧s.size≤8) ∧ ∀ b∈s.data.toList,pN b=false:=by
 unfold fy;rw [Bool.and_eq_true,decide_eq_true_iff,Bool.not_eq_true',List.any_eq_false];constructor
 ·rintro ⟨h,k⟩
  exact ⟨by omega,fun b hb=>by simpa using k b hb⟩
 ·rintro ⟨h,k⟩
  exact ⟨by omega,fun b hb=>by simp [k b hb]⟩
theorem A4 {l:List ByteArray} (hd:l.Nodup) (hv:∀ n∈l,fy n=true) : l.length≤3512479453921:=by
 have h:=v7 3512479453921 (l.map fun n=>oa n.data.toList) (xY hd fun x hx y hy e => ?_) (fun z hz => ?_)
 ·simpa using h
 ·have h1:=xZ _ _ (sL.1 (hv x hx)).2 (sL.1 (hv y hy)).2 e;cases x;cases y
  simpa using h1
 ·obtain ⟨n,hn,rfl⟩:=List.mem_map.1 hz;obtain ⟨h1,h2⟩:=sL.1 (hv n hn);have h3:=A0 _ h2;have h4:n.data.toList.length≤8:=by rw [Array.length_toList];exact h1.2
  have h5 : 37 ^ n.data.toList.length≤37 ^ 8:=Nat.pow_le_pow_right (by omega) h4
  exact Nat.lt_of_lt_of_le h3 h5
theorem Jt {l:List Block} (h:ff l) {a:Int} (hf:br l a=true) : 0≤a∧a≤255:=by
 obtain ⟨hm,e⟩:=ib hf;have:=(h.each _ hm).2.1
 omega
theorem rq.at_ {s:ag} {c:aF} {i:Nat} {h:i<c.ab.length} (hm:rq s c i h) (hH:bp s.Heap) (ho : 0≤c.Order) : br s.Heap.Live c.ab[i].At=true∧0≤c.ab[i].At∧c.ab[i].At≤255:=by
 have hf:br s.Heap.Live c.ab[i].At=true:=by
  cases hf:br s.Heap.Live c.ab[i].At
  ·have:=hm.live
   rw [zA hf] at this;omega
  ·rfl
 exact ⟨hf,Jt hH.live hf⟩
theorem dP.tG {s:ag} {c:aF} (hm:dP s c) (hH:bp s.Heap) : ∀ x∈c.ab,0≤x.At∧x.At≤255:=fun x hx=>by
 obtain ⟨i,hi,rfl⟩:=List.getElem_of_mem hx;exact ((hm.aH i hi).at_ hH (db hm.lay).2.1.1).2
theorem A6 {s:ag} (hH:bp s.Heap) : ∀ (k:Nat),k≤s.aa.length→(∀ (i:Nat) (h:i<s.aa.length),i<k→pC s i h) →
 ((cT (s.aa.take k)).Nodup ∧ ∀ n∈cT (s.aa.take k),fy n=true)∧((aS (s.aa.take k)).Nodup ∧ ∀ a∈aS (s.aa.take k),0≤a∧a≤255)
 | 0,_,_=>by simp [cT,aS]
 | k+1,hk,hI=>by
   obtain ⟨⟨h1,h2⟩,h3,h4⟩:=A6 hH k (by omega) (fun i h h'=>hI i h (by omega));have hc:=hI k (by omega) (by omega);rw [n8 _ _ (by omega),n9 _ _ (by omega)];refine ⟨⟨?_,fun n hn => ?_⟩,?_,fun a ha => ?_⟩
   ·have:=nE (l:=(s.aa[k]'(by omega)).Names) h1 (s.aa[k]'(by omega)).Names.length (fun i hi _=>(hc.names.each i hi).2.1)
    rwa [List.take_length] at this
   ·rcases List.mem_append.1 hn with hn|hn
    ·exact h2 n hn
    ·obtain ⟨i,hi,rfl⟩:=List.getElem_of_mem hn;exact (hc.names.each i hi).1
   ·have:=nE (l:=(s.aa[k]'(by omega)).ab.map fun x=>x.At) h3 (s.aa[k]'(by omega)).ab.length (fun i hi _=>by
     have:=hc.aH i (by simpa using hi)
     simpa [List.map_take] using this)
    rwa [← List.map_take,List.take_length] at this
   ·rcases List.mem_append.1 ha with ha|ha
    ·exact h4 a ha
    ·obtain ⟨x,hx,rfl⟩:=List.mem_map.1 ha;exact hc.may.tG hH x hx
end Go.Proofs.YtbidkghlpijecaaGreatDoor
