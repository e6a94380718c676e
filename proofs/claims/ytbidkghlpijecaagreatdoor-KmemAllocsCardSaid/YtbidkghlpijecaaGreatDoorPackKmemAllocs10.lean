/-
  Texts of the claim KmemAllocs, part 10: what its theorem leans on.
-/
import Derived.Test.YtbidkghlpijecaaGreatDoorPackKmemAllocs8
import Derived.Test.YtbidkghlpijecaaGreatDoorPackKmemAllocs9
import Derived.Test.YtbidkghlpijecaaGreatDoorPackKmemAllocs6
import Derived.Test.YtbidkghlpijecaaGreatDoorPackKmemAllocs2
import Derived.Test.YtbidkghlpijecaaGreatDoorPackKmemAllocs5
import Derived.Test.YtbidkghlpijecaaGreatDoorPackKmemAllocs1
import Derived.Maps.OwnSet
set_option linter.unusedVariables false
set_option linter.unusedSimpArgs false
namespace Go.Proofs.YtbidkghlpijecaaGreatDoor
theorem Dc {x y:Int} (h1 : 0≤x) (h2:x≤64) (h3 : 0≤y) (h4:y≤64) : 0≤x*y∧x*y≤4096 :=
 ⟨Int.mul_nonneg h1 h3,by have:=Int.mul_le_mul h2 h4 h3 (by omega:(0:Int)≤64);omega⟩
def mI (size ji t a:Int) : Bool:=decide (0≤a-t*16) && decide (a-t*16<ji*size) && decide ((a-t*16) % size=0)
theorem Dd {size ji t a:Int} {k:Nat} (hs : 1≤size) (hk:(k:Int)<ji) (h:a=16*t+k*size) : mI size ji t a=true:=by
 have e:a-t*16=k*size:=by omega
 unfold mI;rw [e,decide_eq_true (Int.mul_nonneg (by omega) (by omega)),decide_eq_true (Int.mul_lt_mul_of_pos_right hk (by omega)),decide_eq_true (Int.mul_emod_left _ _)]
 rfl
theorem Bk {size ji t a:Int} (hs : 1≤size) (h:∀ k:Nat,(k:Int)<ji→a≠16*t+k*size) : mI size ji t a=false:=by
 cases e:mI size ji t a
 ·rfl
 ·exfalso;unfold mI at e;simp only [Bool.and_eq_true,decide_eq_true_eq] at e;obtain ⟨⟨e1,e2⟩,e3⟩:=e;have h1:(a-t*16) / size<ji:=Int.ediv_lt_of_lt_mul (by omega) e2
  have h2 : 0≤(a-t*16) / size:=Int.ediv_nonneg e1 (by omega)
  have h3:=Int.mul_ediv_add_emod (a-t*16) size;obtain ⟨k,hk⟩:=Int.eq_ofNat_of_zero_le h2;rw [hk] at h1 h3;rw [e3,Int.mul_comm] at h3;exact h k h1 (by omega)
def pA (ws:List Int) (size ji:Int) (x:Slab) (out:List Int) : Prop:=dN ws ji x.fT [] (some out)∧(out.length:Int)=x.ag ∧ ∀ a∈out,mI size ji x.At a=true
theorem dN.mem {l:List Int} {most x:Int} {acc:List Int} {r:Option (List Int)} (h:dN l most x acc r) : (∀ a∈acc,0≤a∧a<(l.length:Int)) → ∀ out,r=some out → ∀ a∈out,0≤a∧a<(l.length:Int):=by
 induction h with
 | done out=>intro ha o e;cases e;exact ha
 | bad=>intro _ _ e;cases e
 | @step k out r h1 hk h3 h ih =>
   intro ha o e;refine ih (fun a hm => ?_) o e;rcases List.mem_append.1 hm with hm|hm
   ·exact ha a hm
   ·simp at hm;subst hm;exact ⟨by omega,by omega⟩
def y9 (l:List Block) (a:Int) : Int:=if cc l a then (l.getD (bG l a) ⟨0,0,0⟩).Order else -1
theorem za {l:List Block} {a:Int} (h:cc l a=true) (hk:bG l a<l.length) : y9 l a=l[bG l a].Order:=by
 unfold y9;rw [if_pos h];simp [List.getD,hk]
theorem vW {l:List Block} {a:Int} (h:cc l a=false) : y9 l a = -1:=by
 unfold y9;rw [h]
 rfl
structure l9 (s:aE) (c:bf) (i:Nat) (h:i<c.ai.length) : Prop where
 live:y9 s.Heap.Live c.ai[i].At=c.Order
 next : 0<i→(c.ai[i-1]'(by omega)).At<c.ai[i].At
 chain:∃ out,pA s.Words c.bg c.cm c.ai[i] out
def Au (t:Int) (x:Slab) : Bool:=decide (x.At=t)
def zb (c:bf) (i:Nat) (h:i<c.au.length) : Prop:=c.au[i] = -1∨(c.au[i]∉c.au.take i∧c.ai.any (Au c.au[i])=true)
structure jv (s:aE) (c:bf) : Prop where
 lay:dZ c.bg=(c.Order,c.cm,0)
 names : 0<c.Names.length
 a8:(c.au.length:Int)=s.Heap.bY
 aS:∀ (i:Nat) (h:i<c.ai.length),l9 s c i h
 Bl:∀ (i:Nat) (h:i<c.au.length),zb c i h
noncomputable def iY (s:aE) (c:bf) : Bool := @decide (jv s c) (Classical.propDecidable _)
theorem ng {s:aE} {c:bf} (a:jv s c) : iY s c=true:=by unfold iY;exact @decide_eq_true _ (Classical.propDecidable _) a
theorem fc {s:aE} {c:bf} (a : ¬ jv s c) : iY s c=false:=by unfold iY;exact @decide_eq_false _ (Classical.propDecidable _) a
theorem td {s:aE} {c:bf}:iY s c=true↔jv s c:=by
 by_cases a:jv s c
 ·simp [ng a,a]
 ·simp [fc a,a]
theorem iZ {x o n:Int} (h:dZ x=(o,n,0)) : (1≤x∧x≤64)∧(0≤o∧o≤2)∧(1≤n∧n≤64):=by
 unfold dZ at h;split at h
 ·rename_i hx;have k1 : 64 / x≤64:=Int.ediv_le_self _ (by omega)
  have k2 : 1≤64 / x:=by rw [Int.le_ediv_iff_mul_le (by omega)];omega
  have k3 : 16 / x≤16:=Int.ediv_le_self _ (by omega)
  have k4 : 32 / x≤32:=Int.ediv_le_self _ (by omega)
  split at h
  ·simp only [Prod.mk.injEq] at h;omega
  ·split at h
   ·simp only [Prod.mk.injEq] at h;omega
   ·simp only [Prod.mk.injEq] at h;omega
 ·simp only [Prod.mk.injEq] at h;omega
def ca (cs:List bf) : List ByteArray:=cs.flatMap fun c=>c.Names
def cS (cs:List bf) : List Int:=cs.flatMap fun c=>c.ai.map fun x=>x.At
structure vX (acc l:List ByteArray) : Prop where
 each:∀ (k:Nat) (h:k<l.length),gm l[k]=true∧l[k]∉acc++l.take k∧(0<k→fJ (l[k-1]'(by omega)) l[k]=true)
def EY (acc:List Int) (l:List Slab) : Prop := ∀ (k:Nat) (h:k<l.length),l[k].At∉acc++(l.take k).map fun x=>x.At
structure rW (s:aE) (i:Nat) (h:i<s.aa.length) : Prop where
 may:jv s s.aa[i]
 size:∀ (j:Nat) (hj:j<i),(s.aa[j]'(by omega)).bg≠s.aa[i].bg
 names:vX (ca (s.aa.take i)) s.aa[i].Names
 aS:EY (cS (s.aa.take i)) s.aa[i].ai
structure j1 (s:aE) : Prop where
 words:s.Words.length=4096
 heap:bD s.Heap
 most:s.aa.length≤20
 each:∀ (i:Nat) (h:i<s.aa.length),rW s i h
noncomputable def g9 (s:aE) : Bool := @decide (j1 s) (Classical.propDecidable _)
theorem zd {s:aE} (a:j1 s) : g9 s=true:=by unfold g9;exact @decide_eq_true _ (Classical.propDecidable _) a
theorem kf {s:aE} (a : ¬ j1 s) : g9 s=false:=by unfold g9;exact @decide_eq_false _ (Classical.propDecidable _) a
theorem lD {s:aE}:g9 s=true↔j1 s:=by
 by_cases a:j1 s
 ·simp [zd a,a]
 ·simp [kf a,a]
theorem jC (cs:List bf) (i:Nat) (h:i<cs.length) : ca (cs.take (i+1))=ca (cs.take i)++cs[i].Names:=by
 unfold ca;rw [List.take_succ_eq_append_getElem h,List.flatMap_append];simp
theorem jD (cs:List bf) (i:Nat) (h:i<cs.length) : cS (cs.take (i+1))=cS (cs.take i)++cs[i].ai.map fun x=>x.At:=by
 unfold cS;rw [List.take_succ_eq_append_getElem h,List.flatMap_append];simp
open Go.RowKit
theorem De {z:Int} (h1 : -18446744073709551616<z) (h2:z < -9223372036854775808) : IntKind.i64.wrap z=z+18446744073709551616:=by
 simp [IntKind.wrap,IntKind.bits,IntKind.signed];omega
theorem ze (r:dr) (t a:Int) (w:World) (hs : 1≤r.bg∧r.bg≤64) (hp : 1≤r.cm∧r.cm≤64) (ht : 0≤t∧t≤255) (ha : -9223372036854775808≤a∧a≤9223372036854775807) :
 bo Tryz.prog 93 [.agg (dh r).toArray,.int .i64 t,.int .i64 a] w fun v _=>v = .bool (mI r.bg r.cm t a):=by
 refine aI Tryz.func93 rfl Tryz.ntmps93 rfl ?_;refine CW.seq (CW.region (SW.box rfl rfl fun b1 w1 hw gV aB => ?_));have hm:=Dc (x:=r.cm) (y:=r.bg) (by omega) (by omega) (by omega) (by omega);unfold mI;by_cases fy:a-t*16 < -9223372036854775808
 ·have e:=De (z:=a-t*16) (by omega) fy;rw [decide_eq_false (show ¬ 0≤a-t*16 by omega)];repeat' (first|refine Wz ?_|(refine SW.st ((rM rfl rfl).eq (congrArg (Value.int .i64) e)) rfl ?_))
  all_goals try omega
  exact ae.aO rfl rfl ⟨_,rfl,hw,rfl⟩
 ·by_cases h0 : 0≤a-t*16
  ·have e:(a-t*16).tmod r.bg=(a-t*16) % r.bg:=Int.tmod_eq_emod_of_nonneg h0
   rw [decide_eq_true h0];by_cases h1:a-t*16<r.cm*r.bg
   ·rw [decide_eq_true h1];refine Wz ?_;all_goals try omega
    refine ae.aO rfl rfl ⟨_,rfl,hw,?_⟩;rw [e];rfl
   ·rw [decide_eq_false h1];refine Wz ?_;all_goals try omega
    exact ae.aO rfl rfl ⟨_,rfl,hw,rfl⟩
  ·rw [decide_eq_false h0];refine Wz ?_;all_goals try omega
   exact ae.aO rfl rfl ⟨_,rfl,hw,rfl⟩
theorem vY (r:dr) (t a:Int) (w:World) (hs : 1≤r.bg∧r.bg≤64) (hp : 1≤r.cm∧r.cm≤64) (ht : 0≤t∧t≤255) :
 bo Tryz.prog 201 [.agg (dh r).toArray,.int .i64 t,.int .i64 a] w fun v _=>v = .bool (mI r.bg r.cm t a):=by
 refine aI Tryz.func201 rfl Tryz.ntmps201 rfl ?_;refine CW.seq (CW.region (SW.box rfl rfl fun b1 w1 hw gV aB => ?_));refine Wz ?_
 refine CW.loop (fun k:Nat=>[(1,.int .i64 t),(2,.int .i64 a),(3,.pointer (some ⟨b1,0,none⟩)),(7,.int .i64 (k:Int))]) (fun k w'=>(k:Int)≤r.cm∧Ext w w'∧aJ w' b1 89 (dh r) ∧ ∀ i:Nat,i<k→a≠16*t+i*r.bg) (fun k=>r.cm.toNat-k) 0
  ⟨rfl,rfl,rfl,rfl,trivial⟩ ⟨by omega,hw,aB,fun i h=>by omega⟩ ?_
 clear hw aB;rintro k w' ⟨hk,hw,aB,hI⟩
 by_cases cb:(k:Int)<r.cm
 ·have hm:=Dc (x:=(k:Int)) (y:=r.bg) (by omega) (by omega) (by omega) (by omega);by_cases hx:a=16*t+k*r.bg
  ·rw [Dd hs.1 cb hx];refine Wz ?_;all_goals try omega
   exact ae.aO rfl rfl ⟨_,rfl,hw,rfl⟩
  ·refine Wz ?_;all_goals try omega
   exact ae.again (k+1) ⟨rfl,rfl,rfl,rfl,trivial⟩ (by omega) ⟨by omega,hw,aB,fun i h=>by
    by_cases e:i=k
    ·subst e;exact hx
    ·exact hI i (by omega)⟩
 ·rw [Bk hs.1 (fun i h=>hI i (by omega))];refine Wz ?_;exact ae.aO rfl rfl ⟨_,rfl,hw,rfl⟩
theorem zf (a:Int) (b4 b5:Nat) (q:dr) (x:Slab) (w:World) (h4:aJ w b4 89 (dh q)) (h5:aJ w b5 91 (aY x))
 (hs : 1≤q.bg∧q.bg≤64) (hp : 1≤q.cm∧q.cm≤64) (ht : 0≤x.At∧x.At≤255) (ha : 0≤a∧a<9223372036854775807) :
 bo Tryz.prog 185 ([.int .i64 a]++[.pointer (some ⟨b4,0,none⟩),.pointer (some ⟨b5,0,none⟩)]) w fun v _=>v = .bool (!mI q.bg q.cm x.At a):=by
 refine aI Tryz.func185 rfl Tryz.ntmps185 rfl ?_;have hw:=Ext.refl w;repeat' (first|refine Wz ?_|(refine SW.call rfl rfl (ze q x.At a _ hs hp ht (by omega)) ?_;intro v w1 ab hv;subst hv;replace hw:=Ext.trans hw ab;clear ab))
 exact ae.aO rfl rfl ⟨_,rfl,hw,rfl⟩
def ni (lo:Nat) (ws:List Int) (size ji:Int) (x:Slab) (v:Value) (w:World) : Prop :=
 (∃ out A k,pA ws size ji x out∧v = .tuple #[.slice A out.length k,.bool true]∧Own w lo 3 1 bd A out.length k out∧out.length≤17592186044416) ∨
 ((∀ out,¬ pA ws size ji x out)∧v = .tuple #[.slice none 0 0,.bool false])
theorem Bm (r:dQ) (q:dr) (x:Slab) (ws:List Int) (w:World) (hl:Sl w 1 bd r.Words.A r.Words.n ws) (hn:r.Words.n*8≤140737488355328)
 (hs : 1≤q.bg∧q.bg≤64) (hp : 1≤q.cm∧q.cm≤64) (ht : 0≤x.At∧x.At≤255) :
 bo Tryz.prog 94 [.agg (aR r).toArray,.agg (dh q).toArray,.agg (aY x).toArray] w fun v w'=>ni w.heap.size ws q.bg q.cm x v w':=by
 refine aI Tryz.func94 rfl Tryz.ntmps94 rfl ?_;refine CW.seq (CW.region (SW.box rfl rfl fun b3 w1 hw bH aq => ?_));refine SW.box rfl rfl fun b4 w2 cq mA bZ => ?_
 (replace hw:=Ext.trans hw cq;replace aq:=aq.ext cq);refine SW.box rfl rfl fun b5 w3 jW il cd => ?_
 (replace hw:=Ext.trans hw jW;replace aq:=aq.ext jW;replace bZ:=bZ.ext jW);refine Wz ?_;have fy:=hw.size;refine SW.call rfl rfl (yU _ _ _ _ _ _ _ (hl.ext hw) hn) fun v w4 iK hv => ?_
 obtain ⟨Le,hF,hV⟩:=hv;(replace hw:=Ext.trans hw iK;replace aq:=aq.ext iK;replace bZ:=bZ.ext iK;replace cd:=cd.ext iK);have Ia:=hl.len;rcases Le with _|out
 ·subst hV;refine Wz ?_;refine ae.cx rfl rfl rfl ⟨_,rfl,hw,.inr ⟨fun o h => ?_,rfl⟩⟩;have:=hF.jy h.1
  cases this
 ·obtain ⟨A,k,rfl,hO,hlen⟩:=hV;replace hO:=hO.low fy;by_cases fH:(out.length:Int)=x.ag
  ·have cC:∀ w',Ext w4 w'→bo Tryz.prog 96 [.slice A out.length k,.func (.func 185) #[] [.pointer (some ⟨b4,0,none⟩),.pointer (some ⟨b5,0,none⟩)].toArray] w' fun v _=>v = .bool (out.any fun a => !mI q.bg q.cm x.At a):=fun w' hx =>
    gu _ _ _ _ _ (hO.sl.ext hx) _ [.pointer (some ⟨b4,0,none⟩),.pointer (some ⟨b5,0,none⟩)] (fun a => !mI q.bg q.cm x.At a) (fun x => .int .i64 x) (fun x=>rfl)
     (fun a ha w1 jx=>by
       have hm:=hF.mem (by simp) out rfl a ha;exact zf a b4 b5 q x w1 ((bZ.ext hx).ext jx) ((cd.ext hx).ext jx) hs hp ht ⟨hm.1,by omega⟩) (by omega)
   have N4:=Ext.refl w4;repeat' (first|refine Wz ?_|(refine SW.st (iz (vs:=[.pointer (some ⟨b4,0,none⟩),.pointer (some ⟨b5,0,none⟩)]) rfl) rfl ?_))
   refine SW.call rfl rfl (cC _ N4) fun v w5 iV hv => ?_
   (replace hw:=Ext.trans hw iV;replace hO:=hO.ext iV);subst hv;cases dU:out.any fun a => !mI q.bg q.cm x.At a
   ·refine Wz ?_;refine ae.cx rfl rfl rfl ⟨_,rfl,hw,.inl ⟨out,A,k,⟨hF,fH,fun a ha => ?_⟩,rfl,hO,hlen⟩⟩;rw [List.any_eq_false] at dU;simpa using dU a ha
   ·refine Wz ?_;refine ae.cx rfl rfl rfl ⟨_,rfl,hw,.inr ⟨fun o h => ?_,rfl⟩⟩;obtain ⟨a,ha,MA⟩:=List.any_eq_true.1 dU;have e:=hF.jy h.1;injection e with e
    subst e;rw [h.2.2 a ha] at MA;cases MA
  ·refine Wz ?_;all_goals try omega
   refine ae.cx rfl rfl rfl ⟨_,rfl,hw,.inr ⟨fun o h => ?_,rfl⟩⟩;have e:=hF.jy h.1;injection e with e
   subst e;exact fH h.2.1
theorem zg (r:dQ) (q:dr) (x:Slab) (ws:List Int) (w:World) (hl:Sl w 1 bd r.Words.A r.Words.n ws) (hn:r.Words.n*8≤140737488355328)
 (hs : 1≤q.bg∧q.bg≤64) (hp : 1≤q.cm∧q.cm≤64) (ht : 0≤x.At∧x.At≤255) :
 bo Tryz.prog 199 [.agg (aR r).toArray,.agg (dh q).toArray,.agg (aY x).toArray] w fun v w'=>ni w.heap.size ws q.bg q.cm x v w':=by
 refine aI Tryz.func199 rfl Tryz.ntmps199 rfl ?_;refine CW.seq (CW.region (SW.box rfl rfl fun b3 w1 hw bH aq => ?_));refine SW.box rfl rfl fun b4 w2 cq mA bZ => ?_
 (replace hw:=Ext.trans hw cq;replace aq:=aq.ext cq);refine SW.box rfl rfl fun b5 w3 jW il cd => ?_
 (replace hw:=Ext.trans hw jW;replace aq:=aq.ext jW;replace bZ:=bZ.ext jW);refine Wz ?_;have fy:=hw.size;refine SW.call rfl rfl (vR _ _ _ _ _ _ _ (hl.ext hw) hn) fun v w4 iK hv => ?_
 obtain ⟨Le,hF,hV⟩:=hv;(replace hw:=Ext.trans hw iK;replace aq:=aq.ext iK;replace bZ:=bZ.ext iK;replace cd:=cd.ext iK);have Ia:=hl.len;rcases Le with _|out
 ·subst hV;refine Wz ?_;refine ae.cx rfl rfl rfl ⟨_,rfl,hw,.inr ⟨fun o h => ?_,rfl⟩⟩;have:=hF.jy h.1
  cases this
 ·obtain ⟨A,k,rfl,hO,hlen⟩:=hV;replace hO:=hO.low fy;by_cases fH:(out.length:Int)=x.ag
  ·refine Wz ?_;all_goals try omega
   refine CW.loop (fun j:Nat=>[(4,.pointer (some ⟨b4,0,none⟩)),(5,.pointer (some ⟨b5,0,none⟩)),(8,.slice A out.length k),(10,.int .i64 (j:Int))]) (fun j w'=>j≤out.length∧Ext w w'∧Own w' w.heap.size 3 1 bd A out.length k out∧aJ w' b4 89 (dh q)∧aJ w' b5 91 (aY x) ∧ ∀ (i:Nat) (h:i<out.length),i<j→mI q.bg q.cm x.At out[i]=true) (fun j=>out.length-j) 0
    ⟨rfl,rfl,rfl,rfl,trivial⟩ ⟨by omega,hw,hO,bZ,cd,fun i h h'=>by omega⟩ ?_
   clear hw hO bZ cd aq;rintro j w' ⟨hj,hw,hO,bZ,cd,hI⟩
   have MB:=hO.sl.base;by_cases je:j<out.length
   ·have cO:∀ w',bo Tryz.prog 201 [.agg (dh q).toArray,.int .i64 x.At,.int .i64 out[j]] w' fun v _=>v = .bool (mI q.bg q.cm x.At out[j]):=fun w'=>vY q x.At out[j] w' hs hp ht
    cases ho:mI q.bg q.cm x.At out[j]
    ·rw [ho] at cO;repeat' (first|refine Wz ?_|(first|refine CW.bO rfl ?_|(apply CW.aP mixed;(· kernel_rfl);rotate_left;intro w1 ab;replace hw:=Ext.trans hw ab;replace hO:=hO.ext ab;replace bZ:=bZ.ext ab;replace cd:=cd.ext ab;clear ab;rotate_right))|refine SW.st (ao rfl (hO.sl.one je rfl)) rfl ?_|refine SW.br rfl rfl (fun w1 ab=>(cO _)) ?_|exact SW.bx rfl)
     refine ae.cx rfl rfl rfl ⟨_,rfl,hw,.inr ⟨fun o h => ?_,rfl⟩⟩;have e:=hF.jy h.1;injection e with e
     subst e;rw [h.2.2 _ (List.getElem_mem je)] at ho;cases ho
    ·rw [ho] at cO;repeat' (first|refine Wz ?_|(first|refine CW.bB rfl ?_|(apply CW.aP mixed;(· kernel_rfl);rotate_left;intro w1 ab;replace hw:=Ext.trans hw ab;replace hO:=hO.ext ab;replace bZ:=bZ.ext ab;replace cd:=cd.ext ab;clear ab;rotate_right))|refine SW.st (ao rfl (hO.sl.one je rfl)) rfl ?_|refine SW.br rfl rfl (fun w1 ab=>(cO _)) ?_|exact SW.bx rfl)
     exact ae.again (j+1) ⟨rfl,rfl,rfl,rfl,trivial⟩ (by omega) ⟨by omega,hw,hO,bZ,cd,fun i h h'=>by
      by_cases e:i=j
      ·subst e;exact ho
      ·exact hI i h (by omega)⟩
   ·refine Wz ?_;refine ae.cx rfl rfl rfl ⟨_,rfl,hw,.inl ⟨out,A,k,⟨hF,fH,fun a ha => ?_⟩,rfl,hO,hlen⟩⟩;obtain ⟨i,hi,rfl⟩:=List.getElem_of_mem ha;exact hI i hi (by omega)
  ·refine Wz ?_;all_goals try omega
   refine ae.cx rfl rfl rfl ⟨_,rfl,hw,.inr ⟨fun o h => ?_,rfl⟩⟩;have e:=hF.jy h.1;injection e with e
   subst e;exact fH h.2.1
open Go.RowKit
def te (y:bM) (x:aC) : Prop:=y.dO=x.dO∧y.ar=x.ar∧y.Ty=x.Ty
theorem FI.key {w:World} {r:bM} {l:aC} (h:FI w r l) : te r l:=⟨h.cpu,h.fu,h.ty⟩
theorem u7 (r:eB) (L:List aC) (ls:List bM) (x:aC) (y:bM) (w:World) (hl:sv w r.av ls L) (hk:te y x) (hn:r.av.n≤1000000000000000000) :
 bo Tryz.prog 113 [.agg (bm r).toArray,.agg (bq y).toArray] w fun v _=>v = .tuple #[.int .i64 (aZ L x:Int),.bool (bV L x)]:=by
 refine aI Tryz.func113 rfl Tryz.ntmps113 rfl ?_;refine CW.seq (CW.region (SW.box rfl rfl fun b2 w1 hw g7 aL => ?_));refine SW.box rfl rfl fun b3 w2 cq bH aq => ?_
 (replace hw:=Ext.trans hw cq;replace aL:=aL.ext cq);obtain ⟨l1,l2⟩:=hl.len;have hA:=hl.row.base;refine Wz ?_
 refine CW.loop (fun i:Nat=>[(2,.pointer (some ⟨b2,0,none⟩)),(3,.pointer (some ⟨b3,0,none⟩)),(6,.int .i64 (i:Int))])
  (fun i w'=>i≤r.av.n∧Ext w w'∧aJ w' b2 41 (bm r)∧aJ w' b3 142 (bq y) ∧ ∀ (k:Nat) (h:k<L.length),k<i→bz L[k] x) (fun i=>r.av.n-i) 0
  ⟨rfl,rfl,rfl,trivial⟩ ⟨by omega,hw,aL,aq,fun k h h'=>by omega⟩ ?_
 clear hw aL aq;rintro i w' ⟨hi,hw,aL,aq,hI⟩
 by_cases cf:i<r.av.n
 ·have kK:i<L.length:=by omega
  have lE:i<ls.length:=by omega
  have xx:=hl.each.get i lE kK;obtain ⟨q,hq⟩ : ∃ q,decide (bz L[i] x)=q:=⟨_,rfl⟩;obtain ⟨p,hp⟩ : ∃ p,decide (bz x L[i])=p:=⟨_,rfl⟩
  have cL:∀ w',bo Tryz.prog 194 [.agg (bq ls[i]).toArray,.agg (bq y).toArray] w' fun v _=>v = .bool q:=fun w'=>by
   have:=qs ls[i] y L[i] x w' xx.key hk
   rwa [hq] at this
  have cR:∀ w',bo Tryz.prog 194 [.agg (bq y).toArray,.agg (bq ls[i]).toArray] w' fun v _=>v = .bool p:=fun w'=>by
   have:=qs y ls[i] x L[i] w' hk xx.key
   rwa [hp] at this
  cases q
  ·have lf:=of_decide_eq_false hq;have ek:aZ L x=i:=nG (by omega) hI (fun _=>lf)
   have eh:bV L x = !p:=by
    unfold bV;simp only [ek,dif_pos kK,← hp];rcases uX L[i] x with e|e|e
    ·exact absurd e lf
    ·have : ¬ bz x L[i]:=by unfold bz dl at *;omega
     simp [e,this]
    ·have:=(j0 e).2.1
     simp [e,this]
   rw [ek,eh];cases p
   all_goals
    repeat' (first|refine Wz ?_|((apply CW.aP mixed;(· kernel_rfl);rotate_left;intro w1 ab;replace hw:=Ext.trans hw ab;replace aL:=aL.ext ab;replace aq:=aq.ext ab;clear ab;rotate_right))|refine SW.st (aH hw rfl rfl ((hl.row.all cf))) rfl ?_|refine SW.br rfl rfl (fun w1 ab=>(cL _)) ?_|refine SW.br rfl rfl (fun w1 ab=>(cR _)) ?_|exact SW.bx rfl)
    exact ae.cx rfl rfl rfl ⟨_,rfl,hw,rfl⟩
  ·have Lg:=of_decide_eq_true hq;repeat' (first|refine Wz ?_|((apply CW.aP mixed;(· kernel_rfl);rotate_left;intro w1 ab;replace hw:=Ext.trans hw ab;replace aL:=aL.ext ab;replace aq:=aq.ext ab;clear ab;rotate_right))|refine SW.st (aH hw rfl rfl ((hl.row.all cf))) rfl ?_|refine SW.br rfl rfl (fun w1 ab=>(cL _)) ?_|exact SW.bx rfl)
   exact ae.again (i+1) ⟨rfl,rfl,rfl,trivial⟩ (by omega) ⟨by omega,hw,aL,aq,fun k h h'=>by
    by_cases e:k=i
    ·subst e;exact Lg
    ·exact hI k h (by omega)⟩
 ·have ek:aZ L x=i:=nG (by omega) hI (fun h=>by omega)
  have eh:bV L x=false:=by unfold bV;rw [dif_neg (by omega)]
  rw [ek,eh];repeat' (first|refine Wz ?_|((apply CW.aP mixed;(· kernel_rfl);rotate_left;intro w1 ab;replace hw:=Ext.trans hw ab;replace aL:=aL.ext ab;replace aq:=aq.ext ab;clear ab;rotate_right))|exact SW.bx rfl)
  exact ae.cx rfl rfl rfl ⟨_,rfl,hw,rfl⟩
theorem tf (A:Option Addr) (n c:Nat) (l:List Block) (a:Int) (w:World) (hl:Sl w 3 aA A n l) (f:FuncId) [Body Tryz.prog f] (cv:Block→Int) (hf:∀ x∈l,∀ w',Ext w w'→bo Tryz.prog f ([.agg (aA x).toArray,.int .i64 a]++[]) w' fun v _=>v = .int .i64 (cv x))
 (cG:∀ x∈l,cv x≠0) (hn:n≤1000000000000000000) : bo Tryz.prog 105 [.slice A n c,.int .i64 a,.func (.func f) #[] #[]] w fun v _ => ∃ i:Nat,v = .tuple #[.int .i64 (i:Int),.bool false]:=by
 refine aI Tryz.func105 rfl Tryz.ntmps105 rfl ?_;have hw:=Ext.refl w;have hA:=hl.base;have mn:=hl.len;refine Wz ?_
 refine CW.loop (fun s:Nat×Nat=>[(0,.slice A n c),(1,.int .i64 a),(2,.func (.func f) #[] #[]),(8,.int .i64 (n:Int)),(9,.int .i64 (s.1:Int)),(10,.int .i64 (s.2:Int))])
  (fun s w'=>s.1≤s.2∧s.2≤n∧Ext w w') (fun s=>s.2-s.1) (0,n)
  ⟨rfl,rfl,rfl,rfl,rfl,rfl,trivial⟩ ⟨by omega,by omega,hw⟩ ?_
 clear hw;rintro ⟨i,j⟩ w' ⟨kW,je,hw⟩
 simp only at kW je ⊢;by_cases de:i<j
 ·have hk:(i+j) / 2<n:=by omega
  have dk:=hl.lt hk;have pa:=fun w1 h1=>hf (l[(i+j) / 2]) (List.getElem_mem dk) w1 h1
  repeat' (first|refine Wz ?_|refine SW.st (aH hw rfl rfl ((hl.all hk))) rfl ?_|(refine SW.st ((pe Tryz.underlying3 pd rfl).eq (congrArg (Value.int .u64) (wrap_u64 (by omega) (by omega)))) rfl ?_)|(refine SW.st ((pe pd Tryz.underlying3 rfl).eq (congrArg (Value.int .i64) (iw (by omega) (by omega)))) rfl ?_)|(refine SW.st (Ae rfl rfl) rfl ?_))
  refine SW.oY (cap:=[]) rfl rfl rfl (pa _ hw) fun v w1 ab hv => ?_
  subst hv;replace hw:=Ext.trans hw ab;by_cases IG:cv l[(i+j) / 2]<0
  ·refine Wz ?_;exact ae.again ((i+j) / 2+1,j) ⟨rfl,rfl,rfl,rfl,congrArg (fun z=>some (Value.int .i64 z)) (by omega),rfl,trivial⟩ (by simp only;omega) ⟨by simp only;omega,je,hw⟩
  ·refine Wz ?_;exact ae.again (i,(i+j) / 2) ⟨rfl,rfl,rfl,rfl,rfl,congrArg (fun z=>some (Value.int .i64 z)) (by omega),trivial⟩ (by simp only;omega) ⟨by simp only;omega,by simp only;omega,hw⟩
 ·obtain rfl:i=j:=by omega
  by_cases cf:i<n
  ·have dk:=hl.lt cf;have pa:=fun w1 h1=>hf (l[i]) (List.getElem_mem dk) w1 h1
   have h0:=cG (l[i]) (List.getElem_mem dk);repeat' (first|refine Wz ?_|refine SW.st (aH hw rfl rfl ((hl.all cf))) rfl ?_)
   refine SW.oY (cap:=[]) rfl rfl rfl (pa _ hw) fun v w1 ab hv => ?_
   subst hv;replace hw:=Ext.trans hw ab;refine Wz ?_;refine ae.cx rfl rfl rfl ⟨_,rfl,hw,i,?_⟩;rw [decide_eq_false h0]
  ·refine Wz ?_;exact ae.cx rfl rfl rfl ⟨_,rfl,hw,i,rfl⟩
theorem xy (x:Block) (a:Int) (w:World) : bo Tryz.prog 191 ([.agg (aA x).toArray,.int .i64 a]++[]) w fun v _=>v = .int .i64 (IntKind.i64.wrap (x.At-a)):=by
 refine aI Tryz.func191 rfl Tryz.ntmps191 rfl ?_;refine CW.seq (CW.region (SW.box rfl rfl fun b1 w1 hw gV aB => ?_));repeat' (first|refine Wz ?_|(refine SW.st (rM rfl rfl) rfl ?_))
 exact ae.aO rfl rfl ⟨_,rfl,hw,rfl⟩
theorem wrap_zero {z:Int} (h1 : -18446744073709551616<z) (h2:z<18446744073709551616) (h:IntKind.i64.wrap z=0) : z=0:=by
 simp [IntKind.wrap,IntKind.bits,IntKind.signed] at h;omega
def EZ (l:List Block) (a:Int) (v:Value) : Prop:=(cc l a=true→v = .tuple #[.int .i64 (bG l a:Int),.bool true])∧(cc l a=false → ∃ i:Nat,v = .tuple #[.int .i64 (i:Int),.bool false])
theorem oH (r:eB) (L:List aC) (ls:List bM) (x:aC) (w:World) (hl:sv w r.av ls L) (hs:rT L) (hn:r.av.n≤1000000000000000000) (hp:∀ l∈L,l.ax.length*8≤140737488355328) :
 bo Tryz.prog 127 [.agg (bm r).toArray,.int .i64 x.dO,.int .i64 x.ar,.int .i64 x.Ty] w fun v w' => ∃ A c,v = .slice A (dD L x).length c∧Own w' w.heap.size 3 1 bd A (dD L x).length c (dD L x):=by
 refine aI Tryz.func127 rfl Tryz.ntmps127 rfl ?_;refine CW.seq (CW.region (SW.box rfl rfl fun b4 w1 hw mA bZ => ?_));obtain ⟨l1,l2⟩:=hl.len;have hA:=hl.row.base;refine Wz ?_
 refine CW.loop (fun i:Nat=>[(1,.int .i64 x.dO),(2,.int .i64 x.ar),(3,.int .i64 x.Ty),(4,.pointer (some ⟨b4,0,none⟩)),(9,.int .i64 (i:Int))])
  (fun i w'=>i≤r.av.n∧Ext w w'∧aJ w' b4 41 (bm r) ∧ ∀ (k:Nat) (h:k<L.length),k<i → ¬ dl L[k] x) (fun i=>r.av.n-i) 0
  ⟨rfl,rfl,rfl,rfl,rfl,trivial⟩ ⟨by omega,hw,bZ,fun k h h'=>by omega⟩ ?_
 clear hw bZ;rintro i w' ⟨hi,hw,bZ,hI⟩
 by_cases cf:i<r.av.n
 ·have kK:i<L.length:=by omega
  have lE:i<ls.length:=by omega
  have xx:=hl.each.get i lE kK;have e1:=xx.cpu;have e2:=xx.fu;have e3:=xx.ty;have tg:=xx.bL.len;have FG:=hp _ (List.getElem_mem kK);have g0:=hl.row.dA cf (j:=0) (u := .int .i64 ls[i].dO) rfl;have g1:=hl.row.dA cf (j:=1) (u := .int .i64 ls[i].ar) rfl;have g2:=hl.row.dA cf (j:=2) (u := .int .i64 ls[i].Ty) rfl;have g3:=hl.row.dA cf (j:=3) (u := .slice ls[i].ax.A ls[i].ax.n ls[i].ax.c) rfl;by_cases hk:dl L[i] x
  ·obtain ⟨k1,k2,k3⟩:=id hk;obtain ⟨ek,eh⟩:=C2 hs kK hk
   have ep:dD L x=L[i].ax:=by
    rw [iX eh (by omega)];simp only [ek]
   rw [ep];repeat' (first|refine Wz ?_|refine SW.st (ap hw rfl g0) rfl ?_|refine SW.st (ap hw rfl g1) rfl ?_|refine SW.st (ap hw rfl g2) rfl ?_|refine SW.st (ap hw rfl g3) rfl ?_)
   all_goals try omega
   refine SW.call rfl rfl (gf _ _ _ _ _ (xx.bL.ext hw) (by omega)) fun v w4 aj hv => ?_
   obtain ⟨X,c4,rfl,hX⟩:=hv;replace hX:=hX.low hw.size;replace hw:=Ext.trans hw aj;refine Wz ?_;refine ae.aO rfl rfl ⟨_,rfl,hw,X,c4,by rw [tg],by rw [tg];exact hX⟩
  ·have oR : ¬ (ls[i].dO=x.dO∧ls[i].ar=x.ar∧ls[i].Ty=x.Ty):=by unfold dl at hk;omega
   repeat' (first|refine Wz ?_|refine SW.cV rfl rfl rfl (fun h => ?_) (fun h => ?_)|refine SW.st (ap hw rfl g0) rfl ?_|refine SW.st (ap hw rfl g1) rfl ?_|refine SW.st (ap hw rfl g2) rfl ?_)
   all_goals try omega
   all_goals
    exact ae.again (i+1) ⟨rfl,rfl,rfl,rfl,rfl,trivial⟩ (by omega) ⟨by omega,hw,bZ,fun k h h'=>by
     by_cases e:k=i
     ·subst e;exact hk
     ·exact hI k h (by omega)⟩
 ·have ep:dD L x=[]:=lB (C3 fun k hk=>hI k hk (by omega))
  rw [ep];refine Wz ?_;exact ae.aO rfl rfl ⟨_,rfl,hw,none,0,rfl,Own.eJ _ _ _ _ _ _⟩
open Go.RowKit
theorem qZ (x:Block) (a:Int) (w:World) : bo Tryz.prog 180 ([.agg (aA x).toArray,.int .i64 a]++[]) w fun v _=>v = .int .i64 (IntKind.i64.wrap (x.At-a)):=by
 refine aI Tryz.func180 rfl Tryz.ntmps180 rfl ?_;refine CW.seq (CW.region (SW.box rfl rfl fun b1 w1 hw gV aB => ?_));repeat' (first|refine Wz ?_|(refine SW.st (rM rfl rfl) rfl ?_))
 exact ae.aO rfl rfl ⟨_,rfl,hw,rfl⟩
theorem xz (A:Option Addr) (n c:Nat) (l:List Block) (a:Int) (w:World) (hl:Sl w 3 aA A n l) (hu:l.Pairwise fun x y=>x.At<y.At) (hb:∀ b∈l,0≤b.At∧b.At≤255) (hn:n≤1000000000000000000) (ha : -9223372036854775808≤a∧a≤9223372036854775807) :
 bo Tryz.prog 105 [.slice A n c,.int .i64 a,.func (.func 180) #[] #[]] w fun v _=>EZ l a v:=by
 by_cases cf : -1000000≤a∧a≤1000000
 ·refine (jA _ _ _ _ a _ hl _ (fun x hx w' _=>by
   have:=qZ x a w'
   have h:=hb x hx;rwa [iw (by omega) (by omega)] at this) hu hn).mono fun v w2 cq hv => ?_
  subst hv;exact ⟨fun h=>by rw [h],fun h=>⟨bG l a,by rw [h]⟩⟩
 ·have hf:cc l a=false:=by
   unfold cc;split
   ·rename_i h;have:=hb _ (List.getElem_mem h)
    exact decide_eq_false (by omega)
   ·rfl
  refine (tf _ _ _ _ a _ hl _ (fun x=>IntKind.i64.wrap (x.At-a)) (fun x hx w' _=>qZ x a w') (fun x hx h0=>by
   have h:=hb x hx;have:=wrap_zero (by omega) (by omega) h0
   omega) hn).mono fun v w2 cq hv => ?_
  obtain ⟨i,rfl⟩:=hv;exact ⟨fun h=>absurd (hf.symm.trans h) (by simp),fun _=>⟨i,rfl⟩⟩
theorem Bn (x:Slab) (b3:Nat) (t:Int) (w:World) (h3:aJ w b3 3 [.int .i64 t]) :
 bo Tryz.prog 231 ([.agg (aY x).toArray]++[.pointer (some ⟨b3,0,none⟩)]) w fun v _=>v = .bool (Au t x):=by
 refine aI Tryz.func231 rfl Tryz.ntmps231 rfl ?_;refine CW.seq (CW.region (SW.box rfl rfl fun b1 w1 hw gV aB => ?_));replace h3:=h3.ext hw;have IX:=h3.cell (i:=0) (v := .int .i64 t) rfl;rw [add_zero] at IX;repeat' (first|refine Wz ?_|refine SW.st (ao rfl IX) rfl ?_)
 exact ae.aO rfl rfl ⟨_,rfl,hw,rfl⟩
theorem xA (q:dr) (l:List Slab) (t:Int) (w:World) (hl:Sl w 3 aY q.ai.A q.ai.n l) (hn:q.ai.n≤9223372036854775807) :
 bo Tryz.prog 181 [.agg (dh q).toArray,.int .i64 t] w fun v _=>v = .int .i64 (idxOf (Au t) l):=by
 refine aI Tryz.func181 rfl Tryz.ntmps181 rfl ?_;refine CW.seq (CW.region (SW.box rfl rfl fun b2 w1 hw g7 aL => ?_));refine SW.ED rfl rfl rfl fun b3 w2 cq bH aq => ?_
 (replace hw:=Ext.trans hw cq;replace aL:=aL.ext cq);repeat' (first|refine Wz ?_|(refine SW.st (iz (vs:=[.pointer (some ⟨b3,0,none⟩)]) rfl) rfl ?_))
 refine SW.call rfl rfl (iF _ _ _ _ _ (hl.ext hw) _ [.pointer (some ⟨b3,0,none⟩)] (Au t) (fun x => .agg (aY x).toArray) (fun x=>rfl) (fun x _ w1 jx=>Bn x b3 t w1 (aq.ext jx)) hn) fun v w4 iK hv => ?_
 subst hv;replace hw:=Ext.trans hw iK;refine Wz ?_;exact ae.aO rfl rfl ⟨_,rfl,hw,rfl⟩
theorem u9 {x:Int} {w:World} {f:FuncId} {o n e:Int} (h:bo Tryz.prog f [.int .i64 x] w fun v _=>v=jj x) (hE:dZ x=(o,n,e)) : bo Tryz.prog f [.int .i64 x] w fun v _=>v = .tuple #[.int .i64 o,.int .i64 n,.int .i64 e]:=by
 refine h.mono fun v w' _ hv => ?_
 rw [hv,jj,hE]
set_option maxHeartbeats 4000000 in
theorem Bo (r:dQ) (s:aE) (q:dr) (c:bf) (w:World) (hr:qR w r s) (hq:Cf w q c) (hs:s.small) (gG:c.small) (hH:bD s.Heap) (qO:∀ x∈c.ai,-9223372036854775808≤x.At∧x.At≤9223372036854775807) :
 bo Tryz.prog 89 [.agg (aR r).toArray,.agg (dh q).toArray] w fun v _=>v = .bool (iY s c):=by
 refine aI Tryz.func89 rfl Tryz.ntmps89 rfl ?_;refine CW.seq (CW.region (SW.box rfl rfl fun b2 w1 hw g7 aL => ?_));refine SW.box rfl rfl fun b3 w2 cq bH aq => ?_
 (replace hw:=Ext.trans hw cq;replace aL:=aL.ext cq);obtain ⟨o,n,e,hE⟩ : ∃ o n e,dZ c.bg=(o,n,e):=⟨_,_,_,rfl⟩;have eS:=hq.size;have eP:=hq.ji;have eO:=hq.order;have n1:=hq.names.len;have n2:=hq.aS.len;have n3:=hq.a8.len;have m1:=gG.names;have m2:=gG.aS;have m3:=gG.a8;have eC:=hr.heap.dY;have wl:=hr.words.len;have m4:=hs.words;have mn:=hr.heap.live.len;have m5:=hs.heap.live;have GA:=hq.cap;have cL:∀ w',bo Tryz.prog 141 [.int .i64 q.bg] w' fun v _=>v = .tuple #[.int .i64 o,.int .i64 n,.int .i64 e]:=fun w'=>u9 (yT q.bg w') (by rw [eS];exact hE)
 rcases (show ¬ (e=0∧c.Order=o∧c.cm=n∧0<c.Names.length∧(c.au.length:Int)=s.Heap.bY)∨(e=0∧c.Order=o∧c.cm=n∧0<c.Names.length∧(c.au.length:Int)=s.Heap.bY) by omega) with nP|⟨h1,h2,h3,h4,h5⟩
 ·have hF:iY s c=false:=fc fun hm=>nP (by
   have:=hm.lay
   rw [hE] at this;simp only [Prod.mk.injEq] at this;exact ⟨this.2.2,this.1.symm,this.2.1.symm,hm.names,hm.a8⟩)
  rw [hF];rcases (show e≠0∨(e=0∧c.Order≠o)∨(e=0∧c.Order=o∧c.cm≠n)∨(e=0∧c.Order=o∧c.cm=n∧c.Names.length=0)∨(e=0∧c.Order=o∧c.cm=n∧0<c.Names.length∧(c.au.length:Int)≠s.Heap.bY) by omega) with g|g|g|g|g
  all_goals
   repeat' (first|refine Wz ?_|(refine SW.call rfl rfl (cL _) ?_;intro v w1 ab hv;subst hv;replace hw:=Ext.trans hw ab;replace aL:=aL.ext ab;replace aq:=aq.ext ab;clear ab))
   all_goals try omega
   exact ae.aO rfl rfl ⟨_,rfl,hw,rfl⟩
 ·subst h1;have E0:dZ c.bg=(c.Order,c.cm,0):=by rw [hE,h2,h3]
  obtain ⟨l1,l2,l3⟩:=iZ hE;have de:=rV hH.live
  have Kd:∀ b∈s.Heap.Live,0≤b.At∧b.At≤255:=fun b hb=>by
   obtain ⟨i,hi,rfl⟩:=List.getElem_of_mem hb;exact (hH.live.each i hi).2.1
  repeat' (first|refine Wz ?_|(refine SW.call rfl rfl (cL _) ?_;intro v w1 ab hv;subst hv;replace hw:=Ext.trans hw ab;replace aL:=aL.ext ab;replace aq:=aq.ext ab;clear ab))
  all_goals try omega
  clear cL
  refine CW.loop (fun k:Nat=>[(2,.pointer (some ⟨b2,0,none⟩)),(3,.pointer (some ⟨b3,0,none⟩)),(5,.int .i64 o),(53,.slice q.ai.A q.ai.n q.ai.c),(54,.int .i64 (q.ai.n:Int)),(55,.int .i64 (k:Int))])
   (fun k w'=>k≤q.ai.n∧Ext w w'∧aJ w' b2 44 (aR r)∧aJ w' b3 89 (dh q) ∧ ∀ (i:Nat) (h:i<c.ai.length),i<k→l9 s c i h) (fun k=>q.ai.n-k) 0
   ⟨rfl,rfl,rfl,rfl,rfl,rfl,trivial⟩ ⟨by omega,hw,aL,aq,fun i h h'=>by omega⟩ ?_
  clear hw aL aq;rintro k w' ⟨hk,hw,aL,aq,hI⟩
  have hA:=hq.aS.base;by_cases cb:k<q.ai.n
  ·have dk:k<c.ai.length:=by omega
   repeat' (first|refine Wz ?_|refine SW.st (aH hw rfl rfl ((hq.aS.all cb))) rfl ?_)
   refine SW.alloc rfl fun b9 w1 ab ox bk => ?_
   refine Wz ?_;refine SW.ak bk rfl rfl rfl rfl (fw.one (enc:=aY) _) fun w2 gi hg => ?_
   have aj:=ab.own ox hg;have ry:w.heap.size≤b9:=Nat.le_trans hw.size ox
   replace hw:=Ext.trans hw aj;replace aL:=aL.ext aj;replace aq:=aq.ext aj;replace bk:=gi;clear gi ab hg aj;refine Wz ?_;refine SW.call rfl rfl (xz _ _ _ _ _ _ (hr.heap.live.ext hw) de Kd (by omega) (qO _ (List.getElem_mem dk))) fun v w4 iK hv => ?_
   (replace hw:=Ext.trans hw iK;replace aL:=aL.ext iK;replace aq:=aq.ext iK;replace bk:=bk.ext iK);cases E1:cc s.Heap.Live c.ai[k].At
   ·obtain ⟨j,rfl⟩:=hv.2 E1
    have hF:iY s c=false:=fc fun hm=>by
     have:=(hm.aS k dk).live
     rw [vW E1] at this;omega
    rw [hF];repeat' (first|refine Wz ?_|((apply CW.aP mixed;(· kernel_rfl);rotate_left;intro w1 ab;replace hw:=Ext.trans hw ab;replace aL:=aL.ext ab;replace aq:=aq.ext ab;replace bk:=bk.ext ab;clear ab;rotate_right))|refine SW.skip rfl rfl rfl rfl ?_|exact SW.bx rfl)
    exact ae.aO rfl rfl ⟨_,rfl,hw,rfl⟩
   ·have Bp:=hv.1 E1;subst Bp;obtain ⟨r9,MC⟩:=py E1;have Lh:=za E1 r9;obtain ⟨m,em⟩ : ∃ m,bG s.Heap.Live c.ai[k].At=m:=⟨_,rfl⟩;simp only [em] at r9 MC Lh hv ⊢;have FR:m<r.Heap.Live.n:=by omega
    have Pw:=hr.heap.live.base;have gO:=hr.heap.live.dA FR (j:=1) (u := .int .i64 s.Heap.Live[m].Order) rfl
    have ht : 0≤c.ai[k].At∧c.ai[k].At≤255:=by
     have:=Kd _ (List.getElem_mem r9)
     omega
    have hS : 1≤q.bg∧q.bg≤64:=by omega
    have hP : 1≤q.cm∧q.cm≤64:=by omega
    by_cases rz:s.Heap.Live[m].Order=o
    ·by_cases E2 : 0<k→(c.ai[k-1]'(by omega)).At<c.ai[k].At
     ·rcases Nat.eq_zero_or_pos k with p7|p7
      all_goals
       first
       | (have gP:=hq.aS.dA (show k-1<q.ai.n by omega) (j:=0) (u := .int .i64 (c.ai[k-1]'(by omega)).At) rfl
          have sh:=E2 p7)
       | skip
      all_goals
       repeat' (first|refine Wz ?_|((apply CW.aP mixed;(· kernel_rfl);rotate_left;intro w1 ab;replace hw:=Ext.trans hw ab;replace aL:=aL.ext ab;replace aq:=aq.ext ab;replace bk:=bk.ext ab;clear ab;rotate_right))|refine SW.want rfl rfl ?_|refine SW.st (bc (k-1) rfl rfl (by assumption) (by omega) (by omega)) rfl ?_|refine SW.st (ap hw rfl gO) rfl ?_|refine SW.st (ap hw rfl gP) rfl ?_|exact SW.bx rfl)
       all_goals try omega
       refine SW.call rfl rfl (Bm r q c.ai[k] s.Words _ (hr.words.ext hw) (by omega) hS hP ht) fun v w5 iV th => ?_
       (replace hw:=Ext.trans hw iV;replace aL:=aL.ext iV;replace aq:=aq.ext iV);rw [eS,eP] at th;rcases th with ⟨out,A5,c5,hC,rfl,_,_⟩|⟨lf,rfl⟩
       ·repeat' (first|refine Wz ?_|(refine CW.bB rfl ?_))
        exact ae.again (k+1) ⟨rfl,rfl,rfl,rfl,rfl,rfl,trivial⟩ (by omega) ⟨by omega,hw,aL,aq,fun i h h'=>by
         by_cases ei:i=k
         ·subst ei;exact ⟨by omega,E2,⟨out,hC⟩⟩
         ·exact hI i h (by omega)⟩
       ·rw [fc fun hm=>(hm.aS k dk).chain.elim lf];repeat' (first|refine Wz ?_|(refine CW.bO rfl ?_))
        exact ae.aO rfl rfl ⟨_,rfl,hw,rfl⟩
     ·have p7 : 0<k:=by
       rcases Nat.eq_zero_or_pos k with h|h
       ·exact absurd (fun h'=>by omega) E2
       ·exact h
      have ym : ¬ (c.ai[k-1]'(by omega)).At<c.ai[k].At:=fun h=>E2 fun _=>h
      have gP:=hq.aS.dA (show k-1<q.ai.n by omega) (j:=0) (u := .int .i64 (c.ai[k-1]'(by omega)).At) rfl;rw [fc fun hm=>ym ((hm.aS k dk).next p7)];repeat' (first|refine Wz ?_|((apply CW.aP mixed;(· kernel_rfl);rotate_left;intro w1 ab;replace hw:=Ext.trans hw ab;replace aL:=aL.ext ab;replace aq:=aq.ext ab;replace bk:=bk.ext ab;clear ab;rotate_right))|refine SW.want rfl rfl ?_|refine SW.st (bc (k-1) rfl rfl (by assumption) (by omega) (by omega)) rfl ?_|refine SW.st (ap hw rfl gO) rfl ?_|refine SW.st (ap hw rfl gP) rfl ?_|exact SW.bx rfl)
      all_goals try omega
      exact ae.aO rfl rfl ⟨_,rfl,hw,rfl⟩
    ·rw [fc fun hm=>rz (by have:=(hm.aS k dk).live;omega)];repeat' (first|refine Wz ?_|((apply CW.aP mixed;(· kernel_rfl);rotate_left;intro w1 ab;replace hw:=Ext.trans hw ab;replace aL:=aL.ext ab;replace aq:=aq.ext ab;replace bk:=bk.ext ab;clear ab;rotate_right))|refine SW.want rfl rfl ?_|refine SW.st (ap hw rfl gO) rfl ?_|exact SW.bx rfl)
     all_goals try omega
     exact ae.aO rfl rfl ⟨_,rfl,hw,rfl⟩
  ·have fP:∀ (i:Nat) (h:i<c.ai.length),l9 s c i h:=fun i h=>hI i h (by omega)
   refine Wz ?_;clear hI cb hk hA
   refine CW.loop (fun k:Nat=>[(3,.pointer (some ⟨b3,0,none⟩)),(109,.slice q.au.A q.au.n q.au.c),(110,.int .i64 (q.au.n:Int)),(111,.int .i64 (k:Int))])
    (fun k w'=>k≤q.au.n∧Ext w w'∧aJ w' b3 89 (dh q) ∧ ∀ (i:Nat) (h:i<c.au.length),i<k→zb c i h) (fun k=>q.au.n-k) 0
    ⟨rfl,rfl,rfl,rfl,trivial⟩ ⟨by omega,hw,aq,fun i h h'=>by omega⟩ ?_
   clear hw aq aL;rintro k w' ⟨hk,hw,aq,hI⟩
   have hA:=hq.a8.base;by_cases cb:k<q.au.n
   ·have dk:k<c.au.length:=by omega
    obtain ⟨a,ea⟩ : ∃ a,c.au[k]=a:=⟨_,rfl⟩;have gA:=hq.a8.one cb (u := .int .i64 a) (by rw [← ea];rfl);by_cases ha:a = -1
    ·repeat' (first|refine Wz ?_|refine SW.st (ap hw rfl gA) rfl ?_)
     exact ae.again (k+1) ⟨rfl,rfl,rfl,rfl,trivial⟩ (by omega) ⟨by omega,hw,aq,fun i h h'=>by
      by_cases ei:i=k
      ·subst ei;exact .inl (by omega)
      ·exact hI i h (by omega)⟩
    ·have cN:∀ w',Ext w w'→bo Tryz.prog 95 [.slice q.au.A k q.au.c,.int .i64 a] w' fun v _=>v = .bool (decide (a∈c.au.take k)):=fun w' hx=>gK _ _ _ _ _ _ ((hq.a8.ext hx).pre (show k≤q.au.n by omega)) (by omega)
     obtain ⟨z,hz⟩ : ∃ z,idxOf (Au a) c.ai=z:=⟨_,rfl⟩;have iP:=iC (Au a) c.ai;rw [hz] at iP
     have cF:∀ w',Ext w w'→bo Tryz.prog 181 [.agg (dh q).toArray,.int .i64 a] w' fun v _=>v = .int .i64 z:=fun w' hx=>by
      have:=xA q c.ai a w' (hq.aS.ext hx) (by omega)
      rwa [hz] at this
     have FT:(a∈c.au.take k ∨ ¬ 0≤z)→iY s c=false:=fun h=>fc fun hm=>by
      rcases hm.Bl k dk with g|⟨g1,g2⟩
      ·omega
      ·rw [ea] at g1 g2;rcases h with h|h
       ·exact g1 h
       ·rw [g2] at iP;exact h (of_decide_eq_true iP)
     by_cases lz:a∈c.au.take k
     ·rw [decide_eq_true lz] at cN;rw [FT (.inl lz)];repeat' (first|refine Wz ?_|refine SW.st (ap hw rfl gA) rfl ?_|(refine SW.call rfl rfl (cN _ hw) ?_;intro v w1 ab hv;subst hv;replace hw:=Ext.trans hw ab;replace aq:=aq.ext ab;clear ab)|(refine SW.st (dg (k:=k) rfl rfl (by omega)) rfl ?_))
      all_goals try omega
      exact ae.aO rfl rfl ⟨_,rfl,hw,rfl⟩
     ·rw [decide_eq_false lz] at cN;by_cases sZ : 0≤z
      ·repeat' (first|refine Wz ?_|refine SW.st (ap hw rfl gA) rfl ?_|((first|refine SW.call rfl rfl (cN _ hw) ?_|refine SW.call rfl rfl (cF _ hw) ?_);intro v w1 ab hv;subst hv;replace hw:=Ext.trans hw ab;replace aq:=aq.ext ab;clear ab)|(refine SW.st (dg (k:=k) rfl rfl (by omega)) rfl ?_))
       all_goals try omega
       exact ae.again (k+1) ⟨rfl,rfl,rfl,rfl,trivial⟩ (by omega) ⟨by omega,hw,aq,fun i h h'=>by
        by_cases ei:i=k
        ·subst ei;exact .inr ⟨by rw [ea];exact lz,by rw [ea,← iP];exact decide_eq_true sZ⟩
        ·exact hI i h (by omega)⟩
      ·rw [FT (.inr sZ)];repeat' (first|refine Wz ?_|refine SW.st (ap hw rfl gA) rfl ?_|((first|refine SW.call rfl rfl (cN _ hw) ?_|refine SW.call rfl rfl (cF _ hw) ?_);intro v w1 ab hv;subst hv;replace hw:=Ext.trans hw ab;replace aq:=aq.ext ab;clear ab)|(refine SW.st (dg (k:=k) rfl rfl (by omega)) rfl ?_))
       all_goals try omega
       exact ae.aO rfl rfl ⟨_,rfl,hw,rfl⟩
   ·rw [ng ⟨E0,h4,h5,fP,fun i h=>hI i h (by omega)⟩];refine Wz ?_;exact ae.aO rfl rfl ⟨_,rfl,hw,rfl⟩
open Go.RowKit Go.Maps
structure lF (w:World) (P:Program) (k e:TypeId) (b:Nat) (keys:List Lit) : Prop where
 own:w.ownsMap (H:=Unit) P k (plainElem P e) b keys.length (setOf (.lit (.bool true)) keys)
 ok:∀ x∈keys,WideAt.IsKeyLit x
theorem lF.ext {w w':World} {P:Program} {k e:TypeId} {b:Nat} {keys:List Lit} (h:lF w P k e b keys) (hx:Ext w w') : lF w' P k e b keys:=⟨h.own.kept (row:=none) ⟨hx.os,hx.tape,hx.output,hx.size,fun i hi _=>hx.block i hi⟩ (by simp),h.ok⟩
theorem lF.grown {w w':World} {P:Program} {k e:TypeId} {b:Nat} {keys:List Lit} {row:Option Nat} (h:lF w P k e b keys) (hg:w.grownBy w' row) (cG:some b≠row) : lF w' P k e b keys:=⟨h.own.kept hg cG,h.ok⟩
theorem lF.lt {w:World} {P:Program} {k e:TypeId} {b:Nat} {keys:List Lit} (h:lF w P k e b keys) : b<w.heap.size:=h.own.lt
theorem ti (u z:DataW Unit) (k:Lit) : ∀ (acc:List Lit) (m:DataW Unit),IsMap m→(∀ x∈acc,WideAt.IsKeyLit x)→(acc.foldl (fun m x=>m.put x u) m).atKey k z=if acc.any (fun x=>x.sameKey k) then u else m.atKey k z
 | [],m,_,_=>by simp
 | x::r,m,hm,h=>by
   rw [List.foldl_cons,ti u z k r (m.put x u) (hm.put x u) (fun y hy=>h y (by simp [hy])),List.any_cons];by_cases e:k=x
   ·subst e;rw [atKey_put_same hm (h k (by simp)),WideAt.sameKey_self (h k (by simp))];simp
   ·rw [atKey_put_other e,sameKey_ne (fun e'=>e e'.symm)];simp
theorem Bq (k:Lit) (acc:List Lit) (h:∀ x∈acc,WideAt.IsKeyLit x) : (setOf (.lit (.bool true)) acc:DataW Unit).atKey k (.lit (.bool false)) = .lit (.bool (acc.any fun x=>x.sameKey k)):=by
 rw [setOf,ti _ _ k acc _ isMap_empty h];cases acc.any fun x=>x.sameKey k<;>rfl
section
variable {P:Program} {n:Nat} {ops:Array Oper} {Q:Exit→Act→World→Prop} {rest:List Oper} {L:Env} {w:World} {T:TypeId} {pos:String} {af:Array Edge}
theorem SW.makeMap {d:Nat} {t:TypeId} (k e:TypeId) (hn:Nat.blt d n=true) (h:∀ b w',Ext w w'→w.heap.size≤b→lF w' P k e b []→SW P n ops (.ff Q) rest ((d,.map (some b))::L) w') :
 SW P n ops (.ff Q) (⟨some d,.makeMap t none,T,pos,af,none⟩::rest) L w :=
 ⟨fun a ha=>by
  simp only [swp,wpList,Region.wanted,if_true];refine .inl ?_;unfold Oper.wp
  have:(execOp a.eval ⟨some d,.makeMap t none,T,pos,af,none⟩).run P w = .ok (.value (.map (some w.heap.size))) (w.alloc (.map #[] 0)):=by
   simp [execOp,run_makeMap]
  rw [this,Oper.upon_value];exact (h _ _ (Ext.alloc w _) (Nat.le_refl _) ⟨World.ownsMap_made w P k _,fun x hx=>by simp at hx⟩).out _ (ha.put hn _)⟩
theorem tm {d:Option Nat} {g:Option (Nat×Bool)} {t k e:TypeId} {b:Nat} {keys:List Lit} {m x:Operand} {key:Value} {kl:Lit} (hB:lF w P k e b keys) (K:Keyed P k) (ht:P.underlying t=some (.map k e)) (he:P.underlying e=some .bool) (hz:∀ w,(zeroValue e).run P w = .ok (.bool false) w)
 (hm:bR L m=some (.map (some b))) (hx:bR L x=some key) (ma:Go.keyOf P k key=some kl) : St P ⟨d,.lookup t m x false,T,pos,af,g⟩ L w (.bool (keys.any fun y=>y.sameKey kl)) :=
 ⟨fun n a ha w' N5=>by
  have rq:=hB.ext N5;obtain ⟨v,ps,zh,hv⟩:=rq.own.lookup K ht (hz w') (plainElem_bool he false) ma;rw [Bq _ _ hB.ok] at hv
  have II:v = .bool (keys.any fun y=>y.sameKey kl):=by
   unfold plainElem at hv;rw [he] at hv;cases v<;>simp at hv
   rw [hv.1]
  subst II;simp [execOp,ha.eval hm,ha.eval hx,zh]⟩
theorem SW.zj {t k e:TypeId} {b:Nat} {keys:List Lit} {m x y:Operand} {key:Value} {kl:Lit} (hB:lF w P k e b keys) (K:Keyed P k) (ht:P.underlying t=some (.map k e)) (he:P.underlying e=some .bool) (jq:keys.length<maxLen)
 (hm:bR L m=some (.map (some b))) (hx:bR L x=some key) (hy:bR L y=some (.bool true)) (ma:Go.keyOf P k key=some kl) (hk:WideAt.IsKeyLit kl)
 (h:∀ w',lF w' P k e b (keys++[kl])→w.grownBy w' (some b)→SW P n ops (.ff Q) rest L w') : SW P n ops (.ff Q) (⟨none,.mapUpdate t m x y,T,pos,af,none⟩::rest) L w :=
 ⟨fun a ha=>by
  obtain ⟨w',zh,r1,r2⟩:=hB.own.update K ht jq ma (plainElem_bool he true);simp only [swp,wpList,Region.wanted,if_true];refine .inl ?_;unfold Oper.wp
  have:(execOp a.eval ⟨none,.mapUpdate t m x y,T,pos,af,none⟩).run P w = .ok .skip w':=by
   simp [execOp,ha.eval hm,ha.eval hx,ha.eval hy,zh]
  rw [this,Oper.upon_skip];refine (h w' ⟨?_,fun z hz => ?_⟩ r2).out _ ha
  ·rw [setOf_snoc];simpa using r1
  ·rcases List.mem_append.1 hz with hz|hz
   ·exact hB.ok z hz
   ·simp at hz;subst hz;exact hk⟩
end
end Go.Proofs.YtbidkghlpijecaaGreatDoor
