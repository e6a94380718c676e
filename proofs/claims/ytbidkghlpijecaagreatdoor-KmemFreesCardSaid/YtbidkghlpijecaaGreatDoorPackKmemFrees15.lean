/-
  Texts of the claim KmemFrees, part 15: what its theorem leans on.
-/
import Derived.Test.YtbidkghlpijecaaGreatDoorPackKmemFrees14
import Derived.Test.YtbidkghlpijecaaGreatDoorPackKmemFrees2
import Derived.Test.YtbidkghlpijecaaGreatDoorRows
import Derived.ProofKit
import Derived.LaidMore
import Derived.OpenShut
import Derived.Stop.Joined
import Derived.Test.YtbidkghlpijecaaGreatDoorPackKmemFrees4
import Derived.Test.YtbidkghlpijecaaGreatDoorPackKmemFrees11
set_option linter.unusedVariables false
set_option linter.unusedSimpArgs false
namespace Go.Proofs.YtbidkghlpijecaaGreatDoor
open Go.RowKit
def kL:List Int:=[1,2,4,8,16,32]
def wY (k:Int) : ByteArray:=if k=1 then ⟨#[49]⟩ else if k=2 then ⟨#[50]⟩ else if k=4 then ⟨#[52]⟩ else if k=8 then ⟨#[56]⟩ else if k=16 then ⟨#[49,54]⟩ else ⟨#[51,50]⟩
def g7 (k:Int) : ByteArray:=if k=1 then ⟨#[107,49]⟩ else if k=2 then ⟨#[107,50]⟩ else if k=4 then ⟨#[107,52]⟩ else if k=8 then ⟨#[107,56]⟩ else if k=16 then ⟨#[107,49,54]⟩ else ⟨#[107,51,50]⟩
theorem jB {k:Int} (h:k∈kL) : k=1∨k=2∨k=4∨k=8∨k=16∨k=32:=by simpa [kL] using h
theorem wZ (k:Int) (hk:k∈kL) (w:World) : a9 Tryz.prog 258 [.int .i64 k] w fun v _=>v = .string (wY k):=by
 refine aC Tryz.func258 rfl Tryz.ntmps258 rfl ?_;have hw:=Ext.refl w;rcases jB hk with rfl|rfl|rfl|rfl|rfl|rfl
 all_goals
  refine Wz ?_;refine SW.st (tF rfl rfl rfl (by decide) (by decide) (of_decide_eq_true (by kernel_rfl)) rfl) rfl ?_;refine Wz ?_;exact ae.aF rfl rfl ⟨_,rfl,hw,congrArg Value.string (by kernel_rfl)⟩
theorem qB (k:Int) (hk:k∈kL) (w:World) : a9 Tryz.prog 241 [.int .i64 k,.int .i64 10] w fun v _=>v = .string (wY k):=by
 refine aC Tryz.func241 rfl Tryz.ntmps241 rfl ?_;have hw:=Ext.refl w;have sR : 1≤k∧k≤32:=by rcases jB hk with h|h|h|h|h|h<;>omega
 repeat' (first|refine Wz ?_|(refine SW.call rfl rfl (wZ k hk _) ?_;intro v w1 ab hv;subst hv;replace hw:=Ext.trans hw ab;clear ab))
 exact ae.aF rfl rfl ⟨_,rfl,hw,rfl⟩
theorem xa (k:Int) (hk:k∈kL) (w:World) : a9 Tryz.prog 209 [.int .i64 k] w fun v _=>v = .string (wY k):=by
 refine aC Tryz.func209 rfl Tryz.ntmps209 rfl ?_;have hw:=Ext.refl w;repeat' (first|refine Wz ?_|(refine SW.call rfl rfl (qB k hk _) ?_;intro v w1 ab hv;subst hv;replace hw:=Ext.trans hw ab;clear ab))
 exact ae.aF rfl rfl ⟨_,rfl,hw,rfl⟩
theorem yM (k:Int) (hk:k∈kL) (w:World) : a9 Tryz.prog 142 [.int .i64 k] w fun v _=>v = .string (wY k):=by
 refine aC Tryz.func142 rfl Tryz.ntmps142 rfl ?_;have hw:=Ext.refl w;repeat' (first|refine Wz ?_|(refine SW.call rfl rfl (xa k hk _) ?_;intro v w1 ab hv;subst hv;replace hw:=Ext.trans hw ab;clear ab))
 exact ae.aF rfl rfl ⟨_,rfl,hw,rfl⟩
theorem xb (k:Int) (hk:k∈kL) (w:World) : a9 Tryz.prog 59 [.int .i64 k] w fun v _=>v = .string (g7 k):=by
 refine aC Tryz.func59 rfl Tryz.ntmps59 rfl ?_;have hw:=Ext.refl w;have e:(⟨#[107]⟩ : ByteArray)++wY k=g7 k:=by rcases jB hk with rfl|rfl|rfl|rfl|rfl|rfl<;>kernel_rfl
 have hs:(⟨#[107]⟩ : ByteArray).size+(wY k).size≤9223372036854775807:=by rcases jB hk with rfl|rfl|rfl|rfl|rfl|rfl<;>decide
 repeat' (first|refine Wz ?_|(refine SW.call rfl rfl (yM k hk _) ?_;intro v w1 ab hv;subst hv;replace hw:=Ext.trans hw ab;clear ab)|(refine SW.st ((wX rfl rfl hs).eq (congrArg Value.string e)) rfl ?_))
 exact ae.aF rfl rfl ⟨_,rfl,hw,rfl⟩
def nI (c:aZ) : Bool:=kL.any fun k=>dV (g7 k) c
structure kF (w:World) : Prop where
 sl:Sl w 1 bm (some ⟨0,0,none⟩) 6 kL
theorem kF.ext {w w':World} (h:kF w) (hx:Ext w w') : kF w':=⟨h.sl.ext hx⟩
theorem xc (k:Int) (hk:k∈kL) (x:cr) (c:aZ) (b1:Nat) (w:World) (h1:aU w b1 89 (bR x)) (hx:sD w x c) (hn:x.Names.n≤9223372036854775807) :
 a9 Tryz.prog 97 ([.int .i64 k]++[.pointer (some ⟨b1,0,none⟩)]) w fun v _=>v = .bool (dV (g7 k) c):=by
 refine aC Tryz.func97 rfl Tryz.ntmps97 rfl ?_;have hw:=Ext.refl w;repeat' (first|refine Wz ?_|((apply CW.aM mixed;(· kernel_rfl);rotate_left;intro w1 ab;replace hw:=Ext.trans hw ab;clear ab;rotate_right))|refine SW.bf rfl rfl (fun w1 ab=>(xb k hk _)) ?_|refine SW.bf rfl rfl (fun w1 ab=>(iJ _ _ _ _ _ _ (hx.names.ext (Ext.trans hw ab)) hn)) ?_|exact SW.br rfl)
 exact ae.aF rfl rfl ⟨_,rfl,hw,rfl⟩
theorem tH (x:cr) (c:aZ) (w:World) (hx:sD w x c) (hn:x.Names.n≤9223372036854775807) (hS:kF w) :
 a9 Tryz.prog 43 [.agg (bR x).toArray] w fun v _=>v = .bool (nI c):=by
 refine aC Tryz.func43 rfl Tryz.ntmps43 rfl ?_;refine CW.seq (CW.region (SW.box rfl rfl fun b1 w1 hw gI au => ?_));repeat' (first|refine Wz ?_|refine SW.st (tG rfl) rfl ?_|(refine SW.st (fT (vs:=[.pointer (some ⟨b1,0,none⟩)]) rfl) rfl ?_))
 refine SW.call rfl rfl (dO _ _ _ kL _ (hS.sl.ext hw) _ [.pointer (some ⟨b1,0,none⟩)] (fun k=>dV (g7 k) c) (fun k => .int .i64 k) (fun k=>rfl) (fun k hk w1 jG=>xc k hk x c b1 w1 (au.ext jG) (hx.ext (Ext.trans hw jG)) hn) (by omega)) fun v w4 gf hv => ?_
 subst hv;replace hw:=Ext.trans hw gf;refine Wz ?_;exact ae.aF rfl rfl ⟨_,rfl,hw,rfl⟩
def sn (n:Int) : ByteArray:=if n≤1 then g7 1 else if n≤2 then g7 2 else if n≤4 then g7 4 else if n≤8 then g7 8 else if n≤16 then g7 16 else if n≤32 then g7 32 else ⟨#[]⟩
def kN:List ByteArray:=[g7 1,g7 2,g7 4,g7 8,g7 16,g7 32]
theorem yN {k:Int} (hk:k∈kL) : sn k=g7 k:=by rcases jB hk with rfl|rfl|rfl|rfl|rfl|rfl<;>rfl
theorem qC (n:Int) (w:World) : a9 Tryz.prog 64 [.int .i64 n] w fun v _=>v = .string (sn n):=by
 refine aC Tryz.func64 rfl Tryz.ntmps64 rfl ?_;have hw:=Ext.refl w;refine Wz ?_;refine SW.yL (enc:=bm) kL rfl rfl rfl rfl rfl rfl ⟨rfl,rfl,rfl,rfl,rfl,rfl⟩ rfl rfl rfl fun g1 w1 ab D4 hU => ?_
 replace hw:=Ext.trans hw ab;replace hU:=hU.sl;refine Wz ?_;refine SW.yL (enc:=encStr) kN rfl rfl rfl rfl rfl rfl ⟨rfl,rfl,rfl,rfl,rfl,rfl⟩ rfl rfl rfl fun g2 w2 cg xJ hV => ?_
 replace hw:=Ext.trans hw cg;replace hU:=hU.ext cg;replace hV:=hV.sl;refine Wz ?_;have I7:=hU.base;have I8:=hV.base
 refine CW.loop (fun i:Nat=>[(0,.int .i64 n),(3,.slice (some ⟨g1,0,none⟩) 6 6),(4,.slice (some ⟨g2,0,none⟩) 6 6),(5,.int .i64 (i:Int))])
  (fun i w'=>i≤6∧Ext w w'∧Sl w' 1 bm (some ⟨g1,0,none⟩) 6 kL∧Sl w' 1 encStr (some ⟨g2,0,none⟩) 6 kN ∧ ∀ (j:Nat) (hj:j<6),j<i→(kL[j]'hj)<n) (fun i=>6-i) 0
  ⟨rfl,rfl,rfl,rfl,trivial⟩ ⟨by omega,hw,hU,hV,fun j hj h=>by omega⟩ ?_
 clear hw hU hV;rintro i w' ⟨hi,hw,hU,hV,hI⟩
 by_cases Cv:i<6
 ·obtain ⟨k,hk⟩ : ∃ k,kL[i]'Cv=k:=⟨_,rfl⟩;have g0:=hU.one Cv (u := .int .i64 k) (by show bm (kL[i]'Cv)=_;rw [hk];rfl);have H4:=hV.one Cv (u := .string (kN[i]'Cv)) rfl;by_cases hle:n≤k
  ·repeat' (first|refine Wz ?_|refine SW.st (az rfl g0) rfl ?_|refine SW.st (az rfl (H4)) rfl ?_)
   refine ae.aF rfl rfl ⟨_,rfl,hw,congrArg Value.string ?_⟩;have h0 : 0<i→1<n:=fun h=>hI 0 (by decide) h
   have h1 : 1<i→2<n:=fun h=>hI 1 (by decide) h
   have h2 : 2<i→4<n:=fun h=>hI 2 (by decide) h
   have h3 : 3<i→8<n:=fun h=>hI 3 (by decide) h
   have h4 : 4<i→16<n:=fun h=>hI 4 (by decide) h
   subst hk;unfold sn;rcases (show i=0∨i=1∨i=2∨i=3∨i=4∨i=5 by omega) with rfl|rfl|rfl|rfl|rfl|rfl
   ·have hle:n≤1:=hle
    rw [if_pos hle];rfl
   ·have hle:n≤2:=hle
    rw [if_neg (by omega),if_pos hle];rfl
   ·have hle:n≤4:=hle
    rw [if_neg (by omega),if_neg (by omega),if_pos hle];rfl
   ·have hle:n≤8:=hle
    rw [if_neg (by omega),if_neg (by omega),if_neg (by omega),if_pos hle];rfl
   ·have hle:n≤16:=hle
    rw [if_neg (by omega),if_neg (by omega),if_neg (by omega),if_neg (by omega),if_pos hle];rfl
   ·have hle:n≤32:=hle
    rw [if_neg (by omega),if_neg (by omega),if_neg (by omega),if_neg (by omega),if_neg (by omega),if_pos hle];rfl
  ·repeat' (first|refine Wz ?_|refine SW.st (az rfl g0) rfl ?_)
   refine ae.again (i+1) ⟨rfl,rfl,rfl,rfl,trivial⟩ (by omega) ⟨by omega,hw,hU,hV,fun j hj h => ?_⟩;by_cases e:j=i
   ·subst e;omega
   ·exact hI j hj (by omega)
 ·obtain rfl:i=6:=by omega
  have h0 : 32<n:=hI 5 (by decide) (by decide)
  refine Wz ?_;refine ae.aF rfl rfl ⟨_,rfl,hw,congrArg Value.string ?_⟩;unfold sn;rw [if_neg (by omega),if_neg (by omega),if_neg (by omega),if_neg (by omega),if_neg (by omega),if_neg (by omega)]
open Go.RowKit
theorem tI : Tryz.prog.globalNamed "paddock/kmem.sizes" = some 0 := by kernel_rfl
theorem u7:(Tryz.prog.globals[0]?).map (·.type)=some 111:=by kernel_rfl
set_option maxRecDepth 100000 in
theorem tJ {W:World} {cs:List Value} {fuel:Nat} {p:List MemPlace} {enc:TypeId×Value→Unit} {base:Nat} {spare:Nat→Bool} {held:Bool} (h:DataW.trod enc Tryz.prog W base spare held fuel 111 cs=some (Rows.laid_paddock_kmem_sizes,p)) :
 cs=[.int .i64 1,.int .i64 2,.int .i64 4,.int .i64 8,.int .i64 16,.int .i64 32]:=by
 have c6:Tryz.prog.cellsOf 111=6:=by kernel_rfl
 have c1:Tryz.prog.cellsOf 3=1:=by kernel_rfl
 obtain ⟨xs,m,rfl,hx,hlen,hn,z6⟩:=DataW.trod_array Tryz.underlying111 h;rw [c6] at hlen;rw [c1] at z6;simp only [Prod.mk.injEq] at hx
 have one:∀ (a:Value) (u:Int) (x:DataW Unit×List MemPlace),DataW.trod enc Tryz.prog W base spare held m 3 [a]=some x→x.1 = .lit (.int .i64 u)→a = .int .i64 u:=by
  intro a u x hx e;obtain ⟨z0,e0,f0,_⟩:=DataW.trod_int Tryz.underlying3 hx;rw [f0] at e;simp at e e0;rw [e0,e]
 match cs,hlen,xs,hn with
 | [a,b,c,d,e,f],_,[x0,x1,x2,x3,x4,x5],_ =>
   have jG:=hx.1;simp only [Rows.laid_paddock_kmem_sizes,List.map_cons,List.map_nil,DataW.agg.injEq,List.cons.injEq,and_true] at jG;obtain rfl:=one a 1 x0 (z6 0 (by decide)) jG.1.symm;obtain rfl:=one b 2 x1 (z6 1 (by decide)) jG.2.1.symm;obtain rfl:=one c 4 x2 (z6 2 (by decide)) jG.2.2.1.symm;obtain rfl:=one d 8 x3 (z6 3 (by decide)) jG.2.2.2.1.symm;obtain rfl:=one e 16 x4 (z6 4 (by decide)) jG.2.2.2.2.1.symm;obtain rfl:=one f 32 x5 (z6 5 (by decide)) jG.2.2.2.2.2.symm
   rfl
theorem yO {W : World} {ps : List MemPlace} (h : DataW.LaidVars Tryz.prog W [("paddock/kmem.sizes", Rows.laid_paddock_kmem_sizes)] ps) : kF W := by
 obtain ⟨g0,t0,tK,f0,p0,q0,wj,Fm,H5,FT,_⟩:=h;obtain rfl:=Option.some.inj (tI.symm.trans wj);obtain rfl:=Option.some.inj (u7.symm.trans Fm);have hc:=tJ FT
 have qP:∀ i,W.cell? ⟨0,i,none⟩=tK.toList[i]?:=fun i=>by
  have:=World.var?_cell wj H5 i
  simpa using this
 refine ⟨⟨rfl,fun _=>rfl,fun i hi j u hu => ?_⟩⟩;have Cv:i<6:=hi
 rw [add_add];show W.cell? ((⟨0,0,none⟩ : Addr).add _)=_
 rw [c7,qP,hc]
 have hj:j=0:=by
  rcases Nat.eq_zero_or_pos j with h|h
  ·exact h
  ·rw [List.getElem?_eq_none (by simp [bm];omega)] at hu;cases hu
 subst hj;rcases (show i=0∨i=1∨i=2∨i=3∨i=4∨i=5 by omega) with rfl|rfl|rfl|rfl|rfl|rfl
 all_goals simpa [kL,bm] using hu
theorem qD {W : World} {D1 D2 D3 : DataW Unit} (hp : ([("math/bits.deBruijn32tab", D1), ("math/bits.deBruijn64tab", D2), ("internal/strconv.uint64pow10", D3), ("paddock/kmem.sizes", Rows.laid_paddock_kmem_sizes)].all fun x => x.2.handleName?.isNone) = true)
 (h : laidMetH Tryz.prog [("math/bits.deBruijn32tab", D1), ("math/bits.deBruijn64tab", D2), ("internal/strconv.uint64pow10", D3), ("paddock/kmem.sizes", Rows.laid_paddock_kmem_sizes)] W) : kF W := by
 rw [MakeChecks.laidMetH_plain _ _ _ hp] at h;obtain ⟨ps,⟨_,_,_,_,_,_,_,_,_,_,⟨_,_,_,_,_,_,_,_,_,_,⟨_,_,_,_,_,_,_,_,_,_,h4,_⟩,_⟩,_⟩,_,_⟩:=h;exact yO h4
open Go.RowKit
def jC (s:ar) (a:Int) (i k:Nat) : Bool:=if h:i<s.aa.length then (if h':k<s.aa[i].ah.length then jm s.aa[i].bp s.aa[i].dE (s.aa[i].ah[k]).At a else false) else false
theorem pR {s:ar} {a:Int} {i k:Nat} (h:i<s.aa.length) (h':k<s.aa[i].ah.length) : jC s a i k=jm s.aa[i].bp s.aa[i].dE (s.aa[i].ah[k]).At a:=by simp [jC,h,h']
theorem rm {s:ar} {a:Int} {i k:Nat} (h:i<s.aa.length) (h' : ¬ k<s.aa[i].ah.length) : jC s a i k=false:=by simp [jC,h,h']
structure il (s:ar) (a:Int) (i k:Nat) : Prop where
 hi:i<s.aa.length
 hk:k<s.aa[i].ah.length
 obj:jC s a i k=true
 ahead:∀ i' k',(i'<i∨(i'=i∧k'<k))→jC s a i' k'=false
inductive fJ (s:ar) (a:Int) : Int×Int×Int→Prop where
 | bad (h:eD s=false) : fJ s a (0,0,8)
 | none (h:eD s=true) (hn:∀ i k,jC s a i k=false) : fJ s a (0,0,4)
 | free {i k:Nat} {out:List Int} (h:eD s=true) (hF:il s a i k) (hC:gD s.Words (s.aa[i]'hF.hi).bp (s.aa[i]'hF.hi).dE ((s.aa[i]'hF.hi).ah[k]'hF.hk) out) (hm:a∈out) : fJ s a (0,0,4)
 | hit {i k:Nat} {out:List Int} (h:eD s=true) (hF:il s a i k) (hC:gD s.Words (s.aa[i]'hF.hi).bp (s.aa[i]'hF.hi).dE ((s.aa[i]'hF.hi).ah[k]'hF.hk) out) (hm:a∉out) : fJ s a (i,k,0)
theorem il.BZ {s:ar} {a:Int} {i k i' k':Nat} (h:il s a i k) (h':il s a i' k') : i=i'∧k=k':=by
 rcases (show i<i'∨(i=i'∧k<k')∨i'<i∨(i'=i∧k'<k)∨(i=i'∧k=k') by omega) with g|g|g|g|g
 ·have:=h'.ahead i k (.inl g);rw [h.obj] at this;cases this
 ·have:=h'.ahead i k (.inr g);rw [h.obj] at this;cases this
 ·have:=h.ahead i' k' (.inl g);rw [h'.obj] at this;cases this
 ·have:=h.ahead i' k' (.inr g);rw [h'.obj] at this;cases this
 ·exact g
theorem fJ.mM {s:ar} {a:Int} {u v:Int×Int×Int} (h:fJ s a u) (k:fJ s a v) : u=v:=by
 cases h with
 | bad h=>cases k with
   | bad=>rfl
   | none h'=>rw [h] at h';cases h'
   | free h'=>rw [h] at h';cases h'
   | hit h'=>rw [h] at h';cases h'
 | none h hn=>cases k with
   | bad h'=>rw [h] at h';cases h'
   | none=>rfl
   | free=>rfl
   | hit h' hF=>exact absurd hF.obj (by rw [hn];simp)
 | free h hF hC hm=>cases k with
   | bad h'=>rw [h] at h';cases h'
   | none=>rfl
   | free=>rfl
   | hit h' nG Fo Ep =>
     obtain ⟨rfl,rfl⟩:=hF.BZ nG;rw [hC.mM Fo] at hm;exact absurd hm Ep
 | hit h hF hC hm=>cases k with
   | bad h'=>rw [h] at h';cases h'
   | none h' hn=>exact absurd hF.obj (by rw [hn];simp)
   | free h' nG Fo Ep =>
     obtain ⟨rfl,rfl⟩:=hF.BZ nG;rw [hC.mM Fo] at hm;exact absurd Ep hm
   | hit h' nG =>
     obtain ⟨rfl,rfl⟩:=hF.BZ nG
     rfl
theorem gU.hit {lo:Nat} {ws:List Int} {size iM:Int} {x:Slab} {v:Value} {w:World} {out:List Int} (h:gU lo ws size iM x v w) (hC:gD ws size iM x out) :
 ∃ A c,v = .tuple #[.slice A out.length c,.bool true]∧Own w lo 3 1 bm A out.length c out∧out.length≤17592186044416:=by
 rcases h with ⟨BG,A5,c5,Fp,rfl,zv,Fq⟩|⟨lc,_⟩
 ·obtain rfl:=hC.mM Fp;exact ⟨_,_,rfl,zv,Fq⟩
 ·exact absurd hC (lc out)
def pS (u:Int×Int×Int) : Value := .tuple #[.int .i64 u.1,.int .i64 u.2.1,.int .i64 u.2.2]
set_option maxHeartbeats 4000000 in
theorem tL (r:dF) (s:ar) (a:Int) (w:World) (hr:lg w r s) (hf:s.iN) (ha : -9223372036854775808≤a∧a≤9223372036854775807) :
 a9 Tryz.prog 42 [.agg (aH r).toArray,.int .i64 a] w fun v _ => ∃ u,fJ s a u∧v=pS u:=by
 refine aC Tryz.func42 rfl Tryz.ntmps42 rfl ?_;refine CW.seq (CW.region (SW.box rfl rfl fun b2 w1 hw ff ax => ?_));obtain ⟨q,hq⟩ : ∃ q,eD s=q:=⟨_,rfl⟩
 have c1:∀ w',Ext w w'→a9 Tryz.prog 41 [.agg (aH r).toArray] w' fun v _=>v = .int .i64 (if q then 0 else 8):=fun w' hx=>by
  have:=lR r s w' (hr.ext hx) hf
  rwa [hq] at this
 cases q
 all_goals simp only [if_true,Bool.false_eq_true,if_false] at c1
 ·repeat' (first|refine Wz ?_|(refine SW.call rfl rfl (c1 _ hw) ?_;intro v w1 ab hv;subst hv;replace hw:=Ext.trans hw ab;replace ax:=ax.ext ab;clear ab))
  exact ae.l8 rfl rfl rfl rfl ⟨_,rfl,hw,(0,0,8),.bad hq,rfl⟩
 ·have hM:=ga.1 hq;have hs:=hf.small;obtain ⟨cs,hc⟩:=hr.bJ;obtain ⟨z1,z2⟩:=hc.len;have wl:=hr.words.len;have m1:=hs.words;have m3:=hs.bJ;repeat' (first|refine Wz ?_|(refine SW.call rfl rfl (c1 _ hw) ?_;intro v w1 ab hv;subst hv;replace hw:=Ext.trans hw ab;replace ax:=ax.ext ab;clear ab))
  clear c1
  refine CW.loop (fun k:Nat=>[(1,.int .i64 a),(2,.pointer (some ⟨b2,0,none⟩)),(20,.slice r.aa.A r.aa.n r.aa.c),(21,.int .i64 (r.aa.n:Int)),(22,.int .i64 (k:Int))])
   (fun k w'=>k≤r.aa.n∧Ext w w'∧aU w' b2 44 (aH r) ∧ ∀ i' k',i'<k→jC s a i' k'=false) (fun k=>r.aa.n-k) 0
   ⟨rfl,rfl,rfl,rfl,rfl,trivial⟩ ⟨by omega,hw,ax,fun i' k' h=>by omega⟩ ?_
  clear hw ax;rintro i w' ⟨hk,hw,ax,hI⟩
  have hA:=hc.row.base;by_cases cy:i<r.aa.n
  ·have k9:i<cs.length:=by omega
   have jS:i<s.aa.length:=by omega
   have dm:=hc.each.get i k9 jS;have sm:=hs.each _ (List.getElem_mem jS);have xy:=(hM.each i jS).may;obtain ⟨l1,l2,l3⟩:=gq xy.lay;have eS:=dm.size;have eP:=dm.iM;have n2:=dm.aL.len;have m2:=sm.aL;have hS : 1≤cs[i].bp∧cs[i].bp≤64:=by omega
   have hP : 1≤cs[i].dE∧cs[i].dE≤64:=by omega
   repeat' (first|refine Wz ?_|refine SW.st (aA hw rfl rfl ((hc.row.all cy))) rfl ?_)
   refine SW.alloc rfl fun b9 w1 ab jl cn => ?_
   refine Wz ?_;refine SW.aj cn rfl rfl rfl rfl (nr _) fun w2 fu hg => ?_
   have ai:=ab.own jl hg;have mz:w.heap.size≤b9:=Nat.le_trans hw.size jl
   replace hw:=Ext.trans hw ai;replace ax:=ax.ext ai;replace cn:=fu;clear fu ab hg ai;refine Wz ?_
   refine CW.loop (fun k:Nat=>[(1,.int .i64 a),(2,.pointer (some ⟨b2,0,none⟩)),(8,.int .i64 (i:Int)),(9,.pointer (some ⟨b9,0,none⟩)),(20,.slice r.aa.A r.aa.n r.aa.c),(21,.int .i64 (r.aa.n:Int)),(22,.int .i64 (i:Int)),(28,.slice cs[i].ah.A cs[i].ah.n cs[i].ah.c),(29,.int .i64 (cs[i].ah.n:Int)),(30,.int .i64 (k:Int))])
    (fun k w'=>k≤cs[i].ah.n∧Ext w w'∧aU w' b2 44 (aH r)∧aU w' b9 89 (bR cs[i]) ∧ ∀ k',k'<k→jC s a i k'=false) (fun k=>cs[i].ah.n-k) 0
    ⟨rfl,rfl,rfl,rfl,rfl,rfl,rfl,rfl,rfl,rfl,trivial⟩ ⟨by omega,hw,ax,cn,fun k' h=>by omega⟩ ?_
   clear hw ax cn;rintro k w' ⟨hk,hw,ax,cn,hJ⟩
   have yu:=dm.aL.base;by_cases cc:k<cs[i].ah.n
   ·have cG:k<s.aa[i].ah.length:=by omega
    obtain ⟨x,hx⟩ : ∃ x,s.aa[i].ah[k]=x:=⟨_,rfl⟩;have gS:=dm.aL.all cc;rw [hx] at gS;have ht:=(xy.Eg (hM.heap)) x (by rw [← hx];exact List.getElem_mem cG);obtain ⟨lT,hC⟩:=(xy.aL k cG).chain;rw [hx] at hC;have eO:=pR (a:=a) jS cG;rw [hx,← eS,← eP] at eO;obtain ⟨o,ho⟩ : ∃ o,jm cs[i].bp cs[i].dE x.At a=o:=⟨_,rfl⟩;rw [ho] at eO
    have cO:∀ w',a9 Tryz.prog 93 [.agg (bR cs[i]).toArray,.int .i64 x.At,.int .i64 a] w' fun v _=>v = .bool o:=fun w'=>by
     have:=pz cs[i] x.At a w' hS hP ht ha
     rwa [ho] at this
    repeat' (first|refine Wz ?_|refine SW.st (aA hw rfl rfl gS) rfl ?_)
    refine SW.alloc rfl fun qA w1 ab jd bw => ?_
    refine Wz ?_;refine SW.aj bw rfl rfl rfl rfl (fM.one (enc:=bB) _) fun w2 iI hg => ?_
    have ai:=ab.own jd hg;have kB:w.heap.size≤qA:=Nat.le_trans hw.size jd
    replace hw:=Ext.trans hw ai;replace ax:=ax.ext ai;replace cn:=cn.ext ai;replace bw:=iI;clear iI ab hg ai;cases o
    ·repeat' (first|refine Wz ?_|(refine CW.cU rfl ?_)|(refine SW.call rfl rfl (cO _) ?_;intro v w1 ab hv;subst hv;replace hw:=Ext.trans hw ab;replace ax:=ax.ext ab;replace cn:=cn.ext ab;clear ab))
     exact ae.again (k+1) ⟨rfl,rfl,rfl,rfl,rfl,rfl,rfl,rfl,rfl,rfl,trivial⟩ (by omega) ⟨by omega,hw,ax,cn,fun k' h=>by
      by_cases e:k'=k
      ·subst e;exact eO
      ·exact hJ k' (by omega)⟩
    ·have Ds:il s a i k:=⟨jS,cG,eO,fun i' k' h=>by
      rcases h with h|⟨rfl,h⟩
      ·exact hI i' k' h
      ·exact hJ k' h⟩
     repeat' (first|refine Wz ?_|(refine CW.cj rfl ?_)|(refine SW.call rfl rfl (cO _) ?_;intro v w1 ab hv;subst hv;replace hw:=Ext.trans hw ab;replace ax:=ax.ext ab;replace cn:=cn.ext ab;replace bw:=bw.ext ab;clear ab))
     refine SW.call rfl rfl (q8 r cs[i] x s.Words _ (hr.words.ext hw) (by omega) hS hP ht) fun v w5 fI yo => ?_
     rw [eS,eP] at yo;rcases yo with ⟨out,A5,c5,Fp,rfl,zv,Fq⟩|⟨lc,rfl⟩
     ·replace hw:=Ext.trans hw fI;obtain rfl:=hC.mM Fp;have cN:∀ w',Ext w5 w'→a9 Tryz.prog 95 [.slice A5 lT.length c5,.int .i64 a] w' fun v _=>v = .bool (decide (a∈lT)):=fun w' hx=>eA _ _ _ _ _ _ (zv.sl.ext hx) (by omega)
      have H6:=Ext.refl w5;refine Wz ?_;refine SW.call rfl rfl (cN _ H6) fun v w6 uk hv => ?_
      subst hv;replace hw:=Ext.trans hw uk;by_cases hm:a∈lT
      ·rw [decide_eq_true hm];refine Wz ?_;exact ae.l8 rfl rfl rfl rfl ⟨_,rfl,hw,(0,0,4),.free hq Ds (by rw [hx];exact hC) hm,rfl⟩
      ·rw [decide_eq_false hm];refine Wz ?_;exact ae.l8 rfl rfl rfl rfl ⟨_,rfl,hw,(i,k,0),.hit hq Ds (by rw [hx];exact hC) hm,rfl⟩
     ·exact absurd hC (lc lT)
   ·refine Wz ?_
    exact ae.again (i+1) ⟨rfl,rfl,rfl,rfl,rfl,trivial⟩ (by omega) ⟨by omega,hw,ax,fun i' k' h=>by
     by_cases e:i'=i
     ·subst e;by_cases sR:k'<s.aa[i'].ah.length
      ·exact hJ k' (by omega)
      ·exact rm jS sR
     ·exact hI i' k' (by omega)⟩
  ·refine Wz ?_
   exact ae.l8 rfl rfl rfl rfl ⟨_,rfl,hw,(0,0,4),.none hq (fun i' k'=>by
    by_cases h:i'<s.aa.length
    ·exact hI i' k' (by omega)
    ·simp [jC,h]),rfl⟩
set_option maxHeartbeats 4000000 in
theorem nJ (r:dF) (s:ar) (a:Int) (w:World) (hr:lg w r s) (hf:s.iN) :
 a9 Tryz.prog 117 [.agg (aH r).toArray,.int .i64 a] w fun v _ => ∃ u,fJ s a u∧v=pS u:=by
 refine aC Tryz.func117 rfl Tryz.ntmps117 rfl ?_;refine CW.seq (CW.region (SW.box rfl rfl fun b2 w1 hw ff ax => ?_));obtain ⟨q,hq⟩ : ∃ q,eD s=q:=⟨_,rfl⟩
 have c1:∀ w',Ext w w'→a9 Tryz.prog 47 [.agg (aH r).toArray] w' fun v _=>v = .bool q:=fun w' hx=>by
  have:=pP r s w' (hr.ext hx) hf
  rwa [hq] at this
 cases q
 ·repeat' (first|refine Wz ?_|(refine CW.cU rfl ?_)|(refine SW.call rfl rfl (c1 _ hw) ?_;intro v w1 ab hv;subst hv;replace hw:=Ext.trans hw ab;replace ax:=ax.ext ab;clear ab))
  exact ae.l8 rfl rfl rfl rfl ⟨_,rfl,hw,(0,0,8),.bad hq,rfl⟩
 ·have hM:=ga.1 hq;have hs:=hf.small;obtain ⟨cs,hc⟩:=hr.bJ;obtain ⟨z1,z2⟩:=hc.len;have wl:=hr.words.len;have m1:=hs.words;have m3:=hs.bJ;repeat' (first|refine Wz ?_|(refine CW.cj rfl ?_)|(refine SW.call rfl rfl (c1 _ hw) ?_;intro v w1 ab hv;subst hv;replace hw:=Ext.trans hw ab;replace ax:=ax.ext ab;clear ab))
  clear c1
  refine CW.loop (fun k:Nat=>[(1,.int .i64 a),(2,.pointer (some ⟨b2,0,none⟩)),(7,.int .i64 (k:Int))])
   (fun k w'=>k≤r.aa.n∧Ext w w'∧aU w' b2 44 (aH r) ∧ ∀ i' k',i'<k→jC s a i' k'=false) (fun k=>r.aa.n-k) 0
   ⟨rfl,rfl,rfl,trivial⟩ ⟨by omega,hw,ax,fun i' k' h=>by omega⟩ ?_
  clear hw ax;rintro i w' ⟨hk,hw,ax,hI⟩
  have hA:=hc.row.base;by_cases cy:i<r.aa.n
  ·have k9:i<cs.length:=by omega
   have jS:i<s.aa.length:=by omega
   have dm:=hc.each.get i k9 jS;have sm:=hs.each _ (List.getElem_mem jS);have xy:=(hM.each i jS).may;obtain ⟨l1,l2,l3⟩:=gq xy.lay;have eS:=dm.size;have eP:=dm.iM;have n2:=dm.aL.len;have m2:=sm.aL;have hS : 1≤cs[i].bp∧cs[i].bp≤64:=by omega
   have hP : 1≤cs[i].dE∧cs[i].dE≤64:=by omega
   have g4:=hc.row.fE cy (j:=4) (u := .slice cs[i].ah.A cs[i].ah.n cs[i].ah.c) rfl;refine Wz ?_
   refine CW.loop (fun k:Nat=>[(1,.int .i64 a),(2,.pointer (some ⟨b2,0,none⟩)),(7,.int .i64 (i:Int)),(8,.int .i64 (k:Int))])
    (fun k w'=>k≤cs[i].ah.n∧Ext w w'∧aU w' b2 44 (aH r) ∧ ∀ k',k'<k→jC s a i k'=false) (fun k=>cs[i].ah.n-k) 0
    ⟨rfl,rfl,rfl,rfl,trivial⟩ ⟨by omega,hw,ax,fun k' h=>by omega⟩ ?_
   clear hw ax;rintro k w' ⟨hk,hw,ax,hJ⟩
   have yu:=dm.aL.base;by_cases cc:k<cs[i].ah.n
   ·have cG:k<s.aa[i].ah.length:=by omega
    obtain ⟨x,hx⟩ : ∃ x,s.aa[i].ah[k]=x:=⟨_,rfl⟩;have gS:=dm.aL.all cc;rw [hx] at gS;have ht:=(xy.Eg (hM.heap)) x (by rw [← hx];exact List.getElem_mem cG);obtain ⟨lT,hC⟩:=(xy.aL k cG).chain;rw [hx] at hC;have eO:=pR (a:=a) jS cG;rw [hx,← eS,← eP] at eO;obtain ⟨o,ho⟩ : ∃ o,jm cs[i].bp cs[i].dE x.At a=o:=⟨_,rfl⟩;rw [ho] at eO
    have cO:∀ w',a9 Tryz.prog 201 [.agg (bR cs[i]).toArray,.int .i64 x.At,.int .i64 a] w' fun v _=>v = .bool o:=fun w'=>by
     have:=mC cs[i] x.At a w' hS hP ht
     rwa [ho] at this
    repeat' (first|refine Wz ?_|refine SW.st (ag hw rfl g4) rfl ?_|refine SW.st (aA hw rfl rfl gS) rfl ?_)
    refine SW.alloc rfl fun b9 w1 ab jl cn => ?_
    skip;refine SW.aj cn rfl rfl rfl rfl (fM.one (enc:=bB) _) fun w2 fu hg => ?_
    have ai:=ab.own jl hg;have mz:w.heap.size≤b9:=Nat.le_trans hw.size jl
    replace hw:=Ext.trans hw ai;replace ax:=ax.ext ai;replace cn:=fu;clear fu ab hg ai;cases o
    ·repeat' (first|refine Wz ?_|(first|refine CW.cU rfl ?_|(apply CW.aM mixed;(· kernel_rfl);rotate_left;intro w1 ab;replace hw:=Ext.trans hw ab;replace ax:=ax.ext ab;replace cn:=cn.ext ab;clear ab;rotate_right))|refine SW.st (aA hw rfl rfl ((hc.row.all cy))) rfl ?_|refine SW.bf rfl rfl (fun w1 ab=>(cO _)) ?_|exact SW.br rfl)
     exact ae.again (k+1) ⟨rfl,rfl,rfl,rfl,trivial⟩ (by omega) ⟨by omega,hw,ax,fun k' h=>by
      by_cases e:k'=k
      ·subst e;exact eO
      ·exact hJ k' (by omega)⟩
    ·have Ds:il s a i k:=⟨jS,cG,eO,fun i' k' h=>by
      rcases h with h|⟨rfl,h⟩
      ·exact hI i' k' h
      ·exact hJ k' h⟩
     refine Wz ?_;(apply CW.aM mixed;(· kernel_rfl);rotate_left;intro w1 ab;replace hw:=Ext.trans hw ab;replace ax:=ax.ext ab;replace cn:=cn.ext ab;clear ab;rotate_right);repeat' (first|refine Wz ?_|(refine CW.cj rfl ?_)|refine SW.st (aA hw rfl rfl ((hc.row.all cy))) rfl ?_|refine SW.bf rfl rfl (fun w1 ab=>(cO _)) ?_|exact SW.br rfl)
     refine CW.any 12 mixed (bZ (by kernel_rfl)) rfl fun w1 ab bd => ?_
     replace hw:=Ext.trans hw ab;replace ax:=ax.ext ab;replace cn:=cn.ext ab;clear ab;refine Wa ?_;refine SA.take 5 bd rfl (by kernel_rfl) (by kernel_rfl) rfl ?_;repeat ((show SW _ _ _ _ (⟨_,Op.load _ _,_,_,_,none⟩::_) _ _;refine SW.st (aA hw rfl rfl ((hc.row.all cy))) rfl ?_))
     refine SW.aq ?_;refine Wa ?_;refine SA.one 7 rfl (by kernel_rfl) rfl ?_;refine SW.call rfl rfl (pA r cs[i] x s.Words _ (hr.words.ext hw) (by omega) hS hP ht) fun v w5 ai yo => ?_
     replace hw:=Ext.trans hw ai;rw [eS,eP] at yo;have H7:=gU.hit yo hC;obtain ⟨A5,c5,rfl,zv,Fq⟩:=H7;refine SW.nil (ae.sa ai ?_);refine Wa ?_;refine SA.done (by kernel_rfl) ?_;refine Wz ?_
     refine CW.loop (fun j:Nat=>[(1,.int .i64 a),(7,.int .i64 (i:Int)),(8,.int .i64 (k:Int)),(10,.slice A5 lT.length c5),(12,.int .i64 (j:Int))])
      (fun j w'=>j≤lT.length∧Ext w w'∧(∃ lo,Own w' lo 3 1 bm A5 lT.length c5 lT) ∧ ∀ (m:Nat) (h:m<lT.length),m<j→lT[m]≠a) (fun j=>lT.length-j) 0
      ⟨rfl,rfl,rfl,rfl,rfl,trivial⟩ ⟨by omega,hw,⟨_,zv⟩,fun m h h'=>by omega⟩ ?_
     clear hw zv;rintro j w' ⟨hj,hw,⟨lo,zv⟩,Gv⟩
     have I9:=zv.sl.base;by_cases fF:j<lT.length
     ·have gM:=zv.sl.one fF (u := .int .i64 lT[j]) rfl;by_cases Gw:lT[j]=a
      ·repeat' (first|refine Wz ?_|refine SW.st (az rfl gM) rfl ?_)
       all_goals try omega
       exact ae.l8 rfl rfl rfl rfl ⟨_,rfl,hw,(0,0,4),.free hq Ds (by rw [hx];exact hC) (Gw ▸ List.getElem_mem fF),rfl⟩
      ·repeat' (first|refine Wz ?_|refine SW.st (az rfl gM) rfl ?_)
       all_goals try omega
       exact ae.again (j+1) ⟨rfl,rfl,rfl,rfl,rfl,trivial⟩ (by omega) ⟨by omega,hw,⟨lo,zv⟩,fun m h h'=>by
        by_cases em:m=j
        ·subst em;exact Gw
        ·exact Gv m h (by omega)⟩
     ·refine Wz ?_
      exact ae.l8 rfl rfl rfl rfl ⟨_,rfl,hw,(i,k,0),.hit hq Ds (by rw [hx];exact hC) (fun hm=>by
       obtain ⟨m,kC,mJ⟩:=List.getElem_of_mem hm;exact Gv m kC (by omega) mJ),rfl⟩
   ·repeat' (first|refine Wz ?_|refine SW.st (ag hw rfl g4) rfl ?_)
    exact ae.again (i+1) ⟨rfl,rfl,rfl,trivial⟩ (by omega) ⟨by omega,hw,ax,fun i' k' h=>by
     by_cases e:i'=i
     ·subst e;by_cases sR:k'<s.aa[i'].ah.length
      ·exact hJ k' (by omega)
      ·exact rm jS sR
     ·exact hI i' k' (by omega)⟩
  ·refine Wz ?_
   exact ae.l8 rfl rfl rfl rfl ⟨_,rfl,hw,(0,0,4),.none hq (fun i' k'=>by
    by_cases h:i'<s.aa.length
    ·exact hI i' k' (by omega)
    ·simp [jC,h]),rfl⟩
open Go.RowKit
theorem xd {w:World} {A:Option Addr} {n:Nat} {l l':List Slab} (h:Sl w 3 bB A n l) (h':Sl w 3 bB A n l') : l=l':=by
 have e1:=h.len;have e2:=h'.len;refine List.ext_getElem (by omega) fun k h1 h2 => ?_
 obtain ⟨x,hx⟩ : ∃ x,l[k]=x:=⟨_,rfl⟩;obtain ⟨y,hy⟩ : ∃ y,l'[k]=y:=⟨_,rfl⟩;have a:=h.all (i:=k) (by omega);have b:=h'.all (i:=k) (by omega);rw [show l[k]'(h.lt (by omega))=x from hx] at a;rw [show l'[k]'(h'.lt (by omega))=y from hy] at b;have p0:=(a 0 (.int .i64 x.At) rfl).symm.trans (b 0 (.int .i64 y.At) rfl);have p1:=(a 1 (.int .i64 x.ao) rfl).symm.trans (b 1 (.int .i64 y.ao) rfl);have p2:=(a 2 (.int .i64 x.lf) rfl).symm.trans (b 2 (.int .i64 y.lf) rfl);simp at p0 p1 p2;rw [hx,hy];cases x
 cases y
 simp only at p0 p1 p2;rw [p0,p1,p2]
theorem kG (A:Option Addr) (n c:Nat) (l:List Slab) (w:World) (hl:Sl w 3 bB A n l) (f:FuncId) (cap:List Value) [Body Tryz.prog f] (p:Slab→Bool) (arg:Slab→Value) (jO:∀ x,arg x=(if 3=1 then (bB x)[0]?.getD undef else .agg (bB x).toArray))
 (hf:∀ x∈l,∀ w',Ext w w'→a9 Tryz.prog f ([arg x]++cap) w' fun v _=>v = .bool (p x)) (hn:n≤9223372036854775807) :
 a9 Tryz.prog 103 [.slice A n c,.func (.func f) #[] cap.toArray] w fun v _=>v = .bool (l.any p):=by
 refine aC Tryz.func103 rfl Tryz.ntmps103 rfl ?_;have hw:=Ext.refl w;repeat' (first|refine Wz ?_|(refine SW.call rfl rfl (iW _ _ _ _ _ (hl.ext hw) f cap p arg jO (fun x hx w1 h1=>hf x hx w1 (Ext.trans hw h1)) hn) ?_;intro v w1 ab hv;subst hv;replace hw:=Ext.trans hw ab;clear ab))
 exact ae.aF rfl rfl ⟨_,rfl,hw,by rw [fr]⟩
def j2 (t:Int) (c:aZ) : Bool:=c.ah.any (uj t)
def im (s:ar) (t:Int) : Bool:=s.aa.any (j2 t)
def df (s:ar) (a:Int) : Bool:=decide (0≤a∧a % 16=0) && (!im s (a / 16) && bc s.Heap.Live (a / 16))
theorem yP (w:World) (t:Int) : ∃ p:cr→Bool,∀ x c,sD w x c→p x=j2 t c:=by
 classical
 refine ⟨fun x=>decide (∃ c,sD w x c∧j2 t c=true),fun x c h => ?_⟩;cases e:j2 t c
 ·refine decide_eq_false ?_;rintro ⟨c',h',e'⟩
  unfold j2 at e e';rw [xd h'.aL h.aL,e] at e';cases e'
 ·exact decide_eq_true ⟨c,h,e⟩
theorem z8 (t:Int) (b6:Nat) (x:Slab) (w:World) (h6:aU w b6 3 [.int .i64 t]) :
 a9 Tryz.prog 104 ([.agg (bB x).toArray]++[.pointer (some ⟨b6,0,none⟩)]) w fun v _=>v = .bool (uj t x):=by
 refine aC Tryz.func104 rfl Tryz.ntmps104 rfl ?_;refine CW.seq (CW.region (SW.box rfl rfl fun b1 w1 hw gI au => ?_));replace h6:=h6.ext hw;have B0:=h6.cell (i:=0) (v := .int .i64 t) rfl;rw [add_zero] at B0;repeat' (first|refine Wz ?_|refine SW.st (az rfl B0) rfl ?_)
 exact ae.aF rfl rfl ⟨_,rfl,hw,rfl⟩
theorem z9 (t:Int) (b6:Nat) (x:cr) (c:aZ) (w:World) (h6:aU w b6 3 [.int .i64 t]) (hx:sD w x c) (hn:x.ah.n≤9223372036854775807) :
 a9 Tryz.prog 102 ([.agg (bR x).toArray]++[.pointer (some ⟨b6,0,none⟩)]) w fun v _=>v = .bool (j2 t c):=by
 refine aC Tryz.func102 rfl Tryz.ntmps102 rfl ?_;refine CW.seq (CW.region (SW.box rfl rfl fun b2 w1 hw ff ax => ?_));replace h6:=h6.ext hw;repeat' (first|refine Wz ?_|(refine SW.st (fT (vs:=[.pointer (some ⟨b6,0,none⟩)]) rfl) rfl ?_))
 refine SW.call rfl rfl (kG _ _ _ c.ah _ (hx.aL.ext hw) _ [.pointer (some ⟨b6,0,none⟩)] (uj t) (fun x => .agg (bB x).toArray) (fun x=>rfl) (fun x hx w1 jG=>z8 t b6 x w1 (h6.ext jG)) hn) fun v w4 gf hv => ?_
 subst hv;replace hw:=Ext.trans hw gf;refine Wz ?_;exact ae.aF rfl rfl ⟨_,rfl,hw,rfl⟩
theorem yQ (x:Block) (a:Int) (w:World) (hx : -4000000000000000000≤x.At∧x.At≤4000000000000000000) (ha : -4000000000000000000≤a∧a≤4000000000000000000) : a9 Tryz.prog 106 ([.agg (aE x).toArray,.int .i64 a]++[]) w fun v _=>v = .int .i64 (x.At-a):=by
 refine aC Tryz.func106 rfl Tryz.ntmps106 rfl ?_;refine CW.seq (CW.region (SW.box rfl rfl fun b1 w1 hw gI au => ?_));refine Wz ?_;exact ae.aF rfl rfl ⟨_,rfl,hw,rfl⟩
theorem xe (r:dF) (s:ar) (a:Int) (w:World) (hr:lg w r s) (hs:s.small) (hM:dB s) (ha : -9223372036854775808≤a∧a≤9223372036854775807) :
 a9 Tryz.prog 45 [.agg (aH r).toArray,.int .i64 a] w fun v _ => ∃ i:Int,v = .tuple #[.int .i64 i,.bool (df s a)]∧(df s a=true→i=(bF s.Heap.Live (a / 16) : Int)):=by
 refine aC Tryz.func45 rfl Tryz.ntmps45 rfl ?_;refine CW.seq (CW.region (SW.box rfl rfl fun b2 w1 hw ff ax => ?_));obtain ⟨cs,hc⟩:=hr.bJ;obtain ⟨z1,z2⟩:=hc.len;have m3:=hs.bJ;have lz:=hr.heap.live.len;have m5:=hs.heap.live;by_cases h0 : 0≤a
 ·have H8:a.tmod 16=a % 16:=Int.tmod_eq_emod_of_nonneg h0
  by_cases h1:a % 16=0
  ·obtain ⟨t,ht⟩ : ∃ t,a / 16=t:=⟨_,rfl⟩;have Fm : 0≤t∧t≤1000000000000000000:=by omega
   obtain ⟨p,hp⟩:=yP w t;have yJ:=nH (p:=p) (q:=j2 t) (l:=cs) (m:=s.aa) (by omega) fun k h1 h2=>hp _ _ (hc.each.get k h1 h2)
   have hP:df s a=(!im s t && bc s.Heap.Live t):=by unfold df;rw [decide_eq_true ⟨h0,h1⟩,ht,Bool.true_and]
   refine Wz ?_;refine SW.alloc rfl fun b6 w2 cg H9 aB => ?_
   have Ia:w.heap.size≤b6:=Nat.le_trans hw.size H9
   (replace hw:=Ext.trans hw cg;replace ax:=ax.ext cg);skip;refine SW.bT (i:=0) aB rfl rfl rfl rfl fun w3 gg hg => ?_
   have hG:=aB.gr hg;replace hw:=hw.own Ia hg;(replace ax:=ax.aD hG rfl);replace aB:aU w3 b6 3 [.int .i64 t]:=by rw [← ht];exact gg
   have B0:=aB.cell (i:=0) (v := .int .i64 t) rfl;rw [add_zero] at B0;clear gg hg hG;repeat' (first|refine Wz ?_|(refine SW.st (fT (vs:=[.pointer (some ⟨b6,0,none⟩)]) rfl) rfl ?_))
   refine SW.call rfl rfl (gL _ _ _ cs _ (hc.row.ext hw) _ [.pointer (some ⟨b6,0,none⟩)] p (fun x => .agg (bR x).toArray) (fun x=>rfl) (fun x hx w1 jG=>by
    obtain ⟨k,hk,rfl⟩:=List.getElem_of_mem hx;have sR:k<s.aa.length:=by omega
    have dm:=hc.each.get k hk sR;have q1:=(hs.each _ (List.getElem_mem sR)).aL;have q2:=dm.aL.len;rw [hp _ _ dm];exact z9 t b6 _ _ w1 (aB.ext jG) (dm.ext (Ext.trans hw jG)) (by omega)) (by omega)) fun v w4 gf hv => ?_
   subst hv;rw [yJ.2,show s.aa.any (j2 t)=im s t from rfl];(replace hw:=Ext.trans hw gf;replace ax:=ax.ext gf;replace aB:=aB.ext gf);have B0:=aB.cell (i:=0) (v := .int .i64 t) rfl;rw [add_zero] at B0;cases hi:im s t
   ·rw [hi] at hP;simp only [Bool.not_false,Bool.true_and] at hP;repeat' (first|refine Wz ?_|refine SW.st (az rfl B0) rfl ?_)
    refine SW.call rfl rfl (fA _ _ _ s.Heap.Live t _ (hr.heap.live.ext hw) 106 (fun x hx w1 jG=>by
     obtain ⟨k,hk,rfl⟩:=List.getElem_of_mem hx;obtain ⟨l1,l2,l3,l4⟩:=hM.heap.live.each k hk;exact yQ _ t w1 (by omega) (by omega)) (kU hM.heap.live) (by omega)) fun v w5 fI hv => ?_
    subst hv;(replace hw:=Ext.trans hw fI;replace ax:=ax.ext fI;replace aB:=aB.ext fI);refine Wz ?_;exact ae.eY rfl rfl rfl ⟨_,rfl,hw,(bF s.Heap.Live t:Int),by rw [hP];rfl,fun _=>by rw [ht]⟩
   ·rw [hi] at hP;simp only [Bool.not_true,Bool.false_and] at hP;refine Wz ?_;exact ae.eY rfl rfl rfl ⟨_,rfl,hw,0,by rw [hP],fun h=>by rw [hP] at h;cases h⟩
  ·have hP:df s a=false:=by unfold df;rw [decide_eq_false (by omega)];rfl
   refine Wz ?_;exact ae.eY rfl rfl rfl ⟨_,rfl,hw,0,by rw [hP],fun h=>by rw [hP] at h;cases h⟩
 ·have hP:df s a=false:=by unfold df;rw [decide_eq_false (by omega)];rfl
  refine Wz ?_;exact ae.eY rfl rfl rfl ⟨_,rfl,hw,0,by rw [hP],fun h=>by rw [hP] at h;cases h⟩
theorem u9 (r:dF) (s:ar) (t:Int) (w:World) (hr:lg w r s) (hs:s.small) :
 a9 Tryz.prog 122 [.agg (aH r).toArray,.int .i64 t] w fun v _=>v = .bool (im s t):=by
 refine aC Tryz.func122 rfl Tryz.ntmps122 rfl ?_;refine CW.seq (CW.region (SW.box rfl rfl fun b2 w1 hw ff ax => ?_));obtain ⟨cs,hc⟩:=hr.bJ;obtain ⟨z1,z2⟩:=hc.len;have m3:=hs.bJ;refine Wz ?_
 refine CW.loop (fun k:Nat=>[(1,.int .i64 t),(2,.pointer (some ⟨b2,0,none⟩)),(5,.int .i64 (k:Int))])
  (fun k w'=>k≤r.aa.n∧Ext w w'∧aU w' b2 44 (aH r) ∧ ∀ (j:Nat) (hj:j<s.aa.length),j<k→j2 t s.aa[j]=false) (fun k=>r.aa.n-k) 0
  ⟨rfl,rfl,rfl,trivial⟩ ⟨by omega,hw,ax,fun j hj h=>by omega⟩ ?_
 clear hw ax;rintro i w' ⟨hk,hw,ax,hI⟩
 have hA:=hc.row.base;by_cases cy:i<r.aa.n
 ·have k9:i<cs.length:=by omega
  have jS:i<s.aa.length:=by omega
  have dm:=hc.each.get i k9 jS;have sm:=(hs.each _ (List.getElem_mem jS)).aL;have q1:=dm.aL.len;have cS:∀ w',Ext w w'→a9 Tryz.prog 200 [.agg (bR cs[i]).toArray,.int .i64 t] w' fun v _=>v = .int .i64 (idxOf (uj t) s.aa[i].ah):=fun w' hx=>pO _ _ t w' (dm.aL.ext hx) (by omega)
  have qb:=fr (uj t) s.aa[i].ah;cases hh:j2 t s.aa[i]
  ·unfold j2 at hh;rw [hh] at qb;have qb:=of_decide_eq_false qb;repeat' (first|refine Wz ?_|refine SW.st (aA hw rfl rfl ((hc.row.all cy))) rfl ?_|(refine SW.call rfl rfl (cS _ hw) ?_;intro v w1 ab hv;subst hv;replace hw:=Ext.trans hw ab;replace ax:=ax.ext ab;clear ab))
   exact ae.again (i+1) ⟨rfl,rfl,rfl,trivial⟩ (by omega) ⟨by omega,hw,ax,fun j hj h=>by
    by_cases e:j=i
    ·subst e;exact hh
    ·exact hI j hj (by omega)⟩
  ·have hP:im s t=true:=List.any_eq_true.2 ⟨_,List.getElem_mem jS,hh⟩
   unfold j2 at hh;rw [hh] at qb;have qb:=of_decide_eq_true qb;repeat' (first|refine Wz ?_|refine SW.st (aA hw rfl rfl ((hc.row.all cy))) rfl ?_|(refine SW.call rfl rfl (cS _ hw) ?_;intro v w1 ab hv;subst hv;replace hw:=Ext.trans hw ab;replace ax:=ax.ext ab;clear ab))
   exact ae.aF rfl rfl ⟨_,rfl,hw,by rw [hP]⟩
 ·have hP:im s t=false:=List.any_eq_false.2 fun c hm=>by
   obtain ⟨j,hj,rfl⟩:=List.getElem_of_mem hm;rw [hI j hj (by omega)];simp
  refine Wz ?_;exact ae.aF rfl rfl ⟨_,rfl,hw,by rw [hP]⟩
def g9 (s:ar) (a:Int) : Int:=if df s a=true then r6 s.Heap.Live (a / 16) else -1
theorem tM (r:dF) (s:ar) (a:Int) (w:World) (hr:lg w r s) (hs:s.small) (hM:dB s) (ha : -9223372036854775808≤a∧a≤9223372036854775807) :
 a9 Tryz.prog 51 [.agg (aH r).toArray,.int .i64 a] w fun v _=>v = .int .i64 (g9 s a):=by
 refine aC Tryz.func51 rfl Tryz.ntmps51 rfl ?_;refine CW.seq (CW.region (SW.box rfl rfl fun b2 w1 hw ff ax => ?_));have lz:=hr.heap.live.len;have m5:=hs.heap.live;by_cases h0 : 0≤a
 ·have H8:a.tmod 16=a % 16:=Int.tmod_eq_emod_of_nonneg h0
  by_cases h1:a % 16=0
  ·obtain ⟨t,ht⟩ : ∃ t,a / 16=t:=⟨_,rfl⟩;have Fm : 0≤t∧t≤1000000000000000000:=by omega
   have hP:df s a=(!im s t && bc s.Heap.Live t):=by unfold df;rw [decide_eq_true ⟨h0,h1⟩,ht,Bool.true_and]
   obtain ⟨bs,sX⟩ : ∃ bs,im s t=bs:=⟨_,rfl⟩
   have c1:∀ w',Ext w w'→a9 Tryz.prog 122 [.agg (aH r).toArray,.int .i64 (a / 16)] w' fun v _=>v = .bool bs:=fun w' hx=>by
    have:=u9 r s t w' (hr.ext hx) hs
    rwa [sX,← ht] at this
   have c2:∀ w',Ext w w'→a9 Tryz.prog 123 [.agg (bl r.Heap).toArray,.int .i64 (a / 16)] w' fun v _=>v = .int .i64 (r6 s.Heap.Live t):=fun w' hx=>by
    have:=lm r.Heap s.Heap.Live t w' (hr.heap.live.ext hx) (kU hM.heap.live) (by omega)
    rw [ht];exact this
   cases bs
   ·rw [sX] at hP;simp only [Bool.not_false,Bool.true_and] at hP;repeat' (first|refine Wz ?_|refine SW.st (aS rfl rfl ((eK ax))) rfl ?_|((first|refine SW.call rfl rfl (c1 _ hw) ?_|refine SW.call rfl rfl (c2 _ hw) ?_);intro v w1 ab hv;subst hv;replace hw:=Ext.trans hw ab;replace ax:=ax.ext ab;clear ab))
    refine ae.aF rfl rfl ⟨_,rfl,hw,congrArg (Value.int .i64) ?_⟩;unfold g9;rw [hP,ht];cases hf:bc s.Heap.Live t
    ·rw [nb hf];rfl
    ·rfl
   ·rw [sX] at hP;simp only [Bool.not_true,Bool.false_and] at hP;repeat' (first|refine Wz ?_|(refine SW.call rfl rfl (c1 _ hw) ?_;intro v w1 ab hv;subst hv;replace hw:=Ext.trans hw ab;replace ax:=ax.ext ab;clear ab))
    exact ae.aF rfl rfl ⟨_,rfl,hw,by unfold g9;rw [hP];rfl⟩
  ·have hP:df s a=false:=by unfold df;rw [decide_eq_false (by omega)];rfl
   refine Wz ?_;exact ae.aF rfl rfl ⟨_,rfl,hw,by unfold g9;rw [hP];rfl⟩
 ·have hP:df s a=false:=by unfold df;rw [decide_eq_false (by omega)];rfl
  refine Wz ?_;exact ae.aF rfl rfl ⟨_,rfl,hw,by unfold g9;rw [hP];rfl⟩
theorem xf {s:ar} (hM:dB s) (n:ByteArray) {i:Nat} (hi:i<s.aa.length) : idxOf (dV n) s.aa=(i:Int)↔dV n s.aa[i]=true:=by
 constructor
 ·intro h;unfold idxOf at h;split at h
  ·rename_i ha;have e:s.aa.findIdx (dV n)=i:=by omega
   have:=List.findIdx_getElem (p:=dV n) (xs:=s.aa) (w:=by omega)
   simp only [e] at this;exact this
  ·omega
 ·intro h;refine fG hi h fun j hj iP => ?_
  cases e:dV n s.aa[j]
  ·rfl
  ·exfalso;unfold dV at e h;obtain ⟨k,hk,cc⟩:=List.getElem_of_mem (gb.1 h);have:=((hM.each i hi).names.each k hk).2.1
   apply this;rw [cc];refine List.mem_append_left _ (List.mem_flatMap.2 ⟨s.aa[j],?_,gb.1 e⟩);exact List.mem_take_iff_getElem.2 ⟨j,by omega,rfl⟩
open Go.RowKit
inductive pT (s:ar) (a:Int) : Option Nat→Prop where
 | no {u:Int×Int×Int} (hF:fJ s a u) (hn:∀ (i:Nat) (hi:i<s.aa.length),u.2.2=0→u.1=(i:Int)→nI s.aa[i]=false) : pT s a none
 | yes {i:Nat} {k:Int} (hF:fJ s a ((i:Int),k,0)) (hi:i<s.aa.length) (hm:nI s.aa[i]=true) : pT s a (some i)
theorem pT.mM {s:ar} {a:Int} {u v:Option Nat} (h:pT s a u) (hv:pT s a v) : u=v:=by
 cases h with
 | no hF hn=>cases hv with
   | no=>rfl
   | @yes i k nG hi hm =>
     have e:=hF.mM nG;subst e;rw [hn i hi rfl rfl] at hm;cases hm
 | @yes i k hF hi hm=>cases hv with
   | no nG hn =>
     have e:=hF.mM nG;subst e;rw [hn i hi rfl rfl] at hm;cases hm
   | @yes i' k' nG oh Ep =>
     have e:=hF.mM nG;simp only [Prod.mk.injEq] at e;have:i=i':=by omega
     rw [this]
theorem fJ.yR {s:ar} {a:Int} {u:Int×Int×Int} (h:fJ s a u) (h0:u.2.2=0) : ∃ (i:Nat) (hi:i<s.aa.length),u.1=(i:Int):=by
 cases h with
 | bad=>simp at h0
 | none=>simp at h0
 | free=>simp at h0
 | @hit i k out h hF hC hm=>exact ⟨i,hF.hi,rfl⟩
theorem fJ.code {s:ar} {a:Int} {u:Int×Int×Int} (h:fJ s a u) (hq:eD s=true) : u.2.2=0∨u.2.2=4:=by
 cases h with
 | bad h=>rw [h] at hq;cases hq
 | none=>exact .inr rfl
 | free=>exact .inr rfl
 | hit=>exact .inl rfl
theorem yS (r:dF) (s:ar) (a:Int) (w:World) (hr:lg w r s) (hf:s.iN) (hM:dB s) (ha : -9223372036854775808≤a∧a≤9223372036854775807) :
 a9 Tryz.prog 49 [.agg (aH r).toArray,.int .i64 a] w fun v _ => ∃ u,pT s a u∧v = .int .i64 (match u with|some i=>(i:Int)|none => -1):=by
 refine aC Tryz.func49 rfl Tryz.ntmps49 rfl ?_;refine CW.seq (CW.region (SW.box rfl rfl fun b2 w1 hw ff ax => ?_));have hs:=hf.small;have hq:=ga.2 hM;refine Wz ?_;refine SW.call rfl rfl (nJ r s a _ (hr.ext hw) hf) fun v w5 fI hv => ?_
 obtain ⟨u,hu,rfl⟩:=hv;(replace hw:=Ext.trans hw fI;replace ax:=ax.ext fI);by_cases h0:u.2.2=0
 ·obtain ⟨i,hi,zw⟩:=hu.yR h0;obtain ⟨i',k,e⟩:=u;simp only at h0 zw;subst h0 zw;simp only [pS];refine Wz ?_
  refine CW.loop (fun j:Nat=>[(2,.pointer (some ⟨b2,0,none⟩)),(5,.int .i64 (i:Int)),(8,.int .i64 ((2:Int) ^ j))])
   (fun j w'=>j≤6∧Ext w w'∧aU w' b2 44 (aH r) ∧ ∀ (m:Nat),m<j→dV (g7 ((2:Int) ^ m)) s.aa[i]=false) (fun j=>6-j) 0
   ⟨rfl,rfl,congrArg (fun z=>some (Value.int .i64 z)) (by decide),trivial⟩ ⟨by omega,hw,ax,fun m h=>by omega⟩ ?_
  clear hw ax;rintro j w' ⟨hj,hw,ax,hI⟩
  by_cases Ja:j<6
  ·obtain ⟨z,hz⟩ : ∃ z,(2:Int) ^ j=z:=⟨_,rfl⟩
   have ug:z∈kL∧z≤32∧1≤z∧(2:Int) ^ (j+1)=2*z:=by
    rw [← hz];rcases (show j=0∨j=1∨j=2∨j=3∨j=4∨j=5 by omega) with rfl|rfl|rfl|rfl|rfl|rfl<;>decide
   obtain ⟨ug,Ib,te,Dt⟩:=ug
   have c1:∀ w',a9 Tryz.prog 64 [.int .i64 z] w' fun v _=>v = .string (g7 z):=fun w'=>by
    have:=qC z w'
    rwa [yN ug] at this
   obtain ⟨ix,tN⟩ : ∃ ix,idxOf (dV (g7 z)) s.aa=ix:=⟨_,rfl⟩
   have c2:∀ w',Ext w w'→a9 Tryz.prog 118 [.agg (aH r).toArray,.string (g7 z)] w' fun v _=>v = .int .i64 ix:=fun w' hx=>by
    have:=kE r s (g7 z) w' (hr.ext hx) hs
    rwa [tN] at this
   have wu:=xf hM (g7 z) hi;rw [tN] at wu;rw [hz];by_cases hh:dV (g7 z) s.aa[i]=true
   ·have Fs:=wu.2 hh;have hm:nI s.aa[i]=true:=List.any_eq_true.2 ⟨z,ug,hh⟩
    repeat' (first|refine Wz ?_|((apply CW.aM mixed;(· kernel_rfl);rotate_left;intro w1 ab;replace hw:=Ext.trans hw ab;replace ax:=ax.ext ab;clear ab;rotate_right))|refine SW.bf rfl rfl (fun w1 ab=>(c1 _)) ?_|refine SW.bf rfl rfl (fun w1 ab=>(c2 _ (Ext.trans hw ab))) ?_|exact SW.br rfl)
    exact ae.aF rfl rfl ⟨_,rfl,hw,_,.yes hu hi hm,rfl⟩
   ·have Fs:ix≠(i:Int):=fun h=>hh (wu.1 h)
    repeat' (first|refine Wz ?_|((apply CW.aM mixed;(· kernel_rfl);rotate_left;intro w1 ab;replace hw:=Ext.trans hw ab;replace ax:=ax.ext ab;clear ab;rotate_right))|refine SW.bf rfl rfl (fun w1 ab=>(c1 _)) ?_|refine SW.bf rfl rfl (fun w1 ab=>(c2 _ (Ext.trans hw ab))) ?_|exact SW.br rfl)
    refine ae.again (j+1) ⟨rfl,rfl,congrArg (fun z=>some (Value.int .i64 z)) Dt.symm,trivial⟩ (by omega) ⟨by omega,hw,ax,fun m h => ?_⟩;by_cases e:m=j
    ·subst e;rw [hz];simpa using hh
    ·exact hI m (by omega)
  ·obtain rfl:j=6:=by omega
   have Ic:(2:Int) ^ 6=64:=by decide
   rw [Ic];refine Wz ?_;refine ae.aF rfl rfl ⟨_,rfl,hw,none,.no hu fun i2 BY _ e => ?_,rfl⟩;have e:i=i2:=by simp only at e;omega
   subst e;cases hm:nI s.aa[i]
   ·rfl
   ·exfalso;obtain ⟨z,hz,hh⟩:=List.any_eq_true.1 hm
    have:∃ m:Nat,m<6∧(2:Int) ^ m=z:=by
     rcases jB hz with rfl|rfl|rfl|rfl|rfl|rfl
     ·exact ⟨0,by decide,by decide⟩
     ·exact ⟨1,by decide,by decide⟩
     ·exact ⟨2,by decide,by decide⟩
     ·exact ⟨3,by decide,by decide⟩
     ·exact ⟨4,by decide,by decide⟩
     ·exact ⟨5,by decide,by decide⟩
    obtain ⟨m,Du,rfl⟩:=this;rw [hI m Du] at hh;cases hh
 ·obtain ⟨i',k,e⟩:=u;simp only at h0;simp only [pS];obtain rfl:e=4:=(hu.code hq).resolve_left h0;refine Wz ?_;exact ae.aF rfl rfl ⟨_,rfl,hw,none,.no hu fun i hi h=>absurd h h0,rfl⟩
theorem xg {s:ar} (hM:dB s) {a:Int} (h:df s a=true) : ∃ hk:bF s.Heap.Live (a / 16)<s.Heap.Live.length,g9 s a=s.Heap.Live[bF s.Heap.Live (a / 16)].Order∧0≤g9 s a∧g9 s a≤4:=by
 have hf:bc s.Heap.Live (a / 16)=true:=by
  unfold df at h;simp only [Bool.and_eq_true] at h;exact h.2.2
 obtain ⟨hk,_⟩:=fZ hf;have e:=r7 hf hk;obtain ⟨l1,l2,l3,l4⟩:=hM.heap.live.each _ hk;unfold g9;rw [if_pos h,e];exact ⟨hk,rfl,by omega,by omega⟩
theorem xh {s:ar} {a:Int} (h:df s a=false) : g9 s a = -1:=by unfold g9;rw [h];rfl
open Go.RowKit
theorem so (A:Option Addr) (n c:Nat) (l:List ByteArray) (w:World) (hl:Sl w 1 encStr A n l) (hn:n*16≤140737488355328) : a9 Tryz.prog 84 [.slice A n c] w (mU w 9 1 encStr n l):=by
 refine aC Tryz.func84 rfl Tryz.ntmps84 rfl ?_;have hw:=Ext.refl w;refine Wz ?_;refine SW.st (l6 rfl rfl) rfl ?_;repeat' (first|refine Wz ?_|(refine CW.cond rfl (fun h => ?_) (fun h => ?_)))
 ·have vU:n=0:=by
   rcases Nat.eq_zero_or_pos n with h0|h0
   ·exact h0
   ·have:=hl.base h0;simp_all
  subst vU;have:l=[]:=List.eq_nil_of_length_eq_zero hl.len
  subst this;exact ae.aF rfl rfl ⟨_,rfl,hw,none,0,rfl,Own.er _ _ _ _ _ _⟩
 ·refine SW.ry rfl fun b w1 ab hb => ?_
  replace hw:=Ext.trans hw ab;refine Wz ?_;refine SW.oe (Nat.zero_add n) (List.nil_append l) (Own.er w1 w.heap.size _ _ encStr (some ⟨b,0,none⟩)) (hl.ext hw) hw.size rfl rfl rfl (by omega) (by omega) fun A2 c2 w2 hO hg => ?_
  replace hw:=aK hw hg (Nat.le_refl _) (by simp [aX]);refine Wz ?_;exact ae.aF rfl rfl ⟨_,rfl,hw,A2,c2,rfl,hO⟩
open Go.RowKit
def apart (a b:fe) : Prop := ∀ k,aX a.A a.c=some k→aX b.A b.c≠some k
theorem iz {α:Type} {w:World} {lo:Nat} {e:TypeId} {sz:Nat} {enc : α → List Value} {a b:fe} {l:List α} (h:Own w lo e sz enc a.A a.n a.c l) (hb:∀ k,aX b.A b.c=some k→w.heap.size≤k) : apart a b:=fun k h1 h2=>by
 have:=h.lt_size k h1
 have:=hb k h2
 omega
structure ia (u v:cr) : Prop where
 names:apart u.Names v.Names
 aL:apart u.ah v.ah
 bh:apart u.aG v.aG
structure sq (words:fe) (cs:List cr) : Prop where
 pair:cs.Pairwise ia
 words:∀ u∈cs,apart words u.aG
theorem sq.nil (x:fe) : sq x []:=⟨.nil,fun _ h=>by simp at h⟩
theorem sq.snoc {x:fe} {cs:List cr} {v:cr} (h:sq x cs) (h1:∀ u∈cs,ia u v) (h2:apart x v.aG) : sq x (cs++[v]):=by
 refine ⟨List.pairwise_append.2 ⟨h.pair,by simp,fun a ha b hb => ?_⟩,fun u hu => ?_⟩
 ·simp at hb;subst hb;exact h1 a ha
 ·rcases List.mem_append.1 hu with hu|hu
  ·exact h.words u hu
  ·simp at hu;subst hu;exact h2
theorem dt.mem {w:World} {lo:Nat} {s:fe} {cs:List cr} {l:List aZ} (h:dt w lo s cs l) {u:cr} (hu:u∈cs) : ∃ c,kj w lo u c:=by
 obtain ⟨i,hi,rfl⟩:=List.getElem_of_mem hu;exact ⟨_,h.each.get i hi (by rw [← h.each.len];exact hi)⟩
theorem dt.Gx {w:World} {lo:Nat} {s:fe} {cs:List cr} {l:List aZ} (h:dt w lo s cs l) {b:fe} (hb:∀ k,aX b.A b.c=some k→w.heap.size≤k) : ∀ u∈cs,apart u.Names b:=fun u hu=>by
 obtain ⟨c,hc⟩:=h.mem hu;exact iz hc.names hb
theorem dt.Gy {w:World} {lo:Nat} {s:fe} {cs:List cr} {l:List aZ} (h:dt w lo s cs l) {b:fe} (hb:∀ k,aX b.A b.c=some k→w.heap.size≤k) : ∀ u∈cs,apart u.ah b:=fun u hu=>by
 obtain ⟨c,hc⟩:=h.mem hu;exact iz hc.aL hb
theorem dt.Gz {w:World} {lo:Nat} {s:fe} {cs:List cr} {l:List aZ} (h:dt w lo s cs l) {b:fe} (hb:∀ k,aX b.A b.c=some k→w.heap.size≤k) : ∀ u∈cs,apart u.aG b:=fun u hu=>by
 obtain ⟨c,hc⟩:=h.mem hu;exact iz hc.bh hb
open Go.RowKit
theorem xi {a b:fe} (h:apart a b∨apart b a) : aX b.A b.c=none∨aX b.A b.c≠aX a.A a.c:=by
 cases e:aX b.A b.c with
 | none=>exact .inl rfl
 | some g =>
   right;intro e2;rcases h with h|h
   ·exact h g e2.symm e
   ·exact h g e e2.symm
structure eU (w:World) (lo hi:Nat) (r:eu) (h:Heap) : Prop where
 dc:r.bt=h.bt
 di:Own w lo 3 1 bm r.bE.A r.bE.n r.bE.c h.bE
 live:Own w lo 165 3 aE r.Live.A r.Live.n r.Live.c h.Live
 parts:∃ zs ls,fb w lo r.aI zs h.aI∧c8 w lo r.ak ls h.ak∧(∀ g,aX r.bE.A r.bE.c=some g→g<hi)∧(∀ u∈zs,∀ g,aX u.Types.A u.Types.c=some g→g<hi)∧(∀ u∈ls,∀ g,aX u.aw.A u.aw.c=some g→g<hi)
section
variable {w w':World} {lo hi t g:Nat} {r:eu} {h:Heap}
theorem gl.kV (a:gl w lo r h) : eU w lo w.heap.size r h:=by
 obtain ⟨zs,hz⟩:=a.bU;obtain ⟨ls,hl⟩:=a.lists;refine ⟨a.dc,a.di,a.live,zs,ls,hz,hl,a.di.lt_size,fun u hu g e => ?_,fun u hu g e => ?_⟩
 ·obtain ⟨j,hj,rfl⟩:=List.getElem_of_mem hu;exact (hz.each.get j hj (by rw [← hz.each.len];exact hj)).types.lt_size g e
 ·obtain ⟨j,hj,rfl⟩:=List.getElem_of_mem hu;exact (hl.each.get j hj (by rw [← hl.each.len];exact hj)).cw.lt_size g e
theorem eU.own (a:eU w lo hi r h) : gl w lo r h:=by
 obtain ⟨zs,ls,hz,hl,_⟩:=a.parts;exact ⟨a.dc,a.di,a.live,⟨zs,hz⟩,⟨ls,hl⟩⟩
theorem eU.ext (a:eU w lo hi r h) (hx:Ext w w') : eU w' lo hi r h:=by
 obtain ⟨zs,ls,hz,hl,hb⟩:=a.parts;exact ⟨a.dc,a.di.ext hx,a.live.ext hx,zs,ls,hz.ext hx,hl.ext hx,hb⟩
theorem eU.aD (a:eU w lo hi r h) (hG:oo w w' t) (cQ:(Nat.beq t 3 || (Nat.beq t 165 || (Nat.beq t 139 || Nat.beq t 142)))=false) : eU w' lo hi r h:=by
 obtain ⟨zs,ls,hz,hl,hb⟩:=a.parts;simp only [Bool.or_eq_false_iff] at cQ;obtain ⟨h1,h2,h3,h4⟩:=cQ;exact ⟨a.dc,a.di.aD hG h1,a.live.aD hG h2,zs,ls,hz.aD hG (by simp [h1,h2,h3]),hl.aD hG (by simp [h1,h4]),hb⟩
theorem eU.Dv (a:eU w lo hi r h) (hg:w.grownBy w' (some g)) (hG:oo w w' 3) (hb:g<lo∨hi≤g) : eU w' lo hi r h:=by
 obtain ⟨zs,ls,hz,hl,b1,b2,b3⟩:=a.parts;have key:∀ k,lo≤k→k<hi→(some g:Option Nat)≠some k:=fun k h1 h2 e=>by cases e;omega
 refine ⟨a.dc,a.di.apart hg fun k e=>key k (a.di.aN k e) (b1 k e),a.live.aD hG rfl,zs,ls,⟨hz.row.aD hG rfl,⟨hz.each.len,fun j h1 h2 => ?_⟩⟩,⟨hl.row.aD hG rfl,⟨hl.each.len,fun j h1 h2 => ?_⟩⟩,b1,b2,b3⟩
 ·have hj:=hz.each.get j h1 h2;exact ⟨hj.from_,hj.jF,hj.free.aD hG rfl,hj.types.apart hg fun k e=>key k (hj.types.aN k e) (b2 _ (List.getElem_mem h1) k e)⟩
 ·have hj:=hl.each.get j h1 h2;exact ⟨hj.cpu,hj.fL,hj.ty,hj.cw.apart hg fun k e=>key k (hj.cw.aN k e) (b3 _ (List.getElem_mem h1) k e)⟩
end
structure mL (w:World) (lo:Nat) (r:dF) (s:ar) (tK cs:List cr) : Prop where
 words:Own w lo 3 1 bm r.Words.A r.Words.n r.Words.c s.Words
 heap:gl w lo r.Heap s.Heap
 row:Own w lo 89 6 bR r.aa.A r.aa.n r.aa.c tK
 each:dQ (kj w lo) cs s.aa
 pair:cs.Pairwise ia
abbrev SX (w:World) (lo:Nat) (r:dF) (s:ar) (cs:List cr) : Prop:=mL w lo r s cs cs
structure SI (w:World) (lo:Nat) (r:dF) (s:ar) (cs:List cr) : Prop where
 ints:∃ m1 m2,lo≤m1∧m1≤m2∧(∀ g,aX r.Words.A r.Words.c=some g→g<m1)∧eU w m1 m2 r.Heap s.Heap∧dQ (kj w m2) cs s.aa
theorem tO {cs:List cr} (h:cs.Pairwise ia) {i:Nat} {u:cr} (hu:∀ (j:Nat) (hj:j<cs.length),j≠i→ia u cs[j]∧ia cs[j] u) : (cs.set i u).Pairwise ia:=by
 rw [List.pairwise_iff_getElem] at h ⊢;intro a b ha hb Cs;rw [List.length_set] at ha hb;rw [List.getElem_set,List.getElem_set];split
 ·split
  ·omega
  ·exact (hu b hb (by omega)).1
 ·split
  ·exact (hu a ha (by omega)).2
  ·exact h a b ha hb Cs
theorem ey {a b:fe} (h:apart a b) : apart b a:=fun k h1 h2=>h k h2 h1
theorem ia.symm {u v:cr} (h:ia u v) : ia v u:=⟨ey h.names,ey h.aL,ey h.bh⟩
theorem pU {cs:List cr} (h:cs.Pairwise ia) {i j:Nat} (hi:i<cs.length) (hj:j<cs.length) (jN:j≠i) : ia cs[i] cs[j]:=by
 have hp:=List.pairwise_iff_getElem.1 h;rcases Nat.lt_or_ge i j with g|g
 ·exact hp i j hi hj g
 ·exact (hp j i hj hi (by omega)).symm
section
variable {w w':World} {lo t:Nat} {r:dF} {s:ar} {tK cs:List cr}
theorem mL.ext (h:mL w lo r s tK cs) (hx:Ext w w') : mL w' lo r s tK cs:=⟨h.words.ext hx,h.heap.ext hx,h.row.ext hx,h.each.mono fun _ _ h=>h.ext hx,h.pair⟩
theorem mL.low {jW:Nat} (h:mL w lo r s tK cs) (hl:jW≤lo) : mL w jW r s tK cs:=⟨h.words.low hl,h.heap.low hl,h.row.low hl,h.each.mono fun _ _ h=>h.low hl,h.pair⟩
theorem mL.aD (h:mL w lo r s tK cs) (hG:oo w w' t) (cQ:(Nat.beq t 89 || (Nat.beq t 9 || (Nat.beq t 91 || (Nat.beq t 3 || (Nat.beq t 165 || (Nat.beq t 139 || Nat.beq t 142))))))=false) : mL w' lo r s tK cs:=by
 simp only [Bool.or_eq_false_iff] at cQ;obtain ⟨h1,h2,h3,h4,h5,h6,h7⟩:=cQ;exact ⟨h.words.aD hG h4,h.heap.aD hG (by simp [h4,h5,h6,h7]),h.row.aD hG h1,h.each.mono fun _ _ h=>h.aD hG (by simp [h2,h3,h4]),h.pair⟩
theorem mL.len (h:SX w lo r s cs) : cs.length=r.aa.n∧s.aa.length=r.aa.n:=⟨h.row.len,by rw [← h.each.len,h.row.len]⟩
theorem mL.pV (h:SX w lo r s cs) : mW w lo r s:=⟨h.words,h.heap,⟨cs,h.row,h.each⟩⟩
theorem SI.ext (h:SI w lo r s cs) (hx:Ext w w') : SI w' lo r s cs:=by
 obtain ⟨m1,m2,h1,h2,h3,h4,h5⟩:=h.ints;exact ⟨m1,m2,h1,h2,h3,h4.ext hx,h5.mono fun _ _ h=>h.ext hx⟩
theorem SI.low {jW:Nat} (h:SI w lo r s cs) (hl:jW≤lo) : SI w jW r s cs:=by
 obtain ⟨m1,m2,h1,h2,h3,h4,h5⟩:=h.ints;exact ⟨m1,m2,Nat.le_trans hl h1,h2,h3,h4,h5⟩
theorem SI.aD (h:SI w lo r s cs) (hG:oo w w' t) (cQ:(Nat.beq t 9 || (Nat.beq t 91 || (Nat.beq t 3 || (Nat.beq t 165 || (Nat.beq t 139 || Nat.beq t 142)))))=false) : SI w' lo r s cs:=by
 simp only [Bool.or_eq_false_iff] at cQ;obtain ⟨h2,h3,h4,h5,h6,h7⟩:=cQ;obtain ⟨m1,m2,g1,g2,g3,g4,g5⟩:=h.ints;exact ⟨m1,m2,g1,g2,g3,g4.aD hG (by simp [h4,h5,h6,h7]),g5.mono fun _ _ h=>h.aD hG (by simp [h2,h3,h4])⟩
theorem mL.aL {i n':Nat} {l':List Slab} (h:SX w lo r s cs) (hi:i<cs.length) (oh:i<s.aa.length) (hO:Own w' lo 91 3 bB cs[i].ah.A n' cs[i].ah.c l') (hg:w.grownBy w' (aX cs[i].ah.A cs[i].ah.c)) :
 mL w' lo r ⟨s.Words,s.Heap,s.aa.set i ⟨s.aa[i].Names,s.aa[i].bp,s.aa[i].dE,s.aa[i].Order,l',s.aa[i].aG⟩⟩ cs (cs.set i ⟨cs[i].Names,cs[i].bp,cs[i].dE,cs[i].Order,⟨cs[i].ah.A,n',cs[i].ah.c⟩,cs[i].aG⟩):=by
 have hc:=h.each.get i hi oh;have hG:=hc.aL.gr hg;refine ⟨h.words.aD hG rfl,h.heap.aD hG rfl,h.row.aD hG rfl,?_,?_⟩
 ·exact dQ.setAt h.each ⟨hc.size,hc.iM,hc.order,hc.names.aD hG rfl,hO,hc.bh.aD hG rfl⟩ fun j h1 h2 iP ho=>⟨ho.size,ho.iM,ho.order,ho.names.aD hG rfl,ho.aL.grown hg (xi (.inl (pU h.pair hi h1 iP).aL)),ho.bh.aD hG rfl⟩
 ·refine tO h.pair fun j hj iP => ?_
  have hp:=pU h.pair hi hj iP;exact ⟨⟨hp.names,hp.aL,hp.bh⟩,⟨ey hp.names,ey hp.aL,ey hp.bh⟩⟩
theorem mL.yT {i n' c':Nat} {A':Option Addr} {l':List Slab} (h:SX w lo r s cs) (gh:lo≤w.heap.size) (hi:i<cs.length) (oh:i<s.aa.length) (hx:Ext w w') (hO:Own w' w.heap.size 91 3 bB A' n' c' l') :
 mL w' lo r ⟨s.Words,s.Heap,s.aa.set i ⟨s.aa[i].Names,s.aa[i].bp,s.aa[i].dE,s.aa[i].Order,l',s.aa[i].aG⟩⟩ cs (cs.set i ⟨cs[i].Names,cs[i].bp,cs[i].dE,cs[i].Order,⟨A',n',c'⟩,cs[i].aG⟩):=by
 have hc:=(h.each.get i hi oh).ext hx;refine ⟨h.words.ext hx,h.heap.ext hx,h.row.ext hx,?_,?_⟩
 ·exact dQ.setAt h.each ⟨hc.size,hc.iM,hc.order,hc.names,hO.low gh,hc.bh⟩ fun j h1 h2 iP ho=>ho.ext hx
 ·refine tO h.pair fun j hj iP => ?_
  have hp:=pU h.pair hi hj iP;have ha:apart cs[j].ah ⟨A',n',c'⟩:=iz (h.each.get j hj (by rw [← h.each.len];exact hj)).aL hO.aN
  exact ⟨⟨hp.names,ey ha,hp.bh⟩,⟨ey hp.names,ha,ey hp.bh⟩⟩
theorem mL.va {i:Nat} {u:cr} (h:mL w lo r s tK (tK.set i u)) (hO:Own w' lo 89 6 bR r.aa.A r.aa.n r.aa.c (tK.set i u)) (hg:w.grownBy w' (aX r.aa.A r.aa.c)) : SX w' lo r s (tK.set i u):=by
 have hG:=h.row.gr hg;exact ⟨h.words.aD hG rfl,h.heap.aD hG rfl,hO,h.each.mono fun _ _ h=>h.aD hG rfl,h.pair⟩
theorem mL.tP {l':List Int} (h:SX w lo r s cs) (hI:SI w lo r s cs) (hO:Own w' lo 3 1 bm r.Words.A r.Words.n r.Words.c l') (hg:w.grownBy w' (aX r.Words.A r.Words.c)) : SX w' lo r ⟨l',s.Heap,s.aa⟩ cs:=by
 obtain ⟨m1,m2,h1,h2,h3,h4,h5⟩:=hI.ints;have hG:=h.words.gr hg
 have hh:eU w' m1 m2 r.Heap s.Heap:=by
  cases e:aX r.Words.A r.Words.c with
  | none=>rw [e] at hg;exact h4.aD (⟨none,hg,fun k hk=>by cases hk⟩ : oo w w' 44) rfl
  | some g=>rw [e] at hg;exact h4.Dv hg hG (.inl (h3 g e))
 refine ⟨hO,hh.own.low h1,h.row.aD hG rfl,⟨h.each.len,fun j hj ue => ?_⟩,h.pair⟩;have ho:=h.each.get j hj ue
 exact ⟨ho.size,ho.iM,ho.order,ho.names.aD hG rfl,ho.aL.aD hG rfl,ho.bh.apart hg fun g e e2=>by
  have:=h3 g e2;have:=(h5.get j hj ue).bh.aN g e;omega⟩
end
end Go.Proofs.YtbidkghlpijecaaGreatDoor
