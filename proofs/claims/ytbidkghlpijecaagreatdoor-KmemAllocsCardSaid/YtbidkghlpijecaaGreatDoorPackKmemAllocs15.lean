/-
  Texts of the claim KmemAllocs, part 15: what its theorem leans on.
-/
import Derived.Test.YtbidkghlpijecaaGreatDoorPackKmemAllocs7
import Derived.Test.YtbidkghlpijecaaGreatDoorPackKmemAllocs14
import Derived.Test.YtbidkghlpijecaaGreatDoorPackKmemAllocs2
import Derived.Test.YtbidkghlpijecaaGreatDoorRows
import Derived.ProofKit
import Derived.LaidMore
import Derived.OpenShut
import Derived.Stop.Joined
import Derived.Test.YtbidkghlpijecaaGreatDoorPackKmemAllocs8
import Derived.Test.YtbidkghlpijecaaGreatDoorPackKmemAllocs12
import Derived.Test.YtbidkghlpijecaaGreatDoorPackKmemAllocs5
import Derived.Test.YtbidkghlpijecaaGreatDoorPackKmemAllocs11
import Derived.Test.YtbidkghlpijecaaGreatDoorPackKmemAllocs9
import Derived.Test.YtbidkghlpijecaaGreatDoorPackKmemAllocs4
set_option linter.unusedVariables false
set_option linter.unusedSimpArgs false
namespace Go.Proofs.YtbidkghlpijecaaGreatDoor
open Go.RowKit
section
variable {P:Program} {L:Env} {w:World} {d:Option Nat} {T:TypeId} {pos:String} {af:Array Edge} {g:Option (Nat×Bool)}
theorem xQ {t:TypeId} [c:xi P t] {x lo hi:Operand} {s r:ByteArray} {i j:Int} (hx:bR L x=some (.string s)) (fy:bR L lo=some (.int .i64 i)) (Oo:bR L hi=some (.int .i64 j)) (h0 : 0≤i) (h1:i≤j) (h2:j≤s.size) (hr:s.extract i.toNat j.toNat=r) :
 St P ⟨d,.slice t x (some lo) (some hi) none,T,pos,af,g⟩ L w (.string r) :=
 ⟨fun _ a ha w' _=>by
  subst hr;have e1:=ha.eval hx;have e2:=ha.eval fy;have e3:=ha.eval Oo;have h3:i≤(j.toNat:Int):=by omega
  have h4 : ¬ max j 0<i:=by omega
  generalize a.eval = ρ at *
  simp [execOp,e1,e2,e3,Instr.sliceAt,Instr.slice,Instr.sliceBounds,Instr.sliceBound,asIntOf,run_underlying c.j3,h0,h1,h2,h3,h4,show 0≤j by omega]⟩
theorem BB {t ty:TypeId} {x y:Operand} {s r:ByteArray} (hx:bR L x=some (.string s)) (hy:bR L y=some (.string r)) (hb:s.size+r.size≤9223372036854775807) : St P ⟨d,.binOp .add t x y ty,T,pos,af,g⟩ L w (.string (s++r)) :=
 ⟨fun _ a ha w' _=>by
  have e1:=ha.eval hx;have e2:=ha.eval hy;generalize a.eval = ρ at *
  have h1 : ¬ IntKind.i64.max<((s.size+r.size:Nat) : Int):=by
   have:IntKind.i64.max=9223372036854775807:=rfl
   omega
  simp only [Int.natCast_add] at h1;simp [go_sem,e1,e2,Op.stringOp,h1];omega⟩
end
theorem Dv {Z:List Value} {a b c d e f:Value} (hZ:Z.length=6) (ha:a.cells = #[a]) (hb:b.cells = #[b]) (hc:c.cells = #[c]) (hd:d.cells = #[d]) (he:e.cells = #[e]) (hf:f.cells = #[f]) :
 Instr.fill (fun i=>some (i*1,1)) Z.toArray [(0,a),(1,b),(2,c),(3,d),(4,e),(5,f)]=some #[a,b,c,d,e,f]:=by
 match Z,hZ with
 | [z0,z1,z2,z3,z4,z5],_=>simp [Instr.fill,ha,hb,hc,hd,he,hf]
theorem SW.Dw {α:Type} {P:Program} {n:Nat} {ops:Array Oper} {Q:Exit→Act→World→Prop} {rest:List Oper} {L:Env} {w:World} {d:Nat} {T:TypeId} {pos:String} {af:Array Edge} {t e:TypeId} {z:Value} {bytes:Nat} {enc : α → List Value}
 [S:bu P t e 1] [E:df P e z 1 bytes] [C:fw enc 1] {x0 x1 x2 x3 x4 x5:Operand} {u0 u1 u2 u3 u4 u5:Value} (l:List α)
 (h0:bR L x0=some u0) (h1:bR L x1=some u1) (h2:bR L x2=some u2) (h3:bR L x3=some u3) (h4:bR L x4=some u4) (h5:bR L x5=some u5)
 (ho:(u0.cells = #[u0]∧u1.cells = #[u1]∧u2.cells = #[u2]∧u3.cells = #[u3]∧u4.cells = #[u4]∧u5.cells = #[u5])) (hl:l.flatMap enc=[u0,u1,u2,u3,u4,u5]) (MO:l.length=6)
 (hn:Nat.blt d n=true) (h:∀ g w',Ext w w'→w.heap.size≤g→Own w' w.heap.size e 1 enc (some ⟨g,0,none⟩) 6 6 l→SW P n ops (.ff Q) rest ((d,.slice (some ⟨g,0,none⟩) 6 6)::L) w') :
 SW P n ops (.ff Q) (⟨some d,.buildSlice t 6 #[(0,x0),(1,x1),(2,x2),(3,x3),(4,x4),(5,x5)],T,pos,af,none⟩::rest) L w :=
 ⟨fun q hq=>by
  obtain ⟨i,hi,hz,iR,ue⟩:=dG P e (z:=z) (sz:=1) (bytes:=bytes);simp only [swp];refine wpList_buildSlice rfl t e 6 _ rfl #[u0,u1,u2,u3,u4,u5] i z S.j3 hi hz (by rw [iR];omega) (by rw [iR];omega) ?_ ?_
  ·have e1:(Array.map (fun (p:Nat×Operand)=>(p.1,q.eval p.2)) #[(0,x0),(1,x1),(2,x2),(3,x3),(4,x4),(5,x5)]).toList=[(0,u0),(1,u1),(2,u2),(3,u3),(4,u4),(5,u5)]:=by
    simp [hq.eval h0,hq.eval h1,hq.eval h2,hq.eval h3,hq.eval h4,hq.eval h5]
   have e2:∀ X:Array Value,X=X.toList.toArray:=fun X=>rfl
   rw [e1,e2 (Array.map _ (Array.range _)),iR];obtain ⟨a0,a1,a2,a3,a4,a5⟩:=ho;exact Dv (by simp) a0 a1 a2 a3 a4 a5
  ·refine (h w.heap.size _ (Ext.alloc w _) (Nat.le_refl _) ⟨MO,.inr ⟨by omega,w.heap.size,_,rfl,Nat.le_refl _,aJ.new w e [u0,u1,u2,u3,u4,u5],Nat.le_refl _,by simp [maxLen],by simp,?_⟩⟩).out _ (hq.put hn _);rw [hl]
   rfl⟩
open Go.RowKit
def kL:List Int:=[1,2,4,8,16,32]
def BC (k:Int) : ByteArray:=if k=1 then ⟨#[49]⟩ else if k=2 then ⟨#[50]⟩ else if k=4 then ⟨#[52]⟩ else if k=8 then ⟨#[56]⟩ else if k=16 then ⟨#[49,54]⟩ else ⟨#[51,50]⟩
def oJ (k:Int) : ByteArray:=if k=1 then ⟨#[107,49]⟩ else if k=2 then ⟨#[107,50]⟩ else if k=4 then ⟨#[107,52]⟩ else if k=8 then ⟨#[107,56]⟩ else if k=16 then ⟨#[107,49,54]⟩ else ⟨#[107,51,50]⟩
theorem pG {k:Int} (h:k∈kL) : k=1∨k=2∨k=4∨k=8∨k=16∨k=32:=by simpa [kL] using h
theorem BD (k:Int) (hk:k∈kL) (w:World) : bo Tryz.prog 258 [.int .i64 k] w fun v _=>v = .string (BC k):=by
 refine aI Tryz.func258 rfl Tryz.ntmps258 rfl ?_;have hw:=Ext.refl w;rcases pG hk with rfl|rfl|rfl|rfl|rfl|rfl
 all_goals
  refine Wz ?_;refine SW.st (xQ rfl rfl rfl (by decide) (by decide) (of_decide_eq_true (by kernel_rfl)) rfl) rfl ?_;refine Wz ?_;exact ae.aO rfl rfl ⟨_,rfl,hw,congrArg Value.string (by kernel_rfl)⟩
theorem uB (k:Int) (hk:k∈kL) (w:World) : bo Tryz.prog 241 [.int .i64 k,.int .i64 10] w fun v _=>v = .string (BC k):=by
 refine aI Tryz.func241 rfl Tryz.ntmps241 rfl ?_;have hw:=Ext.refl w;have oR : 1≤k∧k≤32:=by rcases pG hk with h|h|h|h|h|h<;>omega
 repeat' (first|refine Wz ?_|(refine SW.call rfl rfl (BD k hk _) ?_;intro v w1 ab hv;subst hv;replace hw:=Ext.trans hw ab;clear ab))
 exact ae.aO rfl rfl ⟨_,rfl,hw,rfl⟩
theorem BE (k:Int) (hk:k∈kL) (w:World) : bo Tryz.prog 209 [.int .i64 k] w fun v _=>v = .string (BC k):=by
 refine aI Tryz.func209 rfl Tryz.ntmps209 rfl ?_;have hw:=Ext.refl w;repeat' (first|refine Wz ?_|(refine SW.call rfl rfl (uB k hk _) ?_;intro v w1 ab hv;subst hv;replace hw:=Ext.trans hw ab;clear ab))
 exact ae.aO rfl rfl ⟨_,rfl,hw,rfl⟩
theorem Dx (k:Int) (hk:k∈kL) (w:World) : bo Tryz.prog 142 [.int .i64 k] w fun v _=>v = .string (BC k):=by
 refine aI Tryz.func142 rfl Tryz.ntmps142 rfl ?_;have hw:=Ext.refl w;repeat' (first|refine Wz ?_|(refine SW.call rfl rfl (BE k hk _) ?_;intro v w1 ab hv;subst hv;replace hw:=Ext.trans hw ab;clear ab))
 exact ae.aO rfl rfl ⟨_,rfl,hw,rfl⟩
theorem BF (k:Int) (hk:k∈kL) (w:World) : bo Tryz.prog 59 [.int .i64 k] w fun v _=>v = .string (oJ k):=by
 refine aI Tryz.func59 rfl Tryz.ntmps59 rfl ?_;have hw:=Ext.refl w;have e:(⟨#[107]⟩ : ByteArray)++BC k=oJ k:=by rcases pG hk with rfl|rfl|rfl|rfl|rfl|rfl<;>kernel_rfl
 have hs:(⟨#[107]⟩ : ByteArray).size+(BC k).size≤9223372036854775807:=by rcases pG hk with rfl|rfl|rfl|rfl|rfl|rfl<;>decide
 repeat' (first|refine Wz ?_|(refine SW.call rfl rfl (Dx k hk _) ?_;intro v w1 ab hv;subst hv;replace hw:=Ext.trans hw ab;clear ab)|(refine SW.st ((BB rfl rfl hs).eq (congrArg Value.string e)) rfl ?_))
 exact ae.aO rfl rfl ⟨_,rfl,hw,rfl⟩
structure mb (w:World) : Prop where
 sl:Sl w 1 bd (some ⟨0,0,none⟩) 6 kL
theorem mb.ext {w w':World} (h:mb w) (hx:Ext w w') : mb w':=⟨h.sl.ext hx⟩
def eE (n:Int) : ByteArray:=if n≤1 then oJ 1 else if n≤2 then oJ 2 else if n≤4 then oJ 4 else if n≤8 then oJ 8 else if n≤16 then oJ 16 else if n≤32 then oJ 32 else ⟨#[]⟩
def kN:List ByteArray:=[oJ 1,oJ 2,oJ 4,oJ 8,oJ 16,oJ 32]
theorem uC (n:Int) (w:World) : bo Tryz.prog 64 [.int .i64 n] w fun v _=>v = .string (eE n):=by
 refine aI Tryz.func64 rfl Tryz.ntmps64 rfl ?_;have hw:=Ext.refl w;refine Wz ?_;refine SW.Dw (enc:=bd) kL rfl rfl rfl rfl rfl rfl ⟨rfl,rfl,rfl,rfl,rfl,rfl⟩ rfl rfl rfl fun g1 w1 ab J4 hU => ?_
 replace hw:=Ext.trans hw ab;replace hU:=hU.sl;refine Wz ?_;refine SW.Dw (enc:=encStr) kN rfl rfl rfl rfl rfl rfl ⟨rfl,rfl,rfl,rfl,rfl,rfl⟩ rfl rfl rfl fun g2 w2 cq tV hV => ?_
 replace hw:=Ext.trans hw cq;replace hU:=hU.ext cq;replace hV:=hV.sl;refine Wz ?_;have MP:=hU.base;have PA:=hV.base
 refine CW.loop (fun i:Nat=>[(0,.int .i64 n),(3,.slice (some ⟨g1,0,none⟩) 6 6),(4,.slice (some ⟨g2,0,none⟩) 6 6),(5,.int .i64 (i:Int))])
  (fun i w'=>i≤6∧Ext w w'∧Sl w' 1 bd (some ⟨g1,0,none⟩) 6 kL∧Sl w' 1 encStr (some ⟨g2,0,none⟩) 6 kN ∧ ∀ (j:Nat) (hj:j<6),j<i→(kL[j]'hj)<n) (fun i=>6-i) 0
  ⟨rfl,rfl,rfl,rfl,trivial⟩ ⟨by omega,hw,hU,hV,fun j hj h=>by omega⟩ ?_
 clear hw hU hV;rintro i w' ⟨hi,hw,hU,hV,hI⟩
 by_cases Ig:i<6
 ·obtain ⟨k,hk⟩ : ∃ k,kL[i]'Ig=k:=⟨_,rfl⟩;have g0:=hU.one Ig (u := .int .i64 k) (by show bd (kL[i]'Ig)=_;rw [hk];rfl);have Oq:=hV.one Ig (u := .string (kN[i]'Ig)) rfl;by_cases hle:n≤k
  ·repeat' (first|refine Wz ?_|refine SW.st (ao rfl g0) rfl ?_|refine SW.st (ao rfl (Oq)) rfl ?_)
   refine ae.aO rfl rfl ⟨_,rfl,hw,congrArg Value.string ?_⟩;have h0 : 0<i→1<n:=fun h=>hI 0 (by decide) h
   have h1 : 1<i→2<n:=fun h=>hI 1 (by decide) h
   have h2 : 2<i→4<n:=fun h=>hI 2 (by decide) h
   have h3 : 3<i→8<n:=fun h=>hI 3 (by decide) h
   have h4 : 4<i→16<n:=fun h=>hI 4 (by decide) h
   subst hk;unfold eE;rcases (show i=0∨i=1∨i=2∨i=3∨i=4∨i=5 by omega) with rfl|rfl|rfl|rfl|rfl|rfl
   ·have hle:n≤1:=hle
    rw [if_pos hle];rfl
   ·have hle:n≤2:=hle
    rw [if_neg (by omega),if_pos hle];rfl
   ·have hle:n≤4:=hle
    rw [if_neg (by omega),if_neg (by omega),if_pos hle];rfl
   ·have hle:n≤8:=hle
    rw [if_neg (by omega),if_neg (by omega),if_neg (by omega),if_pos hle];rfl
   ·have hle:n≤16:=hle
    rw [if_neg (by omega),if_neg (by omega),if_neg (by omega),if_neg (by omega),if_pos hle];rfl
   ·have hle:n≤32:=hle
    rw [if_neg (by omega),if_neg (by omega),if_neg (by omega),if_neg (by omega),if_neg (by omega),if_pos hle];rfl
  ·repeat' (first|refine Wz ?_|refine SW.st (ao rfl g0) rfl ?_)
   refine ae.again (i+1) ⟨rfl,rfl,rfl,rfl,trivial⟩ (by omega) ⟨by omega,hw,hU,hV,fun j hj h => ?_⟩;by_cases e:j=i
   ·subst e;omega
   ·exact hI j hj (by omega)
 ·obtain rfl:i=6:=by omega
  have h0 : 32<n:=hI 5 (by decide) (by decide)
  refine Wz ?_;refine ae.aO rfl rfl ⟨_,rfl,hw,congrArg Value.string ?_⟩;unfold eE;rw [if_neg (by omega),if_neg (by omega),if_neg (by omega),if_neg (by omega),if_neg (by omega),if_neg (by omega)]
open Go.RowKit
theorem xR : Tryz.prog.globalNamed "paddock/kmem.sizes" = some 0 := by kernel_rfl
theorem zt:(Tryz.prog.globals[0]?).map (·.type)=some 111:=by kernel_rfl
set_option maxRecDepth 100000 in
theorem xS {W:World} {cs:List Value} {fuel:Nat} {p:List MemPlace} {enc:TypeId×Value→Unit} {base:Nat} {spare:Nat→Bool} {held:Bool} (h:DataW.trod enc Tryz.prog W base spare held fuel 111 cs=some (Rows.laid_paddock_kmem_sizes,p)) :
 cs=[.int .i64 1,.int .i64 2,.int .i64 4,.int .i64 8,.int .i64 16,.int .i64 32]:=by
 have c6:Tryz.prog.cellsOf 111=6:=by kernel_rfl
 have c1:Tryz.prog.cellsOf 3=1:=by kernel_rfl
 obtain ⟨xs,m,rfl,hx,hlen,hn,Al⟩:=DataW.trod_array Tryz.underlying111 h;rw [c6] at hlen;rw [c1] at Al;simp only [Prod.mk.injEq] at hx
 have one:∀ (a:Value) (u:Int) (x:DataW Unit×List MemPlace),DataW.trod enc Tryz.prog W base spare held m 3 [a]=some x→x.1 = .lit (.int .i64 u)→a = .int .i64 u:=by
  intro a u x hx e;obtain ⟨z0,e0,f0,_⟩:=DataW.trod_int Tryz.underlying3 hx;rw [f0] at e;simp at e e0;rw [e0,e]
 match cs,hlen,xs,hn with
 | [a,b,c,d,e,f],_,[x0,x1,x2,x3,x4,x5],_ =>
   have jx:=hx.1;simp only [Rows.laid_paddock_kmem_sizes,List.map_cons,List.map_nil,DataW.agg.injEq,List.cons.injEq,and_true] at jx;obtain rfl:=one a 1 x0 (Al 0 (by decide)) jx.1.symm;obtain rfl:=one b 2 x1 (Al 1 (by decide)) jx.2.1.symm;obtain rfl:=one c 4 x2 (Al 2 (by decide)) jx.2.2.1.symm;obtain rfl:=one d 8 x3 (Al 3 (by decide)) jx.2.2.2.1.symm;obtain rfl:=one e 16 x4 (Al 4 (by decide)) jx.2.2.2.2.1.symm;obtain rfl:=one f 32 x5 (Al 5 (by decide)) jx.2.2.2.2.2.symm
   rfl
theorem Dy {W : World} {ps : List MemPlace} (h : DataW.LaidVars Tryz.prog W [("paddock/kmem.sizes", Rows.laid_paddock_kmem_sizes)] ps) : mb W := by
 obtain ⟨g0,t0,wJ,f0,p0,q0,yq,FZ,Ih,J3,_⟩:=h;obtain rfl:=Option.some.inj (xR.symm.trans yq);obtain rfl:=Option.some.inj (zt.symm.trans FZ);have hc:=xS J3
 have qM:∀ i,W.cell? ⟨0,i,none⟩=wJ.toList[i]?:=fun i=>by
  have:=World.var?_cell yq Ih i
  simpa using this
 refine ⟨⟨rfl,fun _=>rfl,fun i hi j u hu => ?_⟩⟩;have Ig:i<6:=hi
 rw [add_add];show W.cell? ((⟨0,0,none⟩ : Addr).add _)=_
 rw [c7,qM,hc]
 have hj:j=0:=by
  rcases Nat.eq_zero_or_pos j with h|h
  ·exact h
  ·rw [List.getElem?_eq_none (by simp [bd];omega)] at hu;cases hu
 subst hj;rcases (show i=0∨i=1∨i=2∨i=3∨i=4∨i=5 by omega) with rfl|rfl|rfl|rfl|rfl|rfl
 all_goals simpa [kL,bd] using hu
open Go.RowKit
theorem BG {W : World} {ps : List MemPlace} (h : DataW.LaidVars Tryz.prog W [("paddock/buddy.others", Rows.laid_paddock_buddy_others)] ps) : nR W := by
 obtain ⟨g0,t0,wJ,f0,p0,q0,yq,FZ,Ih,J3,_⟩:=h;obtain rfl:=Option.some.inj (vJ.symm.trans yq);obtain rfl:=Option.some.inj (xh.symm.trans FZ);have hc:=vK J3;refine ⟨fun k hk j v hv => ?_⟩
 have qM:∀ i,W.cell? ⟨1,i,none⟩=wJ.toList[i]?:=fun i=>by
  have:=World.var?_cell yq Ih i
  simpa using this
 rw [add_add,c7,qM,hc];rcases (show k=0∨k=1∨k=2 by omega) with rfl|rfl|rfl
 all_goals
  match j,hv with
  | 0,hv=>simpa [mY,mZ] using hv
  | 1,hv=>simpa [mY,mZ] using hv
theorem nq {W : World} {D1 D2 D3 : DataW Unit} (hp : ([("math/bits.deBruijn32tab", D1), ("math/bits.deBruijn64tab", D2), ("internal/strconv.uint64pow10", D3), ("paddock/buddy.others", Rows.laid_paddock_buddy_others), ("paddock/kmem.sizes", Rows.laid_paddock_kmem_sizes)].all fun x => x.2.handleName?.isNone) = true)
 (h : laidMetH Tryz.prog [("math/bits.deBruijn32tab", D1), ("math/bits.deBruijn64tab", D2), ("internal/strconv.uint64pow10", D3), ("paddock/buddy.others", Rows.laid_paddock_buddy_others), ("paddock/kmem.sizes", Rows.laid_paddock_kmem_sizes)] W) : mb W ∧ nR W := by
 rw [MakeChecks.laidMetH_plain _ _ _ hp] at h;obtain ⟨ps,⟨_,_,_,_,_,_,_,_,_,_,⟨_,_,_,_,_,_,_,_,_,_,⟨_,_,_,_,_,_,_,_,_,_,⟨g0,t0,wJ,f0,p0,q0,a1,a2,a3,a4,h5,_⟩,_⟩,_⟩,_⟩,_,_⟩:=h;exact ⟨Dy h5,BG ⟨g0,t0,wJ,f0,p0,[],a1,a2,a3,a4,rfl,rfl⟩⟩
open Go.RowKit
open Go.RowKit
open Go.RowKit
open Go.RowKit
theorem wk (A:Option Addr) (n c:Nat) (l:List ByteArray) (w:World) (hl:Sl w 1 encStr A n l) (hn:n*16≤140737488355328) : bo Tryz.prog 84 [.slice A n c] w (pW w 9 1 encStr n l):=by
 refine aI Tryz.func84 rfl Tryz.ntmps84 rfl ?_;have hw:=Ext.refl w;refine Wz ?_;refine SW.st (oW rfl rfl) rfl ?_;repeat' (first|refine Wz ?_|(refine CW.cond rfl (fun h => ?_) (fun h => ?_)))
 ·have EI:n=0:=by
   rcases Nat.eq_zero_or_pos n with h0|h0
   ·exact h0
   ·have:=hl.base h0;simp_all
  subst EI;have:l=[]:=List.eq_nil_of_length_eq_zero hl.len
  subst this;exact ae.aO rfl rfl ⟨_,rfl,hw,none,0,rfl,Own.eJ _ _ _ _ _ _⟩
 ·refine SW.vu rfl fun b w1 ab hb => ?_
  replace hw:=Ext.trans hw ab;refine Wz ?_;refine SW.rN (Nat.zero_add n) (List.nil_append l) (Own.eJ w1 w.heap.size _ _ encStr (some ⟨b,0,none⟩)) (hl.ext hw) hw.size rfl rfl rfl (by omega) (by omega) fun A2 c2 w2 hO hg => ?_
  replace hw:=aF hw hg (Nat.le_refl _) (by simp [aU]);refine Wz ?_;exact ae.aO rfl rfl ⟨_,rfl,hw,A2,c2,rfl,hO⟩
open Go.RowKit
def apart (a b:fF) : Prop := ∀ k,aU a.A a.c=some k→aU b.A b.c≠some k
theorem j2 {α:Type} {w:World} {lo:Nat} {e:TypeId} {sz:Nat} {enc : α → List Value} {a b:fF} {l:List α} (h:Own w lo e sz enc a.A a.n a.c l) (hb:∀ k,aU b.A b.c=some k→w.heap.size≤k) : apart a b:=fun k h1 h2=>by
 have:=h.lt_size k h1
 have:=hb k h2
 omega
structure jF (u v:dr) : Prop where
 names:apart u.Names v.Names
 aS:apart u.ai v.ai
 a8:apart u.au v.au
structure wm (words:fF) (cs:List dr) : Prop where
 pair:cs.Pairwise jF
 words:∀ u∈cs,apart words u.au
theorem wm.nil (x:fF) : wm x []:=⟨.nil,fun _ h=>by simp at h⟩
theorem wm.snoc {x:fF} {cs:List dr} {v:dr} (h:wm x cs) (h1:∀ u∈cs,jF u v) (h2:apart x v.au) : wm x (cs++[v]):=by
 refine ⟨List.pairwise_append.2 ⟨h.pair,by simp,fun a ha b hb => ?_⟩,fun u hu => ?_⟩
 ·simp at hb;subst hb;exact h1 a ha
 ·rcases List.mem_append.1 hu with hu|hu
  ·exact h.words u hu
  ·simp at hu;subst hu;exact h2
theorem dX.mem {w:World} {lo:Nat} {s:fF} {cs:List dr} {l:List bf} (h:dX w lo s cs l) {u:dr} (hu:u∈cs) : ∃ c,mF w lo u c:=by
 obtain ⟨i,hi,rfl⟩:=List.getElem_of_mem hu;exact ⟨_,h.each.get i hi (by rw [← h.each.len];exact hi)⟩
theorem dX.MQ {w:World} {lo:Nat} {s:fF} {cs:List dr} {l:List bf} (h:dX w lo s cs l) {b:fF} (hb:∀ k,aU b.A b.c=some k→w.heap.size≤k) : ∀ u∈cs,apart u.Names b:=fun u hu=>by
 obtain ⟨c,hc⟩:=h.mem hu;exact j2 hc.names hb
theorem dX.MR {w:World} {lo:Nat} {s:fF} {cs:List dr} {l:List bf} (h:dX w lo s cs l) {b:fF} (hb:∀ k,aU b.A b.c=some k→w.heap.size≤k) : ∀ u∈cs,apart u.ai b:=fun u hu=>by
 obtain ⟨c,hc⟩:=h.mem hu;exact j2 hc.aS hb
theorem dX.MS {w:World} {lo:Nat} {s:fF} {cs:List dr} {l:List bf} (h:dX w lo s cs l) {b:fF} (hb:∀ k,aU b.A b.c=some k→w.heap.size≤k) : ∀ u∈cs,apart u.au b:=fun u hu=>by
 obtain ⟨c,hc⟩:=h.mem hu;exact j2 hc.a8 hb
open Go.RowKit
theorem qA {a b:fF} (h:apart a b∨apart b a) : aU b.A b.c=none∨aU b.A b.c≠aU a.A a.c:=by
 cases e:aU b.A b.c with
 | none=>exact .inl rfl
 | some g =>
   right;intro e2;rcases h with h|h
   ·exact h g e2.symm e
   ·exact h g e e2.symm
structure fC (w:World) (lo hi:Nat) (r:eB) (h:Heap) : Prop where
 dY:r.bY=h.bY
 ck:Own w lo 3 1 bd r.bJ.A r.bJ.n r.bJ.c h.bJ
 live:Own w lo 165 3 aA r.Live.A r.Live.n r.Live.c h.Live
 parts:∃ zs ls,fV w lo r.aQ zs h.aQ∧cX w lo r.av ls h.av∧(∀ g,aU r.bJ.A r.bJ.c=some g→g<hi)∧(∀ u∈zs,∀ g,aU u.Types.A u.Types.c=some g→g<hi)∧(∀ u∈ls,∀ g,aU u.ax.A u.ax.c=some g→g<hi)
section
variable {w w':World} {lo hi t g:Nat} {r:eB} {h:Heap}
theorem iD.mc (a:iD w lo r h) : fC w lo w.heap.size r h:=by
 obtain ⟨zs,hz⟩:=a.cQ;obtain ⟨ls,hl⟩:=a.lists;refine ⟨a.dY,a.ck,a.live,zs,ls,hz,hl,a.ck.lt_size,fun u hu g e => ?_,fun u hu g e => ?_⟩
 ·obtain ⟨j,hj,rfl⟩:=List.getElem_of_mem hu;exact (hz.each.get j hj (by rw [← hz.each.len];exact hj)).types.lt_size g e
 ·obtain ⟨j,hj,rfl⟩:=List.getElem_of_mem hu;exact (hl.each.get j hj (by rw [← hl.each.len];exact hj)).bL.lt_size g e
theorem fC.own (a:fC w lo hi r h) : iD w lo r h:=by
 obtain ⟨zs,ls,hz,hl,_⟩:=a.parts;exact ⟨a.dY,a.ck,a.live,⟨zs,hz⟩,⟨ls,hl⟩⟩
theorem fC.ext (a:fC w lo hi r h) (hx:Ext w w') : fC w' lo hi r h:=by
 obtain ⟨zs,ls,hz,hl,hb⟩:=a.parts;exact ⟨a.dY,a.ck.ext hx,a.live.ext hx,zs,ls,hz.ext hx,hl.ext hx,hb⟩
theorem fC.ay (a:fC w lo hi r h) (hG:oa w w' t) (cG:(Nat.beq t 3 || (Nat.beq t 165 || (Nat.beq t 139 || Nat.beq t 142)))=false) : fC w' lo hi r h:=by
 obtain ⟨zs,ls,hz,hl,hb⟩:=a.parts;simp only [Bool.or_eq_false_iff] at cG;obtain ⟨h1,h2,h3,h4⟩:=cG;exact ⟨a.dY,a.ck.ay hG h1,a.live.ay hG h2,zs,ls,hz.ay hG (by simp [h1,h2,h3]),hl.ay hG (by simp [h1,h4]),hb⟩
theorem fC.Dz (a:fC w lo hi r h) (hg:w.grownBy w' (some g)) (hG:oa w w' 3) (hb:g<lo∨hi≤g) : fC w' lo hi r h:=by
 obtain ⟨zs,ls,hz,hl,b1,b2,b3⟩:=a.parts;have key:∀ k,lo≤k→k<hi→(some g:Option Nat)≠some k:=fun k h1 h2 e=>by cases e;omega
 refine ⟨a.dY,a.ck.apart hg fun k e=>key k (a.ck.aM k e) (b1 k e),a.live.ay hG rfl,zs,ls,⟨hz.row.ay hG rfl,⟨hz.each.len,fun j h1 h2 => ?_⟩⟩,⟨hl.row.ay hG rfl,⟨hl.each.len,fun j h1 h2 => ?_⟩⟩,b1,b2,b3⟩
 ·have hj:=hz.each.get j h1 h2;exact ⟨hj.from_,hj.j6,hj.free.ay hG rfl,hj.types.apart hg fun k e=>key k (hj.types.aM k e) (b2 _ (List.getElem_mem h1) k e)⟩
 ·have hj:=hl.each.get j h1 h2;exact ⟨hj.cpu,hj.fu,hj.ty,hj.bL.apart hg fun k e=>key k (hj.bL.aM k e) (b3 _ (List.getElem_mem h1) k e)⟩
end
structure nW (w:World) (lo:Nat) (r:dQ) (s:aE) (wJ cs:List dr) : Prop where
 words:Own w lo 3 1 bd r.Words.A r.Words.n r.Words.c s.Words
 heap:iD w lo r.Heap s.Heap
 row:Own w lo 89 6 dh r.aa.A r.aa.n r.aa.c wJ
 each:eA (mF w lo) cs s.aa
 pair:cs.Pairwise jF
abbrev SX (w:World) (lo:Nat) (r:dQ) (s:aE) (cs:List dr) : Prop:=nW w lo r s cs cs
structure SI (w:World) (lo:Nat) (r:dQ) (s:aE) (cs:List dr) : Prop where
 ints:∃ m1 m2,lo≤m1∧m1≤m2∧(∀ g,aU r.Words.A r.Words.c=some g→g<m1)∧fC w m1 m2 r.Heap s.Heap∧eA (mF w m2) cs s.aa
theorem tC {cs:List dr} (h:cs.Pairwise jF) {i:Nat} {u:dr} (hu:∀ (j:Nat) (hj:j<cs.length),j≠i→jF u cs[j]∧jF cs[j] u) : (cs.set i u).Pairwise jF:=by
 rw [List.pairwise_iff_getElem] at h ⊢;intro a b ha hb HX;rw [List.length_set] at ha hb;rw [List.getElem_set,List.getElem_set];split
 ·split
  ·omega
  ·exact (hu b hb (by omega)).1
 ·split
  ·exact (hu a ha (by omega)).2
  ·exact h a b ha hb HX
theorem dR {a b:fF} (h:apart a b) : apart b a:=fun k h1 h2=>h k h2 h1
theorem jF.symm {u v:dr} (h:jF u v) : jF v u:=⟨dR h.names,dR h.aS,dR h.a8⟩
theorem lG {cs:List dr} (h:cs.Pairwise jF) {i j:Nat} (hi:i<cs.length) (hj:j<cs.length) (kW:j≠i) : jF cs[i] cs[j]:=by
 have hp:=List.pairwise_iff_getElem.1 h;rcases Nat.lt_or_ge i j with g|g
 ·exact hp i j hi hj g
 ·exact (hp j i hj hi (by omega)).symm
section
variable {w w':World} {lo t:Nat} {r:dQ} {s:aE} {wJ cs:List dr}
theorem nW.ext (h:nW w lo r s wJ cs) (hx:Ext w w') : nW w' lo r s wJ cs:=⟨h.words.ext hx,h.heap.ext hx,h.row.ext hx,h.each.mono fun _ _ h=>h.ext hx,h.pair⟩
theorem nW.low {mm:Nat} (h:nW w lo r s wJ cs) (hl:mm≤lo) : nW w mm r s wJ cs:=⟨h.words.low hl,h.heap.low hl,h.row.low hl,h.each.mono fun _ _ h=>h.low hl,h.pair⟩
theorem nW.ay (h:nW w lo r s wJ cs) (hG:oa w w' t) (cG:(Nat.beq t 89 || (Nat.beq t 9 || (Nat.beq t 91 || (Nat.beq t 3 || (Nat.beq t 165 || (Nat.beq t 139 || Nat.beq t 142))))))=false) : nW w' lo r s wJ cs:=by
 simp only [Bool.or_eq_false_iff] at cG;obtain ⟨h1,h2,h3,h4,h5,h6,h7⟩:=cG;exact ⟨h.words.ay hG h4,h.heap.ay hG (by simp [h4,h5,h6,h7]),h.row.ay hG h1,h.each.mono fun _ _ h=>h.ay hG (by simp [h2,h3,h4]),h.pair⟩
theorem nW.len (h:SX w lo r s cs) : cs.length=r.aa.n∧s.aa.length=r.aa.n:=⟨h.row.len,by rw [← h.each.len,h.row.len]⟩
theorem nW.xT (h:SX w lo r s cs) : na w lo r s:=⟨h.words,h.heap,⟨cs,h.row,h.each⟩⟩
theorem SI.ext (h:SI w lo r s cs) (hx:Ext w w') : SI w' lo r s cs:=by
 obtain ⟨m1,m2,h1,h2,h3,h4,h5⟩:=h.ints;exact ⟨m1,m2,h1,h2,h3,h4.ext hx,h5.mono fun _ _ h=>h.ext hx⟩
theorem SI.low {mm:Nat} (h:SI w lo r s cs) (hl:mm≤lo) : SI w mm r s cs:=by
 obtain ⟨m1,m2,h1,h2,h3,h4,h5⟩:=h.ints;exact ⟨m1,m2,Nat.le_trans hl h1,h2,h3,h4,h5⟩
theorem SI.ay (h:SI w lo r s cs) (hG:oa w w' t) (cG:(Nat.beq t 9 || (Nat.beq t 91 || (Nat.beq t 3 || (Nat.beq t 165 || (Nat.beq t 139 || Nat.beq t 142)))))=false) : SI w' lo r s cs:=by
 simp only [Bool.or_eq_false_iff] at cG;obtain ⟨h2,h3,h4,h5,h6,h7⟩:=cG;obtain ⟨m1,m2,g1,g2,g3,g4,g5⟩:=h.ints;exact ⟨m1,m2,g1,g2,g3,g4.ay hG (by simp [h4,h5,h6,h7]),g5.mono fun _ _ h=>h.ay hG (by simp [h2,h3,h4])⟩
theorem nW.aS {i n':Nat} {l':List Slab} (h:SX w lo r s cs) (hi:i<cs.length) (qa:i<s.aa.length) (hO:Own w' lo 91 3 aY cs[i].ai.A n' cs[i].ai.c l') (hg:w.grownBy w' (aU cs[i].ai.A cs[i].ai.c)) :
 nW w' lo r ⟨s.Words,s.Heap,s.aa.set i ⟨s.aa[i].Names,s.aa[i].bg,s.aa[i].cm,s.aa[i].Order,l',s.aa[i].au⟩⟩ cs (cs.set i ⟨cs[i].Names,cs[i].bg,cs[i].cm,cs[i].Order,⟨cs[i].ai.A,n',cs[i].ai.c⟩,cs[i].au⟩):=by
 have hc:=h.each.get i hi qa;have hG:=hc.aS.gr hg;refine ⟨h.words.ay hG rfl,h.heap.ay hG rfl,h.row.ay hG rfl,?_,?_⟩
 ·exact eA.setAt h.each ⟨hc.size,hc.ji,hc.order,hc.names.ay hG rfl,hO,hc.a8.ay hG rfl⟩ fun j h1 h2 iL ho=>⟨ho.size,ho.ji,ho.order,ho.names.ay hG rfl,ho.aS.grown hg (qA (.inl (lG h.pair hi h1 iL).aS)),ho.a8.ay hG rfl⟩
 ·refine tC h.pair fun j hj iL => ?_
  have hp:=lG h.pair hi hj iL;exact ⟨⟨hp.names,hp.aS,hp.a8⟩,⟨dR hp.names,dR hp.aS,dR hp.a8⟩⟩
theorem nW.DA {i n' c':Nat} {A':Option Addr} {l':List Slab} (h:SX w lo r s cs) (fy:lo≤w.heap.size) (hi:i<cs.length) (qa:i<s.aa.length) (hx:Ext w w') (hO:Own w' w.heap.size 91 3 aY A' n' c' l') :
 nW w' lo r ⟨s.Words,s.Heap,s.aa.set i ⟨s.aa[i].Names,s.aa[i].bg,s.aa[i].cm,s.aa[i].Order,l',s.aa[i].au⟩⟩ cs (cs.set i ⟨cs[i].Names,cs[i].bg,cs[i].cm,cs[i].Order,⟨A',n',c'⟩,cs[i].au⟩):=by
 have hc:=(h.each.get i hi qa).ext hx;refine ⟨h.words.ext hx,h.heap.ext hx,h.row.ext hx,?_,?_⟩
 ·exact eA.setAt h.each ⟨hc.size,hc.ji,hc.order,hc.names,hO.low fy,hc.a8⟩ fun j h1 h2 iL ho=>ho.ext hx
 ·refine tC h.pair fun j hj iL => ?_
  have hp:=lG h.pair hi hj iL;have ha:apart cs[j].ai ⟨A',n',c'⟩:=j2 (h.each.get j hj (by rw [← h.each.len];exact hj)).aS hO.aM
  exact ⟨⟨hp.names,dR ha,hp.a8⟩,⟨dR hp.names,ha,dR hp.a8⟩⟩
theorem nW.qB {i:Nat} {u:dr} (h:nW w lo r s wJ (wJ.set i u)) (hO:Own w' lo 89 6 dh r.aa.A r.aa.n r.aa.c (wJ.set i u)) (hg:w.grownBy w' (aU r.aa.A r.aa.c)) : SX w' lo r s (wJ.set i u):=by
 have hG:=h.row.gr hg;exact ⟨h.words.ay hG rfl,h.heap.ay hG rfl,hO,h.each.mono fun _ _ h=>h.ay hG rfl,h.pair⟩
end
open Go.RowKit
set_option maxHeartbeats 4000000 in
theorem jS (r:eB) (h:Heap) (w:World) (hr:wI w r h) (hs:h.small) :
 bo Tryz.prog 40 [.agg (bm r).toArray] w fun v w' => ∃ s,v = .agg (bm s).toArray∧iD w' w.heap.size s h:=by
 refine aI Tryz.func40 rfl Tryz.ntmps40 rfl ?_;refine CW.seq (CW.region (SW.box rfl rfl fun b1 w1 hw gV aB => ?_));refine SW.alloc rfl fun b2 w2 cq g7 aL => ?_
 have pY:w.heap.size≤b2:=Nat.le_trans hw.size g7
 have yP:b2≠b1:=by have:=aB.lt;omega
 (replace hw:=Ext.trans hw cq;replace aB:=aB.ext cq);obtain ⟨zs,hz⟩:=hr.cQ;obtain ⟨ls,hl⟩:=hr.lists;have Ka:=hr.ck.len;have GV:=hr.live.len;have s1:=hs.ck;have s2:=hs.live;have s3:=hs.cQ;have s4:=hs.lists;obtain ⟨z1,z2⟩:=hz.len;obtain ⟨l1,l2⟩:=hl.len;refine Wz ?_
 obtain ⟨K,hK⟩ : ∃ K:Env→World→Prop,K=fun L' w' => ∃ X c1 Y d1 b3,ez L' [(1,.pointer (some ⟨b1,0,none⟩)),(2,.pointer (some ⟨b2,0,none⟩)),(3,.pointer (some ⟨b3,0,none⟩))]∧Ext w w'∧aJ w' b1 41 (bm r)∧aJ w' b2 41 (bm .zero) ∧
  aJ w' b3 41 (bm ⟨.nil,⟨X,r.bJ.n,c1⟩,r.bY,.nil,⟨Y,r.Live.n,d1⟩⟩)∧Own w' w.heap.size 3 1 bd X r.bJ.n c1 h.bJ∧Own w' w.heap.size 165 3 aA Y r.Live.n d1 h.Live∧w.heap.size≤b3∧b1≠b3∧b2≠b3:=⟨_,rfl⟩
 refine CW.cut K ?_ ?_
 ·refine CW.any 10 mixed (cj (by kernel_rfl)) rfl fun w1 ab aG => ?_
  replace hw:=Ext.trans hw ab;replace aB:=aB.ext ab;replace aL:=aL.ext ab;clear ab;refine Wa ?_;refine SA.two 2 9 rfl rfl (by kernel_rfl) rfl rfl ?_ ?_
  ·refine SW.call rfl rfl (gf _ _ _ _ _ (hr.ck.ext hw) (by omega)) fun v w4 aj hv => ?_
   obtain ⟨X,c4,rfl,hX⟩:=hv;replace hX:=hX.low hw.size;replace hw:=Ext.trans hw aj;replace aB:=aB.ext aj;replace aL:=aL.ext aj;try replace aq:=aq.ext aj
   refine SW.nil (ae.sa aj ?_);refine SA.two 7 9 rfl rfl (by kernel_rfl) rfl rfl ?_ ?_
   ·refine SW.call rfl rfl (lP _ _ _ _ _ (hr.live.ext hw) (by omega)) fun v w4 aj hv => ?_
    obtain ⟨Y,d4,rfl,hY⟩:=hv;replace hY:=hY.low hw.size;replace hX:=hX.ext aj;replace hw:=Ext.trans hw aj;replace aB:=aB.ext aj;replace aL:=aL.ext aj;try replace aq:=aq.ext aj
    refine SW.nil (ae.sa aj ?_);refine Wa ?_;refine SA.one 9 rfl (by kernel_rfl) rfl ?_;refine SW.alloc rfl fun b3 w4 aj bH aq => ?_
    have cw:w.heap.size≤b3:=Nat.le_trans hw.size bH
    have ey:b1≠b3:=by have:=aB.lt;omega
    have er:b2≠b3:=by have:=aL.lt;omega
    replace hw:=Ext.trans hw aj;replace aB:=aB.ext aj;replace aL:=aL.ext aj;try replace hX:=hX.ext aj
    try replace hY:=hY.ext aj
    refine SW.nil (ae.sa aj ?_);refine SA.done (by kernel_rfl) ?_;skip;refine SW.ak aq rfl rfl rfl rfl (cn ⟨.nil,⟨X,r.bJ.n,c4⟩,r.bY,.nil,⟨Y,r.Live.n,d4⟩⟩) fun w5 bF hg => ?_
    have hG:=aq.gr hg;replace hw:=hw.own cw hg;(replace hX:=hX.ay hG rfl;replace hY:=hY.ay hG rfl);replace aB:=aB.grown hg (by simpa using ey);replace aL:=aL.grown hg (by simpa using er);refine Wz ?_;exact ae.cut (K:=K) (by rw [hK];exact ⟨X,c4,Y,d4,b3,⟨rfl,rfl,rfl,trivial⟩,hw,aB,aL,bF,hX,hY,cw,ey,er⟩)
   ·refine SW.alloc rfl fun b3 w4 aj bH aq => ?_
    have cw:w.heap.size≤b3:=Nat.le_trans hw.size bH
    have ey:b1≠b3:=by have:=aB.lt;omega
    have er:b2≠b3:=by have:=aL.lt;omega
    replace hw:=Ext.trans hw aj;replace aB:=aB.ext aj;replace aL:=aL.ext aj;try replace hX:=hX.ext aj
    try replace hY:=hY.ext aj
    refine SW.nil (ae.sa aj ?_);refine SA.one 7 rfl (by kernel_rfl) rfl ?_;refine SW.call rfl rfl (lP _ _ _ _ _ (hr.live.ext hw) (by omega)) fun v w4 aj hv => ?_
    obtain ⟨Y,d4,rfl,hY⟩:=hv;replace hY:=hY.low hw.size;replace hX:=hX.ext aj;replace hw:=Ext.trans hw aj;replace aB:=aB.ext aj;replace aL:=aL.ext aj;try replace aq:=aq.ext aj
    refine SW.nil (ae.sa aj ?_);refine Wa ?_;refine SA.done (by kernel_rfl) ?_;skip;refine SW.ak aq rfl rfl rfl rfl (cn ⟨.nil,⟨X,r.bJ.n,c4⟩,r.bY,.nil,⟨Y,r.Live.n,d4⟩⟩) fun w5 bF hg => ?_
    have hG:=aq.gr hg;replace hw:=hw.own cw hg;(replace hX:=hX.ay hG rfl;replace hY:=hY.ay hG rfl);replace aB:=aB.grown hg (by simpa using ey);replace aL:=aL.grown hg (by simpa using er);refine Wz ?_;exact ae.cut (K:=K) (by rw [hK];exact ⟨X,c4,Y,d4,b3,⟨rfl,rfl,rfl,trivial⟩,hw,aB,aL,bF,hX,hY,cw,ey,er⟩)
  ·refine SW.alloc rfl fun b3 w4 aj bH aq => ?_
   have cw:w.heap.size≤b3:=Nat.le_trans hw.size bH
   have ey:b1≠b3:=by have:=aB.lt;omega
   have er:b2≠b3:=by have:=aL.lt;omega
   replace hw:=Ext.trans hw aj;replace aB:=aB.ext aj;replace aL:=aL.ext aj;try replace hX:=hX.ext aj
   try replace hY:=hY.ext aj
   refine SW.nil (ae.sa aj ?_);refine SA.one 2 rfl (by kernel_rfl) rfl ?_;refine SW.call rfl rfl (gf _ _ _ _ _ (hr.ck.ext hw) (by omega)) fun v w4 aj hv => ?_
   obtain ⟨X,c4,rfl,hX⟩:=hv;replace hX:=hX.low hw.size;replace hw:=Ext.trans hw aj;replace aB:=aB.ext aj;replace aL:=aL.ext aj;try replace aq:=aq.ext aj
   refine SW.nil (ae.sa aj ?_);refine SA.one 7 rfl (by kernel_rfl) rfl ?_;refine SW.call rfl rfl (lP _ _ _ _ _ (hr.live.ext hw) (by omega)) fun v w4 aj hv => ?_
   obtain ⟨Y,d4,rfl,hY⟩:=hv;replace hY:=hY.low hw.size;replace hX:=hX.ext aj;replace hw:=Ext.trans hw aj;replace aB:=aB.ext aj;replace aL:=aL.ext aj;try replace aq:=aq.ext aj
   refine SW.nil (ae.sa aj ?_);refine Wa ?_;refine SA.done (by kernel_rfl) ?_;skip;refine SW.ak aq rfl rfl rfl rfl (cn ⟨.nil,⟨X,r.bJ.n,c4⟩,r.bY,.nil,⟨Y,r.Live.n,d4⟩⟩) fun w5 bF hg => ?_
   have hG:=aq.gr hg;replace hw:=hw.own cw hg;(replace hX:=hX.ay hG rfl;replace hY:=hY.ay hG rfl);replace aB:=aB.grown hg (by simpa using ey);replace aL:=aL.grown hg (by simpa using er);refine Wz ?_;exact ae.cut (K:=K) (by rw [hK];exact ⟨X,c4,Y,d4,b3,⟨rfl,rfl,rfl,trivial⟩,hw,aB,aL,bF,hX,hY,cw,ey,er⟩)
 ·clear aB aL hw;subst hK;rintro L' w' ⟨X,c4,Y,d4,b3,fv,hw,aB,aL,aq,hX,hY,cw,ey,er⟩
  refine ae.sub fv ?_;refine Wz ?_
  refine CW.loop (fun s:Nat×Option Addr×Nat×List cy=>[(1,.pointer (some ⟨b1,0,none⟩)),(2,.pointer (some ⟨b2,0,none⟩)),(3,.pointer (some ⟨b3,0,none⟩)),(4,.int .i64 (s.1:Int))])
   (fun s w'=>s.1≤r.aQ.n∧Ext w w'∧aJ w' b1 41 (bm r)∧aJ w' b2 41 (bm .zero)∧aJ w' b3 41 (bm ⟨⟨s.2.1,s.1,s.2.2.1⟩,⟨X,r.bJ.n,c4⟩,r.bY,.nil,⟨Y,r.Live.n,d4⟩⟩)∧Own w' w.heap.size 3 1 bd X r.bJ.n c4 h.bJ∧Own w' w.heap.size 165 3 aA Y r.Live.n d4 h.Live ∧
     fV w' w.heap.size ⟨s.2.1,s.1,s.2.2.1⟩ s.2.2.2 (h.aQ.take s.1)) (fun s=>r.aQ.n-s.1) (0,none,0,[]) ⟨rfl,rfl,rfl,rfl,trivial⟩ ⟨by omega,hw,aB,aL,aq,hX,hY,fV.nil _ _⟩ ?_
  clear aB aL aq hX hY hw fv;rintro ⟨k,A,c,zr⟩ w' ⟨hk,hw,aB,aL,aq,hX,hY,hO⟩
  simp only at hk aq hO ⊢;have hA:=hz.row.base;by_cases cb:k<r.aQ.n
  ·have A6:=hz.each.get k (by omega) (by omega);have cf:h.aQ[k]'(by omega)∈h.aQ:=List.getElem_mem _
   have q:=hs.free _ cf;have q1:=A6.free.len;have q2:=A6.types.len;repeat' (first|refine Wz ?_|refine SW.st (aH hw rfl rfl ((hz.row.all cb))) rfl ?_)
   refine SW.call rfl rfl (lU _ _ _ (A6.ext hw) (by omega) (by omega)) fun v w4 aj hv => ?_
   obtain ⟨s,rfl,iR⟩:=hv;replace iR:=iR.low hw.size;(replace hw:=Ext.trans hw aj;replace aB:=aB.ext aj;replace aL:=aL.ext aj;replace aq:=aq.ext aj;replace hX:=hX.ext aj;replace hY:=hY.ext aj;replace hO:=hO.ext aj);refine SW.alloc rfl fun b5 w1 ab il cd => ?_
   skip;refine SW.ak cd rfl rfl rfl rfl (cJ s) fun w2 fX hg => ?_
   have aj:=ab.own il hg;have nS:w.heap.size≤b5:=Nat.le_trans hw.size il
   replace hw:=Ext.trans hw aj;replace aB:=aB.ext aj;replace aL:=aL.ext aj;replace aq:=aq.ext aj;replace hX:=hX.ext aj;replace hY:=hY.ext aj;replace hO:=hO.ext aj;replace iR:=iR.ext aj;replace cd:=fX;clear fX ab hg aj;refine Wz ?_;refine SW.bK rfl rfl rfl rfl rfl fun b w4 aj hb hB => ?_
   (replace hw:=Ext.trans hw aj;replace aB:=aB.ext aj;replace aL:=aL.ext aj;replace aq:=aq.ext aj;replace cd:=cd.ext aj;replace hX:=hX.ext aj;replace hY:=hY.ext aj;replace hO:=hO.ext aj;replace iR:=iR.ext aj);refine SW.append hO.row (aJ.mo (enc:=bp) hB) hw.size rfl rfl rfl (by simp only;omega) (by simp only;omega) fun A2 c2 w5 fU hg => ?_
   have hG:=hO.row.gr hg;replace hw:=aF hw hg (Nat.le_refl _) hO.row.aM;(replace aB:=aB.ay hG rfl;replace aL:=aL.ay hG rfl;replace aq:=aq.ay hG rfl;replace hX:=hX.ay hG rfl;replace hY:=hY.ay hG rfl;replace iR:=iR.ay hG rfl);have hE:=hO.each.mono fun _ _ h=>h.ay hG rfl
   refine Wz ?_;refine SW.bA (i:=0) aq rfl rfl rfl rfl fun w6 cK hg => ?_
   have hG:=aq.gr hg;replace hw:=hw.own cw hg;replace aB:=aB.grown hg (by simpa using ey);replace aL:=aL.grown hg (by simpa using er);(replace hX:=hX.ay hG rfl;replace hY:=hY.ay hG rfl;replace iR:=iR.ay hG rfl;replace fU:=fU.ay hG rfl);replace hE:=hE.mono fun _ _ h=>h.ay hG rfl
   refine Wz ?_;refine ae.again (k+1,A2,c2,zr++[s]) ⟨rfl,rfl,rfl,rfl,trivial⟩ (by simp only;omega) ⟨by simp only;omega,hw,aB,aL,cK,hX,hY,fU,?_⟩;rw [List.take_succ_eq_append_getElem (by omega)];exact hE.snoc iR
  ·obtain rfl:k=r.aQ.n:=by omega
   rw [List.take_of_length_le (by omega)] at hO;refine Wz ?_
   refine CW.loop (fun s:Nat×Option Addr×Nat×List bM=>[(1,.pointer (some ⟨b1,0,none⟩)),(2,.pointer (some ⟨b2,0,none⟩)),(3,.pointer (some ⟨b3,0,none⟩)),(6,.int .i64 (s.1:Int))])
    (fun s w'=>s.1≤r.av.n∧Ext w w'∧aJ w' b1 41 (bm r)∧aJ w' b2 41 (bm .zero)∧aJ w' b3 41 (bm ⟨⟨A,r.aQ.n,c⟩,⟨X,r.bJ.n,c4⟩,r.bY,⟨s.2.1,s.1,s.2.2.1⟩,⟨Y,r.Live.n,d4⟩⟩)∧Own w' w.heap.size 3 1 bd X r.bJ.n c4 h.bJ∧Own w' w.heap.size 165 3 aA Y r.Live.n d4 h.Live ∧
      fV w' w.heap.size ⟨A,r.aQ.n,c⟩ zr h.aQ∧cX w' w.heap.size ⟨s.2.1,s.1,s.2.2.1⟩ s.2.2.2 (h.av.take s.1)) (fun s=>r.av.n-s.1) (0,none,0,[]) ⟨rfl,rfl,rfl,rfl,trivial⟩ ⟨by omega,hw,aB,aL,aq,hX,hY,hO,cX.nil _ _⟩ ?_
   clear aB aL aq hX hY hw hO;rintro ⟨k,B,d,lr⟩ w' ⟨hk,hw,aB,aL,aq,hX,hY,hO,hP⟩
   simp only at hk aq hP ⊢;have hA:=hl.row.base;by_cases cb:k<r.av.n
   ·have uq:=hl.each.get k (by omega) (by omega);have cf:h.av[k]'(by omega)∈h.av:=List.getElem_mem _
    have q:=hs.bL _ cf;have q1:=uq.bL.len;repeat' (first|refine Wz ?_|refine SW.st (aH hw rfl rfl ((hl.row.all cb))) rfl ?_)
    have GX:=hP.row.lt_size;refine SW.alloc rfl fun b7 w1 ab lm jY => ?_
    skip;refine SW.ak jY rfl rfl rfl rfl (sM _) fun w2 dJ hg => ?_
    have aj:=ab.own lm hg;have rr:w.heap.size≤b7:=Nat.le_trans hw.size lm
    replace hw:=Ext.trans hw aj;replace aB:=aB.ext aj;replace aL:=aL.ext aj;replace aq:=aq.ext aj;replace hX:=hX.ext aj;replace hY:=hY.ext aj;replace hO:=hO.ext aj;replace hP:=hP.ext aj;replace jY:=dJ;clear dJ ab hg aj;refine Wz ?_;refine SW.call rfl rfl (gf _ _ _ _ _ (uq.bL.ext hw) (by omega)) fun v w4 aj hv => ?_
    obtain ⟨W,e4,rfl,hW⟩:=hv;replace hW:=hW.low hw.size;(replace hw:=Ext.trans hw aj;replace aB:=aB.ext aj;replace aL:=aL.ext aj;replace aq:=aq.ext aj;replace jY:=jY.ext aj;replace hX:=hX.ext aj;replace hY:=hY.ext aj;replace hO:=hO.ext aj;replace hP:=hP.ext aj);refine Wz ?_;refine SW.bA (i:=3) jY rfl rfl rfl rfl fun w5 dJ hg => ?_
    have hG:=jY.gr hg;replace hw:=hw.own rr hg;(replace aB:=aB.ay hG rfl;replace aL:=aL.ay hG rfl;replace aq:=aq.ay hG rfl;replace hX:=hX.ay hG rfl;replace hY:=hY.ay hG rfl;replace hO:=hO.ay hG rfl;replace hW:=hW.ay hG rfl);replace hP:cX w5 w.heap.size ⟨B,k,d⟩ lr (h.av.take k):=⟨hP.row.grown hg (.inr (fun e=>by have:=GX _ e;omega)),hP.each.mono fun _ _ h=>h.ay hG rfl⟩;refine Wz ?_;refine SW.bK rfl rfl rfl rfl rfl fun b w6 aj hb hB => ?_
    (replace hw:=Ext.trans hw aj;replace aB:=aB.ext aj;replace aL:=aL.ext aj;replace aq:=aq.ext aj;replace hX:=hX.ext aj;replace hY:=hY.ext aj;replace hO:=hO.ext aj;replace hP:=hP.ext aj;replace hW:=hW.ext aj);refine SW.append hP.row (aJ.mo (enc:=bq) (x:=⟨ls[k].dO,ls[k].ar,ls[k].Ty,⟨W,_,e4⟩⟩) hB) hw.size rfl rfl rfl (by simp only;omega) (by simp only;omega) fun A2 c2 w7 GY hg => ?_
    have hG:=hP.row.gr hg;replace hw:=aF hw hg (Nat.le_refl _) hP.row.aM;(replace aB:=aB.ay hG rfl;replace aL:=aL.ay hG rfl;replace aq:=aq.ay hG rfl;replace hX:=hX.ay hG rfl;replace hY:=hY.ay hG rfl;replace hO:=hO.ay hG rfl;replace hW:=hW.ay hG rfl);have hE:=hP.each.mono fun _ _ h=>h.ay hG rfl
    refine Wz ?_;refine SW.bA (i:=3) aq rfl rfl rfl rfl fun w8 cK hg => ?_
    have hG:=aq.gr hg;replace hw:=hw.own cw hg;replace aB:=aB.grown hg (by simpa using ey);replace aL:=aL.grown hg (by simpa using er);(replace hX:=hX.ay hG rfl;replace hY:=hY.ay hG rfl;replace hO:=hO.ay hG rfl;replace GY:=GY.ay hG rfl;replace hW:=hW.ay hG rfl);replace hE:=hE.mono fun _ _ h=>h.ay hG rfl
    refine Wz ?_;refine ae.again (k+1,A2,c2,lr++[⟨ls[k].dO,ls[k].ar,ls[k].Ty,⟨W,_,e4⟩⟩]) ⟨rfl,rfl,rfl,rfl,trivial⟩ (by simp only;omega) ⟨by simp only;omega,hw,aB,aL,cK,hX,hY,hO,GY,?_⟩;rw [List.take_succ_eq_append_getElem (by omega)];exact hE.snoc ⟨uq.cpu,uq.fu,uq.ty,hW⟩
   ·obtain rfl:k=r.av.n:=by omega
    rw [List.take_of_length_le (by omega)] at hP;refine Wz ?_;refine SW.ak aL rfl rfl rfl rfl (cn _) fun w5 bF hg => ?_
    have hG:=aL.gr hg;replace hw:=hw.own pY hg;(replace hX:=hX.ay hG rfl;replace hY:=hY.ay hG rfl;replace hO:=hO.ay hG rfl;replace hP:=hP.ay hG rfl);refine Wz ?_;exact ae.mr rfl rfl bF rfl ⟨_,rfl,hw,⟨_,_,r.bY,_,_⟩,rfl,hr.dY,hX,hY,⟨zr,hO⟩,⟨lr,hP⟩⟩
open Go.RowKit
structure nr (w:World) (lo:Nat) (m li lv:fF) (ls:List bM) (h:Heap) : Prop where
 ck:Own w lo 3 1 bd m.A m.n m.c h.bJ
 live:Own w lo 165 3 aA lv.A lv.n lv.c h.Live
 lists:cX w lo li ls h.av
section
variable {w w':World} {lo t:Nat} {m li lv:fF} {ls:List bM} {h:Heap}
theorem nr.ext (a:nr w lo m li lv ls h) (hx:Ext w w') : nr w' lo m li lv ls h:=⟨a.ck.ext hx,a.live.ext hx,a.lists.ext hx⟩
theorem nr.ay (a:nr w lo m li lv ls h) (hG:oa w w' t) (cG:(Nat.beq t 3 || (Nat.beq t 165 || Nat.beq t 142))=false) : nr w' lo m li lv ls h:=by
 simp only [Bool.or_eq_false_iff] at cG;obtain ⟨h1,h2,h3⟩:=cG;exact ⟨a.ck.ay hG h1,a.live.ay hG h2,a.lists.ay hG (by simp [h1,h3])⟩
theorem iD.split {r:eB} (a:iD w lo r h) {z0 z1:ar} (hz:h.aQ=[z0,z1]) : ∃ g c u0 u1 ls,r.aQ=⟨some ⟨g,0,none⟩,2,c⟩∧dT w lo g c u0 u1 (z0,z1)∧nr w lo r.bJ r.av r.Live ls h:=by
 obtain ⟨zs,uw⟩:=a.cQ;obtain ⟨ls,H7⟩:=a.lists;have l0:=uw.each.len;rw [hz] at l0;obtain ⟨u0,u1,rfl⟩:=qt (show zs.length=2 from l0);have l1:=uw.row.len;have h0:=uw.each.get 0 (by simp) (by simp [hz]);have h1:=uw.each.get 1 (by simp) (by simp [hz]);simp only [hz] at h0 h1;have hc : 0<r.aQ.c:=by have:=uw.row.le;simp at l1;omega
 obtain ⟨g,rest,hA,fy,_⟩:=uw.row.opened hc;refine ⟨g,r.aQ.c,u0,u1,ls,?_,⟨?_,h0,h1,fy,hc⟩,⟨a.ck,a.live,H7⟩⟩
 ·rw [← hA];have:(2:Nat)=r.aQ.n:=l1
  rw [this]
 ·have:=uw.row
  rw [hA,← l1] at this;exact this
end
structure G2 (w0 w:World) (g b:Nat) : Prop where
 os:w.os=w0.os
 tape:w.tape=w0.tape
 output:w.output=w0.output
 size:w0.heap.size≤w.heap.size
 block:∀ k,k<w0.heap.size→k≠g→k≠b→w.heap[k]?=w0.heap[k]?
section
variable {w0 w w':World} {g b k t:Nat} {cs:List Value}
theorem G2.refl (w:World) (g b:Nat) : G2 w w g b:=⟨rfl,rfl,rfl,Nat.le_refl _,fun _ _ _ _=>rfl⟩
theorem G2.step (h:G2 w0 w g b) {row:Option Nat} (hg:w.grownBy w' row) (hr:∀ k,row=some k→k=g∨k=b∨w0.heap.size≤k) : G2 w0 w' g b :=
 ⟨hg.os.trans h.os,hg.tape.trans h.tape,hg.output.trans h.output,Nat.le_trans h.size hg.size,fun k hk h1 h2=>by
  rw [hg.block k (Nat.lt_of_lt_of_le hk h.size) (fun e=>by rcases hr k e.symm with e|e|e<;>omega)];exact h.block k hk h1 h2⟩
theorem G2.ext (h:G2 w0 w g b) (hx:Ext w w') : G2 w0 w' g b:=h.step (hx.gr none) (fun k e=>by cases e)
theorem G2.Hi (h:G2 w0 w g b) (hg:w.grownBy w' (some g)) : G2 w0 w' g b:=h.step hg (fun k e=>by cases e;exact .inl rfl)
theorem G2.new (h:G2 w0 w g b) (hg:w.grownBy w' (some k)) (hk:w0.heap.size≤k) : G2 w0 w' g b:=h.step hg (fun i e=>by cases e;exact .inr (.inr hk))
theorem G2.c8 (h:G2 w0 w g b) (hB:aJ w0 k t cs) (h1:k≠g) (h2:k≠b) : aJ w k t cs:=(h.block k hB.lt h1 h2).trans hB
end
noncomputable def iH (h:Heap) (z0 z1:ar) (k:Nat) : ar×ar:=dt (z0,z1) ((aT h.av).take k)
open Go.RowKit
noncomputable def ns (z:ar) : Int×Int:=if ed z then (dI z.ag,0) else (0,8)
theorem zu (A:Option Addr) (n c:Nat) (l:List Block) (w:World) (hl:Sl w 3 aA A n l) (jh:∀ b∈l,0≤b.Order∧b.Order≤4) (hn:n≤100000000000000000) :
 bo Tryz.prog 250 [.slice A n c] w fun v _=>v = .int .i64 (dI l):=by
 refine aI Tryz.func250 rfl Tryz.ntmps250 rfl ?_;have hw:=Ext.refl w;have hA:=hl.base;repeat' (first|refine Wz ?_|(first|refine CW.jG rfl (fun h => ?_) (fun h => ?_)|refine CW.jH rfl (fun h => ?_) (fun h => ?_)|refine CW.bO rfl ?_|refine CW.bB rfl ?_|refine CW.cond rfl (fun h => ?_) (fun h => ?_))|refine SW.cV rfl rfl rfl (fun h => ?_) (fun h => ?_)|refine SW.gQ rfl rfl rfl (fun h => ?_) (fun h => ?_)|refine SW.want rfl rfl ?_|refine SW.skip rfl rfl rfl rfl ?_|refine SW.nZ rfl rfl rfl ?_|refine SW.split rfl rfl rfl (fun h => ?_) (fun h => ?_))
 refine CW.loop (fun k:Nat=>[(0,.slice A n c),(3,.int .i64 (dI (l.take k))),(4,.int .i64 (k:Int))]) (fun k w'=>k≤n∧Ext w w'∧0≤dI (l.take k)∧dI (l.take k)≤16*(k:Int)) (fun k=>n-k) 0 ⟨rfl,rfl,rfl,trivial⟩ ⟨by omega,hw,by simp [dI],by simp [dI]⟩ ?_;clear hw;rintro k w' ⟨hk,hw,PB,ub⟩
 by_cases cb:k<n
 ·have dk:=hl.lt cb;obtain ⟨f1,f2⟩:=jh l[k] (List.getElem_mem dk);have hp:=bE f1 f2;have et:=lQ l k dk;repeat' (first|refine Wz ?_|(first|refine CW.jG rfl (fun h => ?_) (fun h => ?_)|refine CW.jH rfl (fun h => ?_) (fun h => ?_)|refine CW.bO rfl ?_|refine CW.bB rfl ?_|refine CW.cond rfl (fun h => ?_) (fun h => ?_))|refine SW.cV rfl rfl rfl (fun h => ?_) (fun h => ?_)|refine SW.gQ rfl rfl rfl (fun h => ?_) (fun h => ?_)|refine SW.want rfl rfl ?_|refine SW.skip rfl rfl rfl rfl ?_|refine SW.nZ rfl rfl rfl ?_|refine SW.split rfl rfl rfl (fun h => ?_) (fun h => ?_)|refine SW.st (aW rfl rfl ((hl.all cb))) rfl ?_|refine SW.st (aH hw rfl rfl ((hl.all cb))) rfl ?_|refine SW.st (ao rfl (hl.dA cb rfl)) rfl ?_|refine SW.st (ap hw rfl (hl.dA cb rfl)) rfl ?_|(refine SW.call rfl rfl (c9 _ (by omega) _) ?_;intro v w1 ab hv;subst hv;replace hw:=Ext.trans hw ab;clear ab))
  exact ae.again (k+1) ⟨rfl,by rw [et];rfl,rfl,trivial⟩ (by omega) ⟨by omega,hw,by omega,by omega⟩
 ·repeat' (first|refine Wz ?_|(first|refine CW.jG rfl (fun h => ?_) (fun h => ?_)|refine CW.jH rfl (fun h => ?_) (fun h => ?_)|refine CW.bO rfl ?_|refine CW.bB rfl ?_|refine CW.cond rfl (fun h => ?_) (fun h => ?_))|refine SW.cV rfl rfl rfl (fun h => ?_) (fun h => ?_)|refine SW.gQ rfl rfl rfl (fun h => ?_) (fun h => ?_)|refine SW.want rfl rfl ?_|refine SW.skip rfl rfl rfl rfl ?_|refine SW.nZ rfl rfl rfl ?_|refine SW.split rfl rfl rfl (fun h => ?_) (fun h => ?_))
  refine ae.aO rfl rfl ⟨_,rfl,hw,?_⟩;rw [List.take_of_length_le (by have:=hl.len;omega)]
theorem zv (r:cy) (z:ar) (w:World) (hr:uj w r z) (hf:r.ag.n≤100000000000000000) (ht:r.Types.n≤1000000000000000000) (h1 : -9223372036854775808≤r.aX∧r.aX≤9223372036854775807) (h2 : -9223372036854775808≤r.To∧r.To≤9223372036854775807) :
 bo Tryz.prog 245 [.agg (bp r).toArray] w fun v _=>v = .tuple #[.int .i64 (ns z).1,.int .i64 (ns z).2]:=by
 refine aI Tryz.func245 rfl Tryz.ntmps245 rfl ?_;refine CW.seq (CW.region (SW.box rfl rfl fun b1 w1 hw gV aB => ?_));have CA:=hr.free.len;obtain ⟨q,hq⟩ : ∃ q,ed z=q:=⟨_,rfl⟩
 have c1:∀ w',Ext w w'→bo Tryz.prog 176 [.agg (bp r).toArray] w' fun v _=>v = .int .i64 (if q then 0 else 8):=fun w' h=>by
  have:=j8 r z w' (hr.ext h) (by omega) (by omega) h1 h2
  rwa [hq] at this
 cases q
 ·have e:ns z=(0,8):=by simp [ns,hq]
  rw [e];simp only [Bool.false_eq_true,if_false] at c1;repeat' (first|refine Wz ?_|(first|refine CW.jG rfl (fun h => ?_) (fun h => ?_)|refine CW.jH rfl (fun h => ?_) (fun h => ?_)|refine CW.bO rfl ?_|refine CW.bB rfl ?_|refine CW.cond rfl (fun h => ?_) (fun h => ?_))|refine SW.cV rfl rfl rfl (fun h => ?_) (fun h => ?_)|refine SW.gQ rfl rfl rfl (fun h => ?_) (fun h => ?_)|refine SW.want rfl rfl ?_|refine SW.skip rfl rfl rfl rfl ?_|refine SW.nZ rfl rfl rfl ?_|refine SW.split rfl rfl rfl (fun h => ?_) (fun h => ?_)|refine SW.st (aH hw rfl rfl ((fun _ _=>aB.cell))) rfl ?_|(refine SW.call rfl rfl (c1 _ hw) ?_;intro v w1 ab hv;subst hv;replace hw:=Ext.trans hw ab;replace aB:=aB.ext ab;clear ab))
  exact ae.cx rfl rfl rfl ⟨_,rfl,hw,rfl⟩
 ·simp only [if_true] at c1;have hz:=dH.1 hq;have e:ns z=(dI z.ag,0):=by simp [ns,hq]
  rw [e];repeat' (first|refine Wz ?_|(first|refine CW.jG rfl (fun h => ?_) (fun h => ?_)|refine CW.jH rfl (fun h => ?_) (fun h => ?_)|refine CW.bO rfl ?_|refine CW.bB rfl ?_|refine CW.cond rfl (fun h => ?_) (fun h => ?_))|refine SW.cV rfl rfl rfl (fun h => ?_) (fun h => ?_)|refine SW.gQ rfl rfl rfl (fun h => ?_) (fun h => ?_)|refine SW.want rfl rfl ?_|refine SW.skip rfl rfl rfl rfl ?_|refine SW.nZ rfl rfl rfl ?_|refine SW.split rfl rfl rfl (fun h => ?_) (fun h => ?_)|refine SW.st (aH hw rfl rfl ((fun _ _=>aB.cell))) rfl ?_|refine SW.st (ap hw rfl (aB.cell rfl)) rfl ?_|(refine SW.call rfl rfl (c1 _ hw) ?_;intro v w1 ab hv;subst hv;replace hw:=Ext.trans hw ab;replace aB:=aB.ext ab;clear ab))
  refine CW.loop (fun k:Nat=>[(5,.int .i64 (dI (z.ag.take k))),(14,.slice r.ag.A r.ag.n r.ag.c),(15,.int .i64 (r.ag.n:Int)),(16,.int .i64 (k:Int))]) (fun k w'=>k≤r.ag.n∧Ext w w') (fun k=>r.ag.n-k) 0 ⟨rfl,rfl,rfl,rfl,trivial⟩ ⟨by omega,hw⟩ ?_;clear hw aB;rintro k w' ⟨hk,hw⟩
  have hA:=hr.free.base;by_cases cb:k<r.ag.n
  ·have dk:=hr.free.lt cb;obtain ⟨f1,f2,_⟩:=(hz.c8 k dk).1;have hp:=bE f1 f2;have et:=lQ z.ag k dk;have hs:=jg hz k (by omega);repeat' (first|refine Wz ?_|(first|refine CW.jG rfl (fun h => ?_) (fun h => ?_)|refine CW.jH rfl (fun h => ?_) (fun h => ?_)|refine CW.bO rfl ?_|refine CW.bB rfl ?_|refine CW.cond rfl (fun h => ?_) (fun h => ?_))|refine SW.cV rfl rfl rfl (fun h => ?_) (fun h => ?_)|refine SW.gQ rfl rfl rfl (fun h => ?_) (fun h => ?_)|refine SW.want rfl rfl ?_|refine SW.skip rfl rfl rfl rfl ?_|refine SW.nZ rfl rfl rfl ?_|refine SW.split rfl rfl rfl (fun h => ?_) (fun h => ?_)|refine SW.st (aW rfl rfl ((hr.free.all cb))) rfl ?_|refine SW.st (aH hw rfl rfl ((hr.free.all cb))) rfl ?_)
   refine SW.alloc rfl fun b7 w3 jW lm jY => ?_
   have rr:w.heap.size≤b7:=Nat.le_trans hw.size lm
   replace hw:=Ext.trans hw jW;repeat' (first|refine Wz ?_|(first|refine CW.jG rfl (fun h => ?_) (fun h => ?_)|refine CW.jH rfl (fun h => ?_) (fun h => ?_)|refine CW.bO rfl ?_|refine CW.bB rfl ?_|refine CW.cond rfl (fun h => ?_) (fun h => ?_))|refine SW.cV rfl rfl rfl (fun h => ?_) (fun h => ?_)|refine SW.gQ rfl rfl rfl (fun h => ?_) (fun h => ?_)|refine SW.want rfl rfl ?_|refine SW.skip rfl rfl rfl rfl ?_|refine SW.nZ rfl rfl rfl ?_|refine SW.split rfl rfl rfl (fun h => ?_) (fun h => ?_))
   refine SW.ak jY rfl rfl rfl rfl (fw.one (enc:=aA) _) fun w4 dJ hg => ?_
   replace hw:=hw.own rr hg;repeat' (first|refine Wz ?_|(first|refine CW.jG rfl (fun h => ?_) (fun h => ?_)|refine CW.jH rfl (fun h => ?_) (fun h => ?_)|refine CW.bO rfl ?_|refine CW.bB rfl ?_|refine CW.cond rfl (fun h => ?_) (fun h => ?_))|refine SW.cV rfl rfl rfl (fun h => ?_) (fun h => ?_)|refine SW.gQ rfl rfl rfl (fun h => ?_) (fun h => ?_)|refine SW.want rfl rfl ?_|refine SW.skip rfl rfl rfl rfl ?_|refine SW.nZ rfl rfl rfl ?_|refine SW.split rfl rfl rfl (fun h => ?_) (fun h => ?_)|refine SW.st (ap hw rfl (dJ.cell rfl)) rfl ?_|(refine SW.st (eW (r:=pw (z.ag[k]).Order) rfl rfl (by omega) (by omega) (by simp [pw]) (by omega) (by omega)) rfl ?_))
   exact ae.again (k+1) ⟨by rw [et];rfl,rfl,rfl,rfl,trivial⟩ (by omega) ⟨by omega,hw⟩
  ·repeat' (first|refine Wz ?_|(first|refine CW.jG rfl (fun h => ?_) (fun h => ?_)|refine CW.jH rfl (fun h => ?_) (fun h => ?_)|refine CW.bO rfl ?_|refine CW.bB rfl ?_|refine CW.cond rfl (fun h => ?_) (fun h => ?_))|refine SW.cV rfl rfl rfl (fun h => ?_) (fun h => ?_)|refine SW.gQ rfl rfl rfl (fun h => ?_) (fun h => ?_)|refine SW.want rfl rfl ?_|refine SW.skip rfl rfl rfl rfl ?_|refine SW.nZ rfl rfl rfl ?_|refine SW.split rfl rfl rfl (fun h => ?_) (fun h => ?_))
   refine ae.cx rfl rfl rfl ⟨_,rfl,hw,?_⟩;rw [List.take_of_length_le (by omega)]
open Go.RowKit
theorem eA.two {α β:Type} {R : α → β → Prop} {a b : α} {c d : β} (h1:R a c) (h2:R b d) : eA R [a,b] [c,d]:=eA.snoc (eA.snoc eA.nil h1) h2
open Go.RowKit
end Go.Proofs.YtbidkghlpijecaaGreatDoor
