/- Part 4 of what topEnds_holds leans on. -/
import Derived.Test.YtenhkiaaebnggaaGreatDoorPackTopEnds3
set_option linter.unusedVariables false
set_option linter.unusedSimpArgs false
set_option linter.defProp false
open Go.Proofs.Tryz
namespace Go.Proofs.YtenhkiaaebnggaaGreatDoor
open Go.RowKit
variable {w w':World}
def kL:List Int:=[1,2,4,8,16,32]
def KF (k:Int) : ByteArray:=if k=1 then ⟨#[49]⟩ else if k=2 then ⟨#[50]⟩ else if k=4 then ⟨#[52]⟩ else if k=8 then ⟨#[56]⟩ else if k=16 then ⟨#[49,54]⟩ else ⟨#[51,50]⟩
def eJ (k:Int) : ByteArray:=if k=1 then ⟨#[107,49]⟩ else if k=2 then ⟨#[107,50]⟩ else if k=4 then ⟨#[107,52]⟩ else if k=8 then ⟨#[107,56]⟩ else if k=16 then ⟨#[107,49,54]⟩ else ⟨#[107,51,50]⟩
def vI {k:Int} (h:k∈kL) : k=1∨k=2∨k=4∨k=8∨k=16∨k=32:=by simpa [kL] using h
def KG (k:Int) (hk:k∈kL) (w:World) : bI prog 156 [.int .i64 k] w fun v _=>v = .string (KF k):=by
 refine Wj func156 ntmps156 ?_;have hw:=Ext.refl w;rcases vI hk with rfl|rfl|rfl|rfl|rfl|rfl
 all_goals
  refine Wz ?_;refine SW.st (FH rfl rfl rfl (by decide) (by decide) (of_decide_eq_true (by kernel_rfl)) rfl) rfl ?_;refine Wz ?_;exact ae.bh rfl rfl ⟨_,rfl,hw,congrArg Value.string (by kernel_rfl)⟩
def Ca (k:Int) (hk:k∈kL) (w:World) : bI prog 137 [.int .i64 k,.int .i64 10] w fun v _=>v = .string (KF k):=by
 refine Wj func137 ntmps137 ?_;have hw:=Ext.refl w;have bP : 1<=k∧k<=32:=by rcases vI hk with h|h|h|h|h|h<;>omega
 repeat' (first|refine Wz ?_|(refine Wk (KG k hk _) ?_;intro v w1 ah hv;subst hv;have hw:=hw.trans ah;clear ah))
 exact ae.bh rfl rfl ⟨_,rfl,hw,rfl⟩
def KH (k:Int) (hk:k∈kL) (w:World) : bI prog 88 [.int .i64 k] w fun v _=>v = .string (KF k):=by
 refine Wj func88 ntmps88 ?_;have hw:=Ext.refl w;repeat' (first|refine Wz ?_|(refine Wk (Ca k hk _) ?_;intro v w1 ah hv;subst hv;have hw:=hw.trans ah;clear ah))
 exact ae.bh rfl rfl ⟨_,rfl,hw,rfl⟩
def M9 (k:Int) (hk:k∈kL) (w:World) : bI prog 49 [.int .i64 k] w fun v _=>v = .string (KF k):=by
 refine Wj func49 ntmps49 ?_;have hw:=Ext.refl w;repeat' (first|refine Wz ?_|(refine Wk (KH k hk _) ?_;intro v w1 ah hv;subst hv;have hw:=hw.trans ah;clear ah))
 exact ae.bh rfl rfl ⟨_,rfl,hw,rfl⟩
def xc (k:Int) (hk:k∈kL) (w:World) : bI prog 18 [.int .i64 k] w fun v _=>v = .string (eJ k):=by
 refine Wj func18 ntmps18 ?_;have hw:=Ext.refl w;have e:(⟨#[107]⟩ : ByteArray)++KF k=eJ k:=by rcases vI hk with rfl|rfl|rfl|rfl|rfl|rfl<;>kernel_rfl
 have hs:(⟨#[107]⟩ : ByteArray).size+(KF k).size<=9223372036854775807:=by rcases vI hk with rfl|rfl|rfl|rfl|rfl|rfl<;>decide
 repeat' (first|refine Wz ?_|(refine Wk (M9 k hk _) ?_;intro v w1 ah hv;subst hv;have hw:=hw.trans ah;clear ah)|(refine SW.st ((KE rfl rfl hs).eq (congrArg Value.string e)) rfl ?_))
 exact ae.bh rfl rfl ⟨_,rfl,hw,rfl⟩
def nF (c:aN) : Bool:=kL.any fun k=>dr (eJ k) c
structure iQ (w:World) : Prop where
 sl:Sl w 1 bt (some ⟨0,0,none⟩) 6 kL
def iQ.ext (h:iQ w) (hx:Ext w w') : iQ w':=⟨h.sl.ext hx⟩
def KI (k:Int) (hk:k∈kL) (x:dT) (c:aN) (b1:Nat) (w:World) (h1:aR w b1 103 (fu x)) (hx:Hx w x c) (hn:x.Names.n<=9223372036854775807) :
 bI prog 121 ([.int .i64 k]++[.pointer (some ⟨b1,0,none⟩)]) w fun v _=>v = .bool (dr (eJ k) c):=by
 refine Wj func121 ntmps121 ?_;have hw:=Ext.refl w;repeat' (first|refine Wz ?_|((apply CW.bH mixed;(· kernel_rfl);rotate_left;intro w1 ah;have hw:=hw.trans ah;clear ah;rotate_right))|refine SW.dI rfl rfl (fun w1 ah=>(xc k hk _)) ?_|refine SW.dI rfl rfl (fun w1 ah=>(oG _ _ _ _ _ _ (hx.names.ext (hw.trans ah)) hn)) ?_|exact SW.eU rfl)
 exact ae.bh rfl rfl ⟨_,rfl,hw,rfl⟩
def Ar (x:dT) (c:aN) (w:World) (hx:Hx w x c) (hn:x.Names.n<=9223372036854775807) (hS:iQ w) :
 bI prog 67 [.agg (fu x).toArray] w fun v _=>v = .bool (nF c):=by
 refine Wj func67 ntmps67 ?_;refine Ww fun b1 w1 hw lD aX => ?_;repeat' (first|refine Wz ?_|refine SW.st (FI rfl) rfl ?_|(refine SW.st (iX (vs:=[.pointer (some ⟨b1,0,none⟩)]) rfl) rfl ?_))
 refine Wk (iY _ _ _ kL _ (hS.sl.ext hw) _ [.pointer (some ⟨b1,0,none⟩)] (fun k=>dr (eJ k) c) (fun k => .int .i64 k) (fun k=>rfl) (fun k hk w1 lj=>KI k hk x c b1 w1 (aX.ext lj) (hx.ext (hw.trans lj)) hn) (by omega)) fun v w4 kN hv => ?_
 subst hv;have hw:=hw.trans kN;refine Wz ?_;exact ae.bh rfl rfl ⟨_,rfl,hw,rfl⟩
def jx (n:Int) : ByteArray:=if n<=1 then eJ 1 else if n<=2 then eJ 2 else if n<=4 then eJ 4 else if n<=8 then eJ 8 else if n<=16 then eJ 16 else if n<=32 then eJ 32 else ⟨#[]⟩
variable {held:Bool} {ps:List MemPlace} {cs:List Value} {fuel:Nat} {spare:Nat->Bool} {W:World}
def FJ : prog.globalNamed "paddock/kmem.sizes" = some 0 := by kernel_rfl
def HR:(prog.globals[0]?).map (·.type)=some 74:=by kernel_rfl
set_option maxRecDepth 100000 in
def FK {p:List MemPlace} {enc:TypeId×Value->Unit} {base:Nat} (h:DataW.trod enc prog W base spare held fuel 74 cs=some (Rows.laid_paddock_kmem_sizes,p)) :
 cs=[.int .i64 1,.int .i64 2,.int .i64 4,.int .i64 8,.int .i64 16,.int .i64 32]:=by
 have c6:prog.cellsOf 74=6:=by kernel_rfl
 have c1:prog.cellsOf 3=1:=by kernel_rfl
 obtain ⟨xs,m,rfl,hx,hlen,hn,GX⟩:=DataW.trod_array Tryz.underlying74 h;rw [c6] at hlen;rw [c1] at GX;simp only [Prod.mk.injEq] at hx
 have one:∀ (a:Value) (u:Int) (x:DataW Unit×List MemPlace),DataW.trod enc prog W base spare held m 3 [a]=some x->x.1 = .lit (.int .i64 u)->a = .int .i64 u:=by
  intro a u x hx e;obtain ⟨z0,e0,f0,_⟩:=DataW.trod_int Tryz.underlying3 hx;rw [f0] at e;simp at e e0;rw [e0,e]
 match cs,hlen,xs,hn with
 | [a,b,c,d,e,f],_,[x0,x1,x2,x3,x4,x5],_ =>
   have lj:=hx.1;simp only [Rows.laid_paddock_kmem_sizes,List.map_cons,List.map_nil,DataW.agg.injEq,List.cons.injEq,and_true] at lj;obtain rfl:=one a 1 x0 (GX 0 (by decide)) lj.1.symm;obtain rfl:=one b 2 x1 (GX 1 (by decide)) lj.2.1.symm;obtain rfl:=one c 4 x2 (GX 2 (by decide)) lj.2.2.1.symm;obtain rfl:=one d 8 x3 (GX 3 (by decide)) lj.2.2.2.1.symm;obtain rfl:=one e 16 x4 (GX 4 (by decide)) lj.2.2.2.2.1.symm;obtain rfl:=one f 32 x5 (GX 5 (by decide)) lj.2.2.2.2.2.symm
   rfl
def Na (h : DataW.LaidVars prog W [("paddock/kmem.sizes", Rows.laid_paddock_kmem_sizes)] ps) : iQ W := by
 obtain ⟨g0,t0,CK,f0,p0,q0,E1,VZ,EM,Tp,_⟩:=h;obtain rfl:=Option.some.inj (FJ.symm.trans E1);obtain rfl:=Option.some.inj (HR.symm.trans VZ);have hc:=FK Tp
 have xF:∀ i,W.cell? ⟨0,i,none⟩=CK.toList[i]?:=fun i=>by
  have:=World.var?_cell E1 EM i
  simpa using this
 refine ⟨⟨rfl,fun _=>rfl,fun i hi j u hu => ?_⟩⟩;have hi6:i<6:=hi
 rw [add_add];show W.cell? ((⟨0,0,none⟩ : Addr).add _)=_
 rw [cJ,xF,hc]
 have hj:j=0:=by
  rcases aeL j with h|h
  ·exact h
  ·rw [aff (by simp [bt];omega)] at hu;cases hu
 subst hj;rcases (show i=0∨i=1∨i=2∨i=3∨i=4∨i=5 by omega) with rfl|rfl|rfl|rfl|rfl|rfl
 all_goals simpa [kL,bt] using hu
variable {D1 D2 D3:DataW Unit}
def KJ (h : DataW.LaidVars prog W [("paddock/buddy.others", Rows.laid_paddock_buddy_others)] ps) : m9 W := by
 obtain ⟨g0,t0,CK,f0,p0,q0,E1,VZ,EM,Tp,_⟩:=h;obtain rfl:=Option.some.inj (DT.symm.trans E1);obtain rfl:=Option.some.inj (Fb.symm.trans VZ);have hc:=DU Tp;refine ⟨fun k hk j v hv => ?_⟩
 have xF:∀ i,W.cell? ⟨1,i,none⟩=CK.toList[i]?:=fun i=>by
  have:=World.var?_cell E1 EM i
  simpa using this
 rw [add_add,cJ,xF,hc];rcases (show k=0∨k=1∨k=2 by omega) with rfl|rfl|rfl
 all_goals
  match j,hv with
  | 0,hv=>simpa [BU,BV] using hv
  | 1,hv=>simpa [BU,BV] using hv
def sP (hp : ([("math/bits.deBruijn32tab", D1), ("math/bits.deBruijn64tab", D2), ("internal/strconv.uint64pow10", D3), ("paddock/buddy.others", Rows.laid_paddock_buddy_others), ("paddock/kmem.sizes", Rows.laid_paddock_kmem_sizes)].all fun x => x.2.handleName?.isNone) = true)
 (h : laidMetH prog [("math/bits.deBruijn32tab", D1), ("math/bits.deBruijn64tab", D2), ("internal/strconv.uint64pow10", D3), ("paddock/buddy.others", Rows.laid_paddock_buddy_others), ("paddock/kmem.sizes", Rows.laid_paddock_kmem_sizes)] W) : iQ W ∧ m9 W := by
 rw [MakeChecks.laidMetH_plain _ _ _ hp] at h;obtain ⟨ps,⟨_,_,_,_,_,_,_,_,_,_,⟨_,_,_,_,_,_,_,_,_,_,⟨_,_,_,_,_,_,_,_,_,_,⟨g0,t0,CK,f0,p0,q0,a1,a2,a3,a4,h5,_⟩,_⟩,_⟩,_⟩,_,_⟩:=h;exact ⟨Na h5,KJ ⟨g0,t0,CK,f0,p0,[],a1,a2,a3,a4,rfl,rfl⟩⟩
def vJ (A:Option Addr) (n c:Nat) (l:List ByteArray) (w:World) (hl:Sl w 1 encStr A n l) (hn:n*16<=140737488355328) : bI prog 34 [.slice A n c] w (zI w 9 1 encStr n l):=by
 refine Wj func34 ntmps34 ?_;have hw:=Ext.refl w;refine Wz ?_;refine SW.st (sq rfl rfl) rfl ?_;repeat' (first|refine Wz ?_|(refine CW.cond rfl (fun h => ?_) (fun h => ?_)))
 ·have G9:n=0:=by
   rcases aeL n with h0|h0
   ·exact h0
   ·have:=hl.base h0;simp_all
  subst G9;have:l=[]:=aeN hl.len
  subst this;exact ae.bh rfl rfl ⟨_,rfl,hw,none,0,rfl,Own.fC _ _ _ _ _ _⟩
 ·refine SW.zB rfl fun b w1 ah hb => ?_
  have hw:=hw.trans ah;refine Wz ?_;refine SW.vj (afX n) (afn l) (Own.fC w1 w.heap.size _ _ encStr (some ⟨b,0,none⟩)) (hl.ext hw) hw.size rfl rfl rfl (by omega) (by omega) fun A2 c2 w2 hO hg => ?_
  have hw:=aD hw hg (aew _) (by simp [aG]);refine Wz ?_;exact ae.bh rfl rfl ⟨_,rfl,hw,A2,c2,rfl,hO⟩
variable {α:Type} {s:ag} {lo oV sz:Nat} {e:TypeId} {enc:α -> List Value}
def apart (a b:fY) : Prop := ∀ k,aG a.A a.c=some k->aG b.A b.c≠some k
def qt {a b:fY} {l:List α} (h:Own w lo e sz enc a.A a.n a.c l) (hb:∀ k,aG b.A b.c=some k->w.heap.size<=k) : apart a b:=fun k h1 h2=>by
 have:=h.lt_size k h1
 have:=hb k h2
 omega
structure lV (u v:dT) : Prop where
 names:apart u.Names v.Names
 aB:apart u.ab v.ab
 aV:apart u.ak v.ak
structure yx (words:fY) (cs:List dT) : Prop where
 pair:cs.Pairwise lV
 words:∀ u∈cs,apart words u.ak
def yx.nil (x:fY) : yx x []:=⟨.nil,fun _ h=>by simp at h⟩
def yx.snoc {x:fY} {cs:List dT} {v:dT} (h:yx x cs) (h1:∀ u∈cs,lV u v) (h2:apart x v.ak) : yx x (cs++[v]):=by
 refine ⟨aeT.2 ⟨h.pair,by simp,fun a ha b hb => ?_⟩,fun u hu => ?_⟩
 ·simp at hb;subst hb;exact h1 a ha
 ·rcases aeC.1 hu with hu|hu
  ·exact h.words u hu
  ·simp at hu;subst hu;exact h2
structure Jr (w:World) (lo:Nat) (r:de) (s:ag) (cs:List dT) : Prop where
 words:Own w lo 3 1 bt r.Words.A r.Words.n r.Words.c s.Words
 heap:jP w lo r.Heap s.Heap
 bo:fI w lo r.aa cs s.aa
 sep:yx r.Words cs
def Jr.low {r:de} {cs:List dT} (h:Jr w lo r s cs) (hl:oV<=lo) : Jr w oV r s cs:=⟨h.words.low hl,h.heap.low hl,h.bo.low hl,h.sep⟩
def fI.mem {s:fY} {cs:List dT} {l:List aN} (h:fI w lo s cs l) {u:dT} (hu:u∈cs) : ∃ c,o7 w lo u c:=by
 obtain ⟨i,hi,rfl⟩:=aeu hu;exact ⟨_,h.each.get i hi (by rw [<- h.each.len];exact hi)⟩
def fI.Zr {s:fY} {cs:List dT} {l:List aN} (h:fI w lo s cs l) {b:fY} (hb:∀ k,aG b.A b.c=some k->w.heap.size<=k) : ∀ u∈cs,apart u.Names b:=fun u hu=>by
 obtain ⟨c,hc⟩:=h.mem hu;exact qt hc.names hb
def fI.Zs {s:fY} {cs:List dT} {l:List aN} (h:fI w lo s cs l) {b:fY} (hb:∀ k,aG b.A b.c=some k->w.heap.size<=k) : ∀ u∈cs,apart u.ab b:=fun u hu=>by
 obtain ⟨c,hc⟩:=h.mem hu;exact qt hc.aB hb
def fI.Zt {s:fY} {cs:List dT} {l:List aN} (h:fI w lo s cs l) {b:fY} (hb:∀ k,aG b.A b.c=some k->w.heap.size<=k) : ∀ u∈cs,apart u.ak b:=fun u hu=>by
 obtain ⟨c,hc⟩:=h.mem hu;exact qt hc.aV hb
set_option maxHeartbeats 4000000 in
def HT (r:de) (s:ag) (w:World) (hr:zU w r s) (hs:s.small) :
 bI prog 13 [.agg (aK r).toArray] w fun v w' => ∃ q zr,v = .agg (aK q).toArray∧Jr w' w.heap.size q s zr:=by
 refine Wj func13 ntmps13 ?_;refine Ww fun b1 w1 hw lD aX => ?_;refine SW.alloc rfl fun b2 w2 bq eW aq => ?_
 have vo:=hw.up eW
 have Pk:b2≠b1:=by have:=aX.lt;omega
 (obtain ⟨hw,aX⟩:=cT bq hw aX);obtain ⟨cs,hc⟩:=hr.bo;have TC:=hr.words.len;have s1:=hs.words;have s3:=hs.bo;obtain ⟨c1,c2⟩:=hc.len;refine Wz ?_
 obtain ⟨K,hK⟩ : ∃ K:Env->World->Prop,K=fun L' w' => ∃ X c1 G b3,iM L' [(1,.pointer (some ⟨b1,0,none⟩)),(2,.pointer (some ⟨b2,0,none⟩)),(3,.pointer (some ⟨b3,0,none⟩))]∧Ext w w'∧aR w' b1 44 (aK r)∧aR w' b2 44 (aK .zero) ∧
  aR w' b3 44 (aK ⟨⟨X,r.Words.n,c1⟩,G,.nil⟩)∧Own w' w.heap.size 3 1 bt X r.Words.n c1 s.Words∧jP w' w.heap.size G s.Heap∧w.heap.size<=b3∧b1≠b3∧b2≠b3:=⟨_,rfl⟩
 refine CW.cut K ?_ ?_
 ·focus
   refine CW.any 8 mixed (db (by kernel_rfl)) rfl fun w1 ah aI => ?_
   obtain ⟨hw,aX,aq⟩:=cd ah hw aX aq;clear ah;refine Wa ?_;refine Wu 4 aI rfl (aY rfl rfl ((mH aX))) ?_;refine SA.two 2 7 rfl rfl (by kernel_rfl) rfl rfl ?_ ?_
   focus
    refine Wk (dC _ _ _ _ _ (hr.words.ext hw) (by omega)) fun v w4 ar hv => ?_
    obtain ⟨X,c4,rfl,hX⟩:=hv;have hX:=hX.low hw.size;obtain ⟨hw,aX,aq⟩:=cd ar hw aX aq;try have ao:=ao.ext ar
    refine SW.nil (ae.sa ar ?_);refine SA.two 5 7 rfl rfl (by kernel_rfl) rfl rfl ?_ ?_
    focus
     refine Wk (mG _ _ _ (hr.heap.ext hw) hs.heap) fun v w4 ar hv => ?_
     obtain ⟨G,rfl,hY⟩:=hv;have hY:=hY.low hw.size;obtain ⟨hX,hw,aX,aq⟩:=dJ ar hX hw aX aq;try have ao:=ao.ext ar
     refine SW.nil (ae.sa ar ?_);refine Wa ?_;refine SA.bZ 7 ?_;refine SW.alloc rfl fun b3 w4 ar cg ao => ?_
     have gm:=hw.up cg
     have rX:b1≠b3:=by have:=aX.lt;omega
     have pN:b2≠b3:=by have:=aq.lt;omega
     obtain ⟨hw,aX,aq⟩:=cd ar hw aX aq;try have hX:=hX.ext ar
     try have hY:=hY.ext ar
     refine SW.nil (ae.sa ar ?_)
    rotate_left
    focus
     refine SW.alloc rfl fun b3 w4 ar cg ao => ?_
     have gm:=hw.up cg
     have rX:b1≠b3:=by have:=aX.lt;omega
     have pN:b2≠b3:=by have:=aq.lt;omega
     obtain ⟨hw,aX,aq⟩:=cd ar hw aX aq;try have hX:=hX.ext ar
     try have hY:=hY.ext ar
     refine SW.nil (ae.sa ar ?_);refine SA.bZ 5 ?_;refine Wk (mG _ _ _ (hr.heap.ext hw) hs.heap) fun v w4 ar hv => ?_
     obtain ⟨G,rfl,hY⟩:=hv;have hY:=hY.low hw.size;obtain ⟨hX,hw,aX,aq⟩:=dJ ar hX hw aX aq;try have ao:=ao.ext ar
     refine SW.nil (ae.sa ar ?_);refine Wa ?_
    rotate_left
   rotate_left 2
   focus
    refine SW.alloc rfl fun b3 w4 ar cg ao => ?_
    have gm:=hw.up cg
    have rX:b1≠b3:=by have:=aX.lt;omega
    have pN:b2≠b3:=by have:=aq.lt;omega
    obtain ⟨hw,aX,aq⟩:=cd ar hw aX aq;try have hX:=hX.ext ar
    try have hY:=hY.ext ar
    refine SW.nil (ae.sa ar ?_);refine SA.bZ 2 ?_;refine Wk (dC _ _ _ _ _ (hr.words.ext hw) (by omega)) fun v w4 ar hv => ?_
    obtain ⟨X,c4,rfl,hX⟩:=hv;have hX:=hX.low hw.size;obtain ⟨hw,aX,aq⟩:=cd ar hw aX aq;try have ao:=ao.ext ar
    refine SW.nil (ae.sa ar ?_);refine SA.bZ 5 ?_;refine Wk (mG _ _ _ (hr.heap.ext hw) hs.heap) fun v w4 ar hv => ?_
    obtain ⟨G,rfl,hY⟩:=hv;have hY:=hY.low hw.size;obtain ⟨hX,hw,aX,aq⟩:=dJ ar hX hw aX aq;try have ao:=ao.ext ar
    refine SW.nil (ae.sa ar ?_);refine Wa ?_
   rotate_left
   all_goals
    refine SA.fZ ?_;skip;refine Wg ao (aU ⟨⟨X,r.Words.n,c4⟩,G,.nil⟩) fun w5 cK hg => ?_
    have hG:=ao.gr hg;have hw:=hw.own gm hg;(obtain ⟨hX,hY⟩:=cT hG hX hY);have aX:=aX.grown hg (by simpa using rX);have aq:=aq.grown hg (by simpa using pN);refine Wz ?_;exact ae.cut (K:=K) (by rw [hK];exact ⟨X,c4,G,b3,⟨rfl,rfl,rfl,trivial⟩,hw,aX,aq,cK,hX,hY,gm,rX,pN⟩)
 ·clear aX aq hw;subst hK;rintro L' w' ⟨X,c4,G,b3,jc,hw,aX,aq,ao,hX,hY,gm,rX,pN⟩
  refine ae.sub jc ?_;refine Wz ?_
  refine CW.loop (fun s:Nat×Option Addr×Nat×List dT=>[(2,.pointer (some ⟨b2,0,none⟩)),(3,.pointer (some ⟨b3,0,none⟩)),(14,.slice r.aa.A r.aa.n r.aa.c),(15,.int .i64 (r.aa.n:Int)),(16,.int .i64 (s.1:Int))])
   (fun t w'=>t.1<=r.aa.n∧Ext w w'∧aR w' b2 44 (aK .zero)∧aR w' b3 44 (aK ⟨⟨X,r.Words.n,c4⟩,G,⟨t.2.1,t.1,t.2.2.1⟩⟩)∧Own w' w.heap.size 3 1 bt X r.Words.n c4 s.Words∧jP w' w.heap.size G s.Heap ∧
     fI w' w.heap.size ⟨t.2.1,t.1,t.2.2.1⟩ t.2.2.2 (s.aa.take t.1)∧yx ⟨X,r.Words.n,c4⟩ t.2.2.2) (fun t=>r.aa.n-t.1) (0,none,0,[]) ⟨rfl,rfl,rfl,rfl,rfl,trivial⟩ ⟨by omega,hw,aq,ao,hX,hY,fI.nil _ _,yx.nil _⟩ ?_
  clear aX aq ao hX hY hw jc;rintro ⟨k,A,c,zr⟩ w' ⟨hk,hw,aq,ao,hX,hY,hO,yq⟩
  simp only at hk ao hO yq ⊢;have hA:=hc.row.base;by_cases gC:k<r.aa.n
  ·have kf:=hc.each.get k (by omega) (by omega);have q:=hs.each _ (aet (show k<s.aa.length by omega));have q1:=kf.names.len;have q2:=kf.aB.len;have q3:=kf.aV.len;have q4:=q.names;have q5:=q.aB;have q6:=q.aV;have HU:=hO.row.lt_size;repeat' (first|refine Wz ?_|refine Wo hw ((hc.row.all gC)) ?_)
   refine SW.alloc rfl fun b5 w1 ah gI aL => ?_
   skip;refine Wg aL (Cz _) fun w2 fa hg => ?_
   have ar:=ah.own gI hg;have jR:=hw.up gI
   obtain ⟨hw,aq,ao,hX,hY,hO⟩:=jh ar hw aq ao hX hY hO;have aL:=fa;clear fa ah hg ar;refine Wz ?_;refine CW.any 10 mixed (db (by kernel_rfl)) rfl fun w1 ah aI => ?_
   obtain ⟨hw,aq,ao,aL,hX,hY,hO⟩:=ue ah hw aq ao aL hX hY hO;clear ah;refine Wa ?_;refine SA.bZ 2 ?_;refine Wk (vJ _ _ _ _ _ (kf.names.ext hw) (by omega)) fun v w4 ar hv => ?_
   obtain ⟨N,n4,rfl,hN⟩:=hv;have J1:=hO.Zr (b:=⟨N,cs[k].Names.n,n4⟩) hN.aW;have hN:=hN.low hw.size;(obtain ⟨hw,aq,ao,aL,hX,hY,hO⟩:=ue ar hw aq ao aL hX hY hO);refine SW.nil (ae.sa ar ?_);refine Wa ?_;refine SA.bZ 5 ?_;refine Wk (uh _ _ _ _ _ (kf.aB.ext hw) (by omega)) fun v w4 ar hv => ?_
   obtain ⟨M,m4,rfl,hM⟩:=hv;have HV:=hO.Zs (b:=⟨M,cs[k].ab.n,m4⟩) hM.aW;have hM:=hM.low hw.size;(obtain ⟨hw,aq,ao,aL,hX,hY,hO,hN⟩:=DH ar hw aq ao aL hX hY hO hN);refine SW.nil (ae.sa ar ?_);refine SA.bZ 8 ?_;refine Wk (dC _ _ _ _ _ (kf.aV.ext hw) (by omega)) fun v w4 ar hv => ?_
   obtain ⟨Q,q7,rfl,hQ⟩:=hv;have MT:=hO.Zt (b:=⟨Q,cs[k].ak.n,q7⟩) hQ.aW;have vq:=qt (a:=⟨X,r.Words.n,c4⟩) (b:=⟨Q,cs[k].ak.n,q7⟩) hX hQ.aW;have hQ:=hQ.low hw.size;(obtain ⟨hw,aq,ao,aL,hX,hY,hO,hN,hM⟩:=Mx ar hw aq ao aL hX hY hO hN hM);refine SW.nil (ae.sa ar ?_);refine SA.fZ ?_;refine Wb (i:=0) aL fun w6 fa hg => ?_
   have hG:=aL.gr hg;have hw:=hw.own jR hg;have hO:=hO.eV aL hg HU gI;(obtain ⟨aq,ao,hX,hY,hN,hM,hQ⟩:=ue hG aq ao hX hY hN hM hQ);have aL:=fa;clear fa hg hG;refine Wz ?_;refine Wb (i:=4) aL fun w6 fa hg => ?_
   have hG:=aL.gr hg;have hw:=hw.own jR hg;have hO:=hO.eV aL hg HU gI;(obtain ⟨aq,ao,hX,hY,hN,hM,hQ⟩:=ue hG aq ao hX hY hN hM hQ);have aL:=fa;clear fa hg hG;refine Wz ?_;refine Wb (i:=5) aL fun w6 fa hg => ?_
   have hG:=aL.gr hg;have hw:=hw.own jR hg;have hO:=hO.eV aL hg HU gI;(obtain ⟨aq,ao,hX,hY,hN,hM,hQ⟩:=ue hG aq ao hX hY hN hM hQ);have aL:=fa;clear fa hg hG;refine Wz ?_;refine SW.dR rfl rfl rfl rfl rfl fun b w6 ar hb hB => ?_
   (obtain ⟨hw,aq,ao,hX,hY,hO,hN,hM,hQ⟩:=Mx ar hw aq ao hX hY hO hN hM hQ);refine SW.append hO.row (aR.wv (enc:=fu) (x:=⟨⟨N,_,n4⟩,cs[k].ay,cs[k].bL,cs[k].Order,⟨M,_,m4⟩,⟨Q,_,q7⟩⟩) hB) hw.size rfl rfl rfl (by simp only;omega) (by simp only;omega) fun A2 c2 w5 lO hg => ?_
   have hG:=hO.row.gr hg;have hw:=aD hw hg (aew _) hO.row.aW;(obtain ⟨aq,ao,hX,hY,hN,hM,hQ⟩:=ue hG aq ao hX hY hN hM hQ);have hE:=hO.each.mono fun _ _ h=>h.aJ hG rfl
   refine Wz ?_;refine Wb (i:=6) ao fun w6 ef hg => ?_
   have hG:=ao.gr hg;have hw:=hw.own gm hg;have aq:=aq.grown hg (by simpa using pN);(obtain ⟨hX,hY,hN,hM,hQ,lO⟩:=jh hG hX hY hN hM hQ lO);have hE:=hE.mono fun _ _ h=>h.aJ hG rfl
   refine Wz ?_;refine ae.again (k+1,A2,c2,zr++[⟨⟨N,_,n4⟩,cs[k].ay,cs[k].bL,cs[k].Order,⟨M,_,m4⟩,⟨Q,_,q7⟩⟩]) ⟨rfl,rfl,rfl,rfl,rfl,trivial⟩ (by simp only;omega) ⟨by simp only;omega,hw,aq,ef,hX,hY,⟨lO,?_⟩,yq.snoc (fun u hu=>⟨J1 u hu,HV u hu,MT u hu⟩) vq⟩;rw [aeA (by omega)];exact hE.snoc ⟨kf.size,kf.per,kf.order,hN,hM,hQ⟩
  ·obtain rfl:k=r.aa.n:=by omega
   rw [aeF (by omega)] at hO;refine Wz ?_;refine Wg aq (aU _) fun w5 cK hg => ?_
   have hG:=aq.gr hg;have hw:=hw.own vo hg;(obtain ⟨hX,hY,hO⟩:=cd hG hX hY hO);refine Wz ?_;exact ae.EW rfl rfl cK rfl ⟨_,rfl,hw,⟨_,G,_⟩,zr,rfl,hX,hY,hO,yq⟩
variable {l':List Slab} {i j n':Nat} {A:Option Addr}
def oh {a b:fY} (h:apart a b∨apart b a) : aG b.A b.c=none∨aG b.A b.c≠aG a.A a.c:=by
 cases e:aG b.A b.c with
 | none=>exact .inl rfl
 | some g =>
   right;intro e2;rcases h with h|h
   ·exact h g e2.symm e
   ·exact h g e e2.symm
structure jY (w:World) (lo hi:Nat) (r:jH) (h:Heap) : Prop where
 cpus:r.bJ=h.bJ
 eQ:Own w lo 3 1 bt r.dP.A r.dP.n r.dP.c h.dP
 live:Own w lo 143 3 aO r.Live.A r.Live.n r.Live.c h.Live
 parts:∃ zs ls,lu w lo r.bl zs h.bl∧gw w lo r.au ls h.au∧(∀ g,aG r.dP.A r.dP.c=some g->g<hi)∧(∀ u∈zs,∀ g,aG u.Types.A u.Types.c=some g->g<hi)∧(∀ u∈ls,∀ g,aG u.av.A u.av.c=some g->g<hi)
section
variable {w w':World} {lo hi t g:Nat} {r:jH} {h:Heap}
def jP.vK (a:jP w lo r h) : jY w lo w.heap.size r h:=by
 obtain ⟨zs,hz⟩:=a.cq;obtain ⟨ls,hl⟩:=a.lists;refine ⟨a.cpus,a.eQ,a.live,zs,ls,hz,hl,a.eQ.lt_size,fun u hu g e => ?_,fun u hu g e => ?_⟩
 ·obtain ⟨j,hj,rfl⟩:=aeu hu;exact (hz.each.get j hj (by rw [<- hz.each.len];exact hj)).types.lt_size g e
 ·obtain ⟨j,hj,rfl⟩:=aeu hu;exact (hl.each.get j hj (by rw [<- hl.each.len];exact hj)).bD.lt_size g e
def jY.own (a:jY w lo hi r h) : jP w lo r h:=by
 obtain ⟨zs,ls,hz,hl,_⟩:=a.parts;exact ⟨a.cpus,a.eQ,a.live,⟨zs,hz⟩,⟨ls,hl⟩⟩
def jY.ext (a:jY w lo hi r h) (hx:Ext w w') : jY w' lo hi r h:=by
 obtain ⟨zs,ls,hz,hl,hb⟩:=a.parts;exact ⟨a.cpus,a.eQ.ext hx,a.live.ext hx,zs,ls,hz.ext hx,hl.ext hx,hb⟩
def jY.aJ (a:jY w lo hi r h) (hG:se w w' t) (bG:(Nat.beq t 3 || (Nat.beq t 143 || (Nat.beq t 113 || Nat.beq t 155)))=false) : jY w' lo hi r h:=by
 obtain ⟨zs,ls,hz,hl,hb⟩:=a.parts;simp only [Bool.or_eq_false_iff] at bG;obtain ⟨h1,h2,h3,h4⟩:=bG;exact ⟨a.cpus,a.eQ.aJ hG h1,a.live.aJ hG h2,zs,ls,hz.aJ hG (by simp [h1,h2,h3]),hl.aJ hG (by simp [h1,h4]),hb⟩
def jY.Js (a:jY w lo hi r h) (hg:w.grownBy w' (some g)) (hG:se w w' 3) (hb:g<lo∨hi<=g) : jY w' lo hi r h:=by
 obtain ⟨zs,ls,hz,hl,b1,b2,b3⟩:=a.parts;have key:∀ k,lo<=k->k<hi->(some g:Option Nat)≠some k:=fun k h1 h2 e=>by cases e;omega
 refine ⟨a.cpus,a.eQ.apart hg fun k e=>key k (a.eQ.aW k e) (b1 k e),a.live.aJ hG rfl,zs,ls,⟨hz.row.aJ hG rfl,⟨hz.each.len,fun j h1 h2 => ?_⟩⟩,⟨hl.row.aJ hG rfl,⟨hl.each.len,fun j h1 h2 => ?_⟩⟩,b1,b2,b3⟩
 ·have hj:=hz.each.get j h1 h2;exact ⟨hj.from_,hj.pJ,hj.free.aJ hG rfl,hj.types.apart hg fun k e=>key k (hj.types.aW k e) (b2 _ (aet h1) k e)⟩
 ·have hj:=hl.each.get j h1 h2;exact ⟨hj.cpu,hj.kE,hj.ty,hj.bD.apart hg fun k e=>key k (hj.bD.aW k e) (b3 _ (aet h1) k e)⟩
end
def Own.up {n c:Nat} {l:List α} (h:Own w lo e sz enc A n c l) (hr:∀ k,aG A c=some k->oV<=k) : Own w oV e sz enc A n c l:=⟨h.len,by
 rcases h.row with h0|⟨hc,g,ka,rfl,_,h3⟩
 ·exact .inl h0
 ·exact .inr ⟨hc,g,ka,rfl,hr g (by simp [aG,Nat.pos_iff_ne_zero.1 hc]),h3⟩⟩
structure ru (w:World) (lo:Nat) (r:de) (s:ag) (CK cs:List dT) : Prop where
 words:Own w lo 3 1 bt r.Words.A r.Words.n r.Words.c s.Words
 heap:jP w lo r.Heap s.Heap
 row:Own w lo 103 6 fu r.aa.A r.aa.n r.aa.c CK
 each:fK (o7 w lo) cs s.aa
 pair:cs.Pairwise lV
abbrev SX (w:World) (lo:Nat) (r:de) (s:ag) (cs:List dT) : Prop:=ru w lo r s cs cs
structure SI (w:World) (lo:Nat) (r:de) (s:ag) (cs:List dT) : Prop where
 ints:∃ m1 m2,lo<=m1∧m1<=m2∧(∀ g,aG r.Words.A r.Words.c=some g->g<m1)∧jY w m1 m2 r.Heap s.Heap∧fK (o7 w m2) cs s.aa
def As {cs:List dT} (h:cs.Pairwise lV) {u:dT} (hu:∀ (j:Nat) (hj:j<cs.length),j≠i->lV u cs[j]∧lV cs[j] u) : (cs.set i u).Pairwise lV:=by
 rw [aeB] at h ⊢;intro a b ha hb Qx;rw [ae0] at ha hb;rw [aeP,aeP];split
 ·split
  ·omega
  ·exact (hu b hb (by omega)).1
 ·split
  ·exact (hu a ha (by omega)).2
  ·exact h a b ha hb Qx
def gh {a b:fY} (h:apart a b) : apart b a:=fun k h1 h2=>h k h2 h1
def lV.symm {u v:dT} (h:lV u v) : lV v u:=⟨gh h.names,gh h.aB,gh h.aV⟩
def lW {cs:List dT} (h:cs.Pairwise lV) (hi:i<cs.length) (hj:j<cs.length) (o6:j≠i) : lV cs[i] cs[j]:=by
 have hp:=aeB.1 h;rcases ae5 i j with g|g
 ·exact hp i j hi hj g
 ·exact (hp j i hj hi (by omega)).symm
section
variable {w w':World} {lo t:Nat} {r:de} {s:ag} {CK cs:List dT}
def ru.ext (h:ru w lo r s CK cs) (hx:Ext w w') : ru w' lo r s CK cs:=⟨h.words.ext hx,h.heap.ext hx,h.row.ext hx,h.each.mono fun _ _ h=>h.ext hx,h.pair⟩
def ru.low (h:ru w lo r s CK cs) (hl:oV<=lo) : ru w oV r s CK cs:=⟨h.words.low hl,h.heap.low hl,h.row.low hl,h.each.mono fun _ _ h=>h.low hl,h.pair⟩
def ru.aJ (h:ru w lo r s CK cs) (hG:se w w' t) (bG:(Nat.beq t 103 || (Nat.beq t 9 || (Nat.beq t 107 || (Nat.beq t 3 || (Nat.beq t 143 || (Nat.beq t 113 || Nat.beq t 155))))))=false) : ru w' lo r s CK cs:=by
 simp only [Bool.or_eq_false_iff] at bG;obtain ⟨h1,h2,h3,h4,h5,h6,h7⟩:=bG;exact ⟨h.words.aJ hG h4,h.heap.aJ hG (by simp [h4,h5,h6,h7]),h.row.aJ hG h1,h.each.mono fun _ _ h=>h.aJ hG (by simp [h2,h3,h4]),h.pair⟩
def ru.len (h:SX w lo r s cs) : cs.length=r.aa.n∧s.aa.length=r.aa.n:=⟨h.row.len,by rw [<- h.each.len,h.row.len]⟩
def ru.xd (h:SX w lo r s cs) : jj w lo r s:=⟨h.words,h.heap,⟨cs,h.row,h.each⟩⟩
def SI.ext (h:SI w lo r s cs) (hx:Ext w w') : SI w' lo r s cs:=by
 obtain ⟨m1,m2,h1,h2,h3,h4,h5⟩:=h.ints;exact ⟨m1,m2,h1,h2,h3,h4.ext hx,h5.mono fun _ _ h=>h.ext hx⟩
def SI.low (h:SI w lo r s cs) (hl:oV<=lo) : SI w oV r s cs:=by
 obtain ⟨m1,m2,h1,h2,h3,h4,h5⟩:=h.ints;exact ⟨m1,m2,aev hl h1,h2,h3,h4,h5⟩
def SI.aJ (h:SI w lo r s cs) (hG:se w w' t) (bG:(Nat.beq t 9 || (Nat.beq t 107 || (Nat.beq t 3 || (Nat.beq t 143 || (Nat.beq t 113 || Nat.beq t 155)))))=false) : SI w' lo r s cs:=by
 simp only [Bool.or_eq_false_iff] at bG;obtain ⟨h2,h3,h4,h5,h6,h7⟩:=bG;obtain ⟨m1,m2,g1,g2,g3,g4,g5⟩:=h.ints;exact ⟨m1,m2,g1,g2,g3,g4.aJ hG (by simp [h4,h5,h6,h7]),g5.mono fun _ _ h=>h.aJ hG (by simp [h2,h3,h4])⟩
def ru.aB (h:SX w lo r s cs) (hi:i<cs.length) (mo:i<s.aa.length) (hO:Own w' lo 107 3 bd cs[i].ab.A n' cs[i].ab.c l') (hg:w.grownBy w' (aG cs[i].ab.A cs[i].ab.c)) :
 ru w' lo r ⟨s.Words,s.Heap,s.aa.set i ⟨s.aa[i].Names,s.aa[i].ay,s.aa[i].bL,s.aa[i].Order,l',s.aa[i].ak⟩⟩ cs (cs.set i ⟨cs[i].Names,cs[i].ay,cs[i].bL,cs[i].Order,⟨cs[i].ab.A,n',cs[i].ab.c⟩,cs[i].ak⟩):=by
 have hc:=h.each.get i hi mo;have hG:=hc.aB.gr hg;refine ⟨h.words.aJ hG rfl,h.heap.aJ hG rfl,h.row.aJ hG rfl,?_,?_⟩
 ·exact fK.setAt h.each ⟨hc.size,hc.per,hc.order,hc.names.aJ hG rfl,hO,hc.aV.aJ hG rfl⟩ fun j h1 h2 ji ho=>⟨ho.size,ho.per,ho.order,ho.names.aJ hG rfl,ho.aB.grown hg (oh (.inl (lW h.pair hi h1 ji).aB)),ho.aV.aJ hG rfl⟩
 ·refine As h.pair fun j hj ji => ?_
  have hp:=lW h.pair hi hj ji;exact ⟨⟨hp.names,hp.aB,hp.aV⟩,⟨gh hp.names,gh hp.aB,gh hp.aV⟩⟩
def ru.names {l':List ByteArray} (h:SX w lo r s cs) (hi:i<cs.length) (mo:i<s.aa.length) (hO:Own w' lo 9 1 encStr cs[i].Names.A n' cs[i].Names.c l') (hg:w.grownBy w' (aG cs[i].Names.A cs[i].Names.c)) :
 ru w' lo r ⟨s.Words,s.Heap,s.aa.set i ⟨l',s.aa[i].ay,s.aa[i].bL,s.aa[i].Order,s.aa[i].ab,s.aa[i].ak⟩⟩ cs (cs.set i ⟨⟨cs[i].Names.A,n',cs[i].Names.c⟩,cs[i].ay,cs[i].bL,cs[i].Order,cs[i].ab,cs[i].ak⟩):=by
 have hc:=h.each.get i hi mo;have hG:=hc.names.gr hg;refine ⟨h.words.aJ hG rfl,h.heap.aJ hG rfl,h.row.aJ hG rfl,?_,?_⟩
 ·exact fK.setAt h.each ⟨hc.size,hc.per,hc.order,hO,hc.aB.aJ hG rfl,hc.aV.aJ hG rfl⟩ fun j h1 h2 ji ho=>⟨ho.size,ho.per,ho.order,ho.names.grown hg (oh (.inl (lW h.pair hi h1 ji).names)),ho.aB.aJ hG rfl,ho.aV.aJ hG rfl⟩
 ·refine As h.pair fun j hj ji => ?_
  have hp:=lW h.pair hi hj ji;exact ⟨⟨hp.names,hp.aB,hp.aV⟩,⟨gh hp.names,gh hp.aB,gh hp.aV⟩⟩
def ru.Eh {u:dT} (h:ru w lo r s CK (CK.set i u)) (hO:Own w' lo 103 6 fu r.aa.A r.aa.n r.aa.c (CK.set i u)) (hg:w.grownBy w' (aG r.aa.A r.aa.c)) : SX w' lo r s (CK.set i u):=by
 have hG:=h.row.gr hg;exact ⟨h.words.aJ hG rfl,h.heap.aJ hG rfl,hO,h.each.mono fun _ _ h=>h.aJ hG rfl,h.pair⟩
def ru.aV {l':List Int} (h:SX w lo r s cs) (hI:SI w lo r s cs) (hi:i<cs.length) (mo:i<s.aa.length) (hO:Own w' lo 3 1 bt cs[i].ak.A cs[i].ak.n cs[i].ak.c l') (hg:w.grownBy w' (aG cs[i].ak.A cs[i].ak.c)) :
 SX w' lo r ⟨s.Words,s.Heap,s.aa.set i ⟨s.aa[i].Names,s.aa[i].ay,s.aa[i].bL,s.aa[i].Order,s.aa[i].ab,l'⟩⟩ cs∧SI w' lo r ⟨s.Words,s.Heap,s.aa.set i ⟨s.aa[i].Names,s.aa[i].ay,s.aa[i].bL,s.aa[i].Order,s.aa[i].ab,l'⟩⟩ cs:=by
 obtain ⟨m1,m2,h1,h2,h3,h4,h5⟩:=hI.ints;have hc:=h.each.get i hi mo;have PE:=h5.get i hi mo;have hG:=hc.aV.gr hg;have Mq:=PE.aV.aW;have Jt:cs.set i cs[i]=cs:=afb hi
 have hh:jY w' m1 m2 r.Heap s.Heap:=by
  cases e:aG cs[i].ak.A cs[i].ak.c with
  | none=>rw [e] at hg;exact h4.aJ (⟨none,hg,fun k hk=>by cases hk⟩ : se w w' 44) rfl
  | some g=>rw [e] at hg;exact h4.Js hg hG (.inr (Mq g e))
 have UE:Own w' lo 3 1 bt r.Words.A r.Words.n r.Words.c s.Words:=h.words.apart hg fun g e e2=>by
  have:=h3 g e;have:=Mq g e2;omega
 refine ⟨⟨UE,hh.own.low h1,h.row.aJ hG rfl,?_,h.pair⟩,⟨m1,m2,h1,h2,h3,hh,?_⟩⟩
 ·have:=fK.setAt (x:=cs[i]) (R':=o7 w' lo) h.each (i:=i) (y:=⟨s.aa[i].Names,s.aa[i].ay,s.aa[i].bL,s.aa[i].Order,s.aa[i].ab,l'⟩) ⟨hc.size,hc.per,hc.order,hc.names.aJ hG rfl,hc.aB.aJ hG rfl,hO⟩ fun j h1 h2 ji ho=>⟨ho.size,ho.per,ho.order,ho.names.aJ hG rfl,ho.aB.aJ hG rfl,ho.aV.grown hg (oh (.inl (lW h.pair hi h1 ji).aV))⟩
  rwa [Jt] at this
 ·have PF:Own w' m2 3 1 bt cs[i].ak.A cs[i].ak.n cs[i].ak.c l':=hO.up Mq
  have:=fK.setAt (x:=cs[i]) (R':=o7 w' m2) h5 (i:=i) (y:=⟨s.aa[i].Names,s.aa[i].ay,s.aa[i].bL,s.aa[i].Order,s.aa[i].ab,l'⟩) ⟨PE.size,PE.per,PE.order,PE.names.aJ hG rfl,PE.aB.aJ hG rfl,PF⟩ fun j h1 h2 ji ho=>⟨ho.size,ho.per,ho.order,ho.names.aJ hG rfl,ho.aB.aJ hG rfl,ho.aV.grown hg (oh (.inl (lW h.pair hi h1 ji).aV))⟩
  rwa [Jt] at this
def ru.FL {l':List Int} (h:SX w lo r s cs) (hI:SI w lo r s cs) (hO:Own w' lo 3 1 bt r.Words.A r.Words.n r.Words.c l') (hg:w.grownBy w' (aG r.Words.A r.Words.c)) : SX w' lo r ⟨l',s.Heap,s.aa⟩ cs:=by
 obtain ⟨m1,m2,h1,h2,h3,h4,h5⟩:=hI.ints;have hG:=h.words.gr hg
 have hh:jY w' m1 m2 r.Heap s.Heap:=by
  cases e:aG r.Words.A r.Words.c with
  | none=>rw [e] at hg;exact h4.aJ (⟨none,hg,fun k hk=>by cases hk⟩ : se w w' 44) rfl
  | some g=>rw [e] at hg;exact h4.Js hg hG (.inl (h3 g e))
 refine ⟨hO,hh.own.low h1,h.row.aJ hG rfl,⟨h.each.len,fun j hj nr => ?_⟩,h.pair⟩;have ho:=h.each.get j hj nr
 exact ⟨ho.size,ho.per,ho.order,ho.names.aJ hG rfl,ho.aB.aJ hG rfl,ho.aV.apart hg fun g e e2=>by
  have:=h3 g e2;have:=(h5.get j hj nr).aV.aW g e;omega⟩
end
variable {cp:Int} {row:Option Nat} {u0 u1:eG} {z0 z1:aj}
structure qu (w:World) (lo:Nat) (m li lv:fY) (ls:List dw) (h:Heap) : Prop where
 eQ:Own w lo 3 1 bt m.A m.n m.c h.dP
 live:Own w lo 143 3 aO lv.A lv.n lv.c h.Live
 lists:gw w lo li ls h.au
section
variable {w w':World} {lo t:Nat} {m li lv:fY} {ls:List dw} {h:Heap}
def qu.ext (a:qu w lo m li lv ls h) (hx:Ext w w') : qu w' lo m li lv ls h:=⟨a.eQ.ext hx,a.live.ext hx,a.lists.ext hx⟩
def qu.aJ (a:qu w lo m li lv ls h) (hG:se w w' t) (bG:(Nat.beq t 3 || (Nat.beq t 143 || Nat.beq t 155))=false) : qu w' lo m li lv ls h:=by
 simp only [Bool.or_eq_false_iff] at bG;obtain ⟨h1,h2,h3⟩:=bG;exact ⟨a.eQ.aJ hG h1,a.live.aJ hG h2,a.lists.aJ hG (by simp [h1,h3])⟩
def jP.split {r:jH} (a:jP w lo r h) (hz:h.bl=[z0,z1]) : ∃ g c u0 u1 ls,r.bl=⟨some ⟨g,0,none⟩,2,c⟩∧gM w lo g c u0 u1 (z0,z1)∧qu w lo r.dP r.au r.Live ls h:=by
 obtain ⟨zs,D8⟩:=a.cq;obtain ⟨ls,EL⟩:=a.lists;have l0:=D8.each.len;rw [hz] at l0;obtain ⟨u0,u1,rfl⟩:=z9 (show zs.length=2 from l0);have l1:=D8.row.len;have h0:=D8.each.get 0 (by simp) (by simp [hz]);have h1:=D8.each.get 1 (by simp) (by simp [hz]);simp only [hz] at h0 h1;have hc : 0<r.bl.c:=by have:=D8.row.le;simp at l1;omega
 obtain ⟨g,rest,hA,dt,_⟩:=D8.row.opened hc;refine ⟨g,r.bl.c,u0,u1,ls,?_,⟨?_,h0,h1,dt,hc⟩,⟨a.eQ,a.live,EL⟩⟩
 ·rw [<- hA];have:(2:Nat)=r.bl.n:=l1
  rw [this]
 ·have:=D8.row
  rw [hA,<- l1] at this;exact this
def qu.join (a:qu w lo m li lv ls h) {g c:Nat} {s:aj×aj} (hZ:gM w lo g c u0 u1 s) (hc:cp=h.bJ) : jP w lo ⟨⟨some ⟨g,0,none⟩,2,c⟩,m,cp,.nil,lv⟩ ⟨[s.1,s.2],h.dP,h.bJ,[],h.Live⟩ :=
 ⟨hc,a.eQ,a.live,⟨[u0,u1],⟨hZ.row,fK.snoc (fK.snoc fK.nil hZ.z0) hZ.z1⟩⟩,⟨[],.nil _ _⟩⟩
end
structure G2 (w0 w:World) (g b:Nat) : Prop where
 os:w.os=w0.os
 tape:w.tape=w0.tape
 output:w.output=w0.output
 size:w0.heap.size<=w.heap.size
 block:∀ k,k<w0.heap.size->k≠g->k≠b->w.heap[k]?=w0.heap[k]?
section
variable {w0 w w':World} {g b k t:Nat} {cs:List Value}
def G2.refl (w:World) (g b:Nat) : G2 w w g b:=⟨rfl,rfl,rfl,aew _,fun _ _ _ _=>rfl⟩
def G2.step (h:G2 w0 w g b) (hg:w.grownBy w' row) (hr:∀ k,row=some k->k=g∨k=b∨w0.heap.size<=k) : G2 w0 w' g b :=
 ⟨hg.os.trans h.os,hg.tape.trans h.tape,hg.output.trans h.output,aev h.size hg.size,fun k hk h1 h2=>by
  rw [hg.block k (afp hk h.size) (fun e=>by rcases hr k e.symm with e|e|e<;>omega)];exact h.block k hk h1 h2⟩
def G2.ext (h:G2 w0 w g b) (hx:Ext w w') : G2 w0 w' g b:=h.step (hx.gr none) (fun k e=>by cases e)
def G2.XE (h:G2 w0 w g b) (hg:w.grownBy w' (some g)) : G2 w0 w' g b:=h.step hg (fun k e=>by cases e;exact .inl rfl)
def G2.XF (h:G2 w0 w g b) (hg:w.grownBy w' (some b)) : G2 w0 w' g b:=h.step hg (fun k e=>by cases e;exact .inr (.inl rfl))
def G2.eV (h:G2 w0 w g b) (hB:aR w0 k t cs) (h1:k≠g) (h2:k≠b) : aR w k t cs:=(h.block k hB.lt h1 h2).trans hB
end
noncomputable def lX (h:Heap) (z0 z1:aj) (k:Nat) : aj×aj:=bX (z0,z1) ((a9 h.au).take k)
set_option maxHeartbeats 2000000 in
def KL (h:Heap) (z0 z1:aj) (hd:oD h z0 z1) (hs:h.small) (m:fY) (cp:Int) (li lv:fY) (ls:List dw) (u0 u1:eG) (g c b1 lo:Nat) (w w0:World) (hw:Ext w w0) (dt:w.heap.size<=lo) (tB:lo<=w0.heap.size) (Nb:lo<=b1)
 (aX:aR w0 b1 41 (dD ⟨⟨some ⟨g,0,none⟩,2,c⟩,m,cp,li,lv⟩)) (hZ:gM w0 lo g c u0 u1 (z0,z1)) (hR:qu w0 lo m li lv ls h) :
 iO prog 59 [.pointer (some ⟨b1,0,none⟩)] w0 fun v w'=>Ext w w'∧G2 w0 w' g b1∧aR w' b1 41 (dD ⟨⟨some ⟨g,0,none⟩,2,c⟩,m,cp,.nil,lv⟩)∧qu w' lo m li lv ls h ∧ ∃ u0 u1,gM w' lo g c u0 u1 (bX (z0,z1) (a9 h.au)):=by
 refine dc func59 rfl ntmps59 rfl ?_;have XG:w.heap.size<=g:=aev dt hZ.Jm
 have EG:w.heap.size<=b1:=aev dt Nb
 have hE:=G2.refl w0 g b1;have mx:=hR.lists.rd.len;have s4:=hs.lists;have R2:=hR.lists.row.sl.base;refine Wz ?_
 refine CW.loop (fun t:Nat×eG×eG=>[(0,.pointer (some ⟨b1,0,none⟩)),(9,.slice li.A li.n li.c),(10,.int .i64 (li.n:Int)),(11,.int .i64 (t.1:Int))])
  (fun t w'=>t.1<=li.n∧Ext w w'∧G2 w0 w' g b1∧lo<=w'.heap.size∧aR w' b1 41 (dD ⟨⟨some ⟨g,0,none⟩,2,c⟩,m,cp,li,lv⟩)∧gM w' lo g c t.2.1 t.2.2 (lX h z0 z1 (kG h.au t.1))∧qu w' lo m li lv ls h) (fun t=>li.n-t.1) (0,u0,u1)
  ⟨rfl,rfl,rfl,rfl,trivial⟩ ⟨by omega,hw,hE,tB,aX,by simpa [lX,kG,a9,bX] using hZ,hR⟩ ?_
 clear hw hE aX hZ hR R2 tB;rintro ⟨i,u0,u1⟩ w' ⟨hi,hw,hE,tB,aX,hZ,hR⟩
 simp only at hi hZ ⊢;have hA:=hR.lists.row.sl.base;by_cases cx:i<li.n
 ·have tU:i<h.au.length:=by omega
  have BZ:i<ls.length:=by omega
  have wS:=hR.lists.each.get i BZ tU;have Ee:=wS.bD.sl.len;have Me:=hs.bD _ (aet tU);repeat' (first|refine Wz ?_|refine Wm ((hR.lists.row.sl.all cx)) ?_)
  have nq:=hw.size;refine SW.alloc rfl fun b3 w1 ah cg ao => ?_
  skip;refine Wg ao (iK.one (enc:=cm) _) fun w2 ef hg => ?_
  have ar:=ah.own cg hg;have gm:=hw.up cg
  obtain ⟨hw,aX,hZ,hR,hE⟩:=fH ar hw aX hZ hR hE;have ao:=ef;clear ef ah hg ar;have Nc:=(hR.lists.each.get i BZ tU).bD.sl.base;have UF:lo<=w2.heap.size:=aev tB (aev cg (afK ao.lt))
  refine Wz ?_
  refine CW.loop (fun t:Nat×eG×eG=>[(0,.pointer (some ⟨b1,0,none⟩)),(9,.slice li.A li.n li.c),(10,.int .i64 (li.n:Int)),(11,.int .i64 (i:Int)),(16,.slice ls[i].av.A ls[i].av.n ls[i].av.c),(17,.int .i64 (ls[i].av.n:Int)),(18,.int .i64 (t.1:Int))])
   (fun t w'=>t.1<=ls[i].av.n∧Ext w w'∧G2 w0 w' g b1∧lo<=w'.heap.size∧aR w' b1 41 (dD ⟨⟨some ⟨g,0,none⟩,2,c⟩,m,cp,li,lv⟩)∧gM w' lo g c t.2.1 t.2.2 (lX h z0 z1 (kG h.au i+t.1))∧qu w' lo m li lv ls h) (fun t=>ls[i].av.n-t.1) (0,u0,u1)
   ⟨rfl,rfl,rfl,rfl,rfl,rfl,rfl,trivial⟩ ⟨by omega,hw,hE,UF,aX,hZ,hR⟩ ?_
  clear hw hE aX hZ hR ao tB UF nq hA Nc cg gm wS;rintro ⟨j,u0,u1⟩ w' ⟨hj,hw,hE,tB,aX,hZ,hR⟩
  simp only at hj hZ ⊢;by_cases p7:j<ls[i].av.n
  ·have pZ:j<h.au[i].av.length:=by omega
   have wS:=hR.lists.each.get i BZ tU;have Nc:=wS.bD.sl.base;obtain ⟨hK,Up⟩:=yU tU pZ;have hN:=hd.next hK;have hD:=hd.inv (kG h.au i+j) (by omega);have hT:=nO (z0,z1) (a9 h.au) _ hK;rw [Up] at hN hT;have Tx:lX h z0 z1 (kG h.au i+(j+1))=gJ (lX h z0 z1 (kG h.au i+j)) (ct h.au[i].av[j]):=hT
   repeat' (first|refine Wz ?_|refine Wl (wS.bD.sl.one p7 rfl) ?_)
   refine SW.dK rfl rfl (wZ m cp li lv u0 u1 _ _ (ct h.au[i].av[j]) lo g c b1 _ aX hZ tB hD hN) fun v w5 hv => ?_
   obtain ⟨hg,u2,u3,GY⟩:=hv;have hG:=hZ.gr hg;have hw:=hw.own XG hg;have hE:=hE.XE hg;obtain ⟨aX,hR⟩:=cT hG aX hR;have tB:=aev tB hg.size;refine Wz ?_;refine ae.again (j+1,u2,u3) ⟨rfl,rfl,rfl,rfl,rfl,rfl,rfl,trivial⟩ (by simp only;omega) ⟨by simp only;omega,hw,hE,tB,aX,?_,hR⟩;simp only;rw [Tx];exact GY
  ·have ej:kG h.au i+j=kG h.au (i+1):=by rw [zZ tU];omega
   rw [ej] at hZ;refine Wz ?_;exact ae.again (i+1,u0,u1) ⟨rfl,rfl,rfl,rfl,trivial⟩ (by simp only;omega) ⟨by simp only;omega,hw,hE,tB,aX,hZ,hR⟩
 ·have ei:i=h.au.length:=by omega
  have R5:lX h z0 z1 (kG h.au i)=bX (z0,z1) (a9 h.au):=by
   rw [ei,D4,lX,aeF (aew _)]
  rw [R5] at hZ;refine Wz ?_;refine Wb (i:=3) aX fun w6 tT hg => ?_
  have hG:=aX.gr hg;have hw:=hw.own EG hg;refine Wz ?_;exact ae.qi rfl ⟨_,rfl,hw,hE.XF hg,tT,hR.aJ hG rfl,u0,u1,hZ.aJ hG rfl⟩
noncomputable def ul (z:aj) (a:Int) : Int×Int:=if fT z then (if z.aT<=a∧a<z.To then (z.Types.getD ((a-z.aT) / 8).toNat 0,0) else (0,1)) else (0,8)
noncomputable def sQ (z:aj) : Int×Int:=if fT z then (km z.ai,0) else (0,8)
def HW (r:eG) (z:aj) (w:World) (hr:Hb w r z) (hf:r.ai.n<=100000000000000000) (ht:r.Types.n<=1000000000000000000) (h1 : -9223372036854775808<=r.aT∧r.aT<=9223372036854775807) (h2 : -9223372036854775808<=r.To∧r.To<=9223372036854775807) :
 bI prog 144 [.agg (dq r).toArray] w fun v _=>v = .tuple #[.int .i64 (sQ z).1,.int .i64 (sQ z).2]:=by
 refine Wj func144 ntmps144 ?_;refine Ww fun b1 w1 hw lD aX => ?_;have O8:=hr.free.len;obtain ⟨q,hq⟩ : ∃ q,fT z=q:=⟨_,rfl⟩
 have c1:∀ w',Ext w w'->bI prog 75 [.agg (dq r).toArray] w' fun v _=>v = .int .i64 (if q then 0 else 8):=fun w' h=>by
  have:=lh r z w' (hr.ext h) (by omega) (by omega) h1 h2
  rwa [hq] at this
 cases q
 ·have e:sQ z=(0,8):=by simp [sQ,hq]
  rw [e];simp only [Bool.false_eq_true,if_false] at c1;repeat' (first|refine Wz ?_|(refine Wk (c1 _ hw) ?_;intro v w1 ah hv;subst hv;obtain ⟨hw,aX⟩:=cT ah hw aX;clear ah))
  exact ae.dl rfl rfl rfl ⟨_,rfl,hw,rfl⟩
 ·simp only [if_true] at c1;have hz:=fD.1 hq;have e:sQ z=(km z.ai,0):=by simp [sQ,hq]
  rw [e];repeat' (first|refine Wz ?_|(refine Wk (c1 _ hw) ?_;intro v w1 ah hv;subst hv;obtain ⟨hw,aX⟩:=cT ah hw aX;clear ah))
  refine CW.loop (fun k:Nat=>[(5,.int .i64 (km (z.ai.take k))),(14,.slice r.ai.A r.ai.n r.ai.c),(15,.int .i64 (r.ai.n:Int)),(16,.int .i64 (k:Int))]) (fun k w'=>k<=r.ai.n∧Ext w w') (fun k=>r.ai.n-k) 0 ⟨rfl,rfl,rfl,rfl,trivial⟩ ⟨by omega,hw⟩ ?_;clear hw aX;rintro k w' ⟨hk,hw⟩
  have hA:=hr.free.base;by_cases gC:k<r.ai.n
  ·have iR:=hr.free.lt gC;obtain ⟨f1,f2,_⟩:=(hz.eV k iR).1;have hp:=cM f1 f2;have et:=vn z.ai k iR;have hs:=pI hz k (by omega);repeat' (first|refine Wz ?_|refine Wo hw ((hr.free.all gC)) ?_)
   refine SW.alloc rfl fun b7 w3 nL iT bc => ?_
   have gn:=hw.up iT
   have hw:=hw.trans nL;skip;refine Wg bc (iK.one (enc:=aO) _) fun w4 bp hg => ?_
   have hw:=hw.own gn hg;repeat' (first|refine Wz ?_|(refine SW.st (fO (r:=pw (z.ai[k]).Order) rfl rfl (by omega) (by omega) (by simp [pw]) (by omega) (by omega)) rfl ?_))
   exact ae.again (k+1) ⟨by rw [et];rfl,rfl,rfl,rfl,trivial⟩ (by omega) ⟨by omega,hw⟩
  ·refine Wz ?_;refine ae.dl rfl rfl rfl ⟨_,rfl,hw,?_⟩;rw [aeF (by omega)]
def R6.HX (r:eG) (z:aj) (a:Int) (w:World) (hr:Hb w r z) (hf:r.ai.n<=2305843009213693952) (ht:r.Types.n<=1000000000000000000) (h1 : -9223372036854775808<=r.aT∧r.aT<=9223372036854775807) (h2 : -9223372036854775808<=r.To∧r.To<=9223372036854775807) :
 bI prog 92 [.agg (dq r).toArray,.int .i64 a] w fun v _=>v = .tuple #[.int .i64 (ul z a).1,.int .i64 (ul z a).2]:=by
 refine Wj func92 ntmps92 ?_;refine Ww fun b1 w1 hw lD aX => ?_;have eF:=hr.from_;have eT:=hr.pJ;have T0:=hr.types.len;obtain ⟨q,hq⟩ : ∃ q,fT z=q:=⟨_,rfl⟩
 have c1:∀ w',Ext w w'->bI prog 75 [.agg (dq r).toArray] w' fun v _=>v = .int .i64 (if q then 0 else 8):=fun w' h=>by
  have:=lh r z w' (hr.ext h) hf (by omega) h1 h2
  rwa [hq] at this
 cases q
 ·have e:ul z a=(0,8):=by simp [ul,hq]
  rw [e];simp only [Bool.false_eq_true,if_false] at c1;repeat' (first|refine Wz ?_|(refine Wk (c1 _ hw) ?_;intro v w1 ah hv;subst hv;obtain ⟨hw,aX⟩:=cT ah hw aX;clear ah))
  exact ae.dl rfl rfl rfl ⟨_,rfl,hw,rfl⟩
 ·simp only [if_true] at c1;have hz:=fD.1 hq;obtain ⟨o1,o2,o3,o4,o5⟩:=hz.ok;have hA:=hr.types.base;by_cases cx:z.aT<=a∧a<z.To
  ·obtain ⟨k,hk,iR⟩:=I7 hz cx.1 cx.2;have gC:k<r.Types.n:=by omega
   have e:ul z a=(z.Types[k],0):=by simp [ul,hq,cx,hk,List.getD_eq_getElem?_getD,List.getElem?_eq_getElem iR]
   rw [e];obtain ⟨i1,i2⟩:=id cx;repeat' (first|refine Wz ?_|refine SW.st (cn (k) rfl rfl (by assumption) (by omega) (by omega)) rfl ?_|refine Wn hw (hr.types.one gC rfl) ?_|(refine Wk (c1 _ hw) ?_;intro v w1 ah hv;subst hv;obtain ⟨hw,aX⟩:=cT ah hw aX;clear ah))
   all_goals try omega
   exact ae.dl rfl rfl rfl ⟨_,rfl,hw,rfl⟩
  ·have e:ul z a=(0,1):=by simp only [ul,hq,if_true,if_neg cx]
   rw [e];repeat' (first|refine Wz ?_|refine SW.gp rfl rfl rfl (fun h => ?_) (fun h => ?_)|(refine Wk (c1 _ hw) ?_;intro v w1 ah hv;subst hv;obtain ⟨hw,aX⟩:=cT ah hw aX;clear ah))
   all_goals try omega
   all_goals exact ae.dl rfl rfl rfl ⟨_,rfl,hw,rfl⟩
variable {β:Type}
def k9 (lo:Nat) (o:Int×Heap) (v:Value) (w:World) : Prop := ∃ s:jH,v = .tuple #[.agg (dD s).toArray,.int .i64 o.1]∧jP w lo s o.2
def k9.zero (e:Int) (lo:Nat) (w:World) : k9 lo (e,⟨[],[],0,[],[]⟩) (.tuple #[.agg (dD .zero).toArray,.int .i64 e]) w:=⟨.zero,rfl,jP.zero w lo⟩
def fK.two {R : α -> β -> Prop} {a b : α} {c d : β} (h1:R a c) (h2:R b d) : fK R [a,b] [c,d]:=fK.snoc (fK.snoc fK.nil h1) h2
variable {a:Int} {z:aj}
def Nd (h:bW z) (h1:z.aT<=a) (h2:a<z.To) : ul z a=(Ae z a,0):=by
 simp only [ul,yM h,if_true,if_pos (And.intro h1 h2)];rfl
set_option maxHeartbeats 8000000 in
def vL (r:jH) (h:Heap) (cpu a:Int) (w:World) (hr:Jb w r h) (hs:h.small) (OR:∀ z∈h.bl,fV z) (ha : -9223372036854775808<=a∧a<=9223372036854775807) :
 bI prog 50 [.agg (dD r).toArray,.int .i64 cpu,.int .i64 a] w (k9 w.heap.size (fq h cpu a)):=by
 refine Wj func50 ntmps50 ?_;refine Ww fun b3 w1 hw cg ao => ?_;have gm:=cg;refine SW.alloc rfl fun b6 w2 bq dv ap => ?_
 have cQ:w.heap.size<=b6:=aev hw.size dv
 have pi:b3≠b6:=by have:=ao.lt;omega
 (replace hw:=Ext.trans hw bq;replace ao:=ao.ext bq);have eC:=hr.cpus;obtain ⟨q,hq⟩ : ∃ q,jo h=q:=⟨_,rfl⟩
 have c1:∀ w',Ext w w'->bI prog 56 [.agg (dD r).toArray] w' fun v _=>v = .int .i64 (if q then 0 else 8):=fun w' hx=>by
  have:=rl r h w' (hr.ext hx) hs OR
  rwa [hq] at this
 cases q
 ·simp only [Bool.false_eq_true,if_false] at c1;rw [Jj hq];repeat' (first|refine Wz ?_|(refine Wk (c1 _ hw) ?_;intro v w1 ah hv;subst hv;replace hw:=Ext.trans hw ah;replace ao:=ao.ext ah;replace ap:=ap.ext ah;clear ah))
  refine Wg ap (ed .zero) fun w5 cK hg => ?_
  replace hw:=hw.own cQ hg;refine Wz ?_;exact ae.dj rfl rfl rfl cK rfl ⟨_,rfl,hw,k9.zero 8 _ _⟩
 ·simp only [if_true] at c1;have hm:=bT.1 hq;obtain ⟨z0,z1,f⟩:=gL hm;by_cases hc : 0<=cpu∧cpu<h.bJ
  ·repeat' (first|refine Wz ?_|(refine Wk (c1 _ hw) ?_;intro v w1 ah hv;subst hv;replace hw:=Ext.trans hw ah;replace ao:=ao.ext ah;replace ap:=ap.ext ah;clear ah))
   all_goals try omega
   clear c1;have TA:=hr.live.len;have s2:=hs.live;have e8:=k7 f.live;refine Wk (Kt r h.Live a _ (hr.live.ext hw) e8 (fun b hb=>by obtain ⟨k,hk,rfl⟩:=aeu hb;exact (f.live.each k hk).2.1) (by omega) ha) fun v w4 kN hv => ?_
   (replace hw:=Ext.trans hw kN;replace ao:=ao.ext kN;replace ap:=ap.ext kN);cases hf:bM h.Live a
   ·rw [Jk hq hc hf];obtain ⟨i,rfl⟩:=hv.2 hf;repeat' (first|refine Wz ?_|(refine CW.gG rfl ?_))
    refine Wg ap (ed .zero) fun w5 cK hg => ?_
    replace hw:=hw.own cQ hg;refine Wz ?_;exact ae.dj rfl rfl rfl cK rfl ⟨_,rfl,hw,k9.zero 4 _ _⟩
   ·rw [lS hq hc hf];have hv:=hv.1 hf;subst hv;obtain ⟨hk,QQ⟩:=jJ hf;obtain ⟨k,ek⟩ : ∃ k,bE h.Live a=k:=⟨_,rfl⟩;simp only [ek] at hk QQ ⊢;have Kj:=f.live.each k hk;have Zu:=f.next hk;repeat' (first|refine Wz ?_|(refine CW.gj rfl ?_))
    refine Wk (uG r h _ (hr.ext hw) hs) fun v w4 kN hv => ?_
    obtain ⟨s,rfl,hO⟩:=hv;have hM:=hO.own.eQ.low hw.size;have hV:=hO.own.live.low hw.size;have Cb:=hO.own.cpus;obtain ⟨g,c,u0,u1,ls,eZ,hZ,hL,yq,OQ⟩:=hO.split f.d.cq;have hZ:gM w4 w.heap.size g c u0 u1 (z0,z1):=⟨hZ.row.low hw.size,hZ.z0.low hw.size,hZ.z1.low hw.size,aev hw.size hZ.Jm,hZ.pos⟩
    replace hL:=hL.low hw.size;clear hO;(replace hw:=Ext.trans hw kN;replace ao:=ao.ext kN;replace ap:=ap.ext kN);obtain ⟨sz,m,cp,li,lv⟩:=s;simp only at eZ hM hV hL yq OQ Cb;subst eZ;refine Wg ao (ed ⟨⟨some ⟨g,0,none⟩,2,c⟩,m,cp,li,lv⟩) fun w5 ef hg => ?_
    have hG:=ao.gr hg;replace hw:=hw.own gm hg;replace ap:=ap.grown hg (by simpa using Ne.symm pi);(replace hZ:=hZ.aJ hG rfl;replace hM:=hM.aJ hG rfl;replace hV:=hV.aJ hG rfl;replace hL:=hL.aJ hG rfl);replace ao:=ef;clear ef hg hG;have hvn:=hV.len;have gC:k<lv.n:=by omega
    have hAv:=hV.sl.base;repeat' (first|refine Wz ?_|refine Wm ((hV.sl.all gC)) ?_)
    have UG:=hV.lt_size;refine SW.alloc rfl fun Pj w1 ah sR ir => ?_
    skip;refine Wg ir (iK.one (enc:=aO) _) fun w2 pk hg => ?_
    have ar:=ah.own sR hg;have Nf:w.heap.size<=Pj:=aev hw.size sR
    replace hw:=Ext.trans hw ar;replace ao:=ao.ext ar;replace ap:=ap.ext ar;replace hZ:=hZ.ext ar;replace hM:=hM.ext ar;replace hV:=hV.ext ar;replace hL:=hL.ext ar;replace ir:=pk;clear pk ah hg ar;have QR:aG lv.A lv.c≠some Pj:=fun e=>by have:=UG _ e;omega
    refine Wz ?_;refine SW.dK rfl rfl (nv lv.A lv.n lv.c w.heap.size h.Live _ hV k gC (by omega) hw.size) fun v w6 hv => ?_
    obtain ⟨rfl,Ei,hg⟩:=hv;have hG:=hV.gr hg;replace hw:=aD hw hg (aew _) hV.aW;replace hZ:=hZ.HL OQ hg hG;replace ir:=ir.grown hg (fun e=>QR e.symm);(replace ao:=ao.aJ hG rfl;replace ap:=ap.aJ hG rfl;replace hM:=hM.aJ hG rfl;replace hL:=hL.aJ hG rfl);replace hV:=Ei;clear Ei hg hG;refine Wz ?_;refine Wb (i:=4) ao fun w7 ef hg => ?_
    have hG:=ao.gr hg;replace hw:=hw.own gm hg;replace ap:=ap.grown hg (by simpa using Ne.symm pi);(replace hZ:=hZ.aJ hG rfl;replace hM:=hM.aJ hG rfl;replace hV:=hV.aJ hG rfl;replace hL:=hL.aJ hG rfl;replace ir:=ir.aJ hG rfl);replace ao:aR w7 b3 41 (dD ⟨⟨some ⟨g,0,none⟩,2,c⟩,m,cp,li,⟨lv.A,lv.n-1,lv.c⟩⟩):=ef;clear ef hg hG QR UG;have uB:b6≠g:=fun e=>hZ.row.fr ap rfl (by rw [hZ.own,e])
    have oZ:b3≠g:=fun e=>hZ.row.fr ao rfl (by rw [hZ.own,e])
    by_cases ho : 0<h.Live[k].Order
    ·rw [rn f.d.cq hk ek ho];refine Wz ?_;refine SW.dK rfl rfl (wZ m cp li ⟨lv.A,lv.n-1,lv.c⟩ u0 u1 _ _ h.Live[k] w.heap.size g c b3 _ ao hZ hw.size f.d.start Zu) fun v w8 hv => ?_
     obtain ⟨hg,u2,u3,GY⟩:=hv;have hG:=hZ.gr hg;replace hw:=hw.own hZ.Jm hg;(replace ao:=ao.aJ hG rfl;replace ap:=ap.aJ hG rfl;replace hM:=hM.aJ hG rfl;replace hV:=hV.aJ hG rfl;replace hL:=hL.aJ hG rfl);clear hZ hg hG ir;refine Wz ?_;refine Wg ap (ed ⟨⟨some ⟨g,0,none⟩,2,c⟩,m,cp,li,⟨lv.A,lv.n-1,lv.c⟩⟩) fun w9 cK hg => ?_
     have hG:=ap.gr hg;replace hw:=hw.own cQ hg;replace GY:=GY.aJ hG rfl;(replace hM:=hM.aJ hG rfl;replace hV:=hV.aJ hG rfl;replace hL:=hL.aJ hG rfl);refine Wz ?_;exact ae.dj rfl rfl rfl cK rfl ⟨_,rfl,hw,⟨⟨some ⟨g,0,none⟩,2,c⟩,m,cp,li,⟨lv.A,lv.n-1,lv.c⟩⟩,rfl,⟨Cb,hM,hV,⟨[u2,u3],⟨GY.row,fK.two GY.z0 GY.z1⟩⟩,⟨ls,hL⟩⟩⟩
    ·rw [rp f.d.cq hk ek ho];have PG:h.Live[k].Order=0:=by have:=Kj.1.1;omega
     have GZ:=Zu.at_;rw [QQ] at GZ;have eT0:u0.To=z0.To:=hZ.z0.pJ
     have hmd:=f.d.EK;have W5:=f.d.Ko
     have G6:∃ (zi:Nat) (ui:eG) (zz:aj),∃ k0:zi<2,[u0,u1][zi]'k0=ui∧(if a<u0.To then (0:Int) else 1)=(zi:Int)∧iS w7 w.heap.size ui zz∧bW zz∧(zz.aT<=a∧a<zz.To)∧keyOf z0 z1 cpu a=⟨cpu,(zi:Int),Ae zz a,[]⟩:=by
      by_cases hx:a<z0.To
      ·exact ⟨0,u0,z0,by omega,rfl,by rw [if_pos (by omega)];rfl,hZ.z0,f.d.mr,⟨by have:=f.d.qk;omega,hx⟩,by unfold keyOf;rw [if_pos hx,if_pos hx];rfl⟩
      ·exact ⟨1,u1,z1,by omega,rfl,by rw [if_neg (by omega)];rfl,hZ.z1,f.d.lQ,⟨by omega,by omega⟩,by unfold keyOf;rw [if_neg hx,if_neg hx];rfl⟩
     obtain ⟨zi,ui,zz,k0,R7,tx,EN,R8,⟨Pb,hz2⟩,rq⟩:=G6
     have cz:∀ w',Sl w' 4 dq (some ⟨g,0,none⟩) 2 [u0,u1]->bI prog 91 [.agg (dD ⟨⟨some ⟨g,0,none⟩,2,c⟩,m,cp,li,⟨lv.A,lv.n-1,lv.c⟩⟩).toArray,.int .i64 a] w' fun v _=>v = .int .i64 (zi:Int):=fun w' h=>by
      have:=wY ⟨⟨some ⟨g,0,none⟩,2,c⟩,m,cp,li,⟨lv.A,lv.n-1,lv.c⟩⟩ u0 u1 a w' h
      rwa [tx] at this
     have hAz:=hZ.row.sl.base;obtain ⟨t,ht⟩ : ∃ t,Ae zz a=t:=⟨_,rfl⟩;obtain ⟨q1,q2,q3,q4⟩:=tz EN R8;repeat' (first|refine Wz ?_|(refine Wk (cz _ hZ.row.sl) ?_;intro v w1 ah hv;subst hv;replace hw:=Ext.trans hw ah;replace ao:=ao.ext ah;replace ap:=ap.ext ah;replace ir:=ir.ext ah;replace hZ:=hZ.ext ah;replace hM:=hM.ext ah;replace hV:=hV.ext ah;replace hL:=hL.ext ah;replace EN:=EN.ext ah;clear ah))
     have fz:=hZ.row.sl.all k0;simp only [R7] at fz;repeat' (first|refine Wz ?_|refine Wm fz ?_)
     refine Wk (R6.HX ui zz a _ EN.rd (by omega) (by omega) ⟨by omega,by omega⟩ ⟨by omega,by omega⟩) fun v w8 R9 hv => ?_
     rw [Nd R8 Pb hz2,ht] at hv;simp only at hv;subst hv;(replace hw:=Ext.trans hw R9;replace ao:=ao.ext R9;replace ap:=ap.ext R9;replace hZ:=hZ.ext R9;replace hM:=hM.ext R9;replace hV:=hV.ext R9;replace hL:=hL.ext R9);clear EN ir fz cz;refine Wz ?_;have UH:=hL.row.lt_size;have XH:=ao.lt;have XI:=ap.lt;refine SW.alloc rfl fun Fa w1 ah FM dS => ?_
     skip;refine Wg dS (MO ⟨cpu,zi,t,.nil⟩) fun w2 pn hg => ?_
     have ar:=ah.own FM hg;have UI:w.heap.size<=Fa:=aev hw.size FM
     replace hw:=Ext.trans hw ar;replace ao:=ao.ext ar;replace ap:=ap.ext ar;replace hZ:=hZ.ext ar;replace hM:=hM.ext ar;replace hV:=hV.ext ar;replace hL:=hL.ext ar;replace dS:=pn;clear pn ah hg ar;refine Wz ?_;replace ap:aR w2 b6 41 (dD .zero):=ap;have V0:∀ l∈h.au,l.av.length<=1000:=fun l hl=>by have:=(f.lists l hl).2;omega
     obtain ⟨F,hF⟩ : ∃ F:World->Prop,F=fun v=>aR v b6 41 (dD .zero)∧aR v Fa 155 (cm ⟨cpu,zi,t,.nil⟩)∧gM v w.heap.size g c u0 u1 (z0,z1)∧Own v w.heap.size 3 1 bt m.A m.n m.c h.dP∧Own v w.heap.size 143 3 aO lv.A (lv.n-1) lv.c (h.Live.eraseIdx k):=⟨_,rfl⟩
     have hl6:=ap.lt;have XJ:=dS.lt;have Zv:aG li.A li.c≠some b6:=hL.row.fr ap rfl
     have sO:Pz F w2:=by
      rw [hF];exact ⟨⟨ap,dS,hZ,hM,hV⟩,fun v v' hx hP=>⟨hP.1.ext hx,hP.2.1.ext hx,hP.2.2.1.ext hx,hP.2.2.2.1.ext hx,hP.2.2.2.2.ext hx⟩⟩
     have OT:∀ (v v':World) (row:Option Nat),v.grownBy v' row->(∀ k,row=some k->k=b3∨aG li.A li.c=some k∨w2.heap.size<=k)->F v->F v':=fun v v' row hg yZ hP=>by
      rw [hF] at hP ⊢;refine ⟨hP.1.grown hg (fun e => ?_),hP.2.1.grown hg (fun e => ?_),hP.2.2.1.parts hg ((hZ.row.o9 hL ao rfl rfl).ne yZ) ((hZ.z0.free.o9 hL ao rfl rfl).ne yZ) ((hZ.z0.types.o9 hL ao rfl rfl).ne yZ) ((hZ.z1.free.o9 hL ao rfl rfl).ne yZ) ((hZ.z1.types.o9 hL ao rfl rfl).ne yZ),hP.2.2.2.1.apart hg ((hM.o9 hL ao rfl rfl).ne yZ),hP.2.2.2.2.apart hg ((hV.o9 hL ao rfl rfl).ne yZ)⟩
      ·rcases yZ b6 e.symm with h|h|h
       ·exact pi h.symm
       ·exact Zv h
       ·omega
      ·rcases yZ Fa e.symm with h|h|h
       ·omega
       ·have:=UH _ h;omega
       ·omega
     have TE:∀ (i:Nat) (hi:i<ls.length) (v v':World),v.grownBy v' (aG ls[i].av.A ls[i].av.c)->F v->F v':=fun i hi v v' hg hP=>by
      rw [hF] at hP ⊢;have Ng:=(hL.each.get i hi (by rw [<- hL.each.len];exact hi)).bD;exact ⟨hP.1.grown hg (fun e=>Ng.fr ap rfl e.symm),hP.2.1.grown hg (fun e=>Ng.fr dS rfl e.symm),hP.2.2.1.parts hg (hZ.row.py Ng rfl) (hZ.z0.free.py Ng rfl) (fun k e e2=>yq.types i hi k e2 u0 (by simp) e) (hZ.z1.free.py Ng rfl) (fun k e e2=>yq.types i hi k e2 u1 (by simp) e),hP.2.2.2.1.apart hg (fun k e e2=>yq.eQ i hi k e2 e),hP.2.2.2.2.apart hg (hV.py Ng rfl)⟩
     obtain ⟨x,hx⟩ : ∃ x:aS,x=⟨cpu,zi,t,[]⟩:=⟨_,rfl⟩;have Nh:wV ⟨cpu,zi,t,.nil⟩ x:=by subst hx;exact ⟨rfl,rfl,rfl⟩
     obtain ⟨PD,_⟩:=hL.rd.len;have PH:=f.count;have abo:li.n<=256:=by have:=hL.rd.len.2;omega
     refine SW.dK rfl rfl (FD ⟨some ⟨g,0,none⟩,2,c⟩ m cp li ⟨lv.A,lv.n-1,lv.c⟩ h.au ls x ⟨cpu,zi,t,.nil⟩ a F b3 w _ hw gm ao hL Nh rfl (by rw [hx]) yq.sep f.lT (by omega) V0 sO OT TE) fun v w9 hv => ?_
     obtain ⟨nl,Zw,Mf,xe,ef,V1,_⟩:=hv;rw [hF] at Zw;obtain ⟨bQ,pn,GY,G0,Ei⟩:=Zw;clear hw ao hL ap dS hZ hM hV sO OT TE Zv hl6 XJ XH XI UH;have hw:=nl;have ao:=ef;have hL:=V1;have ap:=bQ;have dS:=pn;have hZ:=GY;have hM:=G0;have hV:=Ei;clear nl ef V1 bQ pn GY G0 Ei;obtain ⟨pg,wS⟩ : ∃ pg,dh h.au x++[a]=pg:=⟨_,rfl⟩;have UJ:keyOf z0 z1 cpu a=x:=by rw [rq,ht,hx]
     rw [UJ,wS];rw [wS] at hL;obtain ⟨xx,QS⟩ : ∃ xx:aS,(⟨x.gl,x.aj,x.Ty,pg⟩ : aS)=xx:=⟨_,rfl⟩;rw [QS] at hL;have Zx:jr x xx:=by rw [<- QS];exact ⟨rfl,rfl,rfl⟩
     obtain ⟨e1,e2⟩:=kR (L:=h.au) Zx;obtain ⟨e3,e4⟩:=Fm (L:=h.au) (x:=xx);obtain ⟨e5,e6⟩:=kR (L:=jk h.au xx) Zx;obtain ⟨p0,Cc⟩ : ∃ p0,br h.au xx=p0:=⟨_,rfl⟩;rw [Cc] at e1 e3;have QT:=z8 (L:=h.au) (x:=xx);rw [Cc] at QT;obtain ⟨Sa,TF⟩:=aeQ.1 QT;obtain ⟨l3,l4⟩:=hL.rd.len;have Mc:p0<Mf.n:=by omega
     have Sb:p0<xe.length:=by omega
     have Zy:Mf.n<=257:=by
      rw [<- l4,jk];split
      ·simp;omega
      ·rw [di _ (nP _ _)];omega
     have cl:∀ w',zR w' Mf xe (jk h.au xx)->bI prog 94 [.agg (dD ⟨⟨some ⟨g,0,none⟩,2,c⟩,m,cp,Mf,⟨lv.A,lv.n-1,lv.c⟩⟩).toArray,.agg (cm ⟨cpu,zi,t,.nil⟩).toArray] w' fun v _=>v = .tuple #[.int .i64 (p0:Int),.bool true]:=fun w' hh=>by
      have:=wW ⟨⟨some ⟨g,0,none⟩,2,c⟩,m,cp,Mf,⟨lv.A,lv.n-1,lv.c⟩⟩ (jk h.au xx) xe x ⟨cpu,zi,t,.nil⟩ w' hh Nh (by simp only;omega)
      rwa [e5,e3,e6,e4] at this
     repeat' (first|refine Wz ?_|(refine Wk (cl _ hL.rd) ?_;intro v w1 ah hv;subst hv;replace hw:=Ext.trans hw ah;replace ao:=ao.ext ah;replace ap:=ap.ext ah;replace hZ:=hZ.ext ah;replace hM:=hM.ext ah;replace hV:=hV.ext ah;replace hL:=hL.ext ah;clear ah))
     clear cl dS;have hAl:=hL.row.sl.base;have Ed:=hL.each.get p0 Sb Sa;rw [TF] at Ed;have Ee:=Ed.bD.sl.len;have WR:xx.av=pg:=by rw [<- QS]
     rw [WR] at Ee;have g3:=hL.row.sl.jF Mc (j:=3) (u := .slice xe[p0].av.A xe[p0].av.n xe[p0].av.c) rfl;by_cases h8 : 8<pg.length
     ·have Pr:dz h.au x=true:=by
       cases e:dz h.au x with
       | true=>rfl
       | false=>rw [og e] at wS;rw [<- wS] at h8;simp at h8
      have BG:p0<h.au.length:=by rw [<- e1];exact (ko Pr).1
      have Pt:dh h.au x=h.au[p0].av:=by
       rw [je Pr (by omega)];simp only [e1]
      rw [Pt] at wS;have hp8:=(f.lists _ (aet BG)).2;have abq:pg.length=h.au[p0].av.length+1:=by rw [<- wS];simp
      have HD:∀ j,j<=4->pg.take j=h.au[p0].av.take j:=fun j hj=>by rw [<- wS,afW (by omega)]
      have ig:∀ (j:Nat) (hj:j<pg.length) (nr:j<h.au[p0].av.length),pg[j]=h.au[p0].av[j]:=fun j hj nr=>by
       simp only [<- wS];exact afC nr
      have XK:kT h z0 z1 x pg (h.Live.eraseIdx k)=⟨[(bX (z0,z1) ((pg.take 4).map ct)).1,(bX (z0,z1) ((pg.take 4).map ct)).2],h.dP,h.bJ,jk h.au (nE x (pg.drop 4)),h.Live.eraseIdx k⟩:=by
       unfold kT;rw [if_pos h8]
      rw [XK];have Pc:=Ed.bD.le;repeat' (first|refine Wz ?_|refine Wl g3 ?_|(refine SW.st (cW (k:=4) rfl rfl (by omega)) rfl ?_))
      refine CW.loop (fun t:Nat×eG×eG=>[(3,.pointer (some ⟨b3,0,none⟩)),(6,.pointer (some ⟨b6,0,none⟩)),(16,.int .i64 (p0:Int)),(107,.slice xe[p0].av.A 4 xe[p0].av.c),(108,.int .i64 4),(109,.int .i64 (t.1:Int))])
       (fun t w'=>t.1<=4∧Ext w w'∧aR w' b3 41 (dD ⟨⟨some ⟨g,0,none⟩,2,c⟩,m,cp,Mf,⟨lv.A,lv.n-1,lv.c⟩⟩)∧aR w' b6 41 (dD .zero)∧gM w' w.heap.size g c t.2.1 t.2.2 (bX (z0,z1) ((pg.take t.1).map ct))∧Own w' w.heap.size 3 1 bt m.A m.n m.c h.dP∧Own w' w.heap.size 143 3 aO lv.A (lv.n-1) lv.c (h.Live.eraseIdx k)∧gw w' w.heap.size Mf xe (jk h.au xx)) (fun t=>4-t.1) (0,u0,u1)
       ⟨rfl,rfl,rfl,rfl,rfl,rfl,trivial⟩ ⟨by omega,hw,ao,ap,by simpa [bX] using hZ,hM,hV,hL⟩ ?_
      clear hw ao ap hZ hM hV hL Ed g3 hAz oZ uB;rintro ⟨j,u0,u1⟩ w' ⟨hj,hw,ao,ap,hZ,hM,hV,hL⟩
      simp only at hj hZ ⊢;have Ed:=hL.each.get p0 Sb Sa;rw [TF] at Ed
      have QU:Own w' w.heap.size 3 1 bt xe[p0].av.A xe[p0].av.n xe[p0].av.c pg:=by
       have:=Ed.bD
       rwa [WR] at this
      have XL:=QU.sl.base;by_cases Zz:j<4
      ·have p7:j<xe[p0].av.n:=by omega
       have V2:j<pg.length:=by omega
       have hD:=f.inv BG j (by omega);have hN:=f.HF BG (show j<h.au[p0].av.length by omega)
       have V3:bX (z0,z1) ((pg.take (j+1)).map ct)=gJ (bX (z0,z1) ((pg.take j).map ct)) (ct pg[j]):=by
        rw [aeA V2,aeV,oC];rfl
       rw [<- HD j hj,<- ig j V2 (by omega)] at hN;rw [<- HD j hj] at hD;have hA4 : 0<4->xe[p0].av.A.isSome=true:=fun _=>XL (by omega)
       repeat' (first|refine Wz ?_|refine Wl (QU.sl.one p7 rfl) ?_)
       refine SW.dK rfl rfl (wZ m cp Mf ⟨lv.A,lv.n-1,lv.c⟩ u0 u1 _ _ (ct pg[j]) w.heap.size g c b3 _ ao hZ hw.size hD hN) fun v w8 hv => ?_
       obtain ⟨hg,u2,u3,GY⟩:=hv;have hG:=hZ.gr hg;replace hw:=hw.own hZ.Jm hg;(replace ao:=ao.aJ hG rfl;replace ap:=ap.aJ hG rfl;replace hM:=hM.aJ hG rfl;replace hV:=hV.aJ hG rfl;replace hL:=hL.aJ hG rfl);refine Wz ?_;exact ae.again (j+1,u2,u3) ⟨rfl,rfl,rfl,rfl,rfl,rfl,trivial⟩ (by simp only;omega) ⟨by simp only;omega,hw,ao,ap,by simp only;rw [V3];exact GY,hM,hV,hL⟩
      ·obtain rfl:j=4:=by omega
       have hAl:=hL.row.sl.base;refine Wz ?_;refine CW.gB 13 13 (fun _=>True) mixed (by kernel_rfl) fun w1 ah aI => ?_
       replace hw:=Ext.trans hw ah;replace ao:=ao.ext ah;replace ap:=ap.ext ah;replace hZ:=hZ.ext ah;replace hM:=hM.ext ah;replace hV:=hV.ext ah;replace hL:=hL.ext ah;replace QU:=QU.ext ah;clear ah;refine Wf ?_;refine Wt 8 [] [] aI rfl (aP rfl (hL.row.sl.jF Mc (j:=3) (u := .slice xe[p0].av.A xe[p0].av.n xe[p0].av.c) rfl)) ?_;refine Wt 9 [] [] aI rfl (aZ (k:=4) rfl rfl (by omega) (by omega)) ?_;refine SF.bZ 10 ?_;refine Wk (dC _ _ _ _ _ (QU.sl.drop 4 xe[p0].av.c (by omega) (by omega)) (by omega)) fun v w4 ar hv => ?_
       obtain ⟨X,c4,rfl,hX⟩:=hv;replace hX:=hX.low hw.size;(replace hw:=Ext.trans hw ar;replace ao:=ao.ext ar;replace ap:=ap.ext ar;replace hZ:=hZ.ext ar;replace hM:=hM.ext ar;replace hV:=hV.ext ar;replace hL:=hL.ext ar);refine SW.nil (ae.sf ar ?_);refine Wf ?_;refine SF.ff ?_;refine SW.gH p0 3 ⟨xe[p0].gl,xe[p0].aj,xe[p0].Ty,⟨X,xe[p0].av.n-4,c4⟩⟩ hL.row rfl rfl rfl Mc (by decide) rfl rfl fun w6 ke uB => ?_
       have yY:=hL.row.gr uB;replace hw:=aD hw uB (aew _) hL.row.aW;have QF:=hL.each.get p0 Sb Sa;rw [TF] at QF;have hE:=fK.setAt (R':=rV w6 w.heap.size) (x:=⟨xe[p0].gl,xe[p0].aj,xe[p0].Ty,⟨X,xe[p0].av.n-4,c4⟩⟩) (y:=nE x (pg.drop 4)) (i:=p0) hL.each ⟨QF.cpu.trans (by rw [<- QS];rfl),QF.kE.trans (by rw [<- QS];rfl),QF.ty.trans (by rw [<- QS];rfl),hX.aJ yY rfl⟩ (fun j h1 h2 _ hh=>hh.aJ yY rfl)
       have PI:(jk h.au xx).set p0 (nE x (pg.drop 4))=jk h.au (nE x (pg.drop 4)):=by
        rw [<- Cc];exact Fo (by rw [<- QS];exact ⟨rfl,rfl,rfl⟩)
       rw [PI] at hE;(replace ao:=ao.aJ yY rfl;replace ap:=ap.aJ yY rfl;replace hZ:=hZ.aJ yY rfl;replace hM:=hM.aJ yY rfl;replace hV:=hV.aJ yY rfl);refine Wz ?_;refine Wg ap (ed ⟨⟨some ⟨g,0,none⟩,2,c⟩,m,cp,Mf,⟨lv.A,lv.n-1,lv.c⟩⟩) fun w9 cK hg => ?_
       have hG:=ap.gr hg;replace hw:=hw.own cQ hg;(replace hZ:=hZ.aJ hG rfl;replace hM:=hM.aJ hG rfl;replace hV:=hV.aJ hG rfl);refine Wz ?_;exact ae.dj rfl rfl rfl cK rfl ⟨_,rfl,hw,⟨⟨some ⟨g,0,none⟩,2,c⟩,m,cp,Mf,⟨lv.A,lv.n-1,lv.c⟩⟩,rfl,⟨Cb,hM,hV,⟨[u0,u1],⟨hZ.row,fK.two hZ.z0 hZ.z1⟩⟩,⟨_,⟨ke.aJ hG rfl,hE.mono fun _ _ hh=>hh.aJ hG rfl⟩⟩⟩⟩
     ·have XK:kT h z0 z1 x pg (h.Live.eraseIdx k)=⟨[z0,z1],h.dP,h.bJ,jk h.au xx,h.Live.eraseIdx k⟩:=by
       unfold kT;rw [if_neg h8,<- QS];rfl
      rw [XK];repeat' (first|refine Wz ?_|refine Wl g3 ?_)
      refine Wg ap (ed ⟨⟨some ⟨g,0,none⟩,2,c⟩,m,cp,Mf,⟨lv.A,lv.n-1,lv.c⟩⟩) fun w9 cK hg => ?_
      have hG:=ap.gr hg;replace hw:=hw.own cQ hg;(replace hZ:=hZ.aJ hG rfl;replace hM:=hM.aJ hG rfl;replace hV:=hV.aJ hG rfl;replace hL:=hL.aJ hG rfl);refine Wz ?_;exact ae.dj rfl rfl rfl cK rfl ⟨_,rfl,hw,⟨⟨some ⟨g,0,none⟩,2,c⟩,m,cp,Mf,⟨lv.A,lv.n-1,lv.c⟩⟩,rfl,⟨Cb,hM,hV,⟨[u0,u1],⟨hZ.row,fK.two hZ.z0 hZ.z1⟩⟩,⟨xe,hL⟩⟩⟩
  ·rw [yW hq hc];repeat' (first|refine Wz ?_|refine SW.gp rfl rfl rfl (fun h => ?_) (fun h => ?_)|(refine Wk (c1 _ hw) ?_;intro v w1 ah hv;subst hv;replace hw:=Ext.trans hw ah;replace ao:=ao.ext ah;replace ap:=ap.ext ah;clear ah))
   all_goals try omega
   all_goals
    refine Wg ap (ed .zero) fun w5 cK hg => ?_
    replace hw:=hw.own cQ hg;refine Wz ?_;exact ae.dj rfl rfl rfl cK rfl ⟨_,rfl,hw,k9.zero 1 _ _⟩
section
variable {w w':World} {lo t:Nat} {R:List dw} {L:List aS} {y:dw} {x:aS}
end
variable {L:List aS}
def yy (z:aj) : Prop:=z.ai.length<=257∧z.Types.length<=32
def CL {s:aj×aj} (h:yy s.1∧yy s.2) (b:Block) : yy (gJ s b).1∧yy (gJ s b).2:=by
 unfold gJ;split
 ·exact ⟨⟨(mE _ _ _).1,(mE _ _ _).2.1⟩,h.2⟩
 ·exact ⟨h.1,(mE _ _ _).1,(mE _ _ _).2.1⟩
def xN:∀ (l:List Block) {s:aj×aj},yy s.1∧yy s.2->yy (bX s l).1∧yy (bX s l).2
 | [],_,h=>h
 | b::l,s,h=>xN l (s:=gJ s b) (CL h b)
def yy.small (h:yy z) : z.ai.length*24<=140737488355328∧z.Types.length*8<=140737488355328:=⟨aev (aeW 24 h.1) (by decide),by have:=h.2;omega⟩
def Ni {l:List α} {b x : α} (h:x∈aM l i b) : x=b∨x∈l:=by
 unfold aM at h;rw [aeC,aeC] at h;rcases h with (h|h)|h
 ·exact .inr (aeX h)
 ·exact .inl (by simpa using h)
 ·exact .inr (afa h)
def Nj {x y:aS} (h:y∈jk L x) : y=x∨y∈L:=by
 unfold jk at h;split at h
 ·rcases aeI h with h|h
  ·exact .inr h
  ·exact .inl h
 ·exact Ni h
def Nk (L:List aS) (x:aS) : (jk L x).length<=L.length+1:=by
 unfold jk;split
 ·simp
 ·rw [di _ (nP L x)];omega
def FN {h:Heap} (f:jK h z0 z1) (x:aS) : (dh h.au x).length<=8:=by
 cases e:dz h.au x with
 | false=>rw [og e];simp
 | true =>
   obtain ⟨h1,_⟩:=ko e;rw [je e h1];exact (f.lists _ (aet h1)).2
def xO {h:Heap} (f:jK h z0 z1) (x:aS) (hx:x.av.length<=9) : (jk h.au x).length*48<=140737488355328 ∧ ∀ l∈jk h.au x,l.av.length*8<=140737488355328:=by
 have:=f.count
 have:=Nk h.au x
 refine ⟨by omega,fun l hl => ?_⟩;rcases Nj hl with rfl|hl
 ·omega
 ·have:=(f.lists l hl).2;omega
def xP (h:Heap) (cpu a:Int) (hs:h.small) : (fq h cpu a).2.small:=by
 have hz:((8:Int),(⟨[],[],0,[],[]⟩ : Heap)).2.small:=by constructor<;>simp
 cases hq:jo h
 ·rw [Jj hq];exact hz
 ·by_cases hc : 0<=cpu∧cpu<h.bJ
  ·cases hf:bM h.Live a
   ·rw [Jk hq hc hf];exact hz
   ·rw [lS hq hc hf];obtain ⟨z0,z1,f⟩:=gL (bT.1 hq);obtain ⟨hk,_⟩:=jJ hf;have TG:=kO f.d.mr;have BQ:=kO f.d.lQ;have TB:yy z0∧yy z1:=⟨⟨by omega,TG.2⟩,⟨by omega,BQ.2⟩⟩
    have um:(h.Live.eraseIdx (bE h.Live a)).length*24<=140737488355328:=by
     have:=hs.live
     have:=afr h.Live (bE h.Live a)
     omega
    by_cases ho : 0<h.Live[bE h.Live a].Order
    ·rw [rn f.d.cq hk rfl ho];have hb:=CL (s:=(z0,z1)) TB h.Live[bE h.Live a];refine ⟨by simp [sI],hs.eQ,hs.lists,um,fun z hz => ?_,hs.bD⟩;simp only [sI,List.mem_cons,List.not_mem_nil,or_false] at hz;rcases hz with rfl|rfl
     ·exact hb.1.small
     ·exact hb.2.small
    ·rw [rp f.d.cq hk rfl ho];have hp:=FN f (keyOf z0 z1 cpu a);unfold kT;split
     ·have hb:=xN (((dh h.au (keyOf z0 z1 cpu a)++[a]).take 4).map ct) (s:=(z0,z1)) TB;obtain ⟨g1,g2⟩:=xO f (nE (keyOf z0 z1 cpu a) ((dh h.au (keyOf z0 z1 cpu a)++[a]).drop 4)) (by simp only [nE,List.length_drop,List.length_append,List.length_singleton];omega);refine ⟨by simp,hs.eQ,g1,um,fun z hz => ?_,g2⟩;simp only [List.mem_cons,List.not_mem_nil,or_false] at hz;rcases hz with rfl|rfl
      ·exact hb.1.small
      ·exact hb.2.small
     ·obtain ⟨g1,g2⟩:=xO f (nE (keyOf z0 z1 cpu a) (dh h.au (keyOf z0 z1 cpu a)++[a])) (by simp only [nE,List.length_append,List.length_singleton];omega);refine ⟨by simp,hs.eQ,g1,um,fun z hz => ?_,g2⟩;simp only [List.mem_cons,List.not_mem_nil,or_false] at hz;rcases hz with rfl|rfl
      ·exact TB.1.small
      ·exact TB.2.small
  ·rw [yW hq hc];exact hz
variable {c:aN} {k:Nat}
def CM (h:fV z) (a o:Int) : fV (ga z a o).2:=by
 have h0:fV ⟨0,0,[],[]⟩:=by unfold fV;simp
 unfold ga;(repeat' split)<;>first|exact h|exact h0
def CN {s:aj×aj} (h:fV s.1∧fV s.2) (b:Block) : fV (gJ s b).1∧fV (gJ s b).2:=by
 unfold gJ;split
 ·exact ⟨CM h.1 _ _,h.2⟩
 ·exact ⟨h.1,CM h.2 _ _⟩
def xQ:∀ (l:List Block) {s:aj×aj},fV s.1∧fV s.2->fV (bX s l).1∧fV (bX s l).2
 | [],_,h=>h
 | b::l,s,h=>xQ l (s:=gJ s b) (CN h b)
def y5 {a b:aj} (h:fV a∧fV b) : ∀ z∈[a,b],fV z:=fun z hz=>by
 simp only [List.mem_cons,List.not_mem_nil,or_false] at hz;rcases hz with rfl|rfl
 ·exact h.1
 ·exact h.2
def KM (h:Heap) (cpu a:Int) (hs:∀ z∈h.bl,fV z) : ∀ z∈(fq h cpu a).2.bl,fV z:=by
 have h0:∀ z∈(⟨[],[],0,[],[]⟩ : Heap).bl,fV z:=fun z hz=>by simp at hz
 unfold fq;split
 ·split
  ·split
   ·simp only [gK];split
    ·rename_i z0 z1 hz;have hb:fV z0∧fV z1:=⟨hs _ (by rw [hz];simp),hs _ (by rw [hz];simp)⟩
     split
     ·exact y5 (CN (s:=(z0,z1)) hb _)
     ·unfold kT;split
      ·exact y5 (xQ _ (s:=(z0,z1)) hb)
      ·exact y5 hb
    ·exact h0
   ·exact h0
  ·exact h0
 ·exact h0
structure Mg (h:Heap) : Prop where
 small:h.small
 u6:∀ z∈h.bl,fV z
def Mg.free {h:Heap} (a:Mg h) (cpu at_:Int) : Mg (fq h cpu at_).2:=⟨xP h cpu at_ a.small,KM h cpu at_ a.u6⟩
def eY (c:aN) (k:Nat) : aN:=⟨c.Names,c.ay,c.bL,c.Order,c.ab.eraseIdx k,c.ak⟩
def jL (c:aN) : aN:=⟨c.Names,c.ay,c.bL,c.Order,c.ab,List.replicate c.ak.length (-1)⟩
noncomputable def dU:Nat->Heap×aN->Heap×aN
 | 0,p=>p
 | k+1,p=>dU k (if h:k<p.2.ab.length then (if p.2.ab[k].ai=p.2.bL then ((fq p.1 0 p.2.ab[k].At).2,eY p.2 k) else p) else p)
def sS {h:Heap} (hk:k<c.ab.length) (e:c.ab[k].ai=c.bL) : dU (k+1) (h,c)=dU k ((fq h 0 c.ab[k].At).2,eY c k):=by
 simp only [dU,hk,dite_true,e,if_true]
def rv {h:Heap} (hk:k<c.ab.length) (e : ¬ c.ab[k].ai=c.bL) : dU (k+1) (h,c)=dU k (h,c):=by
 simp only [dU,hk,dite_true,if_neg e]
def bz (s:ag) (i:Nat) (p:Heap×aN) : ag:=⟨s.Words,p.1,s.aa.set i p.2⟩
structure FO (c:aN) : Prop where
 small:c.small
 at_:∀ x∈c.ab,-9223372036854775808<=x.At∧x.At<=9223372036854775807
def FO.cut (h:FO c) (k:Nat) : FO (eY c k):=by
 have h1:=h.small.aB;have h2:=afr c.ab k;exact ⟨⟨h.small.names,by simp only [eY];omega,h.small.aV⟩,fun x hx=>h.at_ x (ae4 hx)⟩
def FO.idle (h:FO c) : FO (jL c):=⟨⟨h.small.names,h.small.aB,by simp only [jL,List.length_replicate];exact h.small.aV⟩,h.at_⟩
def oH:∀ (k:Nat) {p:Heap×aN},Mg p.1->FO p.2->Mg (dU k p).1∧FO (dU k p).2
 | 0,_,h1,h2=>⟨h1,h2⟩
 | k+1,(h,c),h1,h2=>by
   unfold dU;simp only;split
   ·split
    ·exact oH k (h1.free _ _) (h2.cut _)
    ·exact oH k h1 h2
   ·exact oH k h1 h2
def ag.cS.mm (h:s.cS) : Mg s.Heap:=⟨h.small.heap,h.cq⟩
def ag.cS.PJ (h:s.cS) (hi:i<s.aa.length) : FO s.aa[i]:=⟨h.small.each _ (aet hi),h.aB _ (aet hi)⟩
def sU (h:s.small) (i:Nat) {p:Heap×aN} (h1:Mg p.1) (h2:FO p.2) : (bz s i p).small:=by
 refine ⟨h.words,h1.small,by simp only [bz,List.length_set];exact h.bo,fun c hc => ?_⟩;rcases aeI hc with hc|rfl
 ·exact h.each c hc
 ·exact h2.small
variable {n:ByteArray} {cpu:Int} {CK:List dT} {p:α -> Bool}
def iF {l:List α} (h:l.any p=true) : ∃ (i:Nat) (hi:i<l.length),p l[i]=true∧(∀ (j:Nat) (hj:j<l.length),j<i->p l[j]=false)∧idxOf p l=(i:Int):=by
 have h1:l.findIdx p<l.length:=List.findIdx_lt_length_of_exists (by simpa using h)
 exact ⟨l.findIdx p,h1,List.findIdx_getElem (w:=h1),fun j hj ji=>by simpa using List.not_of_lt_findIdx ji,by unfold idxOf;rw [if_pos h]⟩
noncomputable def gV (s:ag) (n:ByteArray) (cpu:Int) : Int:=if gg s then (if s.aa.any (dr n) then (if 0<=cpu∧cpu<s.Heap.bJ then 0 else 1) else 4) else 8
def Nl (h:gg s=false) : gV s n cpu=8:=by simp [gV,h]
def Nm (h:gg s=true) (h1:s.aa.any (dr n)=false) : gV s n cpu=4:=by simp only [gV,h,h1,if_true,Bool.false_eq_true,if_false]
def Nn (h:gg s=true) (h1:s.aa.any (dr n)=true) (h2 : ¬ (0<=cpu∧cpu<s.Heap.bJ)) : gV s n cpu=1:=by simp only [gV,h,h1,if_true,if_neg h2]
def Au (h:gg s=true) (h1:s.aa.any (dr n)=true) (h2 : 0<=cpu∧cpu<s.Heap.bJ) : gV s n cpu=0:=by simp only [gV,h,h1,if_true,if_pos h2]
def lc (h:gV s n cpu=0) : gg s=true∧s.aa.any (dr n)=true∧0<=cpu∧cpu<s.Heap.bJ:=by
 unfold gV at h;split at h
 ·rename_i h0;split at h
  ·rename_i h1;split at h
   ·rename_i h2;exact ⟨h0,h1,h2⟩
   ·omega
  ·omega
 ·omega
def Sc (lo:Nat) (s:ag) (n:ByteArray) (cpu:Int) (v:Value) (w:World) : Prop :=
 (gV s n cpu≠0∧v = .tuple #[.agg (aK .zero).toArray,.int .i64 0,.int .i64 (gV s n cpu)]) ∨
 (gV s n cpu=0 ∧ ∃ q cs,v = .tuple #[.agg (aK q).toArray,.int .i64 (idxOf (dr n) s.aa),.int .i64 0]∧SX w lo q s cs∧SI w lo q s cs)
def qv {p:Heap×aN}:(bz s i p).aa.length=s.aa.length:=ae0
def mJ (hi:i<s.aa.length) : bz s i (s.Heap,s.aa[i])=s:=by
 cases s
 simp [bz]
section
variable {w w':World} {lo:Nat} {r:de} {s:ag} {cs:List dT} {i:Nat} {p:Heap×aN}
def ru.rows (h:SX w lo r (bz s i p) cs) : cs.length=s.aa.length∧r.aa.n=s.aa.length:=by
 have h1:=h.row.len;have h2:=h.each.len;rw [qv] at h2;omega
def ru.get (h:SX w lo r (bz s i p) cs) (hi:i<cs.length) (mo:i<s.aa.length) : o7 w lo cs[i] p.2:=by
 have:=h.each.get i hi (by rw [qv];exact mo)
 simpa [bz] using this
def ru.Ej (h:SX w lo r (bz s i p) cs) (hi:i<cs.length) (mo:i<s.aa.length) (hO:Own w' lo 107 3 bd cs[i].ab.A n' cs[i].ab.c l') (hg:w.grownBy w' (aG cs[i].ab.A cs[i].ab.c)) :
 ru w' lo r (bz s i (p.1,⟨p.2.Names,p.2.ay,p.2.bL,p.2.Order,l',p.2.ak⟩)) cs (cs.set i ⟨cs[i].Names,cs[i].ay,cs[i].bL,cs[i].Order,⟨cs[i].ab.A,n',cs[i].ab.c⟩,cs[i].ak⟩):=by
 have:=h.aB hi (by rw [qv];exact mo) hO hg
 simpa [bz] using this
def ru.PK {l':List ByteArray} (h:SX w lo r (bz s i p) cs) (hi:i<cs.length) (mo:i<s.aa.length) (hO:Own w' lo 9 1 encStr cs[i].Names.A n' cs[i].Names.c l') (hg:w.grownBy w' (aG cs[i].Names.A cs[i].Names.c)) :
 ru w' lo r (bz s i (p.1,⟨l',p.2.ay,p.2.bL,p.2.Order,p.2.ab,p.2.ak⟩)) cs (cs.set i ⟨⟨cs[i].Names.A,n',cs[i].Names.c⟩,cs[i].ay,cs[i].bL,cs[i].Order,cs[i].ab,cs[i].ak⟩):=by
 have:=h.names hi (by rw [qv];exact mo) hO hg
 simpa [bz] using this
def ru.No {l':List Int} (h:SX w lo r (bz s i p) cs) (hI:SI w lo r (bz s i p) cs) (hi:i<cs.length) (mo:i<s.aa.length) (hO:Own w' lo 3 1 bt cs[i].ak.A cs[i].ak.n cs[i].ak.c l') (hg:w.grownBy w' (aG cs[i].ak.A cs[i].ak.c)) :
 SX w' lo r (bz s i (p.1,⟨p.2.Names,p.2.ay,p.2.bL,p.2.Order,p.2.ab,l'⟩)) cs∧SI w' lo r (bz s i (p.1,⟨p.2.Names,p.2.ay,p.2.bL,p.2.Order,p.2.ab,l'⟩)) cs:=by
 have:=h.aV hI hi (by rw [qv];exact mo) hO hg
 simpa [bz] using this
def ru.Sd {H:jH} {h':Heap} (h:ru w lo r (bz s i p) CK cs) (hH:jP w lo H h') : ru w lo ⟨r.Words,H,r.aa⟩ (bz s i (h',p.2)) CK cs:=⟨h.words,hH,h.row,h.each,h.pair⟩
end
variable {i':Nat}
def oI (s:ag) (a:Int) (i k:Nat) : Bool:=if h:i<s.aa.length then (if h':k<s.aa[i].ab.length then iu s.aa[i].ay s.aa[i].bL (s.aa[i].ab[k]).At a else false) else false
def qw (h:i<s.aa.length) (h':k<s.aa[i].ab.length) : oI s a i k=iu s.aa[i].ay s.aa[i].bL (s.aa[i].ab[k]).At a:=by simp [oI,h,h']
def KN (h:i<s.aa.length) (h' : ¬ k<s.aa[i].ab.length) : oI s a i k=false:=by simp [oI,h,h']
structure lY (s:ag) (a:Int) (i k:Nat) : Prop where
 hi:i<s.aa.length
 hk:k<s.aa[i].ab.length
 obj:oI s a i k=true
 ahead:∀ i' k',(i'<i∨(i'=i∧k'<k))->oI s a i' k'=false
inductive im (s:ag) (a:Int) : Int×Int×Int->Prop where
 | bad (h:gg s=false) : im s a (0,0,8)
 | none (h:gg s=true) (hn:∀ i k,oI s a i k=false) : im s a (0,0,4)
 | free {i k:Nat} {out:List Int} (h:gg s=true) (hF:lY s a i k) (hC:bO s.Words (s.aa[i]'hF.hi).ay (s.aa[i]'hF.hi).bL ((s.aa[i]'hF.hi).ab[k]'hF.hk) out) (hm:a∈out) : im s a (0,0,4)
 | hit {i k:Nat} {out:List Int} (h:gg s=true) (hF:lY s a i k) (hC:bO s.Words (s.aa[i]'hF.hi).ay (s.aa[i]'hF.hi).bL ((s.aa[i]'hF.hi).ab[k]'hF.hk) out) (hm:a∉out) : im s a (i,k,0)
def lY.Se {k':Nat} (h:lY s a i k) (h':lY s a i' k') : i=i'∧k=k':=by
 rcases (show i<i'∨(i=i'∧k<k')∨i'<i∨(i'=i∧k'<k)∨(i=i'∧k=k') by omega) with g|g|g|g|g
 ·have:=h'.ahead i k (.inl g);rw [h.obj] at this;cases this
 ·have:=h'.ahead i k (.inr g);rw [h.obj] at this;cases this
 ·have:=h.ahead i' k' (.inl g);rw [h'.obj] at this;cases this
 ·have:=h.ahead i' k' (.inr g);rw [h'.obj] at this;cases this
 ·exact g
def im.dm {u v:Int×Int×Int} (h:im s a u) (k:im s a v) : u=v:=by
 cases h with
 | bad h=>cases k with
   | bad=>rfl
   | none h'=>rw [h] at h';cases h'
   | free h'=>rw [h] at h';cases h'
   | hit h'=>rw [h] at h';cases h'
 | none h hn=>cases k with
   | bad h'=>rw [h] at h';cases h'
   | none=>rfl
   | free=>rfl
   | hit h' hF=>exact absurd hF.obj (by rw [hn];simp)
 | free h hF hC hm=>cases k with
   | bad h'=>rw [h] at h';cases h'
   | none=>rfl
   | free=>rfl
   | hit h' y6 XM lA =>
     obtain ⟨rfl,rfl⟩:=hF.Se y6;rw [hC.dm XM] at hm;exact absurd hm lA
 | hit h hF hC hm=>cases k with
   | bad h'=>rw [h] at h';cases h'
   | none h' hn=>exact absurd hF.obj (by rw [hn];simp)
   | free h' y6 XM lA =>
     obtain ⟨rfl,rfl⟩:=hF.Se y6;rw [hC.dm XM] at hm;exact absurd lA hm
   | hit h' y6 =>
     obtain ⟨rfl,rfl⟩:=hF.Se y6
     rfl
def CO (u:Int×Int×Int) : Value := .tuple #[.int .i64 u.1,.int .i64 u.2.1,.int .i64 u.2.2]
set_option maxHeartbeats 4000000 in
def vM (r:de) (s:ag) (a:Int) (w:World) (hr:zU w r s) (hf:s.cS) (ha : -9223372036854775808<=a∧a<=9223372036854775807) :
 bI prog 66 [.agg (aK r).toArray,.int .i64 a] w fun v _ => ∃ u,im s a u∧v=CO u:=by
 refine Wj func66 ntmps66 ?_;refine Ww fun b2 w1 hw eW aq => ?_;obtain ⟨q,hq⟩ : ∃ q,gg s=q:=⟨_,rfl⟩
 have c1:∀ w',Ext w w'->bI prog 41 [.agg (aK r).toArray] w' fun v _=>v = .int .i64 (if q then 0 else 8):=fun w' hx=>by
  have:=mI r s w' (hr.ext hx) hf
  rwa [hq] at this
 cases q
 all_goals simp only [if_true,Bool.false_eq_true,if_false] at c1
 ·repeat' (first|refine Wz ?_|(refine Wk (c1 _ hw) ?_;intro v w1 ah hv;subst hv;obtain ⟨hw,aq⟩:=cT ah hw aq;clear ah))
  exact ae.DB rfl rfl rfl rfl ⟨_,rfl,hw,(0,0,8),.bad hq,rfl⟩
 ·have hM:=iE.1 hq;have hs:=hf.small;obtain ⟨cs,hc⟩:=hr.bo;obtain ⟨z1,z2⟩:=hc.len;have wl:=hr.words.len;have m1:=hs.words;have m3:=hs.bo;repeat' (first|refine Wz ?_|(refine Wk (c1 _ hw) ?_;intro v w1 ah hv;subst hv;obtain ⟨hw,aq⟩:=cT ah hw aq;clear ah))
  clear c1
  refine CW.loop (fun k:Nat=>[(1,.int .i64 a),(2,.pointer (some ⟨b2,0,none⟩)),(20,.slice r.aa.A r.aa.n r.aa.c),(21,.int .i64 (r.aa.n:Int)),(22,.int .i64 (k:Int))])
   (fun k w'=>k<=r.aa.n∧Ext w w'∧aR w' b2 44 (aK r) ∧ ∀ i' k',i'<k->oI s a i' k'=false) (fun k=>r.aa.n-k) 0
   ⟨rfl,rfl,rfl,rfl,rfl,trivial⟩ ⟨by omega,hw,aq,fun i' k' h=>by omega⟩ ?_
  clear hw aq;rintro i w' ⟨hk,hw,aq,hI⟩
  have hA:=hc.row.base;by_cases cx:i<r.aa.n
  ·have ol:i<cs.length:=by omega
   have tU:i<s.aa.length:=by omega
   have kf:=hc.each.get i ol tU;have sm:=hs.each _ (aet tU);have QN:=(hM.each i tU).may;obtain ⟨l1,l2,l3⟩:=bV QN.lay;have eS:=kf.size;have eP:=kf.per;have n2:=kf.aB.len;have m2:=sm.aB;have hS : 1<=cs[i].ay∧cs[i].ay<=64:=by omega
   have hP : 1<=cs[i].bL∧cs[i].bL<=64:=by omega
   repeat' (first|refine Wz ?_|refine Wo hw ((hc.row.all cx)) ?_)
   refine SW.alloc rfl fun b9 w1 ah oz bF => ?_
   refine Wz ?_;refine Wg bF (Cz _) fun w2 j5 hg => ?_
   have ar:=ah.own oz hg;have sy:=hw.up oz
   obtain ⟨hw,aq⟩:=cT ar hw aq;have bF:=j5;clear j5 ah hg ar;refine Wz ?_
   refine CW.loop (fun k:Nat=>[(1,.int .i64 a),(2,.pointer (some ⟨b2,0,none⟩)),(8,.int .i64 (i:Int)),(9,.pointer (some ⟨b9,0,none⟩)),(20,.slice r.aa.A r.aa.n r.aa.c),(21,.int .i64 (r.aa.n:Int)),(22,.int .i64 (i:Int)),(28,.slice cs[i].ab.A cs[i].ab.n cs[i].ab.c),(29,.int .i64 (cs[i].ab.n:Int)),(30,.int .i64 (k:Int))])
    (fun k w'=>k<=cs[i].ab.n∧Ext w w'∧aR w' b2 44 (aK r)∧aR w' b9 103 (fu cs[i]) ∧ ∀ k',k'<k->oI s a i k'=false) (fun k=>cs[i].ab.n-k) 0
    ⟨rfl,rfl,rfl,rfl,rfl,rfl,rfl,rfl,rfl,rfl,trivial⟩ ⟨by omega,hw,aq,bF,fun k' h=>by omega⟩ ?_
   clear hw aq bF;rintro k w' ⟨hk,hw,aq,bF,hJ⟩
   have pr:=kf.aB.base;by_cases gC:k<cs[i].ab.n
   ·have iR:k<s.aa[i].ab.length:=by omega
    obtain ⟨x,hx⟩ : ∃ x,s.aa[i].ab[k]=x:=⟨_,rfl⟩;have gS:=kf.aB.all gC;rw [hx] at gS;have ht:=(QN.px (hM.heap)) x (by rw [<- hx];exact aet iR);obtain ⟨PL,hC⟩:=(QN.aB k iR).chain;rw [hx] at hC;have eO:=qw (a:=a) tU iR;rw [hx,<- eS,<- eP] at eO;obtain ⟨o,ho⟩ : ∃ o,iu cs[i].ay cs[i].bL x.At a=o:=⟨_,rfl⟩;rw [ho] at eO
    have cO:∀ w',bI prog 118 [.agg (fu cs[i]).toArray,.int .i64 x.At,.int .i64 a] w' fun v _=>v = .bool o:=fun w'=>by
     have:=Ai cs[i] x.At a w' hS hP ht ha
     rwa [ho] at this
    repeat' (first|refine Wz ?_|refine Wo hw gS ?_)
    refine SW.alloc rfl fun Pj w1 ah sR ir => ?_
    refine Wz ?_;refine Wg ir (iK.one (enc:=bd) _) fun w2 pk hg => ?_
    have ar:=ah.own sR hg;have Nf:=hw.up sR
    obtain ⟨hw,aq,bF⟩:=cd ar hw aq bF;have ir:=pk;clear pk ah hg ar;cases o
    ·repeat' (first|refine Wz ?_|(refine CW.gG rfl ?_)|(refine Wk (cO _) ?_;intro v w1 ah hv;subst hv;obtain ⟨hw,aq,bF⟩:=cd ah hw aq bF;clear ah))
     exact ae.again (k+1) ⟨rfl,rfl,rfl,rfl,rfl,rfl,rfl,rfl,rfl,rfl,trivial⟩ (by omega) ⟨by omega,hw,aq,bF,fun k' h=>by
      by_cases e:k'=k
      ·subst e;exact eO
      ·exact hJ k' (by omega)⟩
    ·have TH:lY s a i k:=⟨tU,iR,eO,fun i' k' h=>by
      rcases h with h|⟨rfl,h⟩
      ·exact hI i' k' h
      ·exact hJ k' h⟩
     repeat' (first|refine Wz ?_|(refine CW.gj rfl ?_)|(refine Wk (cO _) ?_;intro v w1 ah hv;subst hv;obtain ⟨hw,aq,bF,ir⟩:=dJ ah hw aq bF ir;clear ah))
     refine Wk (CD r cs[i] x s.Words _ (hr.words.ext hw) (by omega) hS hP ht) fun v w5 oX Fv => ?_
     rw [eS,eP] at Fv;rcases Fv with ⟨out,A5,c5,hC5,rfl,PF,hl5⟩|⟨ov,rfl⟩
     ·have hw:=hw.trans oX;obtain rfl:=hC.dm hC5;have cN:∀ w',Ext w5 w'->bI prog 120 [.slice A5 PL.length c5,.int .i64 a] w' fun v _=>v = .bool (decide (a∈PL)):=fun w' hx=>iy _ _ _ _ _ _ (PF.sl.ext hx) (by omega)
      have h55:=Ext.refl w5;refine Wz ?_;refine Wk (cN _ h55) fun v w6 FP hv => ?_
      subst hv;have hw:=hw.trans FP;by_cases hm:a∈PL
      ·rw [decide_eq_true hm];refine Wz ?_;exact ae.DB rfl rfl rfl rfl ⟨_,rfl,hw,(0,0,4),.free hq TH (by rw [hx];exact hC) hm,rfl⟩
      ·rw [decide_eq_false hm];refine Wz ?_;exact ae.DB rfl rfl rfl rfl ⟨_,rfl,hw,(i,k,0),.hit hq TH (by rw [hx];exact hC) hm,rfl⟩
     ·exact absurd hC (ov PL)
   ·refine Wz ?_
    exact ae.again (i+1) ⟨rfl,rfl,rfl,rfl,rfl,trivial⟩ (by omega) ⟨by omega,hw,aq,fun i' k' h=>by
     by_cases e:i'=i
     ·subst e;by_cases bP:k'<s.aa[i'].ab.length
      ·exact hJ k' (by omega)
      ·exact KN tU bP
     ·exact hI i' k' (by omega)⟩
  ·refine Wz ?_
   exact ae.DB rfl rfl rfl rfl ⟨_,rfl,hw,(0,0,4),.none hq (fun i' k'=>by
    by_cases h:i'<s.aa.length
    ·exact hI i' k' (by omega)
    ·simp [oI,h]),rfl⟩
variable {most o:Int} {u:ag×Int} {acc:List Int}
def gb.QV {l:List Int} {x:Int} {r:Option (List Int)} (h:gb l most x acc r) : (acc.length:Int)<=most -> ∀ out,r=some out->(out.length:Int)<=most:=by
 induction h with
 | done out=>intro ha o e;cases e;exact ha
 | bad=>intro _ _ e;cases e
 | @step k out r h1 hk h3 h ih =>
   intro ha o e;exact ih (by rw [aeD];simp;omega) o e
def kr {x n:Int} (h:dp x=(o,n,0)) : (o=0∧n*x<=16)∨(o=1∧n*x<=32)∨(o=2∧n*x<=64):=by
 unfold dp at h;split at h
 ·rename_i hx;have k1:=agI 16 (show x≠0 by omega);have k2:=agI 32 (show x≠0 by omega);have k3:=agI 64 (show x≠0 by omega);split at h
  ·simp only [Prod.mk.injEq] at h;obtain ⟨rfl,rfl,_⟩:=h;exact .inl ⟨rfl,k1⟩
  ·split at h
   ·simp only [Prod.mk.injEq] at h;obtain ⟨rfl,rfl,_⟩:=h;exact .inr (.inl ⟨rfl,k2⟩)
   ·simp only [Prod.mk.injEq] at h;obtain ⟨rfl,rfl,_⟩:=h;exact .inr (.inr ⟨rfl,k3⟩)
 ·simp only [Prod.mk.injEq] at h;omega
def Sf (hM:aA s) (hF:lY s a i k) : 0<=a∧a<4096:=by
 have hc:=(hM.each i hF.hi).may;have hs:=hc.aB k hF.hk;have hl:=kr hc.lay;have ho:=hF.obj;rw [qw hF.hi hF.hk] at ho;unfold iu at ho;simp only [Bool.and_eq_true,decide_eq_true_eq] at ho;have um:=hs.live;cases hf:bM s.Heap.Live ((s.aa[i]'hF.hi).ab[k]'hF.hk).At with
 | false =>
   rw [Ea hf] at um;omega
 | true =>
   obtain ⟨hk,e⟩:=jJ hf;rw [Ag hf hk] at um;obtain ⟨_,h2,h3,_⟩:=hM.heap.live.each _ hk;rw [um] at h3;rw [e] at h2 h3;obtain ⟨p,hp⟩ : ∃ p,(s.aa[i]'hF.hi).bL*(s.aa[i]'hF.hi).ay=p:=⟨_,rfl⟩;rw [hp] at hl ho;rcases hl with ⟨h,_⟩|⟨h,_⟩|⟨h,_⟩<;>(rw [h] at h3;simp [pw] at h3;omega)
def oJ (c:aN) (x:Slab) : Bool:=decide (x.ai=c.bL) && !decide (x.At∈c.ak)
def iG (c:aN) (k:Nat) (x:Slab) (a:Int) : aN:=⟨c.Names,c.ay,c.bL,c.Order,c.ab.set k ⟨x.At,x.ai+1,a⟩,c.ak⟩
def FO.put (h:FO c) (hk:k<c.ab.length) (a:Int) : FO (iG c k c.ab[k] a):=by
 refine ⟨⟨h.small.names,by simp only [iG,List.length_set];exact h.small.aB,h.small.aV⟩,fun y hy => ?_⟩;rcases aeI hy with hy|rfl
 ·exact h.at_ y hy
 ·exact h.at_ c.ab[k] (aet hk)
def Np (s:ag) (x:Slab) (a:Int) : ag:=⟨s.Words.set a.toNat x.cj,s.Heap,s.aa⟩
noncomputable def vN (s:ag) (c:aN) (k:Nat) (x:Slab) (cpu a:Int) : Heap×aN :=
 if oJ (iG c k x a) ⟨x.At,x.ai+1,a⟩ && decide (1<(iG c k x a).ab.countP (oJ (iG c k x a))) then ((fq s.Heap cpu x.At).2,eY (iG c k x a) k) else (s.Heap,iG c k x a)
inductive pP (s:ag) (n:ByteArray) (cpu a:Int) : ag×Int->Prop where
 | ask (h:gV s n cpu≠0) : pP s n cpu a (.zero,gV s n cpu)
 | none {u:Int×Int×Int} (h:gV s n cpu=0) (hF:im s a u) (bG : ¬ (u.2.2=0∧u.1=idxOf (dr n) s.aa)) : pP s n cpu a (.zero,4)
 | put {i k:Nat} (h:gV s n cpu=0) (hF:im s a (i,k,0)) (e:idxOf (dr n) s.aa=i) (hi:i<s.aa.length) (hk:k<s.aa[i].ab.length) : pP s n cpu a (bz (Np s s.aa[i].ab[k] a) i (vN s s.aa[i] k s.aa[i].ab[k] cpu a),0)
def pP.dm {v:ag×Int} (x:pP s n cpu a u) (y:pP s n cpu a v) : u=v:=by
 cases x with
 | ask h=>cases y with
   | ask=>rfl
   | none h'=>exact absurd h' h
   | put h'=>exact absurd h' h
 | none h hF bG=>cases y with
   | ask h'=>exact absurd h h'
   | none=>rfl
   | put h' y6 e'=>exact absurd (by rw [hF.dm y6];exact ⟨rfl,e'.symm⟩) bG
 | put h hF e hi hk=>cases y with
   | ask h'=>exact absurd h h'
   | none h' y6 Ms=>exact absurd (by rw [y6.dm hF];exact ⟨rfl,e.symm⟩) Ms
   | put h' y6 e' =>
     have:=hF.dm y6
     simp only [Prod.mk.injEq] at this;obtain ⟨h1,h2,_⟩:=this;have h1:=Int.ofNat.inj h1;have h2:=Int.ofNat.inj h2;subst h1;subst h2
     rfl
def Mg.vN (h:Mg s.Heap) (hc:FO c) (hk:k<c.ab.length) (cpu a:Int) : Mg (vN s c k c.ab[k] cpu a).1∧FO (vN s c k c.ab[k] cpu a).2:=by
 unfold Go.Proofs.YtenhkiaaebnggaaGreatDoor.vN;split
 ·exact ⟨h.free _ _,(hc.put hk a).cut _⟩
 ·exact ⟨h,hc.put hk a⟩
def pP.small (x:pP s n cpu a u) (hf:s.cS) : u.1.small:=by
 cases x with
 | ask|none=>exact ag.kh
 | @put i k h hF e hi hk =>
   have h1:=hf.mm.vN (hf.PJ hi) hk cpu a;have hw:(Np s s.aa[i].ab[k] a).small:=⟨by simp only [Np,List.length_set];exact hf.small.words,hf.small.heap,hf.small.bo,hf.small.each⟩
   exact sU hw _ h1.1 h1.2
def im.UK {i k:Int} (h:im s a (i,k,0)) : ∃ (i' k':Nat),i=i'∧k=k'∧gg s=true ∧ ∃ hF:lY s a i' k',0<=((s.aa[i']'hF.hi).ab[k']'hF.hk).ai∧((s.aa[i']'hF.hi).ab[k']'hF.hk).ai<=64:=by
 cases h with
 | @hit i' k' out h hF hC hm =>
   refine ⟨i',k',rfl,rfl,h,hF,?_⟩;have hc:=((iE.1 h).each i' hF.hi).may;have h1:=bV hc.lay;have h2:=hC.1.QV (by simp;omega) out rfl;have h3:=hC.2.1;omega
variable {f:Int} {l:List Block}
def KO {x y x' y':Block} (h:nu x y) (e1:x'.At=x.At) (e2:x'.Order=x.Order) (e3:y'.At=y.At) (e4:y'.Order=y.Order) : nu x' y':=by
 unfold nu at *;rw [e1,e2,e3,e4];exact h
def KP (hz:bW z) {b:Block} {t:Int} (st:Bool) : Fg (kB z b t st):=by
 have h:=Fh hz;unfold kB;split
 ·unfold kd;split
  ·exact h
  ·unfold Fg at *;rw [af6];exact h.imp fun {x y} WW=>KO WW (pM _ _ _ x).1 (pM _ _ _ x).2 (pM _ _ _ y).1 (pM _ _ _ y).2
 ·exact h
def FQ {q:Int} (h1 : 1<=q) (h4:q<=4) (hm:a % pw q=0) : beside (a+pw (q-1)) (q-1)=a∧(a+pw (q-1)) % pw (q-1)=0:=by
 have hp:pw q=2*pw (q-1):=by
  have:=qY (o:=q-1) (by omega) (by omega)
  rwa [af1] at this
 unfold beside;rcases fQ (show 0<=q-1 by omega) (show q-1<=4 by omega) with ⟨e1,e2⟩|⟨e1,e2⟩|⟨e1,e2⟩|⟨e1,e2⟩|⟨e1,e2⟩<;>rw [hp,e2] at hm<;>rw [e2]<;>(refine ⟨?_,by omega⟩)<;>split<;>omega
def Nq {t:Int} {q ty:Int} (h:EY f t l a q) (hn:Fg l) (hq : 1<=q) : Fg (ug ty a q l):=by
 obtain ⟨f1,f2,f3,f4,f5⟩:=h.fit;obtain ⟨hb,hm⟩:=FQ hq f2 f5
 have hp:pw q=2*pw (q-1):=by
  have:=qY (o:=q-1) (by omega) (by omega)
  rwa [af1] at this
 have VT:=cM (o:=q-1) (by omega) (by omega)
 have bG:∀ x∈l,x.At≠a:=fun x hx e=>by
  have:=cM (h.eV x hx).1.1 (h.eV x hx).1.2.1
  rcases h.ON x hx with g|g<;>omega
 have e:l=l.take (bE l (a+pw (q-1)))++l.drop (bE l (a+pw (q-1))):=(aex _ l).symm
 have h0:=hn;unfold Fg at h0;rw [e,aeT] at h0;obtain ⟨h1,h2,h3⟩:=h0
 have hA:∀ x∈l.take (bE l (a+pw (q-1))),nu x (oA ty a q):=fun x hx=>by
  have od:=aeX hx;obtain ⟨j,hj,rfl⟩:=aeu hx;simp only [List.length_take] at hj;rw [ae3] at od ⊢;have e8:=qb (l:=l) (a:=a+pw (q-1)) (k:=j) (by omega);refine ⟨?_,fun hh => ?_⟩
  ·simp only [oA];rcases h.ON _ od with g|g<;>omega
  ·obtain ⟨_,_,hh⟩:=hh;simp only [oA,hb] at hh;exact bG _ od hh
 have hB:∀ x∈l.drop (bE l (a+pw (q-1))),nu (oA ty a q) x:=fun x hx=>by
  have od:=afa hx;obtain ⟨j,hj,rfl⟩:=aeu hx;simp only [List.length_drop] at hj;rw [afl] at od ⊢;have Mq:=E0 (l:=l) (a:=a+pw (q-1)) (by omega)
  have hle:(l[bE l (a+pw (q-1))]'(by omega)).At<=(l[bE l (a+pw (q-1))+j]'(by omega)).At:=by
   rcases aeL j with rfl|Hr
   ·exact agl _
   ·have:=jV h.sw (show bE l (a+pw (q-1))+j<l.length by omega) (show bE l (a+pw (q-1))<bE l (a+pw (q-1))+j by omega)
    have:=cM (h.eV _ (aet (show bE l (a+pw (q-1))<l.length by omega))).1.1 (h.eV _ (aet (show bE l (a+pw (q-1))<l.length by omega))).1.2.1
    omega
  have V4:=(h.eV _ od).1;have TF:=cM V4.1 V4.2.1;refine ⟨?_,fun hh => ?_⟩
  ·simp only [oA];rcases h.ON _ od with g|g<;>omega
  ·obtain ⟨g4,g5,hh⟩:=hh;have g6:=(re V4.1 g4 V4.2.2.2.2).1;simp only [oA] at g5 hh;rw [<- hh,<- g5,hb] at g6;exact bG _ od g6.symm
 unfold ug aM Fg;rw [aey,aeT];refine ⟨h1,?_,fun x hx y hy => ?_⟩
 ·rw [aeO,afq];exact ⟨hB,h2⟩
 ·rw [aeO,afx] at hy;rcases hy with rfl|hy
  ·exact hA x hx
  ·exact h3 x hx y hy
def CP {t ty:Int} (h0 : 0<=f) (ht:t<=256) (RO:t % 16=0) (zO:lf ty):∀ (k:Nat) (q:Int) (l:List Block),(k:Int)<=q->EY f t l a q->Fg l->EY f t (mF ty a k q l) a (q-k)∧Fg (mF ty a k q l)
 | 0,q,l,_,h,hn=>by
   refine ⟨?_,hn⟩;have:q-((0:Nat) : Int)=q:=by omega
   rw [this];exact h
 | k+1,q,l,hk,h,hn=>by
   have hq : 1<=q:=by omega
   have:=CP h0 ht RO zO k (q-1) (ug ty a q l) (by omega) (E9 h h0 ht RO hq zO).1 (Nq h hn hq)
   rw [mF];rwa [show q-1-(k:Int)=q-((k+1:Nat) : Int) by omega] at this
structure QW (z z':aj) : Prop where
 may:bW z'
 from_:z'.aT=z.aT
 pJ:z'.To=z.To
def iD.jQ {t:Int} {u:aj×Int×Int} (h:iD z o t u) (h0:u.2.2=0) : QW z u.1∧(∃ x∈z.ai,x.At=u.2.1)∧fT z=true:=by
 cases h with
 | bad|range|kind|room=>simp at h0
 | @ok k st hq ho ht hk hp =>
   have hz:=fD.1 hq;obtain ⟨o1,o2,o3,o4,o5⟩:=hz.ok;obtain ⟨_,W7,Ze⟩:=hp.ord;obtain ⟨l1,l2,l3⟩:=vw hz (b:=z.ai[k]) ht st;have Uc:k<(kB z z.ai[k] t st).length:=by omega
   have QC:=wH hz ht st hk;have hJ:=Ct l2 l3 Uc;rw [QC] at hJ;simp only at hJ;have hn:Fg ((kB z z.ai[k] t st).eraseIdx k):=(KP hz st).sublist (afm _ _)
   have Cr:=hz.eV k hk;have Tq:lf (yn z t st z.ai[k]):=by unfold yn;split;exact ht;exact Cr.2
   have hS:=CP (ty:=yn z t st z.ai[k]) o1 o3 o5 Tq (z.ai[k].Order-o).toNat z.ai[k].Order _ (by omega) hJ hn;have e:(if st=true then kd z.ai z.ai[k] t else z.ai)=kB z z.ai[k] t st:=rfl
   refine ⟨⟨⟨hz.ok,?_,?_,fun i hi => ?_,fun i hi => ?_⟩,rfl,rfl⟩,⟨z.ai[k],aet hk,rfl⟩,hq⟩
   ·simp only [uF];have hlen:=hz.len;split
    ·unfold k6;split
     ·exact hlen
     ·split<;>simpa using hlen
    ·exact hlen
   ·simp only [uF];intro v hv;split at hv
    ·unfold k6 at hv;split at hv
     ·exact hz.types v hv
     ·split at hv
      ·rcases aeI hv with hv|rfl
       ·rcases aeI hv with hv|rfl
        ·exact hz.types v hv
        ·exact ht
       ·exact ht
      ·rcases aeI hv with hv|rfl
       ·exact hz.types v hv
       ·exact ht
    ·exact hz.types v hv
   ·exact hS.1.eV _ (aet hi)
   ·have hn:=hS.2;unfold Fg at hn;rw [aeB] at hn;exact hn i (i+1) (by simp only [uF] at hi;exact Nat.lt_of_succ_lt hi) hi (aga i)
variable {r:(aj×aj)×List aS×Int} {fl m0 m1 zi:Int} {bs:List Block} {r':Option ((aj×aj)×List aS×Int)} {z':aj}
def jM (fl:Int) : Int:=if 0<=fl∧fl<=15 then (if fl / 2 % 4=0 then 0 else if fl / 2 % 4=1 then 1 else if fl / 2 % 4=2 then 2 else -1) else -1
def sV (h : 0<=jM fl) : (0<=fl∧fl<=15)∧lf (jM fl):=by
 unfold jM lf at *;split at h
 ·rename_i hf;rw [if_pos hf];refine ⟨hf,?_⟩;repeat' split
  all_goals omega
 ·omega
def yA (s:aj×aj) (zi:Int) : aj:=if zi=0 then s.1 else s.2
def sW (s:aj×aj) (zi:Int) (z:aj) : aj×aj:=if zi=0 then (z,s.2) else (s.1,z)
def CQ (m0 m1:Int) (s:aj×aj) (zi fl:Int) : Int:=(if 8<=fl then (if zi=0 then m0 else m1) / 2 else (if zi=0 then m0 else m1))+(if zi=0∧fl % 2=0 then (s.2.To-s.2.aT) / 32 else 0)
def jZ (m0 m1:Int) (s:aj×aj) (zi o fl:Int) : Prop:=CQ m0 m1 s zi fl<=km (yA s zi).ai-pw o
inductive j1 (m0 m1 zi t fl:Int) : aj×aj->List Int->(aj×aj)×List Int->Prop
 | full {s:aj×aj} {l:List Int} (h:l.length=3) : j1 m0 m1 zi t fl s l (s,l)
 | nw {s:aj×aj} {l:List Int} (h:l.length<3) (he : ¬ jZ m0 m1 s zi 0 fl) : j1 m0 m1 zi t fl s l (s,l)
 | none {s:aj×aj} {l:List Int} {u:aj×Int×Int} (h:l.length<3) (he:jZ m0 m1 s zi 0 fl) (ht:iD (yA s zi) 0 t u) (hu:u.2.2≠0) : j1 m0 m1 zi t fl s l (s,l)
 | more {s:aj×aj} {l:List Int} {u:aj×Int×Int} {r:(aj×aj)×List Int} (h:l.length<3) (he:jZ m0 m1 s zi 0 fl) (ht:iD (yA s zi) 0 t u) (hu:u.2.2=0) (hr:j1 m0 m1 zi t fl (sW s zi u.1) (l++[u.2.1]) r) : j1 m0 m1 zi t fl s l r
def j1.dm {t:Int} {s:aj×aj} {l:List Int} {r r':(aj×aj)×List Int} (h:j1 m0 m1 zi t fl s l r) : j1 m0 m1 zi t fl s l r'->r=r':=by
 induction h with
 | full h=>intro k;cases k with
   | full=>rfl
   | nw h'|none h'|more h'=>omega
 | nw h he=>intro k;cases k with
   | full h'=>omega
   | nw=>rfl
   | none _ iv|more _ iv=>exact absurd iv he
 | none h he ht hu=>intro k;cases k with
   | full h'=>omega
   | nw _ iv=>exact absurd he iv
   | none=>rfl
   | more _ _ rW uK=>rw [ht.dm rW] at hu;exact absurd uK hu
 | more h he ht hu hr ih=>intro k;cases k with
   | full h'=>omega
   | nw _ iv=>exact absurd he iv
   | none _ _ rW uK=>rw [ht.dm rW] at hu;exact absurd hu uK
   | more _ _ rW uK qN =>
     have e:=ht.dm rW;subst e;exact ih qN
def fW (x:aS) (pg:List Int) : aS:=⟨x.gl,x.aj,x.Ty,pg⟩
def xf (L:List aS) (x:aS) (pg:List Int) : List aS:=if pg.length<=1 then L.eraseIdx (br L x) else L.set (br L x) (fW x pg.dropLast)
def kC (L:List aS) (x:aS) (pg:List Int) : List aS:=if pg=[] then L else jk L (fW x pg)
inductive j7 (m0 m1 cpu zi o t fl:Int) (s:aj×aj) (L:List aS) : Option ((aj×aj)×List aS×Int)->Prop
 | list (ho:o=0) (hk:dz L ⟨cpu,zi,t,[]⟩=true) (hp:dh L ⟨cpu,zi,t,[]⟩≠[]) : j7 m0 m1 cpu zi o t fl s L (some (s,xf L ⟨cpu,zi,t,[]⟩ (dh L ⟨cpu,zi,t,[]⟩),(dh L ⟨cpu,zi,t,[]⟩).getLast hp))
 | nw (hn : ¬ (o=0∧dz L ⟨cpu,zi,t,[]⟩=true)) (he : ¬ jZ m0 m1 s zi o fl) : j7 m0 m1 cpu zi o t fl s L none
 | none {u:aj×Int×Int} (hn : ¬ (o=0∧dz L ⟨cpu,zi,t,[]⟩=true)) (he:jZ m0 m1 s zi o fl) (ht:iD (yA s zi) o t u) (hu:u.2.2≠0) : j7 m0 m1 cpu zi o t fl s L none
 | u6 {u:aj×Int×Int} (ho : 0<o) (he:jZ m0 m1 s zi o fl) (ht:iD (yA s zi) o t u) (hu:u.2.2=0) : j7 m0 m1 cpu zi o t fl s L (some (sW s zi u.1,L,u.2.1))
 | fill {u:aj×Int×Int} {r:(aj×aj)×List Int} (ho:o=0) (hk:dz L ⟨cpu,zi,t,[]⟩=false) (he:jZ m0 m1 s zi o fl) (ht:iD (yA s zi) o t u) (hu:u.2.2=0) (hr:j1 m0 m1 zi t fl (sW s zi u.1) [] r) : j7 m0 m1 cpu zi o t fl s L (some (r.1,kC L ⟨cpu,zi,t,[]⟩ r.2,u.2.1))
def j7.dm {t:Int} {s:aj×aj} {r:Option ((aj×aj)×List aS×Int)} (h:j7 m0 m1 cpu zi o t fl s L r) (k:j7 m0 m1 cpu zi o t fl s L r') : r=r':=by
 cases h with
 | list ho hk hp=>cases k with
   | list=>rfl
   | nw hn|none hn=>exact absurd ⟨ho,hk⟩ hn
   | u6 ou=>omega
   | fill _ bP=>rw [hk] at bP;cases bP
 | nw hn he=>cases k with
   | list ho hk=>exact absurd ⟨ho,hk⟩ hn
   | nw=>rfl
   | none _ iv|u6 _ iv|fill _ _ iv=>exact absurd iv he
 | none hn he ht hu=>cases k with
   | list ho hk=>exact absurd ⟨ho,hk⟩ hn
   | nw _ iv=>exact absurd he iv
   | none=>rfl
   | u6 _ _ rW uK|fill _ _ _ rW uK=>rw [ht.dm rW] at hu;exact absurd uK hu
 | u6 ho he ht hu=>cases k with
   | list ou=>omega
   | nw _ iv=>exact absurd he iv
   | none _ _ rW uK=>rw [ht.dm rW] at hu;exact absurd hu uK
   | u6 _ _ rW=>rw [ht.dm rW]
   | fill ou=>omega
 | fill ho hk he ht hu hr=>cases k with
   | list _ bP=>rw [hk] at bP;cases bP
   | nw _ iv=>exact absurd he iv
   | none _ _ rW uK=>rw [ht.dm rW] at hu;exact absurd hu uK
   | u6 ou=>omega
   | fill _ _ _ rW _ qN =>
     have e:=ht.dm rW;subst e;rw [hr.dm qN]
inductive mK (m0 m1 cpu o t fl:Int) (s:aj×aj) (L:List aS) : Option ((aj×aj)×List aS×Int)->Prop
 | wN {r:(aj×aj)×List aS×Int} (hf:fl % 2=0) (h:j7 m0 m1 cpu 1 o t fl s L (some r)) : mK m0 m1 cpu o t fl s L (some r)
 | low {r:Option ((aj×aj)×List aS×Int)} (hf:fl % 2=0->j7 m0 m1 cpu 1 o t fl s L none) (h:j7 m0 m1 cpu 0 o t fl s L r) : mK m0 m1 cpu o t fl s L r
def mK.dm {t:Int} {s:aj×aj} {r:Option ((aj×aj)×List aS×Int)} (h:mK m0 m1 cpu o t fl s L r) (k:mK m0 m1 cpu o t fl s L r') : r=r':=by
 cases h with
 | wN hf h=>cases k with
   | wN _ h'=>exact h.dm h'
   | low GW=>cases h.dm (GW hf)
 | low hf h=>cases k with
   | wN GW h'=>cases h'.dm (hf GW)
   | low _ h'=>exact h.dm h'
def ll (h:Heap) (i:Nat) : Int:=h.dP.getD i 0
def ny (h:Heap) (s:aj×aj) (L:List aS) (lv:List Block) : Heap:=⟨[s.1,s.2],h.dP,h.bJ,L,lv⟩
def dX (h:Heap) (at_ o t:Int) : List Block:=aM h.Live (bE h.Live at_) ⟨at_,o,t⟩
inductive cU (h:Heap) (cpu o fl:Int) : Heap×Int×Int->Prop
 | bad (hb:jo h=false) : cU h cpu o fl (.zero,0,8)
 | range (hb:jo h=true) (hr : ¬ ((0<=cpu∧cpu<h.bJ)∧0<=o∧o<=4)) : cU h cpu o fl (.zero,0,1)
 | form (hb:jo h=true) (hr:(0<=cpu∧cpu<h.bJ)∧0<=o∧o<=4) (ht:jM fl<0) : cU h cpu o fl (.zero,0,3)
 | once {z0 z1:aj} {r:(aj×aj)×List aS×Int} (hb:jo h=true) (hr:(0<=cpu∧cpu<h.bJ)∧0<=o∧o<=4) (ht : 0<=jM fl) (hz:h.bl=[z0,z1]) (ha:mK (ll h 0) (ll h 1) cpu o (jM fl) fl (z0,z1) h.au (some r)) :
    cU h cpu o fl (ny h r.1 r.2.1 (dX h r.2.2 o (jM fl)),r.2.2,0)
 | gQ {z0 z1:aj} {r:(aj×aj)×List aS×Int} (hb:jo h=true) (hr:(0<=cpu∧cpu<h.bJ)∧0<=o∧o<=4) (ht : 0<=jM fl) (hz:h.bl=[z0,z1]) (ha:mK (ll h 0) (ll h 1) cpu o (jM fl) fl (z0,z1) h.au none)
    (h2:mK (ll h 0) (ll h 1) cpu o (jM fl) fl (bX (z0,z1) (a9 h.au)) [] (some r)) : cU h cpu o fl (ny h r.1 r.2.1 (dX h r.2.2 o (jM fl)),r.2.2,0)
 | room {z0 z1:aj} (hb:jo h=true) (hr:(0<=cpu∧cpu<h.bJ)∧0<=o∧o<=4) (ht : 0<=jM fl) (hz:h.bl=[z0,z1]) (ha:mK (ll h 0) (ll h 1) cpu o (jM fl) fl (z0,z1) h.au none)
    (h2:mK (ll h 0) (ll h 1) cpu o (jM fl) fl (bX (z0,z1) (a9 h.au)) [] none) : cU h cpu o fl (.zero,0,6)
def cU.dm {h:Heap} {u v:Heap×Int×Int} (a:cU h cpu o fl u) (b:cU h cpu o fl v) : u=v:=by
 cases a with
 | bad hb=>cases b with
   | bad=>rfl
   | range iL|form iL|once iL|gQ iL|room iL=>rw [hb] at iL;cases iL
 | range hb hr=>cases b with
   | bad iL=>rw [hb] at iL;cases iL
   | range=>rfl
   | form _ qN|once _ qN|gQ _ qN|room _ qN=>exact absurd qN hr
 | form hb hr ht=>cases b with
   | bad iL=>rw [hb] at iL;cases iL
   | range _ qN=>exact absurd hr qN
   | form=>rfl
   | once _ _ rW|gQ _ _ rW|room _ _ rW=>omega
 | once hb hr ht hz ha=>cases b with
   | bad iL=>rw [hb] at iL;cases iL
   | range _ qN=>exact absurd hr qN
   | form _ _ rW=>omega
   | once _ _ _ oW mR=>rw [hz] at oW;simp only [List.cons.injEq,and_true] at oW;obtain ⟨rfl,rfl⟩:=oW;cases ha.dm mR;rfl
   | gQ _ _ _ oW mR|room _ _ _ oW mR=>rw [hz] at oW;simp only [List.cons.injEq,and_true] at oW;obtain ⟨rfl,rfl⟩:=oW;cases ha.dm mR
 | gQ hb hr ht hz ha h2=>cases b with
   | bad iL=>rw [hb] at iL;cases iL
   | range _ qN=>exact absurd hr qN
   | form _ _ rW=>omega
   | once _ _ _ oW mR=>rw [hz] at oW;simp only [List.cons.injEq,and_true] at oW;obtain ⟨rfl,rfl⟩:=oW;cases ha.dm mR
   | gQ _ _ _ oW mR nI=>rw [hz] at oW;simp only [List.cons.injEq,and_true] at oW;obtain ⟨rfl,rfl⟩:=oW;cases h2.dm nI;rfl
   | room _ _ _ oW mR nI=>rw [hz] at oW;simp only [List.cons.injEq,and_true] at oW;obtain ⟨rfl,rfl⟩:=oW;cases h2.dm nI
 | room hb hr ht hz ha h2=>cases b with
   | bad iL=>rw [hb] at iL;cases iL
   | range _ qN=>exact absurd hr qN
   | form _ _ rW=>omega
   | once _ _ _ oW mR=>rw [hz] at oW;simp only [List.cons.injEq,and_true] at oW;obtain ⟨rfl,rfl⟩:=oW;cases ha.dm mR
   | gQ _ _ _ oW mR nI=>rw [hz] at oW;simp only [List.cons.injEq,and_true] at oW;obtain ⟨rfl,rfl⟩:=oW;cases h2.dm nI
   | room=>rfl
structure VS (s:aj×aj) : Prop where
 mr:bW s.1
 lQ:bW s.2
 qk:s.1.aT=0
 EK:s.1.To=s.2.aT
 Ko:s.2.To=256
def VS.yA {s:aj×aj} (h:VS s) (zi:Int) : bW (yA s zi):=by unfold Go.Proofs.YtenhkiaaebnggaaGreatDoor.yA;split;exact h.mr;exact h.lQ
def VS.tW {s:aj×aj} (h:VS s) (hk:QW (Go.Proofs.YtenhkiaaebnggaaGreatDoor.yA s zi) z') : VS (sW s zi z'):=by
 obtain ⟨k1,k2,k3⟩:=hk;unfold Go.Proofs.YtenhkiaaebnggaaGreatDoor.yA at k2 k3;unfold sW;split
 ·rename_i e;rw [if_pos e] at k2 k3;exact ⟨k1,h.lQ,by rw [k2];exact h.qk,by rw [k3];exact h.EK,h.Ko⟩
 ·rename_i e;rw [if_neg e] at k2 k3;exact ⟨h.mr,k1,h.qk,by rw [k2];exact h.EK,by rw [k3];exact h.Ko⟩
def j1.vs {t:Int} {s:aj×aj} {l:List Int} {r:(aj×aj)×List Int} (h:j1 m0 m1 zi t fl s l r) : VS s->VS r.1∧r.2.length<=3:=by
 induction h with
 | full h=>exact fun k=>⟨k,by simp only;omega⟩
 | nw h he=>exact fun k=>⟨k,by simp only;omega⟩
 | none h=>exact fun k=>⟨k,by simp only;omega⟩
 | more h he ht hu hr ih=>exact fun k=>ih (k.tW (ht.jQ hu).1)
def rf.vs {s:aj×aj} (h:rf s bs) : VS s:=⟨h.mr,h.lQ,h.qk,h.EK,h.Ko⟩
def Av (s:aj×aj) (L:List aS) (a:Int) : Prop:=(∃ x∈s.1.ai,x.At=a)∨(∃ x∈s.2.ai,x.At=a) ∨ ∃ l∈L,a∈l.av
def j7.found {t:Int} {s:aj×aj} (h:j7 m0 m1 cpu zi o t fl s L (some r)) (hv:VS s) : VS r.1∧Av s L r.2.2:=by
 have fz:∀ {u:aj×Int×Int},iD (yA s zi) o t u->u.2.2=0->VS (sW s zi u.1)∧Av s L u.2.1:=fun {u} ht hu=>by
  obtain ⟨k1,⟨x,hx,e⟩,_⟩:=ht.jQ hu;refine ⟨hv.tW k1,?_⟩;unfold yA at hx;split at hx
  ·exact .inl ⟨x,hx,e⟩
  ·exact .inr (.inl ⟨x,hx,e⟩)
 cases h with
 | list ho hk hp =>
   refine ⟨hv,.inr (.inr ?_)⟩;obtain ⟨hl,_⟩:=ko hk;refine ⟨_,aet hl,?_⟩;have e:=je hk hl;have hm:∀ a,a∈dh L ⟨cpu,zi,t,[]⟩->a∈L[br L ⟨cpu,zi,t,[]⟩].av:=fun a ha=>by rw [e] at ha;exact ha
   exact hm _ (List.getLast_mem hp)
 | u6 ho he ht hu=>exact fz ht hu
 | fill ho hk he ht hu hr=>exact ⟨(hr.vs (fz ht hu).1).1,(fz ht hu).2⟩
def mK.found {t:Int} {s:aj×aj} (h:mK m0 m1 cpu o t fl s L (some r)) (hv:VS s) : VS r.1∧Av s L r.2.2:=by
 cases h with
 | wN _ h=>exact h.found hv
 | low _ h=>exact h.found hv
variable {pg:List Int}
def Aw {y:aS} (hs:Fl L) (hk:dz L y=false) : Fl (aM L (br L y) y):=by
 have h0:=hs;unfold Fl at h0 ⊢;rw [<- aex (br L y) L,aeT] at h0;obtain ⟨h1,h2,h3⟩:=h0
 have hT:∀ z∈L.take (br L y),dg z y:=fun z hz=>by
  obtain ⟨j,hj,rfl⟩:=aeu hz;rw [agb] at hj;rw [ae3];exact z6 (by omega)
 have hD:∀ z∈L.drop (br L y),dg y z:=fun z hz=>by
  obtain ⟨j,hj,rfl⟩:=aeu hz;rw [List.length_drop] at hj;rw [afl];have h:=Pq hk (by omega);rcases aeL j with rfl|Hr
  ·exact h
  ·exact xK h (hs.get (show br L y+j<L.length by omega) (by omega))
 unfold aM;rw [aey,aeT];refine ⟨h1,?_,fun a ha b hb => ?_⟩
 ·rw [aeO,afq];exact ⟨hD,h2⟩
 ·rw [aeO,afx] at hb;rcases hb with rfl|hb
  ·exact hT a ha
  ·exact h3 a ha b hb
section
variable {L:List aS} {x:aS} {pg:List Int}
def ry:jr x (fW x pg):=⟨rfl,rfl,rfl⟩
def mL:kC L x []=L:=by simp [kC]
def qx (hk:dz L x=false) (hp:pg≠[]) : kC L x pg=aM L (br L (fW x pg)) (fW x pg):=by
 rw [kC,if_neg hp,sH (by rw [<- (kR (L:=L) (ry (x:=x) (pg:=pg))).2];exact hk)]
def Ek (hs:Fl L) (hk:dz L x=false) : Fl (kC L x pg):=by
 by_cases hp:pg=[]
 ·subst hp;rw [mL];exact hs
 ·rw [qx hk hp];exact Aw hs (by rw [<- (kR (L:=L) (ry (x:=x) (pg:=pg))).2];exact hk)
def CR (hk:dz L x=false) : ∀ l∈kC L x pg,l∈L∨l=fW x pg:=fun l hl=>by
 by_cases hp:pg=[]
 ·subst hp;rw [mL] at hl;exact .inl hl
 ·rw [qx hk hp] at hl;unfold aM at hl;rw [aeC,aeC,agn] at hl;rcases hl with (hl|hl)|hl
  ·exact .inl (aeX hl)
  ·exact .inr hl
  ·exact .inl (afa hl)
def CS (hk:dz L x=false) : (kC L x pg).length<=L.length+1:=by
 by_cases hp:pg=[]
 ·subst hp;rw [mL];omega
 ·rw [qx hk hp,di _ (nP _ _)];omega
def HY (hk:dz L x=false) (a:Int) : jk (kC L x pg) ⟨x.gl,x.aj,x.Ty,dh (kC L x pg) x++[a]⟩=kC L x (pg++[a]):=by
 have bG:pg++[a]≠[]:=by simp
 by_cases hp:pg=[]
 ·subst hp;rw [mL,og hk,kC,if_neg bG];rfl
 ·have e:kC L x pg=jk L (fW x pg):=by rw [kC,if_neg hp]
  obtain ⟨e1,e2⟩:=kR (L:=jk L (fW x pg)) (ry (x:=x) (pg:=pg));obtain ⟨e3,e4⟩:=Fm (L:=L) (x:=fW x pg);obtain ⟨e8,ig⟩:=aeQ.1 (z8 (L:=L) (x:=fW x pg))
  have epg:dh (jk L (fW x pg)) x=pg:=by
   rw [je (by rw [e2];exact e4) (by rw [e1,e3];exact e8)];simp only [e1,e3,ig]
   rfl
  rw [e,epg,kC,if_neg bG];have rq:jr (fW x pg) (⟨x.gl,x.aj,x.Ty,pg++[a]⟩ : aS):=⟨rfl,rfl,rfl⟩
  obtain ⟨e5,e6⟩:=kR (L:=jk L (fW x pg)) rq;rw [sG (by rw [<- e6];exact e4),<- e5,e3];exact Fo rq
end
def Nr {x:aS} (h : 1<pg.length) : xf L x pg=L.set (br L x) (fW x pg.dropLast):=by rw [xf,if_neg (by omega)]
def HZ {x:aS} (h:pg.length=1) : xf L x pg=L.eraseIdx (br L x):=by rw [xf,if_pos (by omega)]
def H4 {l:List Int} (h:l≠[]) (hi:i<l.length) (e:i=l.length-1) : l.getLast h=l[i]:=by
 subst e;rw [List.getLast_eq_getElem]
def jK.tC {h:Heap} (f:jK h z0 z1) (ha:a=(i:Int)) (hc:eI (z0.ai++z1.ai++a9 h.au) i=true) : ∀ b∈h.Live,b.At≠a:=fun b hb e=>by
 obtain ⟨l,m,e1⟩:=List.append_of_mem hb;have fc:=f.all;rw [e1,<- aey] at fc;have hf:=rh fc;obtain ⟨j,hj,rfl⟩:=aeu hb;have XN:=(f.live.each j hj).1;have hp:=cM XN.1 XN.2;obtain ⟨_,_,ho⟩:=hf;unfold eI at hc;rw [aeG] at hc;obtain ⟨y,hy,UL⟩:=hc;unfold qP at UL;rw [ae9,decide_eq_true_eq,decide_eq_true_eq] at UL
 have:kz (z0.ai++z1.ai++a9 h.au++l) h.Live[j].At h.Live[j].Order=true:=by
  unfold kz;rw [aeG];refine ⟨y,aeU _ hy,?_⟩;rw [ae9,decide_eq_true_eq,decide_eq_true_eq];omega
 rw [ho] at this;cases this
def vO (hz:bW z) {x:Block} (hx:x∈z.ai) : ∃ i:Nat,x.At=(i:Int)∧i<256∧eI z.ai i=true:=by
 obtain ⟨j,hj,rfl⟩:=aeu hx;have h1:=(hz.eV j hj).1;have h2:=hz.ok;obtain ⟨o1,o2,o3,o4,o5⟩:=h2;have hp:=cM h1.1 h1.2.1;obtain ⟨b1,b2,b3,b4,b5⟩:=h1;refine ⟨z.ai[j].At.toNat,by omega,by omega,?_⟩;unfold eI;rw [aeG];refine ⟨_,hx,?_⟩;unfold qP;rw [ae9,decide_eq_true_eq,decide_eq_true_eq];omega
def qy {h:Heap} (f:jK h z0 z1) (ha:Av (z0,z1) h.au a) : ∃ i:Nat,a=(i:Int)∧i<256∧eI (z0.ai++z1.ai++a9 h.au) i=true:=by
 rcases ha with ⟨x,hx,rfl⟩|⟨x,hx,rfl⟩|⟨l,hl,hp⟩
 ·obtain ⟨i,h1,h2,h3⟩:=vO f.d.mr hx;exact ⟨i,h1,h2,by rw [jq,jq,h3];rfl⟩
 ·obtain ⟨i,h1,h2,h3⟩:=vO f.d.lQ hx;exact ⟨i,h1,h2,by rw [jq,jq,h3];simp⟩
 ·have hm:ct a∈a9 h.au:=by
   unfold a9;rw [aeK];exact ⟨l,hl,List.mem_map_of_mem hp⟩
  obtain ⟨j,hj,e⟩:=aeu hm;have hN:=f.d.next hj;rw [e] at hN;have h1:=hN.at_;simp only [ct] at h1;refine ⟨a.toNat,by omega,by omega,?_⟩;rw [jq]
  have:eI (a9 h.au) a.toNat=true:=by
   unfold eI;rw [aeG];refine ⟨_,hm,?_⟩;unfold qP;rw [ae9,decide_eq_true_eq,decide_eq_true_eq];have:pw 0=1:=by decide
   change a<=_∧_<a+pw 0
   omega
  rw [this];simp
def fX {h:Heap} (d:oD h z0 z1) : rf (bX (z0,z1) (a9 h.au)) (z0.ai++z1.ai++a9 h.au):=by
 have:=d.inv (a9 h.au).length (aew _)
 rwa [afk] at this
def oK {h:Heap} (f:jK h z0 z1) (ha:Av (bX (z0,z1) (a9 h.au)) [] a) : ∃ i:Nat,a=(i:Int)∧i<256∧eI (z0.ai++z1.ai++a9 h.au) i=true:=by
 have hD:=fX f.d;rcases ha with ⟨x,hx,rfl⟩|⟨x,hx,rfl⟩|⟨l,hl,hp⟩
 ·obtain ⟨i,h1,h2,h3⟩:=vO hD.mr hx;exact ⟨i,h1,h2,by rw [<- hD.Jh,h3];rfl⟩
 ·obtain ⟨i,h1,h2,h3⟩:=vO hD.lQ hx;exact ⟨i,h1,h2,by rw [<- hD.Jh,h3];simp⟩
 ·simp at hl
def FR {h:Heap} (f:jK h z0 z1) : h.Live.length<=256:=by
 have hu:=k7 f.live;rw [aeB] at hu
 have key:∀ (i:Nat) (hi:i<h.Live.length),(i:Int)<=h.Live[i].At:=by
  intro i;induction i with
  | zero=>intro hi;have:=(f.next hi).at_;exact this.1
  | succ i ih=>intro hi;have h1:=ih (by omega);have h2:=hu i (i+1) (by omega) hi (by omega);omega
 rcases ae5 256 h.Live.length with h1|h1
 ·have h2:=key 256 h1;have h3:=(f.next h1).at_;omega
 ·exact h1
def j7.lists {t:Int} {s:aj×aj} (h:j7 m0 m1 cpu zi o t f s L (some r)) (hv:VS s) (hL:∀ l∈L,l.av.length<=8) : r.2.1.length<=L.length+1 ∧ ∀ l∈r.2.1,l.av.length<=8:=by
 cases h with
 | list ho hk hp =>
   obtain ⟨hl,_⟩:=ko hk;have e:=je hk hl;have h8:=hL _ (aet hl);rw [<- e] at h8;simp only;unfold xf;split
   ·exact ⟨by have:=afr L (br L ⟨cpu,zi,t,[]⟩);omega,fun l hl=>hL l (ae4 hl)⟩
   ·refine ⟨by rw [ae0];omega,fun l hl => ?_⟩;rcases aeI hl with h1|rfl
    ·exact hL l h1
    ·simp only [fW,List.length_dropLast];omega
 | u6 ho he ht hu=>exact ⟨by simp only;omega,hL⟩
 | @fill u r' ho hk he ht hu hr =>
   have h3:=(hr.vs (hv.tW (ht.jQ hu).1)).2
   exact ⟨CS hk,fun l hl=>by
    rcases CR hk l hl with h1|rfl
    ·exact hL l h1
    ·simp only [fW];omega⟩
def mK.lists {t:Int} {s:aj×aj} (h:mK m0 m1 cpu o t f s L (some r)) (hv:VS s) (hL:∀ l∈L,l.av.length<=8) : r.2.1.length<=L.length+1 ∧ ∀ l∈r.2.1,l.av.length<=8:=by
 cases h with
 | wN _ h=>exact h.lists hv hL
 | low _ h=>exact h.lists hv hL
def cU.small {h:Heap} {u:Heap×Int×Int} (a:cU h cpu o f u) (hs:h.small) : u.1.small:=by
 have hz:(Heap.zero).small:=by constructor<;>simp [Heap.zero]
 have key:∀ (z0 z1:aj) (F:jK h z0 z1) (s:aj×aj) (L:List aS) (x:Int) (t:Int),VS s->L.length<=257->(∀ l∈L,l.av.length<=8)->(ny h s L (dX h x o t)).small:=fun z0 z1 F s L x t hv h1 h2=>by
  have TG:=kO hv.mr;have BQ:=kO hv.lQ;have mx:=FR F
  have Ma:(dX h x o t).length<=257:=by
   unfold dX;have BI:bE h.Live x<=h.Live.length:=List.findIdx_le_length
   rw [di _ BI];omega
  refine ⟨by simp [ny],hs.eQ,?_,?_,fun z hz => ?_,fun l hl => ?_⟩
  ·simp only [ny];omega
  ·simp only [ny];omega
  ·simp only [ny,List.mem_cons,List.not_mem_nil,or_false] at hz;rcases hz with rfl|rfl
   ·omega
   ·omega
  ·have:=h2 l hl;omega
 cases a with
 | bad|range|form|room=>exact hz
 | once hb hr ht hz ha =>
   obtain ⟨z0,z1,F⟩:=gL (bT.1 hb);rw [F.d.cq] at hz;simp only [List.cons.injEq,and_true] at hz;obtain ⟨rfl,rfl⟩:=hz;have hv:=F.d.start.vs;obtain ⟨g1,g2⟩:=ha.lists hv (fun l hl=>(F.lists l hl).2);have:=F.count
   exact key _ _ F _ _ _ _ (ha.found hv).1 (by omega) g2
 | gQ hb hr ht hz ha h2 =>
   obtain ⟨z0,z1,F⟩:=gL (bT.1 hb);rw [F.d.cq] at hz;simp only [List.cons.injEq,and_true] at hz;obtain ⟨rfl,rfl⟩:=hz;have hv:=(fX F.d).vs;obtain ⟨g1,g2⟩:=h2.lists hv (fun l hl=>by simp at hl);simp only [List.length_nil] at g1;exact key _ _ F _ _ _ _ (h2.found hv).1 (by omega) g2
def cU.at_ {h:Heap} {u:Heap×Int×Int} (a:cU h cpu o f u) (he:u.2.2=0) : 0<=u.2.1∧u.2.1<256:=by
 cases a with
 | bad|range|form|room=>simp at he
 | once hb hr ht hz ha =>
   obtain ⟨z0,z1,F⟩:=gL (bT.1 hb);rw [F.d.cq] at hz;simp only [List.cons.injEq,and_true] at hz;obtain ⟨rfl,rfl⟩:=hz;obtain ⟨i,e,h1,_⟩:=qy F (ha.found F.d.start.vs).2;simp only at e ⊢;omega
 | gQ hb hr ht hz ha h2 =>
   obtain ⟨z0,z1,F⟩:=gL (bT.1 hb);rw [F.d.cq] at hz;simp only [List.cons.injEq,and_true] at hz;obtain ⟨rfl,rfl⟩:=hz;obtain ⟨i,e,h1,_⟩:=oK F (h2.found (fX F.d).vs).2;simp only at e ⊢;omega
variable {m:Nat}
def lm (a s m:Nat) (l:List Int) : Nat->List Int
 | 0=>l
 | k+1=>(lm a s m l k).set (a+k*s) (if k+1<m then (a:Int)+((k:Int)+1)*s else -1)
def uL (lo n:Nat) (l:List Int) (x s m:Int) (v:Value) (w:World) : Prop :=
 if 1<=s∧s<=64∧1<=m∧m<=n∧0<=x∧x+s*m<=n then ∃ A c,v = .tuple #[.slice A n c,.int .i64 0]∧Own w lo 3 1 bt A n c (lm x.toNat s.toNat m.toNat l m.toNat)
 else v = .tuple #[.slice none 0 0,.int .i64 1]
def H7 {s n:Nat} (hs:s<=64) (hm:m<=n) : 0<=(s:Int)*m∧(s:Int)*m<=64*n:=by
 have h:s*m<=64*n:=Nat.mul_le_mul hs hm
 exact ⟨by omega,by omega⟩
def El {s:Nat} (hk:k<m) : 0<=(k:Int)*s∧((k:Int)+1)*s=(k:Int)*s+s∧(k:Int)*s+s<=(s:Int)*m∧(s:Int)*k=(k:Int)*s:=by
 have h:(k+1)*s<=m*s:=aeW _ hk
 have e:((k:Int)+1)*s=(k:Int)*s+s:=by rw [agL,agM]
 have e2:(s:Int)*m=(m:Int)*s:=afD _ _
 rw [afi,Nat.one_mul] at h;refine ⟨by omega,e,by rw [e2];omega,afD _ _⟩
def CT (A:Option Addr) (n c:Nat) (l:List Int) (x s m:Int) (w:World) (hl:Sl w 1 bt A n l) (hn:n*8<=140737488355328) :
 bI prog 173 [.slice A n c,.int .i64 x,.int .i64 s,.int .i64 m] w (uL w.heap.size n l x s m):=by
 refine Wj func173 ntmps173 ?_;have hw:=Ext.refl w;have kA:n<=2305843009213693952:=by omega
 by_cases h1 : 1<=s∧s<=64
 ·by_cases h2 : 1<=m∧m<=n
  ·obtain ⟨s,rfl⟩:=aeE (a:=s) (by omega);obtain ⟨m,rfl⟩:=aeE (a:=m) (by omega);have hb:=H7 (s:=s) (m:=m) (n:=n) (by omega) (by omega);by_cases h3 : 0<=x∧x+(s:Int)*m<=n
   ·obtain ⟨a,rfl⟩:=aeE h3.1;repeat' (first|refine Wz ?_|(refine Wk (qW _ _ _ _ _ _ kA) ?_;intro v w1 ah hv;subst hv;have hw:=hw.trans ah;clear ah))
    refine Wk (dC _ _ _ _ _ (hl.ext hw) hn) fun v w1 ah hv => ?_
    obtain ⟨A1,c1,rfl,hO⟩:=hv;have dt:=hw.size;have hw:=hw.trans ah;have hO:=Own.low hO dt;have pr:=hO.sl.base;refine Wz ?_
    refine CW.loop (fun k:Nat=>[(0,.slice A n c),(1,.int .i64 (a:Int)),(2,.int .i64 (s:Int)),(3,.int .i64 (m:Int)),(10,.slice A1 n c1),(40,.int .i64 (m:Int)),(41,.int .i64 (k:Int))])
     (fun k w'=>k<=m∧Ext w w'∧Own w' w.heap.size 3 1 bt A1 n c1 (lm a s m l k)) (fun k=>m-k) 0 ⟨rfl,rfl,rfl,rfl,rfl,rfl,rfl,trivial⟩ ⟨by omega,hw,hO⟩ ?_
    clear hw hO;rintro k w' ⟨hk,hw,hO⟩
    by_cases Cd:k<m
    ·have hr:=El (s:=s) Cd;have hp:a+k*s<n:=by omega
     by_cases vP:k+1<m
     all_goals
      refine Wz ?_;refine SW.qT (a+k*s) hO rfl rfl hp fun w2 bg hg => ?_
      have hw:=aD hw hg (aew _) hO.aW;refine Wz ?_;refine ae.again (k+1) ⟨rfl,rfl,rfl,rfl,rfl,rfl,rfl,trivial⟩ (by omega) ⟨by omega,hw,?_⟩;simp only [lm]
     ·rw [if_pos vP];exact bg
     ·rw [if_neg vP];exact bg
    ·refine Wz ?_;obtain rfl:k=m:=by omega
     refine ae.dl rfl rfl rfl ⟨_,rfl,hw,?_⟩;unfold uL;rw [if_pos (by omega)];exact ⟨A1,c1,rfl,hO⟩
   ·repeat' (first|refine Wz ?_|(refine Wk (qW _ _ _ _ _ _ kA) ?_;intro v w1 ah hv;subst hv;have hw:=hw.trans ah;clear ah))
    all_goals refine ae.dl rfl rfl rfl ⟨_,rfl,hw,?_⟩
    all_goals unfold uL
    all_goals rw [if_neg (by omega)]
  ·repeat' (first|refine Wz ?_|refine SW.gp rfl rfl rfl (fun h => ?_) (fun h => ?_))
   all_goals refine ae.dl rfl rfl rfl ⟨_,rfl,hw,?_⟩
   all_goals unfold uL
   all_goals rw [if_neg (by omega)]
 ·repeat' (first|refine Wz ?_|refine SW.gp rfl rfl rfl (fun h => ?_) (fun h => ?_))
  all_goals refine ae.dl rfl rfl rfl ⟨_,rfl,hw,?_⟩
  all_goals unfold uL
  all_goals rw [if_neg (by omega)]
variable {per size:Int} {ws Sg:List Int}
inductive ki (ws:List Int) (size per t:Int) : Int->Nat->Prop where
 | zero (x:Int) : ki ws size per t x 0
 | succ {k n:Nat} (hk:k<ws.length) (ho:iu size per t k=true) (h:ki ws size per t ws[k] n) : ki ws size per t k (n+1)
def ki.KQ {t x:Int} {r:Option (List Int)} (h:gb ws most x acc r) : ∀ out,r=some out->(∀ a∈out,iu size per t a=true)->ki ws size per t x (out.length-acc.length):=by
 induction h with
 | done out =>
   intro o e _;cases e
   rw [agC];exact .zero _
 | bad=>intro o e;cases e
 | @step k acc r h1 hk h3 h ih =>
   intro o e ho;have h2:=ih o e ho
   have hm:∀ {x':Int} {PM:List Int} {r':Option (List Int)},gb ws most x' PM r' -> ∀ o',r'=some o'->(∀ a∈PM,a∈o')∧PM.length<=o'.length:=by
    intro x' PM r' hf;induction hf with
    | done out=>intro o' e';cases e';exact ⟨fun a h=>h,aew _⟩
    | bad=>intro o' e';cases e'
    | step _ _ _ _ VQ =>
      intro o' e';obtain ⟨a1,a2⟩:=VQ o' e';rw [aeD] at a2;exact ⟨fun a h=>a1 a (aeU _ h),by omega⟩
   obtain ⟨a1,a2⟩:=hm h o e;rw [aeD,List.length_singleton] at a2 h2;have e2:o.length-acc.length=(o.length-(acc.length+1))+1:=by omega
   rw [e2];exact .succ hk (ho _ (a1 _ (by simp))) h2
def ki.PN {x:Slab} {out:List Int} (h:bO ws size per x out) : ki ws size per x.At x.cj x.ai.toNat:=by
 have h1:=ki.KQ (t:=x.At) h.1 out rfl h.2.2;have h2:=h.2.1;have e:out.length-([] : List Int).length=x.ai.toNat:=by simp;omega
 rw [e] at h1;exact h1
def ki.head {t x:Int} {n:Nat} (h:ki ws size per t x (n+1)) : (0<=x∧x<(ws.length:Int))∧ki ws size per t (ws.getD x.toNat 0) n:=by
 cases h with
 | @succ k n hk ho h =>
   refine ⟨by omega,?_⟩;have e:ws.getD ((k:Int)).toNat 0=ws[k]:=by simp [hk]
   rw [e];exact h
def ki.jQ {t x:Int} {n:Nat} (h:ki ws size per t x n) (hl:Sg.length=ws.length) (he:∀ (k:Nat) (hk:k<ws.length),iu size per t k=true->Sg[k]'(by omega)=ws[k]) : ki Sg size per t x n:=by
 induction h with
 | zero=>exact .zero _
 | @succ k n hk ho h ih =>
   refine .succ (by omega) ho ?_;rw [he k hk ho];exact ih
def jy (a s m:Nat) (l:List Int) : ∀ k,(lm a s m l k).length=l.length
 | 0=>rfl
 | k+1=>by simp only [lm,List.length_set];exact jy a s m l k
def rz (a s m:Nat) (l:List Int) (j:Nat) : ∀ (k:Nat),(∀ i,i<k->j≠a+i*s)->(lm a s m l k)[j]?=l[j]?
 | 0,_=>rfl
 | k+1,h=>by
   simp only [lm];rw [List.getElem?_set,if_neg (fun e=>h k (by omega) e.symm)];exact rz a s m l j k (fun i hi=>h i (by omega))
def xg (a s m:Nat) (hs : 0<s) (l:List Int) (i:Nat) (hl:a+i*s<l.length) : ∀ (k:Nat),i<k->(lm a s m l k)[a+i*s]?=some (if i+1<m then (a:Int)+((i:Int)+1)*s else -1)
 | 0,h=>by omega
 | k+1,h=>by
   simp only [lm];rw [List.getElem?_set];by_cases e:k=i
   ·subst e;rw [if_pos rfl,if_pos (by rw [jy];exact hl)]
   ·have bG:a+k*s≠a+i*s:=fun h0=>by
     have:=Nat.eq_of_mul_eq_mul_right hs (Nat.add_left_cancel h0)
     exact e this
    rw [if_neg bG];exact xg a s m hs l i hl k (by omega)
structure SOk (ws:List Int) (lv:List Block) (c:aN) (x:Slab) : Prop where
 at_ : 0<=x.At∧x.At<=255
 al:x.At % pw c.Order=0
 live:∃ b∈lv,b.At=x.At
 free : 0<=x.ai∧x.ai<=64
 walk:ki ws c.ay c.bL x.At x.cj x.ai.toNat
structure rA (s:ag) (c:aN) : Prop where
 words:s.Words.length=4096
 most:s.aa.length<=20
 lay:dp c.ay=(c.Order,c.bL,0)
 cX:∀ (k:Nat) (h:k<c.ak.length),c.ak[k] = -1∨c.ab.any (yu c.ak[k])=true
 next:c.ab.Pairwise fun x y=>x.At<y.At
 pQ:∀ x∈c.ab,SOk s.Words s.Heap.Live c x
def rA.of (hM:aA s) (hi:i<s.aa.length) : rA s s.aa[i]:=by
 have hc:=(hM.each i hi).may;have hl:=bV hc.lay;refine ⟨hM.words,hM.most,hc.lay,fun k h => ?_,?_,fun x hx => ?_⟩
 ·rcases hc.cX k h with g|⟨_,g⟩
  ·exact .inl g
  ·exact .inr g
 ·rw [aeB]
  have key:∀ (a b:Nat) (ha:a<s.aa[i].ab.length) (hb:b<s.aa[i].ab.length),a<b->s.aa[i].ab[a].At<s.aa[i].ab[b].At:=by
   intro a b;induction b with
   | zero=>intro _ _ h;omega
   | succ b ih =>
     intro ha hb h;have h2:=(hc.aB (b+1) hb).next (by omega);simp only [Nat.add_sub_cancel] at h2;by_cases e:a=b
     ·subst e;exact h2
     ·have:=ih ha (by omega) (by omega);omega
  exact key
 ·obtain ⟨k,hk,rfl⟩:=aeu hx;have hs:=hc.aB k hk;obtain ⟨out,h⟩:=hs.chain;obtain ⟨hf,h3⟩:=hs.at_ hM.heap hl.2.1.1;obtain ⟨bP,e⟩:=jJ hf;obtain ⟨g1,g2,g3,_⟩:=hM.heap.live.each _ bP;have um:=hs.live;rw [Ag hf bP] at um;rw [e,um] at g3;have h4:=h.1.QV (by simp;omega) out rfl;have h5:=h.2.1;exact ⟨h3,g3,⟨_,aet bP,e⟩,by omega,.PN h⟩
def CU (c:aN) (x:Slab) : Bool:=decide (0<x.ai) && !decide (x.At∈c.ak)
def Em (c:aN) (cpu:Nat) : Int:=idxOf (yu (c.ak.getD cpu 0)) c.ab
def iH (c:aN) (k:Nat) : Slab:=c.ab.getD k ⟨0,0,0⟩
def fB (h:k<c.ab.length) : iH c k=c.ab[k]:=by simp [iH,h]
def qz (c:aN) (cpu:Nat) : Int:=if 0<=Em c cpu∧0<(iH c (Em c cpu).toNat).ai then Em c cpu else idxOf (CU c) c.ab
def dL (c:aN) (cpu k:Nat) (v:Int) : aN:=⟨c.Names,c.ay,c.bL,c.Order,c.ab.set k ⟨(iH c k).At,(iH c k).ai-1,v⟩,c.ak.set cpu (iH c k).At⟩
def fe (c:aN) (a:Int) : Nat:=(c.ab.takeWhile fun x=>decide (x.At<a)).length
def pA (c:aN) (a:Int) : fe c a<=c.ab.length:=(List.takeWhile_sublist _).length_le
def ee (c:aN) (a:Int) : aN:=⟨c.Names,c.ay,c.bL,c.Order,aM c.ab (fe c a) ⟨a,c.bL,16*a⟩,c.ak⟩
def nz (s:ag) (l:List Int) : ag:=⟨l,s.Heap,s.aa⟩
def jz (n:Nat) (x s m:Int) : Prop:=1<=s∧s<=64∧1<=m∧m<=n∧0<=x∧x+s*m<=n
def dH (l:List Int) (x s m:Int) : List Int:=lm x.toNat s.toNat m.toNat l m.toNat
structure Ns where
 ws:List Int
 h:Heap
 c:aN
 k:Nat
inductive r9 (s:ag) (c:aN) (cpu:Nat) : Option Ns×Int->Prop where
 | u7 {k:Nat} (h:qz c cpu=k) : r9 s c cpu (some ⟨s.Words,s.Heap,c,k⟩,0)
 | room {u:Heap×Int×Int} (h:qz c cpu<0) (ha:cU s.Heap (cpu:Int) c.Order 0 u) (he:u.2.2≠0) : r9 s c cpu (none,u.2.2)
 | chain {u:Heap×Int×Int} (h:qz c cpu<0) (ha:cU s.Heap (cpu:Int) c.Order 0 u) (he:u.2.2=0) (hc : ¬ jz s.Words.length (16*u.2.1) c.ay c.bL) : r9 s c cpu (none,1)
 | new {u:Heap×Int×Int} (h:qz c cpu<0) (ha:cU s.Heap (cpu:Int) c.Order 0 u) (he:u.2.2=0) (hc:jz s.Words.length (16*u.2.1) c.ay c.bL) : r9 s c cpu (some ⟨dH s.Words (16*u.2.1) c.ay c.bL,u.1,ee c u.2.1,fe c u.2.1⟩,0)
def r9.dm {cpu:Nat} {u v:Option Ns×Int} (x:r9 s c cpu u) (y:r9 s c cpu v) : u=v:=by
 cases x with
 | @u7 k h=>cases y with
   | @u7 j h' =>
     obtain rfl:k=j:=by omega
     rfl
   | room h'|chain h'|new h'=>omega
 | room h ha he=>cases y with
   | u7 h'=>omega
   | room h' mR iv=>rw [ha.dm mR]
   | chain h' mR iv|new h' mR iv=>exact absurd (by rw [ha.dm mR];exact iv) he
 | chain h ha he hc=>cases y with
   | u7 h'=>omega
   | room h' mR iv=>exact absurd (by rw [mR.dm ha];exact he) iv
   | chain h' mR iv iq=>rfl
   | new h' mR iv iq=>exact absurd (by rw [ha.dm mR];exact iq) hc
 | new h ha he hc=>cases y with
   | u7 h'=>omega
   | room h' mR iv=>exact absurd (by rw [mR.dm ha];exact he) iv
   | chain h' mR iv iq=>exact absurd (by rw [mR.dm ha];exact hc) iq
   | new h' mR iv iq=>rw [ha.dm mR]
def mv (s:ag) (i cpu:Nat) : Option Ns×Int->ag×Int×Int
 | (some m,_)=>(bz (nz s m.ws) i (m.h,dL m.c cpu m.k (m.ws.getD (iH m.c m.k).cj.toNat 0)),(iH m.c m.k).cj,0)
 | (none,e)=>(.zero,0,e)
def xR {cpu:Nat} {m:Option Ns×Int} (hi:i<s.aa.length) (x:r9 s s.aa[i] cpu m) (hf:s.cS) (hn:(s.aa[i].ab.length+1)*24<=140737488355328) : (mv s i cpu m).1.small:=by
 have hc:=hf.PJ hi;have hs:=hf.small;have h1:=hc.small;cases x with
 | room|chain=>exact ag.kh
 | u7 h =>
   refine ⟨hs.words,hs.heap,by simp only [mv,bz,nz,List.length_set];exact hs.bo,fun c iq => ?_⟩;rcases aeI iq with iq|rfl
   ·exact hs.each c iq
   ·exact ⟨h1.names,by simp only [dL,List.length_set];exact h1.aB,by simp only [dL,List.length_set];exact h1.aV⟩
 | new h ha he XO =>
   refine ⟨by simp only [mv,bz,nz,dH,jy];exact hs.words,ha.small hs.heap,by simp only [mv,bz,nz,List.length_set];exact hs.bo,fun c iq => ?_⟩;rcases aeI iq with iq|rfl
   ·exact hs.each c iq
   ·refine ⟨h1.names,?_,by simp only [dL,ee,List.length_set];exact h1.aV⟩;simp only [dL,ee,List.length_set];rw [di _ (pA _ _)];exact hn
inductive pR (s:ag) (n:ByteArray) (cpu:Int) : ag×Int×Int->Prop where
 | ask (h:gV s n cpu≠0) : pR s n cpu (.zero,0,gV s n cpu)
 | EO {i:Nat} {m:Option Ns×Int} (h:gV s n cpu=0) (e:idxOf (dr n) s.aa=i) (hi:i<s.aa.length) (hm:r9 s s.aa[i] cpu.toNat m) : pR s n cpu (mv s i cpu.toNat m)
def pR.dm {u v:ag×Int×Int} (x:pR s n cpu u) (y:pR s n cpu v) : u=v:=by
 cases x with
 | ask h=>cases y with
   | ask=>rfl
   | EO h'=>exact absurd h' h
 | @EO i _ h e hi hm=>cases y with
   | ask h'=>exact absurd h h'
   | @EO j _ h' e' hj lA =>
     obtain rfl:i=j:=by omega
     rw [hm.dm lA]
def En (h:j<fe c a) (hj:j<c.ab.length) : c.ab[j].At<a:=by
 unfold fe at h;have h1:(c.ab.takeWhile fun x=>decide (x.At<a))[j]=c.ab[j]:=List.IsPrefix.getElem (List.takeWhile_prefix _) h
 have:=List.all_takeWhile (p:=fun x:Slab=>decide (x.At<a)) (l:=c.ab)
 rw [List.all_eq_true] at this;have:=this _ (aet h)
 rw [h1] at this;exact of_decide_eq_true this
def Ju:∀ (l:List α) (x : α),l[(l.takeWhile p).length]?=some x->p x=false
 | [],x,h=>by simp at h
 | a::r,x,h=>by
   rw [List.takeWhile_cons] at h;cases e:p a with
   | false =>
     rw [e] at h;simp at h;subst h;exact e
   | true =>
     rw [e] at h;simp at h;exact Ju r x h
def Jv (hk:k<=c.ab.length) (h1:∀ (j:Nat) (hj:j<c.ab.length),j<k->c.ab[j].At<a) (h2:∀ h:k<c.ab.length,¬ c.ab[k].At<a) : fe c a=k:=by
 rcases ae6 (fe c a) k with h|h|h
 ·exfalso;have h3:fe c a<c.ab.length:=by omega
  have h4:=Ju (p:=fun x:Slab=>decide (x.At<a)) c.ab c.ab[fe c a] (aez h3);exact of_decide_eq_false h4 (h1 _ h3 h)
 ·exact h
 ·exact absurd (En h (by have:=pA c a;omega)) (h2 _)
def tD (hM:rA s c) : c.ab.length<=256:=by
 have hn:=hM.next;rw [aeB] at hn
 have key:∀ (k:Nat) (hk:k<c.ab.length),(k:Int)<=c.ab[k].At:=by
  intro k;induction k with
  | zero=>intro hk;have:=(hM.pQ _ (aet hk)).at_;omega
  | succ k ih =>
    intro hk;have h1:=ih (by omega);have h2:=hn k (k+1) (by omega) hk (by omega);omega
 rcases ae5 256 c.ab.length with h|h
 ·have h1:=key 256 h;have h2:=(hM.pQ _ (aet h)).at_;omega
 ·exact h
def KR (hM:rA s c) {cpu:Nat} (hc:cpu<c.ak.length) :
 (c.ak[cpu] = -1∧Em c cpu = -1)∨(0<=c.ak[cpu] ∧ ∃ (k:Nat) (hk:k<c.ab.length),Em c cpu=k∧c.ab[k].At=c.ak[cpu]):=by
 have ha:=hM.cX cpu hc;have e:c.ak.getD cpu 0=c.ak[cpu]:=by simp [hc]
 unfold Em;rw [e];rcases ha with h|h
 ·left;refine ⟨h,(lg fun j hj => ?_).1⟩;rw [h];have:=(hM.pQ _ (aet hj)).at_
  unfold yu;exact decide_eq_false (by omega)
 ·right;obtain ⟨k,hk,h1,_,h2⟩:=iF h;have h3:=of_decide_eq_true h1;have:=(hM.pQ _ (aet hk)).at_
  exact ⟨by omega,k,hk,h2,h3⟩
def rA.first (hM:rA s c) {x:Slab} (hx:x∈c.ab) (hf : 0<x.ai) : (0<=x.cj∧x.cj<4096)∧ki s.Words c.ay c.bL x.At (s.Words.getD x.cj.toNat 0) (x.ai-1).toNat:=by
 have h:=(hM.pQ x hx).walk;rw [show x.ai.toNat=(x.ai-1).toNat+1 by omega] at h;have h2:=h.head;rw [hM.words] at h2;exact h2
structure UM (s:ag) (m:Ns) : Prop where
 hk:m.k<m.c.ab.length
 len:m.ws.length=4096
 first : 0<=m.c.ab[m.k].cj∧m.c.ab[m.k].cj<4096
 free : 1<=m.c.ab[m.k].ai∧m.c.ab[m.k].ai<=64
def FT {l:List α} {p:Nat} {x : α} (hp:p<=l.length) (h:p<(aM l p x).length) : (aM l p x)[p]=x:=by
 have:=lR (x:=x) hp
 rw [aez h] at this;exact Option.some.inj this
def Jw {cpu:Nat} (h:qz c cpu=k) : ∃ hk:k<c.ab.length,0<c.ab[k].ai:=by
 unfold qz at h;split at h
 ·rename_i h1;rw [h] at h1;have e:((k:Int)).toNat=k:=by omega
  rw [e] at h1
  have hk:k<c.ab.length:=by
   rcases ae5 k c.ab.length with h2|h2
   ·exact h2
   ·have:iH c k=⟨0,0,0⟩:=by simp [iH,List.getElem?_eq_none h2]
    rw [this] at h1;simp at h1
  rw [fB hk] at h1;exact ⟨hk,h1.2⟩
 ·have hg:=lJ (CU c) c.ab;rw [h,decide_eq_true (by omega)] at hg;obtain ⟨j,hj,h1,_,h2⟩:=iF hg.symm;rw [h] at h2;obtain rfl:k=j:=by omega
  refine ⟨hj,?_⟩;unfold CU at h1;simp only [Bool.and_eq_true,decide_eq_true_eq] at h1;exact h1.1
def r9.RM (hM:rA s c) {cpu:Nat} {u:Option Ns×Int} (x:r9 s c cpu u) : ∀ m,u.1=some m->UM s m:=by
 intro m e;cases x with
 | room|chain=>cases e
 | u7 h =>
   simp only [Option.some.injEq] at e;subst e;obtain ⟨hk,hf⟩:=Jw h;have:=(hM.pQ _ (aet hk)).free
   exact ⟨hk,hM.words,(hM.first (aet hk) hf).1,by simp only;omega⟩
 | @new u h ha he hc =>
   simp only [Option.some.injEq] at e;subst e;have kZ:=ha.at_ he;have hl:=bV hM.lay;have hp:=pA c u.2.1
   have hk:fe c u.2.1<(ee c u.2.1).ab.length:=by
    simp only [ee];rw [di _ hp];omega
   have e:(ee c u.2.1).ab[fe c u.2.1]=⟨u.2.1,c.bL,16*u.2.1⟩:=FT hp hk
   refine ⟨hk,by simp only [dH,jy];exact hM.words,?_,?_⟩
   ·simp only [e];omega
   ·simp only [e];omega
inductive vQ (l:List Int) : Int->List Int->Prop
 | nil:vQ l (-1) []
 | cons {k:Nat} {out:List Int} (hk:k<l.length) (h:vQ l l[k] out) : vQ l k ((k:Int)::out)
def gb.link {l:List Int} {x:Int} {r:Option (List Int)} (h:gb l most x acc r) : ∀ o,r=some o -> ∃ out,o=acc++out∧vQ l x out∧(acc.Nodup->o.Nodup)∧((acc.length:Int)<=most->(o.length:Int)<=most):=by
 induction h with
 | done out=>intro o e;cases e;exact ⟨[],by simp,.nil,fun h=>h,fun h=>h⟩
 | bad=>intro o e;cases e
 | @step k acc r h1 hk h3 h ih =>
   intro o e;obtain ⟨out,rfl,e2,e3,e4⟩:=ih o e;refine ⟨(k:Int)::out,by simp,.cons hk e2,fun hn=>e3 ?_,fun _=>e4 ?_⟩
   ·rw [afe];exact ⟨hn,by simp,fun a ha b hb=>by simp only [List.mem_singleton] at hb;subst hb;exact fun e=>h3 (e ▸ ha)⟩
   ·simp only [List.length_append,List.length_singleton];omega
def vQ.follows {l:List Int} {x:Int} {out:List Int} (h:vQ l x out) : ∀ acc:List Int,(acc++out).Nodup->((acc++out).length:Int)<=most->gb l most x acc (some (acc++out)):=by
 induction h with
 | nil=>intro acc _ _;rw [afU];exact .done acc
 | @cons k out hk h ih =>
   intro acc hn hl;have e:acc++(k:Int)::out=(acc++[(k:Int)])++out:=by simp
   refine .step ?_ hk ?_ ?_
   ·simp only [List.length_append,List.length_cons] at hl;omega
   ·intro hm;rw [afe] at hn;exact hn.2.2 _ hm _ (by simp) rfl
   ·rw [e] at hn hl ⊢;exact ih _ hn hl
def gD {x:Slab} {out:List Int} (hp : 0<=per) : bO ws size per x out↔vQ ws x.cj out∧out.Nodup∧(out.length:Int)<=per∧(out.length:Int)=x.ai ∧ ∀ a∈out,iu size per x.At a=true:=by
 constructor
 ·rintro ⟨h1,h2,h3⟩
  obtain ⟨o,e,k1,k2,k3⟩:=h1.link _ rfl;rw [afn] at e;subst e;exact ⟨k1,k2 (by simp),k3 (by simpa using hp),h2,h3⟩
 ·rintro ⟨h1,h2,h3,h4,h5⟩
  exact ⟨h1.follows [] (by simpa using h2) (by simpa using h3),h4,h5⟩
def vQ.congr {l l':List Int} {x:Int} {out:List Int} (h:vQ l x out) : (∀ a∈out,0<=a->l'[a.toNat]?=l[a.toNat]?)->vQ l' x out:=by
 induction h with
 | nil=>exact fun _ => .nil
 | @cons k out hk h ih =>
   intro he;have h1:=he k (by simp) (by omega);simp only [Int.toNat_natCast] at h1;rw [aez hk] at h1;obtain ⟨bP,e⟩:=aeQ.1 h1;refine .cons bP ?_;rw [e];exact ih fun a ha=>he a (by simp [ha])
def vQ.head {l:List Int} {x:Int} {out:List Int} (h:vQ l x out) (h0:out≠[]) : ∃ k rest,x=((k:Nat) : Int)∧out=x::rest ∧ ∃ hk:k<l.length,vQ l l[k] rest:=by
 cases h with
 | nil=>exact absurd rfl h0
 | @cons k out hk h=>exact ⟨k,out,rfl,rfl,hk,h⟩
def xh (x s:Nat) : Nat->Nat->List Int
 | 0,_=>[]
 | n+1,i=>((x+i*s:Nat) : Int)::xh x s n (i+1)
def Ax {x s:Nat}:∀ {n i:Nat} {a:Int},a∈xh x s n i ↔ ∃ j,i<=j∧j<i+n∧a=((x+j*s:Nat) : Int)
 | 0,i,a=>by simp [xh];intro j h1 h2;omega
 | n+1,i,a=>by
   simp only [xh,List.mem_cons,Ax (n:=n)];constructor
   ·rintro (rfl|⟨j,h1,h2,rfl⟩)
    ·exact ⟨i,aew _,by omega,rfl⟩
    ·exact ⟨j,by omega,by omega,rfl⟩
   ·rintro ⟨j,h1,h2,rfl⟩
    by_cases e:j=i
    ·subst e;exact .inl rfl
    ·exact .inr ⟨j,by omega,by omega,rfl⟩
def Ay {x s:Nat}:∀ (n i:Nat),(xh x s n i).length=n
 | 0,_=>rfl
 | n+1,i=>by simp [xh,Ay n]
def Az {x s:Nat} (hs : 0<s) : ∀ (n i:Nat),(xh x s n i).Nodup
 | 0,_=>by simp [xh]
 | n+1,i=>by
   simp only [xh,List.nodup_cons];refine ⟨fun h => ?_,Az hs n (i+1)⟩;obtain ⟨j,h1,h2,e⟩:=Ax.1 h;have h3:i*s<j*s:=Nat.mul_lt_mul_of_pos_right (by omega) hs
   omega
def CV {x s:Nat} (hs : 0<s) {l:List Int} (hl:∀ i,i<m->x+i*s<l.length) : ∀ (n i:Nat),i+n=m->0<n->vQ (lm x s m l m) ((x+i*s:Nat) : Int) (xh x s n i)
 | 0,_,_,h=>by omega
 | n+1,i,e,_=>by
   have hb:=hl i (by omega);have hlen:(lm x s m l m).length=l.length:=jy x s m l m
   have kZ:=xg x s m hs l i hb m (by omega);have hk:x+i*s<(lm x s m l m).length:=by omega
   rw [aez hk] at kZ;injection kZ with kZ
   simp only [xh];refine .cons hk ?_;rw [kZ];by_cases h0:n=0
   ·subst h0;rw [if_neg (by omega)];exact .nil
   ·rw [if_pos (by omega)];have:=CV hs hl n (i+1) (by omega) (by omega)
    have e2:((x+(i+1)*s:Nat) : Int)=(x:Int)+((i:Int)+1)*(s:Int):=by
     simp only [Int.natCast_add,Int.natCast_mul];rfl
    rwa [e2] at this
variable {M:Ns}
def VS.u6 {s:aj×aj} (h:VS s) : ∀ z∈[s.1,s.2],fV z:=fun z hz=>by
 obtain ⟨a1,a2,a3,_⟩:=h.mr.ok;obtain ⟨b1,b2,b3,_⟩:=h.lQ.ok;simp only [List.mem_cons,List.not_mem_nil,or_false] at hz;unfold fV;rcases hz with rfl|rfl<;>omega
def iD.align {t:Int} {u:aj×Int×Int} (h:iD z o t u) (h0:u.2.2=0) : u.2.1 % pw o=0:=by
 cases h with
 | bad|range|kind|room=>simp at h0
 | @ok k st hq ho ht hk hp =>
   have hz:=fD.1 hq;obtain ⟨_,p1,p2⟩:=hp.ord;obtain ⟨⟨f1,f2,f3,f4,f5⟩,_⟩:=hz.eV k hk;simp only;rcases fQ ho.1 ho.2 with ⟨e1,e2⟩|⟨e1,e2⟩|⟨e1,e2⟩|⟨e1,e2⟩|⟨e1,e2⟩<;>rcases fQ f1 f2 with ⟨g1,g2⟩|⟨g1,g2⟩|⟨g1,g2⟩|⟨g1,g2⟩|⟨g1,g2⟩<;>rw [g2] at f5<;>rw [e2]<;>omega
def j7.align {t:Int} {s:aj×aj} (h:j7 m0 m1 cpu zi o t f s L (some r)) : r.2.2 % pw o=0:=by
 cases h with
 | list ho hk hp =>
   rw [ho,jv];exact Int.emod_one _
 | u6 ho he ht hu=>exact ht.align hu
 | fill ho hk he ht hu hr=>exact ht.align hu
def mK.align {t:Int} {s:aj×aj} (h:mK m0 m1 cpu o t f s L (some r)) : r.2.2 % pw o=0:=by
 cases h with
 | wN _ h=>exact h.align
 | low _ h=>exact h.align
def nU {h:Heap} {t:Int} {y:Block}:y∈dX h a o t↔y=⟨a,o,t⟩∨y∈h.Live:=kQ
structure UN (h:Heap) (o:Int) (u:Heap×Int×Int) : Prop where
 at_ : 0<=u.2.1∧u.2.1<256
 al:u.2.1 % pw o=0
 ne:∀ b∈h.Live,b.At≠u.2.1
 u7:∀ b∈h.Live,b∈u.1.Live
 new:∃ b∈u.1.Live,b.At=u.2.1
 u6:∀ z∈u.1.bl,fV z
def cU.new {h:Heap} {u:Heap×Int×Int} (a:cU h cpu o f u) (he:u.2.2=0) : UN h o u:=by
 have kZ:=a.at_ he;cases a with
 | bad|range|form|room=>simp at he
 | once hb hr ht hz ha =>
   obtain ⟨z0,z1,F⟩:=gL (bT.1 hb);rw [F.d.cq] at hz;simp only [List.cons.injEq,and_true] at hz;obtain ⟨rfl,rfl⟩:=hz;have hf:=ha.found F.d.start.vs;obtain ⟨i,e,h1,hc⟩:=qy F hf.2;exact ⟨kZ,ha.align,F.tC e hc,fun b hb=>nU.2 (.inr hb),⟨_,nU.2 (.inl rfl),rfl⟩,hf.1.u6⟩
 | gQ hb hr ht hz ha h2 =>
   obtain ⟨z0,z1,F⟩:=gL (bT.1 hb);rw [F.d.cq] at hz;simp only [List.cons.injEq,and_true] at hz;obtain ⟨rfl,rfl⟩:=hz;have hf:=h2.found (fX F.d).vs;obtain ⟨i,e,h1,hc⟩:=oK F hf.2;exact ⟨kZ,h2.align,F.tC e hc,fun b hb=>nU.2 (.inr hb),⟨_,nU.2 (.inl rfl),rfl⟩,hf.1.u6⟩
def KS {t:Int} (hl:dp size=(o,per,0)) (ha:a % pw o=0) (ht:t % pw o=0) (bG:t≠a) {k:Int} (hk:iu size per t k=true) (j:Nat) (hj:(j:Int)<per) : k≠16*a+j*size:=by
 obtain ⟨l1,l2,l3⟩:=bV hl;unfold iu at hk;simp only [Bool.and_eq_true,decide_eq_true_eq] at hk
 have h1:(j:Int)*size+size<=per*size:=by
  have:=afV (show (j:Int)+1<=per by omega) (show 0<=size by omega)
  rwa [agL,agM] at this
 have h2 : 0<=(j:Int)*size:=af5 (by omega) (by omega)
 obtain ⟨q,hq⟩ : ∃ q,(j:Int)*size=q:=⟨_,rfl⟩;obtain ⟨m,hm⟩ : ∃ m,per*size=m:=⟨_,rfl⟩;have hp:=kr hl;rw [hq] at h1 h2 ⊢;rw [hm] at h1 hk hp;rcases hp with ⟨rfl,hp⟩|⟨rfl,hp⟩|⟨rfl,hp⟩
 ·omega
 ·rw [show pw 1=2 from rfl] at ha ht;omega
 ·rw [show pw 2=4 from rfl] at ha ht;omega
def AA (hl:dp size=(o,per,0)) (hc:jz ws.length (16*a) size per) : ∀ (j m:Nat),(m:Int)+j=per->ki (dH ws (16*a) size per) size per a (16*a+m*size) j
 | 0,m,_ => .zero _
 | j+1,m,h=>by
   obtain ⟨c1,c2,c3,c4,c5,c6⟩:=hc
   have h1:(m:Int)*size+size<=per*size:=by
    have:=afV (show (m:Int)+1<=per by omega) (show 0<=size by omega)
    rwa [agL,agM] at this
   have h2 : 0<=(m:Int)*size:=af5 (by omega) (by omega)
   rw [afD size per] at c6
   have e1 : 16*a+(m:Int)*size=(((16*a).toNat+m*size.toNat:Nat) : Int):=by
    rw [agJ,agi,ae1 (by omega),ae1 (by omega)]
   have e8:(16*a).toNat+m*size.toNat<ws.length:=by omega
   have PD:(dH ws (16*a) size per).length=ws.length:=by unfold dH;exact jy _ _ _ _ _
   have kZ:=xg (16*a).toNat size.toNat per.toNat (by omega) ws m e8 per.toNat (by omega);rw [e1];refine .succ (by omega) ?_ ?_
   ·rw [<- e1];exact Af c1 (by omega) rfl
   ·have e2:(dH ws (16*a) size per)[(16*a).toNat+m*size.toNat]'(by omega)=if m+1<per.toNat then (((16*a).toNat:Nat) : Int)+((m:Int)+1)*(size.toNat:Nat) else -1:=by
     have:=aez (l:=dH ws (16*a) size per) (i:=(16*a).toNat+m*size.toNat) (by omega)
     unfold dH at this;rw [kZ] at this;exact (Option.some.inj this).symm
    rw [e2];split
    ·have:=AA hl ⟨c1,c2,c3,c4,c5,by rw [afD size per];exact c6⟩ j (m+1) (by omega)
     rw [ae1 (show 0<=16*a by omega),ae1 (show 0<=size by omega)];exact this
    ·obtain rfl:j=0:=by omega
     exact .zero _
def rA.grow (hM:rA s c) {u:Heap×Int×Int} (hn:UN s.Heap c.Order u) (hc:jz s.Words.length (16*u.2.1) c.ay c.bL) {cs:List aN} (kK:cs.length=s.aa.length) : rA ⟨dH s.Words (16*u.2.1) c.ay c.bL,u.1,cs⟩ (ee c u.2.1):=by
 have hl:=bV hM.lay;have PD:(dH s.Words (16*u.2.1) c.ay c.bL).length=s.Words.length:=by unfold dH;exact jy _ _ _ _ _
 have Ee:=pA c u.2.1
 have bG:∀ x∈c.ab,x.At≠u.2.1:=fun x hx=>by
  obtain ⟨b,hb,e⟩:=(hM.pQ x hx).live;rw [<- e];exact hn.ne b hb
 have jc:∀ x∈c.ab,x∈(ee c u.2.1).ab:=fun x hx=>by
  simp only [ee];exact kQ.2 (.inr hx)
 have HI:=hM.next;have UO:=HI;rw [aeB] at UO;refine ⟨by simp only;rw [PD];exact hM.words,by simp only;rw [kK];exact hM.most,hM.lay,fun k h => ?_,?_,fun x hx => ?_⟩
 ·rcases hM.cX k h with g|g
  ·exact .inl g
  ·right;rw [aeG] at g ⊢;obtain ⟨y,hy,g⟩:=g;exact ⟨y,jc y hy,g⟩
 ·have e:c.ab=c.ab.take (fe c u.2.1)++c.ab.drop (fe c u.2.1):=(aex _ _).symm
  have h0:=HI;rw [e,aeT] at h0;obtain ⟨h1,h2,h3⟩:=h0
  have hA:∀ x∈c.ab.take (fe c u.2.1),x.At<u.2.1:=fun x hx=>by
   obtain ⟨j,hj,rfl⟩:=aeu hx;simp only [List.length_take] at hj;rw [ae3];exact En (by omega) (by omega)
  have hB:∀ x∈c.ab.drop (fe c u.2.1),u.2.1<x.At:=fun x hx=>by
   obtain ⟨j,hj,rfl⟩:=aeu hx;have hjd:j<c.ab.length-fe c u.2.1:=by rw [<- List.length_drop];exact hj
   rw [afl];have Pt:fe c u.2.1<c.ab.length:=by omega
   have h5:=Ju (p:=fun x:Slab=>decide (x.At<u.2.1)) c.ab c.ab[fe c u.2.1] (aez Pt);have h6:=of_decide_eq_false h5;have h7:=bG _ (aet (show fe c u.2.1+j<c.ab.length by omega));rcases aeL j with rfl|Hr
   ·simp only [Nat.add_zero] at h7 ⊢;omega
   ·have:=UO (fe c u.2.1) (fe c u.2.1+j) (by omega) (by omega) (by omega)
    omega
  simp only [ee];unfold aM;rw [aey,aeT];refine ⟨h1,?_,fun a ha b hb => ?_⟩
  ·rw [aeO,afq];exact ⟨hB,h2⟩
  ·rw [aeO,afx] at hb;rcases hb with rfl|hb
   ·exact hA a ha
   ·exact h3 a ha b hb
 ·simp only [ee] at hx ⊢;have pe:=kQ.1 hx;have kZ:=hn.at_;rcases pe with rfl|pe
  ·refine ⟨by simp only;omega,hn.al,hn.new,by simp only;omega,?_⟩;have:=AA hM.lay hc c.bL.toNat 0 (by omega)
   simpa using this
  ·have hs:=hM.pQ x pe;obtain ⟨b,hb,e⟩:=hs.live;refine ⟨hs.at_,hs.al,⟨b,hn.u7 b hb,e⟩,hs.free,hs.walk.jQ PD fun k hk ho => ?_⟩
   have h1:(lm (16*u.2.1).toNat c.ay.toNat c.bL.toNat s.Words c.bL.toNat)[k]?=s.Words[k]?:=rz _ _ _ _ _ _ fun j hj e2=>by
    have h2:=KS hM.lay hn.al hs.al (bG x pe) ho j (by omega);apply h2;rw [e2,agJ,agi,ae1 (by omega),ae1 (by omega)]
   rw [aez hk,aez (by rw [jy];exact hk)] at h1;exact Option.some.inj h1
def rA.take (hM:rA s c) {cpu:Nat} (hk:k<c.ab.length) (hf : 0<c.ab[k].ai) {cs:List aN} (kK:cs.length=s.aa.length) : rA ⟨s.Words,s.Heap,cs⟩ (dL c cpu k (s.Words.getD (iH c k).cj.toNat 0)):=by
 have hm:=aet hk;have hs:=hM.pQ _ hm;have hw:=(hM.first hm hf).2;have hD:=fB hk
 have iU:∀ t,c.ab.any (yu t)=true->(c.ab.set k ⟨c.ab[k].At,c.ab[k].ai-1,s.Words.getD c.ab[k].cj.toNat 0⟩).any (yu t)=true:=fun t g=>by
  rw [aeG] at g ⊢;obtain ⟨y,hy,g⟩:=g;obtain ⟨j,hj,rfl⟩:=aeu hy;by_cases e:k=j
  ·subst e;exact ⟨_,List.mem_set hk _,g⟩
  ·refine ⟨_,aet (show j<_ by rw [ae0];exact hj),?_⟩;rwa [List.getElem_set_ne e]
 unfold dL;rw [hD];refine ⟨hM.words,by simp only;rw [kK];exact hM.most,hM.lay,fun j h => ?_,?_,fun x hx => ?_⟩
 ·simp only at h ⊢;rw [ae0] at h;rw [aeP];split
  ·right;refine iU _ ?_;rw [aeG];exact ⟨_,hm,by unfold yu;exact decide_eq_true rfl⟩
  ·rcases hM.cX j h with g|g
   ·exact .inl g
   ·exact .inr (iU _ g)
 ·have HI:=hM.next;have e:∀ l:List Slab,(l.Pairwise fun x y=>x.At<y.At)↔(l.map fun x=>x.At).Pairwise (· < ·):=fun l=>by rw [af6]
  rw [e] at HI;simp only;rw [e,afR]
  have e3:(c.ab.map fun x=>x.At).set k c.ab[k].At=c.ab.map fun x=>x.At:=by
   have Cd:k<(c.ab.map fun x=>x.At).length:=by rw [List.length_map];exact hk
   have e4:(c.ab.map fun x=>x.At)[k]=c.ab[k].At:=afS ..
   rw [<- e4];exact afb Cd
  rw [e3];exact HI
 ·simp only at hx;rcases aeI hx with hx|rfl
  ·have h:=hM.pQ x hx;exact ⟨h.at_,h.al,h.live,h.free,h.walk⟩
  ·have:=hs.free
   exact ⟨hs.at_,hs.al,hs.live,by simp only;omega,hw⟩
structure Bk (s:ag) (i cpu:Nat) : Prop where
 cS:s.cS
 hi:i<s.aa.length
 inv:rA s s.aa[i]
 qA:cpu<s.aa[i].ak.length
def uM (s:ag) (i cpu:Nat) (M:Ns) : ag:=bz (nz s M.ws) i (M.h,dL M.c cpu M.k (M.ws.getD (iH M.c M.k).cj.toNat 0))
def Bk.EO {cpu:Nat} (h:Bk s i cpu) (x:r9 s (s.aa[i]'h.hi) cpu (some M,0)) : Bk (uM s i cpu M) i cpu:=by
 have hi:=h.hi;have mm:=x.RM h.inv M rfl;have wT:=tD h.inv;have ri:=xR hi x h.cS (by omega);have hlen:(s.aa.set i (dL M.c cpu M.k (M.ws.getD (iH M.c M.k).cj.toNat 0))).length=s.aa.length:=ae0 ..
 have hinv:rA ⟨M.ws,M.h,s.aa⟩ M.c∧(∀ z∈M.h.bl,fV z)∧M.c.Names=s.aa[i].Names∧M.c.ak.length=s.aa[i].ak.length:=by
  cases x with
  | u7 hp=>exact ⟨h.inv,h.cS.cq,rfl,rfl⟩
  | new hp ha he hc =>
    have hn:=ha.new he;exact ⟨h.inv.grow hn hc rfl,hn.u6,rfl,rfl⟩
 obtain ⟨hb,hz,pu,KT⟩:=hinv;have lH:=mm.free;have V3:=hb.take (cpu:=cpu) mm.hk (by omega) hlen
 have Si:i<(uM s i cpu M).aa.length:=by
  simp only [uM,bz,nz];rw [hlen];exact hi
 have kZ:(uM s i cpu M).aa[i]=dL M.c cpu M.k (M.ws.getD (iH M.c M.k).cj.toNat 0):=by simp only [uM,bz,nz,List.getElem_set_self]
 refine ⟨⟨ri,hz,fun c' iq x' pe => ?_,fun c' iq n hn => ?_⟩,Si,?_,?_⟩
 ·simp only [uM,bz,nz] at iq;rcases aeI iq with iq|rfl
  ·exact h.cS.aB c' iq x' pe
  ·have:=(V3.pQ x' pe).at_
   omega
 ·simp only [uM,bz,nz] at iq;rcases aeI iq with iq|rfl
  ·exact h.cS.names c' iq n hn
  ·simp only [dL] at hn;rw [pu] at hn;exact h.cS.names _ (aet hi) n hn
 ·rw [kZ];exact V3
 ·rw [kZ];simp only [dL,List.length_set];rw [KT];exact h.qA
inductive oL (i cpu:Nat) : Nat->ag->List Int->ag×List Int×Int->Prop where
 | done {s:ag} {l:List Int}:oL i cpu 0 s l (s,l,0)
 | bad {k:Nat} {s:ag} {l:List Int} {m:Option Ns×Int} (hi:i<s.aa.length) (hm:r9 s s.aa[i] cpu m) (h:m.1=none) : oL i cpu (k+1) s l (.zero,[],m.2)
 | more {k:Nat} {s:ag} {l:List Int} {M:Ns} {u:ag×List Int×Int} (hi:i<s.aa.length) (hm:r9 s s.aa[i] cpu (some M,0)) (h:oL i cpu k (uM s i cpu M) (l++[(iH M.c M.k).cj]) u) : oL i cpu (k+1) s l u
def oL.dm {cpu:Nat} {l:List Int} {u v:ag×List Int×Int} (x:oL i cpu k s l u) : oL i cpu k s l v->u=v:=by
 induction x with
 | done=>intro y;cases y;rfl
 | bad hi hm h=>intro y;cases y with
   | bad mo lA h'=>rw [hm.dm lA]
   | more mo lA _=>rw [hm.dm lA] at h;cases h
 | more hi hm h ih=>intro y;cases y with
   | bad mo lA h'=>rw [<- hm.dm lA] at h';cases h'
   | more mo lA h' =>
     have e:=hm.dm lA;simp only [Prod.mk.injEq,Option.some.injEq,and_true] at e;subst e;exact ih h'
inductive oM (s:ag) (n:ByteArray) (cpu many:Int) : ag×List Int×Int->Prop where
 | ask (h:gV s n cpu≠0) : oM s n cpu many (.zero,[],gV s n cpu)
 | range (h:gV s n cpu=0) (hm : ¬ (1<=many∧many<=256)) : oM s n cpu many (.zero,[],1)
 | EO {i:Nat} {u:ag×List Int×Int} (h:gV s n cpu=0) (hm : 1<=many∧many<=256) (e:idxOf (dr n) s.aa=i) (hr:oL i cpu.toNat many.toNat s [] u) : oM s n cpu many u
def oM.dm {many:Int} {u v:ag×List Int×Int} (x:oM s n cpu many u) (y:oM s n cpu many v) : u=v:=by
 cases x with
 | ask h=>cases y with
   | ask=>rfl
   | range h'|EO h'=>exact absurd h' h
 | range h hm=>cases y with
   | ask h'=>exact absurd h h'
   | range=>rfl
   | EO _ lA=>exact absurd lA hm
 | @EO i _ h hm e hr=>cases y with
   | ask h'=>exact absurd h h'
   | range _ lA=>exact absurd hm lA
   | @EO j _ _ _ e' qN =>
     obtain rfl:i=j:=by omega
     exact hr.dm qN
def PO (h:gV s n cpu=0) (hf:s.cS) : ∃ i c:Nat,idxOf (dr n) s.aa=i∧cpu=(c:Int)∧aA s∧Bk s i c:=by
 obtain ⟨hq,ht,V5,Cx⟩:=lc h;obtain ⟨i,hi,_,_,oe⟩:=iF ht;have hM:=iE.1 hq;obtain ⟨c,rfl⟩:=aeE V5;have KT:=(hM.each i hi).may.aV;exact ⟨i,c,oe,rfl,hM,hf,hi,.of hM hi,by omega⟩
end Go.Proofs.YtenhkiaaebnggaaGreatDoor
