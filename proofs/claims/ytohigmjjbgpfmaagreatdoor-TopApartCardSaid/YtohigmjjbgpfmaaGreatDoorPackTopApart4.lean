/- Part 4 of what topApart_holds leans on. -/
import Derived.Test.YtohigmjjbgpfmaaGreatDoorPackTopApart3
set_option linter.unusedVariables false
set_option linter.unusedSimpArgs false
set_option linter.defProp false
open Go.Proofs.Tryz
namespace Go.Proofs.YtohigmjjbgpfmaaGreatDoor
open Go.RowKit
variable {w w':World}
def kL:List Int:=[1,2,4,8,16,32]
def J3 (k:Int) : ByteArray:=if k=1 then ⟨#[49]⟩ else if k=2 then ⟨#[50]⟩ else if k=4 then ⟨#[52]⟩ else if k=8 then ⟨#[56]⟩ else if k=16 then ⟨#[49,54]⟩ else ⟨#[51,50]⟩
def fB (k:Int) : ByteArray:=if k=1 then ⟨#[107,49]⟩ else if k=2 then ⟨#[107,50]⟩ else if k=4 then ⟨#[107,52]⟩ else if k=8 then ⟨#[107,56]⟩ else if k=16 then ⟨#[107,49,54]⟩ else ⟨#[107,51,50]⟩
theorem vo {k:Int} (h:k∈kL) : k=1∨k=2∨k=4∨k=8∨k=16∨k=32:=by simpa [kL] using h
theorem J4 (k:Int) (hk:k∈kL) (w:World) : bF prog 161 [.int .i64 k] w fun v _=>v = .string (J3 k):=by
 refine aC func161 rfl ntmps161 rfl ?_;have hw:=Ext.refl w;rcases vo hk with rfl|rfl|rfl|rfl|rfl|rfl
 all_goals
  refine Wz ?_;refine SW.st (E9 rfl rfl rfl (by decide) (by decide) (of_decide_eq_true (by kernel_rfl)) rfl) rfl ?_;refine Wz ?_;exact ae.bg rfl rfl ⟨_,rfl,hw,congrArg Value.string (by kernel_rfl)⟩
theorem BA (k:Int) (hk:k∈kL) (w:World) : bF prog 142 [.int .i64 k,.int .i64 10] w fun v _=>v = .string (J3 k):=by
 refine aC func142 rfl ntmps142 rfl ?_;have hw:=Ext.refl w;have bW : 1<=k∧k<=32:=by rcases vo hk with h|h|h|h|h|h<;>omega
 repeat' (first|refine Wz ?_|(refine Wk (J4 k hk _) ?_;intro v w1 ai hv;subst hv;have hw:=hw.trans ai;clear ai))
 exact ae.bg rfl rfl ⟨_,rfl,hw,rfl⟩
theorem J5 (k:Int) (hk:k∈kL) (w:World) : bF prog 93 [.int .i64 k] w fun v _=>v = .string (J3 k):=by
 refine aC func93 rfl ntmps93 rfl ?_;have hw:=Ext.refl w;repeat' (first|refine Wz ?_|(refine Wk (BA k hk _) ?_;intro v w1 ai hv;subst hv;have hw:=hw.trans ai;clear ai))
 exact ae.bg rfl rfl ⟨_,rfl,hw,rfl⟩
theorem Mq (k:Int) (hk:k∈kL) (w:World) : bF prog 54 [.int .i64 k] w fun v _=>v = .string (J3 k):=by
 refine aC func54 rfl ntmps54 rfl ?_;have hw:=Ext.refl w;repeat' (first|refine Wz ?_|(refine Wk (J5 k hk _) ?_;intro v w1 ai hv;subst hv;have hw:=hw.trans ai;clear ai))
 exact ae.bg rfl rfl ⟨_,rfl,hw,rfl⟩
theorem wJ (k:Int) (hk:k∈kL) (w:World) : bF prog 24 [.int .i64 k] w fun v _=>v = .string (fB k):=by
 refine aC func24 rfl ntmps24 rfl ?_;have hw:=Ext.refl w;have e:(⟨#[107]⟩ : ByteArray)++J3 k=fB k:=by rcases vo hk with rfl|rfl|rfl|rfl|rfl|rfl<;>kernel_rfl
 have hs:(⟨#[107]⟩ : ByteArray).size+(J3 k).size<=9223372036854775807:=by rcases vo hk with rfl|rfl|rfl|rfl|rfl|rfl<;>decide
 repeat' (first|refine Wz ?_|(refine Wk (Mq k hk _) ?_;intro v w1 ai hv;subst hv;have hw:=hw.trans ai;clear ai)|(refine SW.st ((J2 rfl rfl hs).eq (congrArg Value.string e)) rfl ?_))
 exact ae.bg rfl rfl ⟨_,rfl,hw,rfl⟩
def oX (c:aQ) : Bool:=kL.any fun k=>dQ (fB k) c
structure iC (w:World) : Prop where
 sl:Sl w 1 bw (some ⟨0,0,none⟩) 6 kL
theorem iC.ext (h:iC w) (hx:Ext w w') : iC w':=⟨h.sl.ext hx⟩
theorem J6 (k:Int) (hk:k∈kL) (x:dS) (c:aQ) (b1:Nat) (w:World) (h1:aS w b1 107 (fQ x)) (hx:GY w x c) (hn:x.Names.n<=9223372036854775807) :
 bF prog 126 ([.int .i64 k]++[.pointer (some ⟨b1,0,none⟩)]) w fun v _=>v = .bool (dQ (fB k) c):=by
 refine aC func126 rfl ntmps126 rfl ?_;have hw:=Ext.refl w;repeat' (first|refine Wz ?_|((apply CW.bH mixed;(· kernel_rfl);rotate_left;intro w1 ai;have hw:=hw.trans ai;clear ai;rotate_right))|refine SW.dK rfl rfl (fun w1 ai=>(wJ k hk _)) ?_|refine SW.dK rfl rfl (fun w1 ai=>(oc _ _ _ _ _ _ (hx.names.ext (hw.trans ai)) hn)) ?_|exact SW.eU rfl)
 exact ae.bg rfl rfl ⟨_,rfl,hw,rfl⟩
theorem zY (x:dS) (c:aQ) (w:World) (hx:GY w x c) (hn:x.Names.n<=9223372036854775807) (hS:iC w) :
 bF prog 72 [.agg (fQ x).toArray] w fun v _=>v = .bool (oX c):=by
 refine aC func72 rfl ntmps72 rfl ?_;refine CW.seq (CW.region (SW.box rfl rfl fun b1 w1 hw lp aZ => ?_));repeat' (first|refine Wz ?_|refine SW.st (Fa rfl) rfl ?_|(refine SW.st (iK (vs:=[.pointer (some ⟨b1,0,none⟩)]) rfl) rfl ?_))
 refine Wk (iL _ _ _ kL _ (hS.sl.ext hw) _ [.pointer (some ⟨b1,0,none⟩)] (fun k=>dQ (fB k) c) (fun k => .int .i64 k) (fun k=>rfl) (fun k hk w1 kW=>J6 k hk x c b1 w1 (aZ.ext kW) (hx.ext (hw.trans kW)) hn) (by omega)) fun v w4 kz hv => ?_
 subst hv;have hw:=hw.trans kz;refine Wz ?_;exact ae.bg rfl rfl ⟨_,rfl,hw,rfl⟩
def hU (n:Int) : ByteArray:=if n<=1 then fB 1 else if n<=2 then fB 2 else if n<=4 then fB 4 else if n<=8 then fB 8 else if n<=16 then fB 16 else if n<=32 then fB 32 else ⟨#[]⟩
variable {held:Bool} {ps:List MemPlace} {cs:List Value} {fuel:Nat} {spare:Nat->Bool} {W:World}
theorem Fb : prog.globalNamed "paddock/kmem.sizes" = some 0 := by kernel_rfl
theorem Hj:(prog.globals[0]?).map (·.type)=some 78:=by kernel_rfl
set_option maxRecDepth 100000 in
theorem Fc {p:List MemPlace} {enc:TypeId×Value->Unit} {base:Nat} (h:DataW.trod enc prog W base spare held fuel 78 cs=some (Rows.laid_paddock_kmem_sizes,p)) :
 cs=[.int .i64 1,.int .i64 2,.int .i64 4,.int .i64 8,.int .i64 16,.int .i64 32]:=by
 have c6:prog.cellsOf 78=6:=by kernel_rfl
 have c1:prog.cellsOf 3=1:=by kernel_rfl
 obtain ⟨xs,m,rfl,hx,hlen,hn,EF⟩:=DataW.trod_array Tryz.underlying78 h;rw [c6] at hlen;rw [c1] at EF;simp only [Prod.mk.injEq] at hx
 have one:∀ (a:Value) (u:Int) (x:DataW Unit×List MemPlace),DataW.trod enc prog W base spare held m 3 [a]=some x->x.1 = .lit (.int .i64 u)->a = .int .i64 u:=by
  intro a u x hx e;obtain ⟨z0,e0,f0,_⟩:=DataW.trod_int Tryz.underlying3 hx;rw [f0] at e;simp at e e0;rw [e0,e]
 match cs,hlen,xs,hn with
 | [a,b,c,d,e,f],_,[x0,x1,x2,x3,x4,x5],_ =>
   have kW:=hx.1;simp only [Rows.laid_paddock_kmem_sizes,List.map_cons,List.map_nil,DataW.agg.injEq,List.cons.injEq,and_true] at kW;obtain rfl:=one a 1 x0 (EF 0 (by decide)) kW.1.symm;obtain rfl:=one b 2 x1 (EF 1 (by decide)) kW.2.1.symm;obtain rfl:=one c 4 x2 (EF 2 (by decide)) kW.2.2.1.symm;obtain rfl:=one d 8 x3 (EF 3 (by decide)) kW.2.2.2.1.symm;obtain rfl:=one e 16 x4 (EF 4 (by decide)) kW.2.2.2.2.1.symm;obtain rfl:=one f 32 x5 (EF 5 (by decide)) kW.2.2.2.2.2.symm
   rfl
theorem Mr (h : DataW.LaidVars prog W [("paddock/kmem.sizes", Rows.laid_paddock_kmem_sizes)] ps) : iC W := by
 obtain ⟨g0,t0,Cf,f0,p0,q0,GD,UX,Eb,Sd,_⟩:=h;obtain rfl:=Option.some.inj (Fb.symm.trans GD);obtain rfl:=Option.some.inj (Hj.symm.trans UX);have hc:=Fc Sd
 have xl:∀ i,W.cell? ⟨0,i,none⟩=Cf.toList[i]?:=fun i=>by
  have:=World.var?_cell GD Eb i
  simpa using this
 refine ⟨⟨rfl,fun _=>rfl,fun i hi j u hu => ?_⟩⟩;have hi6:i<6:=hi
 rw [add_add];show W.cell? ((⟨0,0,none⟩ : Addr).add _)=_
 rw [dc,xl,hc]
 have hj:j=0:=by
  rcases adu j with h|h
  ·exact h
  ·rw [adY (by simp [bw];omega)] at hu;cases hu
 subst hj;rcases (show i=0∨i=1∨i=2∨i=3∨i=4∨i=5 by omega) with rfl|rfl|rfl|rfl|rfl|rfl
 all_goals simpa [kL,bw] using hu
variable {D1 D2 D3:DataW Unit}
theorem J7 (h : DataW.LaidVars prog W [("paddock/buddy.others", Rows.laid_paddock_buddy_others)] ps) : mN W := by
 obtain ⟨g0,t0,Cf,f0,p0,q0,GD,UX,Eb,Sd,_⟩:=h;obtain rfl:=Option.some.inj (Dl.symm.trans GD);obtain rfl:=Option.some.inj (EE.symm.trans UX);have hc:=Dm Sd;refine ⟨fun k hk j v hv => ?_⟩
 have xl:∀ i,W.cell? ⟨1,i,none⟩=Cf.toList[i]?:=fun i=>by
  have:=World.var?_cell GD Eb i
  simpa using this
 rw [add_add,dc,xl,hc];rcases (show k=0∨k=1∨k=2 by omega) with rfl|rfl|rfl
 all_goals
  match j,hv with
  | 0,hv=>simpa [Bt,Bu] using hv
  | 1,hv=>simpa [Bt,Bu] using hv
theorem sC (hp : ([("math/bits.deBruijn32tab", D1), ("math/bits.deBruijn64tab", D2), ("internal/strconv.uint64pow10", D3), ("paddock/buddy.others", Rows.laid_paddock_buddy_others), ("paddock/kmem.sizes", Rows.laid_paddock_kmem_sizes)].all fun x => x.2.handleName?.isNone) = true)
 (h : laidMetH prog [("math/bits.deBruijn32tab", D1), ("math/bits.deBruijn64tab", D2), ("internal/strconv.uint64pow10", D3), ("paddock/buddy.others", Rows.laid_paddock_buddy_others), ("paddock/kmem.sizes", Rows.laid_paddock_kmem_sizes)] W) : iC W ∧ mN W := by
 rw [MakeChecks.laidMetH_plain _ _ _ hp] at h;obtain ⟨ps,⟨_,_,_,_,_,_,_,_,_,_,⟨_,_,_,_,_,_,_,_,_,_,⟨_,_,_,_,_,_,_,_,_,_,⟨g0,t0,Cf,f0,p0,q0,a1,a2,a3,a4,h5,_⟩,_⟩,_⟩,_⟩,_,_⟩:=h;exact ⟨Mr h5,J7 ⟨g0,t0,Cf,f0,p0,[],a1,a2,a3,a4,rfl,rfl⟩⟩
theorem vp (A:Option Addr) (n c:Nat) (l:List ByteArray) (w:World) (hl:Sl w 1 encStr A n l) (hn:n*16<=140737488355328) : bF prog 39 [.slice A n c] w (zj w 9 1 encStr n l):=by
 refine aC func39 rfl ntmps39 rfl ?_;have hw:=Ext.refl w;refine Wz ?_;refine SW.st (r7 rfl rfl) rfl ?_;repeat' (first|refine Wz ?_|(refine CW.cond rfl (fun h => ?_) (fun h => ?_)))
 ·have Gv:n=0:=by
   rcases adu n with h0|h0
   ·exact h0
   ·have:=hl.base h0;simp_all
  subst Gv;have:l=[]:=adw hl.len
  subst this;exact ae.bg rfl rfl ⟨_,rfl,hw,none,0,rfl,Own.fF _ _ _ _ _ _⟩
 ·refine SW.za rfl fun b w1 ai hb => ?_
  have hw:=hw.trans ai;refine Wz ?_;refine SW.uW (aeD n) (ad5 l) (Own.fF w1 w.heap.size _ _ encStr (some ⟨b,0,none⟩)) (hl.ext hw) hw.size rfl rfl rfl (by omega) (by omega) fun A2 c2 w2 hO hg => ?_
  have hw:=aD hw hg (adg _) (by simp [aJ]);refine Wz ?_;exact ae.bg rfl rfl ⟨_,rfl,hw,A2,c2,rfl,hO⟩
variable {α:Type} {s:ah} {lo oA sz:Nat} {e:TypeId} {enc:α -> List Value}
def apart (a b:gb) : Prop := ∀ k,aJ a.A a.c=some k->aJ b.A b.c≠some k
theorem qa {a b:gb} {l:List α} (h:Own w lo e sz enc a.A a.n a.c l) (hb:∀ k,aJ b.A b.c=some k->w.heap.size<=k) : apart a b:=fun k h1 h2=>by
 have:=h.lt_size k h1
 have:=hb k h2
 omega
structure lJ (u v:dS) : Prop where
 names:apart u.Names v.Names
 aE:apart u.ab v.ab
 ba:apart u.ap v.ap
structure x8 (words:gb) (cs:List dS) : Prop where
 pair:cs.Pairwise lJ
 words:∀ u∈cs,apart words u.ap
theorem x8.nil (x:gb) : x8 x []:=⟨.nil,fun _ h=>by simp at h⟩
theorem x8.snoc {x:gb} {cs:List dS} {v:dS} (h:x8 x cs) (h1:∀ u∈cs,lJ u v) (h2:apart x v.ap) : x8 x (cs++[v]):=by
 refine ⟨adA.2 ⟨h.pair,by simp,fun a ha b hb => ?_⟩,fun u hu => ?_⟩
 ·simp at hb;subst hb;exact h1 a ha
 ·rcases adm.1 hu with hu|hu
  ·exact h.words u hu
  ·simp at hu;subst hu;exact h2
structure IR (w:World) (lo:Nat) (r:da) (s:ah) (cs:List dS) : Prop where
 words:Own w lo 3 1 bw r.Words.A r.Words.n r.Words.c s.Words
 heap:jH w lo r.Heap s.Heap
 br:fw w lo r.aa cs s.aa
 sep:x8 r.Words cs
theorem IR.low {r:da} {cs:List dS} (h:IR w lo r s cs) (hl:oA<=lo) : IR w oA r s cs:=⟨h.words.low hl,h.heap.low hl,h.br.low hl,h.sep⟩
theorem fw.mem {s:gb} {cs:List dS} {l:List aQ} (h:fw w lo s cs l) {u:dS} (hu:u∈cs) : ∃ c,oE w lo u c:=by
 obtain ⟨i,hi,rfl⟩:=ade hu;exact ⟨_,h.each.get i hi (by rw [<- h.each.len];exact hi)⟩
theorem fw.Yh {s:gb} {cs:List dS} {l:List aQ} (h:fw w lo s cs l) {b:gb} (hb:∀ k,aJ b.A b.c=some k->w.heap.size<=k) : ∀ u∈cs,apart u.Names b:=fun u hu=>by
 obtain ⟨c,hc⟩:=h.mem hu;exact qa hc.names hb
theorem fw.Yi {s:gb} {cs:List dS} {l:List aQ} (h:fw w lo s cs l) {b:gb} (hb:∀ k,aJ b.A b.c=some k->w.heap.size<=k) : ∀ u∈cs,apart u.ab b:=fun u hu=>by
 obtain ⟨c,hc⟩:=h.mem hu;exact qa hc.aE hb
theorem fw.Yj {s:gb} {cs:List dS} {l:List aQ} (h:fw w lo s cs l) {b:gb} (hb:∀ k,aJ b.A b.c=some k->w.heap.size<=k) : ∀ u∈cs,apart u.ap b:=fun u hu=>by
 obtain ⟨c,hc⟩:=h.mem hu;exact qa hc.ba hb
set_option maxHeartbeats 4000000 in
theorem Hk (r:da) (s:ah) (w:World) (hr:Bh w r s) (hs:s.small) :
 bF prog 17 [.agg (aP r).toArray] w fun v w' => ∃ q zr,v = .agg (aP q).toArray∧IR w' w.heap.size q s zr:=by
 refine aC func17 rfl ntmps17 rfl ?_;refine CW.seq (CW.region (SW.box rfl rfl fun b1 w1 hw lp aZ => ?_));refine SW.alloc rfl fun b2 w2 bt fA au => ?_
 have u5:=hw.up fA
 have OC:b2≠b1:=by have:=aZ.lt;omega
 (obtain ⟨hw,aZ⟩:=df bt hw aZ);obtain ⟨cs,hc⟩:=hr.br;have Sq:=hr.words.len;have s1:=hs.words;have s3:=hs.br;obtain ⟨c1,c2⟩:=hc.len;refine Wz ?_
 obtain ⟨K,hK⟩ : ∃ K:Env->World->Prop,K=fun L' w' => ∃ X c1 G b3,iw L' [(1,.pointer (some ⟨b1,0,none⟩)),(2,.pointer (some ⟨b2,0,none⟩)),(3,.pointer (some ⟨b3,0,none⟩))]∧Ext w w'∧aS w' b1 44 (aP r)∧aS w' b2 44 (aP .zero) ∧
  aS w' b3 44 (aP ⟨⟨X,r.Words.n,c1⟩,G,.nil⟩)∧Own w' w.heap.size 3 1 bw X r.Words.n c1 s.Words∧jH w' w.heap.size G s.Heap∧w.heap.size<=b3∧b1≠b3∧b2≠b3:=⟨_,rfl⟩
 refine CW.cut K ?_ ?_
 ·focus
   refine CW.any 8 mixed (dk (by kernel_rfl)) rfl fun w1 ai aG => ?_
   obtain ⟨hw,aZ,au⟩:=cn ai hw aZ au;clear ai;refine Wa ?_;refine Wu 4 aG rfl (aX rfl rfl ((mo aZ))) ?_;refine SA.two 2 7 rfl rfl (by kernel_rfl) rfl rfl ?_ ?_
   focus
    refine Wk (dF _ _ _ _ _ (hr.words.ext hw) (by omega)) fun v w4 ak hv => ?_
    obtain ⟨X,c4,rfl,hX⟩:=hv;have hX:=hX.low hw.size;obtain ⟨hw,aZ,au⟩:=cn ak hw aZ au;try have aq:=aq.ext ak
    refine SW.nil (ae.sa ak ?_);refine SA.two 5 7 rfl rfl (by kernel_rfl) rfl rfl ?_ ?_
    focus
     refine Wk (mn _ _ _ (hr.heap.ext hw) hs.heap) fun v w4 ak hv => ?_
     obtain ⟨G,rfl,hY⟩:=hv;have hY:=hY.low hw.size;obtain ⟨hX,hw,aZ,au⟩:=dv ak hX hw aZ au;try have aq:=aq.ext ak
     refine SW.nil (ae.sa ak ?_);refine Wa ?_;refine SA.one 7 rfl (by kernel_rfl) rfl ?_;refine SW.alloc rfl fun b3 w4 ak cg aq => ?_
     have gd:=hw.up cg
     have rO:b1≠b3:=by have:=aZ.lt;omega
     have pr:b2≠b3:=by have:=au.lt;omega
     obtain ⟨hw,aZ,au⟩:=cn ak hw aZ au;try have hX:=hX.ext ak
     try have hY:=hY.ext ak
     refine SW.nil (ae.sa ak ?_)
    rotate_left
    focus
     refine SW.alloc rfl fun b3 w4 ak cg aq => ?_
     have gd:=hw.up cg
     have rO:b1≠b3:=by have:=aZ.lt;omega
     have pr:b2≠b3:=by have:=au.lt;omega
     obtain ⟨hw,aZ,au⟩:=cn ak hw aZ au;try have hX:=hX.ext ak
     try have hY:=hY.ext ak
     refine SW.nil (ae.sa ak ?_);refine SA.one 5 rfl (by kernel_rfl) rfl ?_;refine Wk (mn _ _ _ (hr.heap.ext hw) hs.heap) fun v w4 ak hv => ?_
     obtain ⟨G,rfl,hY⟩:=hv;have hY:=hY.low hw.size;obtain ⟨hX,hw,aZ,au⟩:=dv ak hX hw aZ au;try have aq:=aq.ext ak
     refine SW.nil (ae.sa ak ?_);refine Wa ?_
    rotate_left
   rotate_left 2
   focus
    refine SW.alloc rfl fun b3 w4 ak cg aq => ?_
    have gd:=hw.up cg
    have rO:b1≠b3:=by have:=aZ.lt;omega
    have pr:b2≠b3:=by have:=au.lt;omega
    obtain ⟨hw,aZ,au⟩:=cn ak hw aZ au;try have hX:=hX.ext ak
    try have hY:=hY.ext ak
    refine SW.nil (ae.sa ak ?_);refine SA.one 2 rfl (by kernel_rfl) rfl ?_;refine Wk (dF _ _ _ _ _ (hr.words.ext hw) (by omega)) fun v w4 ak hv => ?_
    obtain ⟨X,c4,rfl,hX⟩:=hv;have hX:=hX.low hw.size;obtain ⟨hw,aZ,au⟩:=cn ak hw aZ au;try have aq:=aq.ext ak
    refine SW.nil (ae.sa ak ?_);refine SA.one 5 rfl (by kernel_rfl) rfl ?_;refine Wk (mn _ _ _ (hr.heap.ext hw) hs.heap) fun v w4 ak hv => ?_
    obtain ⟨G,rfl,hY⟩:=hv;have hY:=hY.low hw.size;obtain ⟨hX,hw,aZ,au⟩:=dv ak hX hw aZ au;try have aq:=aq.ext ak
    refine SW.nil (ae.sa ak ?_);refine Wa ?_
   rotate_left
   all_goals
    refine SA.done (by kernel_rfl) ?_;skip;refine SW.ag aq rfl rfl rfl rfl (aY ⟨⟨X,r.Words.n,c4⟩,G,.nil⟩) fun w5 cX hg => ?_
    have hG:=aq.gr hg;have hw:=hw.own gd hg;(obtain ⟨hX,hY⟩:=df hG hX hY);have aZ:=aZ.grown hg (by simpa using rO);have au:=au.grown hg (by simpa using pr);refine Wz ?_;exact ae.cut (K:=K) (by rw [hK];exact ⟨X,c4,G,b3,⟨rfl,rfl,rfl,trivial⟩,hw,aZ,au,cX,hX,hY,gd,rO,pr⟩)
 ·clear aZ au hw;subst hK;rintro L' w' ⟨X,c4,G,b3,jA,hw,aZ,au,aq,hX,hY,gd,rO,pr⟩
  refine ae.sub jA ?_;refine Wz ?_
  refine CW.loop (fun s:Nat×Option Addr×Nat×List dS=>[(2,.pointer (some ⟨b2,0,none⟩)),(3,.pointer (some ⟨b3,0,none⟩)),(14,.slice r.aa.A r.aa.n r.aa.c),(15,.int .i64 (r.aa.n:Int)),(16,.int .i64 (s.1:Int))])
   (fun t w'=>t.1<=r.aa.n∧Ext w w'∧aS w' b2 44 (aP .zero)∧aS w' b3 44 (aP ⟨⟨X,r.Words.n,c4⟩,G,⟨t.2.1,t.1,t.2.2.1⟩⟩)∧Own w' w.heap.size 3 1 bw X r.Words.n c4 s.Words∧jH w' w.heap.size G s.Heap ∧
     fw w' w.heap.size ⟨t.2.1,t.1,t.2.2.1⟩ t.2.2.2 (s.aa.take t.1)∧x8 ⟨X,r.Words.n,c4⟩ t.2.2.2) (fun t=>r.aa.n-t.1) (0,none,0,[]) ⟨rfl,rfl,rfl,rfl,rfl,trivial⟩ ⟨by omega,hw,au,aq,hX,hY,fw.nil _ _,x8.nil _⟩ ?_
  clear aZ au aq hX hY hw jA;rintro ⟨k,A,c,zr⟩ w' ⟨hk,hw,au,aq,hX,hY,hO,xU⟩
  simp only at hk aq hO xU ⊢;have hA:=hc.row.base;by_cases gp:k<r.aa.n
  ·have j3:=hc.each.get k (by omega) (by omega);have q:=hs.each _ (adb (show k<s.aa.length by omega));have q1:=j3.names.len;have q2:=j3.aE.len;have q3:=j3.ba.len;have q4:=q.names;have q5:=q.aE;have q6:=q.ba;have Hl:=hO.row.lt_size;repeat' (first|refine Wz ?_|refine Wo hw ((hc.row.all gp)) ?_)
   refine SW.alloc rfl fun b5 w1 ai gx aM => ?_
   skip;refine SW.ag aM rfl rfl rfl rfl (BV _) fun w2 eV hg => ?_
   have ak:=ai.own gx hg;have jI:=hw.up gx
   obtain ⟨hw,au,aq,hX,hY,hO⟩:=gw ak hw au aq hX hY hO;have aM:=eV;clear eV ai hg ak;refine Wz ?_;refine CW.any 10 mixed (dk (by kernel_rfl)) rfl fun w1 ai aG => ?_
   obtain ⟨hw,au,aq,aM,hX,hY,hO⟩:=uK ai hw au aq aM hX hY hO;clear ai;refine Wa ?_;refine SA.one 2 rfl (by kernel_rfl) rfl ?_;refine Wk (vp _ _ _ _ _ (j3.names.ext hw) (by omega)) fun v w4 ak hv => ?_
   obtain ⟨N,n4,rfl,hN⟩:=hv;have Jp:=hO.Yh (b:=⟨N,cs[k].Names.n,n4⟩) hN.a9;have hN:=hN.low hw.size;(obtain ⟨hw,au,aq,aM,hX,hY,hO⟩:=uK ak hw au aq aM hX hY hO);refine SW.nil (ae.sa ak ?_);refine Wa ?_;refine SA.one 5 rfl (by kernel_rfl) rfl ?_;refine Wk (tT _ _ _ _ _ (j3.aE.ext hw) (by omega)) fun v w4 ak hv => ?_
   obtain ⟨M,m4,rfl,hM⟩:=hv;have Hm:=hO.Yi (b:=⟨M,cs[k].ab.n,m4⟩) hM.a9;have hM:=hM.low hw.size;(obtain ⟨hw,au,aq,aM,hX,hY,hO,hN⟩:=xQ ak hw au aq aM hX hY hO hN);refine SW.nil (ae.sa ak ?_);refine SA.one 8 rfl (by kernel_rfl) rfl ?_;refine Wk (dF _ _ _ _ _ (j3.ba.ext hw) (by omega)) fun v w4 ak hv => ?_
   obtain ⟨Q,q7,rfl,hQ⟩:=hv;have L8:=hO.Yj (b:=⟨Q,cs[k].ap.n,q7⟩) hQ.a9;have lA:=qa (a:=⟨X,r.Words.n,c4⟩) (b:=⟨Q,cs[k].ap.n,q7⟩) hX hQ.a9;have hQ:=hQ.low hw.size;(obtain ⟨hw,au,aq,aM,hX,hY,hO,hN,hM⟩:=LG ak hw au aq aM hX hY hO hN hM);refine SW.nil (ae.sa ak ?_);refine SA.done (by kernel_rfl) ?_;refine Wb (i:=0) aM fun w6 eV hg => ?_
   have hG:=aM.gr hg;have hw:=hw.own jI hg;have hO:=hO.eM aM hg Hl gx;(obtain ⟨au,aq,hX,hY,hN,hM,hQ⟩:=uK hG au aq hX hY hN hM hQ);have aM:=eV;clear eV hg hG;refine Wz ?_;refine Wb (i:=4) aM fun w6 eV hg => ?_
   have hG:=aM.gr hg;have hw:=hw.own jI hg;have hO:=hO.eM aM hg Hl gx;(obtain ⟨au,aq,hX,hY,hN,hM,hQ⟩:=uK hG au aq hX hY hN hM hQ);have aM:=eV;clear eV hg hG;refine Wz ?_;refine Wb (i:=5) aM fun w6 eV hg => ?_
   have hG:=aM.gr hg;have hw:=hw.own jI hg;have hO:=hO.eM aM hg Hl gx;(obtain ⟨au,aq,hX,hY,hN,hM,hQ⟩:=uK hG au aq hX hY hN hM hQ);have aM:=eV;clear eV hg hG;refine Wz ?_;refine SW.dI rfl rfl rfl rfl rfl fun b w6 ak hb hB => ?_
   (obtain ⟨hw,au,aq,hX,hY,hO,hN,hM,hQ⟩:=LG ak hw au aq hX hY hO hN hM hQ);refine SW.append hO.row (aS.ue (enc:=fQ) (x:=⟨⟨N,_,n4⟩,cs[k].az,cs[k].bL,cs[k].Order,⟨M,_,m4⟩,⟨Q,_,q7⟩⟩) hB) hw.size rfl rfl rfl (by simp only;omega) (by simp only;omega) fun A2 c2 w5 lD hg => ?_
   have hG:=hO.row.gr hg;have hw:=aD hw hg (adg _) hO.row.a9;(obtain ⟨au,aq,hX,hY,hN,hM,hQ⟩:=uK hG au aq hX hY hN hM hQ);have hE:=hO.each.mono fun _ _ h=>h.aK hG rfl
   refine Wz ?_;refine Wb (i:=6) aq fun w6 ed hg => ?_
   have hG:=aq.gr hg;have hw:=hw.own gd hg;have au:=au.grown hg (by simpa using pr);(obtain ⟨hX,hY,hN,hM,hQ,lD⟩:=gw hG hX hY hN hM hQ lD);have hE:=hE.mono fun _ _ h=>h.aK hG rfl
   refine Wz ?_;refine ae.again (k+1,A2,c2,zr++[⟨⟨N,_,n4⟩,cs[k].az,cs[k].bL,cs[k].Order,⟨M,_,m4⟩,⟨Q,_,q7⟩⟩]) ⟨rfl,rfl,rfl,rfl,rfl,trivial⟩ (by simp only;omega) ⟨by simp only;omega,hw,au,ed,hX,hY,⟨lD,?_⟩,xU.snoc (fun u hu=>⟨Jp u hu,Hm u hu,L8 u hu⟩) lA⟩;rw [adk (by omega)];exact hE.snoc ⟨j3.size,j3.per,j3.order,hN,hM,hQ⟩
  ·obtain rfl:k=r.aa.n:=by omega
   rw [adr (by omega)] at hO;refine Wz ?_;refine SW.ag au rfl rfl rfl rfl (aY _) fun w5 cX hg => ?_
   have hG:=au.gr hg;have hw:=hw.own u5 hg;(obtain ⟨hX,hY,hO⟩:=cn hG hX hY hO);refine Wz ?_;exact ae.En rfl rfl cX rfl ⟨_,rfl,hw,⟨_,G,_⟩,zr,rfl,hX,hY,hO,xU⟩
variable {l':List Slab} {i j n':Nat} {A:Option Addr}
theorem qb {a b:gb} (h:apart a b∨apart b a) : aJ b.A b.c=none∨aJ b.A b.c≠aJ a.A a.c:=by
 cases e:aJ b.A b.c with
 | none=>exact .inl rfl
 | some g =>
   right;intro e2;rcases h with h|h
   ·exact h g e2.symm e
   ·exact h g e e2.symm
structure jM (w:World) (lo hi:Nat) (r:jy) (h:Heap) : Prop where
 cpus:r.bG=h.bG
 eE:Own w lo 3 1 bw r.dO.A r.dO.n r.dO.c h.dO
 live:Own w lo 147 3 aO r.Live.A r.Live.n r.Live.c h.Live
 parts:∃ zs ls,lf w lo r.bp zs h.bp∧gl w lo r.av ls h.av∧(∀ g,aJ r.dO.A r.dO.c=some g->g<hi)∧(∀ u∈zs,∀ g,aJ u.Types.A u.Types.c=some g->g<hi)∧(∀ u∈ls,∀ g,aJ u.ax.A u.ax.c=some g->g<hi)
section
variable {w w':World} {lo hi t g:Nat} {r:jy} {h:Heap}
theorem jH.vq (a:jH w lo r h) : jM w lo w.heap.size r h:=by
 obtain ⟨zs,hz⟩:=a.ct;obtain ⟨ls,hl⟩:=a.lists;refine ⟨a.cpus,a.eE,a.live,zs,ls,hz,hl,a.eE.lt_size,fun u hu g e => ?_,fun u hu g e => ?_⟩
 ·obtain ⟨j,hj,rfl⟩:=ade hu;exact (hz.each.get j hj (by rw [<- hz.each.len];exact hj)).types.lt_size g e
 ·obtain ⟨j,hj,rfl⟩:=ade hu;exact (hl.each.get j hj (by rw [<- hl.each.len];exact hj)).bC.lt_size g e
theorem jM.own (a:jM w lo hi r h) : jH w lo r h:=by
 obtain ⟨zs,ls,hz,hl,_⟩:=a.parts;exact ⟨a.cpus,a.eE,a.live,⟨zs,hz⟩,⟨ls,hl⟩⟩
theorem jM.ext (a:jM w lo hi r h) (hx:Ext w w') : jM w' lo hi r h:=by
 obtain ⟨zs,ls,hz,hl,hb⟩:=a.parts;exact ⟨a.cpus,a.eE.ext hx,a.live.ext hx,zs,ls,hz.ext hx,hl.ext hx,hb⟩
theorem jM.aK (a:jM w lo hi r h) (hG:rL w w' t) (bJ:(Nat.beq t 3 || (Nat.beq t 147 || (Nat.beq t 117 || Nat.beq t 159)))=false) : jM w' lo hi r h:=by
 obtain ⟨zs,ls,hz,hl,hb⟩:=a.parts;simp only [Bool.or_eq_false_iff] at bJ;obtain ⟨h1,h2,h3,h4⟩:=bJ;exact ⟨a.cpus,a.eE.aK hG h1,a.live.aK hG h2,zs,ls,hz.aK hG (by simp [h1,h2,h3]),hl.aK hG (by simp [h1,h4]),hb⟩
theorem jM.IS (a:jM w lo hi r h) (hg:w.grownBy w' (some g)) (hG:rL w w' 3) (hb:g<lo∨hi<=g) : jM w' lo hi r h:=by
 obtain ⟨zs,ls,hz,hl,b1,b2,b3⟩:=a.parts;have key:∀ k,lo<=k->k<hi->(some g:Option Nat)≠some k:=fun k h1 h2 e=>by cases e;omega
 refine ⟨a.cpus,a.eE.apart hg fun k e=>key k (a.eE.a9 k e) (b1 k e),a.live.aK hG rfl,zs,ls,⟨hz.row.aK hG rfl,⟨hz.each.len,fun j h1 h2 => ?_⟩⟩,⟨hl.row.aK hG rfl,⟨hl.each.len,fun j h1 h2 => ?_⟩⟩,b1,b2,b3⟩
 ·have hj:=hz.each.get j h1 h2;exact ⟨hj.from_,hj.pj,hj.free.aK hG rfl,hj.types.apart hg fun k e=>key k (hj.types.a9 k e) (b2 _ (adb h1) k e)⟩
 ·have hj:=hl.each.get j h1 h2;exact ⟨hj.cpu,hj.kr,hj.ty,hj.bC.apart hg fun k e=>key k (hj.bC.a9 k e) (b3 _ (adb h1) k e)⟩
end
theorem Own.up {n c:Nat} {l:List α} (h:Own w lo e sz enc A n c l) (hr:∀ k,aJ A c=some k->oA<=k) : Own w oA e sz enc A n c l:=⟨h.len,by
 rcases h.row with h0|⟨hc,g,jV,rfl,_,h3⟩
 ·exact .inl h0
 ·exact .inr ⟨hc,g,jV,rfl,hr g (by simp [aJ,Nat.pos_iff_ne_zero.1 hc]),h3⟩⟩
structure sD (w:World) (lo:Nat) (r:da) (s:ah) (Cf cs:List dS) : Prop where
 words:Own w lo 3 1 bw r.Words.A r.Words.n r.Words.c s.Words
 heap:jH w lo r.Heap s.Heap
 row:Own w lo 107 6 fQ r.aa.A r.aa.n r.aa.c Cf
 each:gg (oE w lo) cs s.aa
 pair:cs.Pairwise lJ
abbrev SX (w:World) (lo:Nat) (r:da) (s:ah) (cs:List dS) : Prop:=sD w lo r s cs cs
structure SI (w:World) (lo:Nat) (r:da) (s:ah) (cs:List dS) : Prop where
 ints:∃ m1 m2,lo<=m1∧m1<=m2∧(∀ g,aJ r.Words.A r.Words.c=some g->g<m1)∧jM w m1 m2 r.Heap s.Heap∧gg (oE w m2) cs s.aa
theorem Fe {cs:List dS} (h:cs.Pairwise lJ) {u:dS} (hu:∀ (j:Nat) (hj:j<cs.length),j≠i->lJ u cs[j]∧lJ cs[j] u) : (cs.set i u).Pairwise lJ:=by
 rw [adl] at h ⊢;intro a b ha hb PN;rw [adK] at ha hb;rw [adB,adB];split
 ·split
  ·omega
  ·exact (hu b hb (by omega)).1
 ·split
  ·exact (hu a ha (by omega)).2
  ·exact h a b ha hb PN
theorem jn {a b:gb} (h:apart a b) : apart b a:=fun k h1 h2=>h k h2 h1
theorem lJ.symm {u v:dS} (h:lJ u v) : lJ v u:=⟨jn h.names,jn h.aE,jn h.ba⟩
theorem od {cs:List dS} (h:cs.Pairwise lJ) (hi:i<cs.length) (hj:j<cs.length) (pk:j≠i) : lJ cs[i] cs[j]:=by
 have hp:=adl.1 h;rcases adL i j with g|g
 ·exact hp i j hi hj g
 ·exact (hp j i hj hi (by omega)).symm
section
variable {w w':World} {lo t:Nat} {r:da} {s:ah} {Cf cs:List dS}
theorem sD.ext (h:sD w lo r s Cf cs) (hx:Ext w w') : sD w' lo r s Cf cs:=⟨h.words.ext hx,h.heap.ext hx,h.row.ext hx,h.each.mono fun _ _ h=>h.ext hx,h.pair⟩
theorem sD.low (h:sD w lo r s Cf cs) (hl:oA<=lo) : sD w oA r s Cf cs:=⟨h.words.low hl,h.heap.low hl,h.row.low hl,h.each.mono fun _ _ h=>h.low hl,h.pair⟩
theorem sD.aK (h:sD w lo r s Cf cs) (hG:rL w w' t) (bJ:(Nat.beq t 107 || (Nat.beq t 9 || (Nat.beq t 111 || (Nat.beq t 3 || (Nat.beq t 147 || (Nat.beq t 117 || Nat.beq t 159))))))=false) : sD w' lo r s Cf cs:=by
 simp only [Bool.or_eq_false_iff] at bJ;obtain ⟨h1,h2,h3,h4,h5,h6,h7⟩:=bJ;exact ⟨h.words.aK hG h4,h.heap.aK hG (by simp [h4,h5,h6,h7]),h.row.aK hG h1,h.each.mono fun _ _ h=>h.aK hG (by simp [h2,h3,h4]),h.pair⟩
theorem sD.len (h:SX w lo r s cs) : cs.length=r.aa.n∧s.aa.length=r.aa.n:=⟨h.row.len,by rw [<- h.each.len,h.row.len]⟩
theorem sD.x9 (h:SX w lo r s cs) : iY w lo r s:=⟨h.words,h.heap,⟨cs,h.row,h.each⟩⟩
theorem SI.ext (h:SI w lo r s cs) (hx:Ext w w') : SI w' lo r s cs:=by
 obtain ⟨m1,m2,h1,h2,h3,h4,h5⟩:=h.ints;exact ⟨m1,m2,h1,h2,h3,h4.ext hx,h5.mono fun _ _ h=>h.ext hx⟩
theorem SI.low (h:SI w lo r s cs) (hl:oA<=lo) : SI w oA r s cs:=by
 obtain ⟨m1,m2,h1,h2,h3,h4,h5⟩:=h.ints;exact ⟨m1,m2,adf hl h1,h2,h3,h4,h5⟩
theorem SI.aK (h:SI w lo r s cs) (hG:rL w w' t) (bJ:(Nat.beq t 9 || (Nat.beq t 111 || (Nat.beq t 3 || (Nat.beq t 147 || (Nat.beq t 117 || Nat.beq t 159)))))=false) : SI w' lo r s cs:=by
 simp only [Bool.or_eq_false_iff] at bJ;obtain ⟨h2,h3,h4,h5,h6,h7⟩:=bJ;obtain ⟨m1,m2,g1,g2,g3,g4,g5⟩:=h.ints;exact ⟨m1,m2,g1,g2,g3,g4.aK hG (by simp [h4,h5,h6,h7]),g5.mono fun _ _ h=>h.aK hG (by simp [h2,h3,h4])⟩
theorem sD.aE (h:SX w lo r s cs) (hi:i<cs.length) (po:i<s.aa.length) (hO:Own w' lo 111 3 bh cs[i].ab.A n' cs[i].ab.c l') (hg:w.grownBy w' (aJ cs[i].ab.A cs[i].ab.c)) :
 sD w' lo r ⟨s.Words,s.Heap,s.aa.set i ⟨s.aa[i].Names,s.aa[i].az,s.aa[i].bL,s.aa[i].Order,l',s.aa[i].ap⟩⟩ cs (cs.set i ⟨cs[i].Names,cs[i].az,cs[i].bL,cs[i].Order,⟨cs[i].ab.A,n',cs[i].ab.c⟩,cs[i].ap⟩):=by
 have hc:=h.each.get i hi po;have hG:=hc.aE.gr hg;refine ⟨h.words.aK hG rfl,h.heap.aK hG rfl,h.row.aK hG rfl,?_,?_⟩
 ·exact gg.setAt h.each ⟨hc.size,hc.per,hc.order,hc.names.aK hG rfl,hO,hc.ba.aK hG rfl⟩ fun j h1 h2 ja ho=>⟨ho.size,ho.per,ho.order,ho.names.aK hG rfl,ho.aE.grown hg (qb (.inl (od h.pair hi h1 ja).aE)),ho.ba.aK hG rfl⟩
 ·refine Fe h.pair fun j hj ja => ?_
  have hp:=od h.pair hi hj ja;exact ⟨⟨hp.names,hp.aE,hp.ba⟩,⟨jn hp.names,jn hp.aE,jn hp.ba⟩⟩
theorem sD.Hn {u:dS} (h:sD w lo r s Cf (Cf.set i u)) (hO:Own w' lo 107 6 fQ r.aa.A r.aa.n r.aa.c (Cf.set i u)) (hg:w.grownBy w' (aJ r.aa.A r.aa.c)) : SX w' lo r s (Cf.set i u):=by
 have hG:=h.row.gr hg;exact ⟨h.words.aK hG rfl,h.heap.aK hG rfl,hO,h.each.mono fun _ _ h=>h.aK hG rfl,h.pair⟩
theorem sD.ba {l':List Int} (h:SX w lo r s cs) (hI:SI w lo r s cs) (hi:i<cs.length) (po:i<s.aa.length) (hO:Own w' lo 3 1 bw cs[i].ap.A cs[i].ap.n cs[i].ap.c l') (hg:w.grownBy w' (aJ cs[i].ap.A cs[i].ap.c)) :
 SX w' lo r ⟨s.Words,s.Heap,s.aa.set i ⟨s.aa[i].Names,s.aa[i].az,s.aa[i].bL,s.aa[i].Order,s.aa[i].ab,l'⟩⟩ cs∧SI w' lo r ⟨s.Words,s.Heap,s.aa.set i ⟨s.aa[i].Names,s.aa[i].az,s.aa[i].bL,s.aa[i].Order,s.aa[i].ab,l'⟩⟩ cs:=by
 obtain ⟨m1,m2,h1,h2,h3,h4,h5⟩:=hI.ints;have hc:=h.each.get i hi po;have OU:=h5.get i hi po;have hG:=hc.ba.gr hg;have Ly:=OU.ba.a9;have IT:cs.set i cs[i]=cs:=adW hi
 have hh:jM w' m1 m2 r.Heap s.Heap:=by
  cases e:aJ cs[i].ap.A cs[i].ap.c with
  | none=>rw [e] at hg;exact h4.aK (⟨none,hg,fun k hk=>by cases hk⟩ : rL w w' 44) rfl
  | some g=>rw [e] at hg;exact h4.IS hg hG (.inr (Ly g e))
 have TG:Own w' lo 3 1 bw r.Words.A r.Words.n r.Words.c s.Words:=h.words.apart hg fun g e e2=>by
  have:=h3 g e;have:=Ly g e2;omega
 refine ⟨⟨TG,hh.own.low h1,h.row.aK hG rfl,?_,h.pair⟩,⟨m1,m2,h1,h2,h3,hh,?_⟩⟩
 ·have:=gg.setAt (x:=cs[i]) (R':=oE w' lo) h.each (i:=i) (y:=⟨s.aa[i].Names,s.aa[i].az,s.aa[i].bL,s.aa[i].Order,s.aa[i].ab,l'⟩) ⟨hc.size,hc.per,hc.order,hc.names.aK hG rfl,hc.aE.aK hG rfl,hO⟩ fun j h1 h2 ja ho=>⟨ho.size,ho.per,ho.order,ho.names.aK hG rfl,ho.aE.aK hG rfl,ho.ba.grown hg (qb (.inl (od h.pair hi h1 ja).ba))⟩
  rwa [IT] at this
 ·have OV:Own w' m2 3 1 bw cs[i].ap.A cs[i].ap.n cs[i].ap.c l':=hO.up Ly
  have:=gg.setAt (x:=cs[i]) (R':=oE w' m2) h5 (i:=i) (y:=⟨s.aa[i].Names,s.aa[i].az,s.aa[i].bL,s.aa[i].Order,s.aa[i].ab,l'⟩) ⟨OU.size,OU.per,OU.order,OU.names.aK hG rfl,OU.aE.aK hG rfl,OV⟩ fun j h1 h2 ja ho=>⟨ho.size,ho.per,ho.order,ho.names.aK hG rfl,ho.aE.aK hG rfl,ho.ba.grown hg (qb (.inl (od h.pair hi h1 ja).ba))⟩
  rwa [IT] at this
theorem sD.Ff {l':List Int} (h:SX w lo r s cs) (hI:SI w lo r s cs) (hO:Own w' lo 3 1 bw r.Words.A r.Words.n r.Words.c l') (hg:w.grownBy w' (aJ r.Words.A r.Words.c)) : SX w' lo r ⟨l',s.Heap,s.aa⟩ cs:=by
 obtain ⟨m1,m2,h1,h2,h3,h4,h5⟩:=hI.ints;have hG:=h.words.gr hg
 have hh:jM w' m1 m2 r.Heap s.Heap:=by
  cases e:aJ r.Words.A r.Words.c with
  | none=>rw [e] at hg;exact h4.aK (⟨none,hg,fun k hk=>by cases hk⟩ : rL w w' 44) rfl
  | some g=>rw [e] at hg;exact h4.IS hg hG (.inl (h3 g e))
 refine ⟨hO,hh.own.low h1,h.row.aK hG rfl,⟨h.each.len,fun j hj nR => ?_⟩,h.pair⟩;have ho:=h.each.get j hj nR
 exact ⟨ho.size,ho.per,ho.order,ho.names.aK hG rfl,ho.aE.aK hG rfl,ho.ba.apart hg fun g e e2=>by
  have:=h3 g e2;have:=(h5.get j hj nR).ba.a9 g e;omega⟩
end
variable {cp:Int} {row:Option Nat} {u0 u1:ef} {z0 z1:ao}
structure qd (w:World) (lo:Nat) (m li lv:gb) (ls:List dx) (h:Heap) : Prop where
 eE:Own w lo 3 1 bw m.A m.n m.c h.dO
 live:Own w lo 147 3 aO lv.A lv.n lv.c h.Live
 lists:gl w lo li ls h.av
section
variable {w w':World} {lo t:Nat} {m li lv:gb} {ls:List dx} {h:Heap}
theorem qd.ext (a:qd w lo m li lv ls h) (hx:Ext w w') : qd w' lo m li lv ls h:=⟨a.eE.ext hx,a.live.ext hx,a.lists.ext hx⟩
theorem qd.aK (a:qd w lo m li lv ls h) (hG:rL w w' t) (bJ:(Nat.beq t 3 || (Nat.beq t 147 || Nat.beq t 159))=false) : qd w' lo m li lv ls h:=by
 simp only [Bool.or_eq_false_iff] at bJ;obtain ⟨h1,h2,h3⟩:=bJ;exact ⟨a.eE.aK hG h1,a.live.aK hG h2,a.lists.aK hG (by simp [h1,h3])⟩
theorem jH.split {r:jy} (a:jH w lo r h) (hz:h.bp=[z0,z1]) : ∃ g c u0 u1 ls,r.bp=⟨some ⟨g,0,none⟩,2,c⟩∧gD w lo g c u0 u1 (z0,z1)∧qd w lo r.dO r.av r.Live ls h:=by
 obtain ⟨zs,Dx⟩:=a.ct;obtain ⟨ls,Gj⟩:=a.lists;have l0:=Dx.each.len;rw [hz] at l0;obtain ⟨u0,u1,rfl⟩:=zI (show zs.length=2 from l0);have l1:=Dx.row.len;have h0:=Dx.each.get 0 (by simp) (by simp [hz]);have h1:=Dx.each.get 1 (by simp) (by simp [hz]);simp only [hz] at h0 h1;have hc : 0<r.bp.c:=by have:=Dx.row.le;simp at l1;omega
 obtain ⟨g,rest,hA,dD,_⟩:=Dx.row.opened hc;refine ⟨g,r.bp.c,u0,u1,ls,?_,⟨?_,h0,h1,dD,hc⟩,⟨a.eE,a.live,Gj⟩⟩
 ·rw [<- hA];have:(2:Nat)=r.bp.n:=l1
  rw [this]
 ·have:=Dx.row
  rw [hA,<- l1] at this;exact this
theorem qd.join (a:qd w lo m li lv ls h) {g c:Nat} {s:ao×ao} (hZ:gD w lo g c u0 u1 s) (hc:cp=h.bG) : jH w lo ⟨⟨some ⟨g,0,none⟩,2,c⟩,m,cp,.nil,lv⟩ ⟨[s.1,s.2],h.dO,h.bG,[],h.Live⟩ :=
 ⟨hc,a.eE,a.live,⟨[u0,u1],⟨hZ.row,gg.snoc (gg.snoc gg.nil hZ.z0) hZ.z1⟩⟩,⟨[],.nil _ _⟩⟩
end
structure G2 (w0 w:World) (g b:Nat) : Prop where
 os:w.os=w0.os
 tape:w.tape=w0.tape
 output:w.output=w0.output
 size:w0.heap.size<=w.heap.size
 block:∀ k,k<w0.heap.size->k≠g->k≠b->w.heap[k]?=w0.heap[k]?
section
variable {w0 w w':World} {g b k t:Nat} {cs:List Value}
theorem G2.refl (w:World) (g b:Nat) : G2 w w g b:=⟨rfl,rfl,rfl,adg _,fun _ _ _ _=>rfl⟩
theorem G2.step (h:G2 w0 w g b) (hg:w.grownBy w' row) (hr:∀ k,row=some k->k=g∨k=b∨w0.heap.size<=k) : G2 w0 w' g b :=
 ⟨hg.os.trans h.os,hg.tape.trans h.tape,hg.output.trans h.output,adf h.size hg.size,fun k hk h1 h2=>by
  rw [hg.block k (ad7 hk h.size) (fun e=>by rcases hr k e.symm with e|e|e<;>omega)];exact h.block k hk h1 h2⟩
theorem G2.ext (h:G2 w0 w g b) (hx:Ext w w') : G2 w0 w' g b:=h.step (hx.gr none) (fun k e=>by cases e)
theorem G2.Wi (h:G2 w0 w g b) (hg:w.grownBy w' (some g)) : G2 w0 w' g b:=h.step hg (fun k e=>by cases e;exact .inl rfl)
theorem G2.Wj (h:G2 w0 w g b) (hg:w.grownBy w' (some b)) : G2 w0 w' g b:=h.step hg (fun k e=>by cases e;exact .inr (.inl rfl))
theorem G2.eM (h:G2 w0 w g b) (hB:aS w0 k t cs) (h1:k≠g) (h2:k≠b) : aS w k t cs:=(h.block k hB.lt h1 h2).trans hB
end
noncomputable def lK (h:Heap) (z0 z1:ao) (k:Nat) : ao×ao:=bX (z0,z1) ((bc h.av).take k)
set_option maxHeartbeats 2000000 in
theorem J8 (h:Heap) (z0 z1:ao) (hd:n7 h z0 z1) (hs:h.small) (m:gb) (cp:Int) (li lv:gb) (ls:List dx) (u0 u1:ef) (g c b1 lo:Nat) (w w0:World) (hw:Ext w w0) (dD:w.heap.size<=lo) (tf:lo<=w0.heap.size) (Ms:lo<=b1)
 (aZ:aS w0 b1 41 (dG ⟨⟨some ⟨g,0,none⟩,2,c⟩,m,cp,li,lv⟩)) (hZ:gD w0 lo g c u0 u1 (z0,z1)) (hR:qd w0 lo m li lv ls h) :
 iO prog 64 [.pointer (some ⟨b1,0,none⟩)] w0 fun v w'=>Ext w w'∧G2 w0 w' g b1∧aS w' b1 41 (dG ⟨⟨some ⟨g,0,none⟩,2,c⟩,m,cp,.nil,lv⟩)∧qd w' lo m li lv ls h ∧ ∃ u0 u1,gD w' lo g c u0 u1 (bX (z0,z1) (bc h.av)):=by
 refine dl func64 rfl ntmps64 rfl ?_;have Wr:w.heap.size<=g:=adf dD hZ.IL
 have D6:w.heap.size<=b1:=adf dD Ms
 have hE:=G2.refl w0 g b1;have mH:=hR.lists.rd.len;have s4:=hs.lists;have Q8:=hR.lists.row.sl.base;refine Wz ?_
 refine CW.loop (fun t:Nat×ef×ef=>[(0,.pointer (some ⟨b1,0,none⟩)),(9,.slice li.A li.n li.c),(10,.int .i64 (li.n:Int)),(11,.int .i64 (t.1:Int))])
  (fun t w'=>t.1<=li.n∧Ext w w'∧G2 w0 w' g b1∧lo<=w'.heap.size∧aS w' b1 41 (dG ⟨⟨some ⟨g,0,none⟩,2,c⟩,m,cp,li,lv⟩)∧gD w' lo g c t.2.1 t.2.2 (lK h z0 z1 (ku h.av t.1))∧qd w' lo m li lv ls h) (fun t=>li.n-t.1) (0,u0,u1)
  ⟨rfl,rfl,rfl,rfl,trivial⟩ ⟨by omega,hw,hE,tf,aZ,by simpa [lK,ku,bc,bX] using hZ,hR⟩ ?_
 clear hw hE aZ hZ hR Q8 tf;rintro ⟨i,u0,u1⟩ w' ⟨hi,hw,hE,tf,aZ,hZ,hR⟩
 simp only at hi hZ ⊢;have hA:=hR.lists.row.sl.base;by_cases cy:i<li.n
 ·have tF:i<h.av.length:=by omega
  have By:i<ls.length:=by omega
  have wA:=hR.lists.each.get i By tF;have E6:=wA.bC.sl.len;have Ln:=hs.bC _ (adb tF);repeat' (first|refine Wz ?_|refine Wm ((hR.lists.row.sl.all cy)) ?_)
  have oD:=hw.size;refine SW.alloc rfl fun b3 w1 ai cg aq => ?_
  skip;refine SW.ag aq rfl rfl rfl rfl (iy.one (enc:=cm) _) fun w2 ed hg => ?_
  have ak:=ai.own cg hg;have gd:=hw.up cg
  obtain ⟨hw,aZ,hZ,hR,hE⟩:=fD ak hw aZ hZ hR hE;have aq:=ed;clear ed ai hg ak;have Mt:=(hR.lists.each.get i By tF).bC.sl.base;have TH:lo<=w2.heap.size:=adf tf (adf cg (aeq aq.lt))
  refine Wz ?_
  refine CW.loop (fun t:Nat×ef×ef=>[(0,.pointer (some ⟨b1,0,none⟩)),(9,.slice li.A li.n li.c),(10,.int .i64 (li.n:Int)),(11,.int .i64 (i:Int)),(16,.slice ls[i].ax.A ls[i].ax.n ls[i].ax.c),(17,.int .i64 (ls[i].ax.n:Int)),(18,.int .i64 (t.1:Int))])
   (fun t w'=>t.1<=ls[i].ax.n∧Ext w w'∧G2 w0 w' g b1∧lo<=w'.heap.size∧aS w' b1 41 (dG ⟨⟨some ⟨g,0,none⟩,2,c⟩,m,cp,li,lv⟩)∧gD w' lo g c t.2.1 t.2.2 (lK h z0 z1 (ku h.av i+t.1))∧qd w' lo m li lv ls h) (fun t=>ls[i].ax.n-t.1) (0,u0,u1)
   ⟨rfl,rfl,rfl,rfl,rfl,rfl,rfl,trivial⟩ ⟨by omega,hw,hE,TH,aZ,hZ,hR⟩ ?_
  clear hw hE aZ hZ hR aq tf TH oD hA Mt cg gd wA;rintro ⟨j,u0,u1⟩ w' ⟨hj,hw,hE,tf,aZ,hZ,hR⟩
  simp only at hj hZ ⊢;by_cases pO:j<ls[i].ax.n
  ·have rK:j<h.av[i].ax.length:=by omega
   have wA:=hR.lists.each.get i By tF;have Mt:=wA.bC.sl.base;obtain ⟨hK,Tq⟩:=yB tF rK;have hN:=hd.next hK;have hD:=hd.inv (ku h.av i+j) (by omega);have hT:=nw (z0,z1) (bc h.av) _ hK;rw [Tq] at hN hT;have Sm:lK h z0 z1 (ku h.av i+(j+1))=gB (lK h z0 z1 (ku h.av i+j)) (cu h.av[i].ax[j]):=hT
   repeat' (first|refine Wz ?_|refine Wl (wA.bC.sl.one pO rfl) ?_)
   refine SW.dX rfl rfl (wH m cp li lv u0 u1 _ _ (cu h.av[i].ax[j]) lo g c b1 _ aZ hZ tf hD hN) fun v w5 hv => ?_
   obtain ⟨hg,u2,u3,Gk⟩:=hv;have hG:=hZ.gr hg;have hw:=hw.own Wr hg;have hE:=hE.Wi hg;obtain ⟨aZ,hR⟩:=df hG aZ hR;have tf:=adf tf hg.size;refine Wz ?_;refine ae.again (j+1,u2,u3) ⟨rfl,rfl,rfl,rfl,rfl,rfl,rfl,trivial⟩ (by simp only;omega) ⟨by simp only;omega,hw,hE,tf,aZ,?_,hR⟩;simp only;rw [Sm];exact Gk
  ·have ej:ku h.av i+j=ku h.av (i+1):=by rw [zE tF];omega
   rw [ej] at hZ;refine Wz ?_;exact ae.again (i+1,u0,u1) ⟨rfl,rfl,rfl,rfl,trivial⟩ (by simp only;omega) ⟨by simp only;omega,hw,hE,tf,aZ,hZ,hR⟩
 ·have ei:i=h.av.length:=by omega
  have Rb:lK h z0 z1 (ku h.av i)=bX (z0,z1) (bc h.av):=by
   rw [ei,Dt,lK,adr (adg _)]
  rw [Rb] at hZ;refine Wz ?_;refine Wb (i:=3) aZ fun w6 tE hg => ?_
  have hG:=aZ.gr hg;have hw:=hw.own D6 hg;refine Wz ?_;exact ae.pV rfl ⟨_,rfl,hw,hE.Wj hg,tE,hR.aK hG rfl,u0,u1,hZ.aK hG rfl⟩
noncomputable def tV (z:ao) (a:Int) : Int×Int:=if fJ z then (if z.aV<=a∧a<z.To then (z.Types.getD ((a-z.aV) / 8).toNat 0,0) else (0,1)) else (0,8)
noncomputable def sE (z:ao) : Int×Int:=if fJ z then (j6 z.aj,0) else (0,8)
theorem Ho (r:ef) (z:ao) (w:World) (hr:Gx w r z) (hf:r.aj.n<=100000000000000000) (ht:r.Types.n<=1000000000000000000) (h1 : -9223372036854775808<=r.aV∧r.aV<=9223372036854775807) (h2 : -9223372036854775808<=r.To∧r.To<=9223372036854775807) :
 bF prog 149 [.agg (dt r).toArray] w fun v _=>v = .tuple #[.int .i64 (sE z).1,.int .i64 (sE z).2]:=by
 refine aC func149 rfl ntmps149 rfl ?_;refine CW.seq (CW.region (SW.box rfl rfl fun b1 w1 hw lp aZ => ?_));have On:=hr.free.len;obtain ⟨q,hq⟩ : ∃ q,fJ z=q:=⟨_,rfl⟩
 have c1:∀ w',Ext w w'->bF prog 80 [.agg (dt r).toArray] w' fun v _=>v = .int .i64 (if q then 0 else 8):=fun w' h=>by
  have:=kV r z w' (hr.ext h) (by omega) (by omega) h1 h2
  rwa [hq] at this
 cases q
 ·have e:sE z=(0,8):=by simp [sE,hq]
  rw [e];simp only [Bool.false_eq_true,if_false] at c1;repeat' (first|refine Wz ?_|(refine Wk (c1 _ hw) ?_;intro v w1 ai hv;subst hv;obtain ⟨hw,aZ⟩:=df ai hw aZ;clear ai))
  exact ae.dm rfl rfl rfl ⟨_,rfl,hw,rfl⟩
 ·simp only [if_true] at c1;have hz:=fq.1 hq;have e:sE z=(j6 z.aj,0):=by simp [sE,hq]
  rw [e];repeat' (first|refine Wz ?_|(refine Wk (c1 _ hw) ?_;intro v w1 ai hv;subst hv;obtain ⟨hw,aZ⟩:=df ai hw aZ;clear ai))
  refine CW.loop (fun k:Nat=>[(5,.int .i64 (j6 (z.aj.take k))),(14,.slice r.aj.A r.aj.n r.aj.c),(15,.int .i64 (r.aj.n:Int)),(16,.int .i64 (k:Int))]) (fun k w'=>k<=r.aj.n∧Ext w w') (fun k=>r.aj.n-k) 0 ⟨rfl,rfl,rfl,rfl,trivial⟩ ⟨by omega,hw⟩ ?_;clear hw aZ;rintro k w' ⟨hk,hw⟩
  have hA:=hr.free.base;by_cases gp:k<r.aj.n
  ·have iE:=hr.free.lt gp;obtain ⟨f1,f2,_⟩:=(hz.eM k iE).1;have hp:=cQ f1 f2;have et:=uZ z.aj k iE;have hs:=pi hz k (by omega);repeat' (first|refine Wz ?_|refine Wo hw ((hr.free.all gp)) ?_)
   refine SW.alloc rfl fun b7 w3 nT iI bf => ?_
   have gf:=hw.up iI
   have hw:=hw.trans nT;skip;refine SW.ag bf rfl rfl rfl rfl (iy.one (enc:=aO) _) fun w4 bq hg => ?_
   have hw:=hw.own gf hg;repeat' (first|refine Wz ?_|(refine SW.st (fG (r:=pw (z.aj[k]).Order) rfl rfl (by omega) (by omega) (by simp [pw]) (by omega) (by omega)) rfl ?_))
   exact ae.again (k+1) ⟨by rw [et];rfl,rfl,rfl,rfl,trivial⟩ (by omega) ⟨by omega,hw⟩
  ·refine Wz ?_;refine ae.dm rfl rfl rfl ⟨_,rfl,hw,?_⟩;rw [adr (by omega)]
theorem Rc.Hp (r:ef) (z:ao) (a:Int) (w:World) (hr:Gx w r z) (hf:r.aj.n<=2305843009213693952) (ht:r.Types.n<=1000000000000000000) (h1 : -9223372036854775808<=r.aV∧r.aV<=9223372036854775807) (h2 : -9223372036854775808<=r.To∧r.To<=9223372036854775807) :
 bF prog 97 [.agg (dt r).toArray,.int .i64 a] w fun v _=>v = .tuple #[.int .i64 (tV z a).1,.int .i64 (tV z a).2]:=by
 refine aC func97 rfl ntmps97 rfl ?_;refine CW.seq (CW.region (SW.box rfl rfl fun b1 w1 hw lp aZ => ?_));have eF:=hr.from_;have eT:=hr.pj;have S0:=hr.types.len;obtain ⟨q,hq⟩ : ∃ q,fJ z=q:=⟨_,rfl⟩
 have c1:∀ w',Ext w w'->bF prog 80 [.agg (dt r).toArray] w' fun v _=>v = .int .i64 (if q then 0 else 8):=fun w' h=>by
  have:=kV r z w' (hr.ext h) hf (by omega) h1 h2
  rwa [hq] at this
 cases q
 ·have e:tV z a=(0,8):=by simp [tV,hq]
  rw [e];simp only [Bool.false_eq_true,if_false] at c1;repeat' (first|refine Wz ?_|(refine Wk (c1 _ hw) ?_;intro v w1 ai hv;subst hv;obtain ⟨hw,aZ⟩:=df ai hw aZ;clear ai))
  exact ae.dm rfl rfl rfl ⟨_,rfl,hw,rfl⟩
 ·simp only [if_true] at c1;have hz:=fq.1 hq;obtain ⟨o1,o2,o3,o4,o5⟩:=hz.ok;have hA:=hr.types.base;by_cases cy:z.aV<=a∧a<z.To
  ·obtain ⟨k,hk,iE⟩:=Iv hz cy.1 cy.2;have gp:k<r.Types.n:=by omega
   have e:tV z a=(z.Types[k],0):=by simp [tV,hq,cy,hk,List.getD_eq_getElem?_getD,List.getElem?_eq_getElem iE]
   rw [e];obtain ⟨i1,i2⟩:=id cy;repeat' (first|refine Wz ?_|refine SW.st (cf (k) rfl rfl (by assumption) (by omega) (by omega)) rfl ?_|refine Wn hw (hr.types.one gp rfl) ?_|(refine Wk (c1 _ hw) ?_;intro v w1 ai hv;subst hv;obtain ⟨hw,aZ⟩:=df ai hw aZ;clear ai))
   all_goals try omega
   exact ae.dm rfl rfl rfl ⟨_,rfl,hw,rfl⟩
  ·have e:tV z a=(0,1):=by simp only [tV,hq,if_true,if_neg cy]
   rw [e];repeat' (first|refine Wz ?_|refine SW.gi rfl rfl rfl (fun h => ?_) (fun h => ?_)|(refine Wk (c1 _ hw) ?_;intro v w1 ai hv;subst hv;obtain ⟨hw,aZ⟩:=df ai hw aZ;clear ai))
   all_goals try omega
   all_goals exact ae.dm rfl rfl rfl ⟨_,rfl,hw,rfl⟩
variable {β:Type}
def kR (lo:Nat) (o:Int×Heap) (v:Value) (w:World) : Prop := ∃ s:jy,v = .tuple #[.agg (dG s).toArray,.int .i64 o.1]∧jH w lo s o.2
theorem kR.zero (e:Int) (lo:Nat) (w:World) : kR lo (e,⟨[],[],0,[],[]⟩) (.tuple #[.agg (dG .zero).toArray,.int .i64 e]) w:=⟨.zero,rfl,jH.zero w lo⟩
theorem gg.two {R : α -> β -> Prop} {a b : α} {c d : β} (h1:R a c) (h2:R b d) : gg R [a,b] [c,d]:=gg.snoc (gg.snoc gg.nil h1) h2
variable {a:Int} {z:ao}
theorem Mu (h:bV z) (h1:z.aV<=a) (h2:a<z.To) : tV z a=(zM z a,0):=by
 simp only [tV,yq h,if_true,if_pos (And.intro h1 h2)];rfl
set_option maxHeartbeats 8000000 in
theorem vr (r:jy) (h:Heap) (cpu a:Int) (w:World) (hr:Iz w r h) (hs:h.small) (N3:∀ z∈h.bp,fL z) (ha : -9223372036854775808<=a∧a<=9223372036854775807) :
 bF prog 55 [.agg (dG r).toArray,.int .i64 cpu,.int .i64 a] w (kR w.heap.size (fh h cpu a)):=by
 refine aC func55 rfl ntmps55 rfl ?_;refine CW.seq (CW.region (SW.box rfl rfl fun b3 w1 hw cg aq => ?_));have gd:=cg;refine SW.alloc rfl fun b6 w2 bt dw ar => ?_
 have cS:w.heap.size<=b6:=adf hw.size dw
 have oL:b3≠b6:=by have:=aq.lt;omega
 (replace hw:=Ext.trans hw bt;replace aq:=aq.ext bt);have eC:=hr.cpus;obtain ⟨q,hq⟩ : ∃ q,je h=q:=⟨_,rfl⟩
 have c1:∀ w',Ext w w'->bF prog 61 [.agg (dG r).toArray] w' fun v _=>v = .int .i64 (if q then 0 else 8):=fun w' hx=>by
  have:=qT r h w' (hr.ext hx) hs N3
  rwa [hq] at this
 cases q
 ·simp only [Bool.false_eq_true,if_false] at c1;rw [II hq];repeat' (first|refine Wz ?_|(refine Wk (c1 _ hw) ?_;intro v w1 ai hv;subst hv;replace hw:=Ext.trans hw ai;replace aq:=aq.ext ai;replace ar:=ar.ext ai;clear ai))
  refine SW.ag ar rfl rfl rfl rfl (dY .zero) fun w5 cX hg => ?_
  replace hw:=hw.own cS hg;refine Wz ?_;exact ae.dA rfl rfl rfl cX rfl ⟨_,rfl,hw,kR.zero 8 _ _⟩
 ·simp only [if_true] at c1;have hm:=cq.1 hq;obtain ⟨z0,z1,f⟩:=gC hm;by_cases hc : 0<=cpu∧cpu<h.bG
  ·repeat' (first|refine Wz ?_|(refine Wk (c1 _ hw) ?_;intro v w1 ai hv;subst hv;replace hw:=Ext.trans hw ai;replace aq:=aq.ext ai;replace ar:=ar.ext ai;clear ai))
   all_goals try omega
   clear c1;have So:=hr.live.len;have s2:=hs.live;have eX:=kQ f.live;refine Wk (JQ r h.Live a _ (hr.live.ext hw) eX (fun b hb=>by obtain ⟨k,hk,rfl⟩:=ade hb;exact (f.live.each k hk).2.1) (by omega) ha) fun v w4 kz hv => ?_
   (replace hw:=Ext.trans hw kz;replace aq:=aq.ext kz;replace ar:=ar.ext kz);cases hf:bP h.Live a
   ·rw [IJ hq hc hf];obtain ⟨i,rfl⟩:=hv.2 hf;repeat' (first|refine Wz ?_|(refine CW.gu rfl ?_))
    refine SW.ag ar rfl rfl rfl rfl (dY .zero) fun w5 cX hg => ?_
    replace hw:=hw.own cS hg;refine Wz ?_;exact ae.dA rfl rfl rfl cX rfl ⟨_,rfl,hw,kR.zero 4 _ _⟩
   ·rw [nz hq hc hf];have hv:=hv.1 hf;subst hv;obtain ⟨hk,P6⟩:=jB hf;obtain ⟨k,ek⟩ : ∃ k,bE h.Live a=k:=⟨_,rfl⟩;simp only [ek] at hk P6 ⊢;have JG:=f.live.each k hk;have Yk:=f.next hk;repeat' (first|refine Wz ?_|(refine CW.fY rfl ?_))
    refine Wk (ul r h _ (hr.ext hw) hs) fun v w4 kz hv => ?_
    obtain ⟨s,rfl,hO⟩:=hv;have hM:=hO.own.eE.low hw.size;have hV:=hO.own.live.low hw.size;have BB:=hO.own.cpus;obtain ⟨g,c,u0,u1,ls,eZ,hZ,hL,xU,N2⟩:=hO.split f.d.ct;have hZ:gD w4 w.heap.size g c u0 u1 (z0,z1):=⟨hZ.row.low hw.size,hZ.z0.low hw.size,hZ.z1.low hw.size,adf hw.size hZ.IL,hZ.pos⟩
    replace hL:=hL.low hw.size;clear hO;(replace hw:=Ext.trans hw kz;replace aq:=aq.ext kz;replace ar:=ar.ext kz);obtain ⟨sz,m,cp,li,lv⟩:=s;simp only at eZ hM hV hL xU N2 BB;subst eZ;refine SW.ag aq rfl rfl rfl rfl (dY ⟨⟨some ⟨g,0,none⟩,2,c⟩,m,cp,li,lv⟩) fun w5 ed hg => ?_
    have hG:=aq.gr hg;replace hw:=hw.own gd hg;replace ar:=ar.grown hg (by simpa using Ne.symm oL);(replace hZ:=hZ.aK hG rfl;replace hM:=hM.aK hG rfl;replace hV:=hV.aK hG rfl;replace hL:=hL.aK hG rfl);replace aq:=ed;clear ed hg hG;have hvn:=hV.len;have gp:k<lv.n:=by omega
    have ZS:=hV.sl.base;repeat' (first|refine Wz ?_|refine Wm ((hV.sl.all gp)) ?_)
    have TI:=hV.lt_size;refine SW.alloc rfl fun OB w1 ai sG g9 => ?_
    skip;refine SW.ag g9 rfl rfl rfl rfl (iy.one (enc:=aO) _) fun w2 oN hg => ?_
    have ak:=ai.own sG hg;have Mv:w.heap.size<=OB:=adf hw.size sG
    replace hw:=Ext.trans hw ak;replace aq:=aq.ext ak;replace ar:=ar.ext ak;replace hZ:=hZ.ext ak;replace hM:=hM.ext ak;replace hV:=hV.ext ak;replace hL:=hL.ext ak;replace g9:=oN;clear oN ai hg ak;have P7:aJ lv.A lv.c≠some OB:=fun e=>by have:=TI _ e;omega
    refine Wz ?_;refine SW.dX rfl rfl (m7 lv.A lv.n lv.c w.heap.size h.Live _ hV k gp (by omega) hw.size) fun v w6 hv => ?_
    obtain ⟨rfl,DE,hg⟩:=hv;have hG:=hV.gr hg;replace hw:=aD hw hg (adg _) hV.a9;replace hZ:=hZ.Hc N2 hg hG;replace g9:=g9.grown hg (fun e=>P7 e.symm);(replace aq:=aq.aK hG rfl;replace ar:=ar.aK hG rfl;replace hM:=hM.aK hG rfl;replace hL:=hL.aK hG rfl);replace hV:=DE;clear DE hg hG;refine Wz ?_;refine Wb (i:=4) aq fun w7 ed hg => ?_
    have hG:=aq.gr hg;replace hw:=hw.own gd hg;replace ar:=ar.grown hg (by simpa using Ne.symm oL);(replace hZ:=hZ.aK hG rfl;replace hM:=hM.aK hG rfl;replace hV:=hV.aK hG rfl;replace hL:=hL.aK hG rfl;replace g9:=g9.aK hG rfl);replace aq:aS w7 b3 41 (dG ⟨⟨some ⟨g,0,none⟩,2,c⟩,m,cp,li,⟨lv.A,lv.n-1,lv.c⟩⟩):=ed;clear ed hg hG P7 TI;have uf:b6≠g:=fun e=>hZ.row.fi ar rfl (by rw [hZ.own,e])
    have qE:b3≠g:=fun e=>hZ.row.fi aq rfl (by rw [hZ.own,e])
    by_cases ho : 0<h.Live[k].Order
    ·rw [qV f.d.ct hk ek ho];refine Wz ?_;refine SW.dX rfl rfl (wH m cp li ⟨lv.A,lv.n-1,lv.c⟩ u0 u1 _ _ h.Live[k] w.heap.size g c b3 _ aq hZ hw.size f.d.start Yk) fun v w8 hv => ?_
     obtain ⟨hg,u2,u3,Gk⟩:=hv;have hG:=hZ.gr hg;replace hw:=hw.own hZ.IL hg;(replace aq:=aq.aK hG rfl;replace ar:=ar.aK hG rfl;replace hM:=hM.aK hG rfl;replace hV:=hV.aK hG rfl;replace hL:=hL.aK hG rfl);clear hZ hg hG g9;refine Wz ?_;refine SW.ag ar rfl rfl rfl rfl (dY ⟨⟨some ⟨g,0,none⟩,2,c⟩,m,cp,li,⟨lv.A,lv.n-1,lv.c⟩⟩) fun w9 cX hg => ?_
     have hG:=ar.gr hg;replace hw:=hw.own cS hg;replace Gk:=Gk.aK hG rfl;(replace hM:=hM.aK hG rfl;replace hV:=hV.aK hG rfl;replace hL:=hL.aK hG rfl);refine Wz ?_;exact ae.dA rfl rfl rfl cX rfl ⟨_,rfl,hw,⟨⟨some ⟨g,0,none⟩,2,c⟩,m,cp,li,⟨lv.A,lv.n-1,lv.c⟩⟩,rfl,⟨BB,hM,hV,⟨[u2,u3],⟨Gk.row,gg.two Gk.z0 Gk.z1⟩⟩,⟨ls,hL⟩⟩⟩
    ·rw [qW f.d.ct hk ek ho];have OW:h.Live[k].Order=0:=by have:=JG.1.1;omega
     have Gl:=Yk.at_;rw [P6] at Gl;have ZP:u0.To=z0.To:=hZ.z0.pj
     have hmd:=f.d.Ea;have VG:=f.d.JL
     have Gs:∃ (zi:Nat) (ui:ef) (zz:ao),∃ k0:zi<2,[u0,u1][zi]'k0=ui∧(if a<u0.To then (0:Int) else 1)=(zi:Int)∧iH w7 w.heap.size ui zz∧bV zz∧(zz.aV<=a∧a<zz.To)∧keyOf z0 z1 cpu a=⟨cpu,(zi:Int),zM zz a,[]⟩:=by
      by_cases hx:a<z0.To
      ·exact ⟨0,u0,z0,by omega,rfl,by rw [if_pos (by omega)];rfl,hZ.z0,f.d.lW,⟨by have:=f.d.pX;omega,hx⟩,by unfold keyOf;rw [if_pos hx,if_pos hx];rfl⟩
      ·exact ⟨1,u1,z1,by omega,rfl,by rw [if_neg (by omega)];rfl,hZ.z1,f.d.lG,⟨by omega,by omega⟩,by unfold keyOf;rw [if_neg hx,if_neg hx];rfl⟩
     obtain ⟨zi,ui,zz,k0,Rd,tc,Ec,Re,⟨Ou,Z7⟩,qX⟩:=Gs
     have cz:∀ w',Sl w' 4 dt (some ⟨g,0,none⟩) 2 [u0,u1]->bF prog 96 [.agg (dG ⟨⟨some ⟨g,0,none⟩,2,c⟩,m,cp,li,⟨lv.A,lv.n-1,lv.c⟩⟩).toArray,.int .i64 a] w' fun v _=>v = .int .i64 (zi:Int):=fun w' h=>by
      have:=wG ⟨⟨some ⟨g,0,none⟩,2,c⟩,m,cp,li,⟨lv.A,lv.n-1,lv.c⟩⟩ u0 u1 a w' h
      rwa [tc] at this
     have Z8:=hZ.row.sl.base;obtain ⟨t,ht⟩ : ∃ t,zM zz a=t:=⟨_,rfl⟩;obtain ⟨q1,q2,q3,q4⟩:=td Ec Re;repeat' (first|refine Wz ?_|(refine Wk (cz _ hZ.row.sl) ?_;intro v w1 ai hv;subst hv;replace hw:=Ext.trans hw ai;replace aq:=aq.ext ai;replace ar:=ar.ext ai;replace g9:=g9.ext ai;replace hZ:=hZ.ext ai;replace hM:=hM.ext ai;replace hV:=hV.ext ai;replace hL:=hL.ext ai;replace Ec:=Ec.ext ai;clear ai))
     have fz:=hZ.row.sl.all k0;simp only [Rd] at fz;repeat' (first|refine Wz ?_|refine Wm fz ?_)
     refine Wk (Rc.Hp ui zz a _ Ec.rd (by omega) (by omega) ⟨by omega,by omega⟩ ⟨by omega,by omega⟩) fun v w8 Rf hv => ?_
     rw [Mu Re Ou Z7,ht] at hv;simp only at hv;subst hv;(replace hw:=Ext.trans hw Rf;replace aq:=aq.ext Rf;replace ar:=ar.ext Rf;replace hZ:=hZ.ext Rf;replace hM:=hM.ext Rf;replace hV:=hV.ext Rf;replace hL:=hL.ext Rf);clear Ec g9 fz cz;refine Wz ?_;have TJ:=hL.row.lt_size;have Ww:=aq.lt;have Wx:=ar.lt;refine SW.alloc rfl fun EC w1 ai Fg dP => ?_
     skip;refine SW.ag dP rfl rfl rfl rfl (LZ ⟨cpu,zi,t,.nil⟩) fun w2 oO hg => ?_
     have ak:=ai.own Fg hg;have TK:w.heap.size<=EC:=adf hw.size Fg
     replace hw:=Ext.trans hw ak;replace aq:=aq.ext ak;replace ar:=ar.ext ak;replace hZ:=hZ.ext ak;replace hM:=hM.ext ak;replace hV:=hV.ext ak;replace hL:=hL.ext ak;replace dP:=oO;clear oO ai hg ak;refine Wz ?_;replace ar:aS w2 b6 41 (dG .zero):=ar;have UY:∀ l∈h.av,l.ax.length<=1000:=fun l hl=>by have:=(f.lists l hl).2;omega
     obtain ⟨F,hF⟩ : ∃ F:World->Prop,F=fun v=>aS v b6 41 (dG .zero)∧aS v EC 159 (cm ⟨cpu,zi,t,.nil⟩)∧gD v w.heap.size g c u0 u1 (z0,z1)∧Own v w.heap.size 3 1 bw m.A m.n m.c h.dO∧Own v w.heap.size 147 3 aO lv.A (lv.n-1) lv.c (h.Live.eraseIdx k):=⟨_,rfl⟩
     have Z9:=ar.lt;have WA:=dP.lt;have Yl:aJ li.A li.c≠some b6:=hL.row.fi ar rfl
     have sB:OP F w2:=by
      rw [hF];exact ⟨⟨ar,dP,hZ,hM,hV⟩,fun v v' hx hP=>⟨hP.1.ext hx,hP.2.1.ext hx,hP.2.2.1.ext hx,hP.2.2.2.1.ext hx,hP.2.2.2.2.ext hx⟩⟩
     have N6:∀ (v v':World) (row:Option Nat),v.grownBy v' row->(∀ k,row=some k->k=b3∨aJ li.A li.c=some k∨w2.heap.size<=k)->F v->F v':=fun v v' row hg yH hP=>by
      rw [hF] at hP ⊢;refine ⟨hP.1.grown hg (fun e => ?_),hP.2.1.grown hg (fun e => ?_),hP.2.2.1.parts hg ((hZ.row.px hL aq rfl rfl).ne yH) ((hZ.z0.free.px hL aq rfl rfl).ne yH) ((hZ.z0.types.px hL aq rfl rfl).ne yH) ((hZ.z1.free.px hL aq rfl rfl).ne yH) ((hZ.z1.types.px hL aq rfl rfl).ne yH),hP.2.2.2.1.apart hg ((hM.px hL aq rfl rfl).ne yH),hP.2.2.2.2.apart hg ((hV.px hL aq rfl rfl).ne yH)⟩
      ·rcases yH b6 e.symm with h|h|h
       ·exact oL h.symm
       ·exact Yl h
       ·omega
      ·rcases yH EC e.symm with h|h|h
       ·omega
       ·have:=TJ _ h;omega
       ·omega
     have Ss:∀ (i:Nat) (hi:i<ls.length) (v v':World),v.grownBy v' (aJ ls[i].ax.A ls[i].ax.c)->F v->F v':=fun i hi v v' hg hP=>by
      rw [hF] at hP ⊢;have Mw:=(hL.each.get i hi (by rw [<- hL.each.len];exact hi)).bC;exact ⟨hP.1.grown hg (fun e=>Mw.fi ar rfl e.symm),hP.2.1.grown hg (fun e=>Mw.fi dP rfl e.symm),hP.2.2.1.parts hg (hZ.row.oW Mw rfl) (hZ.z0.free.oW Mw rfl) (fun k e e2=>xU.types i hi k e2 u0 (by simp) e) (hZ.z1.free.oW Mw rfl) (fun k e e2=>xU.types i hi k e2 u1 (by simp) e),hP.2.2.2.1.apart hg (fun k e e2=>xU.eE i hi k e2 e),hP.2.2.2.2.apart hg (hV.oW Mw rfl)⟩
     obtain ⟨x,hx⟩ : ∃ x:aT,x=⟨cpu,zi,t,[]⟩:=⟨_,rfl⟩;have Mx:wC ⟨cpu,zi,t,.nil⟩ x:=by subst hx;exact ⟨rfl,rfl,rfl⟩
     obtain ⟨OT,_⟩:=hL.rd.len;have OX:=f.count;have aaa:li.n<=256:=by have:=hL.rd.len.2;omega
     refine SW.dX rfl rfl (E4 ⟨some ⟨g,0,none⟩,2,c⟩ m cp li ⟨lv.A,lv.n-1,lv.c⟩ h.av ls x ⟨cpu,zi,t,.nil⟩ a F b3 w _ hw gd aq hL Mx rfl (by rw [hx]) xU.sep f.n9 (by omega) UY sB N6 Ss) fun v w9 hv => ?_
     obtain ⟨ni,Ym,Lo,wK,ed,UZ,_⟩:=hv;rw [hF] at Ym;obtain ⟨bQ,oO,Gk,Gm,DE⟩:=Ym;clear hw aq hL ar dP hZ hM hV sB N6 Ss Yl Z9 WA Ww Wx TJ;have hw:=ni;have aq:=ed;have hL:=UZ;have ar:=bQ;have dP:=oO;have hZ:=Gk;have hM:=Gm;have hV:=DE;clear ni ed UZ bQ oO Gk Gm DE;obtain ⟨pg,wA⟩ : ∃ pg,dh h.av x++[a]=pg:=⟨_,rfl⟩;have TL:keyOf z0 z1 cpu a=x:=by rw [qX,ht,hx]
     rw [TL,wA];rw [wA] at hL;obtain ⟨xx,P8⟩ : ∃ xx:aT,(⟨x.ga,x.ao,x.Ty,pg⟩ : aT)=xx:=⟨_,rfl⟩;rw [P8] at hL;have Yn:jg x xx:=by rw [<- P8];exact ⟨rfl,rfl,rfl⟩
     obtain ⟨e1,e2⟩:=kC (L:=h.av) Yn;obtain ⟨e3,e4⟩:=EO (L:=h.av) (x:=xx);obtain ⟨e5,e6⟩:=kC (L:=iZ h.av xx) Yn;obtain ⟨p0,BC⟩ : ∃ p0,bu h.av xx=p0:=⟨_,rfl⟩;rw [BC] at e1 e3;have P9:=zH (L:=h.av) (x:=xx);rw [BC] at P9;obtain ⟨Rg,Su⟩:=adC.1 P9;obtain ⟨l3,l4⟩:=hL.rd.len;have Ml:p0<Lo.n:=by omega
     have Rh:p0<wK.length:=by omega
     have Yo:Lo.n<=257:=by
      rw [<- l4,iZ];split
      ·simp;omega
      ·rw [di _ (ny _ _)];omega
     have cl:∀ w',zw w' Lo wK (iZ h.av xx)->bF prog 99 [.agg (dG ⟨⟨some ⟨g,0,none⟩,2,c⟩,m,cp,Lo,⟨lv.A,lv.n-1,lv.c⟩⟩).toArray,.agg (cm ⟨cpu,zi,t,.nil⟩).toArray] w' fun v _=>v = .tuple #[.int .i64 (p0:Int),.bool true]:=fun w' hh=>by
      have:=wD ⟨⟨some ⟨g,0,none⟩,2,c⟩,m,cp,Lo,⟨lv.A,lv.n-1,lv.c⟩⟩ (iZ h.av xx) wK x ⟨cpu,zi,t,.nil⟩ w' hh Mx (by simp only;omega)
      rwa [e5,e3,e6,e4] at this
     repeat' (first|refine Wz ?_|(refine Wk (cl _ hL.rd) ?_;intro v w1 ai hv;subst hv;replace hw:=Ext.trans hw ai;replace aq:=aq.ext ai;replace ar:=ar.ext ai;replace hZ:=hZ.ext ai;replace hM:=hM.ext ai;replace hV:=hV.ext ai;replace hL:=hL.ext ai;clear ai))
     clear cl dP;have hAl:=hL.row.sl.base;have DC:=hL.each.get p0 Rh Rg;rw [Su] at DC;have E6:=DC.bC.sl.len;have Vs:xx.ax=pg:=by rw [<- P8]
     rw [Vs] at E6;have g3:=hL.row.sl.jR Ml (j:=3) (u := .slice wK[p0].ax.A wK[p0].ax.n wK[p0].ax.c) rfl;by_cases h8 : 8<pg.length
     ·have OI:dB h.av x=true:=by
       cases e:dB h.av x with
       | true=>rfl
       | false=>rw [nM e] at wA;rw [<- wA] at h8;simp at h8
      have Bd:p0<h.av.length:=by rw [<- e1];exact (j8 OI).1
      have Ll:dh h.av x=h.av[p0].ax:=by
       rw [iQ OI (by omega)];simp only [e1]
      rw [Ll] at wA;have hp8:=(f.lists _ (adb Bd)).2;have aac:pg.length=h.av[p0].ax.length+1:=by rw [<- wA];simp
      have G5:∀ j,j<=4->pg.take j=h.av[p0].ax.take j:=fun j hj=>by rw [<- wA,aeC (by omega)]
      have iB:∀ (j:Nat) (hj:j<pg.length) (nR:j<h.av[p0].ax.length),pg[j]=h.av[p0].ax[j]:=fun j hj nR=>by
       simp only [<- wA];exact aeh nR
      have WB:kE h z0 z1 x pg (h.Live.eraseIdx k)=⟨[(bX (z0,z1) ((pg.take 4).map cu)).1,(bX (z0,z1) ((pg.take 4).map cu)).2],h.dO,h.bG,iZ h.av (nl x (pg.drop 4)),h.Live.eraseIdx k⟩:=by
       unfold kE;rw [if_pos h8]
      rw [WB];have Ov:=DC.bC.le;repeat' (first|refine Wz ?_|refine Wl g3 ?_|(refine SW.st (dn (k:=4) rfl rfl (by omega)) rfl ?_))
      refine CW.loop (fun t:Nat×ef×ef=>[(3,.pointer (some ⟨b3,0,none⟩)),(6,.pointer (some ⟨b6,0,none⟩)),(16,.int .i64 (p0:Int)),(107,.slice wK[p0].ax.A 4 wK[p0].ax.c),(108,.int .i64 4),(109,.int .i64 (t.1:Int))])
       (fun t w'=>t.1<=4∧Ext w w'∧aS w' b3 41 (dG ⟨⟨some ⟨g,0,none⟩,2,c⟩,m,cp,Lo,⟨lv.A,lv.n-1,lv.c⟩⟩)∧aS w' b6 41 (dG .zero)∧gD w' w.heap.size g c t.2.1 t.2.2 (bX (z0,z1) ((pg.take t.1).map cu))∧Own w' w.heap.size 3 1 bw m.A m.n m.c h.dO∧Own w' w.heap.size 147 3 aO lv.A (lv.n-1) lv.c (h.Live.eraseIdx k)∧gl w' w.heap.size Lo wK (iZ h.av xx)) (fun t=>4-t.1) (0,u0,u1)
       ⟨rfl,rfl,rfl,rfl,rfl,rfl,trivial⟩ ⟨by omega,hw,aq,ar,by simpa [bX] using hZ,hM,hV,hL⟩ ?_
      clear hw aq ar hZ hM hV hL DC g3 Z8 qE uf;rintro ⟨j,u0,u1⟩ w' ⟨hj,hw,aq,ar,hZ,hM,hV,hL⟩
      simp only at hj hZ ⊢;have DC:=hL.each.get p0 Rh Rg;rw [Su] at DC
      have TM:Own w' w.heap.size 3 1 bw wK[p0].ax.A wK[p0].ax.n wK[p0].ax.c pg:=by
       have:=DC.bC
       rwa [Vs] at this
      have WC:=TM.sl.base;by_cases Yp:j<4
      ·have pO:j<wK[p0].ax.n:=by omega
       have U0:j<pg.length:=by omega
       have hD:=f.inv Bd j (by omega);have hN:=f.G8 Bd (show j<h.av[p0].ax.length by omega)
       have U1:bX (z0,z1) ((pg.take (j+1)).map cu)=gB (bX (z0,z1) ((pg.take j).map cu)) (cu pg[j]):=by
        rw [adk U0,adG,n6];rfl
       rw [<- G5 j hj,<- iB j U0 (by omega)] at hN;rw [<- G5 j hj] at hD;have hA4 : 0<4->wK[p0].ax.A.isSome=true:=fun _=>WC (by omega)
       repeat' (first|refine Wz ?_|refine Wl (TM.sl.one pO rfl) ?_)
       refine SW.dX rfl rfl (wH m cp Lo ⟨lv.A,lv.n-1,lv.c⟩ u0 u1 _ _ (cu pg[j]) w.heap.size g c b3 _ aq hZ hw.size hD hN) fun v w8 hv => ?_
       obtain ⟨hg,u2,u3,Gk⟩:=hv;have hG:=hZ.gr hg;replace hw:=hw.own hZ.IL hg;(replace aq:=aq.aK hG rfl;replace ar:=ar.aK hG rfl;replace hM:=hM.aK hG rfl;replace hV:=hV.aK hG rfl;replace hL:=hL.aK hG rfl);refine Wz ?_;exact ae.again (j+1,u2,u3) ⟨rfl,rfl,rfl,rfl,rfl,rfl,trivial⟩ (by simp only;omega) ⟨by simp only;omega,hw,aq,ar,by simp only;rw [U1];exact Gk,hM,hV,hL⟩
      ·obtain rfl:j=4:=by omega
       have hAl:=hL.row.sl.base;refine Wz ?_;refine CW.gn 13 13 (fun _=>True) mixed (by kernel_rfl) fun w1 ai aG => ?_
       replace hw:=Ext.trans hw ai;replace aq:=aq.ext ai;replace ar:=ar.ext ai;replace hZ:=hZ.ext ai;replace hM:=hM.ext ai;replace hV:=hV.ext ai;replace hL:=hL.ext ai;replace TM:=TM.ext ai;clear ai;refine Wf ?_;refine Wt 8 [] [] aG rfl (aU rfl (hL.row.sl.jR Ml (j:=3) (u := .slice wK[p0].ax.A wK[p0].ax.n wK[p0].ax.c) rfl)) ?_;refine Wt 9 [] [] aG rfl (bd (k:=4) rfl rfl (by omega) (by omega)) ?_;refine SF.one 10 rfl (by kernel_rfl) rfl ?_;refine Wk (dF _ _ _ _ _ (TM.sl.drop 4 wK[p0].ax.c (by omega) (by omega)) (by omega)) fun v w4 ak hv => ?_
       obtain ⟨X,c4,rfl,hX⟩:=hv;replace hX:=hX.low hw.size;(replace hw:=Ext.trans hw ak;replace aq:=aq.ext ak;replace ar:=ar.ext ak;replace hZ:=hZ.ext ak;replace hM:=hM.ext ak;replace hV:=hV.ext ak;replace hL:=hL.ext ak);refine SW.nil (ae.sf ak ?_);refine Wf ?_;refine SF.last rfl (by kernel_rfl) (by kernel_rfl) ?_;refine SW.gZ p0 3 ⟨wK[p0].ga,wK[p0].ao,wK[p0].Ty,⟨X,wK[p0].ax.n-4,c4⟩⟩ hL.row rfl rfl rfl Ml (by decide) rfl rfl fun w6 kD uf => ?_
       have yG:=hL.row.gr uf;replace hw:=aD hw uf (adg _) hL.row.a9;have PU:=hL.each.get p0 Rh Rg;rw [Su] at PU;have hE:=gg.setAt (R':=rM w6 w.heap.size) (x:=⟨wK[p0].ga,wK[p0].ao,wK[p0].Ty,⟨X,wK[p0].ax.n-4,c4⟩⟩) (y:=nl x (pg.drop 4)) (i:=p0) hL.each ⟨PU.cpu.trans (by rw [<- P8];rfl),PU.kr.trans (by rw [<- P8];rfl),PU.ty.trans (by rw [<- P8];rfl),hX.aK yG rfl⟩ (fun j h1 h2 _ hh=>hh.aK yG rfl)
       have OY:(iZ h.av xx).set p0 (nl x (pg.drop 4))=iZ h.av (nl x (pg.drop 4)):=by
        rw [<- BC];exact EP (by rw [<- P8];exact ⟨rfl,rfl,rfl⟩)
       rw [OY] at hE;(replace aq:=aq.aK yG rfl;replace ar:=ar.aK yG rfl;replace hZ:=hZ.aK yG rfl;replace hM:=hM.aK yG rfl;replace hV:=hV.aK yG rfl);refine Wz ?_;refine SW.ag ar rfl rfl rfl rfl (dY ⟨⟨some ⟨g,0,none⟩,2,c⟩,m,cp,Lo,⟨lv.A,lv.n-1,lv.c⟩⟩) fun w9 cX hg => ?_
       have hG:=ar.gr hg;replace hw:=hw.own cS hg;(replace hZ:=hZ.aK hG rfl;replace hM:=hM.aK hG rfl;replace hV:=hV.aK hG rfl);refine Wz ?_;exact ae.dA rfl rfl rfl cX rfl ⟨_,rfl,hw,⟨⟨some ⟨g,0,none⟩,2,c⟩,m,cp,Lo,⟨lv.A,lv.n-1,lv.c⟩⟩,rfl,⟨BB,hM,hV,⟨[u0,u1],⟨hZ.row,gg.two hZ.z0 hZ.z1⟩⟩,⟨_,⟨kD.aK hG rfl,hE.mono fun _ _ hh=>hh.aK hG rfl⟩⟩⟩⟩
     ·have WB:kE h z0 z1 x pg (h.Live.eraseIdx k)=⟨[z0,z1],h.dO,h.bG,iZ h.av xx,h.Live.eraseIdx k⟩:=by
       unfold kE;rw [if_neg h8,<- P8];rfl
      rw [WB];repeat' (first|refine Wz ?_|refine Wl g3 ?_)
      refine SW.ag ar rfl rfl rfl rfl (dY ⟨⟨some ⟨g,0,none⟩,2,c⟩,m,cp,Lo,⟨lv.A,lv.n-1,lv.c⟩⟩) fun w9 cX hg => ?_
      have hG:=ar.gr hg;replace hw:=hw.own cS hg;(replace hZ:=hZ.aK hG rfl;replace hM:=hM.aK hG rfl;replace hV:=hV.aK hG rfl;replace hL:=hL.aK hG rfl);refine Wz ?_;exact ae.dA rfl rfl rfl cX rfl ⟨_,rfl,hw,⟨⟨some ⟨g,0,none⟩,2,c⟩,m,cp,Lo,⟨lv.A,lv.n-1,lv.c⟩⟩,rfl,⟨BB,hM,hV,⟨[u0,u1],⟨hZ.row,gg.two hZ.z0 hZ.z1⟩⟩,⟨wK,hL⟩⟩⟩
  ·rw [yD hq hc];repeat' (first|refine Wz ?_|refine SW.gi rfl rfl rfl (fun h => ?_) (fun h => ?_)|(refine Wk (c1 _ hw) ?_;intro v w1 ai hv;subst hv;replace hw:=Ext.trans hw ai;replace aq:=aq.ext ai;replace ar:=ar.ext ai;clear ai))
   all_goals try omega
   all_goals
    refine SW.ag ar rfl rfl rfl rfl (dY .zero) fun w5 cX hg => ?_
    replace hw:=hw.own cS hg;refine Wz ?_;exact ae.dA rfl rfl rfl cX rfl ⟨_,rfl,hw,kR.zero 1 _ _⟩
section
variable {w w':World} {lo t:Nat} {R:List dx} {L:List aT} {y:dx} {x:aT}
end
variable {L:List aT}
def ya (z:ao) : Prop:=z.aj.length<=257∧z.Types.length<=32
theorem Cg {s:ao×ao} (h:ya s.1∧ya s.2) (b:Block) : ya (gB s b).1∧ya (gB s b).2:=by
 unfold gB;split
 ·exact ⟨⟨(ml _ _ _).1,(ml _ _ _).2.1⟩,h.2⟩
 ·exact ⟨h.1,(ml _ _ _).1,(ml _ _ _).2.1⟩
theorem xu:∀ (l:List Block) {s:ao×ao},ya s.1∧ya s.2->ya (bX s l).1∧ya (bX s l).2
 | [],_,h=>h
 | b::l,s,h=>xu l (s:=gB s b) (Cg h b)
theorem ya.small (h:ya z) : z.aj.length*24<=140737488355328∧z.Types.length*8<=140737488355328:=⟨adf (adD 24 h.1) (by decide),by have:=h.2;omega⟩
theorem My {l:List α} {b x : α} (h:x∈aN l i b) : x=b∨x∈l:=by
 unfold aN at h;rw [adm,adm] at h;rcases h with (h|h)|h
 ·exact .inr (adE h)
 ·exact .inl (by simpa using h)
 ·exact .inr (adU h)
theorem Mz {x y:aT} (h:y∈iZ L x) : y=x∨y∈L:=by
 unfold iZ at h;split at h
 ·rcases ads h with h|h
  ·exact .inr h
  ·exact .inl h
 ·exact My h
theorem MA (L:List aT) (x:aT) : (iZ L x).length<=L.length+1:=by
 unfold iZ;split
 ·simp
 ·rw [di _ (ny L x)];omega
theorem Fh {h:Heap} (f:jC h z0 z1) (x:aT) : (dh h.av x).length<=8:=by
 cases e:dB h.av x with
 | false=>rw [nM e];simp
 | true =>
   obtain ⟨h1,_⟩:=j8 e;rw [iQ e h1];exact (f.lists _ (adb h1)).2
theorem xv {h:Heap} (f:jC h z0 z1) (x:aT) (hx:x.ax.length<=9) : (iZ h.av x).length*48<=140737488355328 ∧ ∀ l∈iZ h.av x,l.ax.length*8<=140737488355328:=by
 have:=f.count
 have:=MA h.av x
 refine ⟨by omega,fun l hl => ?_⟩;rcases Mz hl with rfl|hl
 ·omega
 ·have:=(f.lists l hl).2;omega
theorem xw (h:Heap) (cpu a:Int) (hs:h.small) : (fh h cpu a).2.small:=by
 have hz:((8:Int),(⟨[],[],0,[],[]⟩ : Heap)).2.small:=by constructor<;>simp
 cases hq:je h
 ·rw [II hq];exact hz
 ·by_cases hc : 0<=cpu∧cpu<h.bG
  ·cases hf:bP h.Live a
   ·rw [IJ hq hc hf];exact hz
   ·rw [nz hq hc hf];obtain ⟨z0,z1,f⟩:=gC (cq.1 hq);obtain ⟨hk,_⟩:=jB hf;have Sv:=kA f.d.lW;have Br:=kA f.d.lG;have Sp:ya z0∧ya z1:=⟨⟨by omega,Sv.2⟩,⟨by omega,Br.2⟩⟩
    have tW:(h.Live.eraseIdx (bE h.Live a)).length*24<=140737488355328:=by
     have:=hs.live
     have:=aez h.Live (bE h.Live a)
     omega
    by_cases ho : 0<h.Live[bE h.Live a].Order
    ·rw [qV f.d.ct hk rfl ho];have hb:=Cg (s:=(z0,z1)) Sp h.Live[bE h.Live a];refine ⟨by simp [ss],hs.eE,hs.lists,tW,fun z hz => ?_,hs.bC⟩;simp only [ss,List.mem_cons,List.not_mem_nil,or_false] at hz;rcases hz with rfl|rfl
     ·exact hb.1.small
     ·exact hb.2.small
    ·rw [qW f.d.ct hk rfl ho];have hp:=Fh f (keyOf z0 z1 cpu a);unfold kE;split
     ·have hb:=xu (((dh h.av (keyOf z0 z1 cpu a)++[a]).take 4).map cu) (s:=(z0,z1)) Sp;obtain ⟨g1,g2⟩:=xv f (nl (keyOf z0 z1 cpu a) ((dh h.av (keyOf z0 z1 cpu a)++[a]).drop 4)) (by simp only [nl,List.length_drop,List.length_append,List.length_singleton];omega);refine ⟨by simp,hs.eE,g1,tW,fun z hz => ?_,g2⟩;simp only [List.mem_cons,List.not_mem_nil,or_false] at hz;rcases hz with rfl|rfl
      ·exact hb.1.small
      ·exact hb.2.small
     ·obtain ⟨g1,g2⟩:=xv f (nl (keyOf z0 z1 cpu a) (dh h.av (keyOf z0 z1 cpu a)++[a])) (by simp only [nl,List.length_append,List.length_singleton];omega);refine ⟨by simp,hs.eE,g1,tW,fun z hz => ?_,g2⟩;simp only [List.mem_cons,List.not_mem_nil,or_false] at hz;rcases hz with rfl|rfl
      ·exact Sp.1.small
      ·exact Sp.2.small
  ·rw [yD hq hc];exact hz
variable {c:aQ} {k:Nat}
theorem Ch (h:fL z) (a o:Int) : fL (fT z a o).2:=by
 have h0:fL ⟨0,0,[],[]⟩:=by unfold fL;simp
 unfold fT;(repeat' split)<;>first|exact h|exact h0
theorem Ci {s:ao×ao} (h:fL s.1∧fL s.2) (b:Block) : fL (gB s b).1∧fL (gB s b).2:=by
 unfold gB;split
 ·exact ⟨Ch h.1 _ _,h.2⟩
 ·exact ⟨h.1,Ch h.2 _ _⟩
theorem xy:∀ (l:List Block) {s:ao×ao},fL s.1∧fL s.2->fL (bX s l).1∧fL (bX s l).2
 | [],_,h=>h
 | b::l,s,h=>xy l (s:=gB s b) (Ci h b)
theorem yI {a b:ao} (h:fL a∧fL b) : ∀ z∈[a,b],fL z:=fun z hz=>by
 simp only [List.mem_cons,List.not_mem_nil,or_false] at hz;rcases hz with rfl|rfl
 ·exact h.1
 ·exact h.2
theorem J9 (h:Heap) (cpu a:Int) (hs:∀ z∈h.bp,fL z) : ∀ z∈(fh h cpu a).2.bp,fL z:=by
 have h0:∀ z∈(⟨[],[],0,[],[]⟩ : Heap).bp,fL z:=fun z hz=>by simp at hz
 unfold fh;split
 ·split
  ·split
   ·simp only [iR];split
    ·rename_i z0 z1 hz;have hb:fL z0∧fL z1:=⟨hs _ (by rw [hz];simp),hs _ (by rw [hz];simp)⟩
     split
     ·exact yI (Ci (s:=(z0,z1)) hb _)
     ·unfold kE;split
      ·exact yI (xy _ (s:=(z0,z1)) hb)
      ·exact yI hb
    ·exact h0
   ·exact h0
  ·exact h0
 ·exact h0
structure Lp (h:Heap) : Prop where
 small:h.small
 uL:∀ z∈h.bp,fL z
theorem Lp.free {h:Heap} (a:Lp h) (cpu at_:Int) : Lp (fh h cpu at_).2:=⟨xw h cpu at_ a.small,J9 h cpu at_ a.uL⟩
def eQ (c:aQ) (k:Nat) : aQ:=⟨c.Names,c.az,c.bL,c.Order,c.ab.eraseIdx k,c.ap⟩
def jN (c:aQ) : aQ:=⟨c.Names,c.az,c.bL,c.Order,c.ab,List.replicate c.ap.length (-1)⟩
noncomputable def dR:Nat->Heap×aQ->Heap×aQ
 | 0,p=>p
 | k+1,p=>dR k (if h:k<p.2.ab.length then (if p.2.ab[k].aj=p.2.bL then ((fh p.1 0 p.2.ab[k].At).2,eQ p.2 k) else p) else p)
theorem sH {h:Heap} (hk:k<c.ab.length) (e:c.ab[k].aj=c.bL) : dR (k+1) (h,c)=dR k ((fh h 0 c.ab[k].At).2,eQ c k):=by
 simp only [dR,hk,dite_true,e,if_true]
theorem qZ {h:Heap} (hk:k<c.ab.length) (e : ¬ c.ab[k].aj=c.bL) : dR (k+1) (h,c)=dR k (h,c):=by
 simp only [dR,hk,dite_true,if_neg e]
def bI (s:ah) (i:Nat) (p:Heap×aQ) : ah:=⟨s.Words,p.1,s.aa.set i p.2⟩
structure Fi (c:aQ) : Prop where
 small:c.small
 at_:∀ x∈c.ab,-9223372036854775808<=x.At∧x.At<=9223372036854775807
theorem Fi.cut (h:Fi c) (k:Nat) : Fi (eQ c k):=by
 have h1:=h.small.aE;have h2:=aez c.ab k;exact ⟨⟨h.small.names,by simp only [eQ];omega,h.small.ba⟩,fun x hx=>h.at_ x (adV hx)⟩
theorem Fi.idle (h:Fi c) : Fi (jN c):=⟨⟨h.small.names,h.small.aE,by simp only [jN,List.length_replicate];exact h.small.ba⟩,h.at_⟩
theorem ra:∀ (k:Nat) {p:Heap×aQ},Lp p.1->Fi p.2->Lp (dR k p).1∧Fi (dR k p).2
 | 0,_,h1,h2=>⟨h1,h2⟩
 | k+1,(h,c),h1,h2=>by
   unfold dR;simp only;split
   ·split
    ·exact ra k (h1.free _ _) (h2.cut _)
    ·exact ra k h1 h2
   ·exact ra k h1 h2
theorem ah.cK.lX (h:s.cK) : Lp s.Heap:=⟨h.small.heap,h.ct⟩
theorem ah.cK.Sw (h:s.cK) (hi:i<s.aa.length) : Fi s.aa[i]:=⟨h.small.each _ (adb hi),h.aE _ (adb hi)⟩
theorem xz (h:s.small) (i:Nat) {p:Heap×aQ} (h1:Lp p.1) (h2:Fi p.2) : (bI s i p).small:=by
 refine ⟨h.words,h1.small,by simp only [bI,List.length_set];exact h.br,fun c hc => ?_⟩;rcases ads hc with hc|rfl
 ·exact h.each c hc
 ·exact h2.small
variable {n:ByteArray} {cpu:Int} {Cf:List dS} {p:α -> Bool}
theorem ka {l:List α} (h:l.any p=true) : ∃ (i:Nat) (hi:i<l.length),p l[i]=true∧(∀ (j:Nat) (hj:j<l.length),j<i->p l[j]=false)∧idxOf p l=(i:Int):=by
 have h1:l.findIdx p<l.length:=List.findIdx_lt_length_of_exists (by simpa using h)
 exact ⟨l.findIdx p,h1,List.findIdx_getElem (w:=h1),fun j hj ja=>by simpa using List.not_of_lt_findIdx ja,by unfold idxOf;rw [if_pos h]⟩
noncomputable def iU (s:ah) (n:ByteArray) (cpu:Int) : Int:=if fW s then (if s.aa.any (dQ n) then (if 0<=cpu∧cpu<s.Heap.bG then 0 else 1) else 4) else 8
theorem MB (h:fW s=false) : iU s n cpu=8:=by simp [iU,h]
theorem MC (h:fW s=true) (h1:s.aa.any (dQ n)=false) : iU s n cpu=4:=by simp only [iU,h,h1,if_true,Bool.false_eq_true,if_false]
theorem MD (h:fW s=true) (h1:s.aa.any (dQ n)=true) (h2 : ¬ (0<=cpu∧cpu<s.Heap.bG)) : iU s n cpu=1:=by simp only [iU,h,h1,if_true,if_neg h2]
theorem Hq (h:fW s=true) (h1:s.aa.any (dQ n)=true) (h2 : 0<=cpu∧cpu<s.Heap.bG) : iU s n cpu=0:=by simp only [iU,h,h1,if_true,if_pos h2]
theorem mC (h:iU s n cpu=0) : fW s=true∧s.aa.any (dQ n)=true∧0<=cpu∧cpu<s.Heap.bG:=by
 unfold iU at h;split at h
 ·rename_i h0;split at h
  ·rename_i h1;split at h
   ·rename_i h2;exact ⟨h0,h1,h2⟩
   ·omega
  ·omega
 ·omega
def Ri (lo:Nat) (s:ah) (n:ByteArray) (cpu:Int) (v:Value) (w:World) : Prop :=
 (iU s n cpu≠0∧v = .tuple #[.agg (aP .zero).toArray,.int .i64 0,.int .i64 (iU s n cpu)]) ∨
 (iU s n cpu=0 ∧ ∃ q cs,v = .tuple #[.agg (aP q).toArray,.int .i64 (idxOf (dQ n) s.aa),.int .i64 0]∧SX w lo q s cs∧SI w lo q s cs)
theorem tg {p:Heap×aQ}:(bI s i p).aa.length=s.aa.length:=adK
theorem oe (hi:i<s.aa.length) : bI s i (s.Heap,s.aa[i])=s:=by
 cases s
 simp [bI]
section
variable {w w':World} {lo:Nat} {r:da} {s:ah} {cs:List dS} {i:Nat} {p:Heap×aQ}
theorem sD.rows (h:SX w lo r (bI s i p) cs) : cs.length=s.aa.length∧r.aa.n=s.aa.length:=by
 have h1:=h.row.len;have h2:=h.each.len;rw [tg] at h2;omega
theorem sD.get (h:SX w lo r (bI s i p) cs) (hi:i<cs.length) (po:i<s.aa.length) : oE w lo cs[i] p.2:=by
 have:=h.each.get i hi (by rw [tg];exact po)
 simpa [bI] using this
theorem sD.DF (h:SX w lo r (bI s i p) cs) (hi:i<cs.length) (po:i<s.aa.length) (hO:Own w' lo 111 3 bh cs[i].ab.A n' cs[i].ab.c l') (hg:w.grownBy w' (aJ cs[i].ab.A cs[i].ab.c)) :
 sD w' lo r (bI s i (p.1,⟨p.2.Names,p.2.az,p.2.bL,p.2.Order,l',p.2.ap⟩)) cs (cs.set i ⟨cs[i].Names,cs[i].az,cs[i].bL,cs[i].Order,⟨cs[i].ab.A,n',cs[i].ab.c⟩,cs[i].ap⟩):=by
 have:=h.aE hi (by rw [tg];exact po) hO hg
 simpa [bI] using this
theorem sD.ME {l':List Int} (h:SX w lo r (bI s i p) cs) (hI:SI w lo r (bI s i p) cs) (hi:i<cs.length) (po:i<s.aa.length) (hO:Own w' lo 3 1 bw cs[i].ap.A cs[i].ap.n cs[i].ap.c l') (hg:w.grownBy w' (aJ cs[i].ap.A cs[i].ap.c)) :
 SX w' lo r (bI s i (p.1,⟨p.2.Names,p.2.az,p.2.bL,p.2.Order,p.2.ab,l'⟩)) cs∧SI w' lo r (bI s i (p.1,⟨p.2.Names,p.2.az,p.2.bL,p.2.Order,p.2.ab,l'⟩)) cs:=by
 have:=h.ba hI hi (by rw [tg];exact po) hO hg
 simpa [bI] using this
theorem sD.Rj {H:jy} {h':Heap} (h:sD w lo r (bI s i p) Cf cs) (hH:jH w lo H h') : sD w lo ⟨r.Words,H,r.aa⟩ (bI s i (h',p.2)) Cf cs:=⟨h.words,hH,h.row,h.each,h.pair⟩
end
variable {i':Nat}
def og (s:ah) (a:Int) (i k:Nat) : Bool:=if h:i<s.aa.length then (if h':k<s.aa[i].ab.length then il s.aa[i].az s.aa[i].bL (s.aa[i].ab[k]).At a else false) else false
theorem qe (h:i<s.aa.length) (h':k<s.aa[i].ab.length) : og s a i k=il s.aa[i].az s.aa[i].bL (s.aa[i].ab[k]).At a:=by simp [og,h,h']
theorem Ka (h:i<s.aa.length) (h' : ¬ k<s.aa[i].ab.length) : og s a i k=false:=by simp [og,h,h']
structure lL (s:ah) (a:Int) (i k:Nat) : Prop where
 hi:i<s.aa.length
 hk:k<s.aa[i].ab.length
 obj:og s a i k=true
 ahead:∀ i' k',(i'<i∨(i'=i∧k'<k))->og s a i' k'=false
inductive iG (s:ah) (a:Int) : Int×Int×Int->Prop where
 | bad (h:fW s=false) : iG s a (0,0,8)
 | none (h:fW s=true) (hn:∀ i k,og s a i k=false) : iG s a (0,0,4)
 | free {i k:Nat} {out:List Int} (h:fW s=true) (hF:lL s a i k) (hC:bO s.Words (s.aa[i]'hF.hi).az (s.aa[i]'hF.hi).bL ((s.aa[i]'hF.hi).ab[k]'hF.hk) out) (hm:a∈out) : iG s a (0,0,4)
 | hit {i k:Nat} {out:List Int} (h:fW s=true) (hF:lL s a i k) (hC:bO s.Words (s.aa[i]'hF.hi).az (s.aa[i]'hF.hi).bL ((s.aa[i]'hF.hi).ab[k]'hF.hk) out) (hm:a∉out) : iG s a (i,k,0)
theorem lL.Rk {k':Nat} (h:lL s a i k) (h':lL s a i' k') : i=i'∧k=k':=by
 rcases (show i<i'∨(i=i'∧k<k')∨i'<i∨(i'=i∧k'<k)∨(i=i'∧k=k') by omega) with g|g|g|g|g
 ·have:=h'.ahead i k (.inl g);rw [h.obj] at this;cases this
 ·have:=h'.ahead i k (.inr g);rw [h.obj] at this;cases this
 ·have:=h.ahead i' k' (.inl g);rw [h'.obj] at this;cases this
 ·have:=h.ahead i' k' (.inr g);rw [h'.obj] at this;cases this
 ·exact g
theorem iG.dq {u v:Int×Int×Int} (h:iG s a u) (k:iG s a v) : u=v:=by
 cases h with
 | bad h=>cases k with
   | bad=>rfl
   | none h'=>rw [h] at h';cases h'
   | free h'=>rw [h] at h';cases h'
   | hit h'=>rw [h] at h';cases h'
 | none h hn=>cases k with
   | bad h'=>rw [h] at h';cases h'
   | none=>rfl
   | free=>rfl
   | hit h' hF=>exact absurd hF.obj (by rw [hn];simp)
 | free h hF hC hm=>cases k with
   | bad h'=>rw [h] at h';cases h'
   | none=>rfl
   | free=>rfl
   | hit h' Bi WD mY =>
     obtain ⟨rfl,rfl⟩:=hF.Rk Bi;rw [hC.dq WD] at hm;exact absurd hm mY
 | hit h hF hC hm=>cases k with
   | bad h'=>rw [h] at h';cases h'
   | none h' hn=>exact absurd hF.obj (by rw [hn];simp)
   | free h' Bi WD mY =>
     obtain ⟨rfl,rfl⟩:=hF.Rk Bi;rw [hC.dq WD] at hm;exact absurd mY hm
   | hit h' Bi =>
     obtain ⟨rfl,rfl⟩:=hF.Rk Bi
     rfl
def Cj (u:Int×Int×Int) : Value := .tuple #[.int .i64 u.1,.int .i64 u.2.1,.int .i64 u.2.2]
set_option maxHeartbeats 4000000 in
theorem vt (r:da) (s:ah) (a:Int) (w:World) (hr:Bh w r s) (hf:s.cK) (ha : -9223372036854775808<=a∧a<=9223372036854775807) :
 bF prog 71 [.agg (aP r).toArray,.int .i64 a] w fun v _ => ∃ u,iG s a u∧v=Cj u:=by
 refine aC func71 rfl ntmps71 rfl ?_;refine CW.seq (CW.region (SW.box rfl rfl fun b2 w1 hw fA au => ?_));obtain ⟨q,hq⟩ : ∃ q,fW s=q:=⟨_,rfl⟩
 have c1:∀ w',Ext w w'->bF prog 46 [.agg (aP r).toArray] w' fun v _=>v = .int .i64 (if q then 0 else 8):=fun w' hx=>by
  have:=mr r s w' (hr.ext hx) hf
  rwa [hq] at this
 cases q
 all_goals simp only [if_true,Bool.false_eq_true,if_false] at c1
 ·repeat' (first|refine Wz ?_|(refine Wk (c1 _ hw) ?_;intro v w1 ai hv;subst hv;obtain ⟨hw,au⟩:=df ai hw au;clear ai))
  exact ae.C5 rfl rfl rfl rfl ⟨_,rfl,hw,(0,0,8),.bad hq,rfl⟩
 ·have hM:=iS.1 hq;have hs:=hf.small;obtain ⟨cs,hc⟩:=hr.br;obtain ⟨z1,z2⟩:=hc.len;have wl:=hr.words.len;have m1:=hs.words;have m3:=hs.br;repeat' (first|refine Wz ?_|(refine Wk (c1 _ hw) ?_;intro v w1 ai hv;subst hv;obtain ⟨hw,au⟩:=df ai hw au;clear ai))
  clear c1
  refine CW.loop (fun k:Nat=>[(1,.int .i64 a),(2,.pointer (some ⟨b2,0,none⟩)),(20,.slice r.aa.A r.aa.n r.aa.c),(21,.int .i64 (r.aa.n:Int)),(22,.int .i64 (k:Int))])
   (fun k w'=>k<=r.aa.n∧Ext w w'∧aS w' b2 44 (aP r) ∧ ∀ i' k',i'<k->og s a i' k'=false) (fun k=>r.aa.n-k) 0
   ⟨rfl,rfl,rfl,rfl,rfl,trivial⟩ ⟨by omega,hw,au,fun i' k' h=>by omega⟩ ?_
  clear hw au;rintro i w' ⟨hk,hw,au,hI⟩
  have hA:=hc.row.base;by_cases cy:i<r.aa.n
  ·have oY:i<cs.length:=by omega
   have tF:i<s.aa.length:=by omega
   have j3:=hc.each.get i oY tF;have sm:=hs.each _ (adb tF);have P3:=(hM.each i tF).may;obtain ⟨l1,l2,l3⟩:=cj P3.lay;have eS:=j3.size;have eP:=j3.per;have n2:=j3.aE.len;have m2:=sm.aE;have hS : 1<=cs[i].az∧cs[i].az<=64:=by omega
   have hP : 1<=cs[i].bL∧cs[i].bL<=64:=by omega
   repeat' (first|refine Wz ?_|refine Wo hw ((hc.row.all cy)) ?_)
   refine SW.alloc rfl fun b9 w1 ai nY bD => ?_
   refine Wz ?_;refine SW.ag bD rfl rfl rfl rfl (BV _) fun w2 jS hg => ?_
   have ak:=ai.own nY hg;have se:=hw.up nY
   obtain ⟨hw,au⟩:=df ak hw au;have bD:=jS;clear jS ai hg ak;refine Wz ?_
   refine CW.loop (fun k:Nat=>[(1,.int .i64 a),(2,.pointer (some ⟨b2,0,none⟩)),(8,.int .i64 (i:Int)),(9,.pointer (some ⟨b9,0,none⟩)),(20,.slice r.aa.A r.aa.n r.aa.c),(21,.int .i64 (r.aa.n:Int)),(22,.int .i64 (i:Int)),(28,.slice cs[i].ab.A cs[i].ab.n cs[i].ab.c),(29,.int .i64 (cs[i].ab.n:Int)),(30,.int .i64 (k:Int))])
    (fun k w'=>k<=cs[i].ab.n∧Ext w w'∧aS w' b2 44 (aP r)∧aS w' b9 107 (fQ cs[i]) ∧ ∀ k',k'<k->og s a i k'=false) (fun k=>cs[i].ab.n-k) 0
    ⟨rfl,rfl,rfl,rfl,rfl,rfl,rfl,rfl,rfl,rfl,trivial⟩ ⟨by omega,hw,au,bD,fun k' h=>by omega⟩ ?_
   clear hw au bD;rintro k w' ⟨hk,hw,au,bD,hJ⟩
   have oT:=j3.aE.base;by_cases gp:k<cs[i].ab.n
   ·have iE:k<s.aa[i].ab.length:=by omega
    obtain ⟨x,hx⟩ : ∃ x,s.aa[i].ab[k]=x:=⟨_,rfl⟩;have gS:=j3.aE.all gp;rw [hx] at gS;have ht:=(P3.oV (hM.heap)) x (by rw [<- hx];exact adb iE);obtain ⟨OZ,hC⟩:=(P3.aE k iE).chain;rw [hx] at hC;have eO:=qe (a:=a) tF iE;rw [hx,<- eS,<- eP] at eO;obtain ⟨o,ho⟩ : ∃ o,il cs[i].az cs[i].bL x.At a=o:=⟨_,rfl⟩;rw [ho] at eO
    have cO:∀ w',bF prog 123 [.agg (fQ cs[i]).toArray,.int .i64 x.At,.int .i64 a] w' fun v _=>v = .bool o:=fun w'=>by
     have:=zP cs[i] x.At a w' hS hP ht ha
     rwa [ho] at this
    repeat' (first|refine Wz ?_|refine Wo hw gS ?_)
    refine SW.alloc rfl fun OB w1 ai sG g9 => ?_
    refine Wz ?_;refine SW.ag g9 rfl rfl rfl rfl (iy.one (enc:=bh) _) fun w2 oN hg => ?_
    have ak:=ai.own sG hg;have Mv:=hw.up sG
    obtain ⟨hw,au,bD⟩:=cn ak hw au bD;have g9:=oN;clear oN ai hg ak;cases o
    ·repeat' (first|refine Wz ?_|(refine CW.gu rfl ?_)|(refine Wk (cO _) ?_;intro v w1 ai hv;subst hv;obtain ⟨hw,au,bD⟩:=cn ai hw au bD;clear ai))
     exact ae.again (k+1) ⟨rfl,rfl,rfl,rfl,rfl,rfl,rfl,rfl,rfl,rfl,trivial⟩ (by omega) ⟨by omega,hw,au,bD,fun k' h=>by
      by_cases e:k'=k
      ·subst e;exact eO
      ·exact hJ k' (by omega)⟩
    ·have Sx:lL s a i k:=⟨tF,iE,eO,fun i' k' h=>by
      rcases h with h|⟨rfl,h⟩
      ·exact hI i' k' h
      ·exact hJ k' h⟩
     repeat' (first|refine Wz ?_|(refine CW.fY rfl ?_)|(refine Wk (cO _) ?_;intro v w1 ai hv;subst hv;obtain ⟨hw,au,bD,g9⟩:=dv ai hw au bD g9;clear ai))
     refine Wk (BZ r cs[i] x s.Words _ (hr.words.ext hw) (by omega) hS hP ht) fun v w5 oC EW => ?_
     rw [eS,eP] at EW;rcases EW with ⟨out,A5,c5,hC5,rfl,OV,hl5⟩|⟨oH,rfl⟩
     ·have hw:=hw.trans oC;obtain rfl:=hC.dq hC5;have cN:∀ w',Ext w5 w'->bF prog 125 [.slice A5 OZ.length c5,.int .i64 a] w' fun v _=>v = .bool (decide (a∈OZ)):=fun w' hx=>ic _ _ _ _ _ _ (OV.sl.ext hx) (by omega)
      have h55:=Ext.refl w5;refine Wz ?_;refine Wk (cN _ h55) fun v w6 Fj hv => ?_
      subst hv;have hw:=hw.trans Fj;by_cases hm:a∈OZ
      ·rw [decide_eq_true hm];refine Wz ?_;exact ae.C5 rfl rfl rfl rfl ⟨_,rfl,hw,(0,0,4),.free hq Sx (by rw [hx];exact hC) hm,rfl⟩
      ·rw [decide_eq_false hm];refine Wz ?_;exact ae.C5 rfl rfl rfl rfl ⟨_,rfl,hw,(i,k,0),.hit hq Sx (by rw [hx];exact hC) hm,rfl⟩
     ·exact absurd hC (oH OZ)
   ·refine Wz ?_
    exact ae.again (i+1) ⟨rfl,rfl,rfl,rfl,rfl,trivial⟩ (by omega) ⟨by omega,hw,au,fun i' k' h=>by
     by_cases e:i'=i
     ·subst e;by_cases bW:k'<s.aa[i'].ab.length
      ·exact hJ k' (by omega)
      ·exact Ka tF bW
     ·exact hI i' k' (by omega)⟩
  ·refine Wz ?_
   exact ae.C5 rfl rfl rfl rfl ⟨_,rfl,hw,(0,0,4),.none hq (fun i' k'=>by
    by_cases h:i'<s.aa.length
    ·exact hI i' k' (by omega)
    ·simp [og,h]),rfl⟩
variable {most o:Int} {u:ah×Int} {acc:List Int}
theorem fU.Qa {l:List Int} {x:Int} {r:Option (List Int)} (h:fU l most x acc r) : (acc.length:Int)<=most -> ∀ out,r=some out->(out.length:Int)<=most:=by
 induction h with
 | done out=>intro ha o e;cases e;exact ha
 | bad=>intro _ _ e;cases e
 | @step k out r h1 hk h3 h ih =>
   intro ha o e;exact ih (by rw [adp];simp;omega) o e
theorem kb {x n:Int} (h:dp x=(o,n,0)) : (o=0∧n*x<=16)∨(o=1∧n*x<=32)∨(o=2∧n*x<=64):=by
 unfold dp at h;split at h
 ·rename_i hx;have k1:=afn 16 (show x≠0 by omega);have k2:=afn 32 (show x≠0 by omega);have k3:=afn 64 (show x≠0 by omega);split at h
  ·simp only [Prod.mk.injEq] at h;obtain ⟨rfl,rfl,_⟩:=h;exact .inl ⟨rfl,k1⟩
  ·split at h
   ·simp only [Prod.mk.injEq] at h;obtain ⟨rfl,rfl,_⟩:=h;exact .inr (.inl ⟨rfl,k2⟩)
   ·simp only [Prod.mk.injEq] at h;obtain ⟨rfl,rfl,_⟩:=h;exact .inr (.inr ⟨rfl,k3⟩)
 ·simp only [Prod.mk.injEq] at h;omega
theorem Rl (hM:aB s) (hF:lL s a i k) : 0<=a∧a<4096:=by
 have hc:=(hM.each i hF.hi).may;have hs:=hc.aE k hF.hk;have hl:=kb hc.lay;have ho:=hF.obj;rw [qe hF.hi hF.hk] at ho;unfold il at ho;simp only [Bool.and_eq_true,decide_eq_true_eq] at ho;have tW:=hs.live;cases hf:bP s.Heap.Live ((s.aa[i]'hF.hi).ab[k]'hF.hk).At with
 | false =>
   rw [Dy hf] at tW;omega
 | true =>
   obtain ⟨hk,e⟩:=jB hf;rw [zN hf hk] at tW;obtain ⟨_,h2,h3,_⟩:=hM.heap.live.each _ hk;rw [tW] at h3;rw [e] at h2 h3;obtain ⟨p,hp⟩ : ∃ p,(s.aa[i]'hF.hi).bL*(s.aa[i]'hF.hi).az=p:=⟨_,rfl⟩;rw [hp] at hl ho;rcases hl with ⟨h,_⟩|⟨h,_⟩|⟨h,_⟩<;>(rw [h] at h3;simp [pw] at h3;omega)
def oh (c:aQ) (x:Slab) : Bool:=decide (x.aj=c.bL) && !decide (x.At∈c.ap)
def iq (c:aQ) (k:Nat) (x:Slab) (a:Int) : aQ:=⟨c.Names,c.az,c.bL,c.Order,c.ab.set k ⟨x.At,x.aj+1,a⟩,c.ap⟩
theorem Fi.put (h:Fi c) (hk:k<c.ab.length) (a:Int) : Fi (iq c k c.ab[k] a):=by
 refine ⟨⟨h.small.names,by simp only [iq,List.length_set];exact h.small.aE,h.small.ba⟩,fun y hy => ?_⟩;rcases ads hy with hy|rfl
 ·exact h.at_ y hy
 ·exact h.at_ c.ab[k] (adb hk)
def MF (s:ah) (x:Slab) (a:Int) : ah:=⟨s.Words.set a.toNat x.ck,s.Heap,s.aa⟩
noncomputable def vu (s:ah) (c:aQ) (k:Nat) (x:Slab) (cpu a:Int) : Heap×aQ :=
 if oh (iq c k x a) ⟨x.At,x.aj+1,a⟩ && decide (1<(iq c k x a).ab.countP (oh (iq c k x a))) then ((fh s.Heap cpu x.At).2,eQ (iq c k x a) k) else (s.Heap,iq c k x a)
inductive rb (s:ah) (n:ByteArray) (cpu a:Int) : ah×Int->Prop where
 | ask (h:iU s n cpu≠0) : rb s n cpu a (.zero,iU s n cpu)
 | none {u:Int×Int×Int} (h:iU s n cpu=0) (hF:iG s a u) (bJ : ¬ (u.2.2=0∧u.1=idxOf (dQ n) s.aa)) : rb s n cpu a (.zero,4)
 | put {i k:Nat} (h:iU s n cpu=0) (hF:iG s a (i,k,0)) (e:idxOf (dQ n) s.aa=i) (hi:i<s.aa.length) (hk:k<s.aa[i].ab.length) : rb s n cpu a (bI (MF s s.aa[i].ab[k] a) i (vu s s.aa[i] k s.aa[i].ab[k] cpu a),0)
theorem rb.dq {v:ah×Int} (x:rb s n cpu a u) (y:rb s n cpu a v) : u=v:=by
 cases x with
 | ask h=>cases y with
   | ask=>rfl
   | none h'=>exact absurd h' h
   | put h'=>exact absurd h' h
 | none h hF bJ=>cases y with
   | ask h'=>exact absurd h h'
   | none=>rfl
   | put h' Bi e'=>exact absurd (by rw [hF.dq Bi];exact ⟨rfl,e'.symm⟩) bJ
 | put h hF e hi hk=>cases y with
   | ask h'=>exact absurd h h'
   | none h' Bi LA=>exact absurd (by rw [Bi.dq hF];exact ⟨rfl,e.symm⟩) LA
   | put h' Bi e' =>
     have:=hF.dq Bi
     simp only [Prod.mk.injEq] at this;obtain ⟨h1,h2,_⟩:=this;have h1:=Int.ofNat.inj h1;have h2:=Int.ofNat.inj h2;subst h1;subst h2
     rfl
theorem Lp.vu (h:Lp s.Heap) (hc:Fi c) (hk:k<c.ab.length) (cpu a:Int) : Lp (vu s c k c.ab[k] cpu a).1∧Fi (vu s c k c.ab[k] cpu a).2:=by
 unfold Go.Proofs.YtohigmjjbgpfmaaGreatDoor.vu;split
 ·exact ⟨h.free _ _,(hc.put hk a).cut _⟩
 ·exact ⟨h,hc.put hk a⟩
theorem rb.small (x:rb s n cpu a u) (hf:s.cK) : u.1.small:=by
 cases x with
 | ask|none=>exact ah.kX
 | @put i k h hF e hi hk =>
   have h1:=hf.lX.vu (hf.Sw hi) hk cpu a;have hw:(MF s s.aa[i].ab[k] a).small:=⟨by simp only [MF,List.length_set];exact hf.small.words,hf.small.heap,hf.small.br,hf.small.each⟩
   exact xz hw _ h1.1 h1.2
theorem iG.TN {i k:Int} (h:iG s a (i,k,0)) : ∃ (i' k':Nat),i=i'∧k=k'∧fW s=true ∧ ∃ hF:lL s a i' k',0<=((s.aa[i']'hF.hi).ab[k']'hF.hk).aj∧((s.aa[i']'hF.hi).ab[k']'hF.hk).aj<=64:=by
 cases h with
 | @hit i' k' out h hF hC hm =>
   refine ⟨i',k',rfl,rfl,h,hF,?_⟩;have hc:=((iS.1 h).each i' hF.hi).may;have h1:=cj hc.lay;have h2:=hC.1.Qa (by simp;omega) out rfl;have h3:=hC.2.1;omega
variable {f:Int} {l:List Block}
theorem Kb {x y x' y':Block} (h:m6 x y) (e1:x'.At=x.At) (e2:x'.Order=x.Order) (e3:y'.At=y.At) (e4:y'.Order=y.Order) : m6 x' y':=by
 unfold m6 at *;rw [e1,e2,e3,e4];exact h
theorem Kc (hz:bV z) {b:Block} {t:Int} (st:Bool) : EI (kk z b t st):=by
 have h:=EJ hz;unfold kk;split
 ·unfold jZ;split
  ·exact h
  ·unfold EI at *;rw [afa];exact h.imp fun {x y} Vx=>Kb Vx (pq _ _ _ x).1 (pq _ _ _ x).2 (pq _ _ _ y).1 (pq _ _ _ y).2
 ·exact h
theorem Fk {q:Int} (h1 : 1<=q) (h4:q<=4) (hm:a % pw q=0) : beside (a+pw (q-1)) (q-1)=a∧(a+pw (q-1)) % pw (q-1)=0:=by
 have hp:pw q=2*pw (q-1):=by
  have:=qJ (o:=q-1) (by omega) (by omega)
  rwa [aeI] at this
 unfold beside;rcases fH (show 0<=q-1 by omega) (show q-1<=4 by omega) with ⟨e1,e2⟩|⟨e1,e2⟩|⟨e1,e2⟩|⟨e1,e2⟩|⟨e1,e2⟩<;>rw [hp,e2] at hm<;>rw [e2]<;>(refine ⟨?_,by omega⟩)<;>split<;>omega
theorem MG {t:Int} {q ty:Int} (h:Er f t l a q) (hn:EI l) (hq : 1<=q) : EI (tS ty a q l):=by
 obtain ⟨f1,f2,f3,f4,f5⟩:=h.fit;obtain ⟨hb,hm⟩:=Fk hq f2 f5
 have hp:pw q=2*pw (q-1):=by
  have:=qJ (o:=q-1) (by omega) (by omega)
  rwa [aeI] at this
 have UQ:=cQ (o:=q-1) (by omega) (by omega)
 have bJ:∀ x∈l,x.At≠a:=fun x hx e=>by
  have:=cQ (h.eM x hx).1.1 (h.eM x hx).1.2.1
  rcases h.NZ x hx with g|g<;>omega
 have e:l=l.take (bE l (a+pw (q-1)))++l.drop (bE l (a+pw (q-1))):=(adh _ l).symm
 have h0:=hn;unfold EI at h0;rw [e,adA] at h0;obtain ⟨h1,h2,h3⟩:=h0
 have hA:∀ x∈l.take (bE l (a+pw (q-1))),m6 x (nZ ty a q):=fun x hx=>by
  have nW:=adE hx;obtain ⟨j,hj,rfl⟩:=ade hx;simp only [List.length_take] at hj;rw [adS] at nW ⊢;have eX:=pR (l:=l) (a:=a+pw (q-1)) (k:=j) (by omega);refine ⟨?_,fun hh => ?_⟩
  ·simp only [nZ];rcases h.NZ _ nW with g|g<;>omega
  ·obtain ⟨_,_,hh⟩:=hh;simp only [nZ,hb] at hh;exact bJ _ nW hh
 have hB:∀ x∈l.drop (bE l (a+pw (q-1))),m6 (nZ ty a q) x:=fun x hx=>by
  have nW:=adU hx;obtain ⟨j,hj,rfl⟩:=ade hx;simp only [List.length_drop] at hj;rw [ad9] at nW ⊢;have Ly:=Et (l:=l) (a:=a+pw (q-1)) (by omega)
  have hle:(l[bE l (a+pw (q-1))]'(by omega)).At<=(l[bE l (a+pw (q-1))+j]'(by omega)).At:=by
   rcases adu j with rfl|Oz
   ·exact ae1 _
   ·have:=jK h.sd (show bE l (a+pw (q-1))+j<l.length by omega) (show bE l (a+pw (q-1))<bE l (a+pw (q-1))+j by omega)
    have:=cQ (h.eM _ (adb (show bE l (a+pw (q-1))<l.length by omega))).1.1 (h.eM _ (adb (show bE l (a+pw (q-1))<l.length by omega))).1.2.1
    omega
  have U2:=(h.eM _ nW).1;have Su:=cQ U2.1 U2.2.1;refine ⟨?_,fun hh => ?_⟩
  ·simp only [nZ];rcases h.NZ _ nW with g|g<;>omega
  ·obtain ⟨g4,g5,hh⟩:=hh;have g6:=(qP U2.1 g4 U2.2.2.2.2).1;simp only [nZ] at g5 hh;rw [<- hh,<- g5,hb] at g6;exact bJ _ nW g6.symm
 unfold tS aN EI;rw [adj,adA];refine ⟨h1,?_,fun x hx y hy => ?_⟩
 ·rw [adz,ad8];exact ⟨hB,h2⟩
 ·rw [adz,aee] at hy;rcases hy with rfl|hy
  ·exact hA x hx
  ·exact h3 x hx y hy
theorem Ck {t ty:Int} (h0 : 0<=f) (ht:t<=256) (QT:t % 16=0) (zt:kU ty):∀ (k:Nat) (q:Int) (l:List Block),(k:Int)<=q->Er f t l a q->EI l->Er f t (mm ty a k q l) a (q-k)∧EI (mm ty a k q l)
 | 0,q,l,_,h,hn=>by
   refine ⟨?_,hn⟩;have:q-((0:Nat) : Int)=q:=by omega
   rw [this];exact h
 | k+1,q,l,hk,h,hn=>by
   have hq : 1<=q:=by omega
   have:=Ck h0 ht QT zt k (q-1) (tS ty a q l) (by omega) (EB h h0 ht QT hq zt).1 (MG h hn hq)
   rw [mm];rwa [show q-1-(k:Int)=q-((k+1:Nat) : Int) by omega] at this
structure Qb (z z':ao) : Prop where
 may:bV z'
 from_:z'.aV=z.aV
 pj:z'.To=z.To
theorem ik.jT {t:Int} {u:ao×Int×Int} (h:ik z o t u) (h0:u.2.2=0) : Qb z u.1∧(∃ x∈z.aj,x.At=u.2.1)∧fJ z=true:=by
 cases h with
 | bad|range|kind|room=>simp at h0
 | @ok k st hq ho ht hk hp =>
   have hz:=fq.1 hq;obtain ⟨o1,o2,o3,o4,o5⟩:=hz.ok;obtain ⟨_,VI,X4⟩:=hp.ord;obtain ⟨l1,l2,l3⟩:=ve hz (b:=z.aj[k]) ht st;have Te:k<(kk z z.aj[k] t st).length:=by omega
   have PS:=wi hz ht st hk;have hJ:=BO l2 l3 Te;rw [PS] at hJ;simp only at hJ;have hn:EI ((kk z z.aj[k] t st).eraseIdx k):=(Kc hz st).sublist (ad4 _ _)
   have BM:=hz.eM k hk;have Se:kU (xS z t st z.aj[k]):=by unfold xS;split;exact ht;exact BM.2
   have hS:=Ck (ty:=xS z t st z.aj[k]) o1 o3 o5 Se (z.aj[k].Order-o).toNat z.aj[k].Order _ (by omega) hJ hn;have e:(if st=true then jZ z.aj z.aj[k] t else z.aj)=kk z z.aj[k] t st:=rfl
   refine ⟨⟨⟨hz.ok,?_,?_,fun i hi => ?_,fun i hi => ?_⟩,rfl,rfl⟩,⟨z.aj[k],adb hk,rfl⟩,hq⟩
   ·simp only [uk];have hlen:=hz.len;split
    ·unfold kO;split
     ·exact hlen
     ·split<;>simpa using hlen
    ·exact hlen
   ·simp only [uk];intro v hv;split at hv
    ·unfold kO at hv;split at hv
     ·exact hz.types v hv
     ·split at hv
      ·rcases ads hv with hv|rfl
       ·rcases ads hv with hv|rfl
        ·exact hz.types v hv
        ·exact ht
       ·exact ht
      ·rcases ads hv with hv|rfl
       ·exact hz.types v hv
       ·exact ht
    ·exact hz.types v hv
   ·exact hS.1.eM _ (adb hi)
   ·have hn:=hS.2;unfold EI at hn;rw [adl] at hn;exact hn i (i+1) (by simp only [uk] at hi;exact Nat.lt_of_succ_lt hi) hi (aeP i)
variable {r:(ao×ao)×List aT×Int} {fl m0 m1 zi:Int} {bs:List Block} {r':Option ((ao×ao)×List aT×Int)} {z':ao}
def jE (fl:Int) : Int:=if 0<=fl∧fl<=15 then (if fl / 2 % 4=0 then 0 else if fl / 2 % 4=1 then 1 else if fl / 2 % 4=2 then 2 else -1) else -1
theorem sI (h : 0<=jE fl) : (0<=fl∧fl<=15)∧kU (jE fl):=by
 unfold jE kU at *;split at h
 ·rename_i hf;rw [if_pos hf];refine ⟨hf,?_⟩;repeat' split
  all_goals omega
 ·omega
def yb (s:ao×ao) (zi:Int) : ao:=if zi=0 then s.1 else s.2
def sJ (s:ao×ao) (zi:Int) (z:ao) : ao×ao:=if zi=0 then (z,s.2) else (s.1,z)
def Cl (m0 m1:Int) (s:ao×ao) (zi fl:Int) : Int:=(if 8<=fl then (if zi=0 then m0 else m1) / 2 else (if zi=0 then m0 else m1))+(if zi=0∧fl % 2=0 then (s.2.To-s.2.aV) / 32 else 0)
def jO (m0 m1:Int) (s:ao×ao) (zi o fl:Int) : Prop:=Cl m0 m1 s zi fl<=j6 (yb s zi).aj-pw o
inductive jP (m0 m1 zi t fl:Int) : ao×ao->List Int->(ao×ao)×List Int->Prop
 | full {s:ao×ao} {l:List Int} (h:l.length=3) : jP m0 m1 zi t fl s l (s,l)
 | m9 {s:ao×ao} {l:List Int} (h:l.length<3) (he : ¬ jO m0 m1 s zi 0 fl) : jP m0 m1 zi t fl s l (s,l)
 | none {s:ao×ao} {l:List Int} {u:ao×Int×Int} (h:l.length<3) (he:jO m0 m1 s zi 0 fl) (ht:ik (yb s zi) 0 t u) (hu:u.2.2≠0) : jP m0 m1 zi t fl s l (s,l)
 | more {s:ao×ao} {l:List Int} {u:ao×Int×Int} {r:(ao×ao)×List Int} (h:l.length<3) (he:jO m0 m1 s zi 0 fl) (ht:ik (yb s zi) 0 t u) (hu:u.2.2=0) (hr:jP m0 m1 zi t fl (sJ s zi u.1) (l++[u.2.1]) r) : jP m0 m1 zi t fl s l r
theorem jP.dq {t:Int} {s:ao×ao} {l:List Int} {r r':(ao×ao)×List Int} (h:jP m0 m1 zi t fl s l r) : jP m0 m1 zi t fl s l r'->r=r':=by
 induction h with
 | full h=>intro k;cases k with
   | full=>rfl
   | m9 h'|none h'|more h'=>omega
 | m9 h he=>intro k;cases k with
   | full h'=>omega
   | m9=>rfl
   | none _ ia|more _ ia=>exact absurd ia he
 | none h he ht hu=>intro k;cases k with
   | full h'=>omega
   | m9 _ ia=>exact absurd he ia
   | none=>rfl
   | more _ _ rN ur=>rw [ht.dq rN] at hu;exact absurd ur hu
 | more h he ht hu hr ih=>intro k;cases k with
   | full h'=>omega
   | m9 _ ia=>exact absurd he ia
   | none _ _ rN ur=>rw [ht.dq rN] at hu;exact absurd hu ur
   | more _ _ rN ur ph =>
     have e:=ht.dq rN;subst e;exact ih ph
def fM (x:aT) (pg:List Int) : aT:=⟨x.ga,x.ao,x.Ty,pg⟩
def wL (L:List aT) (x:aT) (pg:List Int) : List aT:=if pg.length<=1 then L.eraseIdx (bu L x) else L.set (bu L x) (fM x pg.dropLast)
def km (L:List aT) (x:aT) (pg:List Int) : List aT:=if pg=[] then L else iZ L (fM x pg)
inductive jU (m0 m1 cpu zi o t fl:Int) (s:ao×ao) (L:List aT) : Option ((ao×ao)×List aT×Int)->Prop
 | list (ho:o=0) (hk:dB L ⟨cpu,zi,t,[]⟩=true) (hp:dh L ⟨cpu,zi,t,[]⟩≠[]) : jU m0 m1 cpu zi o t fl s L (some (s,wL L ⟨cpu,zi,t,[]⟩ (dh L ⟨cpu,zi,t,[]⟩),(dh L ⟨cpu,zi,t,[]⟩).getLast hp))
 | m9 (hn : ¬ (o=0∧dB L ⟨cpu,zi,t,[]⟩=true)) (he : ¬ jO m0 m1 s zi o fl) : jU m0 m1 cpu zi o t fl s L none
 | none {u:ao×Int×Int} (hn : ¬ (o=0∧dB L ⟨cpu,zi,t,[]⟩=true)) (he:jO m0 m1 s zi o fl) (ht:ik (yb s zi) o t u) (hu:u.2.2≠0) : jU m0 m1 cpu zi o t fl s L none
 | uL {u:ao×Int×Int} (ho : 0<o) (he:jO m0 m1 s zi o fl) (ht:ik (yb s zi) o t u) (hu:u.2.2=0) : jU m0 m1 cpu zi o t fl s L (some (sJ s zi u.1,L,u.2.1))
 | fill {u:ao×Int×Int} {r:(ao×ao)×List Int} (ho:o=0) (hk:dB L ⟨cpu,zi,t,[]⟩=false) (he:jO m0 m1 s zi o fl) (ht:ik (yb s zi) o t u) (hu:u.2.2=0) (hr:jP m0 m1 zi t fl (sJ s zi u.1) [] r) : jU m0 m1 cpu zi o t fl s L (some (r.1,km L ⟨cpu,zi,t,[]⟩ r.2,u.2.1))
theorem jU.dq {t:Int} {s:ao×ao} {r:Option ((ao×ao)×List aT×Int)} (h:jU m0 m1 cpu zi o t fl s L r) (k:jU m0 m1 cpu zi o t fl s L r') : r=r':=by
 cases h with
 | list ho hk hp=>cases k with
   | list=>rfl
   | m9 hn|none hn=>exact absurd ⟨ho,hk⟩ hn
   | uL nQ=>omega
   | fill _ bW=>rw [hk] at bW;cases bW
 | m9 hn he=>cases k with
   | list ho hk=>exact absurd ⟨ho,hk⟩ hn
   | m9=>rfl
   | none _ ia|uL _ ia|fill _ _ ia=>exact absurd ia he
 | none hn he ht hu=>cases k with
   | list ho hk=>exact absurd ⟨ho,hk⟩ hn
   | m9 _ ia=>exact absurd he ia
   | none=>rfl
   | uL _ _ rN ur|fill _ _ _ rN ur=>rw [ht.dq rN] at hu;exact absurd ur hu
 | uL ho he ht hu=>cases k with
   | list nQ=>omega
   | m9 _ ia=>exact absurd he ia
   | none _ _ rN ur=>rw [ht.dq rN] at hu;exact absurd hu ur
   | uL _ _ rN=>rw [ht.dq rN]
   | fill nQ=>omega
 | fill ho hk he ht hu hr=>cases k with
   | list _ bW=>rw [hk] at bW;cases bW
   | m9 _ ia=>exact absurd he ia
   | none _ _ rN ur=>rw [ht.dq rN] at hu;exact absurd hu ur
   | uL nQ=>omega
   | fill _ _ _ rN _ ph =>
     have e:=ht.dq rN;subst e;rw [hr.dq ph]
inductive ms (m0 m1 cpu o t fl:Int) (s:ao×ao) (L:List aT) : Option ((ao×ao)×List aT×Int)->Prop
 | wu {r:(ao×ao)×List aT×Int} (hf:fl % 2=0) (h:jU m0 m1 cpu 1 o t fl s L (some r)) : ms m0 m1 cpu o t fl s L (some r)
 | low {r:Option ((ao×ao)×List aT×Int)} (hf:fl % 2=0->jU m0 m1 cpu 1 o t fl s L none) (h:jU m0 m1 cpu 0 o t fl s L r) : ms m0 m1 cpu o t fl s L r
theorem ms.dq {t:Int} {s:ao×ao} {r:Option ((ao×ao)×List aT×Int)} (h:ms m0 m1 cpu o t fl s L r) (k:ms m0 m1 cpu o t fl s L r') : r=r':=by
 cases h with
 | wu hf h=>cases k with
   | wu _ h'=>exact h.dq h'
   | low Gi=>cases h.dq (Gi hf)
 | low hf h=>cases k with
   | wu Gi h'=>cases h'.dq (hf Gi)
   | low _ h'=>exact h.dq h'
def kY (h:Heap) (i:Nat) : Int:=h.dO.getD i 0
def na (h:Heap) (s:ao×ao) (L:List aT) (lv:List Block) : Heap:=⟨[s.1,s.2],h.dO,h.bG,L,lv⟩
def dU (h:Heap) (at_ o t:Int) : List Block:=aN h.Live (bE h.Live at_) ⟨at_,o,t⟩
inductive cU (h:Heap) (cpu o fl:Int) : Heap×Int×Int->Prop
 | bad (hb:je h=false) : cU h cpu o fl (.zero,0,8)
 | range (hb:je h=true) (hr : ¬ ((0<=cpu∧cpu<h.bG)∧0<=o∧o<=4)) : cU h cpu o fl (.zero,0,1)
 | form (hb:je h=true) (hr:(0<=cpu∧cpu<h.bG)∧0<=o∧o<=4) (ht:jE fl<0) : cU h cpu o fl (.zero,0,3)
 | once {z0 z1:ao} {r:(ao×ao)×List aT×Int} (hb:je h=true) (hr:(0<=cpu∧cpu<h.bG)∧0<=o∧o<=4) (ht : 0<=jE fl) (hz:h.bp=[z0,z1]) (ha:ms (kY h 0) (kY h 1) cpu o (jE fl) fl (z0,z1) h.av (some r)) :
    cU h cpu o fl (na h r.1 r.2.1 (dU h r.2.2 o (jE fl)),r.2.2,0)
 | gE {z0 z1:ao} {r:(ao×ao)×List aT×Int} (hb:je h=true) (hr:(0<=cpu∧cpu<h.bG)∧0<=o∧o<=4) (ht : 0<=jE fl) (hz:h.bp=[z0,z1]) (ha:ms (kY h 0) (kY h 1) cpu o (jE fl) fl (z0,z1) h.av none)
    (h2:ms (kY h 0) (kY h 1) cpu o (jE fl) fl (bX (z0,z1) (bc h.av)) [] (some r)) : cU h cpu o fl (na h r.1 r.2.1 (dU h r.2.2 o (jE fl)),r.2.2,0)
 | room {z0 z1:ao} (hb:je h=true) (hr:(0<=cpu∧cpu<h.bG)∧0<=o∧o<=4) (ht : 0<=jE fl) (hz:h.bp=[z0,z1]) (ha:ms (kY h 0) (kY h 1) cpu o (jE fl) fl (z0,z1) h.av none)
    (h2:ms (kY h 0) (kY h 1) cpu o (jE fl) fl (bX (z0,z1) (bc h.av)) [] none) : cU h cpu o fl (.zero,0,6)
theorem cU.dq {h:Heap} {u v:Heap×Int×Int} (a:cU h cpu o fl u) (b:cU h cpu o fl v) : u=v:=by
 cases a with
 | bad hb=>cases b with
   | bad=>rfl
   | range iz|form iz|once iz|gE iz|room iz=>rw [hb] at iz;cases iz
 | range hb hr=>cases b with
   | bad iz=>rw [hb] at iz;cases iz
   | range=>rfl
   | form _ ph|once _ ph|gE _ ph|room _ ph=>exact absurd ph hr
 | form hb hr ht=>cases b with
   | bad iz=>rw [hb] at iz;cases iz
   | range _ ph=>exact absurd hr ph
   | form=>rfl
   | once _ _ rN|gE _ _ rN|room _ _ rN=>omega
 | once hb hr ht hz ha=>cases b with
   | bad iz=>rw [hb] at iz;cases iz
   | range _ ph=>exact absurd hr ph
   | form _ _ rN=>omega
   | once _ _ _ oB mA=>rw [hz] at oB;simp only [List.cons.injEq,and_true] at oB;obtain ⟨rfl,rfl⟩:=oB;cases ha.dq mA;rfl
   | gE _ _ _ oB mA|room _ _ _ oB mA=>rw [hz] at oB;simp only [List.cons.injEq,and_true] at oB;obtain ⟨rfl,rfl⟩:=oB;cases ha.dq mA
 | gE hb hr ht hz ha h2=>cases b with
   | bad iz=>rw [hb] at iz;cases iz
   | range _ ph=>exact absurd hr ph
   | form _ _ rN=>omega
   | once _ _ _ oB mA=>rw [hz] at oB;simp only [List.cons.injEq,and_true] at oB;obtain ⟨rfl,rfl⟩:=oB;cases ha.dq mA
   | gE _ _ _ oB mA ns=>rw [hz] at oB;simp only [List.cons.injEq,and_true] at oB;obtain ⟨rfl,rfl⟩:=oB;cases h2.dq ns;rfl
   | room _ _ _ oB mA ns=>rw [hz] at oB;simp only [List.cons.injEq,and_true] at oB;obtain ⟨rfl,rfl⟩:=oB;cases h2.dq ns
 | room hb hr ht hz ha h2=>cases b with
   | bad iz=>rw [hb] at iz;cases iz
   | range _ ph=>exact absurd hr ph
   | form _ _ rN=>omega
   | once _ _ _ oB mA=>rw [hz] at oB;simp only [List.cons.injEq,and_true] at oB;obtain ⟨rfl,rfl⟩:=oB;cases ha.dq mA
   | gE _ _ _ oB mA ns=>rw [hz] at oB;simp only [List.cons.injEq,and_true] at oB;obtain ⟨rfl,rfl⟩:=oB;cases h2.dq ns
   | room=>rfl
structure VS (s:ao×ao) : Prop where
 lW:bV s.1
 lG:bV s.2
 pX:s.1.aV=0
 Ea:s.1.To=s.2.aV
 JL:s.2.To=256
theorem VS.yb {s:ao×ao} (h:VS s) (zi:Int) : bV (yb s zi):=by unfold Go.Proofs.YtohigmjjbgpfmaaGreatDoor.yb;split;exact h.lW;exact h.lG
theorem VS.tI {s:ao×ao} (h:VS s) (hk:Qb (Go.Proofs.YtohigmjjbgpfmaaGreatDoor.yb s zi) z') : VS (sJ s zi z'):=by
 obtain ⟨k1,k2,k3⟩:=hk;unfold Go.Proofs.YtohigmjjbgpfmaaGreatDoor.yb at k2 k3;unfold sJ;split
 ·rename_i e;rw [if_pos e] at k2 k3;exact ⟨k1,h.lG,by rw [k2];exact h.pX,by rw [k3];exact h.Ea,h.JL⟩
 ·rename_i e;rw [if_neg e] at k2 k3;exact ⟨h.lW,k1,h.pX,by rw [k2];exact h.Ea,by rw [k3];exact h.JL⟩
theorem jP.vs {t:Int} {s:ao×ao} {l:List Int} {r:(ao×ao)×List Int} (h:jP m0 m1 zi t fl s l r) : VS s->VS r.1∧r.2.length<=3:=by
 induction h with
 | full h=>exact fun k=>⟨k,by simp only;omega⟩
 | m9 h he=>exact fun k=>⟨k,by simp only;omega⟩
 | none h=>exact fun k=>⟨k,by simp only;omega⟩
 | more h he ht hu hr ih=>exact fun k=>ih (k.tI (ht.jT hu).1)
theorem qQ.vs {s:ao×ao} (h:qQ s bs) : VS s:=⟨h.lW,h.lG,h.pX,h.Ea,h.JL⟩
def zZ (s:ao×ao) (L:List aT) (a:Int) : Prop:=(∃ x∈s.1.aj,x.At=a)∨(∃ x∈s.2.aj,x.At=a) ∨ ∃ l∈L,a∈l.ax
theorem jU.found {t:Int} {s:ao×ao} (h:jU m0 m1 cpu zi o t fl s L (some r)) (hv:VS s) : VS r.1∧zZ s L r.2.2:=by
 have fz:∀ {u:ao×Int×Int},ik (yb s zi) o t u->u.2.2=0->VS (sJ s zi u.1)∧zZ s L u.2.1:=fun {u} ht hu=>by
  obtain ⟨k1,⟨x,hx,e⟩,_⟩:=ht.jT hu;refine ⟨hv.tI k1,?_⟩;unfold yb at hx;split at hx
  ·exact .inl ⟨x,hx,e⟩
  ·exact .inr (.inl ⟨x,hx,e⟩)
 cases h with
 | list ho hk hp =>
   refine ⟨hv,.inr (.inr ?_)⟩;obtain ⟨hl,_⟩:=j8 hk;refine ⟨_,adb hl,?_⟩;have e:=iQ hk hl;have hm:∀ a,a∈dh L ⟨cpu,zi,t,[]⟩->a∈L[bu L ⟨cpu,zi,t,[]⟩].ax:=fun a ha=>by rw [e] at ha;exact ha
   exact hm _ (List.getLast_mem hp)
 | uL ho he ht hu=>exact fz ht hu
 | fill ho hk he ht hu hr=>exact ⟨(hr.vs (fz ht hu).1).1,(fz ht hu).2⟩
theorem ms.found {t:Int} {s:ao×ao} (h:ms m0 m1 cpu o t fl s L (some r)) (hv:VS s) : VS r.1∧zZ s L r.2.2:=by
 cases h with
 | wu _ h=>exact h.found hv
 | low _ h=>exact h.found hv
variable {pg:List Int}
theorem z6 {y:aT} (hs:EN L) (hk:dB L y=false) : EN (aN L (bu L y) y):=by
 have h0:=hs;unfold EN at h0 ⊢;rw [<- adh (bu L y) L,adA] at h0;obtain ⟨h1,h2,h3⟩:=h0
 have hT:∀ z∈L.take (bu L y),dg z y:=fun z hz=>by
  obtain ⟨j,hj,rfl⟩:=ade hz;rw [aeQ] at hj;rw [adS];exact zF (by omega)
 have hD:∀ z∈L.drop (bu L y),dg y z:=fun z hz=>by
  obtain ⟨j,hj,rfl⟩:=ade hz;rw [List.length_drop] at hj;rw [ad9];have h:=OH hk (by omega);rcases adu j with rfl|Oz
  ·exact h
  ·exact xp h (hs.get (show bu L y+j<L.length by omega) (by omega))
 unfold aN;rw [adj,adA];refine ⟨h1,?_,fun a ha b hb => ?_⟩
 ·rw [adz,ad8];exact ⟨hD,h2⟩
 ·rw [adz,aee] at hb;rcases hb with rfl|hb
  ·exact hT a ha
  ·exact h3 a ha b hb
section
variable {L:List aT} {x:aT} {pg:List Int}
theorem rc:jg x (fM x pg):=⟨rfl,rfl,rfl⟩
theorem mu:km L x []=L:=by simp [km]
theorem qf (hk:dB L x=false) (hp:pg≠[]) : km L x pg=aN L (bu L (fM x pg)) (fM x pg):=by
 rw [km,if_neg hp,sr (by rw [<- (kC (L:=L) (rc (x:=x) (pg:=pg))).2];exact hk)]
theorem DG (hs:EN L) (hk:dB L x=false) : EN (km L x pg):=by
 by_cases hp:pg=[]
 ·subst hp;rw [mu];exact hs
 ·rw [qf hk hp];exact z6 hs (by rw [<- (kC (L:=L) (rc (x:=x) (pg:=pg))).2];exact hk)
theorem Cm (hk:dB L x=false) : ∀ l∈km L x pg,l∈L∨l=fM x pg:=fun l hl=>by
 by_cases hp:pg=[]
 ·subst hp;rw [mu] at hl;exact .inl hl
 ·rw [qf hk hp] at hl;unfold aN at hl;rw [adm,adm,ae3] at hl;rcases hl with (hl|hl)|hl
  ·exact .inl (adE hl)
  ·exact .inr hl
  ·exact .inl (adU hl)
theorem Cn (hk:dB L x=false) : (km L x pg).length<=L.length+1:=by
 by_cases hp:pg=[]
 ·subst hp;rw [mu];omega
 ·rw [qf hk hp,di _ (ny _ _)];omega
theorem Hr (hk:dB L x=false) (a:Int) : iZ (km L x pg) ⟨x.ga,x.ao,x.Ty,dh (km L x pg) x++[a]⟩=km L x (pg++[a]):=by
 have bJ:pg++[a]≠[]:=by simp
 by_cases hp:pg=[]
 ·subst hp;rw [mu,nM hk,km,if_neg bJ];rfl
 ·have e:km L x pg=iZ L (fM x pg):=by rw [km,if_neg hp]
  obtain ⟨e1,e2⟩:=kC (L:=iZ L (fM x pg)) (rc (x:=x) (pg:=pg));obtain ⟨e3,e4⟩:=EO (L:=L) (x:=fM x pg);obtain ⟨eX,iB⟩:=adC.1 (zH (L:=L) (x:=fM x pg))
  have epg:dh (iZ L (fM x pg)) x=pg:=by
   rw [iQ (by rw [e2];exact e4) (by rw [e1,e3];exact eX)];simp only [e1,e3,iB]
   rfl
  rw [e,epg,km,if_neg bJ];have qX:jg (fM x pg) (⟨x.ga,x.ao,x.Ty,pg++[a]⟩ : aT):=⟨rfl,rfl,rfl⟩
  obtain ⟨e5,e6⟩:=kC (L:=iZ L (fM x pg)) qX;rw [sq (by rw [<- e6];exact e4),<- e5,e3];exact EP qX
end
theorem MH {x:aT} (h : 1<pg.length) : wL L x pg=L.set (bu L x) (fM x pg.dropLast):=by rw [wL,if_neg (by omega)]
theorem Hs {x:aT} (h:pg.length=1) : wL L x pg=L.eraseIdx (bu L x):=by rw [wL,if_pos (by omega)]
theorem Ht {l:List Int} (h:l≠[]) (hi:i<l.length) (e:i=l.length-1) : l.getLast h=l[i]:=by
 subst e;rw [List.getLast_eq_getElem]
theorem jC.th {h:Heap} (f:jC h z0 z1) (ha:a=(i:Int)) (hc:eu (z0.aj++z1.aj++bc h.av) i=true) : ∀ b∈h.Live,b.At≠a:=fun b hb e=>by
 obtain ⟨l,m,e1⟩:=List.append_of_mem hb;have fk:=f.all;rw [e1,<- adj] at fk;have hf:=qR fk;obtain ⟨j,hj,rfl⟩:=ade hb;have WE:=(f.live.each j hj).1;have hp:=cQ WE.1 WE.2;obtain ⟨_,_,ho⟩:=hf;unfold eu at hc;rw [adq] at hc;obtain ⟨y,hy,TO⟩:=hc;unfold qB at TO;rw [adR,decide_eq_true_eq,decide_eq_true_eq] at TO
 have:ki (z0.aj++z1.aj++bc h.av++l) h.Live[j].At h.Live[j].Order=true:=by
  unfold ki;rw [adq];refine ⟨y,adN _ hy,?_⟩;rw [adR,decide_eq_true_eq,decide_eq_true_eq];omega
 rw [ho] at this;cases this
theorem vv (hz:bV z) {x:Block} (hx:x∈z.aj) : ∃ i:Nat,x.At=(i:Int)∧i<256∧eu z.aj i=true:=by
 obtain ⟨j,hj,rfl⟩:=ade hx;have h1:=(hz.eM j hj).1;have h2:=hz.ok;obtain ⟨o1,o2,o3,o4,o5⟩:=h2;have hp:=cQ h1.1 h1.2.1;obtain ⟨b1,b2,b3,b4,b5⟩:=h1;refine ⟨z.aj[j].At.toNat,by omega,by omega,?_⟩;unfold eu;rw [adq];refine ⟨_,hx,?_⟩;unfold qB;rw [adR,decide_eq_true_eq,decide_eq_true_eq];omega
theorem qg {h:Heap} (f:jC h z0 z1) (ha:zZ (z0,z1) h.av a) : ∃ i:Nat,a=(i:Int)∧i<256∧eu (z0.aj++z1.aj++bc h.av) i=true:=by
 rcases ha with ⟨x,hx,rfl⟩|⟨x,hx,rfl⟩|⟨l,hl,hp⟩
 ·obtain ⟨i,h1,h2,h3⟩:=vv f.d.lW hx;exact ⟨i,h1,h2,by rw [jf,jf,h3];rfl⟩
 ·obtain ⟨i,h1,h2,h3⟩:=vv f.d.lG hx;exact ⟨i,h1,h2,by rw [jf,jf,h3];simp⟩
 ·have hm:cu a∈bc h.av:=by
   unfold bc;rw [adx];exact ⟨l,hl,List.mem_map_of_mem hp⟩
  obtain ⟨j,hj,e⟩:=ade hm;have hN:=f.d.next hj;rw [e] at hN;have h1:=hN.at_;simp only [cu] at h1;refine ⟨a.toNat,by omega,by omega,?_⟩;rw [jf]
  have:eu (bc h.av) a.toNat=true:=by
   unfold eu;rw [adq];refine ⟨_,hm,?_⟩;unfold qB;rw [adR,decide_eq_true_eq,decide_eq_true_eq];have:pw 0=1:=by decide
   change a<=_∧_<a+pw 0
   omega
  rw [this];simp
theorem fO {h:Heap} (d:n7 h z0 z1) : qQ (bX (z0,z1) (bc h.av)) (z0.aj++z1.aj++bc h.av):=by
 have:=d.inv (bc h.av).length (adg _)
 rwa [ad2] at this
theorem ol {h:Heap} (f:jC h z0 z1) (ha:zZ (bX (z0,z1) (bc h.av)) [] a) : ∃ i:Nat,a=(i:Int)∧i<256∧eu (z0.aj++z1.aj++bc h.av) i=true:=by
 have hD:=fO f.d;rcases ha with ⟨x,hx,rfl⟩|⟨x,hx,rfl⟩|⟨l,hl,hp⟩
 ·obtain ⟨i,h1,h2,h3⟩:=vv hD.lW hx;exact ⟨i,h1,h2,by rw [<- hD.IG,h3];rfl⟩
 ·obtain ⟨i,h1,h2,h3⟩:=vv hD.lG hx;exact ⟨i,h1,h2,by rw [<- hD.IG,h3];simp⟩
 ·simp at hl
theorem Fl {h:Heap} (f:jC h z0 z1) : h.Live.length<=256:=by
 have hu:=kQ f.live;rw [adl] at hu
 have key:∀ (i:Nat) (hi:i<h.Live.length),(i:Int)<=h.Live[i].At:=by
  intro i;induction i with
  | zero=>intro hi;have:=(f.next hi).at_;exact this.1
  | succ i ih=>intro hi;have h1:=ih (by omega);have h2:=hu i (i+1) (by omega) hi (by omega);omega
 rcases adL 256 h.Live.length with h1|h1
 ·have h2:=key 256 h1;have h3:=(f.next h1).at_;omega
 ·exact h1
theorem jU.lists {t:Int} {s:ao×ao} (h:jU m0 m1 cpu zi o t f s L (some r)) (hv:VS s) (hL:∀ l∈L,l.ax.length<=8) : r.2.1.length<=L.length+1 ∧ ∀ l∈r.2.1,l.ax.length<=8:=by
 cases h with
 | list ho hk hp =>
   obtain ⟨hl,_⟩:=j8 hk;have e:=iQ hk hl;have h8:=hL _ (adb hl);rw [<- e] at h8;simp only;unfold wL;split
   ·exact ⟨by have:=aez L (bu L ⟨cpu,zi,t,[]⟩);omega,fun l hl=>hL l (adV hl)⟩
   ·refine ⟨by rw [adK];omega,fun l hl => ?_⟩;rcases ads hl with h1|rfl
    ·exact hL l h1
    ·simp only [fM,List.length_dropLast];omega
 | uL ho he ht hu=>exact ⟨by simp only;omega,hL⟩
 | @fill u r' ho hk he ht hu hr =>
   have h3:=(hr.vs (hv.tI (ht.jT hu).1)).2
   exact ⟨Cn hk,fun l hl=>by
    rcases Cm hk l hl with h1|rfl
    ·exact hL l h1
    ·simp only [fM];omega⟩
theorem ms.lists {t:Int} {s:ao×ao} (h:ms m0 m1 cpu o t f s L (some r)) (hv:VS s) (hL:∀ l∈L,l.ax.length<=8) : r.2.1.length<=L.length+1 ∧ ∀ l∈r.2.1,l.ax.length<=8:=by
 cases h with
 | wu _ h=>exact h.lists hv hL
 | low _ h=>exact h.lists hv hL
theorem cU.small {h:Heap} {u:Heap×Int×Int} (a:cU h cpu o f u) (hs:h.small) : u.1.small:=by
 have hz:(Heap.zero).small:=by constructor<;>simp [Heap.zero]
 have key:∀ (z0 z1:ao) (F:jC h z0 z1) (s:ao×ao) (L:List aT) (x:Int) (t:Int),VS s->L.length<=257->(∀ l∈L,l.ax.length<=8)->(na h s L (dU h x o t)).small:=fun z0 z1 F s L x t hv h1 h2=>by
  have Sv:=kA hv.lW;have Br:=kA hv.lG;have mH:=Fl F
  have PY:(dU h x o t).length<=257:=by
   unfold dU;have Bg:bE h.Live x<=h.Live.length:=List.findIdx_le_length
   rw [di _ Bg];omega
  refine ⟨by simp [na],hs.eE,?_,?_,fun z hz => ?_,fun l hl => ?_⟩
  ·simp only [na];omega
  ·simp only [na];omega
  ·simp only [na,List.mem_cons,List.not_mem_nil,or_false] at hz;rcases hz with rfl|rfl
   ·omega
   ·omega
  ·have:=h2 l hl;omega
 cases a with
 | bad|range|form|room=>exact hz
 | once hb hr ht hz ha =>
   obtain ⟨z0,z1,F⟩:=gC (cq.1 hb);rw [F.d.ct] at hz;simp only [List.cons.injEq,and_true] at hz;obtain ⟨rfl,rfl⟩:=hz;have hv:=F.d.start.vs;obtain ⟨g1,g2⟩:=ha.lists hv (fun l hl=>(F.lists l hl).2);have:=F.count
   exact key _ _ F _ _ _ _ (ha.found hv).1 (by omega) g2
 | gE hb hr ht hz ha h2 =>
   obtain ⟨z0,z1,F⟩:=gC (cq.1 hb);rw [F.d.ct] at hz;simp only [List.cons.injEq,and_true] at hz;obtain ⟨rfl,rfl⟩:=hz;have hv:=(fO F.d).vs;obtain ⟨g1,g2⟩:=h2.lists hv (fun l hl=>by simp at hl);simp only [List.length_nil] at g1;exact key _ _ F _ _ _ _ (h2.found hv).1 (by omega) g2
theorem cU.at_ {h:Heap} {u:Heap×Int×Int} (a:cU h cpu o f u) (he:u.2.2=0) : 0<=u.2.1∧u.2.1<256:=by
 cases a with
 | bad|range|form|room=>simp at he
 | once hb hr ht hz ha =>
   obtain ⟨z0,z1,F⟩:=gC (cq.1 hb);rw [F.d.ct] at hz;simp only [List.cons.injEq,and_true] at hz;obtain ⟨rfl,rfl⟩:=hz;obtain ⟨i,e,h1,_⟩:=qg F (ha.found F.d.start.vs).2;simp only at e ⊢;omega
 | gE hb hr ht hz ha h2 =>
   obtain ⟨z0,z1,F⟩:=gC (cq.1 hb);rw [F.d.ct] at hz;simp only [List.cons.injEq,and_true] at hz;obtain ⟨rfl,rfl⟩:=hz;obtain ⟨i,e,h1,_⟩:=ol F (h2.found (fO F.d).vs).2;simp only at e ⊢;omega
variable {m:Nat}
def kZ (a s m:Nat) (l:List Int) : Nat->List Int
 | 0=>l
 | k+1=>(kZ a s m l k).set (a+k*s) (if k+1<m then (a:Int)+((k:Int)+1)*s else -1)
def uu (lo n:Nat) (l:List Int) (x s m:Int) (v:Value) (w:World) : Prop :=
 if 1<=s∧s<=64∧1<=m∧m<=n∧0<=x∧x+s*m<=n then ∃ A c,v = .tuple #[.slice A n c,.int .i64 0]∧Own w lo 3 1 bw A n c (kZ x.toNat s.toNat m.toNat l m.toNat)
 else v = .tuple #[.slice none 0 0,.int .i64 1]
theorem Hu {s n:Nat} (hs:s<=64) (hm:m<=n) : 0<=(s:Int)*m∧(s:Int)*m<=64*n:=by
 have h:s*m<=64*n:=Nat.mul_le_mul hs hm
 exact ⟨by omega,by omega⟩
theorem DH {s:Nat} (hk:k<m) : 0<=(k:Int)*s∧((k:Int)+1)*s=(k:Int)*s+s∧(k:Int)*s+s<=(s:Int)*m∧(s:Int)*k=(k:Int)*s:=by
 have h:(k+1)*s<=m*s:=adD _ hk
 have e:((k:Int)+1)*s=(k:Int)*s+s:=by rw [afq,afr]
 have e2:(s:Int)*m=(m:Int)*s:=aej _ _
 rw [ad0,Nat.one_mul] at h;refine ⟨by omega,e,by rw [e2];omega,aej _ _⟩
theorem Co (A:Option Addr) (n c:Nat) (l:List Int) (x s m:Int) (w:World) (hl:Sl w 1 bw A n l) (hn:n*8<=140737488355328) :
 bF prog 178 [.slice A n c,.int .i64 x,.int .i64 s,.int .i64 m] w (uu w.heap.size n l x s m):=by
 refine aC func178 rfl ntmps178 rfl ?_;have hw:=Ext.refl w;have kj:n<=2305843009213693952:=by omega
 by_cases h1 : 1<=s∧s<=64
 ·by_cases h2 : 1<=m∧m<=n
  ·obtain ⟨s,rfl⟩:=adn (a:=s) (by omega);obtain ⟨m,rfl⟩:=adn (a:=m) (by omega);have hb:=Hu (s:=s) (m:=m) (n:=n) (by omega) (by omega);by_cases h3 : 0<=x∧x+(s:Int)*m<=n
   ·obtain ⟨a,rfl⟩:=adn h3.1;repeat' (first|refine Wz ?_|(refine Wk (qH _ _ _ _ _ _ kj) ?_;intro v w1 ai hv;subst hv;have hw:=hw.trans ai;clear ai))
    refine Wk (dF _ _ _ _ _ (hl.ext hw) hn) fun v w1 ai hv => ?_
    obtain ⟨A1,c1,rfl,hO⟩:=hv;have dD:=hw.size;have hw:=hw.trans ai;have hO:=Own.low hO dD;have oT:=hO.sl.base;refine Wz ?_
    refine CW.loop (fun k:Nat=>[(0,.slice A n c),(1,.int .i64 (a:Int)),(2,.int .i64 (s:Int)),(3,.int .i64 (m:Int)),(10,.slice A1 n c1),(40,.int .i64 (m:Int)),(41,.int .i64 (k:Int))])
     (fun k w'=>k<=m∧Ext w w'∧Own w' w.heap.size 3 1 bw A1 n c1 (kZ a s m l k)) (fun k=>m-k) 0 ⟨rfl,rfl,rfl,rfl,rfl,rfl,rfl,trivial⟩ ⟨by omega,hw,hO⟩ ?_
    clear hw hO;rintro k w' ⟨hk,hw,hO⟩
    by_cases BD:k<m
    ·have hr:=DH (s:=s) BD;have hp:a+k*s<n:=by omega
     by_cases vw:k+1<m
     all_goals
      refine Wz ?_;refine SW.qF (a+k*s) hO rfl rfl hp fun w2 bj hg => ?_
      have hw:=aD hw hg (adg _) hO.a9;refine Wz ?_;refine ae.again (k+1) ⟨rfl,rfl,rfl,rfl,rfl,rfl,rfl,trivial⟩ (by omega) ⟨by omega,hw,?_⟩;simp only [kZ]
     ·rw [if_pos vw];exact bj
     ·rw [if_neg vw];exact bj
    ·refine Wz ?_;obtain rfl:k=m:=by omega
     refine ae.dm rfl rfl rfl ⟨_,rfl,hw,?_⟩;unfold uu;rw [if_pos (by omega)];exact ⟨A1,c1,rfl,hO⟩
   ·repeat' (first|refine Wz ?_|(refine Wk (qH _ _ _ _ _ _ kj) ?_;intro v w1 ai hv;subst hv;have hw:=hw.trans ai;clear ai))
    all_goals refine ae.dm rfl rfl rfl ⟨_,rfl,hw,?_⟩
    all_goals unfold uu
    all_goals rw [if_neg (by omega)]
  ·repeat' (first|refine Wz ?_|refine SW.gi rfl rfl rfl (fun h => ?_) (fun h => ?_))
   all_goals refine ae.dm rfl rfl rfl ⟨_,rfl,hw,?_⟩
   all_goals unfold uu
   all_goals rw [if_neg (by omega)]
 ·repeat' (first|refine Wz ?_|refine SW.gi rfl rfl rfl (fun h => ?_) (fun h => ?_))
  all_goals refine ae.dm rfl rfl rfl ⟨_,rfl,hw,?_⟩
  all_goals unfold uu
  all_goals rw [if_neg (by omega)]
variable {per size:Int} {ws Rm:List Int}
inductive j4 (ws:List Int) (size per t:Int) : Int->Nat->Prop where
 | zero (x:Int) : j4 ws size per t x 0
 | succ {k n:Nat} (hk:k<ws.length) (ho:il size per t k=true) (h:j4 ws size per t ws[k] n) : j4 ws size per t k (n+1)
theorem j4.Kd {t x:Int} {r:Option (List Int)} (h:fU ws most x acc r) : ∀ out,r=some out->(∀ a∈out,il size per t a=true)->j4 ws size per t x (out.length-acc.length):=by
 induction h with
 | done out =>
   intro o e _;cases e
   rw [afh];exact .zero _
 | bad=>intro o e;cases e
 | @step k acc r h1 hk h3 h ih =>
   intro o e ho;have h2:=ih o e ho
   have hm:∀ {x':Int} {O0:List Int} {r':Option (List Int)},fU ws most x' O0 r' -> ∀ o',r'=some o'->(∀ a∈O0,a∈o')∧O0.length<=o'.length:=by
    intro x' O0 r' hf;induction hf with
    | done out=>intro o' e';cases e';exact ⟨fun a h=>h,adg _⟩
    | bad=>intro o' e';cases e'
    | step _ _ _ _ UO =>
      intro o' e';obtain ⟨a1,a2⟩:=UO o' e';rw [adp] at a2;exact ⟨fun a h=>a1 a (adN _ h),by omega⟩
   obtain ⟨a1,a2⟩:=hm h o e;rw [adp,List.length_singleton] at a2 h2;have e2:o.length-acc.length=(o.length-(acc.length+1))+1:=by omega
   rw [e2];exact .succ hk (ho _ (a1 _ (by simp))) h2
theorem j4.O1 {x:Slab} {out:List Int} (h:bO ws size per x out) : j4 ws size per x.At x.ck x.aj.toNat:=by
 have h1:=j4.Kd (t:=x.At) h.1 out rfl h.2.2;have h2:=h.2.1;have e:out.length-([] : List Int).length=x.aj.toNat:=by simp;omega
 rw [e] at h1;exact h1
theorem j4.head {t x:Int} {n:Nat} (h:j4 ws size per t x (n+1)) : (0<=x∧x<(ws.length:Int))∧j4 ws size per t (ws.getD x.toNat 0) n:=by
 cases h with
 | @succ k n hk ho h =>
   refine ⟨by omega,?_⟩;have e:ws.getD ((k:Int)).toNat 0=ws[k]:=by simp [hk]
   rw [e];exact h
theorem j4.jT {t x:Int} {n:Nat} (h:j4 ws size per t x n) (hl:Rm.length=ws.length) (he:∀ (k:Nat) (hk:k<ws.length),il size per t k=true->Rm[k]'(by omega)=ws[k]) : j4 Rm size per t x n:=by
 induction h with
 | zero=>exact .zero _
 | @succ k n hk ho h ih =>
   refine .succ (by omega) ho ?_;rw [he k hk ho];exact ih
theorem jo (a s m:Nat) (l:List Int) : ∀ k,(kZ a s m l k).length=l.length
 | 0=>rfl
 | k+1=>by simp only [kZ,List.length_set];exact jo a s m l k
theorem re (a s m:Nat) (l:List Int) (j:Nat) : ∀ (k:Nat),(∀ i,i<k->j≠a+i*s)->(kZ a s m l k)[j]?=l[j]?
 | 0,_=>rfl
 | k+1,h=>by
   simp only [kZ];rw [List.getElem?_set,if_neg (fun e=>h k (by omega) e.symm)];exact re a s m l j k (fun i hi=>h i (by omega))
theorem wM (a s m:Nat) (hs : 0<s) (l:List Int) (i:Nat) (hl:a+i*s<l.length) : ∀ (k:Nat),i<k->(kZ a s m l k)[a+i*s]?=some (if i+1<m then (a:Int)+((i:Int)+1)*s else -1)
 | 0,h=>by omega
 | k+1,h=>by
   simp only [kZ];rw [List.getElem?_set];by_cases e:k=i
   ·subst e;rw [if_pos rfl,if_pos (by rw [jo];exact hl)]
   ·have bJ:a+k*s≠a+i*s:=fun h0=>by
     have:=Nat.eq_of_mul_eq_mul_right hs (Nat.add_left_cancel h0)
     exact e this
    rw [if_neg bJ];exact wM a s m hs l i hl k (by omega)
structure SOk (ws:List Int) (lv:List Block) (c:aQ) (x:Slab) : Prop where
 at_ : 0<=x.At∧x.At<=255
 al:x.At % pw c.Order=0
 live:∃ b∈lv,b.At=x.At
 free : 0<=x.aj∧x.aj<=64
 walk:j4 ws c.az c.bL x.At x.ck x.aj.toNat
structure rf (s:ah) (c:aQ) : Prop where
 words:s.Words.length=4096
 most:s.aa.length<=20
 lay:dp c.az=(c.Order,c.bL,0)
 dz:∀ (k:Nat) (h:k<c.ap.length),c.ap[k] = -1∨c.ab.any (xX c.ap[k])=true
 next:c.ab.Pairwise fun x y=>x.At<y.At
 py:∀ x∈c.ab,SOk s.Words s.Heap.Live c x
theorem rf.of (hM:aB s) (hi:i<s.aa.length) : rf s s.aa[i]:=by
 have hc:=(hM.each i hi).may;have hl:=cj hc.lay;refine ⟨hM.words,hM.most,hc.lay,fun k h => ?_,?_,fun x hx => ?_⟩
 ·rcases hc.dz k h with g|⟨_,g⟩
  ·exact .inl g
  ·exact .inr g
 ·rw [adl]
  have key:∀ (a b:Nat) (ha:a<s.aa[i].ab.length) (hb:b<s.aa[i].ab.length),a<b->s.aa[i].ab[a].At<s.aa[i].ab[b].At:=by
   intro a b;induction b with
   | zero=>intro _ _ h;omega
   | succ b ih =>
     intro ha hb h;have h2:=(hc.aE (b+1) hb).next (by omega);simp only [Nat.add_sub_cancel] at h2;by_cases e:a=b
     ·subst e;exact h2
     ·have:=ih ha (by omega) (by omega);omega
  exact key
 ·obtain ⟨k,hk,rfl⟩:=ade hx;have hs:=hc.aE k hk;obtain ⟨out,h⟩:=hs.chain;obtain ⟨hf,h3⟩:=hs.at_ hM.heap hl.2.1.1;obtain ⟨bW,e⟩:=jB hf;obtain ⟨g1,g2,g3,_⟩:=hM.heap.live.each _ bW;have tW:=hs.live;rw [zN hf bW] at tW;rw [e,tW] at g3;have h4:=h.1.Qa (by simp;omega) out rfl;have h5:=h.2.1;exact ⟨h3,g3,⟨_,adb bW,e⟩,by omega,.O1 h⟩
def Cp (c:aQ) (x:Slab) : Bool:=decide (0<x.aj) && !decide (x.At∈c.ap)
def DI (c:aQ) (cpu:Nat) : Int:=idxOf (xX (c.ap.getD cpu 0)) c.ab
def ir (c:aQ) (k:Nat) : Slab:=c.ab.getD k ⟨0,0,0⟩
theorem fp (h:k<c.ab.length) : ir c k=c.ab[k]:=by simp [ir,h]
def qi (c:aQ) (cpu:Nat) : Int:=if 0<=DI c cpu∧0<(ir c (DI c cpu).toNat).aj then DI c cpu else idxOf (Cp c) c.ab
def dL (c:aQ) (cpu k:Nat) (v:Int) : aQ:=⟨c.Names,c.az,c.bL,c.Order,c.ab.set k ⟨(ir c k).At,(ir c k).aj-1,v⟩,c.ap.set cpu (ir c k).At⟩
def eY (c:aQ) (a:Int) : Nat:=(c.ab.takeWhile fun x=>decide (x.At<a)).length
theorem oZ (c:aQ) (a:Int) : eY c a<=c.ab.length:=(List.takeWhile_sublist _).length_le
def dZ (c:aQ) (a:Int) : aQ:=⟨c.Names,c.az,c.bL,c.Order,aN c.ab (eY c a) ⟨a,c.bL,16*a⟩,c.ap⟩
def nb (s:ah) (l:List Int) : ah:=⟨l,s.Heap,s.aa⟩
def jq (n:Nat) (x s m:Int) : Prop:=1<=s∧s<=64∧1<=m∧m<=n∧0<=x∧x+s*m<=n
def dJ (l:List Int) (x s m:Int) : List Int:=kZ x.toNat s.toNat m.toNat l m.toNat
structure MI where
 ws:List Int
 h:Heap
 c:aQ
 k:Nat
inductive rR (s:ah) (c:aQ) (cpu:Nat) : Option MI×Int->Prop where
 | uM {k:Nat} (h:qi c cpu=k) : rR s c cpu (some ⟨s.Words,s.Heap,c,k⟩,0)
 | room {u:Heap×Int×Int} (h:qi c cpu<0) (ha:cU s.Heap (cpu:Int) c.Order 0 u) (he:u.2.2≠0) : rR s c cpu (none,u.2.2)
 | chain {u:Heap×Int×Int} (h:qi c cpu<0) (ha:cU s.Heap (cpu:Int) c.Order 0 u) (he:u.2.2=0) (hc : ¬ jq s.Words.length (16*u.2.1) c.az c.bL) : rR s c cpu (none,1)
 | new {u:Heap×Int×Int} (h:qi c cpu<0) (ha:cU s.Heap (cpu:Int) c.Order 0 u) (he:u.2.2=0) (hc:jq s.Words.length (16*u.2.1) c.az c.bL) : rR s c cpu (some ⟨dJ s.Words (16*u.2.1) c.az c.bL,u.1,dZ c u.2.1,eY c u.2.1⟩,0)
theorem rR.dq {cpu:Nat} {u v:Option MI×Int} (x:rR s c cpu u) (y:rR s c cpu v) : u=v:=by
 cases x with
 | @uM k h=>cases y with
   | @uM j h' =>
     obtain rfl:k=j:=by omega
     rfl
   | room h'|chain h'|new h'=>omega
 | room h ha he=>cases y with
   | uM h'=>omega
   | room h' mA ia=>rw [ha.dq mA]
   | chain h' mA ia|new h' mA ia=>exact absurd (by rw [ha.dq mA];exact ia) he
 | chain h ha he hc=>cases y with
   | uM h'=>omega
   | room h' mA ia=>exact absurd (by rw [mA.dq ha];exact he) ia
   | chain h' mA ia g7=>rfl
   | new h' mA ia g7=>exact absurd (by rw [ha.dq mA];exact g7) hc
 | new h ha he hc=>cases y with
   | uM h'=>omega
   | room h' mA ia=>exact absurd (by rw [mA.dq ha];exact he) ia
   | chain h' mA ia g7=>exact absurd (by rw [mA.dq ha];exact hc) g7
   | new h' mA ia g7=>rw [ha.dq mA]
def lZ (s:ah) (i cpu:Nat) : Option MI×Int->ah×Int×Int
 | (some m,_)=>(bI (nb s m.ws) i (m.h,dL m.c cpu m.k (m.ws.getD (ir m.c m.k).ck.toNat 0)),(ir m.c m.k).ck,0)
 | (none,e)=>(.zero,0,e)
theorem xA {cpu:Nat} {m:Option MI×Int} (hi:i<s.aa.length) (x:rR s s.aa[i] cpu m) (hf:s.cK) (hn:(s.aa[i].ab.length+1)*24<=140737488355328) : (lZ s i cpu m).1.small:=by
 have hc:=hf.Sw hi;have hs:=hf.small;have h1:=hc.small;cases x with
 | room|chain=>exact ah.kX
 | uM h =>
   refine ⟨hs.words,hs.heap,by simp only [lZ,bI,nb,List.length_set];exact hs.br,fun c g7 => ?_⟩;rcases ads g7 with g7|rfl
   ·exact hs.each c g7
   ·exact ⟨h1.names,by simp only [dL,List.length_set];exact h1.aE,by simp only [dL,List.length_set];exact h1.ba⟩
 | new h ha he WG =>
   refine ⟨by simp only [lZ,bI,nb,dJ,jo];exact hs.words,ha.small hs.heap,by simp only [lZ,bI,nb,List.length_set];exact hs.br,fun c g7 => ?_⟩;rcases ads g7 with g7|rfl
   ·exact hs.each c g7
   ·refine ⟨h1.names,?_,by simp only [dL,dZ,List.length_set];exact h1.ba⟩;simp only [dL,dZ,List.length_set];rw [di _ (oZ _ _)];exact hn
inductive pA (s:ah) (n:ByteArray) (cpu:Int) : ah×Int×Int->Prop where
 | ask (h:iU s n cpu≠0) : pA s n cpu (.zero,0,iU s n cpu)
 | Ed {i:Nat} {m:Option MI×Int} (h:iU s n cpu=0) (e:idxOf (dQ n) s.aa=i) (hi:i<s.aa.length) (hm:rR s s.aa[i] cpu.toNat m) : pA s n cpu (lZ s i cpu.toNat m)
theorem pA.dq {u v:ah×Int×Int} (x:pA s n cpu u) (y:pA s n cpu v) : u=v:=by
 cases x with
 | ask h=>cases y with
   | ask=>rfl
   | Ed h'=>exact absurd h' h
 | @Ed i _ h e hi hm=>cases y with
   | ask h'=>exact absurd h h'
   | @Ed j _ h' e' hj mY =>
     obtain rfl:i=j:=by omega
     rw [hm.dq mY]
theorem DJ (h:j<eY c a) (hj:j<c.ab.length) : c.ab[j].At<a:=by
 unfold eY at h;have h1:(c.ab.takeWhile fun x=>decide (x.At<a))[j]=c.ab[j]:=List.IsPrefix.getElem (List.takeWhile_prefix _) h
 have:=List.all_takeWhile (p:=fun x:Slab=>decide (x.At<a)) (l:=c.ab)
 rw [List.all_eq_true] at this;have:=this _ (adb h)
 rw [h1] at this;exact of_decide_eq_true this
theorem IU:∀ (l:List α) (x : α),l[(l.takeWhile p).length]?=some x->p x=false
 | [],x,h=>by simp at h
 | a::r,x,h=>by
   rw [List.takeWhile_cons] at h;cases e:p a with
   | false =>
     rw [e] at h;simp at h;subst h;exact e
   | true =>
     rw [e] at h;simp at h;exact IU r x h
theorem IV (hk:k<=c.ab.length) (h1:∀ (j:Nat) (hj:j<c.ab.length),j<k->c.ab[j].At<a) (h2:∀ h:k<c.ab.length,¬ c.ab[k].At<a) : eY c a=k:=by
 rcases adO (eY c a) k with h|h|h
 ·exfalso;have h3:eY c a<c.ab.length:=by omega
  have h4:=IU (p:=fun x:Slab=>decide (x.At<a)) c.ab c.ab[eY c a] (adi h3);exact of_decide_eq_false h4 (h1 _ h3 h)
 ·exact h
 ·exact absurd (DJ h (by have:=oZ c a;omega)) (h2 _)
theorem ti (hM:rf s c) : c.ab.length<=256:=by
 have hn:=hM.next;rw [adl] at hn
 have key:∀ (k:Nat) (hk:k<c.ab.length),(k:Int)<=c.ab[k].At:=by
  intro k;induction k with
  | zero=>intro hk;have:=(hM.py _ (adb hk)).at_;omega
  | succ k ih =>
    intro hk;have h1:=ih (by omega);have h2:=hn k (k+1) (by omega) hk (by omega);omega
 rcases adL 256 c.ab.length with h|h
 ·have h1:=key 256 h;have h2:=(hM.py _ (adb h)).at_;omega
 ·exact h
theorem Ke (hM:rf s c) {cpu:Nat} (hc:cpu<c.ap.length) :
 (c.ap[cpu] = -1∧DI c cpu = -1)∨(0<=c.ap[cpu] ∧ ∃ (k:Nat) (hk:k<c.ab.length),DI c cpu=k∧c.ab[k].At=c.ap[cpu]):=by
 have ha:=hM.dz cpu hc;have e:c.ap.getD cpu 0=c.ap[cpu]:=by simp [hc]
 unfold DI;rw [e];rcases ha with h|h
 ·left;refine ⟨h,(jW fun j hj => ?_).1⟩;rw [h];have:=(hM.py _ (adb hj)).at_
  unfold xX;exact decide_eq_false (by omega)
 ·right;obtain ⟨k,hk,h1,_,h2⟩:=ka h;have h3:=of_decide_eq_true h1;have:=(hM.py _ (adb hk)).at_
  exact ⟨by omega,k,hk,h2,h3⟩
theorem rf.first (hM:rf s c) {x:Slab} (hx:x∈c.ab) (hf : 0<x.aj) : (0<=x.ck∧x.ck<4096)∧j4 s.Words c.az c.bL x.At (s.Words.getD x.ck.toNat 0) (x.aj-1).toNat:=by
 have h:=(hM.py x hx).walk;rw [show x.aj.toNat=(x.aj-1).toNat+1 by omega] at h;have h2:=h.head;rw [hM.words] at h2;exact h2
structure TP (s:ah) (m:MI) : Prop where
 hk:m.k<m.c.ab.length
 len:m.ws.length=4096
 first : 0<=m.c.ab[m.k].ck∧m.c.ab[m.k].ck<4096
 free : 1<=m.c.ab[m.k].aj∧m.c.ab[m.k].aj<=64
theorem Fm {l:List α} {p:Nat} {x : α} (hp:p<=l.length) (h:p<(aN l p x).length) : (aN l p x)[p]=x:=by
 have:=lH (x:=x) hp
 rw [adi h] at this;exact Option.some.inj this
theorem IW {cpu:Nat} (h:qi c cpu=k) : ∃ hk:k<c.ab.length,0<c.ab[k].aj:=by
 unfold qi at h;split at h
 ·rename_i h1;rw [h] at h1;have e:((k:Int)).toNat=k:=by omega
  rw [e] at h1
  have hk:k<c.ab.length:=by
   rcases adL k c.ab.length with h2|h2
   ·exact h2
   ·have:ir c k=⟨0,0,0⟩:=by simp [ir,List.getElem?_eq_none h2]
    rw [this] at h1;simp at h1
  rw [fp hk] at h1;exact ⟨hk,h1.2⟩
 ·have hg:=ly (Cp c) c.ab;rw [h,decide_eq_true (by omega)] at hg;obtain ⟨j,hj,h1,_,h2⟩:=ka hg.symm;rw [h] at h2;obtain rfl:k=j:=by omega
  refine ⟨hj,?_⟩;unfold Cp at h1;simp only [Bool.and_eq_true,decide_eq_true_eq] at h1;exact h1.1
theorem rR.QR (hM:rf s c) {cpu:Nat} {u:Option MI×Int} (x:rR s c cpu u) : ∀ m,u.1=some m->TP s m:=by
 intro m e;cases x with
 | room|chain=>cases e
 | uM h =>
   simp only [Option.some.injEq] at e;subst e;obtain ⟨hk,hf⟩:=IW h;have:=(hM.py _ (adb hk)).free
   exact ⟨hk,hM.words,(hM.first (adb hk) hf).1,by simp only;omega⟩
 | @new u h ha he hc =>
   simp only [Option.some.injEq] at e;subst e;have lg:=ha.at_ he;have hl:=cj hM.lay;have hp:=oZ c u.2.1
   have hk:eY c u.2.1<(dZ c u.2.1).ab.length:=by
    simp only [dZ];rw [di _ hp];omega
   have e:(dZ c u.2.1).ab[eY c u.2.1]=⟨u.2.1,c.bL,16*u.2.1⟩:=Fm hp hk
   refine ⟨hk,by simp only [dJ,jo];exact hM.words,?_,?_⟩
   ·simp only [e];omega
   ·simp only [e];omega
inductive vx (l:List Int) : Int->List Int->Prop
 | nil:vx l (-1) []
 | cons {k:Nat} {out:List Int} (hk:k<l.length) (h:vx l l[k] out) : vx l k ((k:Int)::out)
theorem fU.link {l:List Int} {x:Int} {r:Option (List Int)} (h:fU l most x acc r) : ∀ o,r=some o -> ∃ out,o=acc++out∧vx l x out∧(acc.Nodup->o.Nodup)∧((acc.length:Int)<=most->(o.length:Int)<=most):=by
 induction h with
 | done out=>intro o e;cases e;exact ⟨[],by simp,.nil,fun h=>h,fun h=>h⟩
 | bad=>intro o e;cases e
 | @step k acc r h1 hk h3 h ih =>
   intro o e;obtain ⟨out,rfl,e2,e3,e4⟩:=ih o e;refine ⟨(k:Int)::out,by simp,.cons hk e2,fun hn=>e3 ?_,fun _=>e4 ?_⟩
   ·rw [adT];exact ⟨hn,by simp,fun a ha b hb=>by simp only [List.mem_singleton] at hb;subst hb;exact fun e=>h3 (e ▸ ha)⟩
   ·simp only [List.length_append,List.length_singleton];omega
theorem vx.follows {l:List Int} {x:Int} {out:List Int} (h:vx l x out) : ∀ acc:List Int,(acc++out).Nodup->((acc++out).length:Int)<=most->fU l most x acc (some (acc++out)):=by
 induction h with
 | nil=>intro acc _ _;rw [aeA];exact .done acc
 | @cons k out hk h ih =>
   intro acc hn hl;have e:acc++(k:Int)::out=(acc++[(k:Int)])++out:=by simp
   refine .step ?_ hk ?_ ?_
   ·simp only [List.length_append,List.length_cons] at hl;omega
   ·intro hm;rw [adT] at hn;exact hn.2.2 _ hm _ (by simp) rfl
   ·rw [e] at hn hl ⊢;exact ih _ hn hl
theorem ie {x:Slab} {out:List Int} (hp : 0<=per) : bO ws size per x out↔vx ws x.ck out∧out.Nodup∧(out.length:Int)<=per∧(out.length:Int)=x.aj ∧ ∀ a∈out,il size per x.At a=true:=by
 constructor
 ·rintro ⟨h1,h2,h3⟩
  obtain ⟨o,e,k1,k2,k3⟩:=h1.link _ rfl;rw [ad5] at e;subst e;exact ⟨k1,k2 (by simp),k3 (by simpa using hp),h2,h3⟩
 ·rintro ⟨h1,h2,h3,h4,h5⟩
  exact ⟨h1.follows [] (by simpa using h2) (by simpa using h3),h4,h5⟩
theorem vx.congr {l l':List Int} {x:Int} {out:List Int} (h:vx l x out) : (∀ a∈out,0<=a->l'[a.toNat]?=l[a.toNat]?)->vx l' x out:=by
 induction h with
 | nil=>exact fun _ => .nil
 | @cons k out hk h ih =>
   intro he;have h1:=he k (by simp) (by omega);simp only [Int.toNat_natCast] at h1;rw [adi hk] at h1;obtain ⟨bW,e⟩:=adC.1 h1;refine .cons bW ?_;rw [e];exact ih fun a ha=>he a (by simp [ha])
theorem vx.head {l:List Int} {x:Int} {out:List Int} (h:vx l x out) (h0:out≠[]) : ∃ k rest,x=((k:Nat) : Int)∧out=x::rest ∧ ∃ hk:k<l.length,vx l l[k] rest:=by
 cases h with
 | nil=>exact absurd rfl h0
 | @cons k out hk h=>exact ⟨k,out,rfl,rfl,hk,h⟩
def wN (x s:Nat) : Nat->Nat->List Int
 | 0,_=>[]
 | n+1,i=>((x+i*s:Nat) : Int)::wN x s n (i+1)
theorem z7 {x s:Nat}:∀ {n i:Nat} {a:Int},a∈wN x s n i ↔ ∃ j,i<=j∧j<i+n∧a=((x+j*s:Nat) : Int)
 | 0,i,a=>by simp [wN];intro j h1 h2;omega
 | n+1,i,a=>by
   simp only [wN,List.mem_cons,z7 (n:=n)];constructor
   ·rintro (rfl|⟨j,h1,h2,rfl⟩)
    ·exact ⟨i,adg _,by omega,rfl⟩
    ·exact ⟨j,by omega,by omega,rfl⟩
   ·rintro ⟨j,h1,h2,rfl⟩
    by_cases e:j=i
    ·subst e;exact .inl rfl
    ·exact .inr ⟨j,by omega,by omega,rfl⟩
theorem z8 {x s:Nat}:∀ (n i:Nat),(wN x s n i).length=n
 | 0,_=>rfl
 | n+1,i=>by simp [wN,z8 n]
theorem z9 {x s:Nat} (hs : 0<s) : ∀ (n i:Nat),(wN x s n i).Nodup
 | 0,_=>by simp [wN]
 | n+1,i=>by
   simp only [wN,List.nodup_cons];refine ⟨fun h => ?_,z9 hs n (i+1)⟩;obtain ⟨j,h1,h2,e⟩:=z7.1 h;have h3:i*s<j*s:=Nat.mul_lt_mul_of_pos_right (by omega) hs
   omega
theorem Cq {x s:Nat} (hs : 0<s) {l:List Int} (hl:∀ i,i<m->x+i*s<l.length) : ∀ (n i:Nat),i+n=m->0<n->vx (kZ x s m l m) ((x+i*s:Nat) : Int) (wN x s n i)
 | 0,_,_,h=>by omega
 | n+1,i,e,_=>by
   have hb:=hl i (by omega);have hlen:(kZ x s m l m).length=l.length:=jo x s m l m
   have lg:=wM x s m hs l i hb m (by omega);have hk:x+i*s<(kZ x s m l m).length:=by omega
   rw [adi hk] at lg;injection lg with lg
   simp only [wN];refine .cons hk ?_;rw [lg];by_cases h0:n=0
   ·subst h0;rw [if_neg (by omega)];exact .nil
   ·rw [if_pos (by omega)];have:=Cq hs hl n (i+1) (by omega) (by omega)
    have e2:((x+(i+1)*s:Nat) : Int)=(x:Int)+((i:Int)+1)*(s:Int):=by
     simp only [Int.natCast_add,Int.natCast_mul];rfl
    rwa [e2] at this
variable {M:MI}
theorem VS.uL {s:ao×ao} (h:VS s) : ∀ z∈[s.1,s.2],fL z:=fun z hz=>by
 obtain ⟨a1,a2,a3,_⟩:=h.lW.ok;obtain ⟨b1,b2,b3,_⟩:=h.lG.ok;simp only [List.mem_cons,List.not_mem_nil,or_false] at hz;unfold fL;rcases hz with rfl|rfl<;>omega
theorem ik.align {t:Int} {u:ao×Int×Int} (h:ik z o t u) (h0:u.2.2=0) : u.2.1 % pw o=0:=by
 cases h with
 | bad|range|kind|room=>simp at h0
 | @ok k st hq ho ht hk hp =>
   have hz:=fq.1 hq;obtain ⟨_,p1,p2⟩:=hp.ord;obtain ⟨⟨f1,f2,f3,f4,f5⟩,_⟩:=hz.eM k hk;simp only;rcases fH ho.1 ho.2 with ⟨e1,e2⟩|⟨e1,e2⟩|⟨e1,e2⟩|⟨e1,e2⟩|⟨e1,e2⟩<;>rcases fH f1 f2 with ⟨g1,g2⟩|⟨g1,g2⟩|⟨g1,g2⟩|⟨g1,g2⟩|⟨g1,g2⟩<;>rw [g2] at f5<;>rw [e2]<;>omega
theorem jU.align {t:Int} {s:ao×ao} (h:jU m0 m1 cpu zi o t f s L (some r)) : r.2.2 % pw o=0:=by
 cases h with
 | list ho hk hp =>
   rw [ho,jm];exact Int.emod_one _
 | uL ho he ht hu=>exact ht.align hu
 | fill ho hk he ht hu hr=>exact ht.align hu
theorem ms.align {t:Int} {s:ao×ao} (h:ms m0 m1 cpu o t f s L (some r)) : r.2.2 % pw o=0:=by
 cases h with
 | wu _ h=>exact h.align
 | low _ h=>exact h.align
theorem nD {h:Heap} {t:Int} {y:Block}:y∈dU h a o t↔y=⟨a,o,t⟩∨y∈h.Live:=kB
structure TQ (h:Heap) (o:Int) (u:Heap×Int×Int) : Prop where
 at_ : 0<=u.2.1∧u.2.1<256
 al:u.2.1 % pw o=0
 ne:∀ b∈h.Live,b.At≠u.2.1
 uM:∀ b∈h.Live,b∈u.1.Live
 new:∃ b∈u.1.Live,b.At=u.2.1
 uL:∀ z∈u.1.bp,fL z
theorem cU.new {h:Heap} {u:Heap×Int×Int} (a:cU h cpu o f u) (he:u.2.2=0) : TQ h o u:=by
 have lg:=a.at_ he;cases a with
 | bad|range|form|room=>simp at he
 | once hb hr ht hz ha =>
   obtain ⟨z0,z1,F⟩:=gC (cq.1 hb);rw [F.d.ct] at hz;simp only [List.cons.injEq,and_true] at hz;obtain ⟨rfl,rfl⟩:=hz;have hf:=ha.found F.d.start.vs;obtain ⟨i,e,h1,hc⟩:=qg F hf.2;exact ⟨lg,ha.align,F.th e hc,fun b hb=>nD.2 (.inr hb),⟨_,nD.2 (.inl rfl),rfl⟩,hf.1.uL⟩
 | gE hb hr ht hz ha h2 =>
   obtain ⟨z0,z1,F⟩:=gC (cq.1 hb);rw [F.d.ct] at hz;simp only [List.cons.injEq,and_true] at hz;obtain ⟨rfl,rfl⟩:=hz;have hf:=h2.found (fO F.d).vs;obtain ⟨i,e,h1,hc⟩:=ol F hf.2;exact ⟨lg,h2.align,F.th e hc,fun b hb=>nD.2 (.inr hb),⟨_,nD.2 (.inl rfl),rfl⟩,hf.1.uL⟩
theorem Kf {t:Int} (hl:dp size=(o,per,0)) (ha:a % pw o=0) (ht:t % pw o=0) (bJ:t≠a) {k:Int} (hk:il size per t k=true) (j:Nat) (hj:(j:Int)<per) : k≠16*a+j*size:=by
 obtain ⟨l1,l2,l3⟩:=cj hl;unfold il at hk;simp only [Bool.and_eq_true,decide_eq_true_eq] at hk
 have h1:(j:Int)*size+size<=per*size:=by
  have:=aeB (show (j:Int)+1<=per by omega) (show 0<=size by omega)
  rwa [afq,afr] at this
 have h2 : 0<=(j:Int)*size:=aeL (by omega) (by omega)
 obtain ⟨q,hq⟩ : ∃ q,(j:Int)*size=q:=⟨_,rfl⟩;obtain ⟨m,hm⟩ : ∃ m,per*size=m:=⟨_,rfl⟩;have hp:=kb hl;rw [hq] at h1 h2 ⊢;rw [hm] at h1 hk hp;rcases hp with ⟨rfl,hp⟩|⟨rfl,hp⟩|⟨rfl,hp⟩
 ·omega
 ·rw [show pw 1=2 from rfl] at ha ht;omega
 ·rw [show pw 2=4 from rfl] at ha ht;omega
theorem Aa (hl:dp size=(o,per,0)) (hc:jq ws.length (16*a) size per) : ∀ (j m:Nat),(m:Int)+j=per->j4 (dJ ws (16*a) size per) size per a (16*a+m*size) j
 | 0,m,_ => .zero _
 | j+1,m,h=>by
   obtain ⟨c1,c2,c3,c4,c5,c6⟩:=hc
   have h1:(m:Int)*size+size<=per*size:=by
    have:=aeB (show (m:Int)+1<=per by omega) (show 0<=size by omega)
    rwa [afq,afr] at this
   have h2 : 0<=(m:Int)*size:=aeL (by omega) (by omega)
   rw [aej size per] at c6
   have e1 : 16*a+(m:Int)*size=(((16*a).toNat+m*size.toNat:Nat) : Int):=by
    rw [afo,aeY,adI (by omega),adI (by omega)]
   have eX:(16*a).toNat+m*size.toNat<ws.length:=by omega
   have OT:(dJ ws (16*a) size per).length=ws.length:=by unfold dJ;exact jo _ _ _ _ _
   have lg:=wM (16*a).toNat size.toNat per.toNat (by omega) ws m eX per.toNat (by omega);rw [e1];refine .succ (by omega) ?_ ?_
   ·rw [<- e1];exact ET c1 (by omega) rfl
   ·have e2:(dJ ws (16*a) size per)[(16*a).toNat+m*size.toNat]'(by omega)=if m+1<per.toNat then (((16*a).toNat:Nat) : Int)+((m:Int)+1)*(size.toNat:Nat) else -1:=by
     have:=adi (l:=dJ ws (16*a) size per) (i:=(16*a).toNat+m*size.toNat) (by omega)
     unfold dJ at this;rw [lg] at this;exact (Option.some.inj this).symm
    rw [e2];split
    ·have:=Aa hl ⟨c1,c2,c3,c4,c5,by rw [aej size per];exact c6⟩ j (m+1) (by omega)
     rw [adI (show 0<=16*a by omega),adI (show 0<=size by omega)];exact this
    ·obtain rfl:j=0:=by omega
     exact .zero _
theorem rf.grow (hM:rf s c) {u:Heap×Int×Int} (hn:TQ s.Heap c.Order u) (hc:jq s.Words.length (16*u.2.1) c.az c.bL) {cs:List aQ} (lT:cs.length=s.aa.length) : rf ⟨dJ s.Words (16*u.2.1) c.az c.bL,u.1,cs⟩ (dZ c u.2.1):=by
 have hl:=cj hM.lay;have OT:(dJ s.Words (16*u.2.1) c.az c.bL).length=s.Words.length:=by unfold dJ;exact jo _ _ _ _ _
 have E6:=oZ c u.2.1
 have bJ:∀ x∈c.ab,x.At≠u.2.1:=fun x hx=>by
  obtain ⟨b,hb,e⟩:=(hM.py x hx).live;rw [<- e];exact hn.ne b hb
 have jA:∀ x∈c.ab,x∈(dZ c u.2.1).ab:=fun x hx=>by
  simp only [dZ];exact kB.2 (.inr hx)
 have N5:=hM.next;have TR:=N5;rw [adl] at TR;refine ⟨by simp only;rw [OT];exact hM.words,by simp only;rw [lT];exact hM.most,hM.lay,fun k h => ?_,?_,fun x hx => ?_⟩
 ·rcases hM.dz k h with g|g
  ·exact .inl g
  ·right;rw [adq] at g ⊢;obtain ⟨y,hy,g⟩:=g;exact ⟨y,jA y hy,g⟩
 ·have e:c.ab=c.ab.take (eY c u.2.1)++c.ab.drop (eY c u.2.1):=(adh _ _).symm
  have h0:=N5;rw [e,adA] at h0;obtain ⟨h1,h2,h3⟩:=h0
  have hA:∀ x∈c.ab.take (eY c u.2.1),x.At<u.2.1:=fun x hx=>by
   obtain ⟨j,hj,rfl⟩:=ade hx;simp only [List.length_take] at hj;rw [adS];exact DJ (by omega) (by omega)
  have hB:∀ x∈c.ab.drop (eY c u.2.1),u.2.1<x.At:=fun x hx=>by
   obtain ⟨j,hj,rfl⟩:=ade hx;have hjd:j<c.ab.length-eY c u.2.1:=by rw [<- List.length_drop];exact hj
   rw [ad9];have Ll:eY c u.2.1<c.ab.length:=by omega
   have h5:=IU (p:=fun x:Slab=>decide (x.At<u.2.1)) c.ab c.ab[eY c u.2.1] (adi Ll);have h6:=of_decide_eq_false h5;have h7:=bJ _ (adb (show eY c u.2.1+j<c.ab.length by omega));rcases adu j with rfl|Oz
   ·simp only [Nat.add_zero] at h7 ⊢;omega
   ·have:=TR (eY c u.2.1) (eY c u.2.1+j) (by omega) (by omega) (by omega)
    omega
  simp only [dZ];unfold aN;rw [adj,adA];refine ⟨h1,?_,fun a ha b hb => ?_⟩
  ·rw [adz,ad8];exact ⟨hB,h2⟩
  ·rw [adz,aee] at hb;rcases hb with rfl|hb
   ·exact hA a ha
   ·exact h3 a ha b hb
 ·simp only [dZ] at hx ⊢;have pN:=kB.1 hx;have lg:=hn.at_;rcases pN with rfl|pN
  ·refine ⟨by simp only;omega,hn.al,hn.new,by simp only;omega,?_⟩;have:=Aa hM.lay hc c.bL.toNat 0 (by omega)
   simpa using this
  ·have hs:=hM.py x pN;obtain ⟨b,hb,e⟩:=hs.live;refine ⟨hs.at_,hs.al,⟨b,hn.uM b hb,e⟩,hs.free,hs.walk.jT OT fun k hk ho => ?_⟩
   have h1:(kZ (16*u.2.1).toNat c.az.toNat c.bL.toNat s.Words c.bL.toNat)[k]?=s.Words[k]?:=re _ _ _ _ _ _ fun j hj e2=>by
    have h2:=Kf hM.lay hn.al hs.al (bJ x pN) ho j (by omega);apply h2;rw [e2,afo,aeY,adI (by omega),adI (by omega)]
   rw [adi hk,adi (by rw [jo];exact hk)] at h1;exact Option.some.inj h1
theorem rf.take (hM:rf s c) {cpu:Nat} (hk:k<c.ab.length) (hf : 0<c.ab[k].aj) {cs:List aQ} (lT:cs.length=s.aa.length) : rf ⟨s.Words,s.Heap,cs⟩ (dL c cpu k (s.Words.getD (ir c k).ck.toNat 0)):=by
 have hm:=adb hk;have hs:=hM.py _ hm;have hw:=(hM.first hm hf).2;have hD:=fp hk
 have gQ:∀ t,c.ab.any (xX t)=true->(c.ab.set k ⟨c.ab[k].At,c.ab[k].aj-1,s.Words.getD c.ab[k].ck.toNat 0⟩).any (xX t)=true:=fun t g=>by
  rw [adq] at g ⊢;obtain ⟨y,hy,g⟩:=g;obtain ⟨j,hj,rfl⟩:=ade hy;by_cases e:k=j
  ·subst e;exact ⟨_,List.mem_set hk _,g⟩
  ·refine ⟨_,adb (show j<_ by rw [adK];exact hj),?_⟩;rwa [List.getElem_set_ne e]
 unfold dL;rw [hD];refine ⟨hM.words,by simp only;rw [lT];exact hM.most,hM.lay,fun j h => ?_,?_,fun x hx => ?_⟩
 ·simp only at h ⊢;rw [adK] at h;rw [adB];split
  ·right;refine gQ _ ?_;rw [adq];exact ⟨_,hm,by unfold xX;exact decide_eq_true rfl⟩
  ·rcases hM.dz j h with g|g
   ·exact .inl g
   ·exact .inr (gQ _ g)
 ·have N5:=hM.next;have e:∀ l:List Slab,(l.Pairwise fun x y=>x.At<y.At)↔(l.map fun x=>x.At).Pairwise (· < ·):=fun l=>by rw [afa]
  rw [e] at N5;simp only;rw [e,aew]
  have e3:(c.ab.map fun x=>x.At).set k c.ab[k].At=c.ab.map fun x=>x.At:=by
   have BD:k<(c.ab.map fun x=>x.At).length:=by rw [List.length_map];exact hk
   have e4:(c.ab.map fun x=>x.At)[k]=c.ab[k].At:=aex ..
   rw [<- e4];exact adW BD
  rw [e3];exact N5
 ·simp only at hx;rcases ads hx with hx|rfl
  ·have h:=hM.py x hx;exact ⟨h.at_,h.al,h.live,h.free,h.walk⟩
  ·have:=hs.free
   exact ⟨hs.at_,hs.al,hs.live,by simp only;omega,hw⟩
structure Bk (s:ah) (i cpu:Nat) : Prop where
 cK:s.cK
 hi:i<s.aa.length
 inv:rf s s.aa[i]
 qj:cpu<s.aa[i].ap.length
def uv (s:ah) (i cpu:Nat) (M:MI) : ah:=bI (nb s M.ws) i (M.h,dL M.c cpu M.k (M.ws.getD (ir M.c M.k).ck.toNat 0))
theorem Bk.Ed {cpu:Nat} (h:Bk s i cpu) (x:rR s (s.aa[i]'h.hi) cpu (some M,0)) : Bk (uv s i cpu M) i cpu:=by
 have hi:=h.hi;have lX:=x.QR h.inv M rfl;have yC:=ti h.inv;have rV:=xA hi x h.cK (by omega);have hlen:(s.aa.set i (dL M.c cpu M.k (M.ws.getD (ir M.c M.k).ck.toNat 0))).length=s.aa.length:=adK ..
 have hinv:rf ⟨M.ws,M.h,s.aa⟩ M.c∧(∀ z∈M.h.bp,fL z)∧M.c.Names=s.aa[i].Names∧M.c.ap.length=s.aa[i].ap.length:=by
  cases x with
  | uM hp=>exact ⟨h.inv,h.cK.ct,rfl,rfl⟩
  | new hp ha he hc =>
    have hn:=ha.new he;exact ⟨h.inv.grow hn hc rfl,hn.uL,rfl,rfl⟩
 obtain ⟨hb,hz,sA,Kg⟩:=hinv;have nj:=lX.free;have U1:=hb.take (cpu:=cpu) lX.hk (by omega) hlen
 have Rn:i<(uv s i cpu M).aa.length:=by
  simp only [uv,bI,nb];rw [hlen];exact hi
 have lg:(uv s i cpu M).aa[i]=dL M.c cpu M.k (M.ws.getD (ir M.c M.k).ck.toNat 0):=by simp only [uv,bI,nb,List.getElem_set_self]
 refine ⟨⟨rV,hz,fun c' g7 x' pN => ?_,fun c' g7 n hn => ?_⟩,Rn,?_,?_⟩
 ·simp only [uv,bI,nb] at g7;rcases ads g7 with g7|rfl
  ·exact h.cK.aE c' g7 x' pN
  ·have:=(U1.py x' pN).at_
   omega
 ·simp only [uv,bI,nb] at g7;rcases ads g7 with g7|rfl
  ·exact h.cK.names c' g7 n hn
  ·simp only [dL] at hn;rw [sA] at hn;exact h.cK.names _ (adb hi) n hn
 ·rw [lg];exact U1
 ·rw [lg];simp only [dL,List.length_set];rw [Kg];exact h.qj
inductive om (i cpu:Nat) : Nat->ah->List Int->ah×List Int×Int->Prop where
 | done {s:ah} {l:List Int}:om i cpu 0 s l (s,l,0)
 | bad {k:Nat} {s:ah} {l:List Int} {m:Option MI×Int} (hi:i<s.aa.length) (hm:rR s s.aa[i] cpu m) (h:m.1=none) : om i cpu (k+1) s l (.zero,[],m.2)
 | more {k:Nat} {s:ah} {l:List Int} {M:MI} {u:ah×List Int×Int} (hi:i<s.aa.length) (hm:rR s s.aa[i] cpu (some M,0)) (h:om i cpu k (uv s i cpu M) (l++[(ir M.c M.k).ck]) u) : om i cpu (k+1) s l u
theorem om.dq {cpu:Nat} {l:List Int} {u v:ah×List Int×Int} (x:om i cpu k s l u) : om i cpu k s l v->u=v:=by
 induction x with
 | done=>intro y;cases y;rfl
 | bad hi hm h=>intro y;cases y with
   | bad po mY h'=>rw [hm.dq mY]
   | more po mY _=>rw [hm.dq mY] at h;cases h
 | more hi hm h ih=>intro y;cases y with
   | bad po mY h'=>rw [<- hm.dq mY] at h';cases h'
   | more po mY h' =>
     have e:=hm.dq mY;simp only [Prod.mk.injEq,Option.some.injEq,and_true] at e;subst e;exact ih h'
inductive oo (s:ah) (n:ByteArray) (cpu many:Int) : ah×List Int×Int->Prop where
 | ask (h:iU s n cpu≠0) : oo s n cpu many (.zero,[],iU s n cpu)
 | range (h:iU s n cpu=0) (hm : ¬ (1<=many∧many<=256)) : oo s n cpu many (.zero,[],1)
 | Ed {i:Nat} {u:ah×List Int×Int} (h:iU s n cpu=0) (hm : 1<=many∧many<=256) (e:idxOf (dQ n) s.aa=i) (hr:om i cpu.toNat many.toNat s [] u) : oo s n cpu many u
theorem oo.dq {many:Int} {u v:ah×List Int×Int} (x:oo s n cpu many u) (y:oo s n cpu many v) : u=v:=by
 cases x with
 | ask h=>cases y with
   | ask=>rfl
   | range h'|Ed h'=>exact absurd h' h
 | range h hm=>cases y with
   | ask h'=>exact absurd h h'
   | range=>rfl
   | Ed _ mY=>exact absurd mY hm
 | @Ed i _ h hm e hr=>cases y with
   | ask h'=>exact absurd h h'
   | range _ mY=>exact absurd hm mY
   | @Ed j _ _ _ e' ph =>
     obtain rfl:i=j:=by omega
     exact hr.dq ph
theorem O2 (h:iU s n cpu=0) (hf:s.cK) : ∃ i c:Nat,idxOf (dQ n) s.aa=i∧cpu=(c:Int)∧aB s∧Bk s i c:=by
 obtain ⟨hq,ht,U3,BS⟩:=mC h;obtain ⟨i,hi,_,_,rU⟩:=ka ht;have hM:=iS.1 hq;obtain ⟨c,rfl⟩:=adn U3;have Kg:=(hM.each i hi).may.ba;exact ⟨i,c,rU,rfl,hM,hf,hi,.of hM hi,by omega⟩
end Go.Proofs.YtohigmjjbgpfmaaGreatDoor
