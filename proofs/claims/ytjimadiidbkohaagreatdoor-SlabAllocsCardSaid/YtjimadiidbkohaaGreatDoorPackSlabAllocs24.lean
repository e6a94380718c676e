/-
  Texts of the claim SlabAllocs, part 24: what its theorem leans on.
-/
import Derived.Test.YtjimadiidbkohaaGreatDoorPackSlabAllocs18
import Derived.Test.YtjimadiidbkohaaGreatDoorPackSlabAllocs23
import Derived.Test.YtjimadiidbkohaaGreatDoorPackSlabAllocs11
import Derived.Test.YtjimadiidbkohaaGreatDoorPackSlabAllocs2
import Derived.Test.YtjimadiidbkohaaGreatDoorPackSlabAllocs19
import Derived.Test.YtjimadiidbkohaaGreatDoorPackSlabAllocs13
import Derived.Test.YtjimadiidbkohaaGreatDoorPackSlabAllocs8
import Derived.Test.YtjimadiidbkohaaGreatDoorPackSlabAllocs14
set_option linter.unusedVariables false
set_option linter.unusedSimpArgs false
namespace Go.Proofs.YtjimadiidbkohaaGreatDoor
open Go.RowKit
structure RQ (wb w:World) (k:HK) (p:HP) (s:aq×aq) (L:List aB) : Prop where
 zs:dR w wb.heap.size k.g k.c p.u0 p.u1 s
 cj:Own w wb.heap.size 3 1 bh k.m.A k.m.n k.m.c k.M
 live:Own w wb.heap.size 77 3 az k.lv.A k.lv.n k.lv.c k.V
 ls:cJ w wb.heap.size p.li p.ls L
 base:Ext wb w
section
variable {wb w w':World} {k:HK} {p:HP} {s:aq×aq} {L:List aB} {t:TypeId} {b:Nat}
theorem RQ.ext (h:RQ wb w k p s L) (hx:Ext w w') : RQ wb w' k p s L:=⟨h.zs.ext hx,h.cj.ext hx,h.live.ext hx,h.ls.ext hx,h.base.trans hx⟩
theorem RQ.own (h:RQ wb w k p s L) (hg:w.grownBy w' (some b)) (hb:wb.heap.size≤b) (hG:n9 w w' t) (cG:(Nat.beq t 59 || (Nat.beq t 3 || (Nat.beq t 77 || Nat.beq t 62)))=false) : RQ wb w' k p s L:=by
 simp only [Bool.or_eq_false_iff] at cG;obtain ⟨h1,h2,h3,h4⟩:=cG;exact ⟨h.zs.ay hG (by simp [h1,h2,h3]),h.cj.ay hG h2,h.live.ay hG h3,h.ls.ay hG (by simp [h2,h4]),h.base.own hb hg⟩
theorem RQ.fp (h:RQ wb w k p s L) (hv:VS s) {zi:Nat} (hz:zi<2) : ∃ u,[p.u0,p.u1][zi]'hz=u∧eV w wb.heap.size u (rc s zi):=by
 rcases Nat.lt_or_ge zi 1 with h1|h1
 ·obtain rfl:zi=0:=by omega
  exact ⟨p.u0,rfl,h.zs.z0⟩
 ·obtain rfl:zi=1:=by omega
  exact ⟨p.u1,rfl,h.zs.z1⟩
theorem RQ.Ba {zi:Nat} {u:cq} {z:aq} (h:RQ wb w k p s L) (hz:zi<2) (hO:Own w' wb.heap.size 59 4 bo (some ⟨k.g,0,none⟩) 2 k.c ([p.u0,p.u1].set zi u)) (hg:w.grownBy w' (some k.g)) (hn:eV w wb.heap.size u z) : RQ wb w' k (kh p zi u) (kU s (zi:Int) z) L:=by
 have hG:=h.zs.gr hg;have tD:=hn.ay hG rfl;have hx:Ext wb w':=h.base.own h.zs.yo hg
 unfold kh kU;by_cases iM:zi=0
 ·subst iM;simp only [if_true,Int.natCast_zero] at *;exact ⟨⟨hO,tD,h.zs.z1.ay hG rfl,h.zs.yo,h.zs.pos⟩,h.cj.ay hG rfl,h.live.ay hG rfl,h.ls.ay hG rfl,hx⟩
 ·obtain rfl:zi=1:=by omega
  have e1 : ¬ ((1:Nat)=0):=by omega
  have e2 : ¬ (((1:Nat) : Int)=0):=by omega
  simp only [if_neg e1,if_neg e2] at *;exact ⟨⟨hO,h.zs.z0.ay hG rfl,tD,h.zs.yo,h.zs.pos⟩,h.cj.ay hG rfl,h.live.ay hG rfl,h.ls.ay hG rfl,hx⟩
theorem RQ.low (h:RQ wb w k p s L) : wb.heap.size≤w.heap.size:=h.base.size
end
set_option maxHeartbeats 1000000 in
theorem tp (k:HK) (p:HP) (s:aq×aq) (L:List aB) (m0 m1:Int) (zi:Nat) (o f:Int) (wb w:World) (Q:RQ wb w k p s L) (hM:nV k.M m0 m1) (hv:VS s) (iM:zi<2) (ho : 0≤o∧o≤4) (hf : 0≤f∧f≤15) :
 bt Tryz.prog 89 [.agg (bm (k.h p)).toArray,.int .i64 (zi:Int),.int .i64 o,.int .i64 f] w fun v _=>v = .bool (decide (dr m0 m1 s zi o f)):=by
 refine aL Tryz.func89 rfl Tryz.ntmps89 rfl ?_;refine CW.seq (CW.region (SW.box rfl rfl fun b1 w1 hw gK aA => ?_));obtain ⟨uz,Gy,nA⟩:=Q.fp hv iM;have uG:=hv.rc (zi:Int);obtain ⟨z,hz⟩ : ∃ z,rc s (zi:Int)=z:=⟨_,rfl⟩;rw [hz] at nA uG;obtain ⟨q1,q2,q3,q4⟩:=kF nA uG;have hA:=Q.zs.row.sl.base;have fz:=Q.zs.row.sl.dv iM (j:=2) (show (bo ([p.u0,p.u1][zi]'iM))[2]?=some (Value.slice uz.ag.A uz.ag.n uz.ag.c) by rw [Gy];rfl)
 have jc:∀ b∈z.ag,0≤b.Order∧b.Order≤4:=fun b hb=>by
  obtain ⟨j,hj,rfl⟩:=List.getElem_of_mem hb;exact ⟨(uG.cU j hj).1.1,(uG.cU j hj).1.2.1⟩
 obtain ⟨hd,xO⟩ : ∃ hd,na m0 m1 s zi f=hd:=⟨_,rfl⟩;obtain ⟨a1,a2,a3,a4,a5⟩:=hv.ms.ok
 have cH:∀ w',Ext w w'→bt Tryz.prog 117 [.agg (bm (k.h p)).toArray,.int .i64 (zi:Int),.int .i64 f] w' fun v _=>v = .int .i64 hd:=fun w' hx=>by
  have:=xy.vT (k.h p) p.u0 p.u1 s k.M m0 m1 zi f w' (Q.cj.ext hx).sl (Q.zs.row.ext hx).sl hM Q.zs.z1.from_ Q.zs.z1.jZ ⟨by omega,by omega⟩ ⟨by omega,by omega⟩ iM hf
  rwa [xO] at this
 have NB : 0≤hd∧hd≤512:=by
  rw [← xO];have h1:=hM.b0;have h2:=hM.b1;unfold na;(repeat' split)<;>omega
 have Ap:=j3 uG;have KA:=jb uG z.ag.length (Nat.le_refl _);rw [List.take_length] at KA;have NC:=bG ho.1 ho.2;have hE:dr m0 m1 s zi o f↔hd≤dE z.ag-pw o:=by unfold dr;rw [xO,hz]
 obtain ⟨q,hq⟩ : ∃ q,decide (dr m0 m1 s zi o f)=q:=⟨_,rfl⟩;rw [hq];have Hg:decide (hd≤dE z.ag-pw o)=q:=by rw [← hq];exact decide_eq_decide.2 hE.symm
 repeat' (first|refine Wz ?_|((apply CW.aO mixed;(· kernel_rfl);rotate_left;intro w1 ab;replace hw:=Ext.trans hw ab;replace aA:=aA.ext ab;clear ab;rotate_right))|refine SW.st (ao hw rfl fz) rfl ?_|refine SW.bq rfl rfl (fun w1 ab=>(yA _ _ _ _ _ (nA.free.ext (Ext.trans hw ab)).sl jc (by omega))) ?_|refine SW.bq rfl rfl (fun w1 ab=>(dc _ (by omega) _)) ?_|refine SW.bq rfl rfl (fun w1 ab=>(cH _ (Ext.trans hw ab))) ?_|exact SW.bx rfl)
 refine ae.aN rfl rfl ⟨_,rfl,hw,?_⟩;rw [← Hg]
open Go.RowKit
structure oA (k:HK) (p:HP) (o:Option Nat) : Prop where
 m:∀ g,o=some g→ob k.m≠some g
 t0:∀ g,o=some g→ob p.u0.Types≠some g
 t1:∀ g,o=some g→ob p.u1.Types≠some g
 pg:∀ g,o=some g → ∀ y∈p.ls,ob y.aw≠some g
theorem oA.nil (k:HK) (p:HP) : oA k p none:=⟨fun g e=>(by cases e),fun g e=>(by cases e),fun g e=>(by cases e),fun g e=>(by cases e)⟩
theorem RQ.fresh {wb w:World} {k:HK} {p:HP} {s:aq×aq} {L:List aB} {o:Option Nat} (Q:RQ wb w k p s L) (h:∀ g,o=some g→w.heap.size≤g) : oA k p o:=by
 refine ⟨fun g e e2 => ?_,fun g e e2 => ?_,fun g e e2 => ?_,fun g e y hy e2 => ?_⟩
 ·have:=h g e;have:=Q.cj.lt_size g e2;omega
 ·have:=h g e;have:=Q.zs.z0.types.lt_size g e2;omega
 ·have:=h g e;have:=Q.zs.z1.types.lt_size g e2;omega
 ·obtain ⟨j,hj,rfl⟩:=List.getElem_of_mem hy;have:=h g e
  have:=(Q.ls.each.get j hj (by rw [← Q.ls.each.len];exact hj)).cr.lt_size g e2
  omega
theorem oA.either {k:HK} {p:HP} {o o':Option Nat} (h:oA k p o) (h':∀ g,o'=some g→o=some g∨oA k p (some g)) : oA k p o':=by
 refine ⟨fun g e => ?_,fun g e => ?_,fun g e => ?_,fun g e => ?_⟩
 ·rcases h' g e with h1|h1
  ·exact h.m g h1
  ·exact h1.m g rfl
 ·rcases h' g e with h1|h1
  ·exact h.t0 g h1
  ·exact h1.t0 g rfl
 ·rcases h' g e with h1|h1
  ·exact h.t1 g h1
  ·exact h1.t1 g rfl
 ·rcases h' g e with h1|h1
  ·exact h.pg g h1
  ·exact h1.pg g rfl
theorem oA.kh {k:HK} {p:HP} {o:Option Nat} {n zi:Nat} {u:cq} (h:oA k p o) (c9:∀ g,o=some g→g<n) (hu:∀ g,aT u.Types.A u.Types.c=some g→n≤g) : oA k (kh p zi u) o:=by
 have hn:∀ g,o=some g→ob u.Types≠some g:=fun g e e2=>by have:=c9 g e;have:=hu g e2;omega
 unfold Proofs.YtjimadiidbkohaaGreatDoor.kh;split
 ·exact ⟨h.m,hn,h.t1,h.pg⟩
 ·exact ⟨h.m,h.t0,hn,h.pg⟩
theorem RQ.CD {wb w w':World} {k:HK} {p:HP} {s:aq×aq} {L:List aB} {o:Option Nat} (Q:RQ wb w k p s L) (hg:w.grownBy w' o) (hG:n9 w w' 3) (hn:oA k p o) (hb:∀ g,o=some g→wb.heap.size≤g) : RQ wb w' k p s L:=by
 refine ⟨Q.zs.Ef hg hG (fun g e u hu => ?_),Q.cj.apart hg (fun g e e2=>hn.m g e2 e),Q.live.ay hG rfl,⟨Q.ls.row.ay hG rfl,⟨Q.ls.each.len,fun j h1 h2 => ?_⟩⟩,aE Q.base hg (Nat.le_refl _) hb⟩
 ·simp only [List.mem_cons,List.not_mem_nil,or_false] at hu;rcases hu with rfl|rfl
  ·exact hn.t0 g e
  ·exact hn.t1 g e
 ·have hj:=Q.ls.each.get j h1 h2;exact ⟨hj.cpu,hj.fp,hj.ty,hj.cr.apart hg (fun g e e2=>hn.pg g e2 _ (List.getElem_mem h1) e)⟩
theorem Sl.Fu {α:Type} {w:World} {sz:Nat} {enc : α → List Value} {A:Option Addr} {n:Nat} {l:List α} (h:Sl w sz enc A n l) {i:Nat} {x : α} (hi:i<l.length) (hx:l[i]=x) : ∀ (j:Nat) (v:Value),(enc x)[j]?=some v→w.cell? (((A.getD default).add (i*sz)).add j)=some v:=fun j v hj=>by
 subst hx;exact h.cell i hi j v hj
def GV:Option ((aq×aq)×List aB×Int)→Int
 | Option.none => -1
 | some q=>q.2.2
set_option maxHeartbeats 16000000 in
theorem qp (k:HK) (p:HP) (s:aq×aq) (L:List aB) (m0 m1 cpu:Int) (zi:Nat) (o t f:Int) (wb w:World) (Q:RQ wb w k p s L) (hM:nV k.M m0 m1) (hv:VS s) (hs:rz L) (zR:∀ l∈L,1≤l.aw.length∧l.aw.length≤8) (vQ:L.length≤256) (iM:zi<2) (ho : 0≤o∧o≤4) (hf : 0≤f∧f≤15) :
 gL Tryz.prog 56 [.agg (bm (k.h p)).toArray,.int .i64 cpu,.int .i64 (zi:Int),.int .i64 o,.int .i64 t,.int .i64 f] w fun v w' => ∃ q,ij m0 m1 cpu zi o t f s L q ∧ ∃ p',v = .tuple #[.agg (bm (k.h p')).toArray,.int .i64 (GV q)]∧RQ wb w' k p' (C3 s q) (Bf L q)∧G2 w w' k.g k.g:=by
 refine dw Tryz.func56 rfl Tryz.ntmps56 rfl ?_;refine CW.seq (CW.region (SW.box rfl rfl fun b6 w1 hw eW ax => ?_));refine SW.alloc rfl fun qI w2 cw nW bl => ?_
 have di:w.heap.size≤b6:=eW
 have fM:w.heap.size≤qI:=Nat.le_trans hw.size nW
 have cG:b6≠qI:=by have:=ax.lt;omega
 replace bl:aJ w2 qI 27 (bm .zero):=bl;(replace hw:=Ext.trans hw cw;replace ax:=ax.ext cw);have NX:=Q.base;have Q0:=Q;replace Q:=Q.ext hw;have hE:=(G2.refl w k.g k.g).ext hw;have tq:wb.heap.size≤w.heap.size:=NX.size
 obtain ⟨l1,l2⟩:=Q.ls.rd.len;obtain ⟨uz,Gy,nA⟩:=Q.fp hv iM;have uG:=hv.rc (zi:Int);obtain ⟨z,hz⟩ : ∃ z,rc s (zi:Int)=z:=⟨_,rfl⟩;rw [hz] at nA uG;obtain ⟨q1,q2,q3,q4⟩:=kF nA uG;have hA:=Q.zs.row.sl.base;have Il:∀ l∈L,l.aw.length*8≤140737488355328:=fun l hl=>by have:=zR l hl;omega
 have cE:∀ w' (b:Bool),decide (dr m0 m1 s zi o f)=b→RQ wb w' k p s L→bt Tryz.prog 89 [.agg (bm (k.h p)).toArray,.int .i64 (zi:Int),.int .i64 o,.int .i64 f] w' fun v _=>v = .bool b:=fun w' b hb hq=>by
  have:=tp k p s L m0 m1 zi o f wb w' hq hM hv iM ho hf
  rwa [hb] at this
 rcases (show (o=0∧bT L ⟨cpu,(zi:Int),t,[]⟩=true)∨((o=0∧bT L ⟨cpu,(zi:Int),t,[]⟩=false)∨0<o) by
  cases e:bT L ⟨cpu,(zi:Int),t,[]⟩
  ·by_cases h0:o=0
   ·exact .inr (.inl ⟨h0,rfl⟩)
   ·exact .inr (.inr (by omega))
  ·by_cases h0:o=0
   ·exact .inl ⟨h0,rfl⟩
   ·exact .inr (.inr (by omega))) with ⟨Fm,qA⟩|cy
 ·obtain ⟨de,lT⟩:=je qA;have Gz:=zR _ (List.getElem_mem de);have DG:=iS qA de;obtain ⟨oD,xB⟩ : ∃ oD,dA L ⟨cpu,(zi:Int),t,[]⟩=oD:=⟨_,rfl⟩;rw [← DG,xB] at Gz;clear DG lT;refine Wz ?_;refine SW.call rfl rfl (om (k.h p) L p.ls ⟨cpu,(zi:Int),t,[]⟩ _ Q.ls.rd hs (by simp only;omega) Il) fun v w4 aj hv => ?_
  obtain ⟨A,c,rfl,hP⟩:=hv;rw [xB] at hP;replace hP:=hP.low (Q.low);simp only [xB];(replace hw:=Ext.trans hw aj;replace ax:=ax.ext aj;replace bl:=bl.ext aj;replace Q:=Q.ext aj;replace hE:=hE.ext aj);have CA:oD≠[]:=fun e=>by rw [e] at Gz;simp at Gz
  have qH:oD.length-1<oD.length:=by omega
  have Ag:=s9 CA qH rfl;obtain ⟨a,ha⟩ : ∃ a,oD.getLast CA=a:=⟨_,rfl⟩;rw [ha] at Ag
  have ud:ij m0 m1 cpu zi o t f s L (some (s,re L ⟨cpu,(zi:Int),t,[]⟩ oD,a)):=by
   have:=ij.list (m0:=m0) (m1:=m1) (fl:=f) (s:=s) Fm qA (by rw [xB];exact CA)
   simp only [xB,ha] at this;exact this
  have KD:=hP.le;have E3:=hP.sl.base;have pM:=hP.pre (i:=oD.length-1) (by omega);rw [← List.dropLast_eq_take] at pM;refine Wz ?_;refine CW.iO 16 17 (fun w2=>Own w2 wb.heap.size 3 1 bh A oD.length c oD) mixed (by kernel_rfl) fun w1 ab aG => ?_
  replace hw:=Ext.trans hw ab;replace ax:=ax.ext ab;replace bl:=bl.ext ab;replace Q:=Q.ext ab;replace hE:=hE.ext ab;replace hP:=hP.ext ab;replace pM:=pM.ext ab;clear ab;refine Wf ?_;refine SF.take 8 [] [] aG rfl (by kernel_rfl) (by kernel_rfl) (by kernel_rfl) ?_;repeat ((refine SW.st (da (k:=oD.length-1) rfl (congrArg (fun z=>some (Value.int .i64 z)) (by omega)) (by omega)) rfl ?_))
  refine SW.ah ?_;refine SF.dG 10 [] aG rfl (by kernel_rfl) (by kernel_rfl) (by kernel_rfl) (bc rfl) (fun w2 hS=>bc rfl) rfl ?_;refine SF.dG 11 [] aG rfl (by kernel_rfl) (by kernel_rfl) (by kernel_rfl) (bc rfl) (fun w2 hS=>bc rfl) rfl ?_;refine SF.dG 12 [] aG rfl (by kernel_rfl) (by kernel_rfl) (by kernel_rfl) (eQ rfl) (fun w2 hS=>eQ rfl) rfl ?_;refine SF.dG 13 [] aG rfl (by kernel_rfl) (by kernel_rfl) (by kernel_rfl) (iu rfl rfl (by omega) (by omega)) (fun w2 hS=>iu rfl rfl (by omega) (by omega)) rfl ?_;refine SF.dG 14 [] aG rfl (by kernel_rfl) (by kernel_rfl) (by kernel_rfl) (aY (oD.length-1) rfl rfl (by assumption) (by omega) (by omega)) (fun w2 hS=>aY (oD.length-1) rfl rfl (by assumption) (by omega) (by omega)) rfl ?_;refine SF.dG 15 [] aG rfl (by kernel_rfl) (by kernel_rfl) (by kernel_rfl) (ak rfl (hP.sl.one qH (congrArg bh Ag.symm))) (fun w2 hS=>ak rfl (hS.sl.one qH (congrArg bh Ag.symm))) rfl ?_;refine SF.one 9 rfl (by kernel_rfl) rfl ?_;refine SW.call rfl rfl (jP (k.h p) L p.ls (dk ⟨cpu,(zi:Int),t,[]⟩ oD.dropLast) ⟨cpu,(zi:Int),t,⟨A,oD.length-1,c⟩⟩ wb.heap.size _ Q.ls ⟨rfl,rfl,rfl,pM⟩ hs Q.low (by simp only;omega)) fun v w5 aj hv => ?_
  obtain ⟨sl,R,rfl,Bc⟩:=hv;(replace hw:=Ext.trans hw aj;replace ax:=ax.ext aj;replace bl:=bl.ext aj;replace Q:=Q.ext aj;replace hE:=hE.ext aj;replace hP:=hP.ext aj);refine SW.nil (ae.sf aj ?_);refine SF.turn rfl (by kernel_rfl) rfl ?_;refine SW.ap bl rfl rfl rfl rfl (cQ ⟨⟨some ⟨k.g,0,none⟩,2,k.c⟩,k.m,k.cp,sl,k.lv⟩) fun w6 bP hg => ?_
  have hG:=bl.gr hg;have Q6:=Q.own hg (Nat.le_trans tq fM) hG rfl;have Bp:=hE.new hg fM;rw [Dr hs qA] at Bc;have GW:=Bc.ay hG rfl;have hS:=hP.ay hG rfl;refine SW.nil (ae.sg hS ?_);refine SG.last rfl (by kernel_rfl) (by kernel_rfl) ?_;refine Wz ?_;exact ae.fH rfl rfl rfl bP rfl ⟨_,rfl,_,ud,⟨p.u0,p.u1,sl,R⟩,rfl,⟨Q6.zs,Q6.cj,Q6.live,GW,Q6.base⟩,Bp⟩
 ·have k6 : ¬ (o=0∧bT L ⟨cpu,(zi:Int),t,[]⟩=true):=fun h=>by
   rcases cy with h1|h1
   ·rw [h.2] at h1;cases h1.2
   ·omega
  have KT:=cy;by_cases he:dr m0 m1 s zi o f
  ·have Fv:=fun w'=>cE w' true (decide_eq_true he)
   rcases cy with cy|cy
   focus
    obtain ⟨Fm,qA⟩:=cy;have DG:=lm qA;refine Wz ?_;refine SW.call rfl rfl (om (k.h p) L p.ls ⟨cpu,(zi:Int),t,[]⟩ _ Q.ls.rd hs (by simp only;omega) Il) fun v w4 aj hv => ?_
    obtain ⟨A,c,rfl,hP⟩:=hv;rw [DG] at hP;simp only [DG,List.length_nil];clear hP;(replace hw:=Ext.trans hw aj;replace ax:=ax.ext aj;replace bl:=bl.ext aj;replace Q:=Q.ext aj;replace hE:=hE.ext aj;replace nA:=nA.ext aj)
   all_goals
    repeat' (first|refine Wz ?_|(refine CW.bA rfl ?_)|refine SW.st (aX rfl rfl ((Q.zs.row.sl.Fu iM Gy))) rfl ?_|(refine SW.call rfl rfl (Fv _ Q) ?_;intro v w1 ab hv;subst hv;replace hw:=Ext.trans hw ab;replace ax:=ax.ext ab;replace bl:=bl.ext ab;replace Q:=Q.ext ab;replace hE:=hE.ext ab;replace nA:=nA.ext ab;clear ab))
    refine SW.call rfl rfl (qM uz z o t _ nA.rd q1 q2 ⟨by omega,by omega⟩ ⟨by omega,by omega⟩) fun v w4 aj AV => ?_
    obtain ⟨u,hT,r',rfl,tF⟩:=AV;replace tF:=tF.low Q.low;(replace hw:=Ext.trans hw aj;replace ax:=ax.ext aj;replace bl:=bl.ext aj;replace Q:=Q.ext aj;replace hE:=hE.ext aj);refine Wz ?_;refine SW.alloc rfl fun zH w1 ab Fw du => ?_
    skip;refine SW.ap du rfl rfl rfl rfl (ct r') fun w2 qw hg => ?_
    have aj:=ab.own Fw hg;have Mg:w.heap.size≤zH:=Nat.le_trans hw.size Fw
    replace hw:=Ext.trans hw aj;replace ax:=ax.ext aj;replace bl:=bl.ext aj;replace Q:=Q.ext aj;replace hE:=hE.ext aj;replace tF:=tF.ext aj;replace du:=qw;clear qw ab hg aj;rw [← hz] at hT;refine Classical.byCases (p := ¬ u.2.2=0) (fun hu => ?_) (fun hu => ?_)
    focus
     refine Wz ?_;refine SW.ap bl rfl rfl rfl rfl (cQ (k.h p)) fun w6 bP hg => ?_
     have hG:=bl.gr hg;have Q6:=Q.own hg (Nat.le_trans tq fM) hG rfl;have Bp:=hE.new hg fM;refine Wz ?_;exact ae.fH rfl rfl rfl bP rfl ⟨_,rfl,_,.none k6 he hT hu,p,rfl,Q6,Bp⟩
    replace hu:=Classical.not_not.1 hu;refine Wz ?_;refine SW.ib (enc:=bo) zi r' Q.zs.row rfl rfl iM fun w5 C2 hg => ?_
    rw [Q.zs.own] at hg;have hG:=Q.zs.gr hg;have Q5:=Q.Ba iM C2 hg tF;replace hE:=hE.Gn hg;(replace ax:=ax.ay hG rfl;replace bl:=bl.ay hG rfl);have sO:VS (kU s (zi:Int) u.1):=hv.pZ (hT.yf hu).1
    clear Q hw C2 tF nA hG hg;have hw:=Ext.refl w5
   ·obtain ⟨a,ha⟩ : ∃ a,u.2.1=a:=⟨_,rfl⟩
    have tg:∀ r,ff m0 m1 zi t f (kU s (zi:Int) u.1) [] r→ij m0 m1 cpu zi o t f s L (some (r.1,fX L ⟨cpu,(zi:Int),t,[]⟩ r.2,a)):=fun r hr=>by
     rw [← ha];exact .fill Fm qA he hT hu hr
    obtain ⟨s5,Mh⟩ : ∃ s5,kU s (zi:Int) u.1=s5:=⟨_,rfl⟩;obtain ⟨p5,KU⟩ : ∃ p5,kh p zi r'=p5:=⟨_,rfl⟩;have e5:p5.li=p.li∧p5.ls=p.ls:=by rw [← KU];exact jh
    rw [Mh] at Q5 sO tg;rw [KU] at Q5;refine Wz ?_
    refine CW.loop (fun v:HP×(aq×aq)×List Int×Option Addr×Nat=>[(1,.int .i64 cpu),(2,.int .i64 (zi:Int)),(4,.int .i64 t),(5,.int .i64 f),(6,.pointer (some ⟨b6,0,none⟩)),(12,.pointer (some ⟨qI,0,none⟩)),(16,.int .i64 a),(18,.slice v.2.2.2.1 v.2.2.1.length v.2.2.2.2)])
     (fun v w'=>v.2.2.1.length≤3∧RQ wb w' k v.1 v.2.1 L∧v.1.li=p.li∧v.1.ls=p.ls∧VS v.2.1∧aJ w' b6 27 (bm (k.h p))∧aJ w' qI 27 (bm .zero)∧G2 w w' k.g k.g∧Own w' w.heap.size 3 1 bh v.2.2.2.1 v.2.2.1.length v.2.2.2.2 v.2.2.1∧oA k v.1 (aT v.2.2.2.1 v.2.2.2.2) ∧ ∀ r,ff m0 m1 zi t f v.2.1 v.2.2.1 r→ff m0 m1 zi t f s5 [] r) (fun v=>3-v.2.2.1.length) (p5,s5,[],none,0)
     ⟨rfl,rfl,rfl,rfl,rfl,rfl,by rw [← ha];rfl,rfl,trivial⟩ ⟨by simp,Q5,e5.1,e5.2,sO,ax,bl,hE,Own.eR _ _ _ _ _ _,oA.nil _ _,fun r h=>h⟩ ?_
    clear hw ax bl hE Q5 sO du Mh KU e5 hT Fv cE hu;rintro ⟨p6,s6,pg,A,c⟩ w' ⟨KB,Q,e1,e2,xA,ax,bl,hE,hP,hN,kI⟩
    simp only at KB Q e1 e2 xA hP hN kI ⊢;have hw:=Ext.refl w';have NY:k.h p6=k.h p:=by simp only [HK.h,e1]
    obtain ⟨uz,Gy,nA⟩:=Q.fp xA iM;have uG:=xA.rc (zi:Int);obtain ⟨z,hz⟩ : ∃ z,rc s6 (zi:Int)=z:=⟨_,rfl⟩;rw [hz] at nA uG;obtain ⟨q1,q2,q3,q4⟩:=kF nA uG;have hA:=Q.zs.row.sl.base
    have cE:∀ w' (b:Bool),decide (dr m0 m1 s6 zi 0 f)=b→RQ wb w' k p6 s6 L→bt Tryz.prog 89 [.agg (bm (k.h p)).toArray,.int .i64 (zi:Int),.int .i64 0,.int .i64 f] w' fun v _=>v = .bool b:=fun w' b hb hq=>by
     have:=tp k p6 s6 L m0 m1 zi 0 f wb w' hq hM xA iM (by decide) hf
     rwa [hb,NY] at this
    have NZ:=Q.ls;by_cases c9:pg.length<3
    ·by_cases IY:dr m0 m1 s6 zi 0 f
     ·have Fv:=fun w'=>cE w' true (decide_eq_true IY)
      repeat' (first|refine Wz ?_|refine SW.st (aX rfl rfl ((Q.zs.row.sl.Fu iM Gy))) rfl ?_|(refine SW.call rfl rfl (Fv _ Q) ?_;intro v w1 ab hv;subst hv;replace hw:=Ext.trans hw ab;replace ax:=ax.ext ab;replace bl:=bl.ext ab;replace Q:=Q.ext ab;replace hE:=hE.ext ab;replace nA:=nA.ext ab;replace hP:=hP.ext ab;clear ab))
      have KV:=hP.lt_size;refine SW.call rfl rfl (qM uz z 0 t _ nA.rd q1 q2 ⟨by omega,by omega⟩ ⟨by omega,by omega⟩) fun v w4 aj AV => ?_
      obtain ⟨u,hT,r',rfl,tF⟩:=AV;have CI:=tF.types.aM;replace tF:=tF.low Q.low;(replace hw:=Ext.trans hw aj;replace ax:=ax.ext aj;replace bl:=bl.ext aj;replace Q:=Q.ext aj;replace hE:=hE.ext aj;replace hP:=hP.ext aj);refine Wz ?_;refine SW.alloc rfl fun OG w2 aj IZ KW => ?_
      skip;refine SW.ap KW rfl rfl rfl rfl (ct r') fun w3 Mi hg => ?_
      have tz:=aj.own IZ hg;(replace hw:=Ext.trans hw tz;replace ax:=ax.ext tz;replace bl:=bl.ext tz;replace Q:=Q.ext tz;replace hE:=hE.ext tz;replace hP:=hP.ext tz;replace tF:=tF.ext tz);clear hw hg;have hw:=Ext.refl w3;rw [← hz] at hT;by_cases hu:u.2.2=0
      ·refine Wz ?_;refine SW.ib (enc:=bo) zi r' Q.zs.row rfl rfl iM fun w5 C2 hg => ?_
       rw [Q.zs.own] at hg;have hG:=Q.zs.gr hg;have Q5:=Q.Ba iM C2 hg tF;replace hE:=hE.Gn hg;(replace ax:=ax.ay hG rfl;replace bl:=bl.ay hG rfl;replace hP:=hP.ay hG rfl);have sO:VS (kU s6 (zi:Int) u.1):=xA.pZ (hT.yf hu).1
       have Mj:oA k (kh p6 zi r') (aT A c):=hN.kh KV CI
       have yY:∀ r,ff m0 m1 zi t f (kU s6 (zi:Int) u.1) (pg++[u.2.1]) r→ff m0 m1 zi t f s5 [] r:=fun r hr=>kI _ (.more c9 IY hT hu hr)
       clear Q hw C2 tF nA hG hg kI hN NZ;have hw:=Ext.refl w5;refine Wz ?_;refine SW.bJ rfl rfl rfl rfl rfl fun b w8 aj hb hB => ?_
       (replace hw:=Ext.trans hw aj;replace ax:=ax.ext aj;replace bl:=bl.ext aj;replace Q5:=Q5.ext aj;replace hE:=hE.ext aj;replace hP:=hP.ext aj);refine SW.vx hP (aJ.mb (enc:=bh) hB) hE.size (by decide) rfl rfl rfl (by omega) (by omega) fun A3 c3 w9 fT hg kN => ?_
       have hG:=hP.gr hg;have N0:oA k (kh p6 zi r') (aT A3 c3):=Mj.either fun g e=>(kN g e).imp id (fun h=>Q5.fresh (fun g' e'=>by cases e';exact h))
       have Q9:=Q5.CD hg hG Mj (fun g e=>Nat.le_trans tq (hP.aM g e));replace hE:=hE.step hg (fun g e => .inr (.inr (hP.aM g e)));(replace ax:=ax.ay hG rfl;replace bl:=bl.ay hG rfl);refine Wz ?_;exact ae.again (kh p6 zi r',kU s6 (zi:Int) u.1,pg++[u.2.1],A3,c3) ⟨rfl,rfl,rfl,rfl,rfl,rfl,rfl,by simp only [List.length_append,List.length_singleton];rfl,trivial⟩ (by simp;omega) ⟨by simp;omega,Q9,jh.1.trans e1,jh.2.trans e2,sO,ax,bl,hE,by simp only [List.length_append,List.length_singleton];exact fT,N0,yY⟩
      ·have hF:ff m0 m1 zi t f s6 pg (s6,pg) := .none c9 IY hT hu
       refine Wz ?_;have xI:∀ w',RQ wb w' k p6 s6 L→cJ w' wb.heap.size p.li p.ls L:=fun w' q=>by have:=q.ls;rwa [e1,e2] at this
       refine SW.call rfl rfl (jP (k.h p) L p.ls (dk ⟨cpu,(zi:Int),t,[]⟩ pg) ⟨cpu,(zi:Int),t,⟨A,pg.length,c⟩⟩ wb.heap.size _ (xI _ Q) ⟨rfl,rfl,rfl,hP.low tq⟩ hs Q.low (by simp only;omega)) fun v w5 aj hv => ?_
       obtain ⟨sl,R,rfl,Bc⟩:=hv;clear xI;(replace hw:=Ext.trans hw aj;replace ax:=ax.ext aj;replace bl:=bl.ext aj;replace Q:=Q.ext aj;replace hE:=hE.ext aj;replace hP:=hP.ext aj);refine Wz ?_;refine SW.ap bl rfl rfl rfl rfl (cQ ⟨⟨some ⟨k.g,0,none⟩,2,k.c⟩,k.m,k.cp,sl,k.lv⟩) fun w6 bP hg => ?_
       have hG:=bl.gr hg;have Q6:=Q.own hg (Nat.le_trans tq fM) hG rfl;have Bp:=hE.new hg fM;rw [qo hs qA] at Bc;have GW:=Bc.ay hG rfl;refine Wz ?_;exact ae.fH rfl rfl rfl bP rfl ⟨_,rfl,_,tg _ (kI _ hF),⟨p6.u0,p6.u1,sl,R⟩,rfl,⟨Q6.zs,Q6.cj,Q6.live,GW,Q6.base⟩,Bp⟩
     ·have hF:ff m0 m1 zi t f s6 pg (s6,pg) := .jO c9 IY
      have Fv:=fun w'=>cE w' false (decide_eq_false IY)
      repeat' (first|refine Wz ?_|(refine SW.call rfl rfl (Fv _ Q) ?_;intro v w1 ab hv;subst hv;replace hw:=Ext.trans hw ab;replace ax:=ax.ext ab;replace bl:=bl.ext ab;replace Q:=Q.ext ab;replace hE:=hE.ext ab;replace nA:=nA.ext ab;replace hP:=hP.ext ab;clear ab))
      have xI:∀ w',RQ wb w' k p6 s6 L→cJ w' wb.heap.size p.li p.ls L:=fun w' q=>by have:=q.ls;rwa [e1,e2] at this
      refine SW.call rfl rfl (jP (k.h p) L p.ls (dk ⟨cpu,(zi:Int),t,[]⟩ pg) ⟨cpu,(zi:Int),t,⟨A,pg.length,c⟩⟩ wb.heap.size _ (xI _ Q) ⟨rfl,rfl,rfl,hP.low tq⟩ hs Q.low (by simp only;omega)) fun v w5 aj hv => ?_
      obtain ⟨sl,R,rfl,Bc⟩:=hv;clear xI;(replace hw:=Ext.trans hw aj;replace ax:=ax.ext aj;replace bl:=bl.ext aj;replace Q:=Q.ext aj;replace hE:=hE.ext aj;replace hP:=hP.ext aj);refine Wz ?_;refine SW.ap bl rfl rfl rfl rfl (cQ ⟨⟨some ⟨k.g,0,none⟩,2,k.c⟩,k.m,k.cp,sl,k.lv⟩) fun w6 bP hg => ?_
      have hG:=bl.gr hg;have Q6:=Q.own hg (Nat.le_trans tq fM) hG rfl;have Bp:=hE.new hg fM;rw [qo hs qA] at Bc;have GW:=Bc.ay hG rfl;refine Wz ?_;exact ae.fH rfl rfl rfl bP rfl ⟨_,rfl,_,tg _ (kI _ hF),⟨p6.u0,p6.u1,sl,R⟩,rfl,⟨Q6.zs,Q6.cj,Q6.live,GW,Q6.base⟩,Bp⟩
    ·have hF:ff m0 m1 zi t f s6 pg (s6,pg) := .full (by omega)
     refine Wz ?_;have xI:∀ w',RQ wb w' k p6 s6 L→cJ w' wb.heap.size p.li p.ls L:=fun w' q=>by have:=q.ls;rwa [e1,e2] at this
     refine SW.call rfl rfl (jP (k.h p) L p.ls (dk ⟨cpu,(zi:Int),t,[]⟩ pg) ⟨cpu,(zi:Int),t,⟨A,pg.length,c⟩⟩ wb.heap.size _ (xI _ Q) ⟨rfl,rfl,rfl,hP.low tq⟩ hs Q.low (by simp only;omega)) fun v w5 aj hv => ?_
     obtain ⟨sl,R,rfl,Bc⟩:=hv;clear xI;(replace hw:=Ext.trans hw aj;replace ax:=ax.ext aj;replace bl:=bl.ext aj;replace Q:=Q.ext aj;replace hE:=hE.ext aj;replace hP:=hP.ext aj);refine Wz ?_;refine SW.ap bl rfl rfl rfl rfl (cQ ⟨⟨some ⟨k.g,0,none⟩,2,k.c⟩,k.m,k.cp,sl,k.lv⟩) fun w6 bP hg => ?_
     have hG:=bl.gr hg;have Q6:=Q.own hg (Nat.le_trans tq fM) hG rfl;have Bp:=hE.new hg fM;rw [qo hs qA] at Bc;have GW:=Bc.ay hG rfl;refine Wz ?_;exact ae.fH rfl rfl rfl bP rfl ⟨_,rfl,_,tg _ (kI _ hF),⟨p6.u0,p6.u1,sl,R⟩,rfl,⟨Q6.zs,Q6.cj,Q6.live,GW,Q6.base⟩,Bp⟩
   ·refine Wz ?_;refine SW.ap bl rfl rfl rfl rfl (cQ (k.h p)) fun w6 bP hg => ?_
    have hG:=bl.gr hg;have Q6:=Q5.own hg (Nat.le_trans tq fM) hG rfl;have Bp:=hE.new hg fM;refine Wz ?_;exact ae.fH rfl rfl rfl bP rfl ⟨_,rfl,_,.uC cy he hT hu,kh p zi r',by rw [show k.h (kh p zi r')=k.h p by simp only [HK.h,jh.1]];rfl,Q6,Bp⟩
  ·have Fv:=fun w'=>cE w' false (decide_eq_false he)
   rcases cy with cy|cy
   focus
    obtain ⟨Fm,qA⟩:=cy;have DG:=lm qA;refine Wz ?_;refine SW.call rfl rfl (om (k.h p) L p.ls ⟨cpu,(zi:Int),t,[]⟩ _ Q.ls.rd hs (by simp only;omega) Il) fun v w4 aj hv => ?_
    obtain ⟨A,c,rfl,hP⟩:=hv;rw [DG] at hP;simp only [DG,List.length_nil];clear hP;(replace hw:=Ext.trans hw aj;replace ax:=ax.ext aj;replace bl:=bl.ext aj;replace Q:=Q.ext aj;replace hE:=hE.ext aj)
   all_goals
    repeat' (first|refine Wz ?_|(refine CW.bF rfl ?_)|(refine SW.call rfl rfl (Fv _ Q) ?_;intro v w1 ab hv;subst hv;replace hw:=Ext.trans hw ab;replace ax:=ax.ext ab;replace bl:=bl.ext ab;replace Q:=Q.ext ab;replace hE:=hE.ext ab;clear ab))
    refine SW.ap bl rfl rfl rfl rfl (cQ (k.h p)) fun w6 bP hg => ?_
    have hG:=bl.gr hg;have Q6:=Q.own hg (Nat.le_trans tq fM) hG rfl;have Bp:=hE.new hg fM;refine Wz ?_;exact ae.fH rfl rfl rfl bP rfl ⟨_,rfl,_,.jO k6 he,p,rfl,Q6,Bp⟩
open Go.RowKit
set_option maxHeartbeats 2000000 in
theorem xJ (h:Heap) (z0 z1:aq) (hd:ll h z0 z1) (hs:h.small) (m:fE) (cp:Int) (li lv:fE) (ls:List bL) (u0 u1:cq) (g c:Nat) (w w0:World) (hw:Ext w w0)
 (hZ:dR w0 w.heap.size g c u0 u1 (z0,z1)) (hR:mV w0 w.heap.size m li lv ls h) :
 gL Tryz.prog 55 [.agg (bm ⟨⟨some ⟨g,0,none⟩,2,c⟩,m,cp,li,lv⟩).toArray] w0 fun v w'=>v = .agg (bm ⟨⟨some ⟨g,0,none⟩,2,c⟩,m,cp,.nil,lv⟩).toArray∧Ext w w'∧G2 w0 w' g g∧mV w' w.heap.size m li lv ls h ∧ ∃ u0 u1,dR w' w.heap.size g c u0 u1 (dp (z0,z1) (aS h.av)):=by
 refine dw Tryz.func55 rfl Tryz.ntmps55 rfl ?_;have L4:w.heap.size≤g:=hZ.yo
 have hE:=G2.refl w0 g g;have ma:=hR.lists.rd.len;have s4:=hs.lists;refine CW.seq (CW.region (SW.box rfl rfl fun b1 w1 aj gK aA => ?_));have I0:w.heap.size≤b1:=Nat.le_trans hw.size gK
 have I1:=gK;(replace hw:=Ext.trans hw aj;replace hZ:=hZ.ext aj;replace hR:=hR.ext aj;replace hE:=hE.ext aj);refine SW.alloc rfl fun b2 w2 cw gQ aK => ?_
 have pH:w.heap.size≤b2:=Nat.le_trans hw.size gQ
 have KX:w0.heap.size≤b2:=Nat.le_trans aj.size gQ
 have cG:b1≠b2:=by have:=aA.lt;omega
 (replace hw:=Ext.trans hw cw;replace aA:=aA.ext cw;replace hZ:=hZ.ext cw;replace hR:=hR.ext cw;replace hE:=hE.ext cw);repeat' (first|refine Wy ?_|fail)
 refine CW.loop (fun t:Nat×cq×cq=>[(1,.pointer (some ⟨b1,0,none⟩)),(2,.pointer (some ⟨b2,0,none⟩)),(3,.int .i64 (t.1:Int))])
  (fun t w'=>t.1≤li.n∧Ext w w'∧G2 w0 w' g g∧aJ w' b1 27 (bm ⟨⟨some ⟨g,0,none⟩,2,c⟩,m,cp,li,lv⟩)∧aJ w' b2 27 (bm .zero)∧dR w' w.heap.size g c t.2.1 t.2.2 (iB h z0 z1 (gz h.av t.1))∧mV w' w.heap.size m li lv ls h) (fun t=>li.n-t.1) (0,u0,u1)
  ⟨rfl,rfl,rfl,trivial⟩ ⟨by omega,hw,hE,aA,aK,by simpa [iB,gz,aS,dp] using hZ,hR⟩ ?_
 clear hw hE aA aK hZ hR gK gQ;rintro ⟨i,u0,u1⟩ w' ⟨hi,hw,hE,aA,aK,hZ,hR⟩
 simp only at hi hZ ⊢;by_cases cf:i<li.n
 ·have kE:i<h.av.length:=by omega
  have ln:i<ls.length:=by omega
  have sB:=(hR.lists.each.get i ln kE).cr.sl.len;have JX:=hs.cr _ (List.getElem_mem kE);repeat' (first|refine Wy ?_|refine SW.st (ak rfl (aA.cell (i:=3) (v := .slice li.A li.n li.c) rfl)) rfl ?_)
  refine CW.loop (fun t:Nat×cq×cq=>[(1,.pointer (some ⟨b1,0,none⟩)),(2,.pointer (some ⟨b2,0,none⟩)),(3,.int .i64 (i:Int)),(4,.int .i64 (t.1:Int))])
   (fun t w'=>t.1≤ls[i].aw.n∧Ext w w'∧G2 w0 w' g g∧aJ w' b1 27 (bm ⟨⟨some ⟨g,0,none⟩,2,c⟩,m,cp,li,lv⟩)∧aJ w' b2 27 (bm .zero)∧dR w' w.heap.size g c t.2.1 t.2.2 (iB h z0 z1 (gz h.av i+t.1))∧mV w' w.heap.size m li lv ls h) (fun t=>ls[i].aw.n-t.1) (0,u0,u1)
   ⟨rfl,rfl,rfl,rfl,trivial⟩ ⟨by omega,hw,hE,aA,aK,hZ,hR⟩ ?_
  clear hw hE aA aK hZ hR;rintro ⟨j,u0,u1⟩ w' ⟨hj,hw,hE,aA,aK,hZ,hR⟩
  simp only at hj hZ ⊢;have zR:=hR.lists.each.get i ln kE;have ue:=zR.cr.sl.base;have hA:=hR.lists.row.sl.base;have f3:=hR.lists.row.sl.dv cf (j:=3) (u := .slice ls[i].aw.A ls[i].aw.n ls[i].aw.c) rfl;by_cases iZ:j<ls[i].aw.n
  ·have kO:j<h.av[i].aw.length:=by omega
   obtain ⟨hK,KJ⟩:=zN kE kO;have hN:=hd.next hK;have hD:=hd.inv (gz h.av i+j) (by omega);have hT:=lQ (z0,z1) (aS h.av) _ hK;rw [KJ] at hN hT;have D6:iB h z0 z1 (gz h.av i+(j+1))=iA (iB h z0 z1 (gz h.av i+j)) (cX h.av[i].aw[j]):=hT
   repeat' (first|refine Wy ?_|refine SW.st (ak rfl (aA.cell (i:=3) (v := .slice li.A li.n li.c) rfl)) rfl ?_|refine SW.st (ak rfl f3) rfl ?_)
   refine CW.any 10 mixed (cl (by kernel_rfl)) rfl fun w1 ab aG => ?_
   replace hw:=Ext.trans hw ab;replace aA:=aA.ext ab;replace aK:=aK.ext ab;replace hZ:=hZ.ext ab;replace hR:=hR.ext ab;replace hE:=hE.ext ab;clear ab;refine SA.take 0 aG rfl (by kernel_rfl) (by kernel_rfl) rfl ?_;repeat ((show SW _ _ _ _ (⟨_,Op.load _ _,_,_,_,none⟩::_) _ _;refine SW.st (aX rfl rfl ((fun _ _=>aA.cell))) rfl ?_))
   refine SW.ah ?_;refine SA.take 1 aG rfl (by kernel_rfl) (by kernel_rfl) rfl ?_;repeat ((show SW _ _ _ _ (⟨_,Op.fieldAddr _ _ _,_,_,_,none⟩::_) _ _;refine SW.st (aC rfl) rfl ?_))
   refine SW.ah ?_;refine SA.take 2 aG rfl (by kernel_rfl) (by kernel_rfl) rfl ?_;repeat ((show SW _ _ _ _ (⟨_,Op.load _ _,_,_,_,none⟩::_) _ _;refine SW.st (ak rfl (aA.cell (i:=3) (v := .slice li.A li.n li.c) rfl)) rfl ?_))
   refine SW.ah ?_;refine SA.take 3 aG rfl (by kernel_rfl) (by kernel_rfl) rfl ?_;repeat (refine SW.pure rfl rfl ?_)
   refine SW.ah ?_;refine SA.take 4 aG rfl (by kernel_rfl) (by kernel_rfl) rfl ?_;repeat ((show SW _ _ _ _ (⟨_,Op.indexAddr _ _ _,_,_,_,none⟩::_) _ _;refine SW.st (bj rfl rfl (by assumption) (by omega)) rfl ?_))
   refine SW.ah ?_;refine SA.take 5 aG rfl (by kernel_rfl) (by kernel_rfl) rfl ?_;repeat ((show SW _ _ _ _ (⟨_,Op.fieldAddr _ _ _,_,_,_,none⟩::_) _ _;refine SW.st (aC rfl) rfl ?_))
   refine SW.ah ?_;refine SA.take 6 aG rfl (by kernel_rfl) (by kernel_rfl) rfl ?_;repeat ((show SW _ _ _ _ (⟨_,Op.load _ _,_,_,_,none⟩::_) _ _;refine SW.st (ak rfl (hR.lists.row.sl.dv cf (j:=3) (u := .slice ls[i].aw.A ls[i].aw.n ls[i].aw.c) rfl)) rfl ?_))
   refine SW.ah ?_;refine SA.take 7 aG rfl (by kernel_rfl) (by kernel_rfl) rfl ?_;repeat (refine SW.pure rfl rfl ?_)
   refine SW.ah ?_;refine SA.take 8 aG rfl (by kernel_rfl) (by kernel_rfl) rfl ?_;repeat ((show SW _ _ _ _ (⟨_,Op.indexAddr _ _ _,_,_,_,none⟩::_) _ _;refine SW.st (bj rfl rfl (by assumption) (by omega)) rfl ?_))
   refine SW.ah ?_;refine SA.take 9 aG rfl (by kernel_rfl) (by kernel_rfl) rfl ?_;repeat ((show SW _ _ _ _ (⟨_,Op.load _ _,_,_,_,none⟩::_) _ _;refine SW.st (ak rfl ((hR.lists.each.get i ln kE).cr.sl.one iZ rfl)) rfl ?_))
   refine SW.ah ?_;refine SA.done (by kernel_rfl) ?_;refine SW.cV rfl rfl (vw m cp li lv u0 u1 _ _ (cX h.av[i].aw[j]) w.heap.size g c _ hZ hw.size hD hN) fun v w5 hv => ?_
   obtain ⟨rfl,hg,u2,u3,BE⟩:=hv;have hG:=hZ.gr hg;replace hw:=hw.own L4 hg;replace hE:=hE.Gn hg;replace aA:=aA.ay hG rfl;replace aK:=aK.ay hG rfl;replace hR:=hR.ay hG rfl;refine SW.ap aA rfl rfl rfl rfl (cQ ⟨⟨some ⟨g,0,none⟩,2,c⟩,m,cp,li,lv⟩) fun w6 pd wC => ?_
   have Mk:=aA.gr wC;replace hw:=hw.own I0 wC;replace hE:=hE.new wC I1;replace BE:=BE.ay Mk rfl;replace hR:=hR.ay Mk rfl;replace aK:=aK.grown wC (by simpa using Ne.symm cG);repeat' (first|refine Wy ?_|fail);refine ae.again (j+1,u2,u3) ⟨rfl,rfl,rfl,rfl,trivial⟩ (by simp only;omega) ⟨by simp only;omega,hw,hE,pd,aK,?_,hR⟩;simp only;rw [D6];exact BE
  ·have ej:gz h.av i+j=gz h.av (i+1):=by rw [sw kE];omega
   rw [ej] at hZ;repeat' (first|refine Wy ?_|refine SW.st (ak rfl (aA.cell (i:=3) (v := .slice li.A li.n li.c) rfl)) rfl ?_|refine SW.st (ak rfl f3) rfl ?_)
   exact ae.again (i+1,u0,u1) ⟨rfl,rfl,rfl,trivial⟩ (by simp only;omega) ⟨by simp only;omega,hw,hE,aA,aK,hZ,hR⟩
 ·have ei:i=h.av.length:=by omega
  have GC:iB h z0 z1 (gz h.av i)=dp (z0,z1) (aS h.av):=by
   rw [ei,vt,iB,List.take_of_length_le (Nat.le_refl _)]
  rw [GC] at hZ;repeat' (first|refine Wy ?_|refine SW.st (ak rfl (aA.cell (i:=3) (v := .slice li.A li.n li.c) rfl)) rfl ?_)
  refine SW.bB (i:=3) aA rfl rfl rfl rfl fun w6 pd hg => ?_
  have hG:=aA.gr hg;replace hw:=hw.own I0 hg;replace hE:=hE.new hg I1;replace aK:=aK.grown hg (by simpa using Ne.symm cG);replace hR:=hR.ay hG rfl;replace hZ:=hZ.ay hG rfl;repeat' (first|refine Wy ?_|refine SW.st (aX rfl rfl ((fun _ _=>pd.cell))) rfl ?_)
  refine SW.ap aK rfl rfl rfl rfl (cQ ⟨⟨some ⟨g,0,none⟩,2,c⟩,m,cp,.nil,lv⟩) fun w7 bP hg => ?_
  have hG:=aK.gr hg;replace hw:=hw.own pH hg;repeat' (first|refine Wy ?_|fail);exact ae.me rfl rfl bP rfl ⟨_,rfl,rfl,hw,hE.new hg KX,hR.ay hG rfl,u0,u1,hZ.ay hG rfl⟩
open Go.RowKit
inductive kZ (h:Heap) (cpu o t f:Int) (z0 z1:aq) : Nat→Int→aq×aq→List aB→Prop
 | start:kZ h cpu o t f z0 z1 0 (-1) (z0,z1) h.av
 | Ds (ha:ik (bQ h 0) (bQ h 1) cpu o t f (z0,z1) h.av none) : kZ h cpu o t f z0 z1 1 (-1) (z0,z1) h.av
 | Hi {r:(aq×aq)×List aB×Int} (ha:ik (bQ h 0) (bQ h 1) cpu o t f (z0,z1) h.av (some r)) : kZ h cpu o t f z0 z1 1 r.2.2 r.1 r.2.1
 | Dt (ha:ik (bQ h 0) (bQ h 1) cpu o t f (z0,z1) h.av none) (h2:ik (bQ h 0) (bQ h 1) cpu o t f (dp (z0,z1) (aS h.av)) [] none) : kZ h cpu o t f z0 z1 2 (-1) (dp (z0,z1) (aS h.av)) []
 | Hj {r:(aq×aq)×List aB×Int} (ha:ik (bQ h 0) (bQ h 1) cpu o t f (z0,z1) h.av none) (h2:ik (bQ h 0) (bQ h 1) cpu o t f (dp (z0,z1) (aS h.av)) [] (some r)) : kZ h cpu o t f z0 z1 2 r.2.2 r.1 r.2.1
structure v5 (h:Heap) (cpu o t f:Int) (z0 z1:aq) (j:Nat) (s:aq×aq) (L:List aB) : Prop where
 vs:VS s
 yy:rz L
 cr:∀ l∈L,1≤l.aw.length∧l.aw.length≤8
 count:L.length≤256
 pos:∀ r,ik (bQ h 0) (bQ h 1) cpu o t f s L (some r)→0≤r.2.2
 next:∀ q,ik (bQ h 0) (bQ h 1) cpu o t f s L q→kZ h cpu o t f z0 z1 (j+1) (GV q) (C3 s q) (Bf L q)
theorem uX {h:Heap} {cpu o t f:Int} {z0 z1:aq} (F:mg h z0 z1) : v5 h cpu o t f z0 z1 0 (z0,z1) h.av :=
 ⟨F.d.start.vs,F.yy,F.lists,F.count,fun r hr=>by obtain ⟨i,e,_⟩:=nv F (hr.found F.d.start.vs).2;omega,fun q hq=>by cases q with
  | none=>exact .Ds hq
  | some r=>exact .Hi hq⟩
theorem Bq {h:Heap} {cpu o t f:Int} {z0 z1:aq} (F:mg h z0 z1) (ha:ik (bQ h 0) (bQ h 1) cpu o t f (z0,z1) h.av none) : v5 h cpu o t f z0 z1 1 (dp (z0,z1) (aS h.av)) [] :=
 ⟨(fY F.d).vs,List.Pairwise.nil,fun l hl=>by simp at hl,by simp,fun r hr=>by obtain ⟨i,e,_⟩:=lZ F (hr.found (fY F.d).vs).2;omega,fun q hq=>by cases q with
  | none=>exact .Dt ha hq
  | some r=>exact .Hj ha hq⟩
theorem kZ.done {h:Heap} {cpu o f:Int} {z0 z1:aq} (hq:iK h=true) (hc:(0≤cpu∧cpu<h.bW)∧0≤o∧o≤4) (ht : 0≤dH f) (F:mg h z0 z1) {j:Nat} {a:Int} {s:aq×aq} {L:List aB} (R:kZ h cpu o (dH f) f z0 z1 j a s L) (hj : ¬ (j<2∧a<0)) :
 (a = -1∧dP h cpu o f (.zero,0,6))∨((0≤a∧a<256)∧(∀ b∈h.Live,b.At≠a)∧dP h cpu o f (kV h s L (gB h a o (dH f)),a,0)):=by
 cases R with
 | start=>omega
 | Ds=>omega
 | Hi ha =>
   obtain ⟨i,e,hi,Dc⟩:=nv F (ha.found F.d.start.vs).2;exact .inr ⟨by omega,F.zX e Dc,.once hq hc ht F.d.cK ha⟩
 | Dt ha h2=>exact .inl ⟨rfl,.room hq hc ht F.d.cK ha h2⟩
 | Hj ha h2 =>
   obtain ⟨i,e,hi,Dc⟩:=lZ F (h2.found (fY F.d).vs).2;exact .inr ⟨by omega,F.zX e Dc,.nb hq hc ht F.d.cK ha h2⟩
set_option maxHeartbeats 8000000 in
theorem ug (r:ez) (h:Heap) (cpu o f:Int) (w:World) (hr:v9 w r h) (hs:h.small) (CH:∀ z∈h.aQ,qC z) :
 bt Tryz.prog 30 [.agg (bm r).toArray,.int .i64 cpu,.int .i64 o,.int .i64 f] w fun v w' => ∃ u,dP h cpu o f u∧fA w.heap.size u v w':=by
 refine aL Tryz.func30 rfl Tryz.ntmps30 rfl ?_;refine CW.seq (CW.region (SW.box rfl rfl fun b4 w1 hw ml bX => ?_));refine SW.alloc rfl fun b8 w2 cw kR bu => ?_
 have jl:w.heap.size≤b8:=Nat.le_trans hw.size kR
 replace bu:aJ w2 b8 27 (bm .zero):=bu;(replace hw:=Ext.trans hw cw;replace bX:=bX.ext cw);have eC:=hr.dU;obtain ⟨q,hq⟩ : ∃ q,iK h=q:=⟨_,rfl⟩
 have c1:∀ w',Ext w w'→bt Tryz.prog 51 [.agg (bm r).toArray] w' fun v _=>v = .bool q:=fun w' hx=>by
  have:=xg r h w' (hr.ext hx) hs CH
  rwa [hq] at this
 cases q
 ·repeat' (first|refine Wz ?_|(refine CW.bF rfl ?_)|(refine SW.call rfl rfl (c1 _ hw) ?_;intro v w1 ab hv;subst hv;replace hw:=Ext.trans hw ab;replace bX:=bX.ext ab;replace bu:=bu.ext ab;clear ab))
  refine SW.ap bu rfl rfl rfl rfl (cQ .zero) fun w5 bP hg => ?_
  replace hw:=hw.own jl hg;refine Wz ?_;exact ae.dl rfl rfl rfl rfl bP rfl ⟨_,rfl,hw,_,.bad hq,fA.zero 8 _ _⟩
 ·have hm:=ia.1 hq;obtain ⟨z0,z1,F⟩:=lq hm;have Cf:=hm.dU;by_cases hc:(0≤cpu∧cpu<h.bW)∧0≤o∧o≤4
  ·obtain ⟨t,y6⟩ : ∃ t,dH f=t:=⟨_,rfl⟩
   have c2:∀ w',bt Tryz.prog 54 [.int .i64 f] w' fun v _=>v = .int .i64 t:=fun w'=>by
    have:=uc f w'
    rwa [y6] at this
   by_cases ht : 0≤t
   ·have Hc : 0≤dH f:=by rw [y6];exact ht
    obtain ⟨hf,nn⟩:=xu Hc;repeat' (first|refine Wz ?_|(refine CW.bA rfl ?_)|((first|refine SW.call rfl rfl (c1 _ hw) ?_|refine SW.call rfl rfl (c2 _) ?_|refine SW.call rfl rfl (bM _ _ _ _) ?_);intro v w1 ab hv;subst hv;replace hw:=Ext.trans hw ab;replace bX:=bX.ext ab;replace bu:=bu.ext ab;clear ab))
    all_goals try omega
    refine SW.call rfl rfl (jM r h _ (hr.ext hw) hs) fun v w4 iG hv => ?_
    obtain ⟨s,rfl,Da⟩:=hv;replace Da:=Da.low hw.size;(replace hw:=Ext.trans hw iG;replace bX:=bX.ext iG;replace bu:=bu.ext iG);clear c1 c2;obtain ⟨g,c,u0,u1,ls,eZ,hZ,hR⟩:=Da.split F.d.cK;have GD:=Da.dU;clear Da;obtain ⟨sz,m,cp,li,lv⟩:=s;simp only at eZ hR GD;subst eZ;skip;have Ml:=bu.lt;refine SW.alloc rfl fun qI w1 ab nW bl => ?_
    skip;refine SW.ap bl rfl rfl rfl rfl (cQ ⟨⟨some ⟨g,0,none⟩,2,c⟩,m,cp,li,lv⟩) fun w2 fy hg => ?_
    have aj:=ab.own nW hg;have fM:w.heap.size≤qI:=Nat.le_trans hw.size nW
    replace hw:=Ext.trans hw aj;replace bX:=bX.ext aj;replace bu:=bu.ext aj;replace hZ:=hZ.ext aj;replace hR:=hR.ext aj;replace bl:=fy;clear fy ab hg aj;have tr:b8≠qI:=by omega
    have Q:RQ w w2 ⟨qI,g,c,m,lv,cp,h.bH,h.Live⟩ ⟨u0,u1,li,ls⟩ (z0,z1) h.av:=⟨hZ,hR.cj,hR.live,hR.lists,hw⟩
    obtain ⟨k,hk⟩ : ∃ k:HK,k=⟨qI,g,c,m,lv,cp,h.bH,h.Live⟩:=⟨_,rfl⟩;obtain ⟨p0,Hn⟩ : ∃ p:HP,p=⟨u0,u1,li,ls⟩:=⟨_,rfl⟩;have fy:aJ w2 qI 27 (bm (k.h p0)):=by rw [hk,Hn];exact bl
    rw [← hk,← Hn] at Q;have EE:k.V=h.Live:=by rw [hk]
    have Fo:k.M=h.bH:=by rw [hk]
    have Ju:k.cp=h.bW:=by rw [hk];exact GD
    clear bl bX hZ hR hk Hn GD;have Ho:nV k.M (bQ h 0) (bQ h 1):=by rw [Fo];exact xD hm
    have Kx:f.tmod 2=f % 2:=Int.tmod_eq_emod_of_nonneg (by omega)
    have ma:=ta F;refine Wz ?_
    refine CW.loop (fun v:Nat×Int×HP×(aq×aq)×List aB=>[(1,.int .i64 cpu),(2,.int .i64 o),(3,.int .i64 f),(8,.pointer (some ⟨b8,0,none⟩)),(11,.int .i64 t),(12,.pointer (some ⟨qI,0,none⟩)),(13,.int .i64 v.2.1),(14,.int .i64 (v.1:Int))])
     (fun v w'=>v.1≤2∧kZ h cpu o t f z0 z1 v.1 v.2.1 v.2.2.2.1 v.2.2.2.2∧RQ w w' k v.2.2.1 v.2.2.2.1 v.2.2.2.2∧aJ w' b8 27 (bm .zero)∧aJ w' qI 27 (bm (k.h v.2.2.1))) (fun v=>2-v.1) (0,-1,p0,(z0,z1),h.av)
     ⟨rfl,rfl,rfl,rfl,rfl,rfl,rfl,rfl,trivial⟩ ⟨by simp only;omega,.start,Q,bu,fy⟩ ?_
    clear hw Q bu fy;rintro ⟨j,a,p1,s1,L1⟩ w' ⟨hj,Hr,Q,bu,bl⟩
    simp only at hj Hr Q bl ⊢;have hw:=Ext.refl w';by_cases KY:j<2∧a<0
    ·have cy:(j=0∧s1=(z0,z1)∧L1=h.av)∨(j=1∧s1=(z0,z1)∧L1=h.av∧ik (bQ h 0) (bQ h 1) cpu o t f (z0,z1) h.av none):=by
      cases Hr with
      | start=>exact .inl ⟨rfl,rfl,rfl⟩
      | Ds ha=>exact .inr ⟨rfl,rfl,rfl,ha⟩
      | Hi ha=>have:=(uX F).pos _ ha;omega
      | Dt=>omega
      | Hj=>omega
     clear Hr;have OH:=KY.1;have OI:=KY.2;rcases cy with ⟨vk,rfl,rfl⟩|⟨Iy,rfl,rfl,Mm⟩
     focus
      have RS:v5 h cpu o t f z0 z1 j (z0,z1) h.av:=by rw [vk];exact uX F
      obtain ⟨s1,tE⟩ : ∃ s1,(z0,z1)=s1:=⟨_,rfl⟩;obtain ⟨L1,I2⟩ : ∃ L1,h.av=L1:=⟨_,rfl⟩;rw [tE,I2] at Q RS;have N1:(j:Int)≠1:=by omega
      clear tE I2 vk
     rotate_left
     focus
      have RS:v5 h cpu o t f z0 z1 j (dp (z0,z1) (aS h.av)) []:=by rw [Iy];exact Bq F Mm
      have zZ:b8≠k.g:=fun e=>Q.zs.row.dh bu rfl (by rw [Q.zs.own,e])
      have v7:qI≠k.g:=fun e=>Q.zs.row.dh bl rfl (by rw [Q.zs.own,e])
      refine Wz ?_;refine SW.cV rfl rfl (xJ h z0 z1 F.d hs k.m k.cp p1.li k.lv p1.ls p1.u0 p1.u1 k.g k.c w _ Q.base Q.zs ⟨by rw [← Fo];exact Q.cj,by rw [← EE];exact Q.live,Q.ls⟩) fun v w6 hv => ?_
      obtain ⟨rfl,KQ,hE,KZ,u2,u3,BE⟩:=hv;replace bu:=hE.cU bu zZ zZ;replace bl:=hE.cU bl v7 v7;have Q2:RQ w w6 k ⟨u2,u3,.nil,[]⟩ (dp (z0,z1) (aS h.av)) []:=⟨BE,by rw [Fo];exact KZ.cj,by rw [EE];exact KZ.live,cJ.nil _ _,KQ⟩
      clear Q hw KZ BE hE;have hw:=Ext.refl w6;skip;refine SW.ap bl rfl rfl rfl rfl (cQ (k.h ⟨u2,u3,.nil,[]⟩)) fun w7 fy hg => ?_
      have hG:=bl.gr hg;have Q:=Q2.own hg fM hG rfl;replace bu:=bu.grown hg (by simpa using tr);replace bl:aJ w7 qI 27 (bm (k.h ⟨u2,u3,.nil,[]⟩)):=fy;clear fy hg hG hw Q2;have hw:=Ext.refl w7;obtain ⟨p1,EU⟩ : ∃ p1:HP,(⟨u2,u3,.nil,[]⟩ : HP)=p1:=⟨_,rfl⟩;rw [EU] at Q bl;obtain ⟨s1,tE⟩ : ∃ s1,dp (z0,z1) (aS h.av)=s1:=⟨_,rfl⟩;obtain ⟨L1,I2⟩ : ∃ L1:List aB,[]=L1:=⟨_,rfl⟩;rw [tE,I2] at Q RS;have N1:(j:Int)=1:=by omega
      clear tE I2 Iy Mm EU
     all_goals
      obtain ⟨K4,tE,GX,Du,kN,jF⟩:=RS;have zZ:b8≠k.g:=fun e=>Q.zs.row.dh bu rfl (by rw [Q.zs.own,e])
      have v7:qI≠k.g:=fun e=>Q.zs.row.dh bl rfl (by rw [Q.zs.own,e])
      by_cases Hm:f % 2=0
      ·refine Wz ?_;refine SW.cV rfl rfl (qp k p1 s1 L1 _ _ cpu 1 o t f w _ Q Ho K4 tE GX Du (by decide) hc.2 hf) fun v w6 xA => ?_
       obtain ⟨q1,rE,p2,rfl,Q2,AE⟩:=xA;replace bu:=AE.cU bu zZ zZ;replace bl:=AE.cU bl v7 v7;clear hw;have hw:=Ext.refl w6;refine Wz ?_;refine SW.ap bl rfl rfl rfl rfl (cQ (k.h p2)) fun w7 fy hg => ?_
       have hG:=bl.gr hg;replace Q2:=Q2.own hg fM hG rfl;replace bu:=bu.grown hg (by simpa using tr);replace bl:=fy;clear fy hg hG hw;have hw:=Ext.refl w7;cases q1 with
       | some r1 =>
         have Br:ik (bQ h 0) (bQ h 1) cpu o t f s1 L1 (some r1) := .vr Hm rE
         have hp:=kN _ Br;have K9:GV (some r1)=r1.2.2:=rfl
         simp only [K9];refine Wz ?_;all_goals try omega
         exact ae.again (j+1,GV (some r1),p2,C3 s1 (some r1),Bf L1 (some r1)) ⟨rfl,rfl,rfl,rfl,rfl,rfl,rfl,rfl,trivial⟩ (by simp only;omega) ⟨by simp only;omega,jF _ Br,Q2,bu,bl⟩
       | none =>
         have E3:=rE;clear rE;simp only [C3,Bf] at Q2;have K9:GV none = -1:=rfl
         simp only [K9];refine Wz ?_;refine SW.cV rfl rfl (qp k p2 s1 L1 _ _ cpu 0 o t f w _ Q2 Ho K4 tE GX Du (by decide) hc.2 hf) fun v w6 xA => ?_
         obtain ⟨q1,rE,p3,rfl,Q3,AE⟩:=xA;replace bu:=AE.cU bu zZ zZ;replace bl:=AE.cU bl v7 v7;clear hw;have hw:=Ext.refl w6;refine Wz ?_;refine SW.ap bl rfl rfl rfl rfl (cQ (k.h p3)) fun w7 fy hg => ?_
         have hG:=bl.gr hg;replace Q3:=Q3.own hg fM hG rfl;replace bu:=bu.grown hg (by simpa using tr);replace bl:=fy;clear fy hg hG hw;have hw:=Ext.refl w7;have Br:ik (bQ h 0) (bQ h 1) cpu o t f s1 L1 q1 := .low (fun _=>E3) rE
         refine Wz ?_;exact ae.again (j+1,GV q1,p3,C3 s1 q1,Bf L1 q1) ⟨rfl,rfl,rfl,rfl,rfl,rfl,rfl,rfl,trivial⟩ (by simp only;omega) ⟨by simp only;omega,jF _ Br,Q3,bu,bl⟩
      ·refine Wz ?_;refine SW.cV rfl rfl (qp k p1 s1 L1 _ _ cpu 0 o t f w _ Q Ho K4 tE GX Du (by decide) hc.2 hf) fun v w6 xA => ?_
       obtain ⟨q1,rE,p2,rfl,Q2,AE⟩:=xA;replace bu:=AE.cU bu zZ zZ;replace bl:=AE.cU bl v7 v7;clear hw;have hw:=Ext.refl w6;refine Wz ?_;refine SW.ap bl rfl rfl rfl rfl (cQ (k.h p2)) fun w7 fy hg => ?_
       have hG:=bl.gr hg;replace Q2:=Q2.own hg fM hG rfl;replace bu:=bu.grown hg (by simpa using tr);replace bl:=fy;clear fy hg hG hw;have hw:=Ext.refl w7;have Br:ik (bQ h 0) (bQ h 1) cpu o t f s1 L1 q1 := .low (fun e=>absurd e Hm) rE
       refine Wz ?_;exact ae.again (j+1,GV q1,p2,C3 s1 q1,Bf L1 q1) ⟨rfl,rfl,rfl,rfl,rfl,rfl,rfl,rfl,trivial⟩ (by simp only;omega) ⟨by simp only;omega,jF _ Br,Q2,bu,bl⟩
    ·have hD:=kZ.done hq hc Hc F (by rw [y6];exact Hr) KY;rw [y6] at hD;rcases hD with ⟨ha,GG⟩|⟨ha,cG,GG⟩
     ·refine Wz ?_;all_goals try omega
      all_goals
       refine SW.ap bu rfl rfl rfl rfl (cQ .zero) fun w5 bP hg => ?_
       replace hw:=Q.base.own jl hg;refine Wz ?_;exact ae.dl rfl rfl rfl rfl bP rfl ⟨_,rfl,hw,_,GG,fA.zero 6 _ _⟩
     ·have N2:=Q.live.len;rw [EE] at N2;have hV:=Q.live;rw [EE] at hV;have hZ:=Q.zs;have hM:=Q.cj;rw [Fo] at hM;have hL:=Q.ls;have tC:=Q.base;have N3:aV h.Live (B6 h.Live a) ⟨a,o,t⟩=gB h a o t:=by unfold gB;rw [B7 cG]
      rcases (show j<2 ∨ ¬ j<2 by omega) with N4|N4
      all_goals
       refine Wz ?_;refine SW.call rfl rfl (kQ k.lv.A k.lv.n k.lv.c h.Live ⟨a,o,t⟩ _ hV.sl (by omega)) fun v w9 aj hv => ?_
       obtain ⟨B,c',rfl,hB⟩:=hv;replace hB:=hB.low tC.size;simp only [N3] at hB;replace tC:=tC.trans aj;(replace hw:=Ext.trans hw aj;replace bu:=bu.ext aj;replace bl:=bl.ext aj;replace hZ:=hZ.ext aj;replace hM:=hM.ext aj;replace hL:=hL.ext aj);refine Wz ?_;refine SW.bB (i:=4) bl rfl rfl rfl rfl fun rf fy hg => ?_
       have hG:=bl.gr hg;replace tC:=tC.own fM hg;replace bu:=bu.grown hg (by simpa using tr);(replace hZ:=hZ.ay hG rfl;replace hM:=hM.ay hG rfl;replace hL:=hL.ay hG rfl;replace hB:=hB.ay hG rfl);clear hw;have hw:=Ext.refl rf;replace bl:aJ rf qI 27 (bm ⟨⟨some ⟨k.g,0,none⟩,2,k.c⟩,k.m,k.cp,p1.li,⟨B,k.lv.n+1,c'⟩⟩):=fy;refine Wz ?_;refine SW.ap bu rfl rfl rfl rfl (cQ ⟨⟨some ⟨k.g,0,none⟩,2,k.c⟩,k.m,k.cp,p1.li,⟨B,k.lv.n+1,c'⟩⟩) fun Fp bP hg => ?_
       have hG:=bu.gr hg;replace tC:=tC.own jl hg;(replace hZ:=hZ.ay hG rfl;replace hM:=hM.ay hG rfl;replace hL:=hL.ay hG rfl;replace hB:=hB.ay hG rfl);refine Wz ?_;exact ae.dl rfl rfl rfl rfl bP rfl ⟨_,rfl,tC,_,GG,⟨⟨some ⟨k.g,0,none⟩,2,k.c⟩,k.m,k.cp,p1.li,⟨B,k.lv.n+1,c'⟩⟩,rfl,⟨Ju,hM,hB,⟨[p1.u0,p1.u1],⟨hZ.row,ey.two hZ.z0 hZ.z1⟩⟩,⟨p1.ls,hL⟩⟩⟩
   ·repeat' (first|refine Wz ?_|(refine CW.bA rfl ?_)|((first|refine SW.call rfl rfl (c1 _ hw) ?_|refine SW.call rfl rfl (c2 _) ?_|refine SW.call rfl rfl (bM _ _ _ _) ?_);intro v w1 ab hv;subst hv;replace hw:=Ext.trans hw ab;replace bX:=bX.ext ab;replace bu:=bu.ext ab;clear ab))
    all_goals try omega
    refine SW.ap bu rfl rfl rfl rfl (cQ .zero) fun w5 bP hg => ?_
    replace hw:=hw.own jl hg;refine Wz ?_;exact ae.dl rfl rfl rfl rfl bP rfl ⟨_,rfl,hw,_,.form hq hc (by rw [y6];omega),fA.zero 3 _ _⟩
  ·repeat' (first|refine Wz ?_|(refine CW.bA rfl ?_)|refine SW.ew rfl rfl rfl (fun h => ?_) (fun h => ?_)|((first|refine SW.call rfl rfl (c1 _ hw) ?_|refine SW.call rfl rfl (bM _ _ _ _) ?_);intro v w1 ab hv;subst hv;replace hw:=Ext.trans hw ab;replace bX:=bX.ext ab;replace bu:=bu.ext ab;clear ab))
   all_goals try omega
   all_goals
    refine SW.ap bu rfl rfl rfl rfl (cQ .zero) fun w5 bP hg => ?_
    replace hw:=hw.own jl hg;refine Wz ?_;exact ae.dl rfl rfl rfl rfl bP rfl ⟨_,rfl,hw,_,.range hq hc,fA.zero 1 _ _⟩
open Go.RowKit
theorem Bs (u:dn) (c:bd) (t:Int) (w:World) (hr:BC w u c) (hn:u.au.n≤9223372036854775807) :
 bt Tryz.prog 29 [.agg (db u).toArray,.int .i64 t] w fun v _=>v = .bool (decide (t∈c.au)):=by
 refine aL Tryz.func29 rfl Tryz.ntmps29 rfl ?_;refine CW.seq (CW.region (SW.box rfl rfl fun b2 w1 hw gQ aK => ?_));have hA:=hr.a9.base;have ma:=hr.a9.len;have hl:=hr.a9;refine Wz ?_
 refine CW.loop (fun k:Nat=>[(1,.int .i64 t),(2,.pointer (some ⟨b2,0,none⟩)),(5,.int .i64 (k:Int))]) (fun k w'=>k≤u.au.n∧Ext w w'∧aJ w' b2 46 (db u) ∧ ∀ (i:Nat) (h:i<c.au.length),i<k→c.au[i]≠t)
  (fun k=>u.au.n-k) 0 ⟨rfl,rfl,rfl,trivial⟩ ⟨by omega,hw,aK,fun i h hi=>by omega⟩ ?_
 clear hw aK;rintro k w' ⟨hk,hw,aK,hI⟩
 by_cases bY:k<u.au.n
 ·have de:k<c.au.length:=by omega
  by_cases hx:c.au[k]=t
  ·repeat' (first|refine Wz ?_|refine SW.st (ao hw rfl (hl.one bY (congrArg bh (rfl:c.au[k]=c.au[k])))) rfl ?_)
   all_goals try omega
   exact ae.aN rfl rfl ⟨_,rfl,hw,by rw [decide_eq_true (hx ▸ List.getElem_mem de)]⟩
  ·repeat' (first|refine Wz ?_|refine SW.st (ao hw rfl (hl.one bY (congrArg bh (rfl:c.au[k]=c.au[k])))) rfl ?_)
   all_goals try omega
   refine ae.again (k+1) ⟨rfl,rfl,rfl,trivial⟩ (by omega) ⟨by omega,hw,aK,fun i h' hi => ?_⟩;by_cases zv:i=k
   ·subst zv;exact hx
   ·exact hI i h' (by omega)
 ·refine Wz ?_;refine ae.aN rfl rfl ⟨_,rfl,hw,?_⟩;rw [decide_eq_false];intro hm;obtain ⟨i,hi,e⟩:=List.getElem_of_mem hm;exact hI i hi (by omega) e
end Go.Proofs.YtjimadiidbkohaaGreatDoor
