/-
  Texts of the claim TopRoom, part 7: what its theorem leans on.
-/
import Derived.Test.YtbidkghlpijecaaGreatDoorPackTopRoom6
import Derived.Test.YtbidkghlpijecaaGreatDoorPackTopRoom5
import Derived.Test.YtbidkghlpijecaaGreatDoorPackTopRoom2
import Derived.Test.YtbidkghlpijecaaGreatDoorRows
import Derived.ProofKit
import Derived.LaidMore
import Derived.OpenShut
import Derived.Stop.Joined
import Derived.Test.YtbidkghlpijecaaGreatDoorPackTopRoom1
import Derived.Lib.ConvBytes
import Derived.Laws.Strings
set_option linter.unusedVariables false
set_option linter.unusedSimpArgs false
namespace Go.Proofs.YtbidkghlpijecaaGreatDoor
open Go.RowKit
section
variable {P:Program} {L:Env} {w:World} {d:Option Nat} {T:TypeId} {pos:String} {af:Array Edge} {g:Option (Nat×Bool)}
theorem oU {t e:TypeId} {len:Nat} [c:uy P t len e 1] [fP P e] {x y:Operand} {vs:List Value} {i:Int} {v:Value} (k:Nat) (hx:bF L x=some (.agg vs.toArray)) (hy:bF L y=some (.int .i64 i)) (hi:i=(k:Int)) (hk:k<len) (hv:vs[k]?=some v) :
 St P ⟨d,.index t x y,T,pos,af,g⟩ L w v :=
 ⟨fun _ a ha w' _=>by
  subst hi;have e1:=ha.eval hx;have e2:=ha.eval hy;generalize a.eval = ρ at *
  simp [execOp,e1,e2,Instr.index,asIntOf,run_underlying c.kz,run_sizeOf c.size,hk,part,nN,hv]⟩
end
theorem DC (o t:Int) (b4 b5:Nat) (x:Block) (w:World) (h4:aT w b4 3 [.int .i64 o]) (h5:aT w b5 3 [.int .i64 t]) :
 bl Tryz.prog 275 ([.agg (aA x).toArray]++[.pointer (some ⟨b4,0,none⟩),.pointer (some ⟨b5,0,none⟩)]) w fun v _=>v = .bool (mL o t x):=by
 refine aD Tryz.func275 rfl Tryz.ntmps275 rfl ?_;refine CW.seq (CW.region (SW.box rfl rfl fun b1 w1 hw gX aB => ?_));replace h4:=h4.ext hw;replace h5:=h5.ext hw;have L9:=h4.cell (i:=0) (v := .int .i64 o) rfl;have NW:=h5.cell (i:=0) (v := .int .i64 t) rfl;rw [add_zero] at L9 NW;by_cases h1:x.Order=o
 ·repeat' (first|refine Wz ?_|refine SW.st (ax rfl L9) rfl ?_|refine SW.st (ax rfl NW) rfl ?_)
  exact ae.aI rfl rfl ⟨_,rfl,hw,by simp [mL,h1]⟩
 ·repeat' (first|refine Wz ?_|refine SW.st (ax rfl L9) rfl ?_)
  exact ae.aI rfl rfl ⟨_,rfl,hw,by simp [mL,h1]⟩
theorem zm (r:bU) (l:List Block) (o t:Int) (w:World) (hl:Sl w 3 aA r.ag.A r.ag.n l) (hn:r.ag.n≤9223372036854775807) :
 bl Tryz.prog 264 [.agg (bG r).toArray,.int .i64 o,.int .i64 t] w fun v _=>v = .int .i64 (idxOf (mL o t) l):=by
 refine aD Tryz.func264 rfl Tryz.ntmps264 rfl ?_;refine CW.seq (CW.region (SW.box rfl rfl fun b3 w1 hw bL aq => ?_));refine SW.Dg rfl rfl rfl fun b4 w2 bo je aQ => ?_
 (replace hw:=Ext.trans hw bo;replace aq:=aq.ext bo);refine SW.Dg rfl rfl rfl fun b5 w3 iN ig bw => ?_
 (replace hw:=Ext.trans hw iN;replace aq:=aq.ext iN;replace aQ:=aQ.ext iN);repeat' (first|refine Wz ?_|(refine SW.st (g9 (vs:=[.pointer (some ⟨b4,0,none⟩),.pointer (some ⟨b5,0,none⟩)]) rfl) rfl ?_))
 refine SW.call rfl rfl (jD _ _ _ _ _ (hl.ext hw) _ [.pointer (some ⟨b4,0,none⟩),.pointer (some ⟨b5,0,none⟩)] (mL o t) (fun x => .agg (aA x).toArray) (fun x=>rfl) (fun x hx w1 j0=>DC o t b4 b5 x w1 (aQ.ext j0) (bw.ext j0)) hn) fun v w4 dz hv => ?_
 subst hv;replace hw:=Ext.trans hw dz;refine Wz ?_;exact ae.aI rfl rfl ⟨_,rfl,hw,rfl⟩
structure kJ (T:TypeId) (w w':World) : Prop where
 out:∀ b cs,aT w b T cs→aT w' b T cs
theorem kJ.refl (T:TypeId) (w:World) : kJ T w w:=⟨fun _ _ h=>h⟩
theorem kJ.ext {T:TypeId} {w w1 w2:World} (h:kJ T w w1) (hx:Ext w1 w2) : kJ T w w2:=⟨fun b cs hb=>(h.out b cs hb).ext hx⟩
theorem kJ.au {T t:TypeId} {w w1 w2:World} (h:kJ T w w1) (hG:tZ w1 w2 t) (cr:Nat.beq t T=false) : kJ T w w2:=⟨fun b cs hb=>(h.out b cs hb).au hG cr⟩
def BI (T:List Int) (i:Nat) (t:Int) (c:Nat) : List Int:=if c=0 then T else if c≤8 then T.set i t else (T.set i t).set (i+1) t
theorem BJ {T:List Int} {i:Nat} {t:Int} {c:Nat} (hc:c<16) : (BI T i t c).set (i+c / 8) t=BI T i t (c+1):=by
 unfold BI;rcases (show c=0∨(1≤c∧c<8)∨c=8∨(8<c∧c<16) by omega) with rfl|h|rfl|h
 ·simp
 ·have e:c / 8=0:=by omega
  rw [if_neg (by omega),if_pos (by omega),if_neg (by omega),if_pos (by omega),e,Nat.add_zero,List.set_set]
 ·simp
 ·have e:c / 8=1:=by omega
  rw [if_neg (by omega),if_neg (by omega),if_neg (by omega),if_neg (by omega),e,List.set_set]
def jH {α:Type} (f : α → α) (l:List α) (j:Nat) : List α := (l.take j).map f++l.drop j
theorem pV {α:Type} {f : α → α} {l:List α} {j:Nat}:(jH f l j).length=l.length:=by simp [jH];omega
theorem uK {α:Type} {f : α → α} {l:List α} {j:Nat} (hj:j<l.length) : (jH f l j)[j]'(by rw [pV];exact hj)=l[j]:=by
 have e:(jH f l j)[j]?=l[j]?:=by
  unfold jH;rw [List.getElem?_append_right (by simp;omega)];have:j-((l.take j).map f).length=0:=by simp;omega
  rw [this,List.getElem?_drop];simp
 rw [List.getElem?_eq_getElem (by rw [pV];exact hj),List.getElem?_eq_getElem hj] at e;exact Option.some.inj e
theorem uL {α:Type} {f : α → α} {l:List α} {j:Nat} (hj:j<l.length) : (jH f l j).set j (f l[j])=jH f l (j+1):=by
 unfold jH;rw [List.set_append_right _ _ (by simp;omega)];have:j-((l.take j).map f).length=0:=by simp;omega
 rw [this,List.take_succ_eq_append_getElem hj,List.map_append,List.drop_eq_getElem_cons hj,List.set_cons_zero];simp
theorem zn {α:Type} {f : α → α} {l:List α} {j:Nat} (hj:j<l.length) (hf:f l[j]=l[j]) : jH f l (j+1)=jH f l j:=by
 rw [← uL hj,hf];have:=uK (f:=f) hj
 rw [← this];exact List.set_getElem_self (by rw [pV];exact hj)
theorem zo {α:Type} {f : α → α} {l:List α}:jH f l 0=l:=by simp [jH]
theorem BK {α:Type} {f : α → α} {l:List α}:jH f l l.length=l.map f:=by simp [jH]
theorem DD {f a o:Int} (hf:f % 16=0) (FJ:f≤a) (h2 : 2≤o) (h4:o≤4) (hm:a % pw o=0) {c:Nat} (hc:(c:Int)<pw o) : (a+c-f) / 8=((((a-f) / 8).toNat+c / 8:Nat) : Int):=by
 rcases dl (show 0≤o by omega) h4 with ⟨e1,e2⟩|⟨e1,e2⟩|⟨e1,e2⟩|⟨e1,e2⟩|⟨e1,e2⟩<;>rw [e2] at hm hc<;>omega
theorem DE {b:Block} (h2 : 2≤b.Order) (h4:b.Order≤4) (hm:b.At % pw b.Order=0) : max (b.At+pw b.Order) (b.At / 8*8+8)=xq b:=by
 unfold xq;rcases dl (show 0≤b.Order by omega) h4 with ⟨e1,e2⟩|⟨e1,e2⟩|⟨e1,e2⟩|⟨e1,e2⟩|⟨e1,e2⟩<;>rw [e2] at hm ⊢<;>split<;>omega
structure DF (base w:World) (r:bU) (z:ab) (b:Block) (t:Int) (w':World) : Prop where
 ext:Ext base w'
 ra:kJ 139 w w'
 free:Own w' base.heap.size 165 3 aA r.ag.A r.ag.n r.ag.c (fF z.ag b t)
 types:Own w' base.heap.size 3 1 bB r.Types.A r.Types.n r.Types.c (gD z b t)
set_option maxHeartbeats 2000000 in
theorem uM (r:bU) (z:ab) (k:Nat) (t:Int) (base w:World) (hB:Ext base w) (hX:Own w base.heap.size 165 3 aA r.ag.A r.ag.n r.ag.c z.ag) (hT:Own w base.heap.size 3 1 bB r.Types.A r.Types.n r.Types.c z.Types)
 (eF:r.aw=z.aw) (hz:aU z) (hk:k<z.ag.length) (hn:r.ag.n≤1000000000000000000) :
 jr Tryz.prog 265 [.agg (bG r).toArray,.int .i64 (k:Int),.int .i64 t] w fun _ w'=>DF base w r z z.ag[k] t w':=by
 refine eG Tryz.func265 rfl Tryz.ntmps265 rfl ?_;obtain ⟨f1,f2,f3,f4,f5⟩:=(hz.cU k hk).1;obtain ⟨o1,o2,o3,o4,o5⟩:=hz.ok;have hlen:=hz.len;have Fe:=hX.len;have I5:=hT.len;have hA:=hX.sl.base;have Ru:=hT.sl.base;have ey:k<r.ag.n:=by omega
 refine CW.seq (CW.region (SW.box rfl rfl fun b3 w1 aa bL aq => ?_));have hw:=Ext.trans hB aa;have hK:kJ 139 w w1:=(kJ.refl _ w).ext aa
 replace hX:=hX.ext aa;replace hT:=hT.ext aa;have cJ:base.heap.size≤b3:=Nat.le_trans hB.size bL
 clear aa bL;obtain ⟨x,hx⟩ : ∃ x,z.ag[k]=x:=⟨_,rfl⟩;rw [hx] at f1 f2 f3 f4 f5 ⊢;have hg:=hX.sl.all ey;simp only [hx] at hg;repeat' (first|refine Wz ?_|refine SW.st (ay rfl rfl hg) rfl ?_)
 refine SW.alloc rfl fun b6 w1 aa Ll az => ?_
 have Ma:base.heap.size≤b6:=Nat.le_trans hw.size Ll
 have Mb:aG r.ag.A r.ag.c≠some b6:=fun e=>by have:=hX.lt_size _ e;omega
 replace hw:=Ext.trans hw aa;replace aq:=aq.ext aa;replace hX:=hX.ext aa;replace hT:=hT.ext aa;replace hK:=hK.ext aa;skip;refine SW.ah az rfl rfl rfl rfl (fu.one (enc:=aA) x) fun w2 de hg => ?_
 have hG:=az.gr hg;replace hw:=hw.own Ma hg;replace hX:=hX.grown hg (.inr Mb);(replace aq:=aq.au hG rfl;replace hT:=hT.au hG rfl;replace hK:=hK.au hG rfl);replace az:=de;clear de hg hG aa Ll;by_cases h2:x.Order<2
 ·refine Wz ?_;exact ae.HN rfl ⟨_,rfl,hw,hK,by rw [fF,if_pos h2];exact hX,by rw [gD,if_pos h2];exact hT⟩
 ·refine Wz ?_;have hp:=bM f1 f2;have NX:∀ c:Nat,(c:Int)<pw x.Order→(x.At+c-z.aw) / 8=((oT z x+c / 8:Nat) : Int):=fun c hc=>DD o4 f3 (by omega) f2 f5 hc
  have cE:∀ w',bl Tryz.prog 230 [.agg (aA x).toArray] w' fun v _=>v = .int .i64 (x.At+pw x.Order):=fun w'=>kC x w' ⟨f1,f2⟩ ⟨by omega,by omega⟩
  refine CW.loop (fun c:Nat=>[(2,.int .i64 t),(3,.pointer (some ⟨b3,0,none⟩)),(6,.pointer (some ⟨b6,0,none⟩)),(7,.int .i64 (x.At+(c:Int)))])
   (fun c w'=>(c:Int)≤pw x.Order∧Ext base w'∧kJ 139 w w'∧aT w' b3 139 (bG r)∧aT w' b6 165 (aA x)∧Own w' base.heap.size 165 3 aA r.ag.A r.ag.n r.ag.c z.ag∧Own w' base.heap.size 3 1 bB r.Types.A r.Types.n r.Types.c (BI z.Types (oT z x) t c))
   (fun c=>(pw x.Order).toNat-c) 0 ⟨rfl,rfl,rfl,congrArg (fun z=>some (Value.int .i64 z)) (by omega),trivial⟩ ⟨by omega,hw,hK,aq,az,hX,hT⟩ ?_
  clear hw hK aq az hX hT;rintro c w' ⟨hc,hw,hK,aq,az,hX,hT⟩
  by_cases CV:(c:Int)<pw x.Order
  ·have Rv:=NX c CV
   have gR:oT z x+c / 8<r.Types.n:=by
    have:x.At+c<z.To:=by
     rcases dl f1 f2 with ⟨e1,e2⟩|⟨e1,e2⟩|⟨e1,e2⟩|⟨e1,e2⟩|⟨e1,e2⟩<;>rw [e2] at f5 CV<;>omega
    omega
   have Mc:c<16:=by omega
   repeat' (first|refine Wz ?_|refine SW.st (bc (oT z x+c / 8) rfl rfl (by assumption) (by omega) (by omega)) rfl ?_|(refine SW.call rfl rfl (cE _) ?_;intro v w1 aa hv;subst hv;replace hw:=Ext.trans hw aa;replace aq:=aq.ext aa;replace az:=az.ext aa;replace hX:=hX.ext aa;replace hT:=hT.ext aa;replace hK:=hK.ext aa;clear aa))
   refine SW.Dd (oT z x+c / 8) hT rfl rfl gR fun w5 I8 hg => ?_
   have hG:=hT.gr hg;replace hw:=aJ hw hg (Nat.le_refl _) hT.ba;(replace aq:=aq.au hG rfl;replace az:=az.au hG rfl;replace hX:=hX.au hG rfl;replace hK:=hK.au hG rfl);rw [BJ Mc] at I8;refine Wz ?_;exact ae.again (c+1) ⟨rfl,rfl,rfl,congrArg (fun z=>some (Value.int .i64 z)) (by omega),trivial⟩ (by omega) ⟨by omega,hw,hK,aq,az,hX,I8⟩
  ·have Rw:(c:Int)=pw x.Order:=by omega
   have rD:BI z.Types (oT z x) t c=gD z x t:=by
    unfold BI gD;rcases dl f1 f2 with ⟨e1,e2⟩|⟨e1,e2⟩|⟨e1,e2⟩|⟨e1,e2⟩|⟨e1,e2⟩
    ·omega
    ·omega
    ·rw [if_neg (by omega),if_pos (by omega),if_neg (by omega),if_neg (by omega)]
    ·rw [if_neg (by omega),if_pos (by omega),if_neg (by omega),if_neg (by omega)]
    ·rw [if_neg (by omega),if_neg (by omega),if_neg (by omega),if_pos (by omega)]
   rw [rD] at hT;have vX:=DE (b:=x) (by omega) f2 f5;repeat' (first|refine Wz ?_|(refine SW.call rfl rfl (cE _) ?_;intro v w1 aa hv;subst hv;replace hw:=Ext.trans hw aa;replace aq:=aq.ext aa;replace az:=az.ext aa;replace hX:=hX.ext aa;replace hT:=hT.ext aa;replace hK:=hK.ext aa;clear aa)|(refine SW.st ((vG rfl rfl).eq (congrArg (Value.int .i64) vX)) rfl ?_))
   clear az cE NX;obtain ⟨f,hf⟩ : ∃ f,FK (x.At / 8*8) (xq x) t=f:=⟨_,rfl⟩
   refine CW.loop (fun j:Nat=>[(2,.int .i64 t),(3,.pointer (some ⟨b3,0,none⟩)),(8,.int .i64 (x.At / 8*8)),(9,.int .i64 (xq x)),(47,.slice r.ag.A r.ag.n r.ag.c),(48,.int .i64 (r.ag.n:Int)),(49,.int .i64 (j:Int))])
    (fun j w'=>j≤r.ag.n∧Ext base w'∧kJ 139 w w'∧aT w' b3 139 (bG r)∧Own w' base.heap.size 165 3 aA r.ag.A r.ag.n r.ag.c (jH f z.ag j)∧Own w' base.heap.size 3 1 bB r.Types.A r.Types.n r.Types.c (gD z x t))
    (fun j=>r.ag.n-j) 0 ⟨rfl,rfl,rfl,rfl,rfl,rfl,rfl,trivial⟩ ⟨by omega,hw,hK,aq,by rw [zo];exact hX,hT⟩ ?_
   clear hw hK aq hX hT;rintro j w' ⟨hj,hw,hK,aq,hX,hT⟩
   by_cases mm:j<r.ag.n
   ·have nQ:j<z.ag.length:=by omega
    obtain ⟨g1,g2,g3,g4,g5⟩:=(hz.cU j nQ).1;obtain ⟨y,hy⟩ : ∃ y,z.ag[j]=y:=⟨_,rfl⟩;have ju:=uK (f:=f) nQ;rw [hy] at g1 g2 g3 g4 g5 ju;have eH:=hX.sl.all mm;simp only [ju] at eH;have Rx:=bM g1 g2;have cY:∀ w',bl Tryz.prog 230 [.agg (aA y).toArray] w' fun v _=>v = .int .i64 (y.At+pw y.Order):=fun w'=>kC y w' ⟨g1,g2⟩ ⟨by omega,by omega⟩
    repeat' (first|refine Wz ?_|refine SW.st (ay rfl rfl eH) rfl ?_)
    refine SW.alloc rfl fun HQ w1 aa hb ij => ?_
    have wP:base.heap.size≤HQ:=Nat.le_trans hw.size hb
    have cr:aG r.ag.A r.ag.c≠some HQ:=fun e=>by have:=hX.lt_size _ e;omega
    replace hw:=Ext.trans hw aa;replace aq:=aq.ext aa;replace hX:=hX.ext aa;replace hT:=hT.ext aa;replace hK:=hK.ext aa;refine Wz ?_;refine SW.ah ij rfl rfl rfl rfl (fu.one (enc:=aA) y) fun w2 qH hg => ?_
    have hG:=ij.gr hg;replace hw:=hw.own wP hg;replace hX:=hX.grown hg (.inr cr);(replace aq:=aq.au hG rfl;replace hT:=hT.au hG rfl;replace hK:=hK.au hG rfl);replace ij:=qH;clear qH hg hG aa hb;by_cases GM:x.At / 8*8≤y.At∧y.At+pw y.Order≤xq x
    ·have Me:f y=⟨y.At,y.Order,t⟩:=by rw [← hf];unfold FK;rw [if_pos GM]
     repeat' (first|refine Wz ?_|(refine SW.call rfl rfl (cY _) ?_;intro v w1 aa hv;subst hv;replace hw:=Ext.trans hw aa;replace aq:=aq.ext aa;replace ij:=ij.ext aa;replace hX:=hX.ext aa;replace hT:=hT.ext aa;replace hK:=hK.ext aa;clear aa))
     refine SW.jz j 2 ⟨y.At,y.Order,t⟩ hX rfl rfl rfl mm (by decide) rfl (by rw [ju];rfl) fun w5 vS hg => ?_
     have hG:=hX.gr hg;replace hw:=aJ hw hg (Nat.le_refl _) hX.ba;(replace aq:=aq.au hG rfl;replace hT:=hT.au hG rfl;replace hK:=hK.au hG rfl);rw [← Me,← hy,uL nQ] at vS;refine Wz ?_;exact ae.again (j+1) ⟨rfl,rfl,rfl,rfl,rfl,rfl,rfl,trivial⟩ (by omega) ⟨by omega,hw,hK,aq,vS,hT⟩
    ·have Me:f y=y:=by rw [← hf];unfold FK;rw [if_neg GM]
     have Mf:=zn (f:=f) nQ (by rw [hy];exact Me);by_cases HR:x.At / 8*8≤y.At
     all_goals
      repeat' (first|refine Wz ?_|(refine SW.call rfl rfl (cY _) ?_;intro v w1 aa hv;subst hv;replace hw:=Ext.trans hw aa;replace aq:=aq.ext aa;replace ij:=ij.ext aa;replace hX:=hX.ext aa;replace hT:=hT.ext aa;replace hK:=hK.ext aa;clear aa))
      exact ae.again (j+1) ⟨rfl,rfl,rfl,rfl,rfl,rfl,rfl,trivial⟩ (by omega) ⟨by omega,hw,hK,aq,by rw [Mf];exact hX,hT⟩
   ·obtain rfl:j=r.ag.n:=by omega
    refine Wz ?_;rw [← Fe,BK,Fe,← hf] at hX;exact ae.uj rfl ⟨_,rfl,hw,hK,by rw [fF,if_neg h2];exact hX,hT⟩
open Go.RowKit
structure oV (w:World) : Prop where
 row:∀ (k:Nat),k<3 → ∀ (j:Nat) (v:Value),[Value.int .i64 (sA (k:Int)),Value.int .i64 (sB (k:Int))][j]?=some v→w.cell? (((⟨1,0,none⟩ : Addr).add (k*2)).add j)=some v
theorem oV.ext {w w':World} (h:oV w) (hx:Ext w w') : oV w':=⟨fun k hk j v hv=>hx.cell (h.row k hk j v hv)⟩
def ly (lo:Nat) (u:ab×Int×Int) (v:Value) (w:World) : Prop := ∃ s,v = .tuple #[.agg (bG s).toArray,.int .i64 u.2.1,.int .i64 u.2.2]∧dT w lo s u.1
theorem ly.zero (e:Int) (lo:Nat) (w:World) : ly lo (.zero,0,e) (.tuple #[.agg (bG .zero).toArray,.int .i64 0,.int .i64 e]) w:=⟨.zero,rfl,dT.zero _ _⟩
theorem vY {α:Type} {p : α → Bool} {l:List α} (h:l.any p=true) : ∃ (k:Nat) (hk:k<l.length),p l[k]=true∧(∀ (j:Nat) (hj:j<l.length),j<k→p l[j]=false)∧idxOf p l=(k:Int):=by
 have h1:l.findIdx p<l.length:=List.findIdx_lt_length_of_exists (by simpa using h)
 exact ⟨l.findIdx p,h1,List.findIdx_getElem (w:=h1),fun j hj j5=>by simpa using List.not_of_lt_findIdx j5,by unfold idxOf;rw [if_pos h]⟩
theorem sC {α:Type} {p : α → Bool} {l:List α} (h:l.any p=false) : idxOf p l = -1:=by unfold idxOf;rw [h];rfl
theorem Own.DG {w:World} {lo b:Nat} {A:Option Addr} {n c:Nat} {l:List Block} {x:Block} (h:Own w lo 165 3 aA A n c l) (hB:aT w b 165 (aA x)) (hn : 0<n) (hx:∀ y∈l,y.At≠x.At) : aG A c≠some b:=by
 rcases h.row with ⟨h0,_⟩|⟨hc,g,fW,rfl,h1,h2,h3,h4,h5,h6⟩
 ·omega
 ·intro e;simp only [aG,Nat.pos_iff_ne_zero.1 hc,if_false,Option.map_some,Option.some.injEq] at e;subst e;unfold aT at hB;rw [h2] at hB;injection hB with hB
  injection hB with Mg _ _
  subst Mg;have HR:c=1:=by simp [aA] at h5;omega
  have FB:n=1:=by omega
  have hl:=h.len;rw [FB] at hl;obtain ⟨y,rfl⟩:=List.length_eq_one_iff.1 hl;rw [FB] at h6;simp [aA] at h6;exact hx y (by simp) h6.1.symm
set_option maxHeartbeats 8000000 in
theorem DH (r:bU) (z:ab) (o t:Int) (w:World) (hr:yU w r z) (hf:(r.ag.n+1)*24≤140737488355328) (ht:r.Types.n*8≤140737488355328) (h1 : -9223372036854775808≤r.aw∧r.aw≤9223372036854775807) (h2 : -9223372036854775808≤r.To∧r.To≤9223372036854775807) (hO:oV w) :
 bl Tryz.prog 247 [.agg (bG r).toArray,.int .i64 o,.int .i64 t] w fun v w' => ∃ u,dA z o t u∧ly w.heap.size u v w':=by
 refine aD Tryz.func247 rfl Tryz.ntmps247 rfl ?_;refine CW.seq (CW.region (SW.box rfl rfl fun b3 w1 hw bL aq => ?_));refine SW.alloc rfl fun b6 w2 bo fk az => ?_
 have dU:w.heap.size≤b6:=Nat.le_trans hw.size fk
 have jF:b3≠b6:=by have:=aq.lt;omega
 (replace hw:=Ext.trans hw bo;replace aq:=aq.ext bo);have eF:=hr.from_;have eT:=hr.jA;have Fe:=hr.free.len;have I5:=hr.types.len;obtain ⟨q,hq⟩ : ∃ q,df z=q:=⟨_,rfl⟩
 have c1:∀ w',Ext w w'→bl Tryz.prog 176 [.agg (bG r).toArray] w' fun v _=>v = .int .i64 (if q then 0 else 8):=fun w' h=>by
  have:=gK r z w' (hr.ext h) (by omega) (by omega) h1 h2
  rwa [hq] at this
 cases q
 ·simp only [Bool.false_eq_true,if_false] at c1;repeat' (first|refine Wz ?_|(refine SW.call rfl rfl (c1 _ hw) ?_;intro v w1 aa hv;subst hv;replace hw:=Ext.trans hw aa;replace aq:=aq.ext aa;replace az:=az.ext aa;clear aa))
  skip;refine SW.ah az rfl rfl rfl rfl (cx .zero) fun w5 ct hg => ?_
  replace hw:=hw.own dU hg;refine Wz ?_;exact ae.mB rfl rfl rfl rfl ct rfl ⟨_,rfl,hw,_,.bad hq,ly.zero 8 _ _⟩
 ·simp only [if_true] at c1;have hz:=dc.1 hq;obtain ⟨o1,o2,o3,o4,o5⟩:=hz.ok;by_cases ho : 0≤o∧o≤4
  ·by_cases rD:fR t
   ·have xc:=rD;unfold fR at xc;repeat' (first|refine Wz ?_|(refine SW.call rfl rfl (c1 _ hw) ?_;intro v w1 aa hv;subst hv;replace hw:=Ext.trans hw aa;replace aq:=aq.ext aa;replace az:=az.ext aa;clear aa))
    refine SW.call rfl rfl (nk r z _ (hr.ext hw) (by omega) ht) fun v w4 dz hv => ?_
    obtain ⟨s,rfl,hs,e1,e2⟩:=hv;replace hs:=hs.low hw.size;(replace hw:=Ext.trans hw dz;replace aq:=aq.ext dz;replace az:=az.ext dz);clear c1;skip;refine SW.ah aq rfl rfl rfl rfl (cx s) fun w5 cS hg => ?_
    have hG:=aq.gr hg;replace hw:=hw.own bL hg;have hX:=hs.free.au hG rfl;have hT:=hs.types.au hG rfl;replace az:=az.grown hg (by simpa using jF.symm);replace aq:=cS;have es:s.ag.n=z.ag.length:=by rw [e1,Fe]
    have sF:=hs.from_;have sT:=hs.jA;clear cS hg hG hs;have cL:∀ p u w',Sl w' 3 aA s.ag.A s.ag.n z.ag→bl Tryz.prog 264 [.agg (bG s).toArray,.int .i64 p,.int .i64 u] w' fun v _=>v = .int .i64 (idxOf (mL p u) z.ag):=fun p u w' h=>zm s z.ag p u w' h (by omega)
    refine Wz ?_
    obtain ⟨K,hK⟩ : ∃ K:Env→World→Prop,K=fun L' w' => ∃ i:Int,gH L' [(1,.int .i64 o),(2,.int .i64 t),(3,.pointer (some ⟨b3,0,none⟩)),(6,.pointer (some ⟨b6,0,none⟩)),(10,.int .i64 i)]∧Ext w w'∧aT w' b3 139 (bG s)∧aT w' b6 139 (bG .zero) ∧
     Own w' w.heap.size 165 3 aA s.ag.A s.ag.n s.ag.c z.ag∧Own w' w.heap.size 3 1 bB s.Types.A s.Types.n s.Types.c z.Types∧((i = -1 ∧ ∀ m,m<5→gw z.ag o t m=false) ∨ ∃ k:Nat,i=(k:Int)∧ie z.ag o t (some (k,false))):=⟨_,rfl⟩
    refine CW.HD K ?_ ?_
    ·refine CW.loop (fun u:Nat×Int=>[(1,.int .i64 o),(2,.int .i64 t),(3,.pointer (some ⟨b3,0,none⟩)),(6,.pointer (some ⟨b6,0,none⟩)),(10,.int .i64 u.2),(11,.int .i64 (o+(u.1:Int)))])
      (fun u w'=>Ext w w'∧aT w' b3 139 (bG s)∧aT w' b6 139 (bG .zero)∧Own w' w.heap.size 165 3 aA s.ag.A s.ag.n s.ag.c z.ag∧Own w' w.heap.size 3 1 bB s.Types.A s.Types.n s.Types.c z.Types ∧
        ((u.2 = -1∧(u.1:Int)≤5-o ∧ ∀ m,m<u.1→gw z.ag o t m=false) ∨ ∃ k:Nat,u.2=(k:Int)∧ie z.ag o t (some (k,false)))) (fun u=>if u.2<0 then 7-u.1 else 0) (0,-1)
      ⟨rfl,rfl,rfl,rfl,rfl,congrArg (fun z=>some (Value.int .i64 z)) (by simp),trivial⟩ ⟨hw,aq,az,hX,hT,.inl ⟨rfl,by simp only;omega,fun m h=>by simp only at h;omega⟩⟩ ?_
     clear hw aq az hX hT;rintro ⟨j,i⟩ w' ⟨hw,aq,az,hX,hT,hI⟩
     simp only at hI ⊢;rcases hI with ⟨rfl,hj,hI⟩|⟨k,rfl,hP⟩
     ·by_cases hp:o+(j:Int)≤4
      ·have JQ:j<5:=by omega
       have vX:=Dw (l:=z.ag) (o:=o) (t:=t) JQ hp;cases ga:z.ag.any (mL (o+(j:Int)) t)
       ·have c2:=cL (o+(j:Int)) t;rw [sC ga] at c2;repeat' (first|refine Wz ?_|(refine SW.call rfl rfl (c2 _ hX.sl) ?_;intro v w1 aa hv;subst hv;replace hw:=Ext.trans hw aa;replace aq:=aq.ext aa;replace az:=az.ext aa;replace hX:=hX.ext aa;replace hT:=hT.ext aa;clear aa))
        refine ae.again (j+1,-1) ⟨rfl,rfl,rfl,rfl,rfl,congrArg (fun z=>some (Value.int .i64 z)) (by simp only;omega),trivial⟩ (by simp only;(repeat' split)<;>omega) ⟨hw,aq,az,hX,hT,.inl ⟨rfl,by simp only;omega,fun m h => ?_⟩⟩;simp only at h;by_cases e:m=j
        ·subst e;rw [vX,ga]
        ·exact hI m (by omega)
       ·obtain ⟨k,hk,JR,pQ,BL⟩:=vY ga;have c2:=cL (o+(j:Int)) t;rw [BL] at c2;repeat' (first|refine Wz ?_|(refine SW.call rfl rfl (c2 _ hX.sl) ?_;intro v w1 aa hv;subst hv;replace hw:=Ext.trans hw aa;replace aq:=aq.ext aa;replace az:=az.ext aa;replace hX:=hX.ext aa;replace hT:=hT.ext aa;clear aa))
        have hP:ie z.ag o t (some (k,false)):=by
         have:=ie.hit (l:=z.ag) (o:=o) (t:=t) (n:=j) (k:=k) (by omega) (by rw [vX,ga]) hI hk (by rw [oS JQ,vU JQ];exact JR) (by rw [oS JQ,vU JQ];exact pQ)
         rwa [decide_eq_false (by omega)] at this
        exact ae.again (j+1,(k:Int)) ⟨rfl,rfl,rfl,rfl,rfl,congrArg (fun z=>some (Value.int .i64 z)) (by simp only;omega),trivial⟩ (by simp only;(repeat' split)<;>omega) ⟨hw,aq,az,hX,hT,.inr ⟨k,rfl,hP⟩⟩
      ·refine Wz ?_
       have Mh:∀ m,m<5→gw z.ag o t m=false:=fun m hm=>by
        by_cases e:m<j
        ·exact hI m e
        ·exact xp (by rw [oS hm];omega)
       exact ae.xh (K:=K) (by rw [hK];exact ⟨-1,⟨rfl,rfl,rfl,rfl,rfl,trivial⟩,hw,aq,az,hX,hT,.inl ⟨rfl,Mh⟩⟩)
     ·refine Wz ?_;exact ae.xh (K:=K) (by rw [hK];exact ⟨(k:Int),⟨rfl,rfl,rfl,rfl,rfl,trivial⟩,hw,aq,az,hX,hT,.inr ⟨k,rfl,hP⟩⟩)
    ·clear hw aq az hX hT;subst hK;rintro L' w' ⟨i0,nE,hw,aq,az,hX,hT,GN⟩
     refine ae.sub nE ?_;clear nE;obtain ⟨kt,NY⟩ : ∃ kt:Nat,t=(kt:Int):=⟨t.toNat,by omega⟩;have JS:kt<3:=by omega
     have fQ:=hO.row kt JS;rw [← NY] at fQ;refine Wz ?_
     obtain ⟨K,hK⟩ : ∃ K:Env→World→Prop,K=fun L' w' => ∃ (i:Int) (F:List Block) (T:List Int),gH L' [(1,.int .i64 o),(2,.int .i64 t),(3,.pointer (some ⟨b3,0,none⟩)),(6,.pointer (some ⟨b6,0,none⟩)),(10,.int .i64 i)]∧Ext w w'∧aT w' b3 139 (bG s)∧aT w' b6 139 (bG .zero) ∧
      Own w' w.heap.size 165 3 aA s.ag.A s.ag.n s.ag.c F∧Own w' w.heap.size 3 1 bB s.Types.A s.Types.n s.Types.c T∧((i = -1 ∧ ∀ m,m<15→gw z.ag o t m=false) ∨ ∃ (k:Nat) (st:Bool) (hk:k<z.ag.length),i=(k:Int)∧ie z.ag o t (some (k,st))∧F=fb z z.ag[k] t st∧T=if st=true then gD z z.ag[k] t else z.Types):=⟨_,rfl⟩
     refine CW.HD K ?_ ?_
     ·refine CW.loop (fun u:Nat×Int×List Block×List Int=>[(1,.int .i64 o),(2,.int .i64 t),(3,.pointer (some ⟨b3,0,none⟩)),(6,.pointer (some ⟨b6,0,none⟩)),(10,.int .i64 u.2.1),(12,.int .i64 (4-(u.1:Int)))])
       (fun u w'=>Ext w w'∧aT w' b3 139 (bG s)∧aT w' b6 139 (bG .zero)∧Own w' w.heap.size 165 3 aA s.ag.A s.ag.n s.ag.c u.2.2.1∧Own w' w.heap.size 3 1 bB s.Types.A s.Types.n s.Types.c u.2.2.2 ∧
         ((u.2.1 = -1∧(u.1:Int)≤5-o∧(∀ m,m<5+2*u.1→gw z.ag o t m=false)∧u.2.2.1=z.ag∧u.2.2.2=z.Types) ∨ ∃ (k:Nat) (st:Bool) (hk:k<z.ag.length),u.2.1=(k:Int)∧ie z.ag o t (some (k,st))∧u.2.2.1=fb z z.ag[k] t st∧u.2.2.2=if st=true then gD z z.ag[k] t else z.Types)) (fun u=>if u.2.1<0 then 7-u.1 else 0) (0,i0,z.ag,z.Types)
       ⟨rfl,rfl,rfl,rfl,rfl,rfl,trivial⟩ ⟨hw,aq,az,hX,hT,?_⟩ ?_
      ·rcases GN with ⟨rfl,GN⟩|⟨k,rfl,hP⟩
       ·exact .inl ⟨rfl,by simp only;omega,fun m h=>GN m (by simp only at h;omega),rfl,rfl⟩
       ·obtain ⟨hk,_⟩:=hP.ord;exact .inr ⟨k,false,hk,rfl,hP,rfl,rfl⟩
      clear hw aq az hX hT GN;rintro ⟨j,i,F,T⟩ w' ⟨hw,aq,az,hX,hT,hI⟩
      simp only at hX hT hI ⊢;rcases hI with ⟨rfl,hj,hI,rfl,rfl⟩|⟨k,st,hk,rfl,hP,hF,Lm⟩
      ·by_cases hp:o≤4-(j:Int)
       ·have Mi:=Dx (l:=z.ag) (t:=t) hp;have NZ:=Dy (l:=z.ag) (t:=t) hp;repeat' (first|refine Wz ?_|refine SW.st (aN hw rfl rfl fQ) rfl ?_|(refine SW.st (mK kt rfl rfl NY JS) rfl ?_))
        refine CW.loop (fun v:Nat=>[(1,.int .i64 o),(2,.int .i64 t),(3,.pointer (some ⟨b3,0,none⟩)),(6,.pointer (some ⟨b6,0,none⟩)),(10,.int .i64 (-1)),(12,.int .i64 (4-(j:Int))),(65,.agg [Value.int .i64 (sA t),Value.int .i64 (sB t)].toArray),(66,.int .i64 (v:Int))])
         (fun v w'=>v≤2∧Ext w w'∧aT w' b3 139 (bG s)∧aT w' b6 139 (bG .zero)∧Own w' w.heap.size 165 3 aA s.ag.A s.ag.n s.ag.c z.ag∧Own w' w.heap.size 3 1 bB s.Types.A s.Types.n s.Types.c z.Types ∧ ∀ m,m<5+2*j+v→gw z.ag o t m=false)
         (fun v=>2-v) 0 ⟨rfl,rfl,rfl,rfl,rfl,rfl,rfl,rfl,trivial⟩ ⟨by omega,hw,aq,az,hX,hT,hI⟩ ?_
        clear hw aq az hX hT hI;rintro v w' ⟨Mj,hw,aq,az,hX,hT,hI⟩
        rcases (show v=0∨v=1∨v=2 by omega) with rfl|rfl|rfl
        ·cases ga:z.ag.any (mL (4-(j:Int)) (sA t))
         ·have c2:=cL (4-(j:Int)) (sA t);rw [sC ga] at c2;repeat' (first|refine Wz ?_|(refine SW.call rfl rfl (c2 _ hX.sl) ?_;intro v w1 aa hv;subst hv;replace hw:=Ext.trans hw aa;replace aq:=aq.ext aa;replace az:=az.ext aa;replace hX:=hX.ext aa;replace hT:=hT.ext aa;clear aa)|(refine SW.st (oU 0 rfl rfl rfl (by decide) rfl) rfl ?_))
          refine ae.again (0+1) ⟨rfl,rfl,rfl,rfl,rfl,rfl,rfl,rfl,trivial⟩ (by omega) ⟨by omega,hw,aq,az,hX,hT,fun m h => ?_⟩;by_cases e:m=5+2*j+0
          ·subst e;exact Mi.trans ga
          ·exact hI m (by omega)
         ·obtain ⟨k,hk,JR,pQ,BL⟩:=vY ga;have c2:=cL (4-(j:Int)) (sA t);rw [BL] at c2;repeat' (first|refine Wz ?_|(refine SW.call rfl rfl (c2 _ hX.sl) ?_;intro v w1 aa hv;subst hv;replace hw:=Ext.trans hw aa;replace aq:=aq.ext aa;replace az:=az.ext aa;replace hX:=hX.ext aa;replace hT:=hT.ext aa;clear aa)|(refine SW.st (oU 0 rfl rfl rfl (by decide) rfl) rfl ?_))
          refine SW.dy rfl rfl (uM s z k t w _ hw hX hT sF hz hk (by omega)) fun v w5 hv => ?_
          obtain ⟨hw,JT,hX,hT⟩:=hv;replace aq:=JT.out _ _ aq;replace az:=JT.out _ _ az
          have hP:ie z.ag o t (some (k,true)):=by
           have:=ie.hit (l:=z.ag) (o:=o) (t:=t) (n:=5+2*j+0) (k:=k) (by omega) (Mi.trans ga) hI hk (by have e1:=rG (o:=o) (j:=j);have e2:=vV (t:=t) (j:=j);(try simp only [Nat.add_zero] at *);rw [e1,e2];exact JR) (by have e1:=rG (o:=o) (j:=j);have e2:=vV (t:=t) (j:=j);(try simp only [Nat.add_zero] at *);rw [e1,e2];exact pQ)
           rwa [decide_eq_true (by omega)] at this
          refine Wz ?_;exact ae.again (j+1,(k:Int),fF z.ag z.ag[k] t,gD z z.ag[k] t) ⟨rfl,rfl,rfl,rfl,rfl,congrArg (fun z=>some (Value.int .i64 z)) (by simp only;omega),trivial⟩ (by simp only;(repeat' split)<;>omega) ⟨hw,aq,az,hX,hT,.inr ⟨k,true,hk,rfl,hP,rfl,rfl⟩⟩
        ·cases ga:z.ag.any (mL (4-(j:Int)) (sB t))
         ·have c2:=cL (4-(j:Int)) (sB t);rw [sC ga] at c2;repeat' (first|refine Wz ?_|(refine SW.call rfl rfl (c2 _ hX.sl) ?_;intro v w1 aa hv;subst hv;replace hw:=Ext.trans hw aa;replace aq:=aq.ext aa;replace az:=az.ext aa;replace hX:=hX.ext aa;replace hT:=hT.ext aa;clear aa)|(refine SW.st (oU 1 rfl rfl rfl (by decide) rfl) rfl ?_))
          refine ae.again (1+1) ⟨rfl,rfl,rfl,rfl,rfl,rfl,rfl,rfl,trivial⟩ (by omega) ⟨by omega,hw,aq,az,hX,hT,fun m h => ?_⟩;by_cases e:m=5+2*j+1
          ·subst e;exact NZ.trans ga
          ·exact hI m (by omega)
         ·obtain ⟨k,hk,JR,pQ,BL⟩:=vY ga;have c2:=cL (4-(j:Int)) (sB t);rw [BL] at c2;repeat' (first|refine Wz ?_|(refine SW.call rfl rfl (c2 _ hX.sl) ?_;intro v w1 aa hv;subst hv;replace hw:=Ext.trans hw aa;replace aq:=aq.ext aa;replace az:=az.ext aa;replace hX:=hX.ext aa;replace hT:=hT.ext aa;clear aa)|(refine SW.st (oU 1 rfl rfl rfl (by decide) rfl) rfl ?_))
          refine SW.dy rfl rfl (uM s z k t w _ hw hX hT sF hz hk (by omega)) fun v w5 hv => ?_
          obtain ⟨hw,JT,hX,hT⟩:=hv;replace aq:=JT.out _ _ aq;replace az:=JT.out _ _ az
          have hP:ie z.ag o t (some (k,true)):=by
           have:=ie.hit (l:=z.ag) (o:=o) (t:=t) (n:=5+2*j+1) (k:=k) (by omega) (NZ.trans ga) hI hk (by have e1:=rH (o:=o) (j:=j);have e2:=vW (t:=t) (j:=j);(try simp only [Nat.add_zero] at *);rw [e1,e2];exact JR) (by have e1:=rH (o:=o) (j:=j);have e2:=vW (t:=t) (j:=j);(try simp only [Nat.add_zero] at *);rw [e1,e2];exact pQ)
           rwa [decide_eq_true (by omega)] at this
          refine Wz ?_;exact ae.again (j+1,(k:Int),fF z.ag z.ag[k] t,gD z z.ag[k] t) ⟨rfl,rfl,rfl,rfl,rfl,congrArg (fun z=>some (Value.int .i64 z)) (by simp only;omega),trivial⟩ (by simp only;(repeat' split)<;>omega) ⟨hw,aq,az,hX,hT,.inr ⟨k,true,hk,rfl,hP,rfl,rfl⟩⟩
        ·refine Wz ?_;exact ae.again (j+1,-1,z.ag,z.Types) ⟨rfl,rfl,rfl,rfl,rfl,congrArg (fun z=>some (Value.int .i64 z)) (by simp only;omega),trivial⟩ (by simp only;(repeat' split)<;>omega) ⟨hw,aq,az,hX,hT,.inl ⟨rfl,by simp only;omega,fun m h=>hI m (by simp only at h;omega),rfl,rfl⟩⟩
       ·refine Wz ?_
        have Mh:∀ m,m<15→gw z.ag o t m=false:=fun m hm=>by
         by_cases e:m<5+2*j
         ·exact hI m e
         ·exact DB (j:=j) (by omega) (by omega)
        exact ae.xh (K:=K) (by rw [hK];exact ⟨-1,z.ag,z.Types,⟨rfl,rfl,rfl,rfl,rfl,trivial⟩,hw,aq,az,hX,hT,.inl ⟨rfl,Mh⟩⟩)
      ·refine Wz ?_;exact ae.xh (K:=K) (by rw [hK];exact ⟨(k:Int),F,T,⟨rfl,rfl,rfl,rfl,rfl,trivial⟩,hw,aq,az,hX,hT,.inr ⟨k,st,hk,rfl,hP,hF,Lm⟩⟩)
     ·clear hw aq az hX hT GN;subst hK;rintro L' w' ⟨i,F,T,nE,hw,aq,az,hX,hT,hI⟩
      refine ae.sub nE ?_;clear nE cL;rcases hI with ⟨rfl,hI⟩|⟨k,st,hk,rfl,hP,rfl,Lm⟩
      ·refine Wz ?_;refine SW.ah az rfl rfl rfl rfl (cx .zero) fun w5 ct hg => ?_
       replace hw:=hw.own dU hg;refine Wz ?_;exact ae.mB rfl rfl rfl rfl ct rfl ⟨_,rfl,hw,_,.room hq ho rD (.Dz hI),ly.zero 6 _ _⟩
      ·obtain ⟨_,Mk,N0⟩:=hP.ord;obtain ⟨l1,l2,l3⟩:=mN hz (b:=z.ag[k]) rD st;have JU:k<(fb z z.ag[k] t st).length:=by omega
       have GO:(fb z z.ag[k] t st)[k]=⟨z.ag[k].At,z.ag[k].Order,oa z t st z.ag[k]⟩:=ns hz rD st hk
       obtain ⟨⟨f1,f2,f3,f4,f5⟩,f6⟩:=hz.cU k hk;have iO:dA z o t (lx z o t z.ag[k] k st,z.ag[k].At,0) := .ok hq ho rD hk hP
       have hJ:=uJ l2 l3 JU;rw [GO] at hJ;have zp:=gu hz;have GH:fR (oa z t st z.ag[k]):=by unfold oa;split<;>assumption
       obtain ⟨ty,Ml⟩ : ∃ ty,oa z t st z.ag[k]=ty:=⟨_,rfl⟩
       have N1:lx z o t z.ag[k] k st=⟨z.aw,z.To,gk ty z.ag[k].At (z.ag[k].Order-o).toNat z.ag[k].Order ((fb z z.ag[k] t st).eraseIdx k),T⟩:=by
        rw [Lm,← Ml];rfl
       rw [N1] at iO;rw [Ml] at GO GH;clear N1 Ml Lm hP;obtain ⟨F,hF⟩ : ∃ F,fb z z.ag[k] t st=F:=⟨_,rfl⟩;simp only [hF] at hX l1 JU GO hJ iO;clear l2 l3;obtain ⟨x,hx⟩ : ∃ x,z.ag[k]=x:=⟨_,rfl⟩;simp only [hx] at GO hJ iO f1 f2 f3 f4 f5 Mk N0;clear f6;have ey:k<s.ag.n:=by omega
       have hA:=hX.sl.base;have eH:=hX.sl.all ey;simp only [GO] at eH;repeat' (first|refine Wz ?_|refine SW.st (ay rfl rfl eH) rfl ?_)
       refine SW.alloc rfl fun uN w3 iN JV bJ => ?_
       have JW:w.heap.size≤uN:=Nat.le_trans hw.size JV
       have AR:aG s.ag.A s.ag.c≠some uN:=fun e=>by have:=hX.lt_size _ e;omega
       (replace hw:=Ext.trans hw iN;replace aq:=aq.ext iN;replace az:=az.ext iN;replace hX:=hX.ext iN;replace hT:=hT.ext iN);clear eH;skip;refine SW.ah bJ rfl rfl rfl rfl (fu.one (enc:=aA) ⟨x.At,x.Order,ty⟩) fun w5 ka hg => ?_
       have hG:=bJ.gr hg;replace hw:=hw.own JW hg;replace hX:=hX.grown hg (.inr AR);(replace aq:=aq.au hG rfl;replace az:=az.au hG rfl;replace hT:=hT.au hG rfl);replace bJ:aT w5 uN 165 [.int .i64 x.At,.int .i64 x.Order,.int .i64 ty]:=ka;clear ka hg hG JV;refine Wz ?_;refine SW.dy rfl rfl (jf s.ag.A s.ag.n s.ag.c w.heap.size F _ hX k ey (by omega) hw.size) fun v w6 hv => ?_
       obtain ⟨rfl,vS,hg⟩:=hv;have hG:=hX.gr hg;replace hw:=aJ hw hg (Nat.le_refl _) hX.ba;replace bJ:=bJ.grown hg (fun e=>AR e.symm);(replace aq:=aq.au hG rfl;replace az:=az.au hG rfl;replace hT:=hT.au hG rfl);clear hg hG;have oB:s.ag.n-1=(F.eraseIdx k).length:=by rw [List.length_eraseIdx_of_lt JU];omega
       rw [oB] at vS;rw [oB];refine Wz ?_;refine SW.bp (i:=2) aq rfl rfl rfl rfl fun w7 cS hg => ?_
       have hG:=aq.gr hg;replace hw:=hw.own bL hg;replace az:=az.grown hg (by simpa using jF.symm);(replace bJ:=bJ.au hG rfl;replace vS:=vS.au hG rfl;replace hT:=hT.au hG rfl);replace aq:aT w7 b3 139 [.int .i64 s.aw,.int .i64 s.To,.slice s.ag.A (F.eraseIdx k).length s.ag.c,.slice s.Types.A s.Types.n s.Types.c]:=cS;clear cS hg hG hX;refine Wz ?_;obtain ⟨I9,JX⟩ : ∃ I9,gk ty x.At (x.Order-o).toNat x.Order (F.eraseIdx k)=I9:=⟨_,rfl⟩;rw [JX] at iO
       refine CW.loop (fun u:Int×List Block×Option Addr×Nat=>[(1,.int .i64 o),(3,.pointer (some ⟨b3,0,none⟩)),(6,.pointer (some ⟨b6,0,none⟩)),(15,.pointer (some ⟨uN,0,none⟩))])
        (fun u w'=>Ext w w'∧aT w' b3 139 [.int .i64 s.aw,.int .i64 s.To,.slice u.2.2.1 u.2.1.length u.2.2.2,.slice s.Types.A s.Types.n s.Types.c]∧aT w' b6 139 (bG .zero)∧aT w' uN 165 [.int .i64 x.At,.int .i64 u.1,.int .i64 ty] ∧
          Own w' w.heap.size 165 3 aA u.2.2.1 u.2.1.length u.2.2.2 u.2.1∧Own w' w.heap.size 3 1 bB s.Types.A s.Types.n s.Types.c T∧xf z.aw z.To u.2.1 x.At u.1∧o≤u.1∧gk ty x.At (u.1-o).toNat u.1 u.2.1=I9∧(u.2.1.length:Int)+u.1≤300∧aG u.2.2.1 u.2.2.2≠some uN) (fun u=>(u.1-o).toNat) (x.Order,F.eraseIdx k,s.ag.A,s.ag.c)
        ⟨rfl,rfl,rfl,rfl,trivial⟩ ⟨hw,aq,az,bJ,vS,hT,hJ,Mk,JX,by simp only;omega,AR⟩ ?_
       clear hw aq az bJ vS hT hJ oB GO AR;rintro ⟨q,l,A,c⟩ w' ⟨hw,aq,az,bJ,hX,hT,hJ,Pv,y6,hlen,cr⟩
       simp only at aq bJ hX hJ Pv y6 hlen cr ⊢;by_cases Ry:o<q
       ·obtain ⟨k1,k2,k3,k4,k5⟩:=hJ.fit;obtain ⟨Ja,Pw⟩:=xr hJ o1 o3 o5 (by omega) GH;rw [show (q-o).toNat=(q-1-o).toNat+1 by omega,gk] at y6;have Lg:=bM (o:=q-1) (by omega) (by omega);have cE:∀ w',bl Tryz.prog 230 [.agg (aA ⟨x.At,q-1,ty⟩).toArray] w' fun v _=>v = .int .i64 (x.At+pw (q-1)):=fun w'=>kC ⟨x.At,q-1,ty⟩ w' ⟨by simp only;omega,by simp only;omega⟩ ⟨by simp only;omega,by simp only;omega⟩
        have cF:∀ w',Sl w' 3 aA A l.length l→bl Tryz.prog 234 [.agg (bG ⟨s.aw,s.To,⟨A,l.length,c⟩,s.Types⟩).toArray,.int .i64 (x.At+pw (q-1))] w' fun v _=>v = .tuple #[.int .i64 (aZ l (x.At+pw (q-1)) : Int),.bool (bf l (x.At+pw (q-1)))]:=fun w' h =>
         pS ⟨s.aw,s.To,⟨A,l.length,c⟩,s.Types⟩ l z.aw z.To (x.At+pw (q-1)) w' h hJ.mE hJ.cU o1 (by omega) (by simp only;omega) ⟨by omega,by omega⟩
        have sw:=AK l (x.At+pw (q-1));have Ln:=BH ty x.At q l;refine Wz ?_;refine SW.bp (i:=1) bJ rfl rfl rfl rfl fun w5 ka hg => ?_
        have hG:=bJ.gr hg;replace hw:=hw.own JW hg;replace hX:=hX.grown hg (.inr cr);(replace aq:=aq.au hG rfl;replace az:=az.au hG rfl;replace hT:=hT.au hG rfl);replace bJ:aT w5 uN 165 [.int .i64 x.At,.int .i64 (q-1),.int .i64 ty]:=ka;clear ka hg hG;refine Wz ?_;refine CW.any 8 mixed (dq (by kernel_rfl)) rfl fun w1 aa bm => ?_
        replace hw:=Ext.trans hw aa;replace aq:=aq.ext aa;replace az:=az.ext aa;replace bJ:=bJ.ext aa;replace hX:=hX.ext aa;replace hT:=hT.ext aa;clear aa;refine Wa ?_;refine SA.two 1 7 rfl rfl (by kernel_rfl) rfl rfl ?_ ?_
        ·refine SW.call rfl rfl (cE _) fun v w4 ao hv => ?_
         subst hv;(replace hw:=Ext.trans hw ao;replace aq:=aq.ext ao;replace az:=az.ext ao;replace bJ:=bJ.ext ao;replace hX:=hX.ext ao;replace hT:=hT.ext ao);try replace oc:=oc.ext ao
         refine SW.nil (ae.sa ao ?_);refine Wa ?_;refine SA.one 7 rfl (by kernel_rfl) rfl ?_;refine SW.alloc rfl fun HT w4 ao HU oc => ?_
         have HV:w.heap.size≤HT:=Nat.le_trans hw.size HU
         have HW:aG A c≠some HT:=fun e=>by have:=hX.lt_size _ e;omega
         have HX:uN≠HT:=by have:=bJ.lt;omega
         (replace hw:=Ext.trans hw ao;replace aq:=aq.ext ao;replace az:=az.ext ao;replace bJ:=bJ.ext ao;replace hX:=hX.ext ao;replace hT:=hT.ext ao);refine SW.nil (ae.sa ao ?_);refine SA.done (by kernel_rfl) ?_;skip;refine SW.ah oc rfl rfl rfl rfl (fu.one (enc:=aA) ⟨x.At+pw (q-1),q-1,ty⟩) fun w5 xt hg => ?_
         have hG:=oc.gr hg;replace hw:=hw.own HV hg;replace hX:=hX.grown hg (.inr HW);replace bJ:=bJ.grown hg (by simpa using HX);(replace aq:=aq.au hG rfl;replace az:=az.au hG rfl;replace hT:=hT.au hG rfl);replace oc:=xt;clear xt hg hG cE;repeat' (first|refine Wz ?_|(refine SW.call rfl rfl (cF _ hX.sl) ?_;intro v w1 aa hv;subst hv;replace hw:=Ext.trans hw aa;replace aq:=aq.ext aa;replace az:=az.ext aa;replace bJ:=bJ.ext aa;replace oc:=oc.ext aa;replace hX:=hX.ext aa;replace hT:=hT.ext aa;clear aa))
         refine SW.dJ rfl rfl rfl rfl rfl fun b w6 ao hb hB => ?_
         have sD:aG A c≠some b:=fun e=>by have:=hX.lt_size _ e;omega
         (replace hw:=Ext.trans hw ao;replace aq:=aq.ext ao;replace az:=az.ext ao;replace bJ:=bJ.ext ao;replace hX:=hX.ext ao;replace hT:=hT.ext ao);skip;refine SW.dy rfl rfl (fw A l.length c w.heap.size l _ hX (aZ l (x.At+pw (q-1))) sw (jl ty x.At q) b hB sD (by omega) hw.size) fun v w7 hv => ?_
         obtain ⟨A2,c2,rfl,cm,hg⟩:=hv;have hG:=hX.gr hg;replace hw:=aJ hw hg (Nat.le_refl _) hX.ba;replace bJ:=bJ.grown hg (fun e=>cr e.symm);(replace aq:=aq.au hG rfl;replace az:=az.au hG rfl;replace hT:=hT.au hG rfl);clear hg hG hX
         have BM:aG A2 c2≠some uN:=cm.DG (x:=⟨x.At,q-1,ty⟩) bJ (by omega) fun y hy e=>by
          have g1:=(Ja.cU y hy).1;have g2:=bM g1.1 g1.2.1;simp only at e;rcases Ja.Dk y hy with g|g<;>omega
         rw [← Ln] at cm;rw [← Ln];refine Wz ?_;refine SW.bp (i:=2) aq rfl rfl rfl rfl fun w8 cS hg => ?_
         have hG:=aq.gr hg;replace hw:=hw.own bL hg;replace az:=az.grown hg (by simpa using jF.symm);(replace bJ:=bJ.au hG rfl;replace cm:=cm.au hG rfl;replace hT:=hT.au hG rfl);refine Wz ?_;exact ae.again (q-1,mM ty x.At q l,A2,c2) ⟨rfl,rfl,rfl,rfl,trivial⟩ (by simp only;omega) ⟨hw,cS,az,bJ,cm,hT,Ja,by simp only;omega,y6,by simp only;omega,BM⟩
        ·refine SW.alloc rfl fun HT w4 ao HU oc => ?_
         have HV:w.heap.size≤HT:=Nat.le_trans hw.size HU
         have HW:aG A c≠some HT:=fun e=>by have:=hX.lt_size _ e;omega
         have HX:uN≠HT:=by have:=bJ.lt;omega
         (replace hw:=Ext.trans hw ao;replace aq:=aq.ext ao;replace az:=az.ext ao;replace bJ:=bJ.ext ao;replace hX:=hX.ext ao;replace hT:=hT.ext ao);refine SW.nil (ae.sa ao ?_);refine SA.one 1 rfl (by kernel_rfl) rfl ?_;refine SW.call rfl rfl (cE _) fun v w4 ao hv => ?_
         subst hv;(replace hw:=Ext.trans hw ao;replace aq:=aq.ext ao;replace az:=az.ext ao;replace bJ:=bJ.ext ao;replace hX:=hX.ext ao;replace hT:=hT.ext ao);try replace oc:=oc.ext ao
         refine SW.nil (ae.sa ao ?_);refine Wa ?_;refine SA.done (by kernel_rfl) ?_;skip;refine SW.ah oc rfl rfl rfl rfl (fu.one (enc:=aA) ⟨x.At+pw (q-1),q-1,ty⟩) fun w5 xt hg => ?_
         have hG:=oc.gr hg;replace hw:=hw.own HV hg;replace hX:=hX.grown hg (.inr HW);replace bJ:=bJ.grown hg (by simpa using HX);(replace aq:=aq.au hG rfl;replace az:=az.au hG rfl;replace hT:=hT.au hG rfl);replace oc:=xt;clear xt hg hG cE;repeat' (first|refine Wz ?_|(refine SW.call rfl rfl (cF _ hX.sl) ?_;intro v w1 aa hv;subst hv;replace hw:=Ext.trans hw aa;replace aq:=aq.ext aa;replace az:=az.ext aa;replace bJ:=bJ.ext aa;replace oc:=oc.ext aa;replace hX:=hX.ext aa;replace hT:=hT.ext aa;clear aa))
         refine SW.dJ rfl rfl rfl rfl rfl fun b w6 ao hb hB => ?_
         have sD:aG A c≠some b:=fun e=>by have:=hX.lt_size _ e;omega
         (replace hw:=Ext.trans hw ao;replace aq:=aq.ext ao;replace az:=az.ext ao;replace bJ:=bJ.ext ao;replace hX:=hX.ext ao;replace hT:=hT.ext ao);skip;refine SW.dy rfl rfl (fw A l.length c w.heap.size l _ hX (aZ l (x.At+pw (q-1))) sw (jl ty x.At q) b hB sD (by omega) hw.size) fun v w7 hv => ?_
         obtain ⟨A2,c2,rfl,cm,hg⟩:=hv;have hG:=hX.gr hg;replace hw:=aJ hw hg (Nat.le_refl _) hX.ba;replace bJ:=bJ.grown hg (fun e=>cr e.symm);(replace aq:=aq.au hG rfl;replace az:=az.au hG rfl;replace hT:=hT.au hG rfl);clear hg hG hX
         have BM:aG A2 c2≠some uN:=cm.DG (x:=⟨x.At,q-1,ty⟩) bJ (by omega) fun y hy e=>by
          have g1:=(Ja.cU y hy).1;have g2:=bM g1.1 g1.2.1;simp only at e;rcases Ja.Dk y hy with g|g<;>omega
         rw [← Ln] at cm;rw [← Ln];refine Wz ?_;refine SW.bp (i:=2) aq rfl rfl rfl rfl fun w8 cS hg => ?_
         have hG:=aq.gr hg;replace hw:=hw.own bL hg;replace az:=az.grown hg (by simpa using jF.symm);(replace bJ:=bJ.au hG rfl;replace cm:=cm.au hG rfl;replace hT:=hT.au hG rfl);refine Wz ?_;exact ae.again (q-1,mM ty x.At q l,A2,c2) ⟨rfl,rfl,rfl,rfl,trivial⟩ (by simp only;omega) ⟨hw,cS,az,bJ,cm,hT,Ja,by simp only;omega,y6,by simp only;omega,BM⟩
       ·obtain rfl:o=q:=by omega
        have GP:l=I9:=by
         rw [← y6,show (o-o).toNat=0 by omega];rfl
        rw [GP] at hX;rw [GP] at aq;refine Wz ?_;refine CW.l9 3 5 (fun w2=>aT w2 uN 165 [.int .i64 x.At,.int .i64 o,.int .i64 ty]) mixed (by kernel_rfl) fun w1 aa bm => ?_
        replace hw:=Ext.trans hw aa;replace aq:=aq.ext aa;replace az:=az.ext aa;replace bJ:=bJ.ext aa;replace hX:=hX.ext aa;replace hT:=hT.ext aa;clear aa;refine Wf ?_;refine SF.hU 1 [] bm rfl (by kernel_rfl) (by kernel_rfl) (by kernel_rfl) (br rfl) (fun w2 hS=>br rfl) rfl ?_;refine SF.hU 2 [] bm rfl (by kernel_rfl) (by kernel_rfl) (by kernel_rfl) (ax rfl (bJ.cell (i:=0) (v := .int .i64 x.At) rfl)) (fun w2 hS=>ax rfl (hS.cell (i:=0) (v := .int .i64 x.At) rfl)) rfl ?_;refine SF.turn rfl (by kernel_rfl) rfl ?_;refine SW.ah az rfl rfl rfl rfl (cx ⟨s.aw,s.To,⟨A,I9.length,c⟩,s.Types⟩) fun w5 ct hg => ?_
        have hG:=az.gr hg;have hS:=bJ.au hG rfl;replace hw:=hw.own dU hg;(replace hX:=hX.au hG rfl;replace hT:=hT.au hG rfl);refine SW.nil (ae.sg hS ?_);refine SG.one 4 rfl (by kernel_rfl) rfl ?_;repeat (refine SW.pure rfl rfl ?_)
        refine SW.nil (ae.sg hS ?_);refine SG.last rfl (by kernel_rfl) (by kernel_rfl) ?_;refine Wz ?_;exact ae.mB rfl rfl rfl rfl ct rfl ⟨_,rfl,hw,_,iO,⟨s.aw,s.To,⟨A,I9.length,c⟩,s.Types⟩,rfl,⟨sF,sT,hX,hT⟩⟩
   ·have xc:=rD;unfold fR at xc;rcases (show t<0∨(0≤t∧2<t) by omega) with g|g
    all_goals
     repeat' (first|refine Wz ?_|(refine SW.call rfl rfl (c1 _ hw) ?_;intro v w1 aa hv;subst hv;replace hw:=Ext.trans hw aa;replace aq:=aq.ext aa;replace az:=az.ext aa;clear aa))
     refine SW.ah az rfl rfl rfl rfl (cx .zero) fun w5 ct hg => ?_
     replace hw:=hw.own dU hg;refine Wz ?_;exact ae.mB rfl rfl rfl rfl ct rfl ⟨_,rfl,hw,_,.kind hq ho rD,ly.zero 2 _ _⟩
  ·rcases (show o<0∨(0≤o∧4<o) by omega) with g|g
   all_goals
    repeat' (first|refine Wz ?_|(refine SW.call rfl rfl (c1 _ hw) ?_;intro v w1 aa hv;subst hv;replace hw:=Ext.trans hw aa;replace aq:=aq.ext aa;replace az:=az.ext aa;clear aa))
    refine SW.ah az rfl rfl rfl rfl (cx .zero) fun w5 ct hg => ?_
    replace hw:=hw.own dU hg;refine Wz ?_;exact ae.mB rfl rfl rfl rfl ct rfl ⟨_,rfl,hw,_,.range hq ho,ly.zero 1 _ _⟩
open Go.RowKit
theorem vZ : Tryz.prog.globalNamed "paddock/buddy.others" = some 1 := by kernel_rfl
theorem xu:(Tryz.prog.globals[1]?).map (·.type)=some 281:=by kernel_rfl
set_option maxRecDepth 100000 in
theorem v5 {W:World} {cs:List Value} {fuel:Nat} {p:List MemPlace} {enc:TypeId×Value→Unit} {base:Nat} {spare:Nat→Bool} {held:Bool} (h:DataW.trod enc Tryz.prog W base spare held fuel 281 cs=some (Rows.laid_paddock_buddy_others,p)) :
 cs=[.int .i64 2,.int .i64 1,.int .i64 2,.int .i64 0,.int .i64 0,.int .i64 1]:=by
 have c2:Tryz.prog.cellsOf 280=2:=by kernel_rfl
 have c6:Tryz.prog.cellsOf 281=6:=by kernel_rfl
 have c1:Tryz.prog.cellsOf 3=1:=by kernel_rfl
 obtain ⟨xs,m,rfl,hx,hlen,hn,CX⟩:=DataW.trod_array Tryz.underlying281 h;rw [c6] at hlen;rw [c2] at CX;simp only [Prod.mk.injEq] at hx
 have pair:∀ (a b:Value) (u v:Int) (x:DataW Unit×List MemPlace),DataW.trod enc Tryz.prog W base spare held m 280 [a,b]=some x→x.1 = .agg [.lit (.int .i64 u),.lit (.int .i64 v)]→a = .int .i64 u∧b = .int .i64 v:=by
  intro a b u v x hx e;obtain ⟨ys,k,rfl,rfl,_,hk,he⟩:=DataW.trod_array Tryz.underlying280 hx;rw [c1] at he
  match ys,hk with
  | [y0,y1],_ =>
    have h0:=he 0 (by decide);have h1:=he 1 (by decide);obtain ⟨z0,e0,f0,_⟩:=DataW.trod_int Tryz.underlying3 (show DataW.trod enc Tryz.prog W base spare held k 3 [a]=some y0 from h0);obtain ⟨z1,e1,f1,_⟩:=DataW.trod_int Tryz.underlying3 (show DataW.trod enc Tryz.prog W base spare held k 3 [b]=some y1 from h1);rw [f0,f1] at e;simp at e e0 e1;rw [e0,e1,e.1,e.2];exact ⟨rfl,rfl⟩
 match cs,hlen,xs,hn with
 | [a,b,c,d,e,f],_,[x0,x1,x2],_ =>
   have h0:=CX 0 (by decide);have h1:=CX 1 (by decide);have h2:=CX 2 (by decide);have j0:=hx.1;simp only [Rows.laid_paddock_buddy_others,List.map_cons,List.map_nil,DataW.agg.injEq,List.cons.injEq,and_true] at j0;obtain ⟨rfl,rfl⟩:=pair a b 2 1 x0 h0 j0.1.symm;obtain ⟨rfl,rfl⟩:=pair c d 2 0 x1 h1 j0.2.1.symm;obtain ⟨rfl,rfl⟩:=pair e f 0 1 x2 h2 j0.2.2.symm
   rfl
open Go.RowKit
def dF (a b:ByteArray) : Bool:=Op.bytesLess a.toList b.toList
theorem bytes_trans:∀ x y z:List UInt8,Op.bytesLess x y=true→Op.bytesLess y z=true→Op.bytesLess x z=true
 | _,[],_,h,_=>by simp [Op.bytesLess] at h
 | _,_::_,[],_,h=>by simp [Op.bytesLess] at h
 | [],_::_,_::_,_,_=>by simp [Op.bytesLess]
 | a::x,b::y,c::z,h,k=>by
   simp only [Op.bytesLess,Bool.or_eq_true,decide_eq_true_eq,Bool.and_eq_true,beq_iff_eq] at h k ⊢;rcases h with h|⟨rfl,h⟩<;>rcases k with k|⟨rfl,k⟩
   ·have h':a.toNat<b.toNat:=h
    have k':b.toNat<c.toNat:=k
    exact .inl (show a.toNat<c.toNat by omega)
   ·exact .inl h
   ·exact .inl k
   ·exact .inr ⟨rfl,bytes_trans x y z h k⟩
theorem AS (a b:ByteArray) : (a.toList == b.toList)=decide (a=b):=by
 by_cases h:a=b
 ·subst h;simp
 ·have : ¬ a.toList=b.toList:=fun e=>h (by
   have e1:=congrArg (fun l:List UInt8=>ByteArray.mk l.toArray) e;simp only [ByteArray.toList_eq] at e1;cases a;cases b;simpa using e1)
  simp [h,this]
theorem mO {a b c:ByteArray} (h:dF a b=true) (k:dF b c=true) : dF a c=true:=bytes_trans _ _ _ h k
class AT (P:Program) (t:TypeId) : Prop where
 kz:P.underlying t=some .string
def v7 (b:UInt8) : List Value:=[.int .u8 b.toNat]
section
variable {P:Program} {L:Env} {w:World} {d:Option Nat} {T:TypeId} {pos:String} {af:Array Edge} {g:Option (Nat×Bool)}
theorem jI {t ty:TypeId} {x y:Operand} {a b:ByteArray} (hx:bF L x=some (.string a)) (hy:bF L y=some (.string b)) : St P ⟨d,.binOp .eql t x y ty,T,pos,af,g⟩ L w (.bool (decide (a=b))) :=
 ⟨fun _ A hA w' _=>by
  have e1:=hA.eval hx;have e2:=hA.eval hy;generalize A.eval = ρ at *
  have h1:(binOp .eql t (.string a) (.string b)).run P w' = .ok (.bool (decide (a=b))) w':=by
   have:binOp .eql t (.string a) (.string b)=Op.stringOp .eql a b:=by simp [binOp]
   rw [this,← AS];simp [Op.stringOp,pure]
  simp [execOp,e1,e2,eqGuard,h1]⟩
theorem xv {t ty:TypeId} {x y:Operand} {a b:ByteArray} (hx:bF L x=some (.string a)) (hy:bF L y=some (.string b)) : St P ⟨d,.binOp .geq t x y ty,T,pos,af,g⟩ L w (.bool (!dF a b)) :=
 ⟨fun _ A hA w' _=>by
  have e1:=hA.eval hx;have e2:=hA.eval hy;generalize A.eval = ρ at *
  have h1:(binOp .geq t (.string a) (.string b)).run P w' = .ok (.bool (!dF a b)) w':=by
   have:binOp .geq t (.string a) (.string b)=Op.stringOp .geq a b:=by simp [binOp]
   rw [this];simp [Op.stringOp,pure,dF]
  simp [execOp,e1,e2,eqGuard,h1]⟩
theorem DI {t ty:TypeId} {x y:Operand} {a b:ByteArray} (hx:bF L x=some (.string a)) (hy:bF L y=some (.string b)) : St P ⟨d,.binOp .lss t x y ty,T,pos,af,g⟩ L w (.bool (dF a b)) :=
 ⟨fun _ A hA w' _=>by
  have e1:=hA.eval hx;have e2:=hA.eval hy;generalize A.eval = ρ at *
  have h1:(binOp .lss t (.string a) (.string b)).run P w' = .ok (.bool (dF a b)) w':=by
   have:binOp .lss t (.string a) (.string b)=Op.stringOp .lss a b:=by simp [binOp]
   rw [this];simp [Op.stringOp,pure,dF]
  simp [execOp,e1,e2,eqGuard,h1]⟩
theorem uO {t ty:TypeId} {x y:Operand} {a b:ByteArray} (hx:bF L x=some (.string a)) (hy:bF L y=some (.string b)) : St P ⟨d,.binOp .neq t x y ty,T,pos,af,g⟩ L w (.bool (decide (a≠b))) :=
 ⟨fun _ A hA w' _=>by
  have e1:=hA.eval hx;have e2:=hA.eval hy;generalize A.eval = ρ at *
  have h1:(binOp .neq t (.string a) (.string b)).run P w' = .ok (.bool (decide (a≠b))) w':=by
   have:binOp .neq t (.string a) (.string b)=Op.stringOp .neq a b:=by simp [binOp]
   rw [this];have e:decide (a≠b) = !(a.toList == b.toList):=by rw [AS];simp
   rw [e];simp [Op.stringOp,pure]
  simp [execOp,e1,e2,eqGuard,h1]⟩
theorem AU {t:TypeId} [c:AT P t] {x:Operand} {s:ByteArray} (hx:bF L x=some (.string s)) :
 St P ⟨d,.call ⟨.builtin .len,#[x],#[t]⟩,T,pos,af,g⟩ L w (.int .i64 (s.size:Int)) :=
 ⟨fun _ a ha w' _=>by simp [execOp,resolve,invoke,builtin,ha.eval hx,Builtin.len_,run_underlying c.kz,goInt]⟩
end
section
variable {P:Program} {n:Nat} {ops:Array Oper} {Q:Exit→Act→World→Prop} {rest:List Oper} {L:Env} {w:World} {T:TypeId} {pos:String} {af:Array Edge}
theorem SW.BN {d:Nat} {src dst e:TypeId} [S:AT P src] [D:aX P dst e 1] (he:P.underlying e=some (.int .u8)) {x:Operand} {s:ByteArray} (hx:bF L x=some (.string s)) (hn:Nat.blt d n=true)
 (h:∀ b c w',Ext w w'→w.heap.size≤b→Sl w' 1 v7 (some ⟨b,0,none⟩) s.size s.data.toList→SW P n ops (.fB Q) rest ((d,.slice (some ⟨b,0,none⟩) s.size c)::L) w') :
 SW P n ops (.fB Q) (⟨some d,.convert src dst x,T,pos,af,none⟩::rest) L w :=
 ⟨fun a ha=>by
  simp only [swp,wpList,Region.wanted,if_true];refine .inl ?_;unfold Oper.wp;have hr:=Lib.run_convert_string_bytes (P:=P) w src dst e s S.kz D.kz he
  have:(execOp a.eval ⟨some d,.convert src dst x,T,pos,af,none⟩).run P w = .ok (.value (.slice (some ⟨w.heap.size,0,none⟩) s.size (grownCap w s.size 0 e))) (Lib.bytesWorld w e s):=by
   simp [execOp,ha.eval hx,hr]
  rw [this,Oper.upon_value];have hE:Ext w (Lib.bytesWorld w e s):=⟨rfl,rfl,rfl,by rw [Lib.bytesWorld_size];omega,fun j hj=>Lib.bytesWorld_at_old w e s j hj⟩
  refine (h _ _ _ hE (Nat.le_refl _) ⟨?_,fun _=>rfl,fun i hi j u hu => ?_⟩).out _ (ha.put hn _)
  ·exact Array.length_toList
  ·have I6:i<s.size:=by rw [Array.length_toList] at hi;exact hi
   have:=Lib.bytesWorld_cell w e s i I6
   match j,hu with
   | 0,hu =>
     simp only [v7,List.getElem?_cons_zero,Option.some.injEq] at hu;rw [add_zero]
     have e2:(((some (⟨w.heap.size,0,none⟩ : Addr)).getD default).add (i*1))=⟨w.heap.size,i,none⟩:=by
      simp only [Option.getD_some,Nat.mul_one];unfold Addr.add;split<;>simp_all
     rw [e2,this,← hu];have e3:s.data.toList.getD i 0=s.data.toList[i]:=by simp [List.getD,I6]
     rw [e3]
   | j+1,hu=>simp [v7] at hu⟩
end
end Go.Proofs.YtbidkghlpijecaaGreatDoor
