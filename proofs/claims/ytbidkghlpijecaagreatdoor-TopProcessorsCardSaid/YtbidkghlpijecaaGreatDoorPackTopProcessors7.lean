/-
  Texts of the claim TopProcessors, part 7: what its theorem leans on.
-/
import Derived.Test.YtbidkghlpijecaaGreatDoorPackTopProcessors6
import Derived.Test.YtbidkghlpijecaaGreatDoorPackTopProcessors5
import Derived.Test.YtbidkghlpijecaaGreatDoorPackTopProcessors2
import Derived.Test.YtbidkghlpijecaaGreatDoorRows
import Derived.ProofKit
import Derived.LaidMore
import Derived.OpenShut
import Derived.Stop.Joined
import Derived.Test.YtbidkghlpijecaaGreatDoorPackTopProcessors1
import Derived.Lib.ConvBytes
import Derived.Laws.Strings
set_option linter.unusedVariables false
set_option linter.unusedSimpArgs false
namespace Go.Proofs.YtbidkghlpijecaaGreatDoor
open Go.RowKit
section
variable {P:Program} {L:Env} {w:World} {d:Option Nat} {T:TypeId} {pos:String} {af:Array Edge} {g:Option (Nat×Bool)}
theorem nl {t e:TypeId} {len:Nat} [c:va P t len e 1] [gH P e] {x y:Operand} {vs:List Value} {i:Int} {v:Value} (k:Nat) (hx:cg L x=some (.agg vs.toArray)) (hy:cg L y=some (.int .i64 i)) (hi:i=(k:Int)) (hk:k<len) (hv:vs[k]?=some v) :
 St P ⟨d,.index t x y,T,pos,af,g⟩ L w v :=
 ⟨fun _ a ha w' _=>by
  subst hi;have e1:=ha.eval hx;have e2:=ha.eval hy;generalize a.eval = ρ at *
  simp [execOp,e1,e2,Instr.index,asIntOf,run_underlying c.mB,run_sizeOf c.size,hk,part,pV,hv]⟩
end
theorem GN (o t:Int) (b4 b5:Nat) (x:Block) (w:World) (h4:aW w b4 3 [.int .i64 o]) (h5:aW w b5 3 [.int .i64 t]) :
 bq Tryz.prog 275 ([.agg (aL x).toArray]++[.pointer (some ⟨b4,0,none⟩),.pointer (some ⟨b5,0,none⟩)]) w fun v _=>v = .bool (oJ o t x):=by
 refine aG Tryz.func275 rfl Tryz.ntmps275 rfl ?_;refine CW.seq (CW.region (SW.box rfl rfl fun b1 w1 hw jh aI => ?_));replace h4:=h4.ext hw;replace h5:=h5.ext hw;have PV:=h4.cell (i:=0) (v := .int .i64 o) rfl;have RF:=h5.cell (i:=0) (v := .int .i64 t) rfl;rw [add_zero] at PV RF;by_cases h1:x.Order=o
 ·repeat' (first|refine Wz ?_|refine SW.st (aq rfl PV) rfl ?_|refine SW.st (aq rfl RF) rfl ?_)
  exact ah.aY rfl rfl ⟨_,rfl,hw,by simp [oJ,h1]⟩
 ·repeat' (first|refine Wz ?_|refine SW.st (aq rfl PV) rfl ?_)
  exact ah.aY rfl rfl ⟨_,rfl,hw,by simp [oJ,h1]⟩
theorem CB (r:cU) (l:List Block) (o t:Int) (w:World) (hl:Sl w 3 aL r.aj.A r.aj.n l) (hn:r.aj.n≤9223372036854775807) :
 bq Tryz.prog 264 [.agg (bX r).toArray,.int .i64 o,.int .i64 t] w fun v _=>v = .int .i64 (idxOf (oJ o t) l):=by
 refine aG Tryz.func264 rfl Tryz.ntmps264 rfl ?_;refine CW.seq (CW.region (SW.box rfl rfl fun b3 w1 hw bQ ax => ?_));refine SW.Gu rfl rfl rfl fun b4 w2 bF jF bd => ?_
 (replace hw:=Ext.trans hw bF;replace ax:=ax.ext bF);refine SW.Gu rfl rfl rfl fun b5 w3 jA jj bC => ?_
 (replace hw:=Ext.trans hw jA;replace ax:=ax.ext jA;replace bd:=bd.ext jA);repeat' (first|refine Wz ?_|(refine SW.st (gI (vs:=[.pointer (some ⟨b4,0,none⟩),.pointer (some ⟨b5,0,none⟩)]) rfl) rfl ?_))
 refine SW.call rfl rfl (lx _ _ _ _ _ (hl.ext hw) _ [.pointer (some ⟨b4,0,none⟩),.pointer (some ⟨b5,0,none⟩)] (oJ o t) (fun x => .agg (aL x).toArray) (fun x=>rfl) (fun x hx w1 jn=>GN o t b4 b5 x w1 (bd.ext jn) (bC.ext jn)) hn) fun v w4 eM hv => ?_
 subst hv;replace hw:=Ext.trans hw eM;refine Wz ?_;exact ah.aY rfl rfl ⟨_,rfl,hw,rfl⟩
structure mI (T:TypeId) (w w':World) : Prop where
 out:∀ b cs,aW w b T cs→aW w' b T cs
theorem mI.refl (T:TypeId) (w:World) : mI T w w:=⟨fun _ _ h=>h⟩
theorem mI.ext {T:TypeId} {w w1 w2:World} (h:mI T w w1) (hx:Ext w1 w2) : mI T w w2:=⟨fun b cs hb=>(h.out b cs hb).ext hx⟩
theorem mI.aw {T t:TypeId} {w w1 w2:World} (h:mI T w w1) (hG:r7 w1 w2 t) (bW:Nat.beq t T=false) : mI T w w2:=⟨fun b cs hb=>(h.out b cs hb).aw hG bW⟩
def EZ (T:List Int) (i:Nat) (t:Int) (c:Nat) : List Int:=if c=0 then T else if c≤8 then T.set i t else (T.set i t).set (i+1) t
theorem E0 {T:List Int} {i:Nat} {t:Int} {c:Nat} (hc:c<16) : (EZ T i t c).set (i+c / 8) t=EZ T i t (c+1):=by
 unfold EZ;rcases (show c=0∨(1≤c∧c<8)∨c=8∨(8<c∧c<16) by omega) with rfl|h|rfl|h
 ·simp
 ·have e:c / 8=0:=by omega
  rw [if_neg (by omega),if_pos (by omega),if_neg (by omega),if_pos (by omega),e,Nat.add_zero,List.set_set]
 ·simp
 ·have e:c / 8=1:=by omega
  rw [if_neg (by omega),if_neg (by omega),if_neg (by omega),if_neg (by omega),e,List.set_set]
def lC {α:Type} (f : α → α) (l:List α) (j:Nat) : List α := (l.take j).map f++l.drop j
theorem sy {α:Type} {f : α → α} {l:List α} {j:Nat}:(lC f l j).length=l.length:=by simp [lC];omega
theorem xM {α:Type} {f : α → α} {l:List α} {j:Nat} (hj:j<l.length) : (lC f l j)[j]'(by rw [sy];exact hj)=l[j]:=by
 have e:(lC f l j)[j]?=l[j]?:=by
  unfold lC;rw [List.getElem?_append_right (by simp;omega)];have:j-((l.take j).map f).length=0:=by simp;omega
  rw [this,List.getElem?_drop];simp
 rw [List.getElem?_eq_getElem (by rw [sy];exact hj),List.getElem?_eq_getElem hj] at e;exact Option.some.inj e
theorem xN {α:Type} {f : α → α} {l:List α} {j:Nat} (hj:j<l.length) : (lC f l j).set j (f l[j])=lC f l (j+1):=by
 unfold lC;rw [List.set_append_right _ _ (by simp;omega)];have:j-((l.take j).map f).length=0:=by simp;omega
 rw [this,List.take_succ_eq_append_getElem hj,List.map_append,List.drop_eq_getElem_cons hj,List.set_cons_zero];simp
theorem CC {α:Type} {f : α → α} {l:List α} {j:Nat} (hj:j<l.length) (hf:f l[j]=l[j]) : lC f l (j+1)=lC f l j:=by
 rw [← xN hj,hf];have:=xM (f:=f) hj
 rw [← this];exact List.set_getElem_self (by rw [sy];exact hj)
theorem CD {α:Type} {f : α → α} {l:List α}:lC f l 0=l:=by simp [lC]
theorem E1 {α:Type} {f : α → α} {l:List α}:lC f l l.length=l.map f:=by simp [lC]
theorem GO {f a o:Int} (hf:f % 16=0) (IQ:f≤a) (h2 : 2≤o) (h4:o≤4) (hm:a % pw o=0) {c:Nat} (hc:(c:Int)<pw o) : (a+c-f) / 8=((((a-f) / 8).toNat+c / 8:Nat) : Int):=by
 rcases dU (show 0≤o by omega) h4 with ⟨e1,e2⟩|⟨e1,e2⟩|⟨e1,e2⟩|⟨e1,e2⟩|⟨e1,e2⟩<;>rw [e2] at hm hc<;>omega
theorem GP {b:Block} (h2 : 2≤b.Order) (h4:b.Order≤4) (hm:b.At % pw b.Order=0) : max (b.At+pw b.Order) (b.At / 8*8+8)=AE b:=by
 unfold AE;rcases dU (show 0≤b.Order by omega) h4 with ⟨e1,e2⟩|⟨e1,e2⟩|⟨e1,e2⟩|⟨e1,e2⟩|⟨e1,e2⟩<;>rw [e2] at hm ⊢<;>split<;>omega
structure GQ (base w:World) (r:cU) (z:ao) (b:Block) (t:Int) (w':World) : Prop where
 ext:Ext base w'
 qw:mI 139 w w'
 free:Own w' base.heap.size 165 3 aL r.aj.A r.aj.n r.aj.c (ia z.aj b t)
 types:Own w' base.heap.size 3 1 bK r.Types.A r.Types.n r.Types.c (iZ z b t)
set_option maxHeartbeats 2000000 in
theorem xO (r:cU) (z:ao) (k:Nat) (t:Int) (base w:World) (hB:Ext base w) (hX:Own w base.heap.size 165 3 aL r.aj.A r.aj.n r.aj.c z.aj) (hT:Own w base.heap.size 3 1 bK r.Types.A r.Types.n r.Types.c z.Types)
 (eF:r.aK=z.aK) (hz:bD z) (hk:k<z.aj.length) (hn:r.aj.n≤1000000000000000000) :
 jw Tryz.prog 265 [.agg (bX r).toArray,.int .i64 (k:Int),.int .i64 t] w fun _ w'=>GQ base w r z z.aj[k] t w':=by
 refine dM Tryz.func265 rfl Tryz.ntmps265 rfl ?_;obtain ⟨f1,f2,f3,f4,f5⟩:=(hz.dD k hk).1;obtain ⟨o1,o2,o3,o4,o5⟩:=hz.ok;have hlen:=hz.len;have IP:=hX.len;have MX:=hT.len;have hA:=hX.sl.base;have Vi:=hT.sl.base;have dY:k<r.aj.n:=by omega
 refine CW.seq (CW.region (SW.box rfl rfl fun b3 w1 ae bQ ax => ?_));have hw:=Ext.trans hB ae;have hK:mI 139 w w1:=(mI.refl _ w).ext ae
 replace hX:=hX.ext ae;replace hT:=hT.ext ae;have dB:base.heap.size≤b3:=Nat.le_trans hB.size bQ
 clear ae bQ;obtain ⟨x,hx⟩ : ∃ x,z.aj[k]=x:=⟨_,rfl⟩;rw [hx] at f1 f2 f3 f4 f5 ⊢;have hg:=hX.sl.all dY;simp only [hx] at hg;repeat' (first|refine Wz ?_|refine SW.st (aB rfl rfl hg) rfl ?_)
 refine SW.alloc rfl fun b6 w1 ae Pc aA => ?_
 have PW:base.heap.size≤b6:=Nat.le_trans hw.size Pc
 have PX:aM r.aj.A r.aj.c≠some b6:=fun e=>by have:=hX.lt_size _ e;omega
 replace hw:=Ext.trans hw ae;replace ax:=ax.ext ae;replace hX:=hX.ext ae;replace hT:=hT.ext ae;replace hK:=hK.ext ae;skip;refine SW.ak aA rfl rfl rfl rfl (fP.one (enc:=aL) x) fun w2 dE hg => ?_
 have hG:=aA.gr hg;replace hw:=hw.own PW hg;replace hX:=hX.grown hg (.inr PX);(replace ax:=ax.aw hG rfl;replace hT:=hT.aw hG rfl;replace hK:=hK.aw hG rfl);replace aA:=dE;clear dE hg hG ae Pc;by_cases h2:x.Order<2
 ·refine Wz ?_;exact ah.LG rfl ⟨_,rfl,hw,hK,by rw [ia,if_pos h2];exact hX,by rw [iZ,if_pos h2];exact hT⟩
 ·refine Wz ?_;have hp:=bT f1 f2;have IR:∀ c:Nat,(c:Int)<pw x.Order→(x.At+c-z.aK) / 8=((ri z x+c / 8:Nat) : Int):=fun c hc=>GO o4 f3 (by omega) f2 f5 hc
  have cE:∀ w',bq Tryz.prog 230 [.agg (aL x).toArray] w' fun v _=>v = .int .i64 (x.At+pw x.Order):=fun w'=>mC x w' ⟨f1,f2⟩ ⟨by omega,by omega⟩
  refine CW.loop (fun c:Nat=>[(2,.int .i64 t),(3,.pointer (some ⟨b3,0,none⟩)),(6,.pointer (some ⟨b6,0,none⟩)),(7,.int .i64 (x.At+(c:Int)))])
   (fun c w'=>(c:Int)≤pw x.Order∧Ext base w'∧mI 139 w w'∧aW w' b3 139 (bX r)∧aW w' b6 165 (aL x)∧Own w' base.heap.size 165 3 aL r.aj.A r.aj.n r.aj.c z.aj∧Own w' base.heap.size 3 1 bK r.Types.A r.Types.n r.Types.c (EZ z.Types (ri z x) t c))
   (fun c=>(pw x.Order).toNat-c) 0 ⟨rfl,rfl,rfl,congrArg (fun z=>some (Value.int .i64 z)) (by omega),trivial⟩ ⟨by omega,hw,hK,ax,aA,hX,hT⟩ ?_
  clear hw hK ax aA hX hT;rintro c w' ⟨hc,hw,hK,ax,aA,hX,hT⟩
  by_cases qa:(c:Int)<pw x.Order
  ·have Vj:=IR c qa
   have df:ri z x+c / 8<r.Types.n:=by
    have:x.At+c<z.To:=by
     rcases dU f1 f2 with ⟨e1,e2⟩|⟨e1,e2⟩|⟨e1,e2⟩|⟨e1,e2⟩|⟨e1,e2⟩<;>rw [e2] at f5 qa<;>omega
    omega
   have PY:c<16:=by omega
   repeat' (first|refine Wz ?_|refine SW.st (aZ (ri z x+c / 8) rfl rfl (by assumption) (by omega) (by omega)) rfl ?_|(refine SW.call rfl rfl (cE _) ?_;intro v w1 ae hv;subst hv;replace hw:=Ext.trans hw ae;replace ax:=ax.ext ae;replace aA:=aA.ext ae;replace hX:=hX.ext ae;replace hT:=hT.ext ae;replace hK:=hK.ext ae;clear ae))
   refine SW.oB (ri z x+c / 8) hT rfl rfl df fun w5 M0 hg => ?_
   have hG:=hT.gr hg;replace hw:=aO hw hg (Nat.le_refl _) hT.bc;(replace ax:=ax.aw hG rfl;replace aA:=aA.aw hG rfl;replace hX:=hX.aw hG rfl;replace hK:=hK.aw hG rfl);rw [E0 PY] at M0;refine Wz ?_;exact ah.again (c+1) ⟨rfl,rfl,rfl,congrArg (fun z=>some (Value.int .i64 z)) (by omega),trivial⟩ (by omega) ⟨by omega,hw,hK,ax,aA,hX,M0⟩
  ·have Vk:(c:Int)=pw x.Order:=by omega
   have si:EZ z.Types (ri z x) t c=iZ z x t:=by
    unfold EZ iZ;rcases dU f1 f2 with ⟨e1,e2⟩|⟨e1,e2⟩|⟨e1,e2⟩|⟨e1,e2⟩|⟨e1,e2⟩
    ·omega
    ·omega
    ·rw [if_neg (by omega),if_pos (by omega),if_neg (by omega),if_neg (by omega)]
    ·rw [if_neg (by omega),if_pos (by omega),if_neg (by omega),if_neg (by omega)]
    ·rw [if_neg (by omega),if_neg (by omega),if_neg (by omega),if_pos (by omega)]
   rw [si] at hT;have D5:=GP (b:=x) (by omega) f2 f5;repeat' (first|refine Wz ?_|(refine SW.call rfl rfl (cE _) ?_;intro v w1 ae hv;subst hv;replace hw:=Ext.trans hw ae;replace ax:=ax.ext ae;replace aA:=aA.ext ae;replace hX:=hX.ext ae;replace hT:=hT.ext ae;replace hK:=hK.ext ae;clear ae)|(refine SW.st ((yZ rfl rfl).eq (congrArg (Value.int .i64) D5)) rfl ?_))
   clear aA cE IR;obtain ⟨f,hf⟩ : ∃ f,Jf (x.At / 8*8) (AE x) t=f:=⟨_,rfl⟩
   refine CW.loop (fun j:Nat=>[(2,.int .i64 t),(3,.pointer (some ⟨b3,0,none⟩)),(8,.int .i64 (x.At / 8*8)),(9,.int .i64 (AE x)),(47,.slice r.aj.A r.aj.n r.aj.c),(48,.int .i64 (r.aj.n:Int)),(49,.int .i64 (j:Int))])
    (fun j w'=>j≤r.aj.n∧Ext base w'∧mI 139 w w'∧aW w' b3 139 (bX r)∧Own w' base.heap.size 165 3 aL r.aj.A r.aj.n r.aj.c (lC f z.aj j)∧Own w' base.heap.size 3 1 bK r.Types.A r.Types.n r.Types.c (iZ z x t))
    (fun j=>r.aj.n-j) 0 ⟨rfl,rfl,rfl,rfl,rfl,rfl,rfl,trivial⟩ ⟨by omega,hw,hK,ax,by rw [CD];exact hX,hT⟩ ?_
   clear hw hK ax hX hT;rintro j w' ⟨hj,hw,hK,ax,hX,hT⟩
   by_cases nd:j<r.aj.n
   ·have pq:j<z.aj.length:=by omega
    obtain ⟨g1,g2,g3,g4,g5⟩:=(hz.dD j pq).1;obtain ⟨y,hy⟩ : ∃ y,z.aj[j]=y:=⟨_,rfl⟩;have j2:=xM (f:=f) pq;rw [hy] at g1 g2 g3 g4 g5 j2;have fk:=hX.sl.all nd;simp only [j2] at fk;have Vl:=bT g1 g2;have cY:∀ w',bq Tryz.prog 230 [.agg (aL y).toArray] w' fun v _=>v = .int .i64 (y.At+pw y.Order):=fun w'=>mC y w' ⟨g1,g2⟩ ⟨by omega,by omega⟩
    repeat' (first|refine Wz ?_|refine SW.st (aB rfl rfl fk) rfl ?_)
    refine SW.alloc rfl fun GR w1 ae hb du => ?_
    have z8:base.heap.size≤GR:=Nat.le_trans hw.size hb
    have bW:aM r.aj.A r.aj.c≠some GR:=fun e=>by have:=hX.lt_size _ e;omega
    replace hw:=Ext.trans hw ae;replace ax:=ax.ext ae;replace hX:=hX.ext ae;replace hT:=hT.ext ae;replace hK:=hK.ext ae;refine Wz ?_;refine SW.ak du rfl rfl rfl rfl (fP.one (enc:=aL) y) fun w2 lY hg => ?_
    have hG:=du.gr hg;replace hw:=hw.own z8 hg;replace hX:=hX.grown hg (.inr bW);(replace ax:=ax.aw hG rfl;replace hT:=hT.aw hG rfl;replace hK:=hK.aw hG rfl);replace du:=lY;clear lY hg hG ae hb;by_cases Kn:x.At / 8*8≤y.At∧y.At+pw y.Order≤AE x
    ·have PZ:f y=⟨y.At,y.Order,t⟩:=by rw [← hf];unfold Jf;rw [if_pos Kn]
     repeat' (first|refine Wz ?_|(refine SW.call rfl rfl (cY _) ?_;intro v w1 ae hv;subst hv;replace hw:=Ext.trans hw ae;replace ax:=ax.ext ae;replace du:=du.ext ae;replace hX:=hX.ext ae;replace hT:=hT.ext ae;replace hK:=hK.ext ae;clear ae))
     refine SW.fH j 2 ⟨y.At,y.Order,t⟩ hX rfl rfl rfl nd (by decide) rfl (by rw [j2];rfl) fun w5 zg hg => ?_
     have hG:=hX.gr hg;replace hw:=aO hw hg (Nat.le_refl _) hX.bc;(replace ax:=ax.aw hG rfl;replace hT:=hT.aw hG rfl;replace hK:=hK.aw hG rfl);rw [← PZ,← hy,xN pq] at zg;refine Wz ?_;exact ah.again (j+1) ⟨rfl,rfl,rfl,rfl,rfl,rfl,rfl,trivial⟩ (by omega) ⟨by omega,hw,hK,ax,zg,hT⟩
    ·have PZ:f y=y:=by rw [← hf];unfold Jf;rw [if_neg Kn]
     have P1:=CC (f:=f) pq (by rw [hy];exact PZ);by_cases xf:x.At / 8*8≤y.At
     all_goals
      repeat' (first|refine Wz ?_|(refine SW.call rfl rfl (cY _) ?_;intro v w1 ae hv;subst hv;replace hw:=Ext.trans hw ae;replace ax:=ax.ext ae;replace du:=du.ext ae;replace hX:=hX.ext ae;replace hT:=hT.ext ae;replace hK:=hK.ext ae;clear ae))
      exact ah.again (j+1) ⟨rfl,rfl,rfl,rfl,rfl,rfl,rfl,trivial⟩ (by omega) ⟨by omega,hw,hK,ax,by rw [P1];exact hX,hT⟩
   ·obtain rfl:j=r.aj.n:=by omega
    refine Wz ?_;rw [← IP,E1,IP,← hf] at hX;exact ah.vB rfl ⟨_,rfl,hw,hK,by rw [ia,if_neg h2];exact hX,hT⟩
open Go.RowKit
structure nq (w:World) : Prop where
 row:∀ (k:Nat),k<3 → ∀ (j:Nat) (v:Value),[Value.int .i64 (xq (k:Int)),Value.int .i64 (xr (k:Int))][j]?=some v→w.cell? (((⟨1,0,none⟩ : Addr).add (k*2)).add j)=some v
theorem nq.ext {w w':World} (h:nq w) (hx:Ext w w') : nq w':=⟨fun k hk j v hv=>hx.cell (h.row k hk j v hv)⟩
def nr (lo:Nat) (u:ao×Int×Int) (v:Value) (w:World) : Prop := ∃ s,v = .tuple #[.agg (bX s).toArray,.int .i64 u.2.1,.int .i64 u.2.2]∧fc w lo s u.1
theorem nr.zero (e:Int) (lo:Nat) (w:World) : nr lo (.zero,0,e) (.tuple #[.agg (bX .zero).toArray,.int .i64 0,.int .i64 e]) w:=⟨.zero,rfl,fc.zero _ _⟩
theorem zn {α:Type} {p : α → Bool} {l:List α} (h:l.any p=true) : ∃ (k:Nat) (hk:k<l.length),p l[k]=true∧(∀ (j:Nat) (hj:j<l.length),j<k→p l[j]=false)∧idxOf p l=(k:Int):=by
 have h1:l.findIdx p<l.length:=List.findIdx_lt_length_of_exists (by simpa using h)
 exact ⟨l.findIdx p,h1,List.findIdx_getElem (w:=h1),fun j hj jm=>by simpa using List.not_of_lt_findIdx jm,by unfold idxOf;rw [if_pos h]⟩
theorem vD {α:Type} {p : α → Bool} {l:List α} (h:l.any p=false) : idxOf p l = -1:=by unfold idxOf;rw [h];rfl
theorem Own.GS {w:World} {lo b:Nat} {A:Option Addr} {n c:Nat} {l:List Block} {x:Block} (h:Own w lo 165 3 aL A n c l) (hB:aW w b 165 (aL x)) (hn : 0<n) (hx:∀ y∈l,y.At≠x.At) : aM A c≠some b:=by
 rcases h.row with ⟨h0,_⟩|⟨hc,g,ij,rfl,h1,h2,h3,h4,h5,h6⟩
 ·omega
 ·intro e;simp only [aM,Nat.pos_iff_ne_zero.1 hc,if_false,Option.map_some,Option.some.injEq] at e;subst e;unfold aW at hB;rw [h2] at hB;injection hB with hB
  injection hB with P2 _ _
  subst P2;have xf:c=1:=by simp [aL] at h5;omega
  have Gv:n=1:=by omega
  have hl:=h.len;rw [Gv] at hl;obtain ⟨y,rfl⟩:=List.length_eq_one_iff.1 hl;rw [Gv] at h6;simp [aL] at h6;exact hx y (by simp) h6.1.symm
set_option maxHeartbeats 8000000 in
theorem GU (r:cU) (z:ao) (o t:Int) (w:World) (hr:Ca w r z) (hf:(r.aj.n+1)*24≤140737488355328) (ht:r.Types.n*8≤140737488355328) (h1 : -9223372036854775808≤r.aK∧r.aK≤9223372036854775807) (h2 : -9223372036854775808≤r.To∧r.To≤9223372036854775807) (hO:nq w) :
 bq Tryz.prog 247 [.agg (bX r).toArray,.int .i64 o,.int .i64 t] w fun v w' => ∃ u,fL z o t u∧nr w.heap.size u v w':=by
 refine aG Tryz.func247 rfl Tryz.ntmps247 rfl ?_;refine CW.seq (CW.region (SW.box rfl rfl fun b3 w1 hw bQ ax => ?_));refine SW.alloc rfl fun b6 w2 bF eu aA => ?_
 have dl:w.heap.size≤b6:=Nat.le_trans hw.size eu
 have lB:b3≠b6:=by have:=ax.lt;omega
 (replace hw:=Ext.trans hw bF;replace ax:=ax.ext bF);have eF:=hr.from_;have eT:=hr.lV;have IP:=hr.free.len;have MX:=hr.types.len;obtain ⟨q,hq⟩ : ∃ q,dO z=q:=⟨_,rfl⟩
 have c1:∀ w',Ext w w'→bq Tryz.prog 176 [.agg (bX r).toArray] w' fun v _=>v = .int .i64 (if q then 0 else 8):=fun w' h=>by
  have:=jg r z w' (hr.ext h) (by omega) (by omega) h1 h2
  rwa [hq] at this
 cases q
 ·simp only [Bool.false_eq_true,if_false] at c1;repeat' (first|refine Wz ?_|(refine SW.call rfl rfl (c1 _ hw) ?_;intro v w1 ae hv;subst hv;replace hw:=Ext.trans hw ae;replace ax:=ax.ext ae;replace aA:=aA.ext ae;clear ae))
  skip;refine SW.ak aA rfl rfl rfl rfl (dr .zero) fun w5 bU hg => ?_
  replace hw:=hw.own dl hg;refine Wz ?_;exact ah.gK rfl rfl rfl rfl bU rfl ⟨_,rfl,hw,_,.bad hq,nr.zero 8 _ _⟩
 ·simp only [if_true] at c1;have hz:=ed.1 hq;obtain ⟨o1,o2,o3,o4,o5⟩:=hz.ok;by_cases ho : 0≤o∧o≤4
  ·by_cases si:ik t
   ·have An:=si;unfold ik at An;repeat' (first|refine Wz ?_|(refine SW.call rfl rfl (c1 _ hw) ?_;intro v w1 ae hv;subst hv;replace hw:=Ext.trans hw ae;replace ax:=ax.ext ae;replace aA:=aA.ext ae;clear ae))
    refine SW.call rfl rfl (pu r z _ (hr.ext hw) (by omega) ht) fun v w4 eM hv => ?_
    obtain ⟨s,rfl,hs,e1,e2⟩:=hv;replace hs:=hs.low hw.size;(replace hw:=Ext.trans hw eM;replace ax:=ax.ext eM;replace aA:=aA.ext eM);clear c1;skip;refine SW.ak ax rfl rfl rfl rfl (dr s) fun w5 cW hg => ?_
    have hG:=ax.gr hg;replace hw:=hw.own bQ hg;have hX:=hs.free.aw hG rfl;have hT:=hs.types.aw hG rfl;replace aA:=aA.grown hg (by simpa using lB.symm);replace ax:=cW;have es:s.aj.n=z.aj.length:=by rw [e1,IP]
    have sF:=hs.from_;have sT:=hs.lV;clear cW hg hG hs;have cL:∀ p u w',Sl w' 3 aL s.aj.A s.aj.n z.aj→bq Tryz.prog 264 [.agg (bX s).toArray,.int .i64 p,.int .i64 u] w' fun v _=>v = .int .i64 (idxOf (oJ p u) z.aj):=fun p u w' h=>CB s z.aj p u w' h (by omega)
    refine Wz ?_
    obtain ⟨K,hK⟩ : ∃ K:Env→World→Prop,K=fun L' w' => ∃ i:Int,jd L' [(1,.int .i64 o),(2,.int .i64 t),(3,.pointer (some ⟨b3,0,none⟩)),(6,.pointer (some ⟨b6,0,none⟩)),(10,.int .i64 i)]∧Ext w w'∧aW w' b3 139 (bX s)∧aW w' b6 139 (bX .zero) ∧
     Own w' w.heap.size 165 3 aL s.aj.A s.aj.n s.aj.c z.aj∧Own w' w.heap.size 3 1 bK s.Types.A s.Types.n s.Types.c z.Types∧((i = -1 ∧ ∀ m,m<5→jr z.aj o t m=false) ∨ ∃ k:Nat,i=(k:Int)∧jL z.aj o t (some (k,false))):=⟨_,rfl⟩
    refine CW.Lu K ?_ ?_
    ·refine CW.loop (fun u:Nat×Int=>[(1,.int .i64 o),(2,.int .i64 t),(3,.pointer (some ⟨b3,0,none⟩)),(6,.pointer (some ⟨b6,0,none⟩)),(10,.int .i64 u.2),(11,.int .i64 (o+(u.1:Int)))])
      (fun u w'=>Ext w w'∧aW w' b3 139 (bX s)∧aW w' b6 139 (bX .zero)∧Own w' w.heap.size 165 3 aL s.aj.A s.aj.n s.aj.c z.aj∧Own w' w.heap.size 3 1 bK s.Types.A s.Types.n s.Types.c z.Types ∧
        ((u.2 = -1∧(u.1:Int)≤5-o ∧ ∀ m,m<u.1→jr z.aj o t m=false) ∨ ∃ k:Nat,u.2=(k:Int)∧jL z.aj o t (some (k,false)))) (fun u=>if u.2<0 then 7-u.1 else 0) (0,-1)
      ⟨rfl,rfl,rfl,rfl,rfl,congrArg (fun z=>some (Value.int .i64 z)) (by simp),trivial⟩ ⟨hw,ax,aA,hX,hT,.inl ⟨rfl,by simp only;omega,fun m h=>by simp only at h;omega⟩⟩ ?_
     clear hw ax aA hX hT;rintro ⟨j,i⟩ w' ⟨hw,ax,aA,hX,hT,hI⟩
     simp only at hI ⊢;rcases hI with ⟨rfl,hj,hI⟩|⟨k,rfl,hP⟩
     ·by_cases hp:o+(j:Int)≤4
      ·have LI:j<5:=by omega
       have D5:=GJ (l:=z.aj) (o:=o) (t:=t) LI hp;cases fJ:z.aj.any (oJ (o+(j:Int)) t)
       ·have c2:=cL (o+(j:Int)) t;rw [vD fJ] at c2;repeat' (first|refine Wz ?_|(refine SW.call rfl rfl (c2 _ hX.sl) ?_;intro v w1 ae hv;subst hv;replace hw:=Ext.trans hw ae;replace ax:=ax.ext ae;replace aA:=aA.ext ae;replace hX:=hX.ext ae;replace hT:=hT.ext ae;clear ae))
        refine ah.again (j+1,-1) ⟨rfl,rfl,rfl,rfl,rfl,congrArg (fun z=>some (Value.int .i64 z)) (by simp only;omega),trivial⟩ (by simp only;(repeat' split)<;>omega) ⟨hw,ax,aA,hX,hT,.inl ⟨rfl,by simp only;omega,fun m h => ?_⟩⟩;simp only at h;by_cases e:m=j
        ·subst e;rw [D5,fJ]
        ·exact hI m (by omega)
       ·obtain ⟨k,hk,NE,sk,uF⟩:=zn fJ;have c2:=cL (o+(j:Int)) t;rw [uF] at c2;repeat' (first|refine Wz ?_|(refine SW.call rfl rfl (c2 _ hX.sl) ?_;intro v w1 ae hv;subst hv;replace hw:=Ext.trans hw ae;replace ax:=ax.ext ae;replace aA:=aA.ext ae;replace hX:=hX.ext ae;replace hT:=hT.ext ae;clear ae))
        have hP:jL z.aj o t (some (k,false)):=by
         have:=jL.hit (l:=z.aj) (o:=o) (t:=t) (n:=j) (k:=k) (by omega) (by rw [D5,fJ]) hI hk (by rw [uE LI,Cv LI];exact NE) (by rw [uE LI,Cv LI];exact sk)
         rwa [decide_eq_false (by omega)] at this
        exact ah.again (j+1,(k:Int)) ⟨rfl,rfl,rfl,rfl,rfl,congrArg (fun z=>some (Value.int .i64 z)) (by simp only;omega),trivial⟩ (by simp only;(repeat' split)<;>omega) ⟨hw,ax,aA,hX,hT,.inr ⟨k,rfl,hP⟩⟩
      ·refine Wz ?_
       have P3:∀ m,m<5→jr z.aj o t m=false:=fun m hm=>by
        by_cases e:m<j
        ·exact hI m e
        ·exact AD (by rw [uE hm];omega)
       exact ah.Av (K:=K) (by rw [hK];exact ⟨-1,⟨rfl,rfl,rfl,rfl,rfl,trivial⟩,hw,ax,aA,hX,hT,.inl ⟨rfl,P3⟩⟩)
     ·refine Wz ?_;exact ah.Av (K:=K) (by rw [hK];exact ⟨(k:Int),⟨rfl,rfl,rfl,rfl,rfl,trivial⟩,hw,ax,aA,hX,hT,.inr ⟨k,rfl,hP⟩⟩)
    ·clear hw ax aA hX hT;subst hK;rintro L' w' ⟨i0,lQ,hw,ax,aA,hX,hT,Ko⟩
     refine ah.sub lQ ?_;clear lQ;obtain ⟨kt,RG⟩ : ∃ kt:Nat,t=(kt:Int):=⟨t.toNat,by omega⟩;have NF:kt<3:=by omega
     have dN:=hO.row kt NF;rw [← RG] at dN;refine Wz ?_
     obtain ⟨K,hK⟩ : ∃ K:Env→World→Prop,K=fun L' w' => ∃ (i:Int) (F:List Block) (T:List Int),jd L' [(1,.int .i64 o),(2,.int .i64 t),(3,.pointer (some ⟨b3,0,none⟩)),(6,.pointer (some ⟨b6,0,none⟩)),(10,.int .i64 i)]∧Ext w w'∧aW w' b3 139 (bX s)∧aW w' b6 139 (bX .zero) ∧
      Own w' w.heap.size 165 3 aL s.aj.A s.aj.n s.aj.c F∧Own w' w.heap.size 3 1 bK s.Types.A s.Types.n s.Types.c T∧((i = -1 ∧ ∀ m,m<15→jr z.aj o t m=false) ∨ ∃ (k:Nat) (st:Bool) (hk:k<z.aj.length),i=(k:Int)∧jL z.aj o t (some (k,st))∧F=iD z z.aj[k] t st∧T=if st=true then iZ z z.aj[k] t else z.Types):=⟨_,rfl⟩
     refine CW.Lu K ?_ ?_
     ·refine CW.loop (fun u:Nat×Int×List Block×List Int=>[(1,.int .i64 o),(2,.int .i64 t),(3,.pointer (some ⟨b3,0,none⟩)),(6,.pointer (some ⟨b6,0,none⟩)),(10,.int .i64 u.2.1),(12,.int .i64 (4-(u.1:Int)))])
       (fun u w'=>Ext w w'∧aW w' b3 139 (bX s)∧aW w' b6 139 (bX .zero)∧Own w' w.heap.size 165 3 aL s.aj.A s.aj.n s.aj.c u.2.2.1∧Own w' w.heap.size 3 1 bK s.Types.A s.Types.n s.Types.c u.2.2.2 ∧
         ((u.2.1 = -1∧(u.1:Int)≤5-o∧(∀ m,m<5+2*u.1→jr z.aj o t m=false)∧u.2.2.1=z.aj∧u.2.2.2=z.Types) ∨ ∃ (k:Nat) (st:Bool) (hk:k<z.aj.length),u.2.1=(k:Int)∧jL z.aj o t (some (k,st))∧u.2.2.1=iD z z.aj[k] t st∧u.2.2.2=if st=true then iZ z z.aj[k] t else z.Types)) (fun u=>if u.2.1<0 then 7-u.1 else 0) (0,i0,z.aj,z.Types)
       ⟨rfl,rfl,rfl,rfl,rfl,rfl,trivial⟩ ⟨hw,ax,aA,hX,hT,?_⟩ ?_
      ·rcases Ko with ⟨rfl,Ko⟩|⟨k,rfl,hP⟩
       ·exact .inl ⟨rfl,by simp only;omega,fun m h=>Ko m (by simp only at h;omega),rfl,rfl⟩
       ·obtain ⟨hk,_⟩:=hP.ord;exact .inr ⟨k,false,hk,rfl,hP,rfl,rfl⟩
      clear hw ax aA hX hT Ko;rintro ⟨j,i,F,T⟩ w' ⟨hw,ax,aA,hX,hT,hI⟩
      simp only at hX hT hI ⊢;rcases hI with ⟨rfl,hj,hI,rfl,rfl⟩|⟨k,st,hk,rfl,hP,hF,Pd⟩
      ·by_cases hp:o≤4-(j:Int)
       ·have P4:=GK (l:=z.aj) (t:=t) hp;have NG:=GL (l:=z.aj) (t:=t) hp;repeat' (first|refine Wz ?_|refine SW.st (aU hw rfl rfl dN) rfl ?_|(refine SW.st (oI kt rfl rfl RG NF) rfl ?_))
        refine CW.loop (fun v:Nat=>[(1,.int .i64 o),(2,.int .i64 t),(3,.pointer (some ⟨b3,0,none⟩)),(6,.pointer (some ⟨b6,0,none⟩)),(10,.int .i64 (-1)),(12,.int .i64 (4-(j:Int))),(65,.agg [Value.int .i64 (xq t),Value.int .i64 (xr t)].toArray),(66,.int .i64 (v:Int))])
         (fun v w'=>v≤2∧Ext w w'∧aW w' b3 139 (bX s)∧aW w' b6 139 (bX .zero)∧Own w' w.heap.size 165 3 aL s.aj.A s.aj.n s.aj.c z.aj∧Own w' w.heap.size 3 1 bK s.Types.A s.Types.n s.Types.c z.Types ∧ ∀ m,m<5+2*j+v→jr z.aj o t m=false)
         (fun v=>2-v) 0 ⟨rfl,rfl,rfl,rfl,rfl,rfl,rfl,rfl,trivial⟩ ⟨by omega,hw,ax,aA,hX,hT,hI⟩ ?_
        clear hw ax aA hX hT hI;rintro v w' ⟨NH,hw,ax,aA,hX,hT,hI⟩
        rcases (show v=0∨v=1∨v=2 by omega) with rfl|rfl|rfl
        ·cases fJ:z.aj.any (oJ (4-(j:Int)) (xq t))
         ·have c2:=cL (4-(j:Int)) (xq t);rw [vD fJ] at c2;repeat' (first|refine Wz ?_|(refine SW.call rfl rfl (c2 _ hX.sl) ?_;intro v w1 ae hv;subst hv;replace hw:=Ext.trans hw ae;replace ax:=ax.ext ae;replace aA:=aA.ext ae;replace hX:=hX.ext ae;replace hT:=hT.ext ae;clear ae)|(refine SW.st (nl 0 rfl rfl rfl (by decide) rfl) rfl ?_))
          refine ah.again (0+1) ⟨rfl,rfl,rfl,rfl,rfl,rfl,rfl,rfl,trivial⟩ (by omega) ⟨by omega,hw,ax,aA,hX,hT,fun m h => ?_⟩;by_cases e:m=5+2*j+0
          ·subst e;exact P4.trans fJ
          ·exact hI m (by omega)
         ·obtain ⟨k,hk,NE,sk,uF⟩:=zn fJ;have c2:=cL (4-(j:Int)) (xq t);rw [uF] at c2;repeat' (first|refine Wz ?_|(refine SW.call rfl rfl (c2 _ hX.sl) ?_;intro v w1 ae hv;subst hv;replace hw:=Ext.trans hw ae;replace ax:=ax.ext ae;replace aA:=aA.ext ae;replace hX:=hX.ext ae;replace hT:=hT.ext ae;clear ae)|(refine SW.st (nl 0 rfl rfl rfl (by decide) rfl) rfl ?_))
          refine SW.dt rfl rfl (xO s z k t w _ hw hX hT sF hz hk (by omega)) fun v w5 hv => ?_
          obtain ⟨hw,NI,hX,hT⟩:=hv;replace ax:=NI.out _ _ ax;replace aA:=NI.out _ _ aA
          have hP:jL z.aj o t (some (k,true)):=by
           have:=jL.hit (l:=z.aj) (o:=o) (t:=t) (n:=5+2*j+0) (k:=k) (by omega) (P4.trans fJ) hI hk (by have e1:=zj (o:=o) (j:=j);have e2:=Cw (t:=t) (j:=j);(try simp only [Nat.add_zero] at *);rw [e1,e2];exact NE) (by have e1:=zj (o:=o) (j:=j);have e2:=Cw (t:=t) (j:=j);(try simp only [Nat.add_zero] at *);rw [e1,e2];exact sk)
           rwa [decide_eq_true (by omega)] at this
          refine Wz ?_;exact ah.again (j+1,(k:Int),ia z.aj z.aj[k] t,iZ z z.aj[k] t) ⟨rfl,rfl,rfl,rfl,rfl,congrArg (fun z=>some (Value.int .i64 z)) (by simp only;omega),trivial⟩ (by simp only;(repeat' split)<;>omega) ⟨hw,ax,aA,hX,hT,.inr ⟨k,true,hk,rfl,hP,rfl,rfl⟩⟩
        ·cases fJ:z.aj.any (oJ (4-(j:Int)) (xr t))
         ·have c2:=cL (4-(j:Int)) (xr t);rw [vD fJ] at c2;repeat' (first|refine Wz ?_|(refine SW.call rfl rfl (c2 _ hX.sl) ?_;intro v w1 ae hv;subst hv;replace hw:=Ext.trans hw ae;replace ax:=ax.ext ae;replace aA:=aA.ext ae;replace hX:=hX.ext ae;replace hT:=hT.ext ae;clear ae)|(refine SW.st (nl 1 rfl rfl rfl (by decide) rfl) rfl ?_))
          refine ah.again (1+1) ⟨rfl,rfl,rfl,rfl,rfl,rfl,rfl,rfl,trivial⟩ (by omega) ⟨by omega,hw,ax,aA,hX,hT,fun m h => ?_⟩;by_cases e:m=5+2*j+1
          ·subst e;exact NG.trans fJ
          ·exact hI m (by omega)
         ·obtain ⟨k,hk,NE,sk,uF⟩:=zn fJ;have c2:=cL (4-(j:Int)) (xr t);rw [uF] at c2;repeat' (first|refine Wz ?_|(refine SW.call rfl rfl (c2 _ hX.sl) ?_;intro v w1 ae hv;subst hv;replace hw:=Ext.trans hw ae;replace ax:=ax.ext ae;replace aA:=aA.ext ae;replace hX:=hX.ext ae;replace hT:=hT.ext ae;clear ae)|(refine SW.st (nl 1 rfl rfl rfl (by decide) rfl) rfl ?_))
          refine SW.dt rfl rfl (xO s z k t w _ hw hX hT sF hz hk (by omega)) fun v w5 hv => ?_
          obtain ⟨hw,NI,hX,hT⟩:=hv;replace ax:=NI.out _ _ ax;replace aA:=NI.out _ _ aA
          have hP:jL z.aj o t (some (k,true)):=by
           have:=jL.hit (l:=z.aj) (o:=o) (t:=t) (n:=5+2*j+1) (k:=k) (by omega) (NG.trans fJ) hI hk (by have e1:=zm (o:=o) (j:=j);have e2:=Cx (t:=t) (j:=j);(try simp only [Nat.add_zero] at *);rw [e1,e2];exact NE) (by have e1:=zm (o:=o) (j:=j);have e2:=Cx (t:=t) (j:=j);(try simp only [Nat.add_zero] at *);rw [e1,e2];exact sk)
           rwa [decide_eq_true (by omega)] at this
          refine Wz ?_;exact ah.again (j+1,(k:Int),ia z.aj z.aj[k] t,iZ z z.aj[k] t) ⟨rfl,rfl,rfl,rfl,rfl,congrArg (fun z=>some (Value.int .i64 z)) (by simp only;omega),trivial⟩ (by simp only;(repeat' split)<;>omega) ⟨hw,ax,aA,hX,hT,.inr ⟨k,true,hk,rfl,hP,rfl,rfl⟩⟩
        ·refine Wz ?_;exact ah.again (j+1,-1,z.aj,z.Types) ⟨rfl,rfl,rfl,rfl,rfl,congrArg (fun z=>some (Value.int .i64 z)) (by simp only;omega),trivial⟩ (by simp only;(repeat' split)<;>omega) ⟨hw,ax,aA,hX,hT,.inl ⟨rfl,by simp only;omega,fun m h=>hI m (by simp only at h;omega),rfl,rfl⟩⟩
       ·refine Wz ?_
        have P3:∀ m,m<15→jr z.aj o t m=false:=fun m hm=>by
         by_cases e:m<5+2*j
         ·exact hI m e
         ·exact GM (j:=j) (by omega) (by omega)
        exact ah.Av (K:=K) (by rw [hK];exact ⟨-1,z.aj,z.Types,⟨rfl,rfl,rfl,rfl,rfl,trivial⟩,hw,ax,aA,hX,hT,.inl ⟨rfl,P3⟩⟩)
      ·refine Wz ?_;exact ah.Av (K:=K) (by rw [hK];exact ⟨(k:Int),F,T,⟨rfl,rfl,rfl,rfl,rfl,trivial⟩,hw,ax,aA,hX,hT,.inr ⟨k,st,hk,rfl,hP,hF,Pd⟩⟩)
     ·clear hw ax aA hX hT Ko;subst hK;rintro L' w' ⟨i,F,T,lQ,hw,ax,aA,hX,hT,hI⟩
      refine ah.sub lQ ?_;clear lQ cL;rcases hI with ⟨rfl,hI⟩|⟨k,st,hk,rfl,hP,rfl,Pd⟩
      ·refine Wz ?_;refine SW.ak aA rfl rfl rfl rfl (dr .zero) fun w5 bU hg => ?_
       replace hw:=hw.own dl hg;refine Wz ?_;exact ah.gK rfl rfl rfl rfl bU rfl ⟨_,rfl,hw,_,.room hq ho si (.Je hI),nr.zero 6 _ _⟩
      ·obtain ⟨_,P5,RH⟩:=hP.ord;obtain ⟨l1,l2,l3⟩:=rj hz (b:=z.aj[k]) si st;have NJ:k<(iD z z.aj[k] t st).length:=by omega
       have Kp:(iD z z.aj[k] t st)[k]=⟨z.aj[k].At,z.aj[k].Order,tW z t st z.aj[k]⟩:=sw hz si st hk
       obtain ⟨⟨f1,f2,f3,f4,f5⟩,f6⟩:=hz.dD k hk;have jv:fL z o t (qv z o t z.aj[k] k st,z.aj[k].At,0) := .ok hq ho si hk hP
       have hJ:=xL l2 l3 NJ;rw [Kp] at hJ;have GV:=iO hz;have Kj:ik (tW z t st z.aj[k]):=by unfold tW;split<;>assumption
       obtain ⟨ty,P6⟩ : ∃ ty,tW z t st z.aj[k]=ty:=⟨_,rfl⟩
       have RI:qv z o t z.aj[k] k st=⟨z.aK,z.To,kc ty z.aj[k].At (z.aj[k].Order-o).toNat z.aj[k].Order ((iD z z.aj[k] t st).eraseIdx k),T⟩:=by
        rw [Pd,← P6];rfl
       rw [RI] at jv;rw [P6] at Kp Kj;clear RI P6 Pd hP;obtain ⟨F,hF⟩ : ∃ F,iD z z.aj[k] t st=F:=⟨_,rfl⟩;simp only [hF] at hX l1 NJ Kp hJ jv;clear l2 l3;obtain ⟨x,hx⟩ : ∃ x,z.aj[k]=x:=⟨_,rfl⟩;simp only [hx] at Kp hJ jv f1 f2 f3 f4 f5 P5 RH;clear f6;have dY:k<s.aj.n:=by omega
       have hA:=hX.sl.base;have fk:=hX.sl.all dY;simp only [Kp] at fk;repeat' (first|refine Wz ?_|refine SW.st (aB rfl rfl fk) rfl ?_)
       refine SW.alloc rfl fun xP w3 jA NK cq => ?_
       have NL:w.heap.size≤xP:=Nat.le_trans hw.size NK
       have D6:aM s.aj.A s.aj.c≠some xP:=fun e=>by have:=hX.lt_size _ e;omega
       (replace hw:=Ext.trans hw jA;replace ax:=ax.ext jA;replace aA:=aA.ext jA;replace hX:=hX.ext jA;replace hT:=hT.ext jA);clear fk;skip;refine SW.ak cq rfl rfl rfl rfl (fP.one (enc:=aL) ⟨x.At,x.Order,ty⟩) fun w5 lZ hg => ?_
       have hG:=cq.gr hg;replace hw:=hw.own NL hg;replace hX:=hX.grown hg (.inr D6);(replace ax:=ax.aw hG rfl;replace aA:=aA.aw hG rfl;replace hT:=hT.aw hG rfl);replace cq:aW w5 xP 165 [.int .i64 x.At,.int .i64 x.Order,.int .i64 ty]:=lZ;clear lZ hg hG NK;refine Wz ?_;refine SW.dt rfl rfl (kM s.aj.A s.aj.n s.aj.c w.heap.size F _ hX k dY (by omega) hw.size) fun v w6 hv => ?_
       obtain ⟨rfl,zg,hg⟩:=hv;have hG:=hX.gr hg;replace hw:=aO hw hg (Nat.le_refl _) hX.bc;replace cq:=cq.grown hg (fun e=>D6 e.symm);(replace ax:=ax.aw hG rfl;replace aA:=aA.aw hG rfl;replace hT:=hT.aw hG rfl);clear hg hG;have xo:s.aj.n-1=(F.eraseIdx k).length:=by rw [List.length_eraseIdx_of_lt NJ];omega
       rw [xo] at zg;rw [xo];refine Wz ?_;refine SW.bz (i:=2) ax rfl rfl rfl rfl fun w7 cW hg => ?_
       have hG:=ax.gr hg;replace hw:=hw.own bQ hg;replace aA:=aA.grown hg (by simpa using lB.symm);(replace cq:=cq.aw hG rfl;replace zg:=zg.aw hG rfl;replace hT:=hT.aw hG rfl);replace ax:aW w7 b3 139 [.int .i64 s.aK,.int .i64 s.To,.slice s.aj.A (F.eraseIdx k).length s.aj.c,.slice s.Types.A s.Types.n s.Types.c]:=cW;clear cW hg hG hX;refine Wz ?_;obtain ⟨M1,NM⟩ : ∃ M1,kc ty x.At (x.Order-o).toNat x.Order (F.eraseIdx k)=M1:=⟨_,rfl⟩;rw [NM] at jv
       refine CW.loop (fun u:Int×List Block×Option Addr×Nat=>[(1,.int .i64 o),(3,.pointer (some ⟨b3,0,none⟩)),(6,.pointer (some ⟨b6,0,none⟩)),(15,.pointer (some ⟨xP,0,none⟩))])
        (fun u w'=>Ext w w'∧aW w' b3 139 [.int .i64 s.aK,.int .i64 s.To,.slice u.2.2.1 u.2.1.length u.2.2.2,.slice s.Types.A s.Types.n s.Types.c]∧aW w' b6 139 (bX .zero)∧aW w' xP 165 [.int .i64 x.At,.int .i64 u.1,.int .i64 ty] ∧
          Own w' w.heap.size 165 3 aL u.2.2.1 u.2.1.length u.2.2.2 u.2.1∧Own w' w.heap.size 3 1 bK s.Types.A s.Types.n s.Types.c T∧Ar z.aK z.To u.2.1 x.At u.1∧o≤u.1∧kc ty x.At (u.1-o).toNat u.1 u.2.1=M1∧(u.2.1.length:Int)+u.1≤300∧aM u.2.2.1 u.2.2.2≠some xP) (fun u=>(u.1-o).toNat) (x.Order,F.eraseIdx k,s.aj.A,s.aj.c)
        ⟨rfl,rfl,rfl,rfl,trivial⟩ ⟨hw,ax,aA,cq,zg,hT,hJ,P5,NM,by simp only;omega,D6⟩ ?_
       clear hw ax aA cq zg hT hJ xo Kp D6;rintro ⟨q,l,A,c⟩ w' ⟨hw,ax,aA,cq,hX,hT,hJ,Th,Cl,hlen,bW⟩
       simp only at ax cq hX hJ Th Cl hlen bW ⊢;by_cases Vm:o<q
       ·obtain ⟨k1,k2,k3,k4,k5⟩:=hJ.fit;obtain ⟨l8,Ti⟩:=AF hJ o1 o3 o5 (by omega) Kj;rw [show (q-o).toNat=(q-1-o).toNat+1 by omega,kc] at Cl;have Pb:=bT (o:=q-1) (by omega) (by omega);have cE:∀ w',bq Tryz.prog 230 [.agg (aL ⟨x.At,q-1,ty⟩).toArray] w' fun v _=>v = .int .i64 (x.At+pw (q-1)):=fun w'=>mC ⟨x.At,q-1,ty⟩ w' ⟨by simp only;omega,by simp only;omega⟩ ⟨by simp only;omega,by simp only;omega⟩
        have cF:∀ w',Sl w' 3 aL A l.length l→bq Tryz.prog 234 [.agg (bX ⟨s.aK,s.To,⟨A,l.length,c⟩,s.Types⟩).toArray,.int .i64 (x.At+pw (q-1))] w' fun v _=>v = .tuple #[.int .i64 (bi l (x.At+pw (q-1)) : Int),.bool (br l (x.At+pw (q-1)))]:=fun w' h =>
         sq ⟨s.aK,s.To,⟨A,l.length,c⟩,s.Types⟩ l z.aK z.To (x.At+pw (q-1)) w' h hJ.oE hJ.dD o1 (by omega) (by simp only;omega) ⟨by omega,by omega⟩
        have vA:=DV l (x.At+pw (q-1));have Pe:=EY ty x.At q l;refine Wz ?_;refine SW.bz (i:=1) cq rfl rfl rfl rfl fun w5 lZ hg => ?_
        have hG:=cq.gr hg;replace hw:=hw.own NL hg;replace hX:=hX.grown hg (.inr bW);(replace ax:=ax.aw hG rfl;replace aA:=aA.aw hG rfl;replace hT:=hT.aw hG rfl);replace cq:aW w5 xP 165 [.int .i64 x.At,.int .i64 (q-1),.int .i64 ty]:=lZ;clear lZ hg hG;refine Wz ?_;refine CW.any 8 mixed (da (by kernel_rfl)) rfl fun w1 ae aJ => ?_
        replace hw:=Ext.trans hw ae;replace ax:=ax.ext ae;replace aA:=aA.ext ae;replace cq:=cq.ext ae;replace hX:=hX.ext ae;replace hT:=hT.ext ae;clear ae;refine Wa ?_;refine SA.two 1 7 rfl rfl (by kernel_rfl) rfl rfl ?_ ?_
        ·refine SW.call rfl rfl (cE _) fun v w4 ap hv => ?_
         subst hv;(replace hw:=Ext.trans hw ap;replace ax:=ax.ext ap;replace aA:=aA.ext ap;replace cq:=cq.ext ap;replace hX:=hX.ext ap;replace hT:=hT.ext ap);try replace ns:=ns.ext ap
         refine SW.nil (ah.sa ap ?_);refine Wa ?_;refine SA.one 7 rfl (by kernel_rfl) rfl ?_;refine SW.alloc rfl fun Jh w4 ap LJ ns => ?_
         have LK:w.heap.size≤Jh:=Nat.le_trans hw.size LJ
         have LL:aM A c≠some Jh:=fun e=>by have:=hX.lt_size _ e;omega
         have LM:xP≠Jh:=by have:=cq.lt;omega
         (replace hw:=Ext.trans hw ap;replace ax:=ax.ext ap;replace aA:=aA.ext ap;replace cq:=cq.ext ap;replace hX:=hX.ext ap;replace hT:=hT.ext ap);refine SW.nil (ah.sa ap ?_);refine SA.done (by kernel_rfl) ?_;skip;refine SW.ak ns rfl rfl rfl rfl (fP.one (enc:=aL) ⟨x.At+pw (q-1),q-1,ty⟩) fun w5 tA hg => ?_
         have hG:=ns.gr hg;replace hw:=hw.own LK hg;replace hX:=hX.grown hg (.inr LL);replace cq:=cq.grown hg (by simpa using LM);(replace ax:=ax.aw hG rfl;replace aA:=aA.aw hG rfl;replace hT:=hT.aw hG rfl);replace ns:=tA;clear tA hg hG cE;repeat' (first|refine Wz ?_|(refine SW.call rfl rfl (cF _ hX.sl) ?_;intro v w1 ae hv;subst hv;replace hw:=Ext.trans hw ae;replace ax:=ax.ext ae;replace aA:=aA.ext ae;replace cq:=cq.ext ae;replace ns:=ns.ext ae;replace hX:=hX.ext ae;replace hT:=hT.ext ae;clear ae))
         refine SW.dR rfl rfl rfl rfl rfl fun b w6 ap hb hB => ?_
         have nt:aM A c≠some b:=fun e=>by have:=hX.lt_size _ e;omega
         (replace hw:=Ext.trans hw ap;replace ax:=ax.ext ap;replace aA:=aA.ext ap;replace cq:=cq.ext ap;replace hX:=hX.ext ap;replace hT:=hT.ext ap);skip;refine SW.dt rfl rfl (gm A l.length c w.heap.size l _ hX (bi l (x.At+pw (q-1))) vA (kX ty x.At q) b hB nt (by omega) hw.size) fun v w7 hv => ?_
         obtain ⟨A2,c2,rfl,cJ,hg⟩:=hv;have hG:=hX.gr hg;replace hw:=aO hw hg (Nat.le_refl _) hX.bc;replace cq:=cq.grown hg (fun e=>bW e.symm);(replace ax:=ax.aw hG rfl;replace aA:=aA.aw hG rfl;replace hT:=hT.aw hG rfl);clear hg hG hX
         have E2:aM A2 c2≠some xP:=cJ.GS (x:=⟨x.At,q-1,ty⟩) cq (by omega) fun y hy e=>by
          have g1:=(l8.dD y hy).1;have g2:=bT g1.1 g1.2.1;simp only at e;rcases l8.GC y hy with g|g<;>omega
         rw [← Pe] at cJ;rw [← Pe];refine Wz ?_;refine SW.bz (i:=2) ax rfl rfl rfl rfl fun w8 cW hg => ?_
         have hG:=ax.gr hg;replace hw:=hw.own bQ hg;replace aA:=aA.grown hg (by simpa using lB.symm);(replace cq:=cq.aw hG rfl;replace cJ:=cJ.aw hG rfl;replace hT:=hT.aw hG rfl);refine Wz ?_;exact ah.again (q-1,oK ty x.At q l,A2,c2) ⟨rfl,rfl,rfl,rfl,trivial⟩ (by simp only;omega) ⟨hw,cW,aA,cq,cJ,hT,l8,by simp only;omega,Cl,by simp only;omega,E2⟩
        ·refine SW.alloc rfl fun Jh w4 ap LJ ns => ?_
         have LK:w.heap.size≤Jh:=Nat.le_trans hw.size LJ
         have LL:aM A c≠some Jh:=fun e=>by have:=hX.lt_size _ e;omega
         have LM:xP≠Jh:=by have:=cq.lt;omega
         (replace hw:=Ext.trans hw ap;replace ax:=ax.ext ap;replace aA:=aA.ext ap;replace cq:=cq.ext ap;replace hX:=hX.ext ap;replace hT:=hT.ext ap);refine SW.nil (ah.sa ap ?_);refine SA.one 1 rfl (by kernel_rfl) rfl ?_;refine SW.call rfl rfl (cE _) fun v w4 ap hv => ?_
         subst hv;(replace hw:=Ext.trans hw ap;replace ax:=ax.ext ap;replace aA:=aA.ext ap;replace cq:=cq.ext ap;replace hX:=hX.ext ap;replace hT:=hT.ext ap);try replace ns:=ns.ext ap
         refine SW.nil (ah.sa ap ?_);refine Wa ?_;refine SA.done (by kernel_rfl) ?_;skip;refine SW.ak ns rfl rfl rfl rfl (fP.one (enc:=aL) ⟨x.At+pw (q-1),q-1,ty⟩) fun w5 tA hg => ?_
         have hG:=ns.gr hg;replace hw:=hw.own LK hg;replace hX:=hX.grown hg (.inr LL);replace cq:=cq.grown hg (by simpa using LM);(replace ax:=ax.aw hG rfl;replace aA:=aA.aw hG rfl;replace hT:=hT.aw hG rfl);replace ns:=tA;clear tA hg hG cE;repeat' (first|refine Wz ?_|(refine SW.call rfl rfl (cF _ hX.sl) ?_;intro v w1 ae hv;subst hv;replace hw:=Ext.trans hw ae;replace ax:=ax.ext ae;replace aA:=aA.ext ae;replace cq:=cq.ext ae;replace ns:=ns.ext ae;replace hX:=hX.ext ae;replace hT:=hT.ext ae;clear ae))
         refine SW.dR rfl rfl rfl rfl rfl fun b w6 ap hb hB => ?_
         have nt:aM A c≠some b:=fun e=>by have:=hX.lt_size _ e;omega
         (replace hw:=Ext.trans hw ap;replace ax:=ax.ext ap;replace aA:=aA.ext ap;replace cq:=cq.ext ap;replace hX:=hX.ext ap;replace hT:=hT.ext ap);skip;refine SW.dt rfl rfl (gm A l.length c w.heap.size l _ hX (bi l (x.At+pw (q-1))) vA (kX ty x.At q) b hB nt (by omega) hw.size) fun v w7 hv => ?_
         obtain ⟨A2,c2,rfl,cJ,hg⟩:=hv;have hG:=hX.gr hg;replace hw:=aO hw hg (Nat.le_refl _) hX.bc;replace cq:=cq.grown hg (fun e=>bW e.symm);(replace ax:=ax.aw hG rfl;replace aA:=aA.aw hG rfl;replace hT:=hT.aw hG rfl);clear hg hG hX
         have E2:aM A2 c2≠some xP:=cJ.GS (x:=⟨x.At,q-1,ty⟩) cq (by omega) fun y hy e=>by
          have g1:=(l8.dD y hy).1;have g2:=bT g1.1 g1.2.1;simp only at e;rcases l8.GC y hy with g|g<;>omega
         rw [← Pe] at cJ;rw [← Pe];refine Wz ?_;refine SW.bz (i:=2) ax rfl rfl rfl rfl fun w8 cW hg => ?_
         have hG:=ax.gr hg;replace hw:=hw.own bQ hg;replace aA:=aA.grown hg (by simpa using lB.symm);(replace cq:=cq.aw hG rfl;replace cJ:=cJ.aw hG rfl;replace hT:=hT.aw hG rfl);refine Wz ?_;exact ah.again (q-1,oK ty x.At q l,A2,c2) ⟨rfl,rfl,rfl,rfl,trivial⟩ (by simp only;omega) ⟨hw,cW,aA,cq,cJ,hT,l8,by simp only;omega,Cl,by simp only;omega,E2⟩
       ·obtain rfl:o=q:=by omega
        have Kq:l=M1:=by
         rw [← Cl,show (o-o).toNat=0 by omega];rfl
        rw [Kq] at hX;rw [Kq] at ax;refine Wz ?_;refine CW.iL 3 5 (fun w2=>aW w2 xP 165 [.int .i64 x.At,.int .i64 o,.int .i64 ty]) mixed (by kernel_rfl) fun w1 ae aJ => ?_
        replace hw:=Ext.trans hw ae;replace ax:=ax.ext ae;replace aA:=aA.ext ae;replace cq:=cq.ext ae;replace hX:=hX.ext ae;replace hT:=hT.ext ae;clear ae;refine Wf ?_;refine SF.eG 1 [] aJ rfl (by kernel_rfl) (by kernel_rfl) (by kernel_rfl) (aP rfl) (fun w2 hS=>aP rfl) rfl ?_;refine SF.eG 2 [] aJ rfl (by kernel_rfl) (by kernel_rfl) (by kernel_rfl) (aq rfl (cq.cell (i:=0) (v := .int .i64 x.At) rfl)) (fun w2 hS=>aq rfl (hS.cell (i:=0) (v := .int .i64 x.At) rfl)) rfl ?_;refine SF.turn rfl (by kernel_rfl) rfl ?_;refine SW.ak aA rfl rfl rfl rfl (dr ⟨s.aK,s.To,⟨A,M1.length,c⟩,s.Types⟩) fun w5 bU hg => ?_
        have hG:=aA.gr hg;have hS:=cq.aw hG rfl;replace hw:=hw.own dl hg;(replace hX:=hX.aw hG rfl;replace hT:=hT.aw hG rfl);refine SW.nil (ah.sg hS ?_);refine SG.one 4 rfl (by kernel_rfl) rfl ?_;repeat (refine SW.pure rfl rfl ?_)
        refine SW.nil (ah.sg hS ?_);refine SG.last rfl (by kernel_rfl) (by kernel_rfl) ?_;refine Wz ?_;exact ah.gK rfl rfl rfl rfl bU rfl ⟨_,rfl,hw,_,jv,⟨s.aK,s.To,⟨A,M1.length,c⟩,s.Types⟩,rfl,⟨sF,sT,hX,hT⟩⟩
   ·have An:=si;unfold ik at An;rcases (show t<0∨(0≤t∧2<t) by omega) with g|g
    all_goals
     repeat' (first|refine Wz ?_|(refine SW.call rfl rfl (c1 _ hw) ?_;intro v w1 ae hv;subst hv;replace hw:=Ext.trans hw ae;replace ax:=ax.ext ae;replace aA:=aA.ext ae;clear ae))
     refine SW.ak aA rfl rfl rfl rfl (dr .zero) fun w5 bU hg => ?_
     replace hw:=hw.own dl hg;refine Wz ?_;exact ah.gK rfl rfl rfl rfl bU rfl ⟨_,rfl,hw,_,.kind hq ho si,nr.zero 2 _ _⟩
  ·rcases (show o<0∨(0≤o∧4<o) by omega) with g|g
   all_goals
    repeat' (first|refine Wz ?_|(refine SW.call rfl rfl (c1 _ hw) ?_;intro v w1 ae hv;subst hv;replace hw:=Ext.trans hw ae;replace ax:=ax.ext ae;replace aA:=aA.ext ae;clear ae))
    refine SW.ak aA rfl rfl rfl rfl (dr .zero) fun w5 bU hg => ?_
    replace hw:=hw.own dl hg;refine Wz ?_;exact ah.gK rfl rfl rfl rfl bU rfl ⟨_,rfl,hw,_,.range hq ho,nr.zero 1 _ _⟩
open Go.RowKit
theorem zo : Tryz.prog.globalNamed "paddock/buddy.others" = some 1 := by kernel_rfl
theorem AG:(Tryz.prog.globals[1]?).map (·.type)=some 281:=by kernel_rfl
set_option maxRecDepth 100000 in
theorem zp {W:World} {cs:List Value} {fuel:Nat} {p:List MemPlace} {enc:TypeId×Value→Unit} {base:Nat} {spare:Nat→Bool} {held:Bool} (h:DataW.trod enc Tryz.prog W base spare held fuel 281 cs=some (Rows.laid_paddock_buddy_others,p)) :
 cs=[.int .i64 2,.int .i64 1,.int .i64 2,.int .i64 0,.int .i64 0,.int .i64 1]:=by
 have c2:Tryz.prog.cellsOf 280=2:=by kernel_rfl
 have c6:Tryz.prog.cellsOf 281=6:=by kernel_rfl
 have c1:Tryz.prog.cellsOf 3=1:=by kernel_rfl
 obtain ⟨xs,m,rfl,hx,hlen,hn,Gg⟩:=DataW.trod_array Tryz.underlying281 h;rw [c6] at hlen;rw [c2] at Gg;simp only [Prod.mk.injEq] at hx
 have pair:∀ (a b:Value) (u v:Int) (x:DataW Unit×List MemPlace),DataW.trod enc Tryz.prog W base spare held m 280 [a,b]=some x→x.1 = .agg [.lit (.int .i64 u),.lit (.int .i64 v)]→a = .int .i64 u∧b = .int .i64 v:=by
  intro a b u v x hx e;obtain ⟨ys,k,rfl,rfl,_,hk,he⟩:=DataW.trod_array Tryz.underlying280 hx;rw [c1] at he
  match ys,hk with
  | [y0,y1],_ =>
    have h0:=he 0 (by decide);have h1:=he 1 (by decide);obtain ⟨z0,e0,f0,_⟩:=DataW.trod_int Tryz.underlying3 (show DataW.trod enc Tryz.prog W base spare held k 3 [a]=some y0 from h0);obtain ⟨z1,e1,f1,_⟩:=DataW.trod_int Tryz.underlying3 (show DataW.trod enc Tryz.prog W base spare held k 3 [b]=some y1 from h1);rw [f0,f1] at e;simp at e e0 e1;rw [e0,e1,e.1,e.2];exact ⟨rfl,rfl⟩
 match cs,hlen,xs,hn with
 | [a,b,c,d,e,f],_,[x0,x1,x2],_ =>
   have h0:=Gg 0 (by decide);have h1:=Gg 1 (by decide);have h2:=Gg 2 (by decide);have jn:=hx.1;simp only [Rows.laid_paddock_buddy_others,List.map_cons,List.map_nil,DataW.agg.injEq,List.cons.injEq,and_true] at jn;obtain ⟨rfl,rfl⟩:=pair a b 2 1 x0 h0 jn.1.symm;obtain ⟨rfl,rfl⟩:=pair c d 2 0 x1 h1 jn.2.1.symm;obtain ⟨rfl,rfl⟩:=pair e f 0 1 x2 h2 jn.2.2.symm
   rfl
open Go.RowKit
def eI (a b:ByteArray) : Bool:=Op.bytesLess a.toList b.toList
theorem bytes_trans:∀ x y z:List UInt8,Op.bytesLess x y=true→Op.bytesLess y z=true→Op.bytesLess x z=true
 | _,[],_,h,_=>by simp [Op.bytesLess] at h
 | _,_::_,[],_,h=>by simp [Op.bytesLess] at h
 | [],_::_,_::_,_,_=>by simp [Op.bytesLess]
 | a::x,b::y,c::z,h,k=>by
   simp only [Op.bytesLess,Bool.or_eq_true,decide_eq_true_eq,Bool.and_eq_true,beq_iff_eq] at h k ⊢;rcases h with h|⟨rfl,h⟩<;>rcases k with k|⟨rfl,k⟩
   ·have h':a.toNat<b.toNat:=h
    have k':b.toNat<c.toNat:=k
    exact .inl (show a.toNat<c.toNat by omega)
   ·exact .inl h
   ·exact .inl k
   ·exact .inr ⟨rfl,bytes_trans x y z h k⟩
theorem D7 (a b:ByteArray) : (a.toList == b.toList)=decide (a=b):=by
 by_cases h:a=b
 ·subst h;simp
 ·have : ¬ a.toList=b.toList:=fun e=>h (by
   have e1:=congrArg (fun l:List UInt8=>ByteArray.mk l.toArray) e;simp only [ByteArray.toList_eq] at e1;cases a;cases b;simpa using e1)
  simp [h,this]
theorem oL {a b c:ByteArray} (h:eI a b=true) (k:eI b c=true) : eI a c=true:=bytes_trans _ _ _ h k
class D8 (P:Program) (t:TypeId) : Prop where
 mB:P.underlying t=some .string
def zq (b:UInt8) : List Value:=[.int .u8 b.toNat]
section
variable {P:Program} {L:Env} {w:World} {d:Option Nat} {T:TypeId} {pos:String} {af:Array Edge} {g:Option (Nat×Bool)}
theorem lD {t ty:TypeId} {x y:Operand} {a b:ByteArray} (hx:cg L x=some (.string a)) (hy:cg L y=some (.string b)) : St P ⟨d,.binOp .eql t x y ty,T,pos,af,g⟩ L w (.bool (decide (a=b))) :=
 ⟨fun _ A hA w' _=>by
  have e1:=hA.eval hx;have e2:=hA.eval hy;generalize A.eval = ρ at *
  have h1:(binOp .eql t (.string a) (.string b)).run P w' = .ok (.bool (decide (a=b))) w':=by
   have:binOp .eql t (.string a) (.string b)=Op.stringOp .eql a b:=by simp [binOp]
   rw [this,← D7];simp [Op.stringOp,pure]
  simp [execOp,e1,e2,eqGuard,h1]⟩
theorem AH {t ty:TypeId} {x y:Operand} {a b:ByteArray} (hx:cg L x=some (.string a)) (hy:cg L y=some (.string b)) : St P ⟨d,.binOp .geq t x y ty,T,pos,af,g⟩ L w (.bool (!eI a b)) :=
 ⟨fun _ A hA w' _=>by
  have e1:=hA.eval hx;have e2:=hA.eval hy;generalize A.eval = ρ at *
  have h1:(binOp .geq t (.string a) (.string b)).run P w' = .ok (.bool (!eI a b)) w':=by
   have:binOp .geq t (.string a) (.string b)=Op.stringOp .geq a b:=by simp [binOp]
   rw [this];simp [Op.stringOp,pure,eI]
  simp [execOp,e1,e2,eqGuard,h1]⟩
theorem GW {t ty:TypeId} {x y:Operand} {a b:ByteArray} (hx:cg L x=some (.string a)) (hy:cg L y=some (.string b)) : St P ⟨d,.binOp .lss t x y ty,T,pos,af,g⟩ L w (.bool (eI a b)) :=
 ⟨fun _ A hA w' _=>by
  have e1:=hA.eval hx;have e2:=hA.eval hy;generalize A.eval = ρ at *
  have h1:(binOp .lss t (.string a) (.string b)).run P w' = .ok (.bool (eI a b)) w':=by
   have:binOp .lss t (.string a) (.string b)=Op.stringOp .lss a b:=by simp [binOp]
   rw [this];simp [Op.stringOp,pure,eI]
  simp [execOp,e1,e2,eqGuard,h1]⟩
theorem xQ {t ty:TypeId} {x y:Operand} {a b:ByteArray} (hx:cg L x=some (.string a)) (hy:cg L y=some (.string b)) : St P ⟨d,.binOp .neq t x y ty,T,pos,af,g⟩ L w (.bool (decide (a≠b))) :=
 ⟨fun _ A hA w' _=>by
  have e1:=hA.eval hx;have e2:=hA.eval hy;generalize A.eval = ρ at *
  have h1:(binOp .neq t (.string a) (.string b)).run P w' = .ok (.bool (decide (a≠b))) w':=by
   have:binOp .neq t (.string a) (.string b)=Op.stringOp .neq a b:=by simp [binOp]
   rw [this];have e:decide (a≠b) = !(a.toList == b.toList):=by rw [D7];simp
   rw [e];simp [Op.stringOp,pure]
  simp [execOp,e1,e2,eqGuard,h1]⟩
theorem D9 {t:TypeId} [c:D8 P t] {x:Operand} {s:ByteArray} (hx:cg L x=some (.string s)) :
 St P ⟨d,.call ⟨.builtin .len,#[x],#[t]⟩,T,pos,af,g⟩ L w (.int .i64 (s.size:Int)) :=
 ⟨fun _ a ha w' _=>by simp [execOp,resolve,invoke,builtin,ha.eval hx,Builtin.len_,run_underlying c.mB,goInt]⟩
end
section
variable {P:Program} {n:Nat} {ops:Array Oper} {Q:Exit→Act→World→Prop} {rest:List Oper} {L:Env} {w:World} {T:TypeId} {pos:String} {af:Array Edge}
theorem SW.E3 {d:Nat} {src dst e:TypeId} [S:D8 P src] [D:bj P dst e 1] (he:P.underlying e=some (.int .u8)) {x:Operand} {s:ByteArray} (hx:cg L x=some (.string s)) (hn:Nat.blt d n=true)
 (h:∀ b c w',Ext w w'→w.heap.size≤b→Sl w' 1 zq (some ⟨b,0,none⟩) s.size s.data.toList→SW P n ops (.gw Q) rest ((d,.slice (some ⟨b,0,none⟩) s.size c)::L) w') :
 SW P n ops (.gw Q) (⟨some d,.convert src dst x,T,pos,af,none⟩::rest) L w :=
 ⟨fun a ha=>by
  simp only [swp,wpList,Region.wanted,if_true];refine .inl ?_;unfold Oper.wp;have hr:=Lib.run_convert_string_bytes (P:=P) w src dst e s S.mB D.mB he
  have:(execOp a.eval ⟨some d,.convert src dst x,T,pos,af,none⟩).run P w = .ok (.value (.slice (some ⟨w.heap.size,0,none⟩) s.size (grownCap w s.size 0 e))) (Lib.bytesWorld w e s):=by
   simp [execOp,ha.eval hx,hr]
  rw [this,Oper.upon_value];have hE:Ext w (Lib.bytesWorld w e s):=⟨rfl,rfl,rfl,by rw [Lib.bytesWorld_size];omega,fun j hj=>Lib.bytesWorld_at_old w e s j hj⟩
  refine (h _ _ _ hE (Nat.le_refl _) ⟨?_,fun _=>rfl,fun i hi j u hu => ?_⟩).out _ (ha.put hn _)
  ·exact Array.length_toList
  ·have r6:i<s.size:=by rw [Array.length_toList] at hi;exact hi
   have:=Lib.bytesWorld_cell w e s i r6
   match j,hu with
   | 0,hu =>
     simp only [zq,List.getElem?_cons_zero,Option.some.injEq] at hu;rw [add_zero]
     have e2:(((some (⟨w.heap.size,0,none⟩ : Addr)).getD default).add (i*1))=⟨w.heap.size,i,none⟩:=by
      simp only [Option.getD_some,Nat.mul_one];unfold Addr.add;split<;>simp_all
     rw [e2,this,← hu];have e3:s.data.toList.getD i 0=s.data.toList[i]:=by simp [List.getD,r6]
     rw [e3]
   | j+1,hu=>simp [zq] at hu⟩
end
end Go.Proofs.YtbidkghlpijecaaGreatDoor
