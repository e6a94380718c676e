/-
  Texts of the claim SlabAllocs, part 22: what its theorem leans on.
-/
import Derived.Test.YtjimadiidbkohaaGreatDoorPackSlabAllocs20
import Derived.Test.YtjimadiidbkohaaGreatDoorPackSlabAllocs21
import Derived.Test.YtjimadiidbkohaaGreatDoorPackSlabAllocs2
import Derived.Test.YtjimadiidbkohaaGreatDoorPackSlabAllocs10
import Derived.Test.YtjimadiidbkohaaGreatDoorPackSlabAllocs11
set_option linter.unusedVariables false
set_option linter.unusedSimpArgs false
namespace Go.Proofs.YtjimadiidbkohaaGreatDoor
open Go.RowKit
theorem qL (x:Slab) (b8:Nat) (ad:Addr) (A:Option Addr) (n c:Nat) (l:List Int) (w:World) (h8:aJ w b8 89 [.pointer (some ad)]) (hp:w.cell? (ad.add 5)=some (.slice A n c)) (hl:Sl w 1 bh A n l) (hn:n≤9223372036854775807) :
 bt Tryz.prog 48 ([.agg (aZ x).toArray]++[.pointer (some ⟨b8,0,none⟩)]) w fun v _=>v = .bool (decide (0<x.ag) && !decide (x.At∈l)):=by
 refine aL Tryz.func48 rfl Tryz.ntmps48 rfl ?_;refine CW.seq (CW.region (SW.box rfl rfl fun b2 w1 hw gQ aK => ?_));have z6:=h8.cell (i:=0) (v := .pointer (some ad)) rfl;rw [add_zero] at z6;obtain ⟨q,hq⟩ : ∃ q,decide (x.At∈l)=q:=⟨_,rfl⟩
 have cC:∀ w',Ext w w'→bt Tryz.prog 49 [.slice A n c,.int .i64 x.At] w' fun v _=>v = .bool q:=fun w' hx=>by
  have:=gG _ _ c _ x.At _ (hl.ext hx) hn
  rwa [hq] at this
 by_cases hf : 0<x.ag
 ·repeat' (first|refine Wz ?_|((apply CW.aO mixed;(· kernel_rfl);rotate_left;intro w1 ab;replace hw:=Ext.trans hw ab;replace aK:=aK.ext ab;clear ab;rotate_right))|refine SW.st (ao hw rfl z6) rfl ?_|refine SW.st (ao hw rfl hp) rfl ?_|refine SW.bq rfl rfl (fun w1 ab=>(cC _ (Ext.trans hw ab))) ?_|exact SW.bx rfl)
  all_goals try omega
  exact ae.aN rfl rfl ⟨_,rfl,hw,by rw [hq,decide_eq_true hf];simp⟩
 ·repeat' (first|refine Wz ?_|((apply CW.aO mixed;(· kernel_rfl);rotate_left;intro w1 ab;replace hw:=Ext.trans hw ab;replace aK:=aK.ext ab;clear ab;rotate_right))|exact SW.bx rfl)
  all_goals try omega
  exact ae.aN rfl rfl ⟨_,rfl,hw,by rw [decide_eq_false hf];simp⟩
def pr (c:bd) (cpu k:Nat) : bd:=⟨c.Names,c.bf,c.ck,c.Order,c.ai,c.au.set cpu (fg c k).At⟩
def IM (G:Nat→Prop) (wb w0:World) (b:Nat) (r:dV) (s:aF) (i:Nat) (c:bd) (cpu:Nat) (v:Value) (w':World) : Prop :=
 ∃ m,ks s c cpu m∧Ext wb w'∧(∀ j x,j≠b→aJ w0 j 30 x→aJ w' j 30 x)∧(∀ j x,G j→aJ w0 j 3 x→aJ w' j 3 x) ∧
  ((m.1=none∧m.2≠0∧v = .tuple #[.int .i64 0,.int .i64 m.2]) ∨
   ∃ M,m=(some M,0)∧v = .tuple #[.int .i64 (M.k:Int),.int .i64 0] ∧ ∃ X H cs',aJ w' b 30 (aU ⟨X,H,r.aa⟩)∧SX w' wb.heap.size ⟨X,H,r.aa⟩ (cm (iE s M.ws) i (M.h,pr M.c cpu M.k)) cs'∧SJ G w' wb.heap.size ⟨X,H,r.aa⟩ (cm (iE s M.ws) i (M.h,pr M.c cpu M.k)) cs')
set_option maxHeartbeats 8000000 in
theorem zh (G:Nat→Prop) (wb w0:World) (b:Nat) (r:dV) (s:aF) (cs:List dn) (i cpu:Nat) (hf:s.lA) (hi:i<s.aa.length) (hM:nJ s s.aa[i]) (ti:oZ w0)
 (hx:Ext wb w0) (hb:aJ w0 b 30 (aU r)) (EG:wb.heap.size≤b) (hS:SX w0 wb.heap.size r s cs) (hJ:SJ G w0 wb.heap.size r s cs) (EH:∀ g,G g→g<w0.heap.size) (nL:cpu<s.aa[i].au.length) (DD:(s.aa[i].ai.length+1)*24≤140737488355328) :
 gL Tryz.prog 26 [.pointer (some ⟨b,0,none⟩),.int .i64 (i:Int),.int .i64 (cpu:Int)] w0 (IM G wb w0 b r s i s.aa[i] cpu):=by
 refine dw Tryz.func26 rfl Tryz.ntmps26 rfl ?_;have hm:=hM.most;have e0:=ou hi;have h2:=hf.Kt hi;have q4:=h2.small.a9;have fC:=hx.size;obtain ⟨e1,e2⟩:=hS.len;have jA:i<cs.length:=by omega
 have cf:i<r.aa.n:=by omega
 have KL:=hS.row.sl.base;have hC:=hS.each.get i jA hi;have q1:=hC.aR.len;have q3:=hC.a9.len;have EX:cpu<cs[i].au.n:=by omega
 have Jv:=hC.aR.sl.base;have NM:=hC.a9.sl.base;have xG:=uS hM nL;have gT:(s.aa[i].au.getD cpu 0)=s.aa[i].au[cpu]:=by simp [nL]
 clear hC;have hw:=Ext.refl w0;refine Wz ?_;refine SW.alloc rfl fun b8 w1 ab kR bu => ?_
 have jl:w0.heap.size≤b8:=Nat.le_trans hw.size kR
 (replace hw:=Ext.trans hw ab;replace hb:=hb.ext ab;replace hS:=hS.ext ab;replace hJ:=hJ.ext ab);refine SW.bB (i:=0) bu rfl rfl rfl rfl fun w2 iQ hg => ?_
 have hG:=bu.gr hg;replace hw:=hw.own jl hg;(replace hb:=hb.ay hG rfl;replace hS:=hS.ay hG rfl;replace hJ:=hJ.ay hG rfl);replace bu:aJ w2 b8 89 [.pointer (some ((r.aa.A.getD default).add (i*6)))]:=iQ;clear iQ hG hg
 have z6:∀ w',aJ w' b8 89 [.pointer (some ((r.aa.A.getD default).add (i*6)))]→w'.cell? ⟨b8,0,none⟩=some (.pointer (some ((r.aa.A.getD default).add (i*6)))):=fun w' h=>by
  have:=h.cell (i:=0) (v := .pointer (some ((r.aa.A.getD default).add (i*6)))) rfl
  rwa [add_zero] at this
 obtain ⟨o,ho⟩ : ∃ o,ub s.aa[i] cpu=o:=⟨_,rfl⟩;obtain ⟨t,ht⟩ : ∃ t,s.aa[i].au[cpu]=t:=⟨_,rfl⟩;rw [ho,ht] at xG;have gA:∀ w',SX w' wb.heap.size r s cs→w'.cell? ((((cs[i].au.A).getD default).add (cpu*1)))=some (Value.int .i64 t):=fun w' h=>(h.each.get i jA hi).a9.sl.one EX (by rw [show s.aa[i].au[cpu]=t from ht];rfl)
 have hC:=hS.each.get i jA hi
 have cF:∀ w',Ext w2 w'→bt Tryz.prog 46 [.agg (db cs[i]).toArray,.int .i64 t] w' fun v _=>v = .int .i64 o:=fun w' h=>by
  have:=xl cs[i] s.aa[i].ai t w' (hC.aR.sl.ext h) (by omega)
  unfold ub at ho;rw [gT,ht] at ho;rwa [ho] at this
 have BG:=hw;replace hw:=Ext.refl w2;by_cases hA:∃ (k:Nat) (hk:k<s.aa[i].ai.length),o=k∧0<s.aa[i].ai[k].ag
 ·obtain ⟨k,hk,rfl,fG⟩:=hA;have bY:k<cs[i].ai.n:=by omega
  obtain ⟨y,hy⟩ : ∃ y,s.aa[i].ai[k]=y:=⟨_,rfl⟩;rw [hy] at fG;have gF:∀ w',SX w' wb.heap.size r s cs→w'.cell? ((((cs[i].ai.A).getD default).add (k*3)).add 1)=some (Value.int .i64 y.ag):=fun w' h=>(h.each.get i jA hi).aR.sl.dv bY (j:=1) (show (aZ (s.aa[i].ai[k]'(by omega)))[1]?=some (Value.int .i64 y.ag) by rw [hy];rfl)
  have lD:fL s.aa[i] cpu=k:=by
   unfold fL;rw [ho,if_pos ⟨by omega,by rw [show ((k:Int)).toNat=k by omega,fZ hk,hy];exact fG⟩]
  repeat' (first|refine Wz ?_|((apply CW.aO mixed;(· kernel_rfl);rotate_left;intro w1 ab;replace hw:=Ext.trans hw ab;replace hb:=hb.ext ab;replace bu:=bu.ext ab;replace hS:=hS.ext ab;replace hJ:=hJ.ext ab;clear ab;rotate_right))|refine SW.st (ak rfl (z6 _ bu)) rfl ?_|refine SW.st (aX rfl rfl ((hS.row.sl.all cf))) rfl ?_|refine SW.st (ak rfl (hS.row.sl.dv cf (j:=5) (u := .slice cs[i].au.A cs[i].au.n cs[i].au.c) rfl)) rfl ?_|refine SW.st (ak rfl (gA _ hS)) rfl ?_|refine SW.st (ak rfl (hS.row.sl.dv cf (j:=4) (u := .slice cs[i].ai.A cs[i].ai.n cs[i].ai.c) rfl)) rfl ?_|refine SW.st (ak rfl (gF _ hS)) rfl ?_|refine SW.bq rfl rfl (fun w1 ab=>(cF _ (Ext.trans hw ab))) ?_|exact SW.bx rfl)
  all_goals try omega
  replace hw:=Ext.trans BG hw;rcases xG with ⟨_,h⟩|⟨_,k2,CJ,h,KN⟩
  ·omega
  ·obtain rfl:k=k2:=by omega
   rw [hy] at KN
   have xr:pr s.aa[i] cpu k=s.aa[i]:=by
    unfold pr;rw [fZ hk,hy,KN,← ht,List.set_getElem_self]
   refine ae.cu rfl rfl rfl ⟨_,rfl,_,.CZ lD,hx.trans hw,fun j x hj h=>h.ext hw,fun j x hj h=>h.ext hw,.inr ⟨_,rfl,rfl,r.Words,r.Heap,cs,hb,?_⟩⟩;simp only;rw [xr];rw [← e0] at hS hJ;exact ⟨hS,hJ⟩
 ·have tK : ¬ (0≤o∧0<(fg s.aa[i] o.toNat).ag):=fun h=>by
   rcases xG with ⟨_,h1⟩|⟨_,k2,CJ,h1,_⟩
   ·omega
   ·refine hA ⟨k2,CJ,h1,?_⟩;have:=h.2
    rwa [show o.toNat=k2 by omega,fZ CJ] at this
  rcases xG with ⟨_,Hp⟩|⟨_,k2,CJ,Hp,NN⟩
  ·repeat' (first|refine Wz ?_|((apply CW.aO mixed;(· kernel_rfl);rotate_left;intro w1 ab;replace hw:=Ext.trans hw ab;replace hb:=hb.ext ab;replace bu:=bu.ext ab;replace hS:=hS.ext ab;replace hJ:=hJ.ext ab;clear ab;rotate_right))|refine SW.st (ak rfl (z6 _ bu)) rfl ?_|refine SW.st (aX rfl rfl ((hS.row.sl.all cf))) rfl ?_|refine SW.st (ak rfl (hS.row.sl.dv cf (j:=5) (u := .slice cs[i].au.A cs[i].au.n cs[i].au.c) rfl)) rfl ?_|refine SW.st (ak rfl (gA _ hS)) rfl ?_|refine SW.st (ak rfl (hS.row.sl.dv cf (j:=4) (u := .slice cs[i].ai.A cs[i].ai.n cs[i].ai.c) rfl)) rfl ?_|refine SW.bq rfl rfl (fun w1 ab=>(cF _ (Ext.trans hw ab))) ?_|(refine SW.st (iv (vs:=[.pointer (some ⟨b8,0,none⟩)]) rfl) rfl ?_)|exact SW.bx rfl)
   all_goals try omega
   replace hw:=Ext.trans BG hw;clear BG cF hC;have hC:=hS.each.get i jA hi;have Dj:=hS.row.sl.dv cf (j:=5) (u := .slice cs[i].au.A cs[i].au.n cs[i].au.c) rfl;refine SW.call rfl rfl (iD _ _ _ s.aa[i].ai _ hC.aR.sl _ [.pointer (some ⟨b8,0,none⟩)] (jH s.aa[i]) (fun x => .agg (aZ x).toArray) (fun x=>rfl) (fun x z8 w1 kz=>qL x b8 _ cs[i].au.A cs[i].au.n cs[i].au.c s.aa[i].au w1 (bu.ext kz) (kz.cell Dj) (hC.a9.sl.ext kz) (by omega)) (by omega)) fun v w9 aj hv => ?_
   subst hv;(replace hw:=Ext.trans hw aj;replace hb:=hb.ext aj;replace bu:=bu.ext aj;replace hS:=hS.ext aj;replace hJ:=hJ.ext aj);clear hC Dj;obtain ⟨z,hz⟩ : ∃ z,idxOf (jH s.aa[i]) s.aa[i].ai=z:=⟨_,rfl⟩;rw [hz]
   have lD:fL s.aa[i] cpu=z:=by
    unfold fL;rw [ho,if_neg tK,hz]
   by_cases sI : 0≤z
   ·obtain ⟨k,rfl⟩:=Int.eq_ofNat_of_zero_le sI;obtain ⟨hk,fG⟩:=vS lD;have bY:k<cs[i].ai.n:=by omega
    obtain ⟨y,hy⟩ : ∃ y,s.aa[i].ai[k]=y:=⟨_,rfl⟩;have gY:∀ w',SX w' wb.heap.size r s cs→w'.cell? ((((cs[i].ai.A).getD default).add (k*3)).add 0)=some (Value.int .i64 y.At):=fun w' h=>(h.each.get i jA hi).aR.sl.dv bY (j:=0) (show (aZ (s.aa[i].ai[k]'(by omega)))[0]?=some (Value.int .i64 y.At) by rw [hy];rfl)
    refine Wz ?_;all_goals try omega
    refine CW.iO 14 14 (fun _=>True) mixed (by kernel_rfl) fun w1 ab aG => ?_
    replace hw:=Ext.trans hw ab;replace hb:=hb.ext ab;replace bu:=bu.ext ab;replace hS:=hS.ext ab;replace hJ:=hJ.ext ab;clear ab;refine SF.take 0 [] [] aG rfl (by kernel_rfl) (by kernel_rfl) (by kernel_rfl) ?_;repeat ((show SW _ _ _ _ (⟨_,Op.load _ _,_,_,_,none⟩::_) _ _;refine SW.st (ak rfl (z6 _ bu)) rfl ?_))
    refine SW.ah ?_;refine SF.take 1 [] [] aG rfl (by kernel_rfl) (by kernel_rfl) (by kernel_rfl) ?_;repeat ((show SW _ _ _ _ (⟨_,Op.nilCheck _,_,_,_,none⟩::_) _ _;refine SW.st (aI rfl) rfl ?_))
    refine SW.ah ?_;refine SF.take 2 [] [] aG rfl (by kernel_rfl) (by kernel_rfl) (by kernel_rfl) ?_;repeat ((show SW _ _ _ _ (⟨_,Op.fieldAddr _ _ _,_,_,_,none⟩::_) _ _;refine SW.st (aC rfl) rfl ?_))
    refine SW.ah ?_;refine SF.take 3 [] [] aG rfl (by kernel_rfl) (by kernel_rfl) (by kernel_rfl) ?_;repeat ((show SW _ _ _ _ (⟨_,Op.load _ _,_,_,_,none⟩::_) _ _;refine SW.st (ak rfl (hS.row.sl.dv cf (j:=5) (u := .slice cs[i].au.A cs[i].au.n cs[i].au.c) rfl)) rfl ?_))
    refine SW.ah ?_;refine SF.take 4 [] [] aG rfl (by kernel_rfl) (by kernel_rfl) (by kernel_rfl) ?_;repeat (refine SW.pure rfl rfl ?_)
    refine SW.ah ?_;refine SF.take 5 [] [] aG rfl (by kernel_rfl) (by kernel_rfl) (by kernel_rfl) ?_;repeat ((show SW _ _ _ _ (⟨_,Op.load _ _,_,_,_,none⟩::_) _ _;refine SW.st (ak rfl (z6 _ bu)) rfl ?_))
    refine SW.ah ?_;refine SF.take 6 [] [] aG rfl (by kernel_rfl) (by kernel_rfl) (by kernel_rfl) ?_;repeat ((show SW _ _ _ _ (⟨_,Op.nilCheck _,_,_,_,none⟩::_) _ _;refine SW.st (aI rfl) rfl ?_))
    refine SW.ah ?_;refine SF.take 7 [] [] aG rfl (by kernel_rfl) (by kernel_rfl) (by kernel_rfl) ?_;repeat ((show SW _ _ _ _ (⟨_,Op.fieldAddr _ _ _,_,_,_,none⟩::_) _ _;refine SW.st (aC rfl) rfl ?_))
    refine SW.ah ?_;refine SF.take 8 [] [] aG rfl (by kernel_rfl) (by kernel_rfl) (by kernel_rfl) ?_;repeat ((show SW _ _ _ _ (⟨_,Op.load _ _,_,_,_,none⟩::_) _ _;refine SW.st (ak rfl (hS.row.sl.dv cf (j:=4) (u := .slice cs[i].ai.A cs[i].ai.n cs[i].ai.c) rfl)) rfl ?_))
    refine SW.ah ?_;refine SF.take 9 [] [] aG rfl (by kernel_rfl) (by kernel_rfl) (by kernel_rfl) ?_;repeat (refine SW.pure rfl rfl ?_)
    refine SW.ah ?_;refine SF.take 10 [] [] aG rfl (by kernel_rfl) (by kernel_rfl) (by kernel_rfl) ?_;repeat ((show SW _ _ _ _ (⟨_,Op.indexAddr _ _ _,_,_,_,none⟩::_) _ _;refine SW.st (bj rfl rfl (by assumption) (by omega)) rfl ?_))
    refine SW.ah ?_;refine SF.take 11 [] [] aG rfl (by kernel_rfl) (by kernel_rfl) (by kernel_rfl) ?_;repeat ((show SW _ _ _ _ (⟨_,Op.fieldAddr _ _ _,_,_,_,none⟩::_) _ _;refine SW.st (aC rfl) rfl ?_))
    refine SW.ah ?_;refine SF.take 12 [] [] aG rfl (by kernel_rfl) (by kernel_rfl) (by kernel_rfl) ?_;repeat ((show SW _ _ _ _ (⟨_,Op.load _ _,_,_,_,none⟩::_) _ _;refine SW.st (ak rfl (gY _ hS)) rfl ?_))
    refine SW.ah ?_;refine SF.take 13 [] [] aG rfl (by kernel_rfl) (by kernel_rfl) (by kernel_rfl) ?_;repeat ((show SW _ _ _ _ (⟨_,Op.indexAddr _ _ _,_,_,_,none⟩::_) _ _;refine SW.st (bj rfl rfl (by assumption) (by omega)) rfl ?_))
    refine SW.ah ?_;refine SF.last rfl (by kernel_rfl) (by kernel_rfl) ?_;have hC:=hS.each.get i jA hi;refine SW.jX cpu hC.a9 rfl rfl EX fun mw hO hg => ?_
    have hG:=hC.a9.gr hg;rw [← e0] at hS hJ;have Dk:=hS.act hJ jA hi hO hg;have GK:=aE (hx.trans hw) hg (Nat.le_refl _) hC.a9.aM;replace hb:=hb.ay hG rfl;refine Wz ?_;refine ae.cu rfl rfl rfl ⟨_,rfl,_,.CZ lD,GK,fun j x hj h=>(h.ext hw).ay hG rfl,fun j x hj h=>(h.ext hw).grown hg (hJ.ne hj jA),.inr ⟨_,rfl,rfl,r.Words,r.Heap,cs,hb,?_⟩⟩
    have xr:pr s.aa[i] cpu k=⟨s.aa[i].Names,s.aa[i].bf,s.aa[i].ck,s.aa[i].Order,s.aa[i].ai,s.aa[i].au.set cpu y.At⟩:=by
     unfold pr;rw [fZ hk,hy]
    simp only;rw [xr];exact Dk
   ·have rj:fL s.aa[i] cpu<0:=by omega
    refine Wz ?_;all_goals try omega
    refine SW.cV rfl rfl (xE G wb _ b r s cs i cpu hf hi hM (ti.ext hw) (hx.trans hw) hb EG hS (fun g hg=>⟨Nat.lt_of_lt_of_le (EH g hg) hw.size,fun u hu=>hJ.sep u hu g hg⟩) DD) fun v mw hv => ?_
    obtain ⟨⟨h',at',e⟩,hu,hv⟩:=hv;simp only at hv;rcases hv with ⟨he,rfl,kj⟩|⟨rfl,GL,rfl,kj⟩|⟨rfl,gb,rfl,kj,qJ,tP,qO,X,H,cs',jE,mx,tB⟩
    ·refine Wz ?_;all_goals try omega
     exact ae.cu rfl rfl rfl ⟨_,rfl,_,.room rj hu he,(hx.trans hw).trans kj,fun j x hj h=>(h.ext hw).ext kj,fun j x hj h=>(h.ext hw).ext kj,.inl ⟨rfl,he,rfl⟩⟩
    ·refine Wz ?_;all_goals try omega
     exact ae.cu rfl rfl rfl ⟨_,rfl,_,.chain rj hu rfl GL,(hx.trans hw).trans kj,fun j x hj h=>(h.ext hw).ext kj,fun j x hj h=>(h.ext hw).ext kj,.inl ⟨rfl,by simp,rfl⟩⟩
    ·replace bu:=tP _ _ bu;obtain ⟨e3,e4⟩:=mx.rows;have kY:i<cs'.length:=by simp only [iE] at e3;omega
     obtain ⟨k,vV⟩ : ∃ k,lC s.aa[i] at'=k:=⟨_,rfl⟩
     obtain ⟨c1,sh⟩ : ∃ c1,eG s.aa[i] at'=c1:=⟨_,rfl⟩
     have sB:=l7 s.aa[i] at'
     have Ag:c1.ai.length=s.aa[i].ai.length+1:=by
      rw [← sh];exact dq _ sB _
     have Ei:k<c1.ai.length:=by omega
     have IN:c1.ai[k]=⟨at',s.aa[i].ck,16*at'⟩:=by
      subst sh;subst vV;exact td sB Ei
     have Dl:c1.au=s.aa[i].au:=by rw [← sh];rfl
     have gv:=ks.new rj hu rfl gb;rw [sh] at mx tB;rw [vV];simp only [sh,vV] at gv;have hC:=mx.get kY hi;simp only at hC;have q5:=hC.aR.len;have q6:=hC.a9.len;have bY:k<cs'[i].ai.n:=by omega
     have Dm:cpu<cs'[i].au.n:=by rw [← q6,Dl];exact nL
     have IP:=hC.aR.sl.base;have IQ:=hC.a9.sl.base;have gY:∀ w',SX w' wb.heap.size ⟨X,H,r.aa⟩ (cm (iE s (iX s.Words (16*at') s.aa[i].bf s.aa[i].ck)) i (h',c1)) cs'→w'.cell? ((((cs'[i].ai.A).getD default).add (k*3)).add 0)=some (Value.int .i64 at'):=fun w' h=>(h.get kY hi).aR.sl.dv bY (j:=0) (show (aZ (c1.ai[k]'(by omega)))[0]?=some (Value.int .i64 at') by rw [IN];rfl)
     clear hC hS hJ hb;have IR:=hw;have hw:=Ext.refl mw;refine Wz ?_;all_goals try omega
     refine CW.iO 14 14 (fun _=>True) mixed (by kernel_rfl) fun w1 ab aG => ?_
     replace hw:=Ext.trans hw ab;replace jE:=jE.ext ab;replace bu:=bu.ext ab;replace mx:=mx.ext ab;replace tB:=tB.ext ab;clear ab;refine SF.take 0 [] [] aG rfl (by kernel_rfl) (by kernel_rfl) (by kernel_rfl) ?_;repeat ((show SW _ _ _ _ (⟨_,Op.load _ _,_,_,_,none⟩::_) _ _;refine SW.st (ak rfl (z6 _ bu)) rfl ?_))
     refine SW.ah ?_;refine SF.take 1 [] [] aG rfl (by kernel_rfl) (by kernel_rfl) (by kernel_rfl) ?_;repeat ((show SW _ _ _ _ (⟨_,Op.nilCheck _,_,_,_,none⟩::_) _ _;refine SW.st (aI rfl) rfl ?_))
     refine SW.ah ?_;refine SF.take 2 [] [] aG rfl (by kernel_rfl) (by kernel_rfl) (by kernel_rfl) ?_;repeat ((show SW _ _ _ _ (⟨_,Op.fieldAddr _ _ _,_,_,_,none⟩::_) _ _;refine SW.st (aC rfl) rfl ?_))
     refine SW.ah ?_;refine SF.take 3 [] [] aG rfl (by kernel_rfl) (by kernel_rfl) (by kernel_rfl) ?_;repeat ((show SW _ _ _ _ (⟨_,Op.load _ _,_,_,_,none⟩::_) _ _;refine SW.st (ak rfl (mx.row.sl.dv cf (j:=5) (u := .slice cs'[i].au.A cs'[i].au.n cs'[i].au.c) rfl)) rfl ?_))
     refine SW.ah ?_;refine SF.take 4 [] [] aG rfl (by kernel_rfl) (by kernel_rfl) (by kernel_rfl) ?_;repeat (refine SW.pure rfl rfl ?_)
     refine SW.ah ?_;refine SF.take 5 [] [] aG rfl (by kernel_rfl) (by kernel_rfl) (by kernel_rfl) ?_;repeat ((show SW _ _ _ _ (⟨_,Op.load _ _,_,_,_,none⟩::_) _ _;refine SW.st (ak rfl (z6 _ bu)) rfl ?_))
     refine SW.ah ?_;refine SF.take 6 [] [] aG rfl (by kernel_rfl) (by kernel_rfl) (by kernel_rfl) ?_;repeat ((show SW _ _ _ _ (⟨_,Op.nilCheck _,_,_,_,none⟩::_) _ _;refine SW.st (aI rfl) rfl ?_))
     refine SW.ah ?_;refine SF.take 7 [] [] aG rfl (by kernel_rfl) (by kernel_rfl) (by kernel_rfl) ?_;repeat ((show SW _ _ _ _ (⟨_,Op.fieldAddr _ _ _,_,_,_,none⟩::_) _ _;refine SW.st (aC rfl) rfl ?_))
     refine SW.ah ?_;refine SF.take 8 [] [] aG rfl (by kernel_rfl) (by kernel_rfl) (by kernel_rfl) ?_;repeat ((show SW _ _ _ _ (⟨_,Op.load _ _,_,_,_,none⟩::_) _ _;refine SW.st (ak rfl (mx.row.sl.dv cf (j:=4) (u := .slice cs'[i].ai.A cs'[i].ai.n cs'[i].ai.c) rfl)) rfl ?_))
     refine SW.ah ?_;refine SF.take 9 [] [] aG rfl (by kernel_rfl) (by kernel_rfl) (by kernel_rfl) ?_;repeat (refine SW.pure rfl rfl ?_)
     refine SW.ah ?_;refine SF.take 10 [] [] aG rfl (by kernel_rfl) (by kernel_rfl) (by kernel_rfl) ?_;repeat ((show SW _ _ _ _ (⟨_,Op.indexAddr _ _ _,_,_,_,none⟩::_) _ _;refine SW.st (bj rfl rfl (by assumption) (by omega)) rfl ?_))
     refine SW.ah ?_;refine SF.take 11 [] [] aG rfl (by kernel_rfl) (by kernel_rfl) (by kernel_rfl) ?_;repeat ((show SW _ _ _ _ (⟨_,Op.fieldAddr _ _ _,_,_,_,none⟩::_) _ _;refine SW.st (aC rfl) rfl ?_))
     refine SW.ah ?_;refine SF.take 12 [] [] aG rfl (by kernel_rfl) (by kernel_rfl) (by kernel_rfl) ?_;repeat ((show SW _ _ _ _ (⟨_,Op.load _ _,_,_,_,none⟩::_) _ _;refine SW.st (ak rfl (gY _ mx)) rfl ?_))
     refine SW.ah ?_;refine SF.take 13 [] [] aG rfl (by kernel_rfl) (by kernel_rfl) (by kernel_rfl) ?_;repeat ((show SW _ _ _ _ (⟨_,Op.indexAddr _ _ _,_,_,_,none⟩::_) _ _;refine SW.st (bj rfl rfl (by assumption) (by omega)) rfl ?_))
     refine SW.ah ?_;refine SF.last rfl (by kernel_rfl) (by kernel_rfl) ?_;have hC:=mx.get kY hi;simp only at hC;refine SW.jX cpu hC.a9 rfl rfl Dm fun rf hO hg => ?_
     have hG:=hC.a9.gr hg;have Dk:=mx.act tB kY hi hO hg;have GK:=aE (kj.trans hw) hg (Nat.le_refl _) hC.a9.aM;replace jE:=jE.ay hG rfl;refine Wz ?_;refine ae.cu rfl rfl rfl ⟨_,rfl,_,gv,GK,fun j x hj h=>((qJ j x hj (h.ext IR)).ext hw).ay hG rfl,fun j x hj h=>((qO j x (h.ext IR)).ext hw).grown hg (tB.ne hj kY),.inr ⟨_,rfl,rfl,X,H,cs',jE,?_⟩⟩
     have xr:pr c1 cpu k=⟨c1.Names,c1.bf,c1.ck,c1.Order,c1.ai,c1.au.set cpu at'⟩:=by
      unfold pr;rw [fZ Ei,IN]
     simp only;rw [xr];exact Dk
  ·have KO:k2<cs[i].ai.n:=by omega
   obtain ⟨y2,Iz⟩ : ∃ y2,s.aa[i].ai[k2]=y2:=⟨_,rfl⟩;have NO : ¬ 0<y2.ag:=fun h=>hA ⟨k2,CJ,Hp,by rw [Iz];exact h⟩
   have NP:∀ w',SX w' wb.heap.size r s cs→w'.cell? ((((cs[i].ai.A).getD default).add (k2*3)).add 1)=some (Value.int .i64 y2.ag):=fun w' h=>(h.each.get i jA hi).aR.sl.dv KO (j:=1) (show (aZ (s.aa[i].ai[k2]'(by omega)))[1]?=some (Value.int .i64 y2.ag) by rw [Iz];rfl)
   subst Hp;repeat' (first|refine Wz ?_|((apply CW.aO mixed;(· kernel_rfl);rotate_left;intro w1 ab;replace hw:=Ext.trans hw ab;replace hb:=hb.ext ab;replace bu:=bu.ext ab;replace hS:=hS.ext ab;replace hJ:=hJ.ext ab;clear ab;rotate_right))|refine SW.st (ak rfl (z6 _ bu)) rfl ?_|refine SW.st (aX rfl rfl ((hS.row.sl.all cf))) rfl ?_|refine SW.st (ak rfl (hS.row.sl.dv cf (j:=5) (u := .slice cs[i].au.A cs[i].au.n cs[i].au.c) rfl)) rfl ?_|refine SW.st (ak rfl (gA _ hS)) rfl ?_|refine SW.st (ak rfl (hS.row.sl.dv cf (j:=4) (u := .slice cs[i].ai.A cs[i].ai.n cs[i].ai.c) rfl)) rfl ?_|refine SW.st (ak rfl (NP _ hS)) rfl ?_|refine SW.bq rfl rfl (fun w1 ab=>(cF _ (Ext.trans hw ab))) ?_|(refine SW.st (iv (vs:=[.pointer (some ⟨b8,0,none⟩)]) rfl) rfl ?_)|exact SW.bx rfl)
   all_goals try omega
   replace hw:=Ext.trans BG hw;clear BG cF hC;have hC:=hS.each.get i jA hi;have Dj:=hS.row.sl.dv cf (j:=5) (u := .slice cs[i].au.A cs[i].au.n cs[i].au.c) rfl;refine SW.call rfl rfl (iD _ _ _ s.aa[i].ai _ hC.aR.sl _ [.pointer (some ⟨b8,0,none⟩)] (jH s.aa[i]) (fun x => .agg (aZ x).toArray) (fun x=>rfl) (fun x z8 w1 kz=>qL x b8 _ cs[i].au.A cs[i].au.n cs[i].au.c s.aa[i].au w1 (bu.ext kz) (kz.cell Dj) (hC.a9.sl.ext kz) (by omega)) (by omega)) fun v w9 aj hv => ?_
   subst hv;(replace hw:=Ext.trans hw aj;replace hb:=hb.ext aj;replace bu:=bu.ext aj;replace hS:=hS.ext aj;replace hJ:=hJ.ext aj);clear hC Dj;obtain ⟨z,hz⟩ : ∃ z,idxOf (jH s.aa[i]) s.aa[i].ai=z:=⟨_,rfl⟩;rw [hz]
   have lD:fL s.aa[i] cpu=z:=by
    unfold fL;rw [ho,if_neg tK,hz]
   by_cases sI : 0≤z
   ·obtain ⟨k,rfl⟩:=Int.eq_ofNat_of_zero_le sI;obtain ⟨hk,fG⟩:=vS lD;have bY:k<cs[i].ai.n:=by omega
    obtain ⟨y,hy⟩ : ∃ y,s.aa[i].ai[k]=y:=⟨_,rfl⟩;have gY:∀ w',SX w' wb.heap.size r s cs→w'.cell? ((((cs[i].ai.A).getD default).add (k*3)).add 0)=some (Value.int .i64 y.At):=fun w' h=>(h.each.get i jA hi).aR.sl.dv bY (j:=0) (show (aZ (s.aa[i].ai[k]'(by omega)))[0]?=some (Value.int .i64 y.At) by rw [hy];rfl)
    refine Wz ?_;all_goals try omega
    refine CW.iO 14 14 (fun _=>True) mixed (by kernel_rfl) fun w1 ab aG => ?_
    replace hw:=Ext.trans hw ab;replace hb:=hb.ext ab;replace bu:=bu.ext ab;replace hS:=hS.ext ab;replace hJ:=hJ.ext ab;clear ab;refine SF.take 0 [] [] aG rfl (by kernel_rfl) (by kernel_rfl) (by kernel_rfl) ?_;repeat ((show SW _ _ _ _ (⟨_,Op.load _ _,_,_,_,none⟩::_) _ _;refine SW.st (ak rfl (z6 _ bu)) rfl ?_))
    refine SW.ah ?_;refine SF.take 1 [] [] aG rfl (by kernel_rfl) (by kernel_rfl) (by kernel_rfl) ?_;repeat ((show SW _ _ _ _ (⟨_,Op.nilCheck _,_,_,_,none⟩::_) _ _;refine SW.st (aI rfl) rfl ?_))
    refine SW.ah ?_;refine SF.take 2 [] [] aG rfl (by kernel_rfl) (by kernel_rfl) (by kernel_rfl) ?_;repeat ((show SW _ _ _ _ (⟨_,Op.fieldAddr _ _ _,_,_,_,none⟩::_) _ _;refine SW.st (aC rfl) rfl ?_))
    refine SW.ah ?_;refine SF.take 3 [] [] aG rfl (by kernel_rfl) (by kernel_rfl) (by kernel_rfl) ?_;repeat ((show SW _ _ _ _ (⟨_,Op.load _ _,_,_,_,none⟩::_) _ _;refine SW.st (ak rfl (hS.row.sl.dv cf (j:=5) (u := .slice cs[i].au.A cs[i].au.n cs[i].au.c) rfl)) rfl ?_))
    refine SW.ah ?_;refine SF.take 4 [] [] aG rfl (by kernel_rfl) (by kernel_rfl) (by kernel_rfl) ?_;repeat (refine SW.pure rfl rfl ?_)
    refine SW.ah ?_;refine SF.take 5 [] [] aG rfl (by kernel_rfl) (by kernel_rfl) (by kernel_rfl) ?_;repeat ((show SW _ _ _ _ (⟨_,Op.load _ _,_,_,_,none⟩::_) _ _;refine SW.st (ak rfl (z6 _ bu)) rfl ?_))
    refine SW.ah ?_;refine SF.take 6 [] [] aG rfl (by kernel_rfl) (by kernel_rfl) (by kernel_rfl) ?_;repeat ((show SW _ _ _ _ (⟨_,Op.nilCheck _,_,_,_,none⟩::_) _ _;refine SW.st (aI rfl) rfl ?_))
    refine SW.ah ?_;refine SF.take 7 [] [] aG rfl (by kernel_rfl) (by kernel_rfl) (by kernel_rfl) ?_;repeat ((show SW _ _ _ _ (⟨_,Op.fieldAddr _ _ _,_,_,_,none⟩::_) _ _;refine SW.st (aC rfl) rfl ?_))
    refine SW.ah ?_;refine SF.take 8 [] [] aG rfl (by kernel_rfl) (by kernel_rfl) (by kernel_rfl) ?_;repeat ((show SW _ _ _ _ (⟨_,Op.load _ _,_,_,_,none⟩::_) _ _;refine SW.st (ak rfl (hS.row.sl.dv cf (j:=4) (u := .slice cs[i].ai.A cs[i].ai.n cs[i].ai.c) rfl)) rfl ?_))
    refine SW.ah ?_;refine SF.take 9 [] [] aG rfl (by kernel_rfl) (by kernel_rfl) (by kernel_rfl) ?_;repeat (refine SW.pure rfl rfl ?_)
    refine SW.ah ?_;refine SF.take 10 [] [] aG rfl (by kernel_rfl) (by kernel_rfl) (by kernel_rfl) ?_;repeat ((show SW _ _ _ _ (⟨_,Op.indexAddr _ _ _,_,_,_,none⟩::_) _ _;refine SW.st (bj rfl rfl (by assumption) (by omega)) rfl ?_))
    refine SW.ah ?_;refine SF.take 11 [] [] aG rfl (by kernel_rfl) (by kernel_rfl) (by kernel_rfl) ?_;repeat ((show SW _ _ _ _ (⟨_,Op.fieldAddr _ _ _,_,_,_,none⟩::_) _ _;refine SW.st (aC rfl) rfl ?_))
    refine SW.ah ?_;refine SF.take 12 [] [] aG rfl (by kernel_rfl) (by kernel_rfl) (by kernel_rfl) ?_;repeat ((show SW _ _ _ _ (⟨_,Op.load _ _,_,_,_,none⟩::_) _ _;refine SW.st (ak rfl (gY _ hS)) rfl ?_))
    refine SW.ah ?_;refine SF.take 13 [] [] aG rfl (by kernel_rfl) (by kernel_rfl) (by kernel_rfl) ?_;repeat ((show SW _ _ _ _ (⟨_,Op.indexAddr _ _ _,_,_,_,none⟩::_) _ _;refine SW.st (bj rfl rfl (by assumption) (by omega)) rfl ?_))
    refine SW.ah ?_;refine SF.last rfl (by kernel_rfl) (by kernel_rfl) ?_;have hC:=hS.each.get i jA hi;refine SW.jX cpu hC.a9 rfl rfl EX fun mw hO hg => ?_
    have hG:=hC.a9.gr hg;rw [← e0] at hS hJ;have Dk:=hS.act hJ jA hi hO hg;have GK:=aE (hx.trans hw) hg (Nat.le_refl _) hC.a9.aM;replace hb:=hb.ay hG rfl;refine Wz ?_;refine ae.cu rfl rfl rfl ⟨_,rfl,_,.CZ lD,GK,fun j x hj h=>(h.ext hw).ay hG rfl,fun j x hj h=>(h.ext hw).grown hg (hJ.ne hj jA),.inr ⟨_,rfl,rfl,r.Words,r.Heap,cs,hb,?_⟩⟩
    have xr:pr s.aa[i] cpu k=⟨s.aa[i].Names,s.aa[i].bf,s.aa[i].ck,s.aa[i].Order,s.aa[i].ai,s.aa[i].au.set cpu y.At⟩:=by
     unfold pr;rw [fZ hk,hy]
    simp only;rw [xr];exact Dk
   ·have rj:fL s.aa[i] cpu<0:=by omega
    refine Wz ?_;all_goals try omega
    refine SW.cV rfl rfl (xE G wb _ b r s cs i cpu hf hi hM (ti.ext hw) (hx.trans hw) hb EG hS (fun g hg=>⟨Nat.lt_of_lt_of_le (EH g hg) hw.size,fun u hu=>hJ.sep u hu g hg⟩) DD) fun v mw hv => ?_
    obtain ⟨⟨h',at',e⟩,hu,hv⟩:=hv;simp only at hv;rcases hv with ⟨he,rfl,kj⟩|⟨rfl,GL,rfl,kj⟩|⟨rfl,gb,rfl,kj,qJ,tP,qO,X,H,cs',jE,mx,tB⟩
    ·refine Wz ?_;all_goals try omega
     exact ae.cu rfl rfl rfl ⟨_,rfl,_,.room rj hu he,(hx.trans hw).trans kj,fun j x hj h=>(h.ext hw).ext kj,fun j x hj h=>(h.ext hw).ext kj,.inl ⟨rfl,he,rfl⟩⟩
    ·refine Wz ?_;all_goals try omega
     exact ae.cu rfl rfl rfl ⟨_,rfl,_,.chain rj hu rfl GL,(hx.trans hw).trans kj,fun j x hj h=>(h.ext hw).ext kj,fun j x hj h=>(h.ext hw).ext kj,.inl ⟨rfl,by simp,rfl⟩⟩
    ·replace bu:=tP _ _ bu;obtain ⟨e3,e4⟩:=mx.rows;have kY:i<cs'.length:=by simp only [iE] at e3;omega
     obtain ⟨k,vV⟩ : ∃ k,lC s.aa[i] at'=k:=⟨_,rfl⟩
     obtain ⟨c1,sh⟩ : ∃ c1,eG s.aa[i] at'=c1:=⟨_,rfl⟩
     have sB:=l7 s.aa[i] at'
     have Ag:c1.ai.length=s.aa[i].ai.length+1:=by
      rw [← sh];exact dq _ sB _
     have Ei:k<c1.ai.length:=by omega
     have IN:c1.ai[k]=⟨at',s.aa[i].ck,16*at'⟩:=by
      subst sh;subst vV;exact td sB Ei
     have Dl:c1.au=s.aa[i].au:=by rw [← sh];rfl
     have gv:=ks.new rj hu rfl gb;rw [sh] at mx tB;rw [vV];simp only [sh,vV] at gv;have hC:=mx.get kY hi;simp only at hC;have q5:=hC.aR.len;have q6:=hC.a9.len;have bY:k<cs'[i].ai.n:=by omega
     have Dm:cpu<cs'[i].au.n:=by rw [← q6,Dl];exact nL
     have IP:=hC.aR.sl.base;have IQ:=hC.a9.sl.base;have gY:∀ w',SX w' wb.heap.size ⟨X,H,r.aa⟩ (cm (iE s (iX s.Words (16*at') s.aa[i].bf s.aa[i].ck)) i (h',c1)) cs'→w'.cell? ((((cs'[i].ai.A).getD default).add (k*3)).add 0)=some (Value.int .i64 at'):=fun w' h=>(h.get kY hi).aR.sl.dv bY (j:=0) (show (aZ (c1.ai[k]'(by omega)))[0]?=some (Value.int .i64 at') by rw [IN];rfl)
     clear hC hS hJ hb;have IR:=hw;have hw:=Ext.refl mw;refine Wz ?_;all_goals try omega
     refine CW.iO 14 14 (fun _=>True) mixed (by kernel_rfl) fun w1 ab aG => ?_
     replace hw:=Ext.trans hw ab;replace jE:=jE.ext ab;replace bu:=bu.ext ab;replace mx:=mx.ext ab;replace tB:=tB.ext ab;clear ab;refine SF.take 0 [] [] aG rfl (by kernel_rfl) (by kernel_rfl) (by kernel_rfl) ?_;repeat ((show SW _ _ _ _ (⟨_,Op.load _ _,_,_,_,none⟩::_) _ _;refine SW.st (ak rfl (z6 _ bu)) rfl ?_))
     refine SW.ah ?_;refine SF.take 1 [] [] aG rfl (by kernel_rfl) (by kernel_rfl) (by kernel_rfl) ?_;repeat ((show SW _ _ _ _ (⟨_,Op.nilCheck _,_,_,_,none⟩::_) _ _;refine SW.st (aI rfl) rfl ?_))
     refine SW.ah ?_;refine SF.take 2 [] [] aG rfl (by kernel_rfl) (by kernel_rfl) (by kernel_rfl) ?_;repeat ((show SW _ _ _ _ (⟨_,Op.fieldAddr _ _ _,_,_,_,none⟩::_) _ _;refine SW.st (aC rfl) rfl ?_))
     refine SW.ah ?_;refine SF.take 3 [] [] aG rfl (by kernel_rfl) (by kernel_rfl) (by kernel_rfl) ?_;repeat ((show SW _ _ _ _ (⟨_,Op.load _ _,_,_,_,none⟩::_) _ _;refine SW.st (ak rfl (mx.row.sl.dv cf (j:=5) (u := .slice cs'[i].au.A cs'[i].au.n cs'[i].au.c) rfl)) rfl ?_))
     refine SW.ah ?_;refine SF.take 4 [] [] aG rfl (by kernel_rfl) (by kernel_rfl) (by kernel_rfl) ?_;repeat (refine SW.pure rfl rfl ?_)
     refine SW.ah ?_;refine SF.take 5 [] [] aG rfl (by kernel_rfl) (by kernel_rfl) (by kernel_rfl) ?_;repeat ((show SW _ _ _ _ (⟨_,Op.load _ _,_,_,_,none⟩::_) _ _;refine SW.st (ak rfl (z6 _ bu)) rfl ?_))
     refine SW.ah ?_;refine SF.take 6 [] [] aG rfl (by kernel_rfl) (by kernel_rfl) (by kernel_rfl) ?_;repeat ((show SW _ _ _ _ (⟨_,Op.nilCheck _,_,_,_,none⟩::_) _ _;refine SW.st (aI rfl) rfl ?_))
     refine SW.ah ?_;refine SF.take 7 [] [] aG rfl (by kernel_rfl) (by kernel_rfl) (by kernel_rfl) ?_;repeat ((show SW _ _ _ _ (⟨_,Op.fieldAddr _ _ _,_,_,_,none⟩::_) _ _;refine SW.st (aC rfl) rfl ?_))
     refine SW.ah ?_;refine SF.take 8 [] [] aG rfl (by kernel_rfl) (by kernel_rfl) (by kernel_rfl) ?_;repeat ((show SW _ _ _ _ (⟨_,Op.load _ _,_,_,_,none⟩::_) _ _;refine SW.st (ak rfl (mx.row.sl.dv cf (j:=4) (u := .slice cs'[i].ai.A cs'[i].ai.n cs'[i].ai.c) rfl)) rfl ?_))
     refine SW.ah ?_;refine SF.take 9 [] [] aG rfl (by kernel_rfl) (by kernel_rfl) (by kernel_rfl) ?_;repeat (refine SW.pure rfl rfl ?_)
     refine SW.ah ?_;refine SF.take 10 [] [] aG rfl (by kernel_rfl) (by kernel_rfl) (by kernel_rfl) ?_;repeat ((show SW _ _ _ _ (⟨_,Op.indexAddr _ _ _,_,_,_,none⟩::_) _ _;refine SW.st (bj rfl rfl (by assumption) (by omega)) rfl ?_))
     refine SW.ah ?_;refine SF.take 11 [] [] aG rfl (by kernel_rfl) (by kernel_rfl) (by kernel_rfl) ?_;repeat ((show SW _ _ _ _ (⟨_,Op.fieldAddr _ _ _,_,_,_,none⟩::_) _ _;refine SW.st (aC rfl) rfl ?_))
     refine SW.ah ?_;refine SF.take 12 [] [] aG rfl (by kernel_rfl) (by kernel_rfl) (by kernel_rfl) ?_;repeat ((show SW _ _ _ _ (⟨_,Op.load _ _,_,_,_,none⟩::_) _ _;refine SW.st (ak rfl (gY _ mx)) rfl ?_))
     refine SW.ah ?_;refine SF.take 13 [] [] aG rfl (by kernel_rfl) (by kernel_rfl) (by kernel_rfl) ?_;repeat ((show SW _ _ _ _ (⟨_,Op.indexAddr _ _ _,_,_,_,none⟩::_) _ _;refine SW.st (bj rfl rfl (by assumption) (by omega)) rfl ?_))
     refine SW.ah ?_;refine SF.last rfl (by kernel_rfl) (by kernel_rfl) ?_;have hC:=mx.get kY hi;simp only at hC;refine SW.jX cpu hC.a9 rfl rfl Dm fun rf hO hg => ?_
     have hG:=hC.a9.gr hg;have Dk:=mx.act tB kY hi hO hg;have GK:=aE (kj.trans hw) hg (Nat.le_refl _) hC.a9.aM;replace jE:=jE.ay hG rfl;refine Wz ?_;refine ae.cu rfl rfl rfl ⟨_,rfl,_,gv,GK,fun j x hj h=>((qJ j x hj (h.ext IR)).ext hw).ay hG rfl,fun j x hj h=>((qO j x (h.ext IR)).ext hw).grown hg (tB.ne hj kY),.inr ⟨_,rfl,rfl,X,H,cs',jE,?_⟩⟩
     have xr:pr c1 cpu k=⟨c1.Names,c1.bf,c1.ck,c1.Order,c1.ai,c1.au.set cpu at'⟩:=by
      unfold pr;rw [fZ Ei,IN]
     simp only;rw [xr];exact Dk
def GM (G:Nat→Prop) (wb w0:World) (b:Nat) (r:dV) (s:aF) (i:Nat) (c:bd) (cpu:Nat) (v:Value) (w':World) : Prop :=
 ∃ m,ks s c cpu m∧Ext wb w'∧(∀ j x,j≠b→aJ w0 j 30 x→aJ w' j 30 x)∧(∀ j x,G j→aJ w0 j 3 x→aJ w' j 3 x) ∧
  ((m.1=none∧m.2≠0∧v = .tuple #[.int .i64 0,.int .i64 m.2]) ∨
   ∃ M,m=(some M,0)∧v = .tuple #[.int .i64 (fg M.c M.k).fR,.int .i64 0] ∧ ∃ X H cs',aJ w' b 30 (aU ⟨X,H,r.aa⟩)∧SX w' wb.heap.size ⟨X,H,r.aa⟩ (cm (iE s M.ws) i (M.h,kf M.c cpu M.k (M.ws.getD (fg M.c M.k).fR.toNat 0))) cs'∧SJ G w' wb.heap.size ⟨X,H,r.aa⟩ (cm (iE s M.ws) i (M.h,kf M.c cpu M.k (M.ws.getD (fg M.c M.k).fR.toNat 0))) cs')
theorem nH.z7 {w w':World} {lo:Nat} {r:dV} {s:aF} {cs:List dn} {i:Nat} {p:Heap×bd} {l':List Slab} (h:SX w lo r (cm s i p) cs) (hi:i<cs.length) (pL:i<s.aa.length) (hO:Own w' lo 48 3 aZ cs[i].ai.A cs[i].ai.n cs[i].ai.c l') (hg:w.grownBy w' (aT cs[i].ai.A cs[i].ai.c)) :
 SX w' lo r (cm s i (p.1,⟨p.2.Names,p.2.bf,p.2.ck,p.2.Order,l',p.2.au⟩)) cs:=by
 have:=h.Es hi pL hO hg
 have e:cs.set i ⟨cs[i].Names,cs[i].bf,cs[i].ck,cs[i].Order,⟨cs[i].ai.A,cs[i].ai.n,cs[i].ai.c⟩,cs[i].au⟩=cs:=List.set_getElem_self hi
 rwa [e] at this
set_option maxHeartbeats 4000000 in
theorem EL (G:Nat→Prop) (wb w0:World) (b:Nat) (r:dV) (s:aF) (cs:List dn) (i cpu:Nat) (hf:s.lA) (hi:i<s.aa.length) (hM:nJ s s.aa[i]) (ti:oZ w0)
 (hx:Ext wb w0) (hb:aJ w0 b 30 (aU r)) (EG:wb.heap.size≤b) (hS:SX w0 wb.heap.size r s cs) (hJ:SJ G w0 wb.heap.size r s cs) (EH:∀ g,G g→g<w0.heap.size) (nL:cpu<s.aa[i].au.length) (DD:(s.aa[i].ai.length+1)*24≤140737488355328) :
 gL Tryz.prog 15 [.pointer (some ⟨b,0,none⟩),.int .i64 (i:Int),.int .i64 (cpu:Int)] w0 (GM G wb w0 b r s i s.aa[i] cpu):=by
 refine dw Tryz.func15 rfl Tryz.ntmps15 rfl ?_;have hm:=hM.most;have KL:=hS.row.sl.base;obtain ⟨e1,e2⟩:=hS.len;have cf:i<r.aa.n:=by omega
 refine Wz ?_;refine SW.cV rfl rfl (zh G wb _ b r s cs i cpu hf hi hM ti hx hb EG hS hJ EH nL DD) fun v w1 hv => ?_
 obtain ⟨m,gv,kz,qJ,qO,hv⟩:=hv;rcases hv with ⟨hn,he,rfl⟩|⟨M,rfl,rfl,X,H,cs',aA,Et,NQ⟩
 ·have hw:=Ext.refl w1;refine Wz ?_;all_goals try omega
  exact ae.cu rfl rfl rfl ⟨_,rfl,m,gv,kz,qJ,qO,.inl ⟨hn,he,rfl⟩⟩
 ·have jc:=gv.FV hM M rfl;obtain ⟨e3,e4⟩:=Et.rows;simp only [iE] at e3;have kY:i<cs'.length:=by omega
  obtain ⟨k,hk⟩ : ∃ k,M.k=k:=⟨_,rfl⟩;have de:=jc.hk;have IS:=jc.first
  have CI:=jc.free;have Hh:=jc.len;obtain ⟨y,hy⟩ : ∃ y,M.c.ai[M.k]=y:=⟨_,rfl⟩;have Hq:fg M.c M.k=y:=by rw [fZ de,hy]
  rw [hy] at IS CI;obtain ⟨an,GN⟩:=Int.eq_ofNat_of_zero_le IS.1;have hC:=Et.get kY hi;simp only [pr] at hC;have q1:M.c.ai.length=cs'[i].ai.n:=hC.aR.len
  have q2:=Et.words.len;have OA:X.n=M.ws.length:=q2.symm
  have ns:M.k<cs'[i].ai.n:=by omega
  have Jv:=hC.aR.sl.base;have OB:=Et.words.sl.base;have g2:=hC.aR.sl.dv ns (j:=2) (show (aZ (M.c.ai[M.k]'(by omega)))[2]?=some (Value.int .i64 (an:Int)) by rw [hy,← GN];rfl);have GO:an<M.ws.length:=by omega
  have GP:an<X.n:=by omega
  have gW:=Et.words.sl.one GP (u := .int .i64 M.ws[an]) rfl;have hw:=Ext.refl w1;repeat' (first|refine Wz ?_|refine SW.st (ak rfl (Et.row.sl.dv cf (j:=4) (u := .slice cs'[i].ai.A cs'[i].ai.n cs'[i].ai.c) rfl)) rfl ?_|refine SW.st (ak rfl g2) rfl ?_|refine SW.st (ak rfl gW) rfl ?_)
  all_goals try omega
  refine SW.gH M.k 2 ⟨y.At,y.ag,M.ws[an]⟩ hC.aR rfl rfl rfl ns (by decide) rfl (by simp only [hy];rfl) fun w8 L6 zZ => ?_
  have g8:=L6.sl.dv ns (j:=1) (show (aZ ((M.c.ai.set M.k ⟨y.At,y.ag,M.ws[an]⟩)[M.k]'(by rw [List.length_set];exact de)))[1]?=some (Value.int .i64 y.ag) by rw [List.getElem_set_self];rfl);repeat' (first|refine Wz ?_|refine SW.st (ak rfl g8) rfl ?_)
  refine SW.gH M.k 1 ⟨y.At,y.ag-1,M.ws[an]⟩ L6 rfl rfl rfl ns (by decide) rfl (by simp only [List.getElem_set_self];rfl) fun w9 L7 NR => ?_
  have wv:=bO zZ NR (.inl rfl);rw [List.set_set] at L7;have Jx:=hC.aR.gr wv;have L8:=Et.z7 kY hi L7 wv;have NS:=aE kz wv (Nat.le_refl _) hC.aR.aM;replace aA:=aA.ay Jx rfl;refine Wz ?_;refine ae.cu rfl rfl rfl ⟨_,rfl,_,gv,NS,fun j x hj h=>(qJ j x hj h).ay Jx rfl,fun j x hj h=>(qO j x hj h).ay Jx rfl,.inr ⟨M,rfl,by rw [Hq,GN],X,H,cs',aA,?_⟩⟩
  have xr:kf M.c cpu M.k (M.ws.getD (fg M.c M.k).fR.toNat 0)=⟨M.c.Names,M.c.bf,M.c.ck,M.c.Order,M.c.ai.set M.k ⟨y.At,y.ag-1,M.ws[an]⟩,M.c.au.set cpu y.At⟩:=by
   unfold kf;rw [Hq,GN];simp [GO]
  rw [xr];simp only [pr,Hq] at L8;exact ⟨L8,(NQ.ay Jx rfl).rows rfl fun u hu=>⟨u,hu,rfl⟩⟩
set_option maxHeartbeats 4000000 in
theorem uf (r:dV) (s:aF) (n:ByteArray) (cpu:Int) (w:World) (hr:ry w r s) (hf:s.lA) (Jw:n.size≤140737488351232) (ti:oZ w) :
 bt Tryz.prog 6 [.agg (aU r).toArray,.string n,.int .i64 cpu] w fun v w' => ∃ u,nK s n cpu u ∧ ∃ q,v = .tuple #[.agg (aU q).toArray,.int .i64 u.2.1,.int .i64 u.2.2]∧tU w' w.heap.size q u.1:=by
 refine aL Tryz.func6 rfl Tryz.ntmps6 rfl ?_;refine CW.seq (CW.region (SW.box rfl rfl fun b3 w1 hw bK ar => ?_));refine SW.alloc rfl fun b6 w3 jQ eW ax => ?_
 have di:w.heap.size≤b6:=Nat.le_trans hw.size eW
 have cG:b6≠b3:=by have:=ar.lt;omega
 have hz:∀ w',tU w' w.heap.size dV.zero aF.zero:=fun w'=>⟨Own.eR _ _ _ _ _ _,iH.zero w' _,⟨[],eE.nil _ _⟩⟩
 (replace hw:=Ext.trans hw jQ;replace ar:=ar.ext jQ);refine Wz ?_;refine SW.call rfl rfl (EK r s n cpu _ (hr.ext hw) hf Jw) fun v w4 aj hv => ?_
 have ui:=hw.size;(replace hw:=Ext.trans hw aj;replace ar:=ar.ext aj;replace ax:=ax.ext aj);rcases hv with ⟨he,rfl⟩|⟨he,q,cs,rfl,hO,hI⟩
 ·have hP:=nK.ask he;obtain ⟨e,hE⟩ : ∃ e,lY s n cpu=e:=⟨_,rfl⟩;rw [hE] at he hP;rw [hE];refine Wz ?_;refine SW.ap ar rfl rfl rfl rfl (dD .zero) fun w5 cS hg => ?_
  replace ax:=ax.grown hg (by simpa using cG);replace hw:=hw.own bK hg;refine Wz ?_;all_goals try omega
  refine SW.ap ax rfl rfl rfl rfl (dD .zero) fun w6 bP hg => ?_
  replace hw:=hw.own di hg;refine Wz ?_;exact ae.dl rfl rfl rfl rfl bP rfl ⟨_,rfl,hw,_,hP,.zero,rfl,hz _⟩
 ·replace hO:=hO.low ui;replace hI:=hI.low ui;obtain ⟨hq,ht,KP,sh⟩:=vO he;obtain ⟨i,hi,_,_,qX⟩:=jN ht;have hM:=pj.1 hq;have hm:=hM.most;obtain ⟨c,rfl⟩:=Int.eq_ofNat_of_zero_le KP;have NT:=(hM.each i hi).may.a9;have nL:c<s.aa[i].au.length:=by omega
  have hB:=nJ.of hM hi;have DD:=qg hB;rw [qX];refine Wz ?_;refine SW.ap ar rfl rfl rfl rfl (dD q) fun w5 cS hg => ?_
  have hG:=ar.gr hg;replace ax:=ax.grown hg (by simpa using cG);replace hw:=hw.own bK hg;(replace hO:=hO.ay hG rfl;replace hI:=hI.ay hG rfl);replace ar:=cS;clear cS hG hg;refine Wz ?_;refine SW.cV rfl rfl (EL (fun _=>False) w _ b3 q s cs i c hf hi hB (ti.ext hw) hw ar bK hO hI.sj (fun _ h=>h.elim) nL (by omega)) fun v w6 hv => ?_
  obtain ⟨m,gv,KQ,qJ,_,hv⟩:=hv;have hP:=nK.Ew he qX hi (by simpa using gv);replace ax:=qJ _ _ cG ax;clear hw;have hw:=KQ;rcases hv with ⟨hn,nO,rfl⟩|⟨M,rfl,rfl,X,H,cs',hb,hS,_⟩
  ·obtain ⟨m1,e⟩:=m;simp only at hn nO hP;subst hn;simp only [kg] at hP;refine Wz ?_;all_goals try omega
   refine SW.ap ax rfl rfl rfl rfl (dD .zero) fun w7 bP hg => ?_
   replace hw:=hw.own di hg;refine Wz ?_;exact ae.dl rfl rfl rfl rfl bP rfl ⟨_,rfl,hw,_,hP,.zero,rfl,hz _⟩
  ·simp only [kg] at hP;refine Wz ?_;refine SW.ap ax rfl rfl rfl rfl (dD ⟨X,H,q.aa⟩) fun w7 bP hg => ?_
   have hG:=ax.gr hg;replace hw:=hw.own di hg;replace hS:=hS.ay hG rfl;refine Wz ?_;exact ae.dl rfl rfl rfl rfl bP rfl ⟨_,rfl,hw,_,hP,_,rfl,by simpa using hS.AF⟩
open Go.RowKit
set_option maxHeartbeats 4000000 in
theorem jB (r:dV) (s:aF) (w:World) (hr:ry w r s) (hs:s.small) :
 bt Tryz.prog 5 [.agg (aU r).toArray] w fun v w' => ∃ q zr,v = .agg (aU q).toArray∧SX w' w.heap.size q s zr∧SI w' w.heap.size q s zr:=by
 refine aL Tryz.func5 rfl Tryz.ntmps5 rfl ?_;refine CW.seq (CW.region (SW.box rfl rfl fun b1 w1 hw gK aA => ?_));refine SW.alloc rfl fun b2 w2 cw gQ aK => ?_
 have pH:w.heap.size≤b2:=Nat.le_trans hw.size gQ
 have yg:b2≠b1:=by have:=aA.lt;omega
 (replace hw:=Ext.trans hw cw;replace aA:=aA.ext cw);obtain ⟨cs,hc⟩:=hr.dN;have Hh:=hr.words.len;have s1:=hs.words;have s3:=hs.dN;obtain ⟨c1,c2⟩:=hc.len;refine Wz ?_
 obtain ⟨K,hK⟩ : ∃ K:Env→World→Prop,K=fun L' w' => ∃ X c1 G b3 m1 m2,ev L' [(1,.pointer (some ⟨b1,0,none⟩)),(2,.pointer (some ⟨b2,0,none⟩)),(3,.pointer (some ⟨b3,0,none⟩))]∧Ext w w'∧aJ w' b1 30 (aU r)∧aJ w' b2 30 (aU .zero) ∧
  aJ w' b3 30 (aU ⟨⟨X,r.Words.n,c1⟩,G,.nil⟩)∧Own w' w.heap.size 3 1 bh X r.Words.n c1 s.Words∧fw w' m1 m2 G s.Heap∧(w.heap.size≤m1∧m1≤m2∧m2≤w'.heap.size ∧ ∀ g,aT X c1=some g→g<m1)∧w.heap.size≤b3∧b1≠b3∧b2≠b3:=⟨_,rfl⟩
 refine CW.cut K ?_ ?_
 ·refine CW.any 8 mixed (cl (by kernel_rfl)) rfl fun w1 ab aG => ?_
  replace hw:=Ext.trans hw ab;replace aA:=aA.ext ab;replace aK:=aK.ext ab;clear ab;refine Wa ?_;refine SA.take 4 aG rfl (by kernel_rfl) (by kernel_rfl) rfl ?_;repeat ((show SW _ _ _ _ (⟨_,Op.load _ _,_,_,_,none⟩::_) _ _;refine SW.st (aX rfl rfl ((gR aA))) rfl ?_))
  refine SW.ah ?_;refine SA.two 2 7 rfl rfl (by kernel_rfl) rfl rfl ?_ ?_
  ·refine SW.call rfl rfl (gd _ _ _ _ _ (hr.words.ext hw) (by omega)) fun v w4 aj hv => ?_
   obtain ⟨X,c4,rfl,hX⟩:=hv;replace hX:=hX.low hw.size;replace hw:=Ext.trans hw aj;replace aA:=aA.ext aj;replace aK:=aK.ext aj;try replace ar:=ar.ext aj
   refine SW.nil (ae.sa aj ?_);refine SA.two 5 7 rfl rfl (by kernel_rfl) rfl rfl ?_ ?_
   ·refine SW.call rfl rfl (jM _ _ _ (hr.heap.ext hw) hs.heap) fun v w4 aj hv => ?_
    obtain ⟨G,rfl,hY⟩:=hv;have Dh:∃ m1 m2,w.heap.size≤m1∧m1≤m2∧m2≤w4.heap.size∧(∀ g,aT X c4=some g→g<m1)∧fw w4 m1 m2 G s.Heap:=⟨_,_,hw.size,aj.size,Nat.le_refl _,hX.lt_size,hY.lU⟩
    clear hY;obtain ⟨m1,m2,qd,kX,qe,zd,hY⟩:=Dh;replace hX:=hX.ext aj;replace hw:=Ext.trans hw aj;replace aA:=aA.ext aj;replace aK:=aK.ext aj;try replace ar:=ar.ext aj
    refine SW.nil (ae.sa aj ?_);refine Wa ?_;refine SA.one 7 rfl (by kernel_rfl) rfl ?_;refine SW.alloc rfl fun b3 w4 aj bK ar => ?_
    have cn:w.heap.size≤b3:=Nat.le_trans hw.size bK
    try replace qe:=Nat.le_trans qe aj.size
    have eu:b1≠b3:=by have:=aA.lt;omega
    have ed:b2≠b3:=by have:=aK.lt;omega
    replace hw:=Ext.trans hw aj;replace aA:=aA.ext aj;replace aK:=aK.ext aj;try replace hX:=hX.ext aj
    try replace hY:=hY.ext aj
    refine SW.nil (ae.sa aj ?_);refine SA.done (by kernel_rfl) ?_;skip;refine SW.ap ar rfl rfl rfl rfl (dD ⟨⟨X,r.Words.n,c4⟩,G,.nil⟩) fun w5 bP hg => ?_
    have hG:=ar.gr hg;have vW:=Nat.le_trans qe hg.size;replace hw:=hw.own cn hg;(replace hX:=hX.ay hG rfl;replace hY:=hY.ay hG rfl);replace aA:=aA.grown hg (by simpa using eu);replace aK:=aK.grown hg (by simpa using ed);refine Wz ?_;exact ae.cut (K:=K) (by rw [hK];exact ⟨X,c4,G,b3,m1,m2,⟨rfl,rfl,rfl,trivial⟩,hw,aA,aK,bP,hX,hY,⟨qd,kX,vW,zd⟩,cn,eu,ed⟩)
   ·refine SW.alloc rfl fun b3 w4 aj bK ar => ?_
    have cn:w.heap.size≤b3:=Nat.le_trans hw.size bK
    try replace qe:=Nat.le_trans qe aj.size
    have eu:b1≠b3:=by have:=aA.lt;omega
    have ed:b2≠b3:=by have:=aK.lt;omega
    replace hw:=Ext.trans hw aj;replace aA:=aA.ext aj;replace aK:=aK.ext aj;try replace hX:=hX.ext aj
    try replace hY:=hY.ext aj
    refine SW.nil (ae.sa aj ?_);refine SA.one 5 rfl (by kernel_rfl) rfl ?_;refine SW.call rfl rfl (jM _ _ _ (hr.heap.ext hw) hs.heap) fun v w4 aj hv => ?_
    obtain ⟨G,rfl,hY⟩:=hv;have Dh:∃ m1 m2,w.heap.size≤m1∧m1≤m2∧m2≤w4.heap.size∧(∀ g,aT X c4=some g→g<m1)∧fw w4 m1 m2 G s.Heap:=⟨_,_,hw.size,aj.size,Nat.le_refl _,hX.lt_size,hY.lU⟩
    clear hY;obtain ⟨m1,m2,qd,kX,qe,zd,hY⟩:=Dh;replace hX:=hX.ext aj;replace hw:=Ext.trans hw aj;replace aA:=aA.ext aj;replace aK:=aK.ext aj;try replace ar:=ar.ext aj
    refine SW.nil (ae.sa aj ?_);refine Wa ?_;refine SA.done (by kernel_rfl) ?_;skip;refine SW.ap ar rfl rfl rfl rfl (dD ⟨⟨X,r.Words.n,c4⟩,G,.nil⟩) fun w5 bP hg => ?_
    have hG:=ar.gr hg;have vW:=Nat.le_trans qe hg.size;replace hw:=hw.own cn hg;(replace hX:=hX.ay hG rfl;replace hY:=hY.ay hG rfl);replace aA:=aA.grown hg (by simpa using eu);replace aK:=aK.grown hg (by simpa using ed);refine Wz ?_;exact ae.cut (K:=K) (by rw [hK];exact ⟨X,c4,G,b3,m1,m2,⟨rfl,rfl,rfl,trivial⟩,hw,aA,aK,bP,hX,hY,⟨qd,kX,vW,zd⟩,cn,eu,ed⟩)
  ·refine SW.alloc rfl fun b3 w4 aj bK ar => ?_
   have cn:w.heap.size≤b3:=Nat.le_trans hw.size bK
   try replace qe:=Nat.le_trans qe aj.size
   have eu:b1≠b3:=by have:=aA.lt;omega
   have ed:b2≠b3:=by have:=aK.lt;omega
   replace hw:=Ext.trans hw aj;replace aA:=aA.ext aj;replace aK:=aK.ext aj;try replace hX:=hX.ext aj
   try replace hY:=hY.ext aj
   refine SW.nil (ae.sa aj ?_);refine SA.one 2 rfl (by kernel_rfl) rfl ?_;refine SW.call rfl rfl (gd _ _ _ _ _ (hr.words.ext hw) (by omega)) fun v w4 aj hv => ?_
   obtain ⟨X,c4,rfl,hX⟩:=hv;replace hX:=hX.low hw.size;replace hw:=Ext.trans hw aj;replace aA:=aA.ext aj;replace aK:=aK.ext aj;try replace ar:=ar.ext aj
   refine SW.nil (ae.sa aj ?_);refine SA.one 5 rfl (by kernel_rfl) rfl ?_;refine SW.call rfl rfl (jM _ _ _ (hr.heap.ext hw) hs.heap) fun v w4 aj hv => ?_
   obtain ⟨G,rfl,hY⟩:=hv;have Dh:∃ m1 m2,w.heap.size≤m1∧m1≤m2∧m2≤w4.heap.size∧(∀ g,aT X c4=some g→g<m1)∧fw w4 m1 m2 G s.Heap:=⟨_,_,hw.size,aj.size,Nat.le_refl _,hX.lt_size,hY.lU⟩
   clear hY;obtain ⟨m1,m2,qd,kX,qe,zd,hY⟩:=Dh;replace hX:=hX.ext aj;replace hw:=Ext.trans hw aj;replace aA:=aA.ext aj;replace aK:=aK.ext aj;try replace ar:=ar.ext aj
   refine SW.nil (ae.sa aj ?_);refine Wa ?_;refine SA.done (by kernel_rfl) ?_;skip;refine SW.ap ar rfl rfl rfl rfl (dD ⟨⟨X,r.Words.n,c4⟩,G,.nil⟩) fun w5 bP hg => ?_
   have hG:=ar.gr hg;have vW:=Nat.le_trans qe hg.size;replace hw:=hw.own cn hg;(replace hX:=hX.ay hG rfl;replace hY:=hY.ay hG rfl);replace aA:=aA.grown hg (by simpa using eu);replace aK:=aK.grown hg (by simpa using ed);refine Wz ?_;exact ae.cut (K:=K) (by rw [hK];exact ⟨X,c4,G,b3,m1,m2,⟨rfl,rfl,rfl,trivial⟩,hw,aA,aK,bP,hX,hY,⟨qd,kX,vW,zd⟩,cn,eu,ed⟩)
 ·clear aA aK hw;subst hK;rintro L' w' ⟨X,c4,G,b3,m1,m2,fq,hw,aA,aK,ar,hX,hY,⟨qd,kX,vW,zd⟩,cn,eu,ed⟩
  refine ae.sub fq ?_;refine Wz ?_
  refine CW.loop (fun s:Nat×Option Addr×Nat×List dn=>[(1,.pointer (some ⟨b1,0,none⟩)),(2,.pointer (some ⟨b2,0,none⟩)),(3,.pointer (some ⟨b3,0,none⟩)),(4,.int .i64 (s.1:Int))])
   (fun t w'=>t.1≤r.aa.n∧m2≤w'.heap.size∧Ext w w'∧aJ w' b1 30 (aU r)∧aJ w' b2 30 (aU .zero)∧aJ w' b3 30 (aU ⟨⟨X,r.Words.n,c4⟩,G,⟨t.2.1,t.1,t.2.2.1⟩⟩)∧Own w' w.heap.size 3 1 bh X r.Words.n c4 s.Words∧fw w' m1 m2 G s.Heap ∧
     eE w' m2 ⟨t.2.1,t.1,t.2.2.1⟩ t.2.2.2 (s.aa.take t.1)∧vq ⟨X,r.Words.n,c4⟩ t.2.2.2) (fun t=>r.aa.n-t.1) (0,none,0,[]) ⟨rfl,rfl,rfl,rfl,trivial⟩ ⟨by omega,vW,hw,aA,aK,ar,hX,hY,eE.nil _ _,vq.nil _⟩ ?_
  clear aA aK ar hX hY hw fq;rintro ⟨k,A,c,zr⟩ w' ⟨hk,vW,hw,aA,aK,ar,hX,hY,hO,wN⟩
  simp only at hk ar hO wN ⊢;have hA:=hc.row.base;by_cases bY:k<r.aa.n
  ·have tP:k<cs.length:=by omega
   have ns:k<s.aa.length:=by omega
   have gb:=hc.each.get k tP ns;have q:=hs.each _ (List.getElem_mem ns);have q1:=gb.names.len;have q2:=gb.aR.len;have q3:=gb.a9.len;have q4:=q.names;have q5:=q.aR;have q6:=q.a9;have ze:=hO.row.lt_size;repeat' (first|refine Wz ?_|refine SW.st (aH hw rfl rfl ((hc.row.all bY))) rfl ?_)
   refine SW.alloc rfl fun b5 w1 ab ig cd => ?_
   skip;refine SW.ap cd rfl rfl rfl rfl (sq _) fun w2 fW hg => ?_
   have aj:=ab.own ig hg;have nE:w.heap.size≤b5:=Nat.le_trans hw.size ig
   replace hw:=Ext.trans hw aj;replace aA:=aA.ext aj;replace aK:=aK.ext aj;replace ar:=ar.ext aj;replace hX:=hX.ext aj;replace hY:=hY.ext aj;replace hO:=hO.ext aj;replace cd:=fW;clear fW ab hg aj;have Di:m2≤b5:=Nat.le_trans vW ig
   refine Wz ?_;have L9:Ext w w2:=hw
   refine CW.loop (fun t:Nat×Option Addr×Nat=>[(1,.pointer (some ⟨b1,0,none⟩)),(2,.pointer (some ⟨b2,0,none⟩)),(3,.pointer (some ⟨b3,0,none⟩)),(4,.int .i64 (k:Int)),(5,.pointer (some ⟨b5,0,none⟩)),(6,.slice t.2.1 t.1 t.2.2),(7,.int .i64 (t.1:Int))])
    (fun t w'=>t.1≤cs[k].Names.n∧Ext w2 w'∧Own w' w2.heap.size 9 1 encStr t.2.1 t.1 t.2.2 (s.aa[k].Names.take t.1)) (fun t=>cs[k].Names.n-t.1) (0,none,0) ⟨rfl,rfl,rfl,rfl,rfl,rfl,rfl,trivial⟩ ⟨by omega,Ext.refl _,by simpa using Own.eR _ _ _ _ _ _⟩ ?_
   clear hw;rintro ⟨j,B,d⟩ w3 ⟨hj,hw,hB⟩
   simp only at hj hB ⊢;have rE:=gb.names.base;by_cases iZ:j<cs[k].Names.n
   ·repeat' (first|refine Wz ?_|refine SW.st (ao hw rfl (cd.cell (i:=0) (v := .slice cs[k].Names.A cs[k].Names.n cs[k].Names.c) rfl)) rfl ?_|refine SW.st (ao hw rfl ((gb.names.ext L9).one iZ rfl)) rfl ?_)
    refine SW.bJ rfl rfl rfl rfl rfl fun b w1 ab hb GQ => ?_
    replace hw:=Ext.trans hw ab;replace hB:=hB.ext ab;refine SW.append hB (aJ.mb (enc:=encStr) GQ) hw.size rfl rfl rfl (by omega) (by omega) fun A2 c2 w4 fT hg => ?_
    replace hw:=aE hw hg (Nat.le_refl _) hB.aM;refine Wz ?_;refine ae.again (j+1,A2,c2) ⟨rfl,rfl,rfl,rfl,rfl,rfl,rfl,trivial⟩ (by simp only;omega) ⟨by simp only;omega,hw,?_⟩;rw [List.take_succ_eq_append_getElem (by omega)];exact fT
   ·obtain rfl:j=cs[k].Names.n:=by omega
    rw [List.take_of_length_le (by omega)] at hB;repeat' (first|refine Wz ?_|refine SW.st (ao hw rfl (cd.cell (i:=0) (v := .slice cs[k].Names.A cs[k].Names.n cs[k].Names.c) rfl)) rfl ?_)
    have vY:=hw;have Bw:=hO.Lz (b:=⟨B,cs[k].Names.n,d⟩) hB.aM;replace hB:=hB.low (Nat.le_trans Di (Nat.le_of_lt cd.lt));replace hw:=L9;(replace hw:=Ext.trans hw vY;replace aA:=aA.ext vY;replace aK:=aK.ext vY;replace ar:=ar.ext vY;replace cd:=cd.ext vY;replace hX:=hX.ext vY;replace hY:=hY.ext vY;replace hO:=hO.ext vY);have Ma:Ext w w3:=hw
    refine CW.loop (fun t:Nat×Option Addr×Nat=>[(1,.pointer (some ⟨b1,0,none⟩)),(2,.pointer (some ⟨b2,0,none⟩)),(3,.pointer (some ⟨b3,0,none⟩)),(4,.int .i64 (k:Int)),(5,.pointer (some ⟨b5,0,none⟩)),(6,.slice B cs[k].Names.n d),(8,.slice t.2.1 t.1 t.2.2),(9,.int .i64 (t.1:Int))])
     (fun t w'=>t.1≤cs[k].ai.n∧Ext w3 w'∧Own w' w3.heap.size 48 3 aZ t.2.1 t.1 t.2.2 (s.aa[k].ai.take t.1)) (fun t=>cs[k].ai.n-t.1) (0,none,0) ⟨rfl,rfl,rfl,rfl,rfl,rfl,rfl,rfl,trivial⟩ ⟨by omega,Ext.refl _,by simpa using Own.eR _ _ _ _ _ _⟩ ?_
    clear hw vY;rintro ⟨j,M,m⟩ w4 ⟨hj,hw,hM⟩
    simp only at hj hM ⊢;have OC:=gb.aR.base;by_cases iZ:j<cs[k].ai.n
    ·repeat' (first|refine Wz ?_|refine SW.st (ao hw rfl (cd.cell (i:=4) (v := .slice cs[k].ai.A cs[k].ai.n cs[k].ai.c) rfl)) rfl ?_|refine SW.st (aH hw rfl rfl (((gb.aR.ext Ma).all iZ))) rfl ?_)
     refine SW.bJ rfl rfl rfl rfl rfl fun b w1 ab hb GQ => ?_
     replace hw:=Ext.trans hw ab;replace hM:=hM.ext ab;refine SW.append hM (aJ.mb (enc:=aZ) GQ) hw.size rfl rfl rfl (by omega) (by omega) fun A2 c2 w5 fT hg => ?_
     replace hw:=aE hw hg (Nat.le_refl _) hM.aM;refine Wz ?_;refine ae.again (j+1,A2,c2) ⟨rfl,rfl,rfl,rfl,rfl,rfl,rfl,rfl,trivial⟩ (by simp only;omega) ⟨by simp only;omega,hw,?_⟩;rw [List.take_succ_eq_append_getElem (by omega)];exact fT
    ·obtain rfl:j=cs[k].ai.n:=by omega
     rw [List.take_of_length_le (by omega)] at hM;repeat' (first|refine Wz ?_|refine SW.st (ao hw rfl (cd.cell (i:=4) (v := .slice cs[k].ai.A cs[k].ai.n cs[k].ai.c) rfl)) rfl ?_)
     have vY:=hw;have KR:=hO.LA (b:=⟨M,cs[k].ai.n,m⟩) hM.aM;replace hM:=hM.low (Nat.le_trans Di (Nat.le_of_lt cd.lt));replace hw:=Ma;(replace hw:=Ext.trans hw vY;replace aA:=aA.ext vY;replace aK:=aK.ext vY;replace ar:=ar.ext vY;replace cd:=cd.ext vY;replace hX:=hX.ext vY;replace hY:=hY.ext vY;replace hO:=hO.ext vY;replace hB:=hB.ext vY);refine SW.bB (i:=0) cd rfl rfl rfl rfl fun w6 fW hg => ?_
     have hG:=cd.gr hg;replace hw:=hw.own nE hg;replace hO:=hO.cU cd hg ze ig;(replace aA:=aA.ay hG rfl;replace aK:=aK.ay hG rfl;replace ar:=ar.ay hG rfl;replace hX:=hX.ay hG rfl;replace hY:=hY.ay hG rfl;replace hB:=hB.ay hG rfl;replace hM:=hM.ay hG rfl);replace cd:=fW;clear fW hg hG;refine Wz ?_;refine SW.bB (i:=4) cd rfl rfl rfl rfl fun w6 fW hg => ?_
     have hG:=cd.gr hg;replace hw:=hw.own nE hg;replace hO:=hO.cU cd hg ze ig;(replace aA:=aA.ay hG rfl;replace aK:=aK.ay hG rfl;replace ar:=ar.ay hG rfl;replace hX:=hX.ay hG rfl;replace hY:=hY.ay hG rfl;replace hB:=hB.ay hG rfl;replace hM:=hM.ay hG rfl);replace cd:=fW;clear fW hg hG;refine Wz ?_;refine SW.call rfl rfl (gd _ _ _ _ _ (gb.a9.ext hw) (by omega)) fun v w7 aj hv => ?_
     obtain ⟨Q,q7,rfl,hQ⟩:=hv;have qD:=hO.LB (b:=⟨Q,cs[k].au.n,q7⟩) hQ.aM;have DE:=jT (a:=⟨X,r.Words.n,c4⟩) (b:=⟨Q,cs[k].au.n,q7⟩) hX hQ.aM;replace hQ:=hQ.low (Nat.le_trans Di (Nat.le_of_lt cd.lt));(replace hw:=Ext.trans hw aj;replace aA:=aA.ext aj;replace aK:=aK.ext aj;replace ar:=ar.ext aj;replace cd:=cd.ext aj;replace hX:=hX.ext aj;replace hY:=hY.ext aj;replace hO:=hO.ext aj;replace hB:=hB.ext aj;replace hM:=hM.ext aj);refine Wz ?_;refine SW.bB (i:=5) cd rfl rfl rfl rfl fun w6 fW hg => ?_
     have hG:=cd.gr hg;replace hw:=hw.own nE hg;replace hO:=hO.cU cd hg ze ig;(replace aA:=aA.ay hG rfl;replace aK:=aK.ay hG rfl;replace ar:=ar.ay hG rfl;replace hX:=hX.ay hG rfl;replace hY:=hY.ay hG rfl;replace hB:=hB.ay hG rfl;replace hM:=hM.ay hG rfl;replace hQ:=hQ.ay hG rfl);replace cd:=fW;clear fW hg hG;refine Wz ?_;refine SW.bJ rfl rfl rfl rfl rfl fun b w6 aj hb GQ => ?_
     (replace hw:=Ext.trans hw aj;replace aA:=aA.ext aj;replace aK:=aK.ext aj;replace ar:=ar.ext aj;replace hX:=hX.ext aj;replace hY:=hY.ext aj;replace hO:=hO.ext aj;replace hB:=hB.ext aj;replace hM:=hM.ext aj;replace hQ:=hQ.ext aj);refine SW.append hO.row (aJ.mb (enc:=db) (x:=⟨⟨B,_,d⟩,cs[k].bf,cs[k].ck,cs[k].Order,⟨M,_,m⟩,⟨Q,_,q7⟩⟩) GQ) (Nat.le_trans Di (Nat.le_trans (Nat.le_of_lt cd.lt) aj.size)) rfl rfl rfl (by simp only;omega) (by simp only;omega) fun A2 c2 w5 fT hg => ?_
     have hG:=hO.row.gr hg;have KM:=Nat.le_trans (Nat.le_trans Di (Nat.le_trans (Nat.le_of_lt cd.lt) aj.size)) hg.size;replace hw:=aE hw hg (Nat.le_trans qd kX) hO.row.aM;(replace aA:=aA.ay hG rfl;replace aK:=aK.ay hG rfl;replace ar:=ar.ay hG rfl;replace hX:=hX.ay hG rfl;replace hY:=hY.ay hG rfl;replace hB:=hB.ay hG rfl;replace hM:=hM.ay hG rfl;replace hQ:=hQ.ay hG rfl);have hE:=hO.each.mono fun _ _ h=>h.ay hG rfl
     refine Wz ?_;refine SW.bB (i:=6) ar rfl rfl rfl rfl fun w6 cS hg => ?_
     have hG:=ar.gr hg;replace hw:=hw.own cn hg;replace aA:=aA.grown hg (by simpa using eu);replace aK:=aK.grown hg (by simpa using ed);(replace hX:=hX.ay hG rfl;replace hY:=hY.ay hG rfl;replace hB:=hB.ay hG rfl;replace hM:=hM.ay hG rfl;replace hQ:=hQ.ay hG rfl;replace fT:=fT.ay hG rfl);replace hE:=hE.mono fun _ _ h=>h.ay hG rfl
     refine Wz ?_;refine ae.again (k+1,A2,c2,zr++[⟨⟨B,_,d⟩,cs[k].bf,cs[k].ck,cs[k].Order,⟨M,_,m⟩,⟨Q,_,q7⟩⟩]) ⟨rfl,rfl,rfl,rfl,trivial⟩ (by simp only;omega) ⟨by simp only;omega,Nat.le_trans KM hg.size,hw,aA,aK,cS,hX,hY,⟨fT,?_⟩,wN.snoc (fun u hu=>⟨Bw u hu,KR u hu,qD u hu⟩) DE⟩;rw [List.take_succ_eq_append_getElem (by omega)];exact hE.snoc ⟨gb.size,gb.jd,gb.order,hB,hM,hQ⟩
  ·obtain rfl:k=r.aa.n:=by omega
   rw [List.take_of_length_le (by omega)] at hO;refine Wz ?_;refine SW.ap aK rfl rfl rfl rfl (dD _) fun w5 bP hg => ?_
   have hG:=aK.gr hg;replace hw:=hw.own pH hg;(replace hX:=hX.ay hG rfl;replace hY:=hY.ay hG rfl;replace hO:=hO.ay hG rfl);refine Wz ?_;exact ae.me rfl rfl bP rfl ⟨_,rfl,hw,⟨_,G,_⟩,zr,rfl,⟨hX,hY.own.low qd,hO.row.low (Nat.le_trans qd kX),hO.each.mono fun _ _ h=>h.low (Nat.le_trans qd kX),wN.pair⟩,⟨m1,m2,qd,kX,zd,hY,hO.each⟩⟩
end Go.Proofs.YtjimadiidbkohaaGreatDoor
