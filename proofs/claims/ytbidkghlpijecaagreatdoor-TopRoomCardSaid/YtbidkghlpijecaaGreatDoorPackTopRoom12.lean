/-
  Texts of the claim TopRoom, part 12: what its theorem leans on.
-/
import Derived.Test.YtbidkghlpijecaaGreatDoorPackTopRoom10
import Derived.Test.YtbidkghlpijecaaGreatDoorPackTopRoom8
import Derived.Test.YtbidkghlpijecaaGreatDoorPackTopRoom11
import Derived.Test.YtbidkghlpijecaaGreatDoorPackTopRoom2
import Derived.Test.YtbidkghlpijecaaGreatDoorPackTopRoom9
import Derived.Test.YtbidkghlpijecaaGreatDoorRows
import Derived.Test.YtbidkghlpijecaaGreatDoorPackTopRoom3
import Derived.ProofKit
import Derived.SizedLaws
import Derived.JoinedCond
import Derived.Deep.Slices
import Derived.Deep.Fields
import Derived.Lib.SmallJoins
import Derived.OpenShut
import Derived.Test.YtbidkghlpijecaaGreatDoorPackTopRoom1
import Derived.Test.YtbidkghlpijecaaGreatDoorPackTopRoom5
import Derived.Great.BuildSlice
import Derived.Test.YtbidkghlpijecaaGreatDoorPackTopRoom7
import Derived.LaidMore
import Derived.Stop.Joined
set_option linter.unusedVariables false
set_option linter.unusedSimpArgs false
namespace Go.Proofs.YtbidkghlpijecaaGreatDoor
open Go.RowKit
structure F3 (F:World→Prop) (w:World) : Prop where
 at_:F w
 all:∀ w w',Ext w w'→F w→F w'
theorem F3.ext {F:World→Prop} {w w':World} (h:F3 F w) (hx:Ext w w') : F3 F w':=⟨h.all _ _ hx h.at_,h.all⟩
theorem F3.to {F:World→Prop} {w w':World} (h:F3 F w) (hf:F w') : F3 F w':=⟨hf,h.all⟩
theorem dV.aH {α β:Type} {R : α → β → Prop} {xs:List α} {ys:List β} (h:dV R xs ys) {i:Nat} (hi:i≤xs.length) {x : α} {y : β} (hr:R x y) : dV R (aH xs i x) (aH ys i y):=by
 have hl:=h.len;refine ⟨by rw [dC _ hi,dC _ (by omega),hl],fun k h1 h2 => ?_⟩
 have ju:∀ {γ:Type} (zs:List γ) (z : γ) (k:Nat) (hk:k<(Proofs.YtbidkghlpijecaaGreatDoor.aH zs i z).length) (u : γ),(Proofs.YtbidkghlpijecaaGreatDoor.aH zs i z)[k]?=some u→(Proofs.YtbidkghlpijecaaGreatDoor.aH zs i z)[k]=u:=fun zs z k hk u hu=>by
  rw [List.getElem?_eq_getElem hk] at hu;exact Option.some.inj hu
 rw [dC _ hi] at h1;rcases Nat.lt_trichotomy k i with e|e|e
 ·rw [ju xs x k _ (xs[k]'(by omega)) (by rw [sK hi e,List.getElem?_eq_getElem]),ju ys y k _ (ys[k]'(by omega)) (by rw [sK (by omega) e,List.getElem?_eq_getElem])];exact h.get k (by omega) (by omega)
 ·subst e;rw [ju xs x k _ x (mR hi),ju ys y k _ y (mR (by omega))];exact hr
 ·obtain ⟨j,rfl⟩ : ∃ j,k=j+1:=⟨k-1,by omega⟩;rw [ju xs x (j+1) _ (xs[j]'(by omega)) (by rw [xD hi (by omega),List.getElem?_eq_getElem]),ju ys y (j+1) _ (ys[j]'(by omega)) (by rw [xD (by omega) (by omega),List.getElem?_eq_getElem])];exact h.get j (by omega) (by omega)
theorem dV.setAt {α β:Type} {R R' : α → β → Prop} {xs:List α} {ys:List β} (h:dV R xs ys) {i:Nat} {x : α} {y : β} (hr:R' x y) (ho:∀ (k:Nat) (h1:k<xs.length) (h2:k<ys.length),k≠i→R xs[k] ys[k]→R' xs[k] ys[k]) : dV R' (xs.set i x) (ys.set i y):=by
 refine ⟨by simp [h.len],fun k h1 h2 => ?_⟩;simp only [List.length_set] at h1 h2;rw [List.getElem_set,List.getElem_set];by_cases e:i=k
 ·rw [if_pos e,if_pos e];exact hr
 ·rw [if_neg e,if_neg e];exact ho k h1 h2 (fun h=>e h.symm) (h.get k h1 h2)
structure xS (n:Nat) (w:World) (lo:Nat) (F:World→Prop) (L:List ap) (x:ap) (p:Int) (Lq:fD) (B5:List bO) (L1:List ap) : Prop where
 own:dE w lo Lq B5 L1
 lt:aO L x<L1.length
 ko:L1.set (aO L x) ⟨x.eI,x.ab,x.Ty,L1[aO L x].an++[p]⟩=eU L ⟨x.eI,x.ab,x.Ty,bA L x++[p]⟩
 key:dS L1[aO L x] x
 sep:∀ (j:Nat) (hk:aO L x<B5.length) (hj:j<B5.length),j≠aO L x → ∀ g,aG B5[aO L x].an.A B5[aO L x].an.c=some g→aG B5[j].an.A B5[j].an.c≠some g
 MK:∀ (hk:aO L x<B5.length) (w w':World),w.grownBy w' (aG B5[aO L x].an.A B5[aO L x].an.c)→F w→F w'
 small:L1[aO L x].an.length≤1000
 size:n≤w.heap.size
theorem xS.ext {n:Nat} {w w':World} {lo:Nat} {F:World→Prop} {L:List ap} {x:ap} {p:Int} {Lq:fD} {B5:List bO} {L1:List ap} (h:xS n w lo F L x p Lq B5 L1) (hx:Ext w w') : xS n w' lo F L x p Lq B5 L1 :=
 ⟨h.own.ext hx,h.lt,h.ko,h.key,h.sep,h.MK,h.small,Nat.le_trans h.size hx.size⟩
set_option maxHeartbeats 8000000 in
theorem xT (Z m:fD) (cp:Int) (li lv:fD) (L:List ap) (ls:List bO) (x:ap) (y:bO) (p:Int) (F:World→Prop) (b1:Nat) (w w0:World) (hw:Ext w w0) (wP:w.heap.size≤b1) (aB:aT w0 b1 41 (bW ⟨Z,m,cp,li,lv⟩)) (hl:dE w0 w.heap.size li ls L) (hk:p9 y x) (Lr:y.an = .nil) (Ls:x.an=[])
 (xm:zq ls) (hs:wc L) (hn:(li.n+1)*48≤140737488355328) (Ea:∀ l∈L,l.an.length≤1000) (mW:F3 F w0) (Fm:∀ (w w':World) (row:Option Nat),w.grownBy w' row→(∀ k,row=some k→k=b1∨aG li.A li.c=some k∨w0.heap.size≤k)→F w→F w')
 (Ji:∀ (i:Nat) (hi:i<ls.length) (w w':World),w.grownBy w' (aG ls[i].an.A ls[i].an.c)→F w→F w') :
 jr Tryz.prog 112 [.pointer (some ⟨b1,0,none⟩),.agg (bi y).toArray,.int .i64 p] w0 fun v w'=>Ext w w'∧F w' ∧ ∃ Fl A8,aT w' b1 41 (bW ⟨Z,m,cp,Fl,lv⟩)∧dE w' w.heap.size Fl A8 (eU L ⟨x.eI,x.ab,x.Ty,bA L x++[p]⟩)∧ur w0.heap.size li ls Fl A8:=by
 refine eG Tryz.func112 rfl Tryz.ntmps112 rfl ?_;have PV:dS x ⟨x.eI,x.ab,x.Ty,bA L x++[p]⟩:=⟨rfl,rfl,rfl⟩
 obtain ⟨Od,Oe⟩:=gx (L:=L) PV;refine CW.seq (CW.region (SW.box rfl rfl fun b4 w1 ao je aQ => ?_));have fZ:w.heap.size≤b4:=Nat.le_trans hw.size je
 have Kc:=hl.row.lt_size
 have Kd:∀ z∈ls,∀ g,ob z.an=some g→g<w0.heap.size:=fun z hz g e=>by
  obtain ⟨j,hj,rfl⟩:=List.getElem_of_mem hz;exact (hl.each.get j hj (by rw [← hl.each.len];exact hj)).cb.lt_size g e
 (replace hw:=Ext.trans hw ao;replace aB:=aB.ext ao;replace hl:=hl.ext ao;replace mW:=mW.ext ao);obtain ⟨l1,l2⟩:=hl.rd.len;obtain ⟨q,hq⟩ : ∃ q,bC L x=q:=⟨_,rfl⟩
 have cL:∀ w',sv w' li ls L→bl Tryz.prog 113 [.agg (bW ⟨Z,m,cp,li,lv⟩).toArray,.agg (bi y).toArray] w' fun v _=>v = .tuple #[.int .i64 (aO L x:Int),.bool q]:=fun w' h=>by
  have:=qa ⟨Z,m,cp,li,lv⟩ L ls x y w' h hk (by simp only;omega)
  rwa [hq] at this
 cases q
 ·have eV:=jw L x;have ML:aO L x≤ls.length:=by omega
  refine Wz ?_;(apply CW.bg mixed;(· kernel_rfl);rotate_left;intro w1 aa;replace hw:=Ext.trans hw aa;replace aB:=aB.ext aa;replace aQ:=aQ.ext aa;replace hl:=hl.ext aa;replace mW:=mW.ext aa;clear aa;rotate_right);repeat' (first|refine Wz ?_|(refine CW.eX rfl ?_)|refine SW.cI rfl rfl (fun w1 aa=>(cL _ (hl.rd.ext aa))) ?_|exact SW.du rfl)
  clear cL;obtain ⟨yc,yz,yt,yp⟩:=y;simp only at Lr;subst Lr;refine SW.bp (i:=3) aQ rfl rfl rfl rfl fun w3 eW vD => ?_
  replace hw:=hw.own fZ vD;replace aB:=aB.au (aQ.gr vD) rfl;have Lt:=Fm _ _ _ vD (fun k e=>by cases e;exact .inr (.inr je)) mW.at_;replace mW:=mW.to Lt;replace hl:dE w3 w.heap.size li ls L:=⟨hl.row.grown vD (.inr (fun e=>by have:=Kc _ e;omega)),hl.each.mono fun _ _ h=>h.au (aQ.gr vD) rfl⟩;replace aQ:aT w3 b4 142 (bi ⟨yc,yz,yt,.nil⟩):=eW;clear eW;refine Wz ?_;have Ij:=hl.row.sl.base;refine CW.l9 8 11 (fun _=>True) mixed (by kernel_rfl) fun w1 aa bm => ?_
  replace hw:=Ext.trans hw aa;replace aB:=aB.ext aa;replace aQ:=aQ.ext aa;replace hl:=hl.ext aa;replace mW:=mW.ext aa;clear aa;refine SF.hU 0 [] bm rfl (by kernel_rfl) (by kernel_rfl) (by kernel_rfl) (dx rfl) (fun w2 hS=>dx rfl) rfl ?_;refine SF.take 1 [4,3,2] [] bm rfl (by kernel_rfl) (by kernel_rfl) (by kernel_rfl) ?_;repeat (refine SW.pure rfl rfl ?_)
  refine SW.ar ?_;refine SF.take 2 [4,3] [] bm rfl (by kernel_rfl) (by kernel_rfl) (by kernel_rfl) ?_;repeat ((show SW _ _ _ _ (⟨_,Op.nilCheck _,_,_,_,none⟩::_) _ _;refine SW.st (bd rfl) rfl ?_))
  refine SW.ar ?_;refine SF.take 3 [4] [] bm rfl (by kernel_rfl) (by kernel_rfl) (by kernel_rfl) ?_;repeat ((show SW _ _ _ _ (⟨_,Op.fieldAddr _ _ _,_,_,_,none⟩::_) _ _;refine SW.st (br rfl) rfl ?_))
  refine SW.ar ?_;refine SF.take 4 [] [] bm rfl (by kernel_rfl) (by kernel_rfl) (by kernel_rfl) ?_;repeat ((show SW _ _ _ _ (⟨_,Op.load _ _,_,_,_,none⟩::_) _ _;refine SW.st (ax rfl (aB.cell (i:=3) (v := .slice li.A li.n li.c) rfl)) rfl ?_))
  refine SW.ar ?_;refine SF.take 5 [] [] bm rfl (by kernel_rfl) (by kernel_rfl) (by kernel_rfl) ?_;repeat (refine SW.pure rfl rfl ?_)
  refine SW.ar ?_;refine SF.take 6 [7] [] bm rfl (by kernel_rfl) (by kernel_rfl) (by kernel_rfl) ?_;repeat ((show SW _ _ _ _ (⟨_,Op.load _ _,_,_,_,none⟩::_) _ _;refine SW.st (ay rfl rfl ((fun _ _=>aQ.cell))) rfl ?_))
  refine SW.ar ?_;refine SF.one 7 rfl (by kernel_rfl) rfl ?_;refine SW.dJ rfl rfl rfl rfl rfl fun b w4 ao hb hB => ?_
  have xU:w0.heap.size≤w4.heap.size:=Nat.le_trans (Nat.le_of_lt (Nat.lt_of_le_of_lt je aQ.lt)) ao.size
  have sD:aG li.A li.c≠some b:=fun e=>by have:=hl.row.lt_size _ e;omega
  (replace hw:=Ext.trans hw ao;replace aB:=aB.ext ao;replace hl:=hl.ext ao;replace mW:=mW.ext ao);refine SW.nil (ae.sf ao ?_);refine SF.turn rfl (by kernel_rfl) rfl ?_;refine SW.dy rfl rfl (s5 li.A li.n li.c w.heap.size ls _ hl.row (aO L x) (by omega) ⟨yc,yz,yt,.nil⟩ b hB sD hn hw.size) fun v w5 hv => ?_
  obtain ⟨A2,c2,rfl,cm,hg,l8⟩:=hv;have hG:=hl.row.gr hg;have hS:True:=trivial
  replace hw:=aJ hw hg (Nat.le_refl _) hl.row.ba;have Ke:=Fm _ _ _ hg (fun k e => .inr (.inl e)) mW.at_;replace mW:=mW.to Ke;replace aB:=aB.au hG rfl;have Lu:=(hl.each.mono fun _ _ h=>h.au hG rfl).aH (i:=aO L x) (x:=⟨yc,yz,yt,.nil⟩) (y:=⟨x.eI,x.ab,x.Ty,[]⟩) (by omega) ⟨hk.1,hk.2.1,hk.2.2,Own.fj _ _ _ _ _ _⟩;refine SW.nil (ae.sg hS ?_);refine SG.one 9 rfl (by kernel_rfl) rfl ?_;repeat ((show SW _ _ _ _ (⟨_,Op.nilCheck _,_,_,_,none⟩::_) _ _;refine SW.st (bd rfl) rfl ?_))
  refine SW.nil (ae.sg hS ?_);refine SG.one 10 rfl (by kernel_rfl) rfl ?_;repeat ((show SW _ _ _ _ (⟨_,Op.fieldAddr _ _ _,_,_,_,none⟩::_) _ _;refine SW.st (br rfl) rfl ?_))
  refine SW.nil (ae.sg hS ?_);refine SG.last rfl (by kernel_rfl) (by kernel_rfl) ?_;refine SW.bp (i:=3) aB rfl rfl rfl rfl fun w6 nH qY => ?_
  have rK:=aB.gr qY;have MM:w0.heap.size≤w6.heap.size:=Nat.le_trans xU (Nat.le_trans hg.size qY.size)
  have Kf:=l8;replace hw:=hw.own wP qY;have Kg:=Fm _ _ _ qY (fun k e=>by cases e;exact .inl rfl) mW.at_;replace mW:=mW.to Kg;replace cm:=cm.au rK rfl;replace Lu:=Lu.mono fun _ _ h=>h.au rK rfl
  replace aB:aT w6 b1 41 (bW ⟨Z,m,cp,⟨A2,li.n+1,c2⟩,lv⟩):=nH;clear nH
  have ju:∀ h:aO L x<(aH L (aO L x) (⟨x.eI,x.ab,x.Ty,[]⟩ : ap)).length,(aH L (aO L x) (⟨x.eI,x.ab,x.Ty,[]⟩ : ap))[aO L x]=⟨x.eI,x.ab,x.Ty,[]⟩:=fun h=>by
   have:=mR (x:=(⟨x.eI,x.ab,x.Ty,[]⟩ : ap)) eV
   rw [List.getElem?_eq_getElem h] at this;exact Option.some.inj this
  have Eb:∀ h:aO L x<(aH ls (aO L x) (⟨yc,yz,yt,.nil⟩ : bO)).length,(aH ls (aO L x) (⟨yc,yz,yt,.nil⟩ : bO))[aO L x]=⟨yc,yz,yt,.nil⟩:=fun h=>by
   have:=mR (l:=ls) (i:=aO L x) (x:=(⟨yc,yz,yt,.nil⟩ : bO)) (by omega)
   rw [List.getElem?_eq_getElem h] at this;exact Option.some.inj this
  have F4:aO L x<(aH L (aO L x) (⟨x.eI,x.ab,x.Ty,[]⟩ : ap)).length:=by rw [dC _ eV];omega
  have hR:xS w0.heap.size w6 w.heap.size F L x p ⟨A2,li.n+1,c2⟩ (aH ls (aO L x) ⟨yc,yz,yt,.nil⟩) (aH L (aO L x) ⟨x.eI,x.ab,x.Ty,[]⟩):=by
   refine ⟨⟨cm,Lu⟩,F4,?_,?_,fun j h1 h2 kB g e => ?_,fun h1 w w' hg => ?_,?_,MM⟩
   ·rw [ju F4,pX eV,lC (by rw [← Oe];exact hq),← Od,iE hq]
   ·rw [ju F4];exact ⟨rfl,rfl,rfl⟩
   ·rw [Eb h1] at e;cases e
   ·rw [Eb h1] at hg;exact mW.all _ _ (aJ (Ext.refl w) hg (Nat.le_refl _) (fun k e=>by cases e))
   ·rw [ju F4];simp
  clear Lu cm hl aQ;refine Wz ?_;have hA:=hR.own.row.sl.base;have ey:aO L x<(li.n+1):=by have:=hR.own.rd.len;have:=hR.lt;omega
  have uq:aO L x<((aH ls (aO L x) (⟨yc,yz,yt,.nil⟩ : bO))).length:=by have:=hR.own.rd.len;have:=hR.lt;omega
  have dg:=hR.lt;have yV:=hR.small;refine CW.l9 15 18 (fun w2=>aT w2 b1 41 (bW ⟨Z,m,cp,⟨A2,li.n+1,c2⟩,lv⟩)) mixed (by kernel_rfl) fun w1 aa bm => ?_
  replace hw:=Ext.trans hw aa;replace aB:=aB.ext aa;replace hR:=hR.ext aa;replace mW:=mW.ext aa;clear aa;refine SF.hU 0 [] bm rfl (by kernel_rfl) (by kernel_rfl) (by kernel_rfl) (dx rfl) (fun w2 hS=>dx rfl) rfl ?_;refine SF.hU 1 [] bm rfl (by kernel_rfl) (by kernel_rfl) (by kernel_rfl) (bd rfl) (fun w2 hS=>bd rfl) rfl ?_;refine SF.hU 2 [] bm rfl (by kernel_rfl) (by kernel_rfl) (by kernel_rfl) (br rfl) (fun w2 hS=>br rfl) rfl ?_;refine SF.hU 3 [] bm rfl (by kernel_rfl) (by kernel_rfl) (by kernel_rfl) (ax rfl (aB.cell (i:=3) (v := .slice A2 (li.n+1) c2) rfl)) (fun w2 hS=>ax rfl (hS.cell (i:=3) (v := .slice A2 (li.n+1) c2) rfl)) rfl ?_;refine SF.hU 4 [] bm rfl (by kernel_rfl) (by kernel_rfl) (by kernel_rfl) (dx rfl) (fun w2 hS=>dx rfl) rfl ?_;refine SF.take 5 [12,11,10,8,7,6] [] bm rfl (by kernel_rfl) (by kernel_rfl) (by kernel_rfl) ?_;repeat (refine SW.pure rfl rfl ?_)
  refine SW.ar ?_;refine SF.take 6 [12,11,10,8,7] [] bm rfl (by kernel_rfl) (by kernel_rfl) (by kernel_rfl) ?_;repeat ((show SW _ _ _ _ (⟨_,Op.nilCheck _,_,_,_,none⟩::_) _ _;refine SW.st (bd rfl) rfl ?_))
  refine SW.ar ?_;refine SF.take 7 [12,11,10,8] [] bm rfl (by kernel_rfl) (by kernel_rfl) (by kernel_rfl) ?_;repeat ((show SW _ _ _ _ (⟨_,Op.fieldAddr _ _ _,_,_,_,none⟩::_) _ _;refine SW.st (br rfl) rfl ?_))
  refine SW.ar ?_;refine SF.take 8 [12,11,10] [] bm rfl (by kernel_rfl) (by kernel_rfl) (by kernel_rfl) ?_;repeat ((show SW _ _ _ _ (⟨_,Op.load _ _,_,_,_,none⟩::_) _ _;refine SW.st (ax rfl (aB.cell (i:=3) (v := .slice A2 (li.n+1) c2) rfl)) rfl ?_))
  refine SW.ar ?_;refine SF.take 9 [12,11,10] [] bm rfl (by kernel_rfl) (by kernel_rfl) (by kernel_rfl) ?_;repeat (refine SW.pure rfl rfl ?_)
  refine SW.ar ?_;refine SF.take 10 [12,11] [] bm rfl (by kernel_rfl) (by kernel_rfl) (by kernel_rfl) ?_;repeat ((show SW _ _ _ _ (⟨_,Op.indexAddr _ _ _,_,_,_,none⟩::_) _ _;refine SW.st (ca rfl rfl (by assumption) (by omega)) rfl ?_))
  refine SW.ar ?_;refine SF.take 11 [12] [] bm rfl (by kernel_rfl) (by kernel_rfl) (by kernel_rfl) ?_;repeat ((show SW _ _ _ _ (⟨_,Op.fieldAddr _ _ _,_,_,_,none⟩::_) _ _;refine SW.st (br rfl) rfl ?_))
  refine SW.ar ?_;refine SF.take 12 [] [] bm rfl (by kernel_rfl) (by kernel_rfl) (by kernel_rfl) ?_;repeat ((show SW _ _ _ _ (⟨_,Op.load _ _,_,_,_,none⟩::_) _ _;refine SW.st (ax rfl (hR.own.row.sl.qV ey (j:=3) (u := .slice ((aH ls (aO L x) (⟨yc,yz,yt,.nil⟩ : bO)))[aO L x].an.A ((aH ls (aO L x) (⟨yc,yz,yt,.nil⟩ : bO)))[aO L x].an.n ((aH ls (aO L x) (⟨yc,yz,yt,.nil⟩ : bO)))[aO L x].an.c) rfl)) rfl ?_))
  refine SW.ar ?_;refine SF.take 13 [14] [] bm rfl (by kernel_rfl) (by kernel_rfl) (by kernel_rfl) ?_;repeat (refine SW.pure rfl rfl ?_)
  refine SW.ar ?_;refine SF.one 14 rfl (by kernel_rfl) rfl ?_;refine SW.dJ rfl rfl rfl rfl rfl fun b w4 ao hb hB => ?_
  (replace hw:=Ext.trans hw ao;replace aB:=aB.ext ao;replace hR:=hR.ext ao;replace mW:=mW.ext ao);have Ik:w0.heap.size≤w4.heap.size:=hR.size
  refine SW.nil (ae.sf ao ?_);refine SF.turn rfl (by kernel_rfl) rfl ?_;have xV:=hR.own.each.get (aO L x) uq dg;have Ba:=xV.cb;have Fo:=Ba.sl.len;refine SW.A9 Ba (aT.wU (enc:=bB) hB) hw.size (by decide) rfl rfl rfl (by omega) (by omega) fun A3 c3 w5 mn hg Ec => ?_
  have hS:=aB.au (Ba.gr hg) rfl;have fQ:=hR.own.row.au (Ba.gr hg) rfl;have Ke:=hR.MK uq _ _ hg mW.at_;replace hw:=aJ hw hg (Nat.le_refl _) Ba.ba;refine SW.nil (ae.sg hS ?_);refine SG.one 16 rfl (by kernel_rfl) rfl ?_;repeat ((show SW _ _ _ _ (⟨_,Op.indexAddr _ _ _,_,_,_,none⟩::_) _ _;refine SW.st (ca rfl rfl (by assumption) (by omega)) rfl ?_))
  refine SW.nil (ae.sg hS ?_);refine SG.one 17 rfl (by kernel_rfl) rfl ?_;repeat ((show SW _ _ _ _ (⟨_,Op.fieldAddr _ _ _,_,_,_,none⟩::_) _ _;refine SW.st (br rfl) rfl ?_))
  refine SW.nil (ae.sg hS ?_);refine SG.last rfl (by kernel_rfl) (by kernel_rfl) ?_;refine SW.jz (aO L x) 3 ⟨((aH ls (aO L x) (⟨yc,yz,yt,.nil⟩ : bO)))[aO L x].eI,((aH ls (aO L x) (⟨yc,yz,yt,.nil⟩ : bO)))[aO L x].ab,((aH ls (aO L x) (⟨yc,yz,yt,.nil⟩ : bO)))[aO L x].Ty,⟨A3,((aH ls (aO L x) (⟨yc,yz,yt,.nil⟩ : bO)))[aO L x].an.n+1,c3⟩⟩ fQ rfl rfl rfl ey (by decide) rfl rfl fun w6 jL qY => ?_
  have rK:=fQ.gr qY;have Kg:=Fm _ _ _ qY (fun k e=>by rcases l8 k e with h|h;exact .inr (.inl h);exact .inr (.inr (Nat.le_trans xU h))) Ke;replace hw:=aJ hw qY (Nat.le_refl _) fQ.ba;refine Wz ?_;refine ae.uj rfl ⟨_,rfl,hw,Kg,⟨A2,li.n+1,c2⟩,((aH ls (aO L x) (⟨yc,yz,yt,.nil⟩ : bO))).set (aO L x) ⟨((aH ls (aO L x) (⟨yc,yz,yt,.nil⟩ : bO)))[aO L x].eI,((aH ls (aO L x) (⟨yc,yz,yt,.nil⟩ : bO)))[aO L x].ab,((aH ls (aO L x) (⟨yc,yz,yt,.nil⟩ : bO)))[aO L x].Ty,⟨A3,((aH ls (aO L x) (⟨yc,yz,yt,.nil⟩ : bO)))[aO L x].an.n+1,c3⟩⟩,hS.au (b:=b1) (t':=41) rK rfl,?_⟩
  have MN:ur w0.heap.size li ls ⟨A2,li.n+1,c2⟩ ((aH ls (aO L x) (⟨yc,yz,yt,.nil⟩ : bO)).set (aO L x) ⟨((aH ls (aO L x) (⟨yc,yz,yt,.nil⟩ : bO)))[aO L x].eI,((aH ls (aO L x) (⟨yc,yz,yt,.nil⟩ : bO)))[aO L x].ab,((aH ls (aO L x) (⟨yc,yz,yt,.nil⟩ : bO)))[aO L x].Ty,⟨A3,((aH ls (aO L x) (⟨yc,yz,yt,.nil⟩ : bO)))[aO L x].an.n+1,c3⟩⟩):=by
   rw [pX ML];refine ur.ins xm Kd (fun g e => ?_) (fun k e=>(Kf k e).imp id (fun h=>Nat.le_trans xU h));rcases Ec g e with h|h
   ·rw [Eb uq] at h;cases h
   ·exact Nat.le_trans Ik h
  refine ⟨?_,MN⟩;rw [← hR.ko];refine ⟨jL,dV.setAt (R:=mf _ w.heap.size) hR.own.each ⟨xV.cpu.trans hR.key.1,xV.gj.trans hR.key.2.1,xV.ty.trans hR.key.2.2,mn.au rK rfl⟩ fun j h1 h2 kB ho=>⟨ho.cpu,ho.gj,ho.ty,?_⟩⟩;refine (ho.cb.grown hg ?_).au rK rfl;cases eo:aG ((aH ls (aO L x) (⟨yc,yz,yt,.nil⟩ : bO)))[j].an.A ((aH ls (aO L x) (⟨yc,yz,yt,.nil⟩ : bO)))[j].an.c with
  | none=>exact .inl rfl
  | some g =>
    right;intro e;exact hR.sep j uq h1 kB g e.symm eo
 ·obtain ⟨eV,oq⟩:=fK hq;refine Wz ?_;(apply CW.bg mixed;(· kernel_rfl);rotate_left;intro w1 aa;replace hw:=Ext.trans hw aa;replace aB:=aB.ext aa;replace aQ:=aQ.ext aa;replace hl:=hl.ext aa;replace mW:=mW.ext aa;clear aa;rotate_right);repeat' (first|refine Wz ?_|(refine CW.eY rfl ?_)|refine SW.cI rfl rfl (fun w1 aa=>(cL _ (hl.rd.ext aa))) ?_|exact SW.du rfl)
  clear cL;have xU:=Nat.le_trans je (Nat.le_of_lt aQ.lt);have hR:=(⟨hl,eV,by rw [mQ (by rw [← Oe];exact hq),← Od,dY hq eV],oq,fun j h1 h2 kB g e=>xm _ _ h1 h2 (Ne.symm kB) g e,fun h1 w w' hg=>Ji _ h1 w w' hg,Ea _ (List.getElem_mem eV),xU⟩ : xS w0.heap.size _ w.heap.size F L x p li ls L);clear hl;have hA:=hR.own.row.sl.base;have ey:aO L x<li.n:=by have:=hR.own.rd.len;have:=hR.lt;omega
  have uq:aO L x<(ls).length:=by have:=hR.own.rd.len;have:=hR.lt;omega
  have dg:=hR.lt;have yV:=hR.small;refine CW.l9 15 18 (fun w2=>aT w2 b1 41 (bW ⟨Z,m,cp,li,lv⟩)) mixed (by kernel_rfl) fun w1 aa bm => ?_
  replace hw:=Ext.trans hw aa;replace aB:=aB.ext aa;replace hR:=hR.ext aa;replace mW:=mW.ext aa;clear aa;refine SF.hU 0 [] bm rfl (by kernel_rfl) (by kernel_rfl) (by kernel_rfl) (dx rfl) (fun w2 hS=>dx rfl) rfl ?_;refine SF.hU 1 [] bm rfl (by kernel_rfl) (by kernel_rfl) (by kernel_rfl) (bd rfl) (fun w2 hS=>bd rfl) rfl ?_;refine SF.hU 2 [] bm rfl (by kernel_rfl) (by kernel_rfl) (by kernel_rfl) (br rfl) (fun w2 hS=>br rfl) rfl ?_;refine SF.hU 3 [] bm rfl (by kernel_rfl) (by kernel_rfl) (by kernel_rfl) (ax rfl (aB.cell (i:=3) (v := .slice li.A li.n li.c) rfl)) (fun w2 hS=>ax rfl (hS.cell (i:=3) (v := .slice li.A li.n li.c) rfl)) rfl ?_;refine SF.hU 4 [] bm rfl (by kernel_rfl) (by kernel_rfl) (by kernel_rfl) (dx rfl) (fun w2 hS=>dx rfl) rfl ?_;refine SF.take 5 [12,11,10,8,7,6] [] bm rfl (by kernel_rfl) (by kernel_rfl) (by kernel_rfl) ?_;repeat (refine SW.pure rfl rfl ?_)
  refine SW.ar ?_;refine SF.take 6 [12,11,10,8,7] [] bm rfl (by kernel_rfl) (by kernel_rfl) (by kernel_rfl) ?_;repeat ((show SW _ _ _ _ (⟨_,Op.nilCheck _,_,_,_,none⟩::_) _ _;refine SW.st (bd rfl) rfl ?_))
  refine SW.ar ?_;refine SF.take 7 [12,11,10,8] [] bm rfl (by kernel_rfl) (by kernel_rfl) (by kernel_rfl) ?_;repeat ((show SW _ _ _ _ (⟨_,Op.fieldAddr _ _ _,_,_,_,none⟩::_) _ _;refine SW.st (br rfl) rfl ?_))
  refine SW.ar ?_;refine SF.take 8 [12,11,10] [] bm rfl (by kernel_rfl) (by kernel_rfl) (by kernel_rfl) ?_;repeat ((show SW _ _ _ _ (⟨_,Op.load _ _,_,_,_,none⟩::_) _ _;refine SW.st (ax rfl (aB.cell (i:=3) (v := .slice li.A li.n li.c) rfl)) rfl ?_))
  refine SW.ar ?_;refine SF.take 9 [12,11,10] [] bm rfl (by kernel_rfl) (by kernel_rfl) (by kernel_rfl) ?_;repeat (refine SW.pure rfl rfl ?_)
  refine SW.ar ?_;refine SF.take 10 [12,11] [] bm rfl (by kernel_rfl) (by kernel_rfl) (by kernel_rfl) ?_;repeat ((show SW _ _ _ _ (⟨_,Op.indexAddr _ _ _,_,_,_,none⟩::_) _ _;refine SW.st (ca rfl rfl (by assumption) (by omega)) rfl ?_))
  refine SW.ar ?_;refine SF.take 11 [12] [] bm rfl (by kernel_rfl) (by kernel_rfl) (by kernel_rfl) ?_;repeat ((show SW _ _ _ _ (⟨_,Op.fieldAddr _ _ _,_,_,_,none⟩::_) _ _;refine SW.st (br rfl) rfl ?_))
  refine SW.ar ?_;refine SF.take 12 [] [] bm rfl (by kernel_rfl) (by kernel_rfl) (by kernel_rfl) ?_;repeat ((show SW _ _ _ _ (⟨_,Op.load _ _,_,_,_,none⟩::_) _ _;refine SW.st (ax rfl (hR.own.row.sl.qV ey (j:=3) (u := .slice (ls)[aO L x].an.A (ls)[aO L x].an.n (ls)[aO L x].an.c) rfl)) rfl ?_))
  refine SW.ar ?_;refine SF.take 13 [14] [] bm rfl (by kernel_rfl) (by kernel_rfl) (by kernel_rfl) ?_;repeat (refine SW.pure rfl rfl ?_)
  refine SW.ar ?_;refine SF.one 14 rfl (by kernel_rfl) rfl ?_;refine SW.dJ rfl rfl rfl rfl rfl fun b w4 ao hb hB => ?_
  (replace hw:=Ext.trans hw ao;replace aB:=aB.ext ao;replace hR:=hR.ext ao;replace mW:=mW.ext ao);have Ik:w0.heap.size≤w4.heap.size:=hR.size
  refine SW.nil (ae.sf ao ?_);refine SF.turn rfl (by kernel_rfl) rfl ?_;have xV:=hR.own.each.get (aO L x) uq dg;have Ba:=xV.cb;have Fo:=Ba.sl.len;refine SW.A9 Ba (aT.wU (enc:=bB) hB) hw.size (by decide) rfl rfl rfl (by omega) (by omega) fun A3 c3 w5 mn hg Ec => ?_
  have hS:=aB.au (Ba.gr hg) rfl;have fQ:=hR.own.row.au (Ba.gr hg) rfl;have Ke:=hR.MK uq _ _ hg mW.at_;replace hw:=aJ hw hg (Nat.le_refl _) Ba.ba;refine SW.nil (ae.sg hS ?_);refine SG.one 16 rfl (by kernel_rfl) rfl ?_;repeat ((show SW _ _ _ _ (⟨_,Op.indexAddr _ _ _,_,_,_,none⟩::_) _ _;refine SW.st (ca rfl rfl (by assumption) (by omega)) rfl ?_))
  refine SW.nil (ae.sg hS ?_);refine SG.one 17 rfl (by kernel_rfl) rfl ?_;repeat ((show SW _ _ _ _ (⟨_,Op.fieldAddr _ _ _,_,_,_,none⟩::_) _ _;refine SW.st (br rfl) rfl ?_))
  refine SW.nil (ae.sg hS ?_);refine SG.last rfl (by kernel_rfl) (by kernel_rfl) ?_;refine SW.jz (aO L x) 3 ⟨(ls)[aO L x].eI,(ls)[aO L x].ab,(ls)[aO L x].Ty,⟨A3,(ls)[aO L x].an.n+1,c3⟩⟩ fQ rfl rfl rfl ey (by decide) rfl rfl fun w6 jL qY => ?_
  have rK:=fQ.gr qY;have Kg:=Fm _ _ _ qY (fun k e => .inr (.inl e)) Ke;replace hw:=aJ hw qY (Nat.le_refl _) fQ.ba;refine Wz ?_;refine ae.uj rfl ⟨_,rfl,hw,Kg,li,(ls).set (aO L x) ⟨(ls)[aO L x].eI,(ls)[aO L x].ab,(ls)[aO L x].Ty,⟨A3,(ls)[aO L x].an.n+1,c3⟩⟩,hS.au (b:=b1) (t':=41) rK rfl,?_⟩
  have MN:ur w0.heap.size li ls li ((ls).set (aO L x) ⟨(ls)[aO L x].eI,(ls)[aO L x].ab,(ls)[aO L x].Ty,⟨A3,(ls)[aO L x].an.n+1,c3⟩⟩):=by
   refine ur.ko xm Kd uq (fun g e => ?_);rcases Ec g e with h|h
   ·exact .inl h
   ·exact .inr (Nat.le_trans Ik h)
  refine ⟨?_,MN⟩;rw [← hR.ko];refine ⟨jL,dV.setAt (R:=mf _ w.heap.size) hR.own.each ⟨xV.cpu.trans hR.key.1,xV.gj.trans hR.key.2.1,xV.ty.trans hR.key.2.2,mn.au rK rfl⟩ fun j h1 h2 kB ho=>⟨ho.cpu,ho.gj,ho.ty,?_⟩⟩;refine (ho.cb.grown hg ?_).au rK rfl;cases eo:aG (ls)[j].an.A (ls)[j].an.c with
  | none=>exact .inl rfl
  | some g =>
    right;intro e;exact hR.sep j uq h1 kB g e.symm eo
def kq (n:ByteArray) (c:aV) : Bool:=sV c.Names n
def s8 (z:Int) (c:aV) : Bool:=decide (c.aY=z)
def ak.zero:ak:=⟨[],.zero,[]⟩
def pe (l:List ByteArray) (n:ByteArray) : Nat:=(l.takeWhile fun m=>dF m n).length
theorem rL (l:List ByteArray) (n:ByteArray) : pe l n≤l.length:=by
 unfold pe;exact (List.takeWhile_sublist _).length_le
theorem F5 {l:List ByteArray} {n:ByteArray} {j:Nat} (h:j<pe l n) (hj:j<l.length) : dF l[j] n=true:=by
 unfold pe at h;have h1:(l.takeWhile fun m=>dF m n)[j]=l[j]:=List.IsPrefix.getElem (List.takeWhile_prefix _) h
 rw [← h1];have:=List.all_takeWhile (p:=fun m=>dF m n) (l:=l)
 rw [List.all_eq_true] at this;exact this _ (List.getElem_mem h)
theorem F6 {l:List ByteArray} {n:ByteArray} (h:pe l n<l.length) : dF l[pe l n] n=false:=by
 induction l with
 | nil=>simp at h
 | cons a r ih =>
   unfold pe at h ih ⊢;by_cases e:dF a n=true
   ·simp only [List.takeWhile_cons,e,if_true,List.length_cons] at h ih ⊢;simp only [List.getElem_cons_succ];exact ih (by omega)
   ·have e':dF a n=false:=by simpa using e
    simp [e']
theorem B6 {l:List ByteArray} {n:ByteArray} {k:Nat} (hk:k≤l.length) (h1:∀ j (hj:j<l.length),j<k→dF l[j] n=true) (h2:∀ h:k<l.length,dF l[k] n=false) : pe l n=k:=by
 rcases Nat.lt_trichotomy (pe l n) k with h|h|h
 ·have:=h1 (pe l n) (by omega) h
  rw [F6 (by omega)] at this;cases this
 ·exact h
 ·have:=F5 h (by have:=rL l n;omega)
  rw [h2 (by have:=rL l n;omega)] at this;cases this
def Ed (l:List ByteArray) : Prop := ∀ (i j:Nat) (hi:i<l.length) (hj:j<l.length),i<j→dF l[i] l[j]=true
theorem rJ.jQ {acc l:List ByteArray} (h:rJ acc l) : Ed l:=by
 have:∀ (d i:Nat) (hi:i<l.length) (hj:i+d+1<l.length),dF l[i] l[i+d+1]=true:=by
  intro d;induction d with
  | zero=>intro i hi hj;exact (h.each (i+1) hj).2.2 (by omega)
  | succ d ih =>
    intro i hi hj;exact mO (ih i hi (by omega)) ((h.each (i+(d+1)+1) hj).2.2 (by omega))
 intro i j hi hj j1;obtain ⟨d,rfl⟩ : ∃ d,j=i+d+1:=⟨j-i-1,by omega⟩;exact this d i hi hj
def pf (size align:Int) : Int:=(size+align-1) / align*align
def fL (a:Int) : Prop:=a=1∨a=2∨a=4∨a=8
theorem F7 {size align:Int} (ha:fL align) (h : 1≤size∧size≤64) : size≤pf size align∧pf size align<size+align∧pf size align % align=0∧pf size align≤64:=by
 unfold pf;rcases ha with rfl|rfl|rfl|rfl<;>omega
def gy (s:ak) (n:ByteArray) (z:Int) : aV:=⟨[n],z,(dj z).2.1,(dj z).1,[],List.replicate s.Heap.bt.toNat (-1)⟩
def ph (c:aV) (n:ByteArray) : aV:=⟨aH c.Names (pe c.Names n) n,c.aY,c.jm,c.Order,c.aK,c.a8⟩
theorem nu.uW {s:ak} {i:Nat} {hi:i<s.ai.length} (h:nu s i hi) (hH:aW s.Heap) (hI:∀ (j:Nat) (h:j<s.ai.length),nu s j h) : s.ai[i].Names.length≤3512479453921:=by
 have h1:=xQ hH i (by omega) (fun j hj _=>hI j hj);have h2:=lF (l:=s.ai[i].Names) h1.1.1 s.ai[i].Names.length (fun k hk _=>(h.names.each k hk).2.1);rw [List.take_length] at h2;refine xP (List.nodup_append.1 h2).2.1 fun n hn => ?_
 obtain ⟨k,hk,rfl⟩:=List.getElem_of_mem hn;exact (h.names.each k hk).1
inductive lG (s:ak) (n:ByteArray) (size align:Int) : ak×Int→Prop where
 | bad (h:fA s=false) : lG s n size align (.zero,8)
 | form (h:fA s=true) (hn : ¬ (eR n=true∧fL align)) : lG s n size align (.zero,3)
 | range (h:fA s=true) (hn:eR n=true∧fL align) (hs : ¬ (1≤size∧size≤64)) : lG s n size align (.zero,1)
 | dG (h:fA s=true) (hn:eR n=true∧fL align) (hs : 1≤size∧size≤64) (ht:s.ai.any (kq n)=true) : lG s n size align (.zero,5)
 | CZ {i:Nat} (h:fA s=true) (hn:eR n=true∧fL align) (hs : 1≤size∧size≤64) (ht:s.ai.any (kq n)=false) (hi:i<s.ai.length) (hz:s.ai[i].aY=pf size align) (ha:∀ j (hj:j<s.ai.length),j<i→s.ai[j].aY≠pf size align) :
    lG s n size align (⟨s.Words,s.Heap,s.ai.set i (ph s.ai[i] n)⟩,0)
 | full (h:fA s=true) (hn:eR n=true∧fL align) (hs : 1≤size∧size≤64) (ht:s.ai.any (kq n)=false) (hz:∀ j (hj:j<s.ai.length),s.ai[j].aY≠pf size align) (hc:s.ai.length=20) : lG s n size align (.zero,9)
 | new (h:fA s=true) (hn:eR n=true∧fL align) (hs : 1≤size∧size≤64) (ht:s.ai.any (kq n)=false) (hz:∀ j (hj:j<s.ai.length),s.ai[j].aY≠pf size align) (hc:s.ai.length<20) :
    lG s n size align (⟨s.Words,s.Heap,s.ai++[gy s n (pf size align)]⟩,0)
theorem lG.mo {s:ak} {n:ByteArray} {size align:Int} {u v:ak×Int} (a:lG s n size align u) (b:lG s n size align v) : u=v:=by
 cases a with
 | bad h=>cases b with
   | bad=>rfl
   | form h'|range h'|dG h'|CZ h'|full h'|new h'=>rw [h] at h';cases h'
 | form h hn=>cases b with
   | bad h'=>rw [h] at h';cases h'
   | form=>rfl
   | range _ h'|dG _ h'|CZ _ h'|full _ h'|new _ h'=>exact absurd h' hn
 | range h hn hs=>cases b with
   | bad h'=>rw [h] at h';cases h'
   | form _ h'=>exact absurd hn h'
   | range=>rfl
   | dG _ _ h'|CZ _ _ h'|full _ _ h'|new _ _ h'=>exact absurd h' hs
 | dG h hn hs ht=>cases b with
   | bad h'=>rw [h] at h';cases h'
   | form _ h'=>exact absurd hn h'
   | range _ _ h'=>exact absurd hs h'
   | dG=>rfl
   | CZ _ _ _ h'|full _ _ _ h'|new _ _ _ h'=>rw [ht] at h';cases h'
 | @CZ i h hn hs ht hi hz ha=>cases b with
   | bad h'=>rw [h] at h';cases h'
   | form _ h'=>exact absurd hn h'
   | range _ _ h'=>exact absurd hs h'
   | dG _ _ _ h'=>rw [ht] at h';cases h'
   | @CZ j _ _ _ _ hj fC oA =>
     rcases Nat.lt_trichotomy i j with g|g|g
     ·exact absurd hz (oA i hi g)
     ·subst g;rfl
     ·exact absurd fC (ha j hj g)
   | full _ _ _ _ h'|new _ _ _ _ h'=>exact absurd hz (h' i hi)
 | full h hn hs ht hz hc=>cases b with
   | bad h'=>rw [h] at h';cases h'
   | form _ h'=>exact absurd hn h'
   | range _ _ h'=>exact absurd hs h'
   | dG _ _ _ h'=>rw [ht] at h';cases h'
   | CZ _ _ _ _ hi h'=>exact absurd h' (hz _ hi)
   | full=>rfl
   | new _ _ _ _ _ h'=>omega
 | new h hn hs ht hz hc=>cases b with
   | bad h'=>rw [h] at h';cases h'
   | form _ h'=>exact absurd hn h'
   | range _ _ h'=>exact absurd hs h'
   | dG _ _ _ h'=>rw [ht] at h';cases h'
   | CZ _ _ _ _ hi h'=>exact absurd h' (hz _ hi)
   | full _ _ _ _ _ h'=>omega
   | new=>rfl
def jS (lo:Nat) (u:ak×Int) (v:Value) (w:World) : Prop := ∃ q,v = .tuple #[.agg (bq q).toArray,.int .i64 u.2]∧km w lo q u.1
theorem jS.zero (e:Int) (lo:Nat) (w:World) : jS lo (.zero,e) (.tuple #[.agg (bq .zero).toArray,.int .i64 e]) w :=
 ⟨.zero,rfl,Own.fj _ _ _ _ _ _,gq.zero w lo,⟨[],dB.nil _ _⟩⟩
theorem Heap.lH:Heap.zero.small:=by constructor<;>simp [Heap.zero]
theorem ak.lH:ak.zero.small:=⟨by simp [ak.zero],Heap.lH,by simp [ak.zero],by simp [ak.zero]⟩
theorem lG.small {s:ak} {n:ByteArray} {size align:Int} {u:ak×Int} (a:lG s n size align u) (hs:s.small) : u.1.small:=by
 cases a with
 | bad|form|range|dG|full=>exact ak.lH
 | @CZ i h hn jo ht hi hz ha =>
   have hM:=sR.1 h;have hc:=hs.each _ (List.getElem_mem hi);refine ⟨hs.words,hs.heap,by simp only [List.length_set];exact hs.ck,fun c hm => ?_⟩;rcases List.mem_or_eq_of_mem_set hm with hm|rfl
   ·exact hs.each c hm
   ·have hl:=(hM.each i hi).uW hM.heap (fun j h=>hM.each j h);refine ⟨?_,hc.bK,hc.dh⟩;simp only [ph];rw [dC _ (rL _ _)];omega
 | new h hn jo ht hz hc =>
   have hM:=sR.1 h;refine ⟨hs.words,hs.heap,by simp only [List.length_append,List.length_singleton];omega,fun c hm => ?_⟩;rcases List.mem_append.1 hm with hm|hm
   ·exact hs.each c hm
   ·simp only [List.mem_singleton] at hm;subst hm;have:=hM.heap.cpus
    refine ⟨by simp [gy],by simp [gy],?_⟩;simp only [gy,List.length_replicate];omega
open Go.RowKit
open Go.RowKit
open Go.RowKit
open Go.ChangeShapes Go.WideShapes Go.ChangeAt Go.RowKit Go.Deep Go.Joins
theorem own:ownKnob Tryz.prog.godebug=none:=by kernel_rfl
theorem laidOut:laidOutB Tryz.prog=true:=by kernel_rfl
theorem nW {H:Type} {enc:TypeId×Value→H} {P:Program} (hl:laidOutB P=true) {W W':World} (hb:Below W.heap.size W W') :
 ∀ (ts:List TypeId) (vs:List Value) (ds:List (DataW H)) (ps:List MemPlace),(∀ t∈ts,P.readableRec t=true∧t<P.types.size) →
  DataW.TrodAll enc P W 0 (fun _=>true) true ts vs ds ps→(∀ x∈ps,x.block<W.heap.size)→DataW.TrodAll enc P W' 0 (fun b=>decide (b<W.heap.size)) true ts vs ds ps
 | [],[],[],_,_,h,_=>h
 | t::ts,v::vs,d::ds,ps,Kh,h,dg=>by
   obtain ⟨p,q,h1,h2,rfl⟩:=h
   exact ⟨p,q,Below.trod hl (Kh t (by simp)).1 (Kh t (by simp)).2 h1 hb (fun x hx=>dg x (by simp [hx])),
    nW hl hb ts vs ds q (fun u hu=>Kh u (by simp [hu])) h2 (fun x hx=>dg x (by simp [hx])),rfl⟩
 | [],_::_,_,_,_,h,_=>by simp [DataW.TrodAll] at h
 | [],[],_::_,_,_,h,_=>by simp [DataW.TrodAll] at h
 | _::_,[],_,_,_,h,_=>by simp [DataW.TrodAll] at h
 | _::_,_::_,[],_,_,h,_=>by simp [DataW.TrodAll] at h
theorem B7 {H:Type} {enc:TypeId×Value→H} {P:Program} {f:Func} {s:ChangeSpec} {Of:FuncId} {W:World} {args:Array Value} {ds gs:List (DataW H)} {before:List MemPlace} {tb:TypeId}
 (hl:laidOutB P=true) (Kh:∀ t∈f.params.toList,P.readableRec t=true∧t<P.types.size) (hr:f.resultTypes = #[tb]) (hb:P.underlying tb=some .bool) (hv:s.vars=[])
 (Fp:(s.fn H (ds++[])).results=[.lit (.bool true)]∧(s.fn H (ds++[])).args=ds∧(s.fn H (ds++[])).vars=[])
 (hW:DataW.Whole enc P f.params.toList s.vars false W args.toList ds gs before) (h:bl P Of args.toList W fun v _=>v = .bool true) :
 Calls P Of args W fun e W' => ∃ v,e = .returned v∧s.post enc P f false true false false W args v W':=by
 have Ki:=hW;obtain ⟨p,q,hA,hV,rfl,_,_⟩:=hW;rw [hv] at hV;obtain ⟨rfl,rfl⟩:=trodVars_none hV;simp only [List.append_nil] at Ki;have dg:∀ x∈p,x.block<W.heap.size:=fun x hx=>by simpa using Ki.lt x hx
 refine Calls.mono h.out ?_;rintro e W' ⟨v,rfl,hx,rfl⟩
 obtain ⟨s1,s2,s3⟩:=Fp;refine ⟨_,rfl,ds,[],p,[],p,[],Ki,?_,?_,?_,Below.frame hx _,fun h=>by cases h⟩
 ·rw [s1,hr];exact trodAll_mk1 (shut_bool hb true)
 ·rw [s2];exact nW hl hx _ _ _ _ Kh hA dg
 ·rw [s3,hv]
  rfl
end Go.Proofs.YtbidkghlpijecaaGreatDoor
set_option maxRecDepth 100000
namespace Go.Proofs.YtbidkghlpijecaaGreatDoor
open Go.ChangeShapes Go.WideShapes Go.ChangeAt Go.RowKit Go.Deep Go.Joins
def Kj (z:Int) : Prop := -9223372036854775808≤z∧z≤9223372036854775807
section
variable {H:Type} {enc:TypeId×Value→H} {W:World} {base:Nat} {spare:Nat→Bool} {held:Bool} {fuel:Nat} {cs:List Value} {x:DataW H×List MemPlace}
theorem in64_of_wf {z:Int} (h:(Lit.int .i64 z).wf=true) : Kj z:=by
 have h1:IntKind.i64.min = -9223372036854775808:=rfl
 have h2:IntKind.i64.max=9223372036854775807:=rfl
 simp only [Lit.wf,Bool.and_eq_true,decide_eq_true_eq] at h;unfold Kj;omega
end
section
variable {H:Type} {P:Program}
end
section
variable {H:Type} {enc:TypeId×Value→H} {W:World} {base:Nat} {spare:Nat→Bool} {held:Bool} {fuel:Nat} {cs:List Value} {x:DataW H×List MemPlace}
end
end Go.Proofs.YtbidkghlpijecaaGreatDoor
set_option maxRecDepth 100000
namespace Go.Proofs.YtbidkghlpijecaaGreatDoor
open Go.ChangeShapes Go.WideShapes Go.ChangeAt Go.RowKit Go.Deep Go.Joins
section
variable {H:Type} {enc:TypeId×Value→H} {W:World} {base:Nat} {spare:Nat→Bool} {held:Bool} {fuel:Nat} {cs:List Value} {x:DataW H×List MemPlace}
end
end Go.Proofs.YtbidkghlpijecaaGreatDoor
set_option maxRecDepth 100000
namespace Go.Proofs.YtbidkghlpijecaaGreatDoor
open Go.ChangeShapes Go.WideShapes Go.ChangeAt Go.RowKit Go.Deep Go.Joins
section
variable {H:Type} {enc:TypeId×Value→H} {W:World} {base:Nat} {spare:Nat→Bool} {held:Bool} {fuel:Nat} {cs:List Value} {x:DataW H×List MemPlace}
end
open Go.RowKit
open Go.RowKit
theorem ri (A:Option Addr) (n c:Nat) (l:List ByteArray) (x:ByteArray) (w:World) (hl:Sl w 1 encStr A n l) (hn:n≤9223372036854775807) :
 bl Tryz.prog 188 [.slice A n c,.string x] w fun v _ => ∃ i:Int,v = .int .i64 i∧decide (0≤i)=sV l x:=by
 refine aD Tryz.func188 rfl Tryz.ntmps188 rfl ?_;have hw:=Ext.refl w;have hA:=hl.base;have nP:=hl.len;refine Wz ?_
 refine CW.loop (fun k:Nat=>[(0,.slice A n c),(1,.string x),(7,.int .i64 (n:Int)),(8,.int .i64 (k:Int))]) (fun k w'=>k≤n∧Ext w w' ∧ ∀ (i:Nat) (h:i<l.length),i<k→l[i]≠x)
  (fun k=>n-k) 0 ⟨rfl,rfl,rfl,rfl,trivial⟩ ⟨by omega,hw,fun i h hi=>by omega⟩ ?_
 clear hw;rintro k w' ⟨hk,hw,hI⟩
 by_cases ey:k<n
 ·by_cases hx:x=l[k]
  ·repeat' (first|refine Wz ?_|refine SW.st (aM hw rfl (hl.one ey rfl)) rfl ?_|(refine SW.st ((jI rfl rfl).eq (congrArg Value.bool (decide_eq_true hx))) rfl ?_))
   refine ae.aI rfl rfl ⟨_,rfl,hw,_,rfl,?_⟩;rw [mU.2 (hx ▸ List.getElem_mem (hl.lt ey))];simp
  ·repeat' (first|refine Wz ?_|refine SW.st (aM hw rfl (hl.one ey rfl)) rfl ?_|(refine SW.st ((jI rfl rfl).eq (congrArg Value.bool (decide_eq_false hx))) rfl ?_))
   refine ae.again (k+1) ⟨rfl,rfl,rfl,rfl,trivial⟩ (by omega) ⟨by omega,hw,fun i h' hi => ?_⟩;by_cases uD:i=k
   ·subst uD;exact fun e=>hx e.symm
   ·exact hI i h' (by omega)
 ·refine Wz ?_;refine ae.aI rfl rfl ⟨_,rfl,hw,_,rfl,?_⟩
  have hx:sV l x=false:=by
   cases e:sV l x
   ·rfl
   ·obtain ⟨i,hi,e⟩:=List.getElem_of_mem (mU.1 e);exact absurd e (hI i hi (by omega))
  rw [hx];simp
theorem ot (A:Option Addr) (n c:Nat) (l:List ByteArray) (x:ByteArray) (w:World) (hl:Sl w 1 encStr A n l) (hn:n≤9223372036854775807) :
 bl Tryz.prog 98 [.slice A n c,.string x] w fun v _=>v = .bool (sV l x):=by
 refine aD Tryz.func98 rfl Tryz.ntmps98 rfl ?_;have hw:=Ext.refl w;refine Wz ?_;refine SW.call rfl rfl (ri _ _ _ _ _ _ (hl.ext hw) hn) fun v w1 aa hv => ?_
 obtain ⟨i,rfl,hi⟩:=hv;replace hw:=Ext.trans hw aa;refine Wz ?_;exact ae.aI rfl rfl ⟨_,rfl,hw,by rw [hi]⟩
theorem mX {α β:Type} {p : α → Bool} {q : β → Bool} {l:List α} {m:List β} (hl:l.length=m.length) (h:∀ (k:Nat) (h1:k<l.length) (h2:k<m.length),p l[k]=q m[k]) : idxOf p l=idxOf q m∧l.any p=m.any q:=by
 have e:l.map p=m.map q:=List.ext_getElem (by simp [hl]) fun k h1 h2=>by simpa using h k (by simpa using h1) (by simpa using h2)
 have a1:l.any p=m.any q:=by
  have x1:(l.map p).any id=l.any p:=by rw [List.any_map];rfl
  have x2:(m.map q).any id=m.any q:=by rw [List.any_map];rfl
  rw [← x1,← x2,e]
 have a2:l.findIdx p=m.findIdx q:=by
  have x1:(l.map p).findIdx id=l.findIdx p:=by rw [List.findIdx_map];rfl
  have x2:(m.map q).findIdx id=m.findIdx q:=by rw [List.findIdx_map];rfl
  rw [← x1,← x2,e]
 unfold idxOf;rw [a1,a2];exact ⟨rfl,rfl⟩
theorem zM {w:World} {A:Option Addr} {n:Nat} {l l':List ByteArray} (h:Sl w 1 encStr A n l) (h':Sl w 1 encStr A n l') : l=l':=by
 have e1:=h.len;have e2:=h'.len;refine List.ext_getElem (by omega) fun k h1 h2 => ?_
 have a:=h.one (i:=k) (by omega) (u := .string l[k]) rfl;have b:=h'.one (i:=k) (by omega) (u := .string l'[k]) rfl;rw [a] at b;simpa using b
theorem B8 (w:World) (n:ByteArray) : ∃ p:dL→Bool,∀ x c,CY w x c→p x=kq n c:=by
 classical
 refine ⟨fun x=>decide (∃ c,CY w x c∧kq n c=true),fun x c h => ?_⟩;cases e:kq n c
 ·refine decide_eq_false ?_;rintro ⟨c',h',e'⟩
  unfold kq at e e';rw [zM h'.names h.names,e] at e';cases e'
 ·exact decide_eq_true ⟨c,h,e⟩
theorem zN (x:dL) (c:aV) (b3:Nat) (n:ByteArray) (w:World) (h3:aT w b3 9 [.string n]) (hx:CY w x c) (hn:x.Names.n≤9223372036854775807) :
 bl Tryz.prog 204 ([.agg (fG x).toArray]++[.pointer (some ⟨b3,0,none⟩)]) w fun v _=>v = .bool (kq n c):=by
 refine aD Tryz.func204 rfl Tryz.ntmps204 rfl ?_;refine CW.seq (CW.region (SW.box rfl rfl fun b1 w1 hw gX aB => ?_));replace h3:=h3.ext hw;have GW:=h3.cell (i:=0) (v := .string n) rfl;rw [add_zero] at GW;repeat' (first|refine Wz ?_|refine SW.st (ax rfl GW) rfl ?_|(refine SW.call rfl rfl (ot _ _ _ _ _ _ (hx.names.ext hw) hn) ?_;intro v w1 aa hv;subst hv;replace hw:=Ext.trans hw aa;replace aB:=aB.ext aa;clear aa))
 exact ae.aI rfl rfl ⟨_,rfl,hw,rfl⟩
theorem B9 (r:ik) (s:ak) (n:ByteArray) (w:World) (hr:DN w r s) (hs:s.small) :
 bl Tryz.prog 136 [.agg (bq r).toArray,.string n] w fun v _=>v = .tuple #[.int .i64 (idxOf (kq n) s.ai),.bool (s.ai.any (kq n))]:=by
 refine aD Tryz.func136 rfl Tryz.ntmps136 rfl ?_;obtain ⟨cs,hc⟩:=hr.ck;obtain ⟨z1,z2⟩:=hc.len;have m3:=hs.ck;obtain ⟨p,hp⟩:=B8 w n;have xW:=mX (p:=p) (q:=kq n) (l:=cs) (m:=s.ai) (by omega) fun k h1 h2=>hp _ _ (hc.each.get k h1 h2)
 refine CW.seq (CW.region (SW.box rfl rfl fun b2 w1 hw jg aC => ?_));refine SW.Dg rfl rfl rfl fun b3 w2 bo bL aq => ?_
 (replace hw:=Ext.trans hw bo;replace aC:=aC.ext bo);repeat' (first|refine Wz ?_|(refine SW.st (g9 (vs:=[.pointer (some ⟨b3,0,none⟩)]) rfl) rfl ?_))
 refine SW.call rfl rfl (il _ _ _ _ _ (hc.row.ext hw) _ [.pointer (some ⟨b3,0,none⟩)] p (fun x => .agg (fG x).toArray) (fun x=>rfl) (fun x hx w1 j0=>by
  obtain ⟨k,hk,rfl⟩:=List.getElem_of_mem hx;have kj:k<s.ai.length:=by omega
  have kO:=hc.each.get k hk kj;have q1:=(hs.each _ (List.getElem_mem kj)).names;have q2:=kO.names.len;rw [hp _ _ kO];exact zN _ _ b3 n w1 (aq.ext j0) (kO.ext (Ext.trans hw j0)) (by omega)) (by omega)) fun v w4 dz hv => ?_
 subst hv;rw [xW.1];replace hw:=Ext.trans hw dz;have Fx:=jC (kq n) s.ai;refine Wz ?_;all_goals exact ae.dk rfl rfl rfl ⟨_,rfl,hw,by rw [Fx]⟩
theorem zO (x:ByteArray) (w:World) : bl Tryz.prog 239 [.string x] w fun v _=>v = .bool false:=by
 refine aD Tryz.func239 rfl Tryz.ntmps239 rfl ?_;have hw:=Ext.refl w;repeat' (first|refine Wz ?_|(refine SW.st ((uO rfl rfl).eq (congrArg Value.bool (decide_eq_false (fun h=>h rfl)))) rfl ?_))
 exact ae.aI rfl rfl ⟨_,rfl,hw,rfl⟩
theorem zP (x:ByteArray) (w:World) : bl Tryz.prog 206 [.string x] w fun v _=>v = .bool false:=by
 refine aD Tryz.func206 rfl Tryz.ntmps206 rfl ?_;have hw:=Ext.refl w;repeat' (first|refine Wz ?_|(refine SW.st ((uO rfl rfl).eq (congrArg Value.bool (decide_eq_false (fun h=>h rfl)))) rfl ?_))
 exact ae.aI rfl rfl ⟨_,rfl,hw,rfl⟩
theorem xX (x y:ByteArray) (w:World) : bl Tryz.prog 205 [.string x,.string y] w fun v _=>v = .bool (dF x y):=by
 refine aD Tryz.func205 rfl Tryz.ntmps205 rfl ?_;have hw:=Ext.refl w;repeat' (first|refine Wz ?_|(refine SW.call rfl rfl (zO _ _) ?_;intro v w1 aa hv;subst hv;replace hw:=Ext.trans hw aa;clear aa)|(refine SW.st (DI rfl rfl) rfl ?_))
 exact ae.aI rfl rfl ⟨_,rfl,hw,rfl⟩
theorem zQ (A:Option Addr) (n c:Nat) (l:List ByteArray) (x:ByteArray) (w:World) (hl:Sl w 1 encStr A n l) (hs:Ed l) (hn:n≤1000000000000000000) :
 bl Tryz.prog 139 [.slice A n c,.string x] w fun v _ => ∃ b,v = .tuple #[.int .i64 (pe l x:Int),.bool b]:=by
 refine aD Tryz.func139 rfl Tryz.ntmps139 rfl ?_;have hw:=Ext.refl w;have hA:=hl.base;have nP:=hl.len;refine Wz ?_
 refine CW.loop (fun s:Nat×Nat=>[(0,.slice A n c),(1,.string x),(6,.int .i64 (n:Int)),(7,.int .i64 (s.1:Int)),(8,.int .i64 (s.2:Int))])
  (fun s w'=>s.1≤s.2∧s.2≤n∧Ext w w'∧(∀ (k:Nat) (h:k<l.length),k<s.1→dF l[k] x=true)∧(∀ (k:Nat) (h:k<l.length),s.2≤k→dF l[k] x=false)) (fun s=>s.2-s.1) (0,n)
  ⟨rfl,rfl,rfl,rfl,rfl,trivial⟩ ⟨by omega,by omega,hw,fun k h h'=>by omega,fun k h h'=>by omega⟩ ?_
 clear hw;rintro ⟨i,j⟩ w' ⟨j1,mm,hw,hI,hJ⟩
 simp only at j1 mm hI hJ ⊢;by_cases dg:i<j
 ·have hk:(i+j) / 2<n:=by omega
  have eV:=hl.lt hk;obtain ⟨q,hq⟩ : ∃ q,dF (l[(i+j) / 2]) x=q:=⟨_,rfl⟩
  have cL:∀ w',bl Tryz.prog 205 [.string (l[(i+j) / 2]),.string x] w' fun v _=>v = .bool q:=fun w'=>by
   have:=xX (l[(i+j) / 2]) x w'
   rwa [hq] at this
  cases q
  ·repeat' (first|refine Wz ?_|refine SW.st (aM hw rfl (hl.one hk rfl)) rfl ?_|(refine SW.call rfl rfl (cL _) ?_;intro v w1 aa hv;subst hv;replace hw:=Ext.trans hw aa;clear aa)|(refine SW.st ((iS Tryz.underlying3 iR rfl).eq (congrArg (Value.int .u64) (wrap_u64 (by omega) (by omega)))) rfl ?_)|(refine SW.st ((iS iR Tryz.underlying3 rfl).eq (congrArg (Value.int .i64) (fi (by omega) (by omega)))) rfl ?_)|(refine SW.st (rE rfl rfl) rfl ?_))
   refine ae.again (i,(i+j) / 2) ⟨rfl,rfl,rfl,rfl,congrArg (fun z=>some (Value.int .i64 z)) (by omega),trivial⟩ (by simp only;omega) ⟨by simp only;omega,by simp only;omega,hw,hI,fun k h h' => ?_⟩;simp only at h';by_cases e:k=(i+j) / 2
   ·subst e;exact hq
   ·cases c:dF l[k] x
    ·rfl
    ·have:=mO (hs ((i+j) / 2) k eV h (by omega)) c
     rw [hq] at this;cases this
  ·repeat' (first|refine Wz ?_|refine SW.st (aM hw rfl (hl.one hk rfl)) rfl ?_|(refine SW.call rfl rfl (cL _) ?_;intro v w1 aa hv;subst hv;replace hw:=Ext.trans hw aa;clear aa)|(refine SW.st ((iS Tryz.underlying3 iR rfl).eq (congrArg (Value.int .u64) (wrap_u64 (by omega) (by omega)))) rfl ?_)|(refine SW.st ((iS iR Tryz.underlying3 rfl).eq (congrArg (Value.int .i64) (fi (by omega) (by omega)))) rfl ?_)|(refine SW.st (rE rfl rfl) rfl ?_))
   refine ae.again ((i+j) / 2+1,j) ⟨rfl,rfl,rfl,congrArg (fun z=>some (Value.int .i64 z)) (by omega),rfl,trivial⟩ (by simp only;omega) ⟨by simp only;omega,mm,hw,fun k h h' => ?_,hJ⟩;simp only at h';by_cases e:k=(i+j) / 2
   ·subst e;exact hq
   ·exact mO (hs k ((i+j) / 2) h eV (by omega)) hq
 ·obtain rfl:i=j:=by omega
  have hp:pe l x=i:=B6 (by omega) (fun j hj h=>hI j hj h) (fun h=>hJ i h (by omega))
  rw [hp];by_cases gR:i<n
  ·by_cases he:l[i]'(hl.lt gR)=x
   ·repeat' (first|refine Wz ?_|refine SW.st (aM hw rfl (hl.one gR rfl)) rfl ?_|(refine SW.st ((jI rfl rfl).eq (congrArg Value.bool (decide_eq_true he))) rfl ?_))
    exact ae.dk rfl rfl rfl ⟨_,rfl,hw,_,rfl⟩
   ·repeat' (first|refine Wz ?_|refine SW.st (aM hw rfl (hl.one gR rfl)) rfl ?_|(refine SW.call rfl rfl (zP _ _) ?_;intro v w1 aa hv;subst hv;replace hw:=Ext.trans hw aa;clear aa)|(refine SW.st ((jI rfl rfl).eq (congrArg Value.bool (decide_eq_false he))) rfl ?_))
    exact ae.dk rfl rfl rfl ⟨_,rfl,hw,_,rfl⟩
  ·refine Wz ?_;exact ae.dk rfl rfl rfl ⟨_,rfl,hw,_,rfl⟩
open Go.RowKit
theorem nw:∀ (vs X Y Z:List Value),vs.length=Y.length→setAt (X++Y++Z) X.length vs=X++vs++Z
 | [],X,Y,Z,h=>by
   have:Y=[]:=List.length_eq_zero_iff.1 (by simpa using h.symm)
   subst this;rfl
 | v::r,X,[],Z,h=>by simp at h
 | v::r,X,y::Y,Z,h=>by
   have e:=nw r (X++[v]) Y Z (by simpa using h);simp only [List.length_append,List.length_singleton] at e;simp only [setAt]
   have e2:(X++(y::Y)++Z).set X.length v=X++[v]++Y++Z:=by
    rw [List.append_assoc,List.set_append_right _ _ (Nat.le_refl _)];simp
   rw [e2,e];simp
theorem Ee {sz:Nat} {u v:Value} {cs ds Z:List Value} (hu:u.cells.toList=cs) (hv:v.cells.toList=ds) (hc:cs.length=sz) (hd:ds.length=sz) (hZ:Z.length=2*sz) :
 Instr.fill (fun i=>some (i*sz,sz)) Z.toArray [(0,u),(1,v)]=some (cs++ds).toArray:=by
 have h1:u.cells.size=sz:=by rw [← Array.length_toList,hu,hc]
 have h2:v.cells.size=sz:=by rw [← Array.length_toList,hv,hd]
 have eZ:Z=[]++Z.take sz++Z.drop sz:=by simp
 have s1:setAt Z 0 cs=cs++Z.drop sz:=by
  have:=nw cs [] (Z.take sz) (Z.drop sz) (by simp;omega)
  rw [← eZ] at this;simpa using this
 have s2:setAt (cs++Z.drop sz) sz ds=cs++ds:=by
  have:=nw ds cs (Z.drop sz) [] (by simp;omega)
  rw [List.append_nil,hc] at this;simpa using this
 have fold:∀ (x:Value) (off:Nat) (X:List Value),Array.foldl (fun (cs:Array Value) (p:Value×Nat)=>cs.setIfInBounds (off+p.2) p.1) X.toArray x.cells.zipIdx=(setAt X off x.cells.toList).toArray:=fun x off X=>by
  have:=lj x.cells.toList 0 off X
  rw [Nat.add_zero] at this;rw [← this,← Array.foldl_toList];simp [Array.toList_zipIdx]
 simp only [Instr.fill];rw [if_neg (by simp;omega)];have f1:=fold u (0*sz) Z;rw [hu,Nat.zero_mul,s1] at f1;have f2:=fold v (1*sz) (cs++Z.drop sz);rw [hv,Nat.one_mul,s2] at f2;simp only [Nat.zero_mul,Nat.one_mul] at f1 f2 ⊢;simp only [f1,f2];rw [if_neg (by simp;omega)]
theorem SW.s9 {α:Type} {P:Program} {n:Nat} {ops:Array Oper} {Q:Exit→Act→World→Prop} {rest:List Oper} {L:Env} {w:World} {d:Nat} {T:TypeId} {pos:String} {af:Array Edge} {t e:TypeId} {z:Value} {sz bytes:Nat} {enc : α → List Value}
 [S:aX P t e sz] [E:cj P e z sz bytes] [C:fu enc sz] {x y:Operand} {u v:Value} (a b : α) (hx:bF L x=some u) (hy:bF L y=some v) (hu:u.cells.toList=enc a) (hv:v.cells.toList=enc b) (hs:Nat.ble sz 1000=true)
 (hn:Nat.blt d n=true) (h:∀ g w',Ext w w'→w.heap.size≤g→Own w' w.heap.size e sz enc (some ⟨g,0,none⟩) 2 2 [a,b]→SW P n ops (.fB Q) rest ((d,.slice (some ⟨g,0,none⟩) 2 2)::L) w') :
 SW P n ops (.fB Q) (⟨some d,.buildSlice t 2 #[(0,x),(1,y)],T,pos,af,none⟩::rest) L w :=
 ⟨fun q hq=>by
  obtain ⟨i,hi,hz,jo,rB⟩:=cW P e (z:=z) (sz:=sz) (bytes:=bytes);have hle:sz≤1000:=by simpa using hs
  have hp : 0<sz:=E.pos
  simp only [swp];refine wpList_buildSlice rfl t e 2 _ rfl (enc a++enc b).toArray i z S.kz hi hz (by rw [jo];omega) (by rw [jo];omega) ?_ ?_
  ·have e1:(Array.map (fun (p:Nat×Operand)=>(p.1,q.eval p.2)) #[(0,x),(1,y)]).toList=[(0,u),(1,v)]:=by
    simp [hq.eval hx,hq.eval hy]
   have e2:∀ X:Array Value,X=X.toList.toArray:=fun X=>rfl
   rw [e1,e2 (Array.map _ (Array.range _)),jo];exact Ee hu hv (C.len a) (C.len b) (by simp)
  ·refine (h w.heap.size _ (Ext.alloc w _) (Nat.le_refl _) ⟨rfl,.inr ⟨by omega,w.heap.size,_,rfl,Nat.le_refl _,aT.new w e (enc a++enc b),Nat.le_refl _,by simp only [maxLen];omega,by simp [C.len];omega,?_⟩⟩).out _ (hq.put hn _);simp only [List.flatMap_cons,List.flatMap_nil,List.append_nil];exact List.take_of_length_le (by simp [C.len];omega)⟩
open Go.RowKit
section
variable {P:Program} {L:Env} {w:World} {d:Option Nat} {T:TypeId} {pos:String} {af:Array Edge} {g:Option (Nat×Bool)}
theorem xY {t:TypeId} [c:AT P t] {x lo hi:Operand} {s r:ByteArray} {i j:Int} (hx:bF L x=some (.string s)) (gQ:bF L lo=some (.int .i64 i)) (PW:bF L hi=some (.int .i64 j)) (h0 : 0≤i) (h1:i≤j) (h2:j≤s.size) (hr:s.extract i.toNat j.toNat=r) :
 St P ⟨d,.slice t x (some lo) (some hi) none,T,pos,af,g⟩ L w (.string r) :=
 ⟨fun _ a ha w' _=>by
  subst hr;have e1:=ha.eval hx;have e2:=ha.eval gQ;have e3:=ha.eval PW;have h3:i≤(j.toNat:Int):=by omega
  have h4 : ¬ max j 0<i:=by omega
  generalize a.eval = ρ at *
  simp [execOp,e1,e2,e3,Instr.sliceAt,Instr.slice,Instr.sliceBounds,Instr.sliceBound,asIntOf,run_underlying c.kz,h0,h1,h2,h3,h4,show 0≤j by omega]⟩
theorem Ca {t ty:TypeId} {x y:Operand} {s r:ByteArray} (hx:bF L x=some (.string s)) (hy:bF L y=some (.string r)) (hb:s.size+r.size≤9223372036854775807) : St P ⟨d,.binOp .add t x y ty,T,pos,af,g⟩ L w (.string (s++r)) :=
 ⟨fun _ a ha w' _=>by
  have e1:=ha.eval hx;have e2:=ha.eval hy;generalize a.eval = ρ at *
  have h1 : ¬ IntKind.i64.max<((s.size+r.size:Nat) : Int):=by
   have:IntKind.i64.max=9223372036854775807:=rfl
   omega
  simp only [Int.natCast_add] at h1;simp [go_sem,e1,e2,Op.stringOp,h1];omega⟩
end
open Go.RowKit
def kL:List Int:=[1,2,4,8,16,32]
def Cb (k:Int) : ByteArray:=if k=1 then ⟨#[49]⟩ else if k=2 then ⟨#[50]⟩ else if k=4 then ⟨#[52]⟩ else if k=8 then ⟨#[56]⟩ else if k=16 then ⟨#[49,54]⟩ else ⟨#[51,50]⟩
def jT (k:Int) : ByteArray:=if k=1 then ⟨#[107,49]⟩ else if k=2 then ⟨#[107,50]⟩ else if k=4 then ⟨#[107,52]⟩ else if k=8 then ⟨#[107,56]⟩ else if k=16 then ⟨#[107,49,54]⟩ else ⟨#[107,51,50]⟩
theorem pi {k:Int} (h:k∈kL) : k=1∨k=2∨k=4∨k=8∨k=16∨k=32:=by simpa [kL] using h
theorem Cc (k:Int) (hk:k∈kL) (w:World) : bl Tryz.prog 258 [.int .i64 k] w fun v _=>v = .string (Cb k):=by
 refine aD Tryz.func258 rfl Tryz.ntmps258 rfl ?_;have hw:=Ext.refl w;rcases pi hk with rfl|rfl|rfl|rfl|rfl|rfl
 all_goals
  refine Wz ?_;refine SW.st (xY rfl rfl rfl (by decide) (by decide) (of_decide_eq_true (by kernel_rfl)) rfl) rfl ?_;refine Wz ?_;exact ae.aI rfl rfl ⟨_,rfl,hw,congrArg Value.string (by kernel_rfl)⟩
theorem uu (k:Int) (hk:k∈kL) (w:World) : bl Tryz.prog 241 [.int .i64 k,.int .i64 10] w fun v _=>v = .string (Cb k):=by
 refine aD Tryz.func241 rfl Tryz.ntmps241 rfl ?_;have hw:=Ext.refl w;have kj : 1≤k∧k≤32:=by rcases pi hk with h|h|h|h|h|h<;>omega
 repeat' (first|refine Wz ?_|(refine SW.call rfl rfl (Cc k hk _) ?_;intro v w1 aa hv;subst hv;replace hw:=Ext.trans hw aa;clear aa))
 exact ae.aI rfl rfl ⟨_,rfl,hw,rfl⟩
theorem Cd (k:Int) (hk:k∈kL) (w:World) : bl Tryz.prog 209 [.int .i64 k] w fun v _=>v = .string (Cb k):=by
 refine aD Tryz.func209 rfl Tryz.ntmps209 rfl ?_;have hw:=Ext.refl w;repeat' (first|refine Wz ?_|(refine SW.call rfl rfl (uu k hk _) ?_;intro v w1 aa hv;subst hv;replace hw:=Ext.trans hw aa;clear aa))
 exact ae.aI rfl rfl ⟨_,rfl,hw,rfl⟩
theorem Ef (k:Int) (hk:k∈kL) (w:World) : bl Tryz.prog 142 [.int .i64 k] w fun v _=>v = .string (Cb k):=by
 refine aD Tryz.func142 rfl Tryz.ntmps142 rfl ?_;have hw:=Ext.refl w;repeat' (first|refine Wz ?_|(refine SW.call rfl rfl (Cd k hk _) ?_;intro v w1 aa hv;subst hv;replace hw:=Ext.trans hw aa;clear aa))
 exact ae.aI rfl rfl ⟨_,rfl,hw,rfl⟩
theorem Ce (k:Int) (hk:k∈kL) (w:World) : bl Tryz.prog 59 [.int .i64 k] w fun v _=>v = .string (jT k):=by
 refine aD Tryz.func59 rfl Tryz.ntmps59 rfl ?_;have hw:=Ext.refl w;have e:(⟨#[107]⟩ : ByteArray)++Cb k=jT k:=by rcases pi hk with rfl|rfl|rfl|rfl|rfl|rfl<;>kernel_rfl
 have hs:(⟨#[107]⟩ : ByteArray).size+(Cb k).size≤9223372036854775807:=by rcases pi hk with rfl|rfl|rfl|rfl|rfl|rfl<;>decide
 repeat' (first|refine Wz ?_|(refine SW.call rfl rfl (Ef k hk _) ?_;intro v w1 aa hv;subst hv;replace hw:=Ext.trans hw aa;clear aa)|(refine SW.st ((Ca rfl rfl hs).eq (congrArg Value.string e)) rfl ?_))
 exact ae.aI rfl rfl ⟨_,rfl,hw,rfl⟩
def G0 (c:aV) : Bool:=kL.any fun k=>kq (jT k) c
structure jU (w:World) : Prop where
 sl:Sl w 1 bB (some ⟨0,0,none⟩) 6 kL
theorem jU.ext {w w':World} (h:jU w) (hx:Ext w w') : jU w':=⟨h.sl.ext hx⟩
def Il (n:Int) : ByteArray:=if n≤1 then jT 1 else if n≤2 then jT 2 else if n≤4 then jT 4 else if n≤8 then jT 8 else if n≤16 then jT 16 else if n≤32 then jT 32 else ⟨#[]⟩
open Go.RowKit
theorem xZ : Tryz.prog.globalNamed "paddock/kmem.sizes" = some 0 := by kernel_rfl
theorem zR:(Tryz.prog.globals[0]?).map (·.type)=some 111:=by kernel_rfl
set_option maxRecDepth 100000 in
theorem x8 {W:World} {cs:List Value} {fuel:Nat} {p:List MemPlace} {enc:TypeId×Value→Unit} {base:Nat} {spare:Nat→Bool} {held:Bool} (h:DataW.trod enc Tryz.prog W base spare held fuel 111 cs=some (Rows.laid_paddock_kmem_sizes,p)) :
 cs=[.int .i64 1,.int .i64 2,.int .i64 4,.int .i64 8,.int .i64 16,.int .i64 32]:=by
 have c6:Tryz.prog.cellsOf 111=6:=by kernel_rfl
 have c1:Tryz.prog.cellsOf 3=1:=by kernel_rfl
 obtain ⟨xs,m,rfl,hx,hlen,hn,CX⟩:=DataW.trod_array Tryz.underlying111 h;rw [c6] at hlen;rw [c1] at CX;simp only [Prod.mk.injEq] at hx
 have one:∀ (a:Value) (u:Int) (x:DataW Unit×List MemPlace),DataW.trod enc Tryz.prog W base spare held m 3 [a]=some x→x.1 = .lit (.int .i64 u)→a = .int .i64 u:=by
  intro a u x hx e;obtain ⟨z0,e0,f0,_⟩:=DataW.trod_int Tryz.underlying3 hx;rw [f0] at e;simp at e e0;rw [e0,e]
 match cs,hlen,xs,hn with
 | [a,b,c,d,e,f],_,[x0,x1,x2,x3,x4,x5],_ =>
   have j0:=hx.1;simp only [Rows.laid_paddock_kmem_sizes,List.map_cons,List.map_nil,DataW.agg.injEq,List.cons.injEq,and_true] at j0;obtain rfl:=one a 1 x0 (CX 0 (by decide)) j0.1.symm;obtain rfl:=one b 2 x1 (CX 1 (by decide)) j0.2.1.symm;obtain rfl:=one c 4 x2 (CX 2 (by decide)) j0.2.2.1.symm;obtain rfl:=one d 8 x3 (CX 3 (by decide)) j0.2.2.2.1.symm;obtain rfl:=one e 16 x4 (CX 4 (by decide)) j0.2.2.2.2.1.symm;obtain rfl:=one f 32 x5 (CX 5 (by decide)) j0.2.2.2.2.2.symm
   rfl
theorem Eg {W : World} {ps : List MemPlace} (h : DataW.LaidVars Tryz.prog W [("paddock/kmem.sizes", Rows.laid_paddock_kmem_sizes)] ps) : jU W := by
 obtain ⟨g0,t0,G1,f0,p0,q0,Dm,Lv,Jj,Ld,_⟩:=h;obtain rfl:=Option.some.inj (xZ.symm.trans Dm);obtain rfl:=Option.some.inj (zR.symm.trans Lv);have hc:=x8 Ld
 have qE:∀ i,W.cell? ⟨0,i,none⟩=G1.toList[i]?:=fun i=>by
  have:=World.var?_cell Dm Jj i
  simpa using this
 refine ⟨⟨rfl,fun _=>rfl,fun i hi j u hu => ?_⟩⟩;have RM:i<6:=hi
 rw [add_add];show W.cell? ((⟨0,0,none⟩ : Addr).add _)=_
 rw [cn,qE,hc]
 have hj:j=0:=by
  rcases Nat.eq_zero_or_pos j with h|h
  ·exact h
  ·rw [List.getElem?_eq_none (by simp [bB];omega)] at hu;cases hu
 subst hj;rcases (show i=0∨i=1∨i=2∨i=3∨i=4∨i=5 by omega) with rfl|rfl|rfl|rfl|rfl|rfl
 all_goals simpa [kL,bB] using hu
open Go.RowKit
theorem Cf {W : World} {ps : List MemPlace} (h : DataW.LaidVars Tryz.prog W [("paddock/buddy.others", Rows.laid_paddock_buddy_others)] ps) : oV W := by
 obtain ⟨g0,t0,G1,f0,p0,q0,Dm,Lv,Jj,Ld,_⟩:=h;obtain rfl:=Option.some.inj (vZ.symm.trans Dm);obtain rfl:=Option.some.inj (xu.symm.trans Lv);have hc:=v5 Ld;refine ⟨fun k hk j v hv => ?_⟩
 have qE:∀ i,W.cell? ⟨1,i,none⟩=G1.toList[i]?:=fun i=>by
  have:=World.var?_cell Dm Jj i
  simpa using this
 rw [add_add,cn,qE,hc];rcases (show k=0∨k=1∨k=2 by omega) with rfl|rfl|rfl
 all_goals
  match j,hv with
  | 0,hv=>simpa [sA,sB] using hv
  | 1,hv=>simpa [sA,sB] using hv
theorem mY {W : World} {D1 D2 D3 : DataW Unit} (hp : ([("math/bits.deBruijn32tab", D1), ("math/bits.deBruijn64tab", D2), ("internal/strconv.uint64pow10", D3), ("paddock/buddy.others", Rows.laid_paddock_buddy_others), ("paddock/kmem.sizes", Rows.laid_paddock_kmem_sizes)].all fun x => x.2.handleName?.isNone) = true)
 (h : laidMetH Tryz.prog [("math/bits.deBruijn32tab", D1), ("math/bits.deBruijn64tab", D2), ("internal/strconv.uint64pow10", D3), ("paddock/buddy.others", Rows.laid_paddock_buddy_others), ("paddock/kmem.sizes", Rows.laid_paddock_kmem_sizes)] W) : jU W ∧ oV W := by
 rw [MakeChecks.laidMetH_plain _ _ _ hp] at h;obtain ⟨ps,⟨_,_,_,_,_,_,_,_,_,_,⟨_,_,_,_,_,_,_,_,_,_,⟨_,_,_,_,_,_,_,_,_,_,⟨g0,t0,G1,f0,p0,q0,a1,a2,a3,a4,h5,_⟩,_⟩,_⟩,_⟩,_,_⟩:=h;exact ⟨Eg h5,Cf ⟨g0,t0,G1,f0,p0,[],a1,a2,a3,a4,rfl,rfl⟩⟩
open Go.RowKit
def Eh (s:ak) (a:Int) (i k:Nat) : Bool:=if h:i<s.ai.length then (if h':k<s.ai[i].aK.length then xJ s.ai[i].aY s.ai[i].jm (s.ai[i].aK[k]).At a else false) else false
structure Bb (s:ak) (a:Int) (i k:Nat) : Prop where
 hi:i<s.ai.length
 hk:k<s.ai[i].aK.length
 obj:Eh s a i k=true
 ahead:∀ i' k',(i'<i∨(i'=i∧k'<k))→Eh s a i' k'=false
inductive qO (s:ak) (a:Int) : Int×Int×Int→Prop where
 | bad (h:fA s=false) : qO s a (0,0,8)
 | none (h:fA s=true) (hn:∀ i k,Eh s a i k=false) : qO s a (0,0,4)
 | free {i k:Nat} {out:List Int} (h:fA s=true) (hF:Bb s a i k) (hC:o7 s.Words (s.ai[i]'hF.hi).aY (s.ai[i]'hF.hi).jm ((s.ai[i]'hF.hi).aK[k]'hF.hk) out) (hm:a∈out) : qO s a (0,0,4)
 | hit {i k:Nat} {out:List Int} (h:fA s=true) (hF:Bb s a i k) (hC:o7 s.Words (s.ai[i]'hF.hi).aY (s.ai[i]'hF.hi).jm ((s.ai[i]'hF.hi).aK[k]'hF.hk) out) (hm:a∉out) : qO s a (i,k,0)
end Go.Proofs.YtbidkghlpijecaaGreatDoor
