/-
  Texts of the claim SlabBulks, part 10: what its theorem leans on.
-/
import Derived.Test.YtjimadiidbkohaaGreatDoorPackSlabBulks9
import Derived.Test.YtjimadiidbkohaaGreatDoorPackSlabBulks8
import Derived.Test.YtjimadiidbkohaaGreatDoorPackSlabBulks2
set_option linter.unusedVariables false
set_option linter.unusedSimpArgs false
namespace Go.Proofs.YtjimadiidbkohaaGreatDoor
open Go.RowKit
structure Fu (F:World→Prop) (w:World) : Prop where
 at_:F w
 all:∀ w w',Ext w w'→F w→F w'
theorem Fu.ext {F:World→Prop} {w w':World} (h:Fu F w) (hx:Ext w w') : Fu F w':=⟨h.all _ _ hx h.at_,h.all⟩
theorem Fu.to {F:World→Prop} {w w':World} (h:Fu F w) (hf:F w') : Fu F w':=⟨hf,h.all⟩
theorem eH.aU {α β:Type} {R : α → β → Prop} {xs:List α} {ys:List β} (h:eH R xs ys) {i:Nat} (hi:i≤xs.length) {x : α} {y : β} (hr:R x y) : eH R (aU xs i x) (aU ys i y):=by
 have hl:=h.len;refine ⟨by rw [du _ hi,du _ (by omega),hl],fun k h1 h2 => ?_⟩
 have k7:∀ {γ:Type} (zs:List γ) (z : γ) (k:Nat) (hk:k<(Proofs.YtjimadiidbkohaaGreatDoor.aU zs i z).length) (u : γ),(Proofs.YtjimadiidbkohaaGreatDoor.aU zs i z)[k]?=some u→(Proofs.YtjimadiidbkohaaGreatDoor.aU zs i z)[k]=u:=fun zs z k hk u hu=>by
  rw [List.getElem?_eq_getElem hk] at hu;exact Option.some.inj hu
 rw [du _ hi] at h1;rcases Nat.lt_trichotomy k i with e|e|e
 ·rw [k7 xs x k _ (xs[k]'(by omega)) (by rw [sI hi e,List.getElem?_eq_getElem]),k7 ys y k _ (ys[k]'(by omega)) (by rw [sI (by omega) e,List.getElem?_eq_getElem])];exact h.get k (by omega) (by omega)
 ·subst e;rw [k7 xs x k _ x (kg hi),k7 ys y k _ y (kg (by omega))];exact hr
 ·obtain ⟨j,rfl⟩ : ∃ j,k=j+1:=⟨k-1,by omega⟩;rw [k7 xs x (j+1) _ (xs[j]'(by omega)) (by rw [pn hi (by omega),List.getElem?_eq_getElem]),k7 ys y (j+1) _ (ys[j]'(by omega)) (by rw [pn (by omega) (by omega),List.getElem?_eq_getElem])];exact h.get j (by omega) (by omega)
theorem eH.setAt {α β:Type} {R R' : α → β → Prop} {xs:List α} {ys:List β} (h:eH R xs ys) {i:Nat} {x : α} {y : β} (hr:R' x y) (ho:∀ (k:Nat) (h1:k<xs.length) (h2:k<ys.length),k≠i→R xs[k] ys[k]→R' xs[k] ys[k]) : eH R' (xs.set i x) (ys.set i y):=by
 refine ⟨by simp [h.len],fun k h1 h2 => ?_⟩;simp only [List.length_set] at h1 h2;rw [List.getElem_set,List.getElem_set];by_cases e:i=k
 ·rw [if_pos e,if_pos e];exact hr
 ·rw [if_neg e,if_neg e];exact ho k h1 h2 (fun h=>e h.symm) (h.get k h1 h2)
structure xy (n:Nat) (w:World) (lo:Nat) (F:World→Prop) (L:List aA) (x:aA) (p:Int) (JG:fR) (A9:List bO) (L1:List aA) : Prop where
 own:cQ w lo JG A9 L1
 lt:a9 L x<L1.length
 qi:L1.set (a9 L x) ⟨x.dU,x.aq,x.Ty,L1[a9 L x].aw++[p]⟩=jM L ⟨x.dU,x.aq,x.Ty,dE L x++[p]⟩
 key:dk L1[a9 L x] x
 sep:∀ (j:Nat) (hk:a9 L x<A9.length) (hj:j<A9.length),j≠a9 L x → ∀ g,aQ A9[a9 L x].aw.A A9[a9 L x].aw.c=some g→aQ A9[j].aw.A A9[j].aw.c≠some g
 Ky:∀ (hk:a9 L x<A9.length) (w w':World),w.grownBy w' (aQ A9[a9 L x].aw.A A9[a9 L x].aw.c)→F w→F w'
 small:L1[a9 L x].aw.length≤1000
 size:n≤w.heap.size
theorem xy.ext {n:Nat} {w w':World} {lo:Nat} {F:World→Prop} {L:List aA} {x:aA} {p:Int} {JG:fR} {A9:List bO} {L1:List aA} (h:xy n w lo F L x p JG A9 L1) (hx:Ext w w') : xy n w' lo F L x p JG A9 L1 :=
 ⟨h.own.ext hx,h.lt,h.qi,h.key,h.sep,h.Ky,h.small,Nat.le_trans h.size hx.size⟩
set_option maxHeartbeats 8000000 in
theorem C1 (Z m:fR) (cp:Int) (li lv:fR) (L:List aA) (ls:List bO) (x:aA) (y:bO) (p:Int) (F:World→Prop) (b1:Nat) (w w0:World) (hw:Ext w w0) (D6:w.heap.size≤b1) (aB:aI w0 b1 27 (bm ⟨Z,m,cp,li,lv⟩)) (hl:cQ w0 w.heap.size li ls L) (hk:sJ y x) (JH:y.aw = .nil) (JI:x.aw=[])
 (GG:yK ls) (hs:rH L) (hn:(li.n+1)*48≤140737488355328) (C2:∀ l∈L,l.aw.length≤1000) (n8:Fu F w0) (GH:∀ (w w':World) (row:Option Nat),w.grownBy w' row→(∀ k,row=some k→k=b1∨aQ li.A li.c=some k∨w0.heap.size≤k)→F w→F w')
 (Kz:∀ (i:Nat) (hi:i<ls.length) (w w':World),w.grownBy w' (aQ ls[i].aw.A ls[i].aw.c)→F w→F w') :
 il Tryz.prog 130 [.pointer (some ⟨b1,0,none⟩),.agg (bp y).toArray,.int .i64 p] w0 fun v w'=>Ext w w'∧F w' ∧ ∃ D7 vG,aI w' b1 27 (bm ⟨Z,m,cp,D7,lv⟩)∧cQ w' w.heap.size D7 vG (jM L ⟨x.dU,x.aq,x.Ty,dE L x++[p]⟩)∧uj w0.heap.size li ls D7 vG:=by
 refine dC Tryz.func130 rfl Tryz.ntmps130 rfl ?_;have Np:dk x ⟨x.dU,x.aq,x.Ty,dE L x++[p]⟩:=⟨rfl,rfl,rfl⟩
 obtain ⟨L8,L9⟩:=jD (L:=L) Np;refine CW.seq (CW.region (SW.box rfl rfl fun b4 w1 aj my bY => ?_));have mM:w.heap.size≤b4:=Nat.le_trans hw.size my
 have Iy:=hl.row.lt_size
 have Iz:∀ z∈ls,∀ g,ob z.aw=some g→g<w0.heap.size:=fun z hz g e=>by
  obtain ⟨j,hj,rfl⟩:=List.getElem_of_mem hz;exact (hl.each.get j hj (by rw [← hl.each.len];exact hj)).cu.lt_size g e
 (replace hw:=Ext.trans hw aj;replace aB:=aB.ext aj;replace hl:=hl.ext aj;replace n8:=n8.ext aj);obtain ⟨l1,l2⟩:=hl.rd.len;obtain ⟨q,hq⟩ : ∃ q,bU L x=q:=⟨_,rfl⟩
 have cL:∀ w',sc w' li ls L→bt Tryz.prog 128 [.agg (bm ⟨Z,m,cp,li,lv⟩).toArray,.agg (bp y).toArray] w' fun v _=>v = .tuple #[.int .i64 (a9 L x:Int),.bool q]:=fun w' h=>by
  have:=uP ⟨Z,m,cp,li,lv⟩ L ls x y w' h hk (by simp only;omega)
  rwa [hq] at this
 cases q
 ·have di:=fW L x;have KA:a9 L x≤ls.length:=by omega
  refine Wz ?_;(apply CW.aP mixed;(· kernel_rfl);rotate_left;intro w1 ab;replace hw:=Ext.trans hw ab;replace aB:=aB.ext ab;replace bY:=bY.ext ab;replace hl:=hl.ext ab;replace n8:=n8.ext ab;clear ab;rotate_right);repeat' (first|refine Wz ?_|(refine CW.bG rfl ?_)|refine SW.bq rfl rfl (fun w1 ab=>(cL _ (hl.rd.ext ab))) ?_|exact SW.bx rfl)
  clear cL;obtain ⟨yc,yz,yt,yp⟩:=y;simp only at JH;subst JH;refine SW.bB (i:=3) bY rfl rfl rfl rfl fun w3 rh vo => ?_
  replace hw:=hw.own mM vo;replace aB:=aB.ay (bY.gr vo) rfl;have Nq:=GH _ _ _ vo (fun k e=>by cases e;exact .inr (.inr my)) n8.at_;replace n8:=n8.to Nq;replace hl:cQ w3 w.heap.size li ls L:=⟨hl.row.grown vo (.inr (fun e=>by have:=Iy _ e;omega)),hl.each.mono fun _ _ h=>h.ay (bY.gr vo) rfl⟩;replace bY:aI w3 b4 62 (bp ⟨yc,yz,yt,.nil⟩):=rh;clear rh;refine Wz ?_;have Fv:=hl.row.sl.base;refine CW.jf 8 11 (fun _=>True) mixed (by kernel_rfl) fun w1 ab aG => ?_
  replace hw:=Ext.trans hw ab;replace aB:=aB.ext ab;replace bY:=bY.ext ab;replace hl:=hl.ext ab;replace n8:=n8.ext ab;clear ab;refine SF.dM 0 [] aG rfl (by kernel_rfl) (by kernel_rfl) (by kernel_rfl) (bd rfl) (fun w2 hS=>bd rfl) rfl ?_;refine SF.take 1 [4,3,2] [] aG rfl (by kernel_rfl) (by kernel_rfl) (by kernel_rfl) ?_;repeat (refine SW.pure rfl rfl ?_)
  refine SW.ai ?_;refine SF.take 2 [4,3] [] aG rfl (by kernel_rfl) (by kernel_rfl) (by kernel_rfl) ?_;repeat ((show SW _ _ _ _ (⟨_,Op.nilCheck _,_,_,_,none⟩::_) _ _;refine SW.st (aJ rfl) rfl ?_))
  refine SW.ai ?_;refine SF.take 3 [4] [] aG rfl (by kernel_rfl) (by kernel_rfl) (by kernel_rfl) ?_;repeat ((show SW _ _ _ _ (⟨_,Op.fieldAddr _ _ _,_,_,_,none⟩::_) _ _;refine SW.st (aC rfl) rfl ?_))
  refine SW.ai ?_;refine SF.take 4 [] [] aG rfl (by kernel_rfl) (by kernel_rfl) (by kernel_rfl) ?_;repeat ((show SW _ _ _ _ (⟨_,Op.load _ _,_,_,_,none⟩::_) _ _;refine SW.st (ak rfl (aB.cell (i:=3) (v := .slice li.A li.n li.c) rfl)) rfl ?_))
  refine SW.ai ?_;refine SF.take 5 [] [] aG rfl (by kernel_rfl) (by kernel_rfl) (by kernel_rfl) ?_;repeat (refine SW.pure rfl rfl ?_)
  refine SW.ai ?_;refine SF.take 6 [7] [] aG rfl (by kernel_rfl) (by kernel_rfl) (by kernel_rfl) ?_;repeat ((show SW _ _ _ _ (⟨_,Op.load _ _,_,_,_,none⟩::_) _ _;refine SW.st (aY rfl rfl ((fun _ _=>bY.cell))) rfl ?_))
  refine SW.ai ?_;refine SF.one 7 rfl (by kernel_rfl) rfl ?_;refine SW.bD rfl rfl rfl rfl rfl fun b w4 aj hb hB => ?_
  have xz:w0.heap.size≤w4.heap.size:=Nat.le_trans (Nat.le_of_lt (Nat.lt_of_le_of_lt my bY.lt)) aj.size
  have m6:aQ li.A li.c≠some b:=fun e=>by have:=hl.row.lt_size _ e;omega
  (replace hw:=Ext.trans hw aj;replace aB:=aB.ext aj;replace hl:=hl.ext aj;replace n8:=n8.ext aj);refine SW.nil (ae.sf aj ?_);refine SF.turn rfl (by kernel_rfl) rfl ?_;refine SW.db rfl rfl (sL li.A li.n li.c w.heap.size ls _ hl.row (a9 L x) (by omega) ⟨yc,yz,yt,.nil⟩ b hB m6 hn hw.size) fun v w5 hv => ?_
  obtain ⟨A2,c2,rfl,gf,hg,kV⟩:=hv;have hG:=hl.row.gr hg;have hS:True:=trivial
  replace hw:=aF hw hg (Nat.le_refl _) hl.row.aL;have IA:=GH _ _ _ hg (fun k e => .inr (.inl e)) n8.at_;replace n8:=n8.to IA;replace aB:=aB.ay hG rfl;have Ba:=(hl.each.mono fun _ _ h=>h.ay hG rfl).aU (i:=a9 L x) (x:=⟨yc,yz,yt,.nil⟩) (y:=⟨x.dU,x.aq,x.Ty,[]⟩) (by omega) ⟨hk.1,hk.2.1,hk.2.2,Own.dS _ _ _ _ _ _⟩;refine SW.nil (ae.sg hS ?_);refine SG.one 9 rfl (by kernel_rfl) rfl ?_;repeat ((show SW _ _ _ _ (⟨_,Op.nilCheck _,_,_,_,none⟩::_) _ _;refine SW.st (aJ rfl) rfl ?_))
  refine SW.nil (ae.sg hS ?_);refine SG.one 10 rfl (by kernel_rfl) rfl ?_;repeat ((show SW _ _ _ _ (⟨_,Op.fieldAddr _ _ _,_,_,_,none⟩::_) _ _;refine SW.st (aC rfl) rfl ?_))
  refine SW.nil (ae.sg hS ?_);refine SG.last rfl (by kernel_rfl) (by kernel_rfl) ?_;refine SW.bB (i:=3) aB rfl rfl rfl rfl fun w6 pp wL => ?_
  have D8:=aB.gr wL;have KB:w0.heap.size≤w6.heap.size:=Nat.le_trans xz (Nat.le_trans hg.size wL.size)
  have IB:=kV;replace hw:=hw.own D6 wL;have IC:=GH _ _ _ wL (fun k e=>by cases e;exact .inl rfl) n8.at_;replace n8:=n8.to IC;replace gf:=gf.ay D8 rfl;replace Ba:=Ba.mono fun _ _ h=>h.ay D8 rfl
  replace aB:aI w6 b1 27 (bm ⟨Z,m,cp,⟨A2,li.n+1,c2⟩,lv⟩):=pp;clear pp
  have k7:∀ h:a9 L x<(aU L (a9 L x) (⟨x.dU,x.aq,x.Ty,[]⟩ : aA)).length,(aU L (a9 L x) (⟨x.dU,x.aq,x.Ty,[]⟩ : aA))[a9 L x]=⟨x.dU,x.aq,x.Ty,[]⟩:=fun h=>by
   have:=kg (x:=(⟨x.dU,x.aq,x.Ty,[]⟩ : aA)) di
   rw [List.getElem?_eq_getElem h] at this;exact Option.some.inj this
  have C3:∀ h:a9 L x<(aU ls (a9 L x) (⟨yc,yz,yt,.nil⟩ : bO)).length,(aU ls (a9 L x) (⟨yc,yz,yt,.nil⟩ : bO))[a9 L x]=⟨yc,yz,yt,.nil⟩:=fun h=>by
   have:=kg (l:=ls) (i:=a9 L x) (x:=(⟨yc,yz,yt,.nil⟩ : bO)) (by omega)
   rw [List.getElem?_eq_getElem h] at this;exact Option.some.inj this
  have EH:a9 L x<(aU L (a9 L x) (⟨x.dU,x.aq,x.Ty,[]⟩ : aA)).length:=by rw [du _ di];omega
  have hR:xy w0.heap.size w6 w.heap.size F L x p ⟨A2,li.n+1,c2⟩ (aU ls (a9 L x) ⟨yc,yz,yt,.nil⟩) (aU L (a9 L x) ⟨x.dU,x.aq,x.Ty,[]⟩):=by
   refine ⟨⟨gf,Ba⟩,EH,?_,?_,fun j h1 h2 kx g e => ?_,fun h1 w w' hg => ?_,?_,KB⟩
   ·rw [k7 EH,qg di,ow (by rw [← L9];exact hq),← L8,lD hq]
   ·rw [k7 EH];exact ⟨rfl,rfl,rfl⟩
   ·rw [C3 h1] at e;cases e
   ·rw [C3 h1] at hg;exact n8.all _ _ (aF (Ext.refl w) hg (Nat.le_refl _) (fun k e=>by cases e))
   ·rw [k7 EH];simp
  clear Ba gf hl bY;refine Wz ?_;have hA:=hR.own.row.sl.base;have cb:a9 L x<(li.n+1):=by have:=hR.own.rd.len;have:=hR.lt;omega
  have nC:a9 L x<((aU ls (a9 L x) (⟨yc,yz,yt,.nil⟩ : bO))).length:=by have:=hR.own.rd.len;have:=hR.lt;omega
  have c8:=hR.lt;have EI:=hR.small;refine CW.jf 15 18 (fun w2=>aI w2 b1 27 (bm ⟨Z,m,cp,⟨A2,li.n+1,c2⟩,lv⟩)) mixed (by kernel_rfl) fun w1 ab aG => ?_
  replace hw:=Ext.trans hw ab;replace aB:=aB.ext ab;replace hR:=hR.ext ab;replace n8:=n8.ext ab;clear ab;refine SF.dM 0 [] aG rfl (by kernel_rfl) (by kernel_rfl) (by kernel_rfl) (bd rfl) (fun w2 hS=>bd rfl) rfl ?_;refine SF.dM 1 [] aG rfl (by kernel_rfl) (by kernel_rfl) (by kernel_rfl) (aJ rfl) (fun w2 hS=>aJ rfl) rfl ?_;refine SF.dM 2 [] aG rfl (by kernel_rfl) (by kernel_rfl) (by kernel_rfl) (aC rfl) (fun w2 hS=>aC rfl) rfl ?_;refine SF.dM 3 [] aG rfl (by kernel_rfl) (by kernel_rfl) (by kernel_rfl) (ak rfl (aB.cell (i:=3) (v := .slice A2 (li.n+1) c2) rfl)) (fun w2 hS=>ak rfl (hS.cell (i:=3) (v := .slice A2 (li.n+1) c2) rfl)) rfl ?_;refine SF.dM 4 [] aG rfl (by kernel_rfl) (by kernel_rfl) (by kernel_rfl) (bd rfl) (fun w2 hS=>bd rfl) rfl ?_;refine SF.take 5 [12,11,10,8,7,6] [] aG rfl (by kernel_rfl) (by kernel_rfl) (by kernel_rfl) ?_;repeat (refine SW.pure rfl rfl ?_)
  refine SW.ai ?_;refine SF.take 6 [12,11,10,8,7] [] aG rfl (by kernel_rfl) (by kernel_rfl) (by kernel_rfl) ?_;repeat ((show SW _ _ _ _ (⟨_,Op.nilCheck _,_,_,_,none⟩::_) _ _;refine SW.st (aJ rfl) rfl ?_))
  refine SW.ai ?_;refine SF.take 7 [12,11,10,8] [] aG rfl (by kernel_rfl) (by kernel_rfl) (by kernel_rfl) ?_;repeat ((show SW _ _ _ _ (⟨_,Op.fieldAddr _ _ _,_,_,_,none⟩::_) _ _;refine SW.st (aC rfl) rfl ?_))
  refine SW.ai ?_;refine SF.take 8 [12,11,10] [] aG rfl (by kernel_rfl) (by kernel_rfl) (by kernel_rfl) ?_;repeat ((show SW _ _ _ _ (⟨_,Op.load _ _,_,_,_,none⟩::_) _ _;refine SW.st (ak rfl (aB.cell (i:=3) (v := .slice A2 (li.n+1) c2) rfl)) rfl ?_))
  refine SW.ai ?_;refine SF.take 9 [12,11,10] [] aG rfl (by kernel_rfl) (by kernel_rfl) (by kernel_rfl) ?_;repeat (refine SW.pure rfl rfl ?_)
  refine SW.ai ?_;refine SF.take 10 [12,11] [] aG rfl (by kernel_rfl) (by kernel_rfl) (by kernel_rfl) ?_;repeat ((show SW _ _ _ _ (⟨_,Op.indexAddr _ _ _,_,_,_,none⟩::_) _ _;refine SW.st (bk rfl rfl (by assumption) (by omega)) rfl ?_))
  refine SW.ai ?_;refine SF.take 11 [12] [] aG rfl (by kernel_rfl) (by kernel_rfl) (by kernel_rfl) ?_;repeat ((show SW _ _ _ _ (⟨_,Op.fieldAddr _ _ _,_,_,_,none⟩::_) _ _;refine SW.st (aC rfl) rfl ?_))
  refine SW.ai ?_;refine SF.take 12 [] [] aG rfl (by kernel_rfl) (by kernel_rfl) (by kernel_rfl) ?_;repeat ((show SW _ _ _ _ (⟨_,Op.load _ _,_,_,_,none⟩::_) _ _;refine SW.st (ak rfl (hR.own.row.sl.dA cb (j:=3) (u := .slice ((aU ls (a9 L x) (⟨yc,yz,yt,.nil⟩ : bO)))[a9 L x].aw.A ((aU ls (a9 L x) (⟨yc,yz,yt,.nil⟩ : bO)))[a9 L x].aw.n ((aU ls (a9 L x) (⟨yc,yz,yt,.nil⟩ : bO)))[a9 L x].aw.c) rfl)) rfl ?_))
  refine SW.ai ?_;refine SF.take 13 [14] [] aG rfl (by kernel_rfl) (by kernel_rfl) (by kernel_rfl) ?_;repeat (refine SW.pure rfl rfl ?_)
  refine SW.ai ?_;refine SF.one 14 rfl (by kernel_rfl) rfl ?_;refine SW.bD rfl rfl rfl rfl rfl fun b w4 aj hb hB => ?_
  (replace hw:=Ext.trans hw aj;replace aB:=aB.ext aj;replace hR:=hR.ext aj;replace n8:=n8.ext aj);have GI:w0.heap.size≤w4.heap.size:=hR.size
  refine SW.nil (ae.sf aj ?_);refine SF.turn rfl (by kernel_rfl) rfl ?_;have EJ:=hR.own.each.get (a9 L x) nC c8;have Ak:=EJ.cu;have rI:=Ak.sl.len;refine SW.mb Ak (aI.lj (enc:=bf) hB) hw.size (by decide) rfl rfl rfl (by omega) (by omega) fun A3 c3 w5 gi hg C4 => ?_
  have hS:=aB.ay (Ak.gr hg) rfl;have dz:=hR.own.row.ay (Ak.gr hg) rfl;have IA:=hR.Ky nC _ _ hg n8.at_;replace hw:=aF hw hg (Nat.le_refl _) Ak.aL;refine SW.nil (ae.sg hS ?_);refine SG.one 16 rfl (by kernel_rfl) rfl ?_;repeat ((show SW _ _ _ _ (⟨_,Op.indexAddr _ _ _,_,_,_,none⟩::_) _ _;refine SW.st (bk rfl rfl (by assumption) (by omega)) rfl ?_))
  refine SW.nil (ae.sg hS ?_);refine SG.one 17 rfl (by kernel_rfl) rfl ?_;repeat ((show SW _ _ _ _ (⟨_,Op.fieldAddr _ _ _,_,_,_,none⟩::_) _ _;refine SW.st (aC rfl) rfl ?_))
  refine SW.nil (ae.sg hS ?_);refine SG.last rfl (by kernel_rfl) (by kernel_rfl) ?_;refine SW.ig (a9 L x) 3 ⟨((aU ls (a9 L x) (⟨yc,yz,yt,.nil⟩ : bO)))[a9 L x].dU,((aU ls (a9 L x) (⟨yc,yz,yt,.nil⟩ : bO)))[a9 L x].aq,((aU ls (a9 L x) (⟨yc,yz,yt,.nil⟩ : bO)))[a9 L x].Ty,⟨A3,((aU ls (a9 L x) (⟨yc,yz,yt,.nil⟩ : bO)))[a9 L x].aw.n+1,c3⟩⟩ dz rfl rfl rfl cb (by decide) rfl rfl fun w6 fX wL => ?_
  have D8:=dz.gr wL;have IC:=GH _ _ _ wL (fun k e=>by rcases kV k e with h|h;exact .inr (.inl h);exact .inr (.inr (Nat.le_trans xz h))) IA;replace hw:=aF hw wL (Nat.le_refl _) dz.aL;refine Wz ?_;refine ae.yD rfl ⟨_,rfl,hw,IC,⟨A2,li.n+1,c2⟩,((aU ls (a9 L x) (⟨yc,yz,yt,.nil⟩ : bO))).set (a9 L x) ⟨((aU ls (a9 L x) (⟨yc,yz,yt,.nil⟩ : bO)))[a9 L x].dU,((aU ls (a9 L x) (⟨yc,yz,yt,.nil⟩ : bO)))[a9 L x].aq,((aU ls (a9 L x) (⟨yc,yz,yt,.nil⟩ : bO)))[a9 L x].Ty,⟨A3,((aU ls (a9 L x) (⟨yc,yz,yt,.nil⟩ : bO)))[a9 L x].aw.n+1,c3⟩⟩,hS.ay (b:=b1) (t':=27) D8 rfl,?_⟩
  have KC:uj w0.heap.size li ls ⟨A2,li.n+1,c2⟩ ((aU ls (a9 L x) (⟨yc,yz,yt,.nil⟩ : bO)).set (a9 L x) ⟨((aU ls (a9 L x) (⟨yc,yz,yt,.nil⟩ : bO)))[a9 L x].dU,((aU ls (a9 L x) (⟨yc,yz,yt,.nil⟩ : bO)))[a9 L x].aq,((aU ls (a9 L x) (⟨yc,yz,yt,.nil⟩ : bO)))[a9 L x].Ty,⟨A3,((aU ls (a9 L x) (⟨yc,yz,yt,.nil⟩ : bO)))[a9 L x].aw.n+1,c3⟩⟩):=by
   rw [qg KA];refine uj.ins GG Iz (fun g e => ?_) (fun k e=>(IB k e).imp id (fun h=>Nat.le_trans xz h));rcases C4 g e with h|h
   ·rw [C3 nC] at h;cases h
   ·exact Nat.le_trans GI h
  refine ⟨?_,KC⟩;rw [← hR.qi];refine ⟨fX,eH.setAt (R:=kA _ w.heap.size) hR.own.each ⟨EJ.cpu.trans hR.key.1,EJ.fC.trans hR.key.2.1,EJ.ty.trans hR.key.2.2,gi.ay D8 rfl⟩ fun j h1 h2 kx ho=>⟨ho.cpu,ho.fC,ho.ty,?_⟩⟩;refine (ho.cu.grown hg ?_).ay D8 rfl;cases eo:aQ ((aU ls (a9 L x) (⟨yc,yz,yt,.nil⟩ : bO)))[j].aw.A ((aU ls (a9 L x) (⟨yc,yz,yt,.nil⟩ : bO)))[j].aw.c with
  | none=>exact .inl rfl
  | some g =>
    right;intro e;exact hR.sep j nC h1 kx g e.symm eo
 ·obtain ⟨di,mc⟩:=jt hq;refine Wz ?_;(apply CW.aP mixed;(· kernel_rfl);rotate_left;intro w1 ab;replace hw:=Ext.trans hw ab;replace aB:=aB.ext ab;replace bY:=bY.ext ab;replace hl:=hl.ext ab;replace n8:=n8.ext ab;clear ab;rotate_right);repeat' (first|refine Wz ?_|(refine CW.bA rfl ?_)|refine SW.bq rfl rfl (fun w1 ab=>(cL _ (hl.rd.ext ab))) ?_|exact SW.bx rfl)
  clear cL;have xz:=Nat.le_trans my (Nat.le_of_lt bY.lt);have hR:=(⟨hl,di,by rw [ov (by rw [← L9];exact hq),← L8,jj hq di],mc,fun j h1 h2 kx g e=>GG _ _ h1 h2 (Ne.symm kx) g e,fun h1 w w' hg=>Kz _ h1 w w' hg,C2 _ (List.getElem_mem di),xz⟩ : xy w0.heap.size _ w.heap.size F L x p li ls L);clear hl;have hA:=hR.own.row.sl.base;have cb:a9 L x<li.n:=by have:=hR.own.rd.len;have:=hR.lt;omega
  have nC:a9 L x<(ls).length:=by have:=hR.own.rd.len;have:=hR.lt;omega
  have c8:=hR.lt;have EI:=hR.small;refine CW.jf 15 18 (fun w2=>aI w2 b1 27 (bm ⟨Z,m,cp,li,lv⟩)) mixed (by kernel_rfl) fun w1 ab aG => ?_
  replace hw:=Ext.trans hw ab;replace aB:=aB.ext ab;replace hR:=hR.ext ab;replace n8:=n8.ext ab;clear ab;refine SF.dM 0 [] aG rfl (by kernel_rfl) (by kernel_rfl) (by kernel_rfl) (bd rfl) (fun w2 hS=>bd rfl) rfl ?_;refine SF.dM 1 [] aG rfl (by kernel_rfl) (by kernel_rfl) (by kernel_rfl) (aJ rfl) (fun w2 hS=>aJ rfl) rfl ?_;refine SF.dM 2 [] aG rfl (by kernel_rfl) (by kernel_rfl) (by kernel_rfl) (aC rfl) (fun w2 hS=>aC rfl) rfl ?_;refine SF.dM 3 [] aG rfl (by kernel_rfl) (by kernel_rfl) (by kernel_rfl) (ak rfl (aB.cell (i:=3) (v := .slice li.A li.n li.c) rfl)) (fun w2 hS=>ak rfl (hS.cell (i:=3) (v := .slice li.A li.n li.c) rfl)) rfl ?_;refine SF.dM 4 [] aG rfl (by kernel_rfl) (by kernel_rfl) (by kernel_rfl) (bd rfl) (fun w2 hS=>bd rfl) rfl ?_;refine SF.take 5 [12,11,10,8,7,6] [] aG rfl (by kernel_rfl) (by kernel_rfl) (by kernel_rfl) ?_;repeat (refine SW.pure rfl rfl ?_)
  refine SW.ai ?_;refine SF.take 6 [12,11,10,8,7] [] aG rfl (by kernel_rfl) (by kernel_rfl) (by kernel_rfl) ?_;repeat ((show SW _ _ _ _ (⟨_,Op.nilCheck _,_,_,_,none⟩::_) _ _;refine SW.st (aJ rfl) rfl ?_))
  refine SW.ai ?_;refine SF.take 7 [12,11,10,8] [] aG rfl (by kernel_rfl) (by kernel_rfl) (by kernel_rfl) ?_;repeat ((show SW _ _ _ _ (⟨_,Op.fieldAddr _ _ _,_,_,_,none⟩::_) _ _;refine SW.st (aC rfl) rfl ?_))
  refine SW.ai ?_;refine SF.take 8 [12,11,10] [] aG rfl (by kernel_rfl) (by kernel_rfl) (by kernel_rfl) ?_;repeat ((show SW _ _ _ _ (⟨_,Op.load _ _,_,_,_,none⟩::_) _ _;refine SW.st (ak rfl (aB.cell (i:=3) (v := .slice li.A li.n li.c) rfl)) rfl ?_))
  refine SW.ai ?_;refine SF.take 9 [12,11,10] [] aG rfl (by kernel_rfl) (by kernel_rfl) (by kernel_rfl) ?_;repeat (refine SW.pure rfl rfl ?_)
  refine SW.ai ?_;refine SF.take 10 [12,11] [] aG rfl (by kernel_rfl) (by kernel_rfl) (by kernel_rfl) ?_;repeat ((show SW _ _ _ _ (⟨_,Op.indexAddr _ _ _,_,_,_,none⟩::_) _ _;refine SW.st (bk rfl rfl (by assumption) (by omega)) rfl ?_))
  refine SW.ai ?_;refine SF.take 11 [12] [] aG rfl (by kernel_rfl) (by kernel_rfl) (by kernel_rfl) ?_;repeat ((show SW _ _ _ _ (⟨_,Op.fieldAddr _ _ _,_,_,_,none⟩::_) _ _;refine SW.st (aC rfl) rfl ?_))
  refine SW.ai ?_;refine SF.take 12 [] [] aG rfl (by kernel_rfl) (by kernel_rfl) (by kernel_rfl) ?_;repeat ((show SW _ _ _ _ (⟨_,Op.load _ _,_,_,_,none⟩::_) _ _;refine SW.st (ak rfl (hR.own.row.sl.dA cb (j:=3) (u := .slice (ls)[a9 L x].aw.A (ls)[a9 L x].aw.n (ls)[a9 L x].aw.c) rfl)) rfl ?_))
  refine SW.ai ?_;refine SF.take 13 [14] [] aG rfl (by kernel_rfl) (by kernel_rfl) (by kernel_rfl) ?_;repeat (refine SW.pure rfl rfl ?_)
  refine SW.ai ?_;refine SF.one 14 rfl (by kernel_rfl) rfl ?_;refine SW.bD rfl rfl rfl rfl rfl fun b w4 aj hb hB => ?_
  (replace hw:=Ext.trans hw aj;replace aB:=aB.ext aj;replace hR:=hR.ext aj;replace n8:=n8.ext aj);have GI:w0.heap.size≤w4.heap.size:=hR.size
  refine SW.nil (ae.sf aj ?_);refine SF.turn rfl (by kernel_rfl) rfl ?_;have EJ:=hR.own.each.get (a9 L x) nC c8;have Ak:=EJ.cu;have rI:=Ak.sl.len;refine SW.mb Ak (aI.lj (enc:=bf) hB) hw.size (by decide) rfl rfl rfl (by omega) (by omega) fun A3 c3 w5 gi hg C4 => ?_
  have hS:=aB.ay (Ak.gr hg) rfl;have dz:=hR.own.row.ay (Ak.gr hg) rfl;have IA:=hR.Ky nC _ _ hg n8.at_;replace hw:=aF hw hg (Nat.le_refl _) Ak.aL;refine SW.nil (ae.sg hS ?_);refine SG.one 16 rfl (by kernel_rfl) rfl ?_;repeat ((show SW _ _ _ _ (⟨_,Op.indexAddr _ _ _,_,_,_,none⟩::_) _ _;refine SW.st (bk rfl rfl (by assumption) (by omega)) rfl ?_))
  refine SW.nil (ae.sg hS ?_);refine SG.one 17 rfl (by kernel_rfl) rfl ?_;repeat ((show SW _ _ _ _ (⟨_,Op.fieldAddr _ _ _,_,_,_,none⟩::_) _ _;refine SW.st (aC rfl) rfl ?_))
  refine SW.nil (ae.sg hS ?_);refine SG.last rfl (by kernel_rfl) (by kernel_rfl) ?_;refine SW.ig (a9 L x) 3 ⟨(ls)[a9 L x].dU,(ls)[a9 L x].aq,(ls)[a9 L x].Ty,⟨A3,(ls)[a9 L x].aw.n+1,c3⟩⟩ dz rfl rfl rfl cb (by decide) rfl rfl fun w6 fX wL => ?_
  have D8:=dz.gr wL;have IC:=GH _ _ _ wL (fun k e => .inr (.inl e)) IA;replace hw:=aF hw wL (Nat.le_refl _) dz.aL;refine Wz ?_;refine ae.yD rfl ⟨_,rfl,hw,IC,li,(ls).set (a9 L x) ⟨(ls)[a9 L x].dU,(ls)[a9 L x].aq,(ls)[a9 L x].Ty,⟨A3,(ls)[a9 L x].aw.n+1,c3⟩⟩,hS.ay (b:=b1) (t':=27) D8 rfl,?_⟩
  have KC:uj w0.heap.size li ls li ((ls).set (a9 L x) ⟨(ls)[a9 L x].dU,(ls)[a9 L x].aq,(ls)[a9 L x].Ty,⟨A3,(ls)[a9 L x].aw.n+1,c3⟩⟩):=by
   refine uj.qi GG Iz nC (fun g e => ?_);rcases C4 g e with h|h
   ·exact .inl h
   ·exact .inr (Nat.le_trans GI h)
  refine ⟨?_,KC⟩;rw [← hR.qi];refine ⟨fX,eH.setAt (R:=kA _ w.heap.size) hR.own.each ⟨EJ.cpu.trans hR.key.1,EJ.fC.trans hR.key.2.1,EJ.ty.trans hR.key.2.2,gi.ay D8 rfl⟩ fun j h1 h2 kx ho=>⟨ho.cpu,ho.fC,ho.ty,?_⟩⟩;refine (ho.cu.grown hg ?_).ay D8 rfl;cases eo:aQ (ls)[j].aw.A (ls)[j].aw.c with
  | none=>exact .inl rfl
  | some g =>
    right;intro e;exact hR.sep j nC h1 kx g e.symm eo
open Go.RowKit
theorem qj {a b:fR} (h:apart a b∨apart b a) : aQ b.A b.c=none∨aQ b.A b.c≠aQ a.A a.c:=by
 cases e:aQ b.A b.c with
 | none=>exact .inl rfl
 | some g =>
   right;intro e2;rcases h with h|h
   ·exact h g e2.symm e
   ·exact h g e e2.symm
structure fi (w:World) (lo hi:Nat) (r:eI) (h:Heap) : Prop where
 er:r.bX=h.bX
 cn:Own w lo 3 1 bf r.bJ.A r.bJ.n r.bJ.c h.bJ
 live:Own w lo 77 3 az r.Live.A r.Live.n r.Live.c h.Live
 parts:∃ zs ls,gj w lo r.aN zs h.aN∧cQ w lo r.av ls h.av∧(∀ g,aQ r.bJ.A r.bJ.c=some g→g<hi)∧(∀ u∈zs,∀ g,aQ u.Types.A u.Types.c=some g→g<hi)∧(∀ u∈ls,∀ g,aQ u.aw.A u.aw.c=some g→g<hi)
section
variable {w w':World} {lo hi t g:Nat} {r:eI} {h:Heap}
theorem iU.kO (a:iU w lo r h) : fi w lo w.heap.size r h:=by
 obtain ⟨zs,hz⟩:=a.cx;obtain ⟨ls,hl⟩:=a.lists;refine ⟨a.er,a.cn,a.live,zs,ls,hz,hl,a.cn.lt_size,fun u hu g e => ?_,fun u hu g e => ?_⟩
 ·obtain ⟨j,hj,rfl⟩:=List.getElem_of_mem hu;exact (hz.each.get j hj (by rw [← hz.each.len];exact hj)).types.lt_size g e
 ·obtain ⟨j,hj,rfl⟩:=List.getElem_of_mem hu;exact (hl.each.get j hj (by rw [← hl.each.len];exact hj)).cu.lt_size g e
theorem fi.own (a:fi w lo hi r h) : iU w lo r h:=by
 obtain ⟨zs,ls,hz,hl,_⟩:=a.parts;exact ⟨a.er,a.cn,a.live,⟨zs,hz⟩,⟨ls,hl⟩⟩
theorem fi.ext (a:fi w lo hi r h) (hx:Ext w w') : fi w' lo hi r h:=by
 obtain ⟨zs,ls,hz,hl,hb⟩:=a.parts;exact ⟨a.er,a.cn.ext hx,a.live.ext hx,zs,ls,hz.ext hx,hl.ext hx,hb⟩
theorem fi.ay (a:fi w lo hi r h) (hG:nY w w' t) (cG:(Nat.beq t 3 || (Nat.beq t 77 || (Nat.beq t 59 || Nat.beq t 62)))=false) : fi w' lo hi r h:=by
 obtain ⟨zs,ls,hz,hl,hb⟩:=a.parts;simp only [Bool.or_eq_false_iff] at cG;obtain ⟨h1,h2,h3,h4⟩:=cG;exact ⟨a.er,a.cn.ay hG h1,a.live.ay hG h2,zs,ls,hz.ay hG (by simp [h1,h2,h3]),hl.ay hG (by simp [h1,h4]),hb⟩
theorem fi.Al (a:fi w lo hi r h) (hg:w.grownBy w' (some g)) (hG:nY w w' 3) (hb:g<lo∨hi≤g) : fi w' lo hi r h:=by
 obtain ⟨zs,ls,hz,hl,b1,b2,b3⟩:=a.parts;have key:∀ k,lo≤k→k<hi→(some g:Option Nat)≠some k:=fun k h1 h2 e=>by cases e;omega
 refine ⟨a.er,a.cn.apart hg fun k e=>key k (a.cn.aL k e) (b1 k e),a.live.ay hG rfl,zs,ls,⟨hz.row.ay hG rfl,⟨hz.each.len,fun j h1 h2 => ?_⟩⟩,⟨hl.row.ay hG rfl,⟨hl.each.len,fun j h1 h2 => ?_⟩⟩,b1,b2,b3⟩
 ·have hj:=hz.each.get j h1 h2;exact ⟨hj.from_,hj.ka,hj.free.ay hG rfl,hj.types.apart hg fun k e=>key k (hj.types.aL k e) (b2 _ (List.getElem_mem h1) k e)⟩
 ·have hj:=hl.each.get j h1 h2;exact ⟨hj.cpu,hj.fC,hj.ty,hj.cu.apart hg fun k e=>key k (hj.cu.aL k e) (b3 _ (List.getElem_mem h1) k e)⟩
end
structure nD (w:World) (lo:Nat) (r:dP) (s:aE) (Ad cs:List de) : Prop where
 words:Own w lo 3 1 bf r.Words.A r.Words.n r.Words.c s.Words
 heap:iU w lo r.Heap s.Heap
 row:Own w lo 46 6 df r.aa.A r.aa.n r.aa.c Ad
 each:eH (mE w lo) cs s.aa
 pair:cs.Pairwise jL
abbrev SX (w:World) (lo:Nat) (r:dP) (s:aE) (cs:List de) : Prop:=nD w lo r s cs cs
structure SI (w:World) (lo:Nat) (r:dP) (s:aE) (cs:List de) : Prop where
 ints:∃ m1 m2,lo≤m1∧m1≤m2∧(∀ g,aQ r.Words.A r.Words.c=some g→g<m1)∧fi w m1 m2 r.Heap s.Heap∧eH (mE w m2) cs s.aa
theorem sN {cs:List de} (h:cs.Pairwise jL) {i:Nat} {u:de} (hu:∀ (j:Nat) (hj:j<cs.length),j≠i→jL u cs[j]∧jL cs[j] u) : (cs.set i u).Pairwise jL:=by
 rw [List.pairwise_iff_getElem] at h ⊢;intro a b ha hb Hu;rw [List.length_set] at ha hb;rw [List.getElem_set,List.getElem_set];split
 ·split
  ·omega
  ·exact (hu b hb (by omega)).1
 ·split
  ·exact (hu a ha (by omega)).2
  ·exact h a b ha hb Hu
theorem dX {a b:fR} (h:apart a b) : apart b a:=fun k h1 h2=>h k h2 h1
theorem jL.symm {u v:de} (h:jL u v) : jL v u:=⟨dX h.names,dX h.aR,dX h.ba⟩
theorem lF {cs:List de} (h:cs.Pairwise jL) {i j:Nat} (hi:i<cs.length) (hj:j<cs.length) (kX:j≠i) : jL cs[i] cs[j]:=by
 have hp:=List.pairwise_iff_getElem.1 h;rcases Nat.lt_or_ge i j with g|g
 ·exact hp i j hi hj g
 ·exact (hp j i hj hi (by omega)).symm
section
variable {w w':World} {lo t:Nat} {r:dP} {s:aE} {Ad cs:List de}
theorem nD.ext (h:nD w lo r s Ad cs) (hx:Ext w w') : nD w' lo r s Ad cs:=⟨h.words.ext hx,h.heap.ext hx,h.row.ext hx,h.each.mono fun _ _ h=>h.ext hx,h.pair⟩
theorem nD.low {nw:Nat} (h:nD w lo r s Ad cs) (hl:nw≤lo) : nD w nw r s Ad cs:=⟨h.words.low hl,h.heap.low hl,h.row.low hl,h.each.mono fun _ _ h=>h.low hl,h.pair⟩
theorem nD.ay (h:nD w lo r s Ad cs) (hG:nY w w' t) (cG:(Nat.beq t 46 || (Nat.beq t 9 || (Nat.beq t 48 || (Nat.beq t 3 || (Nat.beq t 77 || (Nat.beq t 59 || Nat.beq t 62))))))=false) : nD w' lo r s Ad cs:=by
 simp only [Bool.or_eq_false_iff] at cG;obtain ⟨h1,h2,h3,h4,h5,h6,h7⟩:=cG;exact ⟨h.words.ay hG h4,h.heap.ay hG (by simp [h4,h5,h6,h7]),h.row.ay hG h1,h.each.mono fun _ _ h=>h.ay hG (by simp [h2,h3,h4]),h.pair⟩
theorem nD.len (h:SX w lo r s cs) : cs.length=r.aa.n∧s.aa.length=r.aa.n:=⟨h.row.len,by rw [← h.each.len,h.row.len]⟩
theorem nD.GJ (h:SX w lo r s cs) : uf w lo r s:=⟨h.words,h.heap,⟨cs,h.row,h.each⟩⟩
theorem SI.ext (h:SI w lo r s cs) (hx:Ext w w') : SI w' lo r s cs:=by
 obtain ⟨m1,m2,h1,h2,h3,h4,h5⟩:=h.ints;exact ⟨m1,m2,h1,h2,h3,h4.ext hx,h5.mono fun _ _ h=>h.ext hx⟩
theorem SI.low {nw:Nat} (h:SI w lo r s cs) (hl:nw≤lo) : SI w nw r s cs:=by
 obtain ⟨m1,m2,h1,h2,h3,h4,h5⟩:=h.ints;exact ⟨m1,m2,Nat.le_trans hl h1,h2,h3,h4,h5⟩
theorem SI.ay (h:SI w lo r s cs) (hG:nY w w' t) (cG:(Nat.beq t 9 || (Nat.beq t 48 || (Nat.beq t 3 || (Nat.beq t 77 || (Nat.beq t 59 || Nat.beq t 62)))))=false) : SI w' lo r s cs:=by
 simp only [Bool.or_eq_false_iff] at cG;obtain ⟨h2,h3,h4,h5,h6,h7⟩:=cG;obtain ⟨m1,m2,g1,g2,g3,g4,g5⟩:=h.ints;exact ⟨m1,m2,g1,g2,g3,g4.ay hG (by simp [h4,h5,h6,h7]),g5.mono fun _ _ h=>h.ay hG (by simp [h2,h3,h4])⟩
theorem nD.aR {i n':Nat} {l':List Slab} (h:SX w lo r s cs) (hi:i<cs.length) (ol:i<s.aa.length) (hO:Own w' lo 48 3 a8 cs[i].ah.A n' cs[i].ah.c l') (hg:w.grownBy w' (aQ cs[i].ah.A cs[i].ah.c)) :
 nD w' lo r ⟨s.Words,s.Heap,s.aa.set i ⟨s.aa[i].Names,s.aa[i].bh,s.aa[i].cj,s.aa[i].Order,l',s.aa[i].au⟩⟩ cs (cs.set i ⟨cs[i].Names,cs[i].bh,cs[i].cj,cs[i].Order,⟨cs[i].ah.A,n',cs[i].ah.c⟩,cs[i].au⟩):=by
 have hc:=h.each.get i hi ol;have hG:=hc.aR.gr hg;refine ⟨h.words.ay hG rfl,h.heap.ay hG rfl,h.row.ay hG rfl,?_,?_⟩
 ·exact eH.setAt h.each ⟨hc.size,hc.fk,hc.order,hc.names.ay hG rfl,hO,hc.ba.ay hG rfl⟩ fun j h1 h2 iY ho=>⟨ho.size,ho.fk,ho.order,ho.names.ay hG rfl,ho.aR.grown hg (qj (.inl (lF h.pair hi h1 iY).aR)),ho.ba.ay hG rfl⟩
 ·refine sN h.pair fun j hj iY => ?_
  have hp:=lF h.pair hi hj iY;exact ⟨⟨hp.names,hp.aR,hp.ba⟩,⟨dX hp.names,dX hp.aR,dX hp.ba⟩⟩
theorem nD.C5 {i n' c':Nat} {A':Option Addr} {l':List Slab} (h:SX w lo r s cs) (fG:lo≤w.heap.size) (hi:i<cs.length) (ol:i<s.aa.length) (hx:Ext w w') (hO:Own w' w.heap.size 48 3 a8 A' n' c' l') :
 nD w' lo r ⟨s.Words,s.Heap,s.aa.set i ⟨s.aa[i].Names,s.aa[i].bh,s.aa[i].cj,s.aa[i].Order,l',s.aa[i].au⟩⟩ cs (cs.set i ⟨cs[i].Names,cs[i].bh,cs[i].cj,cs[i].Order,⟨A',n',c'⟩,cs[i].au⟩):=by
 have hc:=(h.each.get i hi ol).ext hx;refine ⟨h.words.ext hx,h.heap.ext hx,h.row.ext hx,?_,?_⟩
 ·exact eH.setAt h.each ⟨hc.size,hc.fk,hc.order,hc.names,hO.low fG,hc.ba⟩ fun j h1 h2 iY ho=>ho.ext hx
 ·refine sN h.pair fun j hj iY => ?_
  have hp:=lF h.pair hi hj iY;have ha:apart cs[j].ah ⟨A',n',c'⟩:=j5 (h.each.get j hj (by rw [← h.each.len];exact hj)).aR hO.aL
  exact ⟨⟨hp.names,dX ha,hp.ba⟩,⟨dX hp.names,ha,dX hp.ba⟩⟩
theorem nD.qk {i:Nat} {u:de} (h:nD w lo r s Ad (Ad.set i u)) (hO:Own w' lo 46 6 df r.aa.A r.aa.n r.aa.c (Ad.set i u)) (hg:w.grownBy w' (aQ r.aa.A r.aa.c)) : SX w' lo r s (Ad.set i u):=by
 have hG:=h.row.gr hg;exact ⟨h.words.ay hG rfl,h.heap.ay hG rfl,hO,h.each.mono fun _ _ h=>h.ay hG rfl,h.pair⟩
end
open Go.RowKit
structure GB (w w':World) (b:Nat) : Prop where
 g:w.grownBy w' (some b)
theorem GB.refl (w:World) (b:Nat) : GB w w b:=⟨World.grownBy.refl _ _⟩
theorem GB.ext {w w1 w2:World} {b:Nat} (h:GB w w1 b) (hx:Ext w1 w2) : GB w w2 b:=⟨bP h.g (hx.gr (some b)) (.inl rfl)⟩
theorem GB.step {w w1 w2:World} {b:Nat} (h:GB w w1 b) (hg:w1.grownBy w2 (some b)) : GB w w2 b:=⟨bP h.g hg (.inl rfl)⟩
theorem Bb (b:Nat) (s:Option (List Block)) (p:Int) (N:Nat) (hN:N=256) (w:World) (hM:Marks w b N s) (hs:mR s) :
 il Tryz.prog 62 [.pointer (some ⟨b,0,none⟩),.int .i64 p,.int .i64 1] w fun v w'=>Marks w' b N (jW s (cX p))∧w.grownBy w' (some b):=by
 have h:=qd b s (cX p) N hN w hM hs (by simp [cX,js]);simp only [cX,js] at h ⊢;exact h
def C6 (w wE:World) (b N:Nat) (s:Option (List Block)) (h:Heap) (to:Int) (v:Value) (w':World) : Prop :=
 Ext w w'∧wE.grownBy w' (some b)∧((v = .bool true∧kJ h.bX to h.av∧Marks w' b N (bj s (aS h.av)))∨(v = .bool false ∧ ¬ (kJ h.bX to h.av∧(bj s (aS h.av)).isSome=true)))
structure vN (er to:Int) (ls:List aA) (k:Nat) : Prop where
 head:∀ (i:Nat) (h:i<ls.length),i<k→mS er ls[i]
 next:∀ (i:Nat) (h:i+1<ls.length),i+1<k→bz ls[i] ls[i+1]
 fC:∀ (i:Nat) (h:i<ls.length),i<k → ∀ p∈(ls[i]).aw,(p<to↔(ls[i]).aq=0)
theorem vN.nil (er to:Int) (ls:List aA) : vN er to ls 0:=⟨fun i _ h=>by omega,fun i _ h=>by omega,fun i _ h=>by omega⟩
theorem vN.all {er to:Int} {ls:List aA} {k:Nat} (h:vN er to ls k) (hk:ls.length≤k) : kJ er to ls:=⟨fun i hi=>h.head i hi (by omega),fun i hi=>h.next i hi (by omega),fun i hi=>h.fC i hi (by omega)⟩
theorem vN.snoc {er to:Int} {ls:List aA} {k:Nat} (h:vN er to ls k) (hk:k<ls.length) (h1:mS er ls[k]) (h2:∀ (h : 0<k),bz ls[k-1] ls[k]) (h3:∀ p∈(ls[k]).aw,(p<to↔(ls[k]).aq=0)) : vN er to ls (k+1):=by
 refine ⟨fun i hi zW => ?_,fun i hi zW => ?_,fun i hi zW => ?_⟩
 ·by_cases e:i=k
  ·subst e;exact h1
  ·exact h.head i hi (by omega)
 ·by_cases e:i+1=k
  ·subst e;exact h2 (by omega)
  ·exact h.next i hi (by omega)
 ·by_cases e:i=k
  ·subst e;exact h3
  ·exact h.fC i hi (by omega)
theorem qJ {s:Option (List Block)} {ls:List aA} {k j:Nat} (hk:k<ls.length) (hj:j≤(ls[k]).aw.length) (h:bj (bj s (aS (ls.take k))) (((ls[k]).aw.take j).map cX)=none) : bj s (aS ls)=none:=by
 rw [← br] at h
 have e:aS ls=(aS (ls.take k)++((ls[k]).aw.take j).map cX)++(((ls[k]).aw.drop j).map cX++aS (ls.drop (k+1))):=by
  have e1:ls=ls.take (k+1)++ls.drop (k+1):=by simp
  have e2:((ls[k]).aw.take j).map cX++((ls[k]).aw.drop j).map cX=(ls[k]).aw.map cX:=by rw [← List.map_append,List.take_append_drop]
  have e3:aS ls=aS (ls.take (k+1))++aS (ls.drop (k+1)):=by unfold aS;rw [← List.flatMap_append,← e1]
  rw [e3,kK _ _ hk,← e2];simp only [List.append_assoc]
 rw [e,br,h,fp]
set_option maxHeartbeats 8000000 in
theorem Bc (r:eI) (h:Heap) (r0 r1:ct) (z0 z1:aq) (b N:Nat) (hN:N=256) (s:Option (List Block)) (w wE:World) (hw:Ext w wE) (D6:w.heap.size≤b) (hr:ug w r h r0 r1 z0 z1) (hM:Marks wE b N s) (Nr:mR s) (EI:r.av.n≤1000000000000000000) :
 il Tryz.prog 63 [.agg (bm r).toArray,.pointer (some ⟨b,0,none⟩)] wE (C6 w wE b N s h z0.To):=by
 refine dC Tryz.func63 rfl Tryz.ntmps63 rfl ?_;have hE:=GB.refl wE b;refine CW.seq (CW.region (SW.box rfl rfl fun b2 w2 cJ im aK => ?_));(replace hw:=Ext.trans hw cJ;replace hM:=hM.ext cJ;replace hE:=hE.ext cJ);obtain ⟨ls,hl⟩:=hr.rd.lists;have CG:=hr.rd.er;obtain ⟨pW,Fw⟩:=hl.len;have hA:=hl.row.base;refine Wz ?_
 refine CW.loop (fun k:Nat=>[(1,.pointer (some ⟨b,0,none⟩)),(2,.pointer (some ⟨b2,0,none⟩)),(10,.slice r.av.A r.av.n r.av.c),(11,.int .i64 (r.av.n:Int)),(12,.int .i64 (k:Int))])
  (fun k w'=>k≤r.av.n∧Ext w w'∧GB wE w' b∧aI w' b2 27 (bm r)∧Marks w' b N (bj s (aS (h.av.take k)))∧vN h.bX z0.To h.av k) (fun k=>r.av.n-k) 0
  ⟨rfl,rfl,rfl,rfl,rfl,trivial⟩ ⟨by omega,hw,hE,aK,hM,.nil _ _ _⟩ ?_
 clear hw hE aK hM cJ;rintro k w' ⟨hk,hw,hE,aK,hM,hP⟩
 by_cases cb:k<r.av.n
 ·have di:k<ls.length:=by omega
  have qK:k<h.av.length:=by omega
  have Bd:=hl.each.get k di qK;have KD:=Bd.cpu;have KE:=Bd.fC;have c8:=Bd.ty;have Ma:=Bd.cu.len;have Ns:=Bd.cu.base;have Am:=Bd.cu;have dz:=hl.row.all cb;have fX:=hl.row.all (i:=k-1) (show k-1<r.av.n by omega)
  have Nt:mR (bj s (aS (h.av.take k))):=iz Nr fun x hx=>by
   unfold aS at hx;obtain ⟨y,_,hy⟩:=List.mem_flatMap.1 hx;obtain ⟨p,_,rfl⟩:=List.mem_map.1 hy;simp [cX,js]
  repeat' (first|refine Wz ?_|refine SW.st (aH hw rfl rfl ((dz))) rfl ?_)
  refine SW.alloc rfl fun b6 w1 ab fb ax => ?_
  refine Wz ?_;refine SW.ap ax rfl rfl rfl rfl (fO.one (enc:=bp) _) fun w2 gH hg => ?_
  have aj:=ab.own fb hg;have dr:w.heap.size≤b6:=Nat.le_trans hw.size fb
  replace hw:=Ext.trans hw aj;replace aK:=aK.ext aj;replace hM:=hM.ext aj;replace hE:=hE.ext aj;replace ax:=gH;clear gH ab hg aj;refine Wz ?_;by_cases yn:mS r.bX h.av[k]
  ·obtain ⟨e1,e2,e3,e4⟩:=id yn;obtain ⟨q,hq⟩ : ∃ q,decide (bz (h.av[k-1]'(by omega)) h.av[k])=q:=⟨_,rfl⟩;have yS:=hl.each.get (k-1) (by omega) (by omega)
   have cL:∀ w',bt Tryz.prog 96 [.agg (bp (ls[k-1]'(by omega))).toArray,.agg (bp ls[k]).toArray] w' fun v _=>v = .bool q:=fun w'=>by
    have:=qe (ls[k-1]'(by omega)) ls[k] (h.av[k-1]'(by omega)) h.av[k] w' ⟨yS.cpu,yS.fC,yS.ty⟩ ⟨KD,KE,c8⟩
    rwa [hq] at this
   have dp:k=0∨(0<k∧q=true)∨(0<k∧q=false):=by cases q<;>simp<;>omega
   rw [or_comm,or_assoc] at dp;rcases dp with ⟨pS,rfl⟩|⟨pS,rfl⟩|pS
   rotate_left
   ·repeat' (first|refine Wz ?_|(first|refine CW.bG rfl ?_|(apply CW.aP mixed;(· kernel_rfl);rotate_left;intro w1 ab;replace hw:=Ext.trans hw ab;replace aK:=aK.ext ab;replace ax:=ax.ext ab;replace hM:=hM.ext ab;replace hE:=hE.ext ab;clear ab;rotate_right))|refine SW.st (aZ (k-1) rfl rfl (by assumption) (by omega) (by omega)) rfl ?_|refine SW.st (aH hw rfl rfl ((fX))) rfl ?_|refine SW.bq rfl rfl (fun w1 ab=>(cL _)) ?_|exact SW.bx rfl)
    exact ae.aO rfl rfl ⟨_,rfl,hw,hE.g,.inr ⟨rfl,fun hh=>by
     have:=hh.1.next (k-1) (by omega)
     simp only [show k-1+1=k by omega] at this;exact of_decide_eq_false hq this⟩⟩
   all_goals
    have KF:∀ (h0 : 0<k),bz (h.av[k-1]'(by omega)) h.av[k]:=fun h0=>by first|exact of_decide_eq_true hq|omega
    repeat' (first|refine Wz ?_|(first|refine CW.bA rfl ?_|(apply CW.aP mixed;(· kernel_rfl);rotate_left;intro w1 ab;replace hw:=Ext.trans hw ab;replace aK:=aK.ext ab;replace ax:=ax.ext ab;replace hM:=hM.ext ab;replace hE:=hE.ext ab;clear ab;rotate_right))|refine SW.st (aZ (k-1) rfl rfl (by assumption) (by omega) (by omega)) rfl ?_|refine SW.st (aH hw rfl rfl ((fX))) rfl ?_|refine SW.bq rfl rfl (fun w1 ab=>(cL _)) ?_|exact SW.bx rfl)
    clear cL hq dz fX
    refine CW.loop (fun j:Nat=>[(1,.pointer (some ⟨b,0,none⟩)),(2,.pointer (some ⟨b2,0,none⟩)),(6,.pointer (some ⟨b6,0,none⟩)),(10,.slice r.av.A r.av.n r.av.c),(11,.int .i64 (r.av.n:Int)),(12,.int .i64 (k:Int)),(75,.slice ls[k].aw.A ls[k].aw.n ls[k].aw.c),(76,.int .i64 (ls[k].aw.n:Int)),(77,.int .i64 (j:Int))])
     (fun j w'=>j≤ls[k].aw.n∧Ext w w'∧GB wE w' b∧aI w' b2 27 (bm r)∧aI w' b6 62 (bp ls[k])∧Marks w' b N (bj (bj s (aS (h.av.take k))) ((h.av[k].aw.take j).map cX)) ∧ ∀ (i:Nat) (hi:i<h.av[k].aw.length),i<j→(h.av[k].aw[i]<z0.To↔h.av[k].aq=0)) (fun j=>ls[k].aw.n-j) 0
     ⟨rfl,rfl,rfl,rfl,rfl,rfl,rfl,rfl,rfl,trivial⟩ ⟨by omega,hw,hE,aK,ax,hM,fun i _ h=>by omega⟩ ?_
    clear hw hE aK ax hM fb dr;rintro j w' ⟨hj,hw,hE,aK,ax,hM,hZ⟩
    by_cases jo:j<ls[k].aw.n
    ·have kW:j<h.av[k].aw.length:=by omega
     repeat' (first|refine Wz ?_|refine SW.st (ao hw rfl (Am.one jo rfl)) rfl ?_)
     refine SW.db rfl rfl (Bb b _ h.av[k].aw[j] N hN _ hM (iz Nt fun x hx=>by
      obtain ⟨p,_,rfl⟩:=List.mem_map.1 hx;simp [cX,js])) fun v w5 hv => ?_
     obtain ⟨yT,yv⟩:=hv;have hG:=hM.gr yv;replace hw:=hw.own D6 yv;replace hE:=hE.step yv;(replace aK:=aK.ay hG rfl;replace ax:=ax.ay hG rfl)
     have e5:jW (bj (bj s (aS (h.av.take k))) ((h.av[k].aw.take j).map cX)) (cX h.av[k].aw[j])=bj (bj s (aS (h.av.take k))) ((h.av[k].aw.take (j+1)).map cX):=by
      rw [List.take_succ_eq_append_getElem kW,List.map_append,br];rfl
     rw [e5] at yT;have nN:=yT.bad hN;generalize hp:h.av[k].aw[j]=p
     obtain ⟨y,hy⟩ : ∃ y,(if p<z0.To then (0:Int) else 1)=y:=⟨_,rfl⟩
     have cZ:∀ w',Ext w w'→bt Tryz.prog 97 [.agg (bm r).toArray,.int .i64 p] w' fun v _=>v = .int .i64 y:=fun w' hx=>by
      have:=AW r h r0 r1 z0 z1 p w' (hr.ext hx)
      rwa [hy] at this
     cases hs:bj (bj s (aS (h.av.take k))) ((h.av[k].aw.take (j+1)).map cX) with
     | none =>
       rw [hs] at nN;repeat' (first|refine Wz ?_|((apply CW.aP mixed;(· kernel_rfl);rotate_left;intro w1 ab;replace hw:=Ext.trans hw ab;replace aK:=aK.ext ab;replace ax:=ax.ext ab;replace yT:=yT.ext ab;replace hE:=hE.ext ab;clear ab;rotate_right))|refine SW.skip rfl rfl rfl rfl ?_|refine SW.st (ak rfl nN) rfl ?_|exact SW.bx rfl)
       exact ae.aO rfl rfl ⟨_,rfl,hw,hE.g,.inr ⟨rfl,fun hh=>by
        have:=hh.2
        rw [qJ qK (by omega) hs] at this;cases this⟩⟩
     | some bs =>
       rw [hs] at nN;by_cases hz:y=ls[k].aq
       ·repeat' (first|refine Wz ?_|((apply CW.aP mixed;(· kernel_rfl);rotate_left;intro w1 ab;replace hw:=Ext.trans hw ab;replace aK:=aK.ext ab;replace ax:=ax.ext ab;replace yT:=yT.ext ab;replace hE:=hE.ext ab;clear ab;rotate_right))|refine SW.want rfl rfl ?_|refine SW.st (ak rfl nN) rfl ?_|refine SW.bq rfl rfl (fun w1 ab=>(cZ _ (Ext.trans hw ab))) ?_|exact SW.bx rfl)
        refine ae.again (j+1) ⟨rfl,rfl,rfl,rfl,rfl,rfl,rfl,rfl,rfl,trivial⟩ (by omega) ⟨by omega,hw,hE,aK,ax,yT,fun i hi kX => ?_⟩;by_cases e:i=j
        ·subst e;rw [hp];split at hy<;>constructor<;>intro _<;>omega
        ·exact hZ i hi (by omega)
       ·repeat' (first|refine Wz ?_|((apply CW.aP mixed;(· kernel_rfl);rotate_left;intro w1 ab;replace hw:=Ext.trans hw ab;replace aK:=aK.ext ab;replace ax:=ax.ext ab;replace yT:=yT.ext ab;replace hE:=hE.ext ab;clear ab;rotate_right))|refine SW.want rfl rfl ?_|refine SW.st (ak rfl nN) rfl ?_|refine SW.bq rfl rfl (fun w1 ab=>(cZ _ (Ext.trans hw ab))) ?_|exact SW.bx rfl)
        exact ae.aO rfl rfl ⟨_,rfl,hw,hE.g,.inr ⟨rfl,fun hh=>by
         have:=hh.1.fC k qK p (by rw [← hp];exact List.getElem_mem _)
         split at hy<;>omega⟩⟩
    ·obtain rfl:j=ls[k].aw.n:=by omega
     rw [List.take_of_length_le (l:=h.av[k].aw) (by omega),← br,← kK _ _ qK] at hM;refine Wz ?_;refine ae.again (k+1) ⟨rfl,rfl,rfl,rfl,rfl,trivial⟩ (by omega) ⟨by omega,hw,hE,aK,hM,hP.snoc qK (by rwa [← CG]) KF fun p hp => ?_⟩;obtain ⟨i,hi,rfl⟩:=List.getElem_of_mem hp;exact hZ i hi (by omega)
  ·have ll : ¬ kJ h.bX z0.To h.av:=fun hh=>yn (by have:=hh.head k qK;rwa [← CG] at this)
   have KG : ¬ (((0≤ls[k].dU∧ls[k].dU<r.bX)∧(0≤ls[k].aq∧ls[k].aq≤1)∧(0≤ls[k].Ty∧ls[k].Ty≤2)∧(1≤ls[k].aw.n∧ls[k].aw.n≤8))):=fun hh=>yn (by unfold mS;omega)
   have gU:ls[k].dU<0∨(0≤ls[k].dU∧(r.bX≤ls[k].dU∨(ls[k].dU<r.bX∧(ls[k].aq<0∨(0≤ls[k].aq∧(1<ls[k].aq∨(ls[k].aq≤1∧(ls[k].Ty<0∨(0≤ls[k].Ty∧(3≤ls[k].Ty∨(ls[k].Ty<3∧(ls[k].aw.n=0∨(0<ls[k].aw.n∧8<ls[k].aw.n))))))))))))):=by omega
   rcases gU with d|⟨d1,d|⟨d2,d|⟨d3,d|⟨d4,d|⟨d5,d|⟨d6,d|⟨d7,d⟩⟩⟩⟩⟩⟩⟩
   repeat' (first|refine Wz ?_|((apply CW.aP mixed;(· kernel_rfl);rotate_left;intro w1 ab;replace hw:=Ext.trans hw ab;replace aK:=aK.ext ab;replace ax:=ax.ext ab;replace hM:=hM.ext ab;replace hE:=hE.ext ab;clear ab;rotate_right))|exact SW.bx rfl)
   all_goals exact ae.aO rfl rfl ⟨_,rfl,hw,hE.g,.inr ⟨rfl,fun hh=>ll hh.1⟩⟩
 ·obtain rfl:k=r.av.n:=by omega
  rw [List.take_of_length_le (l:=h.av) (by omega)] at hM;refine Wz ?_;exact ae.aO rfl rfl ⟨_,rfl,hw,hE.g,.inl ⟨rfl,hP.all (by omega),hM⟩⟩
open Go.RowKit
theorem qL {l:List Block}:∀ {s:Option (List Block)},(bj s l).isSome=true → ∀ b∈l,0≤b.At∧b.At+pw b.Order≤256:=by
 induction l with
 | nil=>intro s _ b hb;simp at hb
 | cons x l ih =>
   intro s h b hb;have h':(bj (jW s x) l).isSome=true:=h
   rcases List.mem_cons.1 hb with rfl|hb
   ·cases e:jW s b with
    | none=>rw [e,fp] at h';cases h'
    | some bs=>obtain ⟨cs,_,hf,_⟩:=lz e;exact ⟨hf.1,hf.2.1⟩
   ·exact ih h' b hb
def uQ (b:Block) : Prop:=(0≤b.Order∧b.Order≤4)∧0≤b.At∧b.At % pw b.Order=0∧fy b.Ty
structure sO (l:List Block) (k:Nat) : Prop where
 each:∀ (i:Nat) (h:i<l.length),i<k→uQ l[i]
 next:∀ (i:Nat) (h:i+1<l.length),i+1<k→l[i].At<l[i+1].At
theorem sO.nil (l:List Block) : sO l 0:=⟨fun i _ h=>by omega,fun i _ h=>by omega⟩
theorem sO.snoc {l:List Block} {k:Nat} (h:sO l k) (hk:k<l.length) (h1:uQ l[k]) (h2:∀ (h : 0<k),l[k-1].At<l[k].At) : sO l (k+1):=by
 refine ⟨fun i hi zW => ?_,fun i hi zW => ?_⟩
 ·by_cases e:i=k
  ·subst e;exact h1
  ·exact h.each i hi (by omega)
 ·by_cases e:i+1=k
  ·subst e;exact h2 (by omega)
  ·exact h.next i hi (by omega)
theorem sO.ok {l:List Block} {k:Nat} {s:Option (List Block)} (h:sO l k) (hk:l.length≤k) (hf:(bj s l).isSome=true) : mT l:=by
 refine ⟨fun i hi => ?_,fun i hi=>h.next i hi (by omega)⟩;obtain ⟨h1,h2,h3,h4⟩:=h.each i hi (by omega);have h5:=qL hf _ (List.getElem_mem hi);have h6:=bH h1.1 h1.2;exact ⟨h1,⟨h2,by omega⟩,h3,h4⟩
def uk (n:Int) : Bool:=decide (n<0) || decide (256<n)
theorem C7 (x:Int) (w:World) : bt Tryz.prog 61 ([.int .i64 x]++[]) w fun v _=>v = .bool (uk x):=by
 refine aM Tryz.func61 rfl Tryz.ntmps61 rfl ?_;have hw:=Ext.refl w;have gU:x<0∨(0≤x∧(256<x∨x≤256)):=by omega
 rcases gU with d|⟨d1,d|d⟩
 repeat' (first|refine Wz ?_|fail);all_goals exact ae.aO rfl rfl ⟨_,rfl,hw,by unfold uk;simp;omega⟩
end Go.Proofs.YtjimadiidbkohaaGreatDoor
