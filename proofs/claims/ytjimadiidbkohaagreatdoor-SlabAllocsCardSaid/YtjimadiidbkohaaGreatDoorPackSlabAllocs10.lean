/-
  Texts of the claim SlabAllocs, part 10: what its theorem leans on.
-/
import Derived.Test.YtjimadiidbkohaaGreatDoorPackSlabAllocs9
import Derived.Test.YtjimadiidbkohaaGreatDoorPackSlabAllocs8
import Derived.Test.YtjimadiidbkohaaGreatDoorPackSlabAllocs2
set_option linter.unusedVariables false
set_option linter.unusedSimpArgs false
namespace Go.Proofs.YtjimadiidbkohaaGreatDoor
open Go.RowKit
structure E2 (F:World→Prop) (w:World) : Prop where
 at_:F w
 all:∀ w w',Ext w w'→F w→F w'
theorem E2.ext {F:World→Prop} {w w':World} (h:E2 F w) (hx:Ext w w') : E2 F w':=⟨h.all _ _ hx h.at_,h.all⟩
theorem E2.to {F:World→Prop} {w w':World} (h:E2 F w) (hf:F w') : E2 F w':=⟨hf,h.all⟩
theorem ey.aV {α β:Type} {R : α → β → Prop} {xs:List α} {ys:List β} (h:ey R xs ys) {i:Nat} (hi:i≤xs.length) {x : α} {y : β} (hr:R x y) : ey R (aV xs i x) (aV ys i y):=by
 have hl:=h.len;refine ⟨by rw [dq _ hi,dq _ (by omega),hl],fun k h1 h2 => ?_⟩
 have kT:∀ {γ:Type} (zs:List γ) (z : γ) (k:Nat) (hk:k<(Proofs.YtjimadiidbkohaaGreatDoor.aV zs i z).length) (u : γ),(Proofs.YtjimadiidbkohaaGreatDoor.aV zs i z)[k]?=some u→(Proofs.YtjimadiidbkohaaGreatDoor.aV zs i z)[k]=u:=fun zs z k hk u hu=>by
  rw [List.getElem?_eq_getElem hk] at hu;exact Option.some.inj hu
 rw [dq _ hi] at h1;rcases Nat.lt_trichotomy k i with e|e|e
 ·rw [kT xs x k _ (xs[k]'(by omega)) (by rw [sx hi e,List.getElem?_eq_getElem]),kT ys y k _ (ys[k]'(by omega)) (by rw [sx (by omega) e,List.getElem?_eq_getElem])];exact h.get k (by omega) (by omega)
 ·subst e;rw [kT xs x k _ x (j5 hi),kT ys y k _ y (j5 (by omega))];exact hr
 ·obtain ⟨j,rfl⟩ : ∃ j,k=j+1:=⟨k-1,by omega⟩;rw [kT xs x (j+1) _ (xs[j]'(by omega)) (by rw [pa hi (by omega),List.getElem?_eq_getElem]),kT ys y (j+1) _ (ys[j]'(by omega)) (by rw [pa (by omega) (by omega),List.getElem?_eq_getElem])];exact h.get j (by omega) (by omega)
theorem ey.setAt {α β:Type} {R R' : α → β → Prop} {xs:List α} {ys:List β} (h:ey R xs ys) {i:Nat} {x : α} {y : β} (hr:R' x y) (ho:∀ (k:Nat) (h1:k<xs.length) (h2:k<ys.length),k≠i→R xs[k] ys[k]→R' xs[k] ys[k]) : ey R' (xs.set i x) (ys.set i y):=by
 refine ⟨by simp [h.len],fun k h1 h2 => ?_⟩;simp only [List.length_set] at h1 h2;rw [List.getElem_set,List.getElem_set];by_cases e:i=k
 ·rw [if_pos e,if_pos e];exact hr
 ·rw [if_neg e,if_neg e];exact ho k h1 h2 (fun h=>e h.symm) (h.get k h1 h2)
structure xc (n:Nat) (w:World) (lo:Nat) (F:World→Prop) (L:List aB) (x:aB) (p:Int) (Ji:fE) (AD:List bL) (L1:List aB) : Prop where
 own:cJ w lo Ji AD L1
 lt:a8 L x<L1.length
 pZ:L1.set (a8 L x) ⟨x.dL,x.aq,x.Ty,L1[a8 L x].aw++[p]⟩=jx L ⟨x.dL,x.aq,x.Ty,dA L x++[p]⟩
 key:df L1[a8 L x] x
 sep:∀ (j:Nat) (hk:a8 L x<AD.length) (hj:j<AD.length),j≠a8 L x → ∀ g,aT AD[a8 L x].aw.A AD[a8 L x].aw.c=some g→aT AD[j].aw.A AD[j].aw.c≠some g
 J7:∀ (hk:a8 L x<AD.length) (w w':World),w.grownBy w' (aT AD[a8 L x].aw.A AD[a8 L x].aw.c)→F w→F w'
 small:L1[a8 L x].aw.length≤1000
 size:n≤w.heap.size
theorem xc.ext {n:Nat} {w w':World} {lo:Nat} {F:World→Prop} {L:List aB} {x:aB} {p:Int} {Ji:fE} {AD:List bL} {L1:List aB} (h:xc n w lo F L x p Ji AD L1) (hx:Ext w w') : xc n w' lo F L x p Ji AD L1 :=
 ⟨h.own.ext hx,h.lt,h.pZ,h.key,h.sep,h.J7,h.small,Nat.le_trans h.size hx.size⟩
set_option maxHeartbeats 8000000 in
theorem Cz (Z m:fE) (cp:Int) (li lv:fE) (L:List aB) (ls:List bL) (x:aB) (y:bL) (p:Int) (F:World→Prop) (b1:Nat) (w w0:World) (hw:Ext w w0) (DA:w.heap.size≤b1) (aA:aJ w0 b1 27 (bm ⟨Z,m,cp,li,lv⟩)) (hl:cJ w0 w.heap.size li ls L) (hk:sy y x) (Jj:y.aw = .nil) (Jk:x.aw=[])
 (Gg:yh ls) (hs:rz L) (hn:(li.n+1)*48≤140737488355328) (CA:∀ l∈L,l.aw.length≤1000) (nU:E2 F w0) (Gh:∀ (w w':World) (row:Option Nat),w.grownBy w' row→(∀ k,row=some k→k=b1∨aT li.A li.c=some k∨w0.heap.size≤k)→F w→F w')
 (J8:∀ (i:Nat) (hi:i<ls.length) (w w':World),w.grownBy w' (aT ls[i].aw.A ls[i].aw.c)→F w→F w') :
 gL Tryz.prog 130 [.pointer (some ⟨b1,0,none⟩),.agg (bp y).toArray,.int .i64 p] w0 fun v w'=>Ext w w'∧F w' ∧ ∃ DB vo,aJ w' b1 27 (bm ⟨Z,m,cp,DB,lv⟩)∧cJ w' w.heap.size DB vo (jx L ⟨x.dL,x.aq,x.Ty,dA L x++[p]⟩)∧tX w0.heap.size li ls DB vo:=by
 refine dw Tryz.func130 rfl Tryz.ntmps130 rfl ?_;have MV:df x ⟨x.dL,x.aq,x.Ty,dA L x++[p]⟩:=⟨rfl,rfl,rfl⟩
 obtain ⟨LC,LD⟩:=jn (L:=L) MV;refine CW.seq (CW.region (SW.box rfl rfl fun b4 w1 aj ml bX => ?_));have mE:w.heap.size≤b4:=Nat.le_trans hw.size ml
 have H9:=hl.row.lt_size
 have Ia:∀ z∈ls,∀ g,ob z.aw=some g→g<w0.heap.size:=fun z hz g e=>by
  obtain ⟨j,hj,rfl⟩:=List.getElem_of_mem hz;exact (hl.each.get j hj (by rw [← hl.each.len];exact hj)).cr.lt_size g e
 (replace hw:=Ext.trans hw aj;replace aA:=aA.ext aj;replace hl:=hl.ext aj;replace nU:=nU.ext aj);obtain ⟨l1,l2⟩:=hl.rd.len;obtain ⟨q,hq⟩ : ∃ q,bT L x=q:=⟨_,rfl⟩
 have cL:∀ w',rY w' li ls L→bt Tryz.prog 128 [.agg (bm ⟨Z,m,cp,li,lv⟩).toArray,.agg (bp y).toArray] w' fun v _=>v = .tuple #[.int .i64 (a8 L x:Int),.bool q]:=fun w' h=>by
  have:=uB ⟨Z,m,cp,li,lv⟩ L ls x y w' h hk (by simp only;omega)
  rwa [hq] at this
 cases q
 ·have de:=fI L x;have J9:a8 L x≤ls.length:=by omega
  refine Wz ?_;(apply CW.aO mixed;(· kernel_rfl);rotate_left;intro w1 ab;replace hw:=Ext.trans hw ab;replace aA:=aA.ext ab;replace bX:=bX.ext ab;replace hl:=hl.ext ab;replace nU:=nU.ext ab;clear ab;rotate_right);repeat' (first|refine Wz ?_|(refine CW.bF rfl ?_)|refine SW.bq rfl rfl (fun w1 ab=>(cL _ (hl.rd.ext ab))) ?_|exact SW.bx rfl)
  clear cL;obtain ⟨yc,yz,yt,yp⟩:=y;simp only at Jj;subst Jj;refine SW.bB (i:=3) bX rfl rfl rfl rfl fun w3 qZ u5 => ?_
  replace hw:=hw.own mE u5;replace aA:=aA.ay (bX.gr u5) rfl;have MW:=Gh _ _ _ u5 (fun k e=>by cases e;exact .inr (.inr ml)) nU.at_;replace nU:=nU.to MW;replace hl:cJ w3 w.heap.size li ls L:=⟨hl.row.grown u5 (.inr (fun e=>by have:=H9 _ e;omega)),hl.each.mono fun _ _ h=>h.ay (bX.gr u5) rfl⟩;replace bX:aJ w3 b4 62 (bp ⟨yc,yz,yt,.nil⟩):=qZ;clear qZ;refine Wz ?_;have E3:=hl.row.sl.base;refine CW.iO 8 11 (fun _=>True) mixed (by kernel_rfl) fun w1 ab aG => ?_
  replace hw:=Ext.trans hw ab;replace aA:=aA.ext ab;replace bX:=bX.ext ab;replace hl:=hl.ext ab;replace nU:=nU.ext ab;clear ab;refine SF.dG 0 [] aG rfl (by kernel_rfl) (by kernel_rfl) (by kernel_rfl) (bc rfl) (fun w2 hS=>bc rfl) rfl ?_;refine SF.take 1 [4,3,2] [] aG rfl (by kernel_rfl) (by kernel_rfl) (by kernel_rfl) ?_;repeat (refine SW.pure rfl rfl ?_)
  refine SW.ah ?_;refine SF.take 2 [4,3] [] aG rfl (by kernel_rfl) (by kernel_rfl) (by kernel_rfl) ?_;repeat ((show SW _ _ _ _ (⟨_,Op.nilCheck _,_,_,_,none⟩::_) _ _;refine SW.st (aI rfl) rfl ?_))
  refine SW.ah ?_;refine SF.take 3 [4] [] aG rfl (by kernel_rfl) (by kernel_rfl) (by kernel_rfl) ?_;repeat ((show SW _ _ _ _ (⟨_,Op.fieldAddr _ _ _,_,_,_,none⟩::_) _ _;refine SW.st (aC rfl) rfl ?_))
  refine SW.ah ?_;refine SF.take 4 [] [] aG rfl (by kernel_rfl) (by kernel_rfl) (by kernel_rfl) ?_;repeat ((show SW _ _ _ _ (⟨_,Op.load _ _,_,_,_,none⟩::_) _ _;refine SW.st (ak rfl (aA.cell (i:=3) (v := .slice li.A li.n li.c) rfl)) rfl ?_))
  refine SW.ah ?_;refine SF.take 5 [] [] aG rfl (by kernel_rfl) (by kernel_rfl) (by kernel_rfl) ?_;repeat (refine SW.pure rfl rfl ?_)
  refine SW.ah ?_;refine SF.take 6 [7] [] aG rfl (by kernel_rfl) (by kernel_rfl) (by kernel_rfl) ?_;repeat ((show SW _ _ _ _ (⟨_,Op.load _ _,_,_,_,none⟩::_) _ _;refine SW.st (aX rfl rfl ((fun _ _=>bX.cell))) rfl ?_))
  refine SW.ah ?_;refine SF.one 7 rfl (by kernel_rfl) rfl ?_;refine SW.bJ rfl rfl rfl rfl rfl fun b w4 aj hb hB => ?_
  have xd:w0.heap.size≤w4.heap.size:=Nat.le_trans (Nat.le_of_lt (Nat.lt_of_le_of_lt ml bX.lt)) aj.size
  have mS:aT li.A li.c≠some b:=fun e=>by have:=hl.row.lt_size _ e;omega
  (replace hw:=Ext.trans hw aj;replace aA:=aA.ext aj;replace hl:=hl.ext aj;replace nU:=nU.ext aj);refine SW.nil (ae.sf aj ?_);refine SF.turn rfl (by kernel_rfl) rfl ?_;refine SW.cV rfl rfl (sC li.A li.n li.c w.heap.size ls _ hl.row (a8 L x) (by omega) ⟨yc,yz,yt,.nil⟩ b hB mS hn hw.size) fun v w5 hv => ?_
  obtain ⟨A2,c2,rfl,gx,hg,kN⟩:=hv;have hG:=hl.row.gr hg;have hS:True:=trivial
  replace hw:=aE hw hg (Nat.le_refl _) hl.row.aM;have Ib:=Gh _ _ _ hg (fun k e => .inr (.inl e)) nU.at_;replace nU:=nU.to Ib;replace aA:=aA.ay hG rfl;have AE:=(hl.each.mono fun _ _ h=>h.ay hG rfl).aV (i:=a8 L x) (x:=⟨yc,yz,yt,.nil⟩) (y:=⟨x.dL,x.aq,x.Ty,[]⟩) (by omega) ⟨hk.1,hk.2.1,hk.2.2,Own.eR _ _ _ _ _ _⟩;refine SW.nil (ae.sg hS ?_);refine SG.one 9 rfl (by kernel_rfl) rfl ?_;repeat ((show SW _ _ _ _ (⟨_,Op.nilCheck _,_,_,_,none⟩::_) _ _;refine SW.st (aI rfl) rfl ?_))
  refine SW.nil (ae.sg hS ?_);refine SG.one 10 rfl (by kernel_rfl) rfl ?_;repeat ((show SW _ _ _ _ (⟨_,Op.fieldAddr _ _ _,_,_,_,none⟩::_) _ _;refine SW.st (aC rfl) rfl ?_))
  refine SW.nil (ae.sg hS ?_);refine SG.last rfl (by kernel_rfl) (by kernel_rfl) ?_;refine SW.bB (i:=3) aA rfl rfl rfl rfl fun w6 pd wh => ?_
  have DC:=aA.gr wh;have Ka:w0.heap.size≤w6.heap.size:=Nat.le_trans xd (Nat.le_trans hg.size wh.size)
  have Ic:=kN;replace hw:=hw.own DA wh;have Ie:=Gh _ _ _ wh (fun k e=>by cases e;exact .inl rfl) nU.at_;replace nU:=nU.to Ie;replace gx:=gx.ay DC rfl;replace AE:=AE.mono fun _ _ h=>h.ay DC rfl
  replace aA:aJ w6 b1 27 (bm ⟨Z,m,cp,⟨A2,li.n+1,c2⟩,lv⟩):=pd;clear pd
  have kT:∀ h:a8 L x<(aV L (a8 L x) (⟨x.dL,x.aq,x.Ty,[]⟩ : aB)).length,(aV L (a8 L x) (⟨x.dL,x.aq,x.Ty,[]⟩ : aB))[a8 L x]=⟨x.dL,x.aq,x.Ty,[]⟩:=fun h=>by
   have:=j5 (x:=(⟨x.dL,x.aq,x.Ty,[]⟩ : aB)) de
   rw [List.getElem?_eq_getElem h] at this;exact Option.some.inj this
  have CB:∀ h:a8 L x<(aV ls (a8 L x) (⟨yc,yz,yt,.nil⟩ : bL)).length,(aV ls (a8 L x) (⟨yc,yz,yt,.nil⟩ : bL))[a8 L x]=⟨yc,yz,yt,.nil⟩:=fun h=>by
   have:=j5 (l:=ls) (i:=a8 L x) (x:=(⟨yc,yz,yt,.nil⟩ : bL)) (by omega)
   rw [List.getElem?_eq_getElem h] at this;exact Option.some.inj this
  have Eg:a8 L x<(aV L (a8 L x) (⟨x.dL,x.aq,x.Ty,[]⟩ : aB)).length:=by rw [dq _ de];omega
  have hR:xc w0.heap.size w6 w.heap.size F L x p ⟨A2,li.n+1,c2⟩ (aV ls (a8 L x) ⟨yc,yz,yt,.nil⟩) (aV L (a8 L x) ⟨x.dL,x.aq,x.Ty,[]⟩):=by
   refine ⟨⟨gx,AE⟩,Eg,?_,?_,fun j h1 h2 k7 g e => ?_,fun h1 w w' hg => ?_,?_,Ka⟩
   ·rw [kT Eg,pY de,ol (by rw [← LD];exact hq),← LC,lm hq]
   ·rw [kT Eg];exact ⟨rfl,rfl,rfl⟩
   ·rw [CB h1] at e;cases e
   ·rw [CB h1] at hg;exact nU.all _ _ (aE (Ext.refl w) hg (Nat.le_refl _) (fun k e=>by cases e))
   ·rw [kT Eg];simp
  clear AE gx hl bX;refine Wz ?_;have hA:=hR.own.row.sl.base;have bY:a8 L x<(li.n+1):=by have:=hR.own.rd.len;have:=hR.lt;omega
  have ns:a8 L x<((aV ls (a8 L x) (⟨yc,yz,yt,.nil⟩ : bL))).length:=by have:=hR.own.rd.len;have:=hR.lt;omega
  have c9:=hR.lt;have Gi:=hR.small;refine CW.iO 15 18 (fun w2=>aJ w2 b1 27 (bm ⟨Z,m,cp,⟨A2,li.n+1,c2⟩,lv⟩)) mixed (by kernel_rfl) fun w1 ab aG => ?_
  replace hw:=Ext.trans hw ab;replace aA:=aA.ext ab;replace hR:=hR.ext ab;replace nU:=nU.ext ab;clear ab;refine SF.dG 0 [] aG rfl (by kernel_rfl) (by kernel_rfl) (by kernel_rfl) (bc rfl) (fun w2 hS=>bc rfl) rfl ?_;refine SF.dG 1 [] aG rfl (by kernel_rfl) (by kernel_rfl) (by kernel_rfl) (aI rfl) (fun w2 hS=>aI rfl) rfl ?_;refine SF.dG 2 [] aG rfl (by kernel_rfl) (by kernel_rfl) (by kernel_rfl) (aC rfl) (fun w2 hS=>aC rfl) rfl ?_;refine SF.dG 3 [] aG rfl (by kernel_rfl) (by kernel_rfl) (by kernel_rfl) (ak rfl (aA.cell (i:=3) (v := .slice A2 (li.n+1) c2) rfl)) (fun w2 hS=>ak rfl (hS.cell (i:=3) (v := .slice A2 (li.n+1) c2) rfl)) rfl ?_;refine SF.dG 4 [] aG rfl (by kernel_rfl) (by kernel_rfl) (by kernel_rfl) (bc rfl) (fun w2 hS=>bc rfl) rfl ?_;refine SF.take 5 [12,11,10,8,7,6] [] aG rfl (by kernel_rfl) (by kernel_rfl) (by kernel_rfl) ?_;repeat (refine SW.pure rfl rfl ?_)
  refine SW.ah ?_;refine SF.take 6 [12,11,10,8,7] [] aG rfl (by kernel_rfl) (by kernel_rfl) (by kernel_rfl) ?_;repeat ((show SW _ _ _ _ (⟨_,Op.nilCheck _,_,_,_,none⟩::_) _ _;refine SW.st (aI rfl) rfl ?_))
  refine SW.ah ?_;refine SF.take 7 [12,11,10,8] [] aG rfl (by kernel_rfl) (by kernel_rfl) (by kernel_rfl) ?_;repeat ((show SW _ _ _ _ (⟨_,Op.fieldAddr _ _ _,_,_,_,none⟩::_) _ _;refine SW.st (aC rfl) rfl ?_))
  refine SW.ah ?_;refine SF.take 8 [12,11,10] [] aG rfl (by kernel_rfl) (by kernel_rfl) (by kernel_rfl) ?_;repeat ((show SW _ _ _ _ (⟨_,Op.load _ _,_,_,_,none⟩::_) _ _;refine SW.st (ak rfl (aA.cell (i:=3) (v := .slice A2 (li.n+1) c2) rfl)) rfl ?_))
  refine SW.ah ?_;refine SF.take 9 [12,11,10] [] aG rfl (by kernel_rfl) (by kernel_rfl) (by kernel_rfl) ?_;repeat (refine SW.pure rfl rfl ?_)
  refine SW.ah ?_;refine SF.take 10 [12,11] [] aG rfl (by kernel_rfl) (by kernel_rfl) (by kernel_rfl) ?_;repeat ((show SW _ _ _ _ (⟨_,Op.indexAddr _ _ _,_,_,_,none⟩::_) _ _;refine SW.st (bj rfl rfl (by assumption) (by omega)) rfl ?_))
  refine SW.ah ?_;refine SF.take 11 [12] [] aG rfl (by kernel_rfl) (by kernel_rfl) (by kernel_rfl) ?_;repeat ((show SW _ _ _ _ (⟨_,Op.fieldAddr _ _ _,_,_,_,none⟩::_) _ _;refine SW.st (aC rfl) rfl ?_))
  refine SW.ah ?_;refine SF.take 12 [] [] aG rfl (by kernel_rfl) (by kernel_rfl) (by kernel_rfl) ?_;repeat ((show SW _ _ _ _ (⟨_,Op.load _ _,_,_,_,none⟩::_) _ _;refine SW.st (ak rfl (hR.own.row.sl.dv bY (j:=3) (u := .slice ((aV ls (a8 L x) (⟨yc,yz,yt,.nil⟩ : bL)))[a8 L x].aw.A ((aV ls (a8 L x) (⟨yc,yz,yt,.nil⟩ : bL)))[a8 L x].aw.n ((aV ls (a8 L x) (⟨yc,yz,yt,.nil⟩ : bL)))[a8 L x].aw.c) rfl)) rfl ?_))
  refine SW.ah ?_;refine SF.take 13 [14] [] aG rfl (by kernel_rfl) (by kernel_rfl) (by kernel_rfl) ?_;repeat (refine SW.pure rfl rfl ?_)
  refine SW.ah ?_;refine SF.one 14 rfl (by kernel_rfl) rfl ?_;refine SW.bJ rfl rfl rfl rfl rfl fun b w4 aj hb hB => ?_
  (replace hw:=Ext.trans hw aj;replace aA:=aA.ext aj;replace hR:=hR.ext aj;replace nU:=nU.ext aj);have Gj:w0.heap.size≤w4.heap.size:=hR.size
  refine SW.nil (ae.sf aj ?_);refine SF.turn rfl (by kernel_rfl) rfl ?_;have Eh:=hR.own.each.get (a8 L x) ns c9;have zQ:=Eh.cr;have sB:=zQ.sl.len;refine SW.vx zQ (aJ.mb (enc:=bh) hB) hw.size (by decide) rfl rfl rfl (by omega) (by omega) fun A3 c3 w5 fT hg CC => ?_
  have hS:=aA.ay (zQ.gr hg) rfl;have dt:=hR.own.row.ay (zQ.gr hg) rfl;have Ib:=hR.J7 ns _ _ hg nU.at_;replace hw:=aE hw hg (Nat.le_refl _) zQ.aM;refine SW.nil (ae.sg hS ?_);refine SG.one 16 rfl (by kernel_rfl) rfl ?_;repeat ((show SW _ _ _ _ (⟨_,Op.indexAddr _ _ _,_,_,_,none⟩::_) _ _;refine SW.st (bj rfl rfl (by assumption) (by omega)) rfl ?_))
  refine SW.nil (ae.sg hS ?_);refine SG.one 17 rfl (by kernel_rfl) rfl ?_;repeat ((show SW _ _ _ _ (⟨_,Op.fieldAddr _ _ _,_,_,_,none⟩::_) _ _;refine SW.st (aC rfl) rfl ?_))
  refine SW.nil (ae.sg hS ?_);refine SG.last rfl (by kernel_rfl) (by kernel_rfl) ?_;refine SW.gH (a8 L x) 3 ⟨((aV ls (a8 L x) (⟨yc,yz,yt,.nil⟩ : bL)))[a8 L x].dL,((aV ls (a8 L x) (⟨yc,yz,yt,.nil⟩ : bL)))[a8 L x].aq,((aV ls (a8 L x) (⟨yc,yz,yt,.nil⟩ : bL)))[a8 L x].Ty,⟨A3,((aV ls (a8 L x) (⟨yc,yz,yt,.nil⟩ : bL)))[a8 L x].aw.n+1,c3⟩⟩ dt rfl rfl rfl bY (by decide) rfl rfl fun w6 fJ wh => ?_
  have DC:=dt.gr wh;have Ie:=Gh _ _ _ wh (fun k e=>by rcases kN k e with h|h;exact .inr (.inl h);exact .inr (.inr (Nat.le_trans xd h))) Ib;replace hw:=aE hw wh (Nat.le_refl _) dt.aM;refine Wz ?_;refine ae.x8 rfl ⟨_,rfl,hw,Ie,⟨A2,li.n+1,c2⟩,((aV ls (a8 L x) (⟨yc,yz,yt,.nil⟩ : bL))).set (a8 L x) ⟨((aV ls (a8 L x) (⟨yc,yz,yt,.nil⟩ : bL)))[a8 L x].dL,((aV ls (a8 L x) (⟨yc,yz,yt,.nil⟩ : bL)))[a8 L x].aq,((aV ls (a8 L x) (⟨yc,yz,yt,.nil⟩ : bL)))[a8 L x].Ty,⟨A3,((aV ls (a8 L x) (⟨yc,yz,yt,.nil⟩ : bL)))[a8 L x].aw.n+1,c3⟩⟩,hS.ay (b:=b1) (t':=27) DC rfl,?_⟩
  have Kb:tX w0.heap.size li ls ⟨A2,li.n+1,c2⟩ ((aV ls (a8 L x) (⟨yc,yz,yt,.nil⟩ : bL)).set (a8 L x) ⟨((aV ls (a8 L x) (⟨yc,yz,yt,.nil⟩ : bL)))[a8 L x].dL,((aV ls (a8 L x) (⟨yc,yz,yt,.nil⟩ : bL)))[a8 L x].aq,((aV ls (a8 L x) (⟨yc,yz,yt,.nil⟩ : bL)))[a8 L x].Ty,⟨A3,((aV ls (a8 L x) (⟨yc,yz,yt,.nil⟩ : bL)))[a8 L x].aw.n+1,c3⟩⟩):=by
   rw [pY J9];refine tX.ins Gg Ia (fun g e => ?_) (fun k e=>(Ic k e).imp id (fun h=>Nat.le_trans xd h));rcases CC g e with h|h
   ·rw [CB ns] at h;cases h
   ·exact Nat.le_trans Gj h
  refine ⟨?_,Kb⟩;rw [← hR.pZ];refine ⟨fJ,ey.setAt (R:=kr _ w.heap.size) hR.own.each ⟨Eh.cpu.trans hR.key.1,Eh.fp.trans hR.key.2.1,Eh.ty.trans hR.key.2.2,fT.ay DC rfl⟩ fun j h1 h2 k7 ho=>⟨ho.cpu,ho.fp,ho.ty,?_⟩⟩;refine (ho.cr.grown hg ?_).ay DC rfl;cases eo:aT ((aV ls (a8 L x) (⟨yc,yz,yt,.nil⟩ : bL)))[j].aw.A ((aV ls (a8 L x) (⟨yc,yz,yt,.nil⟩ : bL)))[j].aw.c with
  | none=>exact .inl rfl
  | some g =>
    right;intro e;exact hR.sep j ns h1 k7 g e.symm eo
 ·obtain ⟨de,lT⟩:=je hq;refine Wz ?_;(apply CW.aO mixed;(· kernel_rfl);rotate_left;intro w1 ab;replace hw:=Ext.trans hw ab;replace aA:=aA.ext ab;replace bX:=bX.ext ab;replace hl:=hl.ext ab;replace nU:=nU.ext ab;clear ab;rotate_right);repeat' (first|refine Wz ?_|(refine CW.bA rfl ?_)|refine SW.bq rfl rfl (fun w1 ab=>(cL _ (hl.rd.ext ab))) ?_|exact SW.bx rfl)
  clear cL;have xd:=Nat.le_trans ml (Nat.le_of_lt bX.lt);have hR:=(⟨hl,de,by rw [oh (by rw [← LD];exact hq),← LC,iS hq de],lT,fun j h1 h2 k7 g e=>Gg _ _ h1 h2 (Ne.symm k7) g e,fun h1 w w' hg=>J8 _ h1 w w' hg,CA _ (List.getElem_mem de),xd⟩ : xc w0.heap.size _ w.heap.size F L x p li ls L);clear hl;have hA:=hR.own.row.sl.base;have bY:a8 L x<li.n:=by have:=hR.own.rd.len;have:=hR.lt;omega
  have ns:a8 L x<(ls).length:=by have:=hR.own.rd.len;have:=hR.lt;omega
  have c9:=hR.lt;have Gi:=hR.small;refine CW.iO 15 18 (fun w2=>aJ w2 b1 27 (bm ⟨Z,m,cp,li,lv⟩)) mixed (by kernel_rfl) fun w1 ab aG => ?_
  replace hw:=Ext.trans hw ab;replace aA:=aA.ext ab;replace hR:=hR.ext ab;replace nU:=nU.ext ab;clear ab;refine SF.dG 0 [] aG rfl (by kernel_rfl) (by kernel_rfl) (by kernel_rfl) (bc rfl) (fun w2 hS=>bc rfl) rfl ?_;refine SF.dG 1 [] aG rfl (by kernel_rfl) (by kernel_rfl) (by kernel_rfl) (aI rfl) (fun w2 hS=>aI rfl) rfl ?_;refine SF.dG 2 [] aG rfl (by kernel_rfl) (by kernel_rfl) (by kernel_rfl) (aC rfl) (fun w2 hS=>aC rfl) rfl ?_;refine SF.dG 3 [] aG rfl (by kernel_rfl) (by kernel_rfl) (by kernel_rfl) (ak rfl (aA.cell (i:=3) (v := .slice li.A li.n li.c) rfl)) (fun w2 hS=>ak rfl (hS.cell (i:=3) (v := .slice li.A li.n li.c) rfl)) rfl ?_;refine SF.dG 4 [] aG rfl (by kernel_rfl) (by kernel_rfl) (by kernel_rfl) (bc rfl) (fun w2 hS=>bc rfl) rfl ?_;refine SF.take 5 [12,11,10,8,7,6] [] aG rfl (by kernel_rfl) (by kernel_rfl) (by kernel_rfl) ?_;repeat (refine SW.pure rfl rfl ?_)
  refine SW.ah ?_;refine SF.take 6 [12,11,10,8,7] [] aG rfl (by kernel_rfl) (by kernel_rfl) (by kernel_rfl) ?_;repeat ((show SW _ _ _ _ (⟨_,Op.nilCheck _,_,_,_,none⟩::_) _ _;refine SW.st (aI rfl) rfl ?_))
  refine SW.ah ?_;refine SF.take 7 [12,11,10,8] [] aG rfl (by kernel_rfl) (by kernel_rfl) (by kernel_rfl) ?_;repeat ((show SW _ _ _ _ (⟨_,Op.fieldAddr _ _ _,_,_,_,none⟩::_) _ _;refine SW.st (aC rfl) rfl ?_))
  refine SW.ah ?_;refine SF.take 8 [12,11,10] [] aG rfl (by kernel_rfl) (by kernel_rfl) (by kernel_rfl) ?_;repeat ((show SW _ _ _ _ (⟨_,Op.load _ _,_,_,_,none⟩::_) _ _;refine SW.st (ak rfl (aA.cell (i:=3) (v := .slice li.A li.n li.c) rfl)) rfl ?_))
  refine SW.ah ?_;refine SF.take 9 [12,11,10] [] aG rfl (by kernel_rfl) (by kernel_rfl) (by kernel_rfl) ?_;repeat (refine SW.pure rfl rfl ?_)
  refine SW.ah ?_;refine SF.take 10 [12,11] [] aG rfl (by kernel_rfl) (by kernel_rfl) (by kernel_rfl) ?_;repeat ((show SW _ _ _ _ (⟨_,Op.indexAddr _ _ _,_,_,_,none⟩::_) _ _;refine SW.st (bj rfl rfl (by assumption) (by omega)) rfl ?_))
  refine SW.ah ?_;refine SF.take 11 [12] [] aG rfl (by kernel_rfl) (by kernel_rfl) (by kernel_rfl) ?_;repeat ((show SW _ _ _ _ (⟨_,Op.fieldAddr _ _ _,_,_,_,none⟩::_) _ _;refine SW.st (aC rfl) rfl ?_))
  refine SW.ah ?_;refine SF.take 12 [] [] aG rfl (by kernel_rfl) (by kernel_rfl) (by kernel_rfl) ?_;repeat ((show SW _ _ _ _ (⟨_,Op.load _ _,_,_,_,none⟩::_) _ _;refine SW.st (ak rfl (hR.own.row.sl.dv bY (j:=3) (u := .slice (ls)[a8 L x].aw.A (ls)[a8 L x].aw.n (ls)[a8 L x].aw.c) rfl)) rfl ?_))
  refine SW.ah ?_;refine SF.take 13 [14] [] aG rfl (by kernel_rfl) (by kernel_rfl) (by kernel_rfl) ?_;repeat (refine SW.pure rfl rfl ?_)
  refine SW.ah ?_;refine SF.one 14 rfl (by kernel_rfl) rfl ?_;refine SW.bJ rfl rfl rfl rfl rfl fun b w4 aj hb hB => ?_
  (replace hw:=Ext.trans hw aj;replace aA:=aA.ext aj;replace hR:=hR.ext aj;replace nU:=nU.ext aj);have Gj:w0.heap.size≤w4.heap.size:=hR.size
  refine SW.nil (ae.sf aj ?_);refine SF.turn rfl (by kernel_rfl) rfl ?_;have Eh:=hR.own.each.get (a8 L x) ns c9;have zQ:=Eh.cr;have sB:=zQ.sl.len;refine SW.vx zQ (aJ.mb (enc:=bh) hB) hw.size (by decide) rfl rfl rfl (by omega) (by omega) fun A3 c3 w5 fT hg CC => ?_
  have hS:=aA.ay (zQ.gr hg) rfl;have dt:=hR.own.row.ay (zQ.gr hg) rfl;have Ib:=hR.J7 ns _ _ hg nU.at_;replace hw:=aE hw hg (Nat.le_refl _) zQ.aM;refine SW.nil (ae.sg hS ?_);refine SG.one 16 rfl (by kernel_rfl) rfl ?_;repeat ((show SW _ _ _ _ (⟨_,Op.indexAddr _ _ _,_,_,_,none⟩::_) _ _;refine SW.st (bj rfl rfl (by assumption) (by omega)) rfl ?_))
  refine SW.nil (ae.sg hS ?_);refine SG.one 17 rfl (by kernel_rfl) rfl ?_;repeat ((show SW _ _ _ _ (⟨_,Op.fieldAddr _ _ _,_,_,_,none⟩::_) _ _;refine SW.st (aC rfl) rfl ?_))
  refine SW.nil (ae.sg hS ?_);refine SG.last rfl (by kernel_rfl) (by kernel_rfl) ?_;refine SW.gH (a8 L x) 3 ⟨(ls)[a8 L x].dL,(ls)[a8 L x].aq,(ls)[a8 L x].Ty,⟨A3,(ls)[a8 L x].aw.n+1,c3⟩⟩ dt rfl rfl rfl bY (by decide) rfl rfl fun w6 fJ wh => ?_
  have DC:=dt.gr wh;have Ie:=Gh _ _ _ wh (fun k e => .inr (.inl e)) Ib;replace hw:=aE hw wh (Nat.le_refl _) dt.aM;refine Wz ?_;refine ae.x8 rfl ⟨_,rfl,hw,Ie,li,(ls).set (a8 L x) ⟨(ls)[a8 L x].dL,(ls)[a8 L x].aq,(ls)[a8 L x].Ty,⟨A3,(ls)[a8 L x].aw.n+1,c3⟩⟩,hS.ay (b:=b1) (t':=27) DC rfl,?_⟩
  have Kb:tX w0.heap.size li ls li ((ls).set (a8 L x) ⟨(ls)[a8 L x].dL,(ls)[a8 L x].aq,(ls)[a8 L x].Ty,⟨A3,(ls)[a8 L x].aw.n+1,c3⟩⟩):=by
   refine tX.pZ Gg Ia ns (fun g e => ?_);rcases CC g e with h|h
   ·exact .inl h
   ·exact .inr (Nat.le_trans Gj h)
  refine ⟨?_,Kb⟩;rw [← hR.pZ];refine ⟨fJ,ey.setAt (R:=kr _ w.heap.size) hR.own.each ⟨Eh.cpu.trans hR.key.1,Eh.fp.trans hR.key.2.1,Eh.ty.trans hR.key.2.2,fT.ay DC rfl⟩ fun j h1 h2 k7 ho=>⟨ho.cpu,ho.fp,ho.ty,?_⟩⟩;refine (ho.cr.grown hg ?_).ay DC rfl;cases eo:aT (ls)[j].aw.A (ls)[j].aw.c with
  | none=>exact .inl rfl
  | some g =>
    right;intro e;exact hR.sep j ns h1 k7 g e.symm eo
open Go.RowKit
theorem p7 {a b:fE} (h:apart a b∨apart b a) : aT b.A b.c=none∨aT b.A b.c≠aT a.A a.c:=by
 cases e:aT b.A b.c with
 | none=>exact .inl rfl
 | some g =>
   right;intro e2;rcases h with h|h
   ·exact h g e2.symm e
   ·exact h g e e2.symm
structure fw (w:World) (lo hi:Nat) (r:ez) (h:Heap) : Prop where
 dU:r.bW=h.bW
 cj:Own w lo 3 1 bh r.bH.A r.bH.n r.bH.c h.bH
 live:Own w lo 77 3 az r.Live.A r.Live.n r.Live.c h.Live
 parts:∃ zs ls,fU w lo r.aQ zs h.aQ∧cJ w lo r.av ls h.av∧(∀ g,aT r.bH.A r.bH.c=some g→g<hi)∧(∀ u∈zs,∀ g,aT u.Types.A u.Types.c=some g→g<hi)∧(∀ u∈ls,∀ g,aT u.aw.A u.aw.c=some g→g<hi)
section
variable {w w':World} {lo hi t g:Nat} {r:ez} {h:Heap}
theorem iH.lU (a:iH w lo r h) : fw w lo w.heap.size r h:=by
 obtain ⟨zs,hz⟩:=a.cK;obtain ⟨ls,hl⟩:=a.lists;refine ⟨a.dU,a.cj,a.live,zs,ls,hz,hl,a.cj.lt_size,fun u hu g e => ?_,fun u hu g e => ?_⟩
 ·obtain ⟨j,hj,rfl⟩:=List.getElem_of_mem hu;exact (hz.each.get j hj (by rw [← hz.each.len];exact hj)).types.lt_size g e
 ·obtain ⟨j,hj,rfl⟩:=List.getElem_of_mem hu;exact (hl.each.get j hj (by rw [← hl.each.len];exact hj)).cr.lt_size g e
theorem fw.own (a:fw w lo hi r h) : iH w lo r h:=by
 obtain ⟨zs,ls,hz,hl,_⟩:=a.parts;exact ⟨a.dU,a.cj,a.live,⟨zs,hz⟩,⟨ls,hl⟩⟩
theorem fw.ext (a:fw w lo hi r h) (hx:Ext w w') : fw w' lo hi r h:=by
 obtain ⟨zs,ls,hz,hl,hb⟩:=a.parts;exact ⟨a.dU,a.cj.ext hx,a.live.ext hx,zs,ls,hz.ext hx,hl.ext hx,hb⟩
theorem fw.ay (a:fw w lo hi r h) (hG:n9 w w' t) (cG:(Nat.beq t 3 || (Nat.beq t 77 || (Nat.beq t 59 || Nat.beq t 62)))=false) : fw w' lo hi r h:=by
 obtain ⟨zs,ls,hz,hl,hb⟩:=a.parts;simp only [Bool.or_eq_false_iff] at cG;obtain ⟨h1,h2,h3,h4⟩:=cG;exact ⟨a.dU,a.cj.ay hG h1,a.live.ay hG h2,zs,ls,hz.ay hG (by simp [h1,h2,h3]),hl.ay hG (by simp [h1,h4]),hb⟩
theorem fw.CD (a:fw w lo hi r h) (hg:w.grownBy w' (some g)) (hG:n9 w w' 3) (hb:g<lo∨hi≤g) : fw w' lo hi r h:=by
 obtain ⟨zs,ls,hz,hl,b1,b2,b3⟩:=a.parts;have key:∀ k,lo≤k→k<hi→(some g:Option Nat)≠some k:=fun k h1 h2 e=>by cases e;omega
 refine ⟨a.dU,a.cj.apart hg fun k e=>key k (a.cj.aM k e) (b1 k e),a.live.ay hG rfl,zs,ls,⟨hz.row.ay hG rfl,⟨hz.each.len,fun j h1 h2 => ?_⟩⟩,⟨hl.row.ay hG rfl,⟨hl.each.len,fun j h1 h2 => ?_⟩⟩,b1,b2,b3⟩
 ·have hj:=hz.each.get j h1 h2;exact ⟨hj.from_,hj.jZ,hj.free.ay hG rfl,hj.types.apart hg fun k e=>key k (hj.types.aM k e) (b2 _ (List.getElem_mem h1) k e)⟩
 ·have hj:=hl.each.get j h1 h2;exact ⟨hj.cpu,hj.fp,hj.ty,hj.cr.apart hg fun k e=>key k (hj.cr.aM k e) (b3 _ (List.getElem_mem h1) k e)⟩
end
structure nH (w:World) (lo:Nat) (r:dV) (s:aF) (zJ cs:List dn) : Prop where
 words:Own w lo 3 1 bh r.Words.A r.Words.n r.Words.c s.Words
 heap:iH w lo r.Heap s.Heap
 row:Own w lo 46 6 db r.aa.A r.aa.n r.aa.c zJ
 each:ey (mr w lo) cs s.aa
 pair:cs.Pairwise jw
abbrev SX (w:World) (lo:Nat) (r:dV) (s:aF) (cs:List dn) : Prop:=nH w lo r s cs cs
structure SI (w:World) (lo:Nat) (r:dV) (s:aF) (cs:List dn) : Prop where
 ints:∃ m1 m2,lo≤m1∧m1≤m2∧(∀ g,aT r.Words.A r.Words.c=some g→g<m1)∧fw w m1 m2 r.Heap s.Heap∧ey (mr w m2) cs s.aa
theorem sE {cs:List dn} (h:cs.Pairwise jw) {i:Nat} {u:dn} (hu:∀ (j:Nat) (hj:j<cs.length),j≠i→jw u cs[j]∧jw cs[j] u) : (cs.set i u).Pairwise jw:=by
 rw [List.pairwise_iff_getElem] at h ⊢;intro a b ha hb G8;rw [List.length_set] at ha hb;rw [List.getElem_set,List.getElem_set];split
 ·split
  ·omega
  ·exact (hu b hb (by omega)).1
 ·split
  ·exact (hu a ha (by omega)).2
  ·exact h a b ha hb G8
theorem dO {a b:fE} (h:apart a b) : apart b a:=fun k h1 h2=>h k h2 h1
theorem jw.symm {u v:dn} (h:jw u v) : jw v u:=⟨dO h.names,dO h.aR,dO h.a9⟩
theorem lp {cs:List dn} (h:cs.Pairwise jw) {i j:Nat} (hi:i<cs.length) (hj:j<cs.length) (kP:j≠i) : jw cs[i] cs[j]:=by
 have hp:=List.pairwise_iff_getElem.1 h;rcases Nat.lt_or_ge i j with g|g
 ·exact hp i j hi hj g
 ·exact (hp j i hj hi (by omega)).symm
section
variable {w w':World} {lo t:Nat} {r:dV} {s:aF} {zJ cs:List dn}
theorem nH.ext (h:nH w lo r s zJ cs) (hx:Ext w w') : nH w' lo r s zJ cs:=⟨h.words.ext hx,h.heap.ext hx,h.row.ext hx,h.each.mono fun _ _ h=>h.ext hx,h.pair⟩
theorem nH.low {nj:Nat} (h:nH w lo r s zJ cs) (hl:nj≤lo) : nH w nj r s zJ cs:=⟨h.words.low hl,h.heap.low hl,h.row.low hl,h.each.mono fun _ _ h=>h.low hl,h.pair⟩
theorem nH.ay (h:nH w lo r s zJ cs) (hG:n9 w w' t) (cG:(Nat.beq t 46 || (Nat.beq t 9 || (Nat.beq t 48 || (Nat.beq t 3 || (Nat.beq t 77 || (Nat.beq t 59 || Nat.beq t 62))))))=false) : nH w' lo r s zJ cs:=by
 simp only [Bool.or_eq_false_iff] at cG;obtain ⟨h1,h2,h3,h4,h5,h6,h7⟩:=cG;exact ⟨h.words.ay hG h4,h.heap.ay hG (by simp [h4,h5,h6,h7]),h.row.ay hG h1,h.each.mono fun _ _ h=>h.ay hG (by simp [h2,h3,h4]),h.pair⟩
theorem nH.len (h:SX w lo r s cs) : cs.length=r.aa.n∧s.aa.length=r.aa.n:=⟨h.row.len,by rw [← h.each.len,h.row.len]⟩
theorem nH.AF (h:SX w lo r s cs) : tU w lo r s:=⟨h.words,h.heap,⟨cs,h.row,h.each⟩⟩
theorem SI.ext (h:SI w lo r s cs) (hx:Ext w w') : SI w' lo r s cs:=by
 obtain ⟨m1,m2,h1,h2,h3,h4,h5⟩:=h.ints;exact ⟨m1,m2,h1,h2,h3,h4.ext hx,h5.mono fun _ _ h=>h.ext hx⟩
theorem SI.low {nj:Nat} (h:SI w lo r s cs) (hl:nj≤lo) : SI w nj r s cs:=by
 obtain ⟨m1,m2,h1,h2,h3,h4,h5⟩:=h.ints;exact ⟨m1,m2,Nat.le_trans hl h1,h2,h3,h4,h5⟩
theorem SI.ay (h:SI w lo r s cs) (hG:n9 w w' t) (cG:(Nat.beq t 9 || (Nat.beq t 48 || (Nat.beq t 3 || (Nat.beq t 77 || (Nat.beq t 59 || Nat.beq t 62)))))=false) : SI w' lo r s cs:=by
 simp only [Bool.or_eq_false_iff] at cG;obtain ⟨h2,h3,h4,h5,h6,h7⟩:=cG;obtain ⟨m1,m2,g1,g2,g3,g4,g5⟩:=h.ints;exact ⟨m1,m2,g1,g2,g3,g4.ay hG (by simp [h4,h5,h6,h7]),g5.mono fun _ _ h=>h.ay hG (by simp [h2,h3,h4])⟩
theorem nH.aR {i n':Nat} {l':List Slab} (h:SX w lo r s cs) (hi:i<cs.length) (pL:i<s.aa.length) (hO:Own w' lo 48 3 aZ cs[i].ai.A n' cs[i].ai.c l') (hg:w.grownBy w' (aT cs[i].ai.A cs[i].ai.c)) :
 nH w' lo r ⟨s.Words,s.Heap,s.aa.set i ⟨s.aa[i].Names,s.aa[i].bf,s.aa[i].ck,s.aa[i].Order,l',s.aa[i].au⟩⟩ cs (cs.set i ⟨cs[i].Names,cs[i].bf,cs[i].ck,cs[i].Order,⟨cs[i].ai.A,n',cs[i].ai.c⟩,cs[i].au⟩):=by
 have hc:=h.each.get i hi pL;have hG:=hc.aR.gr hg;refine ⟨h.words.ay hG rfl,h.heap.ay hG rfl,h.row.ay hG rfl,?_,?_⟩
 ·exact ey.setAt h.each ⟨hc.size,hc.jd,hc.order,hc.names.ay hG rfl,hO,hc.a9.ay hG rfl⟩ fun j h1 h2 iI ho=>⟨ho.size,ho.jd,ho.order,ho.names.ay hG rfl,ho.aR.grown hg (p7 (.inl (lp h.pair hi h1 iI).aR)),ho.a9.ay hG rfl⟩
 ·refine sE h.pair fun j hj iI => ?_
  have hp:=lp h.pair hi hj iI;exact ⟨⟨hp.names,hp.aR,hp.a9⟩,⟨dO hp.names,dO hp.aR,dO hp.a9⟩⟩
theorem nH.CE {i n' c':Nat} {A':Option Addr} {l':List Slab} (h:SX w lo r s cs) (fC:lo≤w.heap.size) (hi:i<cs.length) (pL:i<s.aa.length) (hx:Ext w w') (hO:Own w' w.heap.size 48 3 aZ A' n' c' l') :
 nH w' lo r ⟨s.Words,s.Heap,s.aa.set i ⟨s.aa[i].Names,s.aa[i].bf,s.aa[i].ck,s.aa[i].Order,l',s.aa[i].au⟩⟩ cs (cs.set i ⟨cs[i].Names,cs[i].bf,cs[i].ck,cs[i].Order,⟨A',n',c'⟩,cs[i].au⟩):=by
 have hc:=(h.each.get i hi pL).ext hx;refine ⟨h.words.ext hx,h.heap.ext hx,h.row.ext hx,?_,?_⟩
 ·exact ey.setAt h.each ⟨hc.size,hc.jd,hc.order,hc.names,hO.low fC,hc.a9⟩ fun j h1 h2 iI ho=>ho.ext hx
 ·refine sE h.pair fun j hj iI => ?_
  have hp:=lp h.pair hi hj iI;have ha:apart cs[j].ai ⟨A',n',c'⟩:=jT (h.each.get j hj (by rw [← h.each.len];exact hj)).aR hO.aM
  exact ⟨⟨hp.names,dO ha,hp.a9⟩,⟨dO hp.names,ha,dO hp.a9⟩⟩
theorem nH.p9 {i:Nat} {u:dn} (h:nH w lo r s zJ (zJ.set i u)) (hO:Own w' lo 46 6 db r.aa.A r.aa.n r.aa.c (zJ.set i u)) (hg:w.grownBy w' (aT r.aa.A r.aa.c)) : SX w' lo r s (zJ.set i u):=by
 have hG:=h.row.gr hg;exact ⟨h.words.ay hG rfl,h.heap.ay hG rfl,hO,h.each.mono fun _ _ h=>h.ay hG rfl,h.pair⟩
end
open Go.RowKit
structure GB (w w':World) (b:Nat) : Prop where
 g:w.grownBy w' (some b)
theorem GB.refl (w:World) (b:Nat) : GB w w b:=⟨World.grownBy.refl _ _⟩
theorem GB.ext {w w1 w2:World} {b:Nat} (h:GB w w1 b) (hx:Ext w1 w2) : GB w w2 b:=⟨bO h.g (hx.gr (some b)) (.inl rfl)⟩
theorem GB.step {w w1 w2:World} {b:Nat} (h:GB w w1 b) (hg:w1.grownBy w2 (some b)) : GB w w2 b:=⟨bO h.g hg (.inl rfl)⟩
theorem AG (b:Nat) (s:Option (List Block)) (p:Int) (N:Nat) (hN:N=256) (w:World) (hM:Marks w b N s) (hs:mJ s) :
 gL Tryz.prog 62 [.pointer (some ⟨b,0,none⟩),.int .i64 p,.int .i64 1] w fun v w'=>Marks w' b N (jJ s (cX p))∧w.grownBy w' (some b):=by
 have h:=pV b s (cX p) N hN w hM hs (by simp [cX,jK]);simp only [cX,jK] at h ⊢;exact h
def CF (w wE:World) (b N:Nat) (s:Option (List Block)) (h:Heap) (to:Int) (v:Value) (w':World) : Prop :=
 Ext w w'∧wE.grownBy w' (some b)∧((v = .bool true∧kB h.bW to h.av∧Marks w' b N (bi s (aS h.av)))∨(v = .bool false ∧ ¬ (kB h.bW to h.av∧(bi s (aS h.av)).isSome=true)))
structure vy (dU to:Int) (ls:List aB) (k:Nat) : Prop where
 head:∀ (i:Nat) (h:i<ls.length),i<k→mK dU ls[i]
 next:∀ (i:Nat) (h:i+1<ls.length),i+1<k→bz ls[i] ls[i+1]
 fp:∀ (i:Nat) (h:i<ls.length),i<k → ∀ p∈(ls[i]).aw,(p<to↔(ls[i]).aq=0)
theorem vy.nil (dU to:Int) (ls:List aB) : vy dU to ls 0:=⟨fun i _ h=>by omega,fun i _ h=>by omega,fun i _ h=>by omega⟩
theorem vy.all {dU to:Int} {ls:List aB} {k:Nat} (h:vy dU to ls k) (hk:ls.length≤k) : kB dU to ls:=⟨fun i hi=>h.head i hi (by omega),fun i hi=>h.next i hi (by omega),fun i hi=>h.fp i hi (by omega)⟩
theorem vy.snoc {dU to:Int} {ls:List aB} {k:Nat} (h:vy dU to ls k) (hk:k<ls.length) (h1:mK dU ls[k]) (h2:∀ (h : 0<k),bz ls[k-1] ls[k]) (h3:∀ p∈(ls[k]).aw,(p<to↔(ls[k]).aq=0)) : vy dU to ls (k+1):=by
 refine ⟨fun i hi zv => ?_,fun i hi zv => ?_,fun i hi zv => ?_⟩
 ·by_cases e:i=k
  ·subst e;exact h1
  ·exact h.head i hi (by omega)
 ·by_cases e:i+1=k
  ·subst e;exact h2 (by omega)
  ·exact h.next i hi (by omega)
 ·by_cases e:i=k
  ·subst e;exact h3
  ·exact h.fp i hi (by omega)
theorem qz {s:Option (List Block)} {ls:List aB} {k j:Nat} (hk:k<ls.length) (hj:j≤(ls[k]).aw.length) (h:bi (bi s (aS (ls.take k))) (((ls[k]).aw.take j).map cX)=none) : bi s (aS ls)=none:=by
 rw [← br] at h
 have e:aS ls=(aS (ls.take k)++((ls[k]).aw.take j).map cX)++(((ls[k]).aw.drop j).map cX++aS (ls.drop (k+1))):=by
  have e1:ls=ls.take (k+1)++ls.drop (k+1):=by simp
  have e2:((ls[k]).aw.take j).map cX++((ls[k]).aw.drop j).map cX=(ls[k]).aw.map cX:=by rw [← List.map_append,List.take_append_drop]
  have e3:aS ls=aS (ls.take (k+1))++aS (ls.drop (k+1)):=by unfold aS;rw [← List.flatMap_append,← e1]
  rw [e3,kC _ _ hk,← e2];simp only [List.append_assoc]
 rw [e,br,h,fc]
set_option maxHeartbeats 8000000 in
theorem AH (r:ez) (h:Heap) (r0 r1:cq) (z0 z1:aq) (b N:Nat) (hN:N=256) (s:Option (List Block)) (w wE:World) (hw:Ext w wE) (DA:w.heap.size≤b) (hr:tV w r h r0 r1 z0 z1) (hM:Marks wE b N s) (MX:mJ s) (Gi:r.av.n≤1000000000000000000) :
 gL Tryz.prog 63 [.agg (bm r).toArray,.pointer (some ⟨b,0,none⟩)] wE (CF w wE b N s h z0.To):=by
 refine dw Tryz.func63 rfl Tryz.ntmps63 rfl ?_;have hE:=GB.refl wE b;refine CW.seq (CW.region (SW.box rfl rfl fun b2 w2 cw gQ aK => ?_));(replace hw:=Ext.trans hw cw;replace hM:=hM.ext cw;replace hE:=hE.ext cw);obtain ⟨ls,hl⟩:=hr.rd.lists;have Cf:=hr.rd.dU;obtain ⟨wy,LF⟩:=hl.len;have hA:=hl.row.base;refine Wz ?_
 refine CW.loop (fun k:Nat=>[(1,.pointer (some ⟨b,0,none⟩)),(2,.pointer (some ⟨b2,0,none⟩)),(10,.slice r.av.A r.av.n r.av.c),(11,.int .i64 (r.av.n:Int)),(12,.int .i64 (k:Int))])
  (fun k w'=>k≤r.av.n∧Ext w w'∧GB wE w' b∧aJ w' b2 27 (bm r)∧Marks w' b N (bi s (aS (h.av.take k)))∧vy h.bW z0.To h.av k) (fun k=>r.av.n-k) 0
  ⟨rfl,rfl,rfl,rfl,rfl,trivial⟩ ⟨by omega,hw,hE,aK,hM,.nil _ _ _⟩ ?_
 clear hw hE aK hM cw;rintro k w' ⟨hk,hw,hE,aK,hM,hP⟩
 by_cases bY:k<r.av.n
 ·have de:k<ls.length:=by omega
  have qA:k<h.av.length:=by omega
  have AI:=hl.each.get k de qA;have Kc:=AI.cpu;have Kd:=AI.fp;have c9:=AI.ty;have MY:=AI.cr.len;have MZ:=AI.cr.base;have zR:=AI.cr;have dt:=hl.row.all bY;have fJ:=hl.row.all (i:=k-1) (show k-1<r.av.n by omega)
  have M0:mJ (bi s (aS (h.av.take k))):=g9 MX fun x hx=>by
   unfold aS at hx;obtain ⟨y,_,hy⟩:=List.mem_flatMap.1 hx;obtain ⟨p,_,rfl⟩:=List.mem_map.1 hy;simp [cX,jK]
  repeat' (first|refine Wz ?_|refine SW.st (aH hw rfl rfl ((dt))) rfl ?_)
  refine SW.alloc rfl fun b6 w1 ab eW ax => ?_
  refine Wz ?_;refine SW.ap ax rfl rfl rfl rfl (fB.one (enc:=bp) _) fun w2 gp hg => ?_
  have aj:=ab.own eW hg;have di:w.heap.size≤b6:=Nat.le_trans hw.size eW
  replace hw:=Ext.trans hw aj;replace aK:=aK.ext aj;replace hM:=hM.ext aj;replace hE:=hE.ext aj;replace ax:=gp;clear gp ab hg aj;refine Wz ?_;by_cases xO:mK r.bW h.av[k]
  ·obtain ⟨e1,e2,e3,e4⟩:=id xO;obtain ⟨q,hq⟩ : ∃ q,decide (bz (h.av[k-1]'(by omega)) h.av[k])=q:=⟨_,rfl⟩;have yr:=hl.each.get (k-1) (by omega) (by omega)
   have cL:∀ w',bt Tryz.prog 96 [.agg (bp (ls[k-1]'(by omega))).toArray,.agg (bp ls[k]).toArray] w' fun v _=>v = .bool q:=fun w'=>by
    have:=pW (ls[k-1]'(by omega)) ls[k] (h.av[k-1]'(by omega)) h.av[k] w' ⟨yr.cpu,yr.fp,yr.ty⟩ ⟨Kc,Kd,c9⟩
    rwa [hq] at this
   have cy:k=0∨(0<k∧q=true)∨(0<k∧q=false):=by cases q<;>simp<;>omega
   rw [or_comm,or_assoc] at cy;rcases cy with ⟨pJ,rfl⟩|⟨pJ,rfl⟩|pJ
   rotate_left
   ·repeat' (first|refine Wz ?_|(first|refine CW.bF rfl ?_|(apply CW.aO mixed;(· kernel_rfl);rotate_left;intro w1 ab;replace hw:=Ext.trans hw ab;replace aK:=aK.ext ab;replace ax:=ax.ext ab;replace hM:=hM.ext ab;replace hE:=hE.ext ab;clear ab;rotate_right))|refine SW.st (aY (k-1) rfl rfl (by assumption) (by omega) (by omega)) rfl ?_|refine SW.st (aH hw rfl rfl ((fJ))) rfl ?_|refine SW.bq rfl rfl (fun w1 ab=>(cL _)) ?_|exact SW.bx rfl)
    exact ae.aN rfl rfl ⟨_,rfl,hw,hE.g,.inr ⟨rfl,fun hh=>by
     have:=hh.1.next (k-1) (by omega)
     simp only [show k-1+1=k by omega] at this;exact of_decide_eq_false hq this⟩⟩
   all_goals
    have Ke:∀ (h0 : 0<k),bz (h.av[k-1]'(by omega)) h.av[k]:=fun h0=>by first|exact of_decide_eq_true hq|omega
    repeat' (first|refine Wz ?_|(first|refine CW.bA rfl ?_|(apply CW.aO mixed;(· kernel_rfl);rotate_left;intro w1 ab;replace hw:=Ext.trans hw ab;replace aK:=aK.ext ab;replace ax:=ax.ext ab;replace hM:=hM.ext ab;replace hE:=hE.ext ab;clear ab;rotate_right))|refine SW.st (aY (k-1) rfl rfl (by assumption) (by omega) (by omega)) rfl ?_|refine SW.st (aH hw rfl rfl ((fJ))) rfl ?_|refine SW.bq rfl rfl (fun w1 ab=>(cL _)) ?_|exact SW.bx rfl)
    clear cL hq dt fJ
    refine CW.loop (fun j:Nat=>[(1,.pointer (some ⟨b,0,none⟩)),(2,.pointer (some ⟨b2,0,none⟩)),(6,.pointer (some ⟨b6,0,none⟩)),(10,.slice r.av.A r.av.n r.av.c),(11,.int .i64 (r.av.n:Int)),(12,.int .i64 (k:Int)),(75,.slice ls[k].aw.A ls[k].aw.n ls[k].aw.c),(76,.int .i64 (ls[k].aw.n:Int)),(77,.int .i64 (j:Int))])
     (fun j w'=>j≤ls[k].aw.n∧Ext w w'∧GB wE w' b∧aJ w' b2 27 (bm r)∧aJ w' b6 62 (bp ls[k])∧Marks w' b N (bi (bi s (aS (h.av.take k))) ((h.av[k].aw.take j).map cX)) ∧ ∀ (i:Nat) (hi:i<h.av[k].aw.length),i<j→(h.av[k].aw[i]<z0.To↔h.av[k].aq=0)) (fun j=>ls[k].aw.n-j) 0
     ⟨rfl,rfl,rfl,rfl,rfl,rfl,rfl,rfl,rfl,trivial⟩ ⟨by omega,hw,hE,aK,ax,hM,fun i _ h=>by omega⟩ ?_
    clear hw hE aK ax hM eW di;rintro j w' ⟨hj,hw,hE,aK,ax,hM,hZ⟩
    by_cases iZ:j<ls[k].aw.n
    ·have kO:j<h.av[k].aw.length:=by omega
     repeat' (first|refine Wz ?_|refine SW.st (ao hw rfl (zR.one iZ rfl)) rfl ?_)
     refine SW.cV rfl rfl (AG b _ h.av[k].aw[j] N hN _ hM (g9 M0 fun x hx=>by
      obtain ⟨p,_,rfl⟩:=List.mem_map.1 hx;simp [cX,jK])) fun v w5 hv => ?_
     obtain ⟨yu,xT⟩:=hv;have hG:=hM.gr xT;replace hw:=hw.own DA xT;replace hE:=hE.step xT;(replace aK:=aK.ay hG rfl;replace ax:=ax.ay hG rfl)
     have e5:jJ (bi (bi s (aS (h.av.take k))) ((h.av[k].aw.take j).map cX)) (cX h.av[k].aw[j])=bi (bi s (aS (h.av.take k))) ((h.av[k].aw.take (j+1)).map cX):=by
      rw [List.take_succ_eq_append_getElem kO,List.map_append,br];rfl
     rw [e5] at yu;have nC:=yu.bad hN;generalize hp:h.av[k].aw[j]=p
     obtain ⟨y,hy⟩ : ∃ y,(if p<z0.To then (0:Int) else 1)=y:=⟨_,rfl⟩
     have cZ:∀ w',Ext w w'→bt Tryz.prog 97 [.agg (bm r).toArray,.int .i64 p] w' fun v _=>v = .int .i64 y:=fun w' hx=>by
      have:=Av r h r0 r1 z0 z1 p w' (hr.ext hx)
      rwa [hy] at this
     cases hs:bi (bi s (aS (h.av.take k))) ((h.av[k].aw.take (j+1)).map cX) with
     | none =>
       rw [hs] at nC;repeat' (first|refine Wz ?_|((apply CW.aO mixed;(· kernel_rfl);rotate_left;intro w1 ab;replace hw:=Ext.trans hw ab;replace aK:=aK.ext ab;replace ax:=ax.ext ab;replace yu:=yu.ext ab;replace hE:=hE.ext ab;clear ab;rotate_right))|refine SW.skip rfl rfl rfl rfl ?_|refine SW.st (ak rfl nC) rfl ?_|exact SW.bx rfl)
       exact ae.aN rfl rfl ⟨_,rfl,hw,hE.g,.inr ⟨rfl,fun hh=>by
        have:=hh.2
        rw [qz qA (by omega) hs] at this;cases this⟩⟩
     | some bs =>
       rw [hs] at nC;by_cases hz:y=ls[k].aq
       ·repeat' (first|refine Wz ?_|((apply CW.aO mixed;(· kernel_rfl);rotate_left;intro w1 ab;replace hw:=Ext.trans hw ab;replace aK:=aK.ext ab;replace ax:=ax.ext ab;replace yu:=yu.ext ab;replace hE:=hE.ext ab;clear ab;rotate_right))|refine SW.want rfl rfl ?_|refine SW.st (ak rfl nC) rfl ?_|refine SW.bq rfl rfl (fun w1 ab=>(cZ _ (Ext.trans hw ab))) ?_|exact SW.bx rfl)
        refine ae.again (j+1) ⟨rfl,rfl,rfl,rfl,rfl,rfl,rfl,rfl,rfl,trivial⟩ (by omega) ⟨by omega,hw,hE,aK,ax,yu,fun i hi kP => ?_⟩;by_cases e:i=j
        ·subst e;rw [hp];split at hy<;>constructor<;>intro _<;>omega
        ·exact hZ i hi (by omega)
       ·repeat' (first|refine Wz ?_|((apply CW.aO mixed;(· kernel_rfl);rotate_left;intro w1 ab;replace hw:=Ext.trans hw ab;replace aK:=aK.ext ab;replace ax:=ax.ext ab;replace yu:=yu.ext ab;replace hE:=hE.ext ab;clear ab;rotate_right))|refine SW.want rfl rfl ?_|refine SW.st (ak rfl nC) rfl ?_|refine SW.bq rfl rfl (fun w1 ab=>(cZ _ (Ext.trans hw ab))) ?_|exact SW.bx rfl)
        exact ae.aN rfl rfl ⟨_,rfl,hw,hE.g,.inr ⟨rfl,fun hh=>by
         have:=hh.1.fp k qA p (by rw [← hp];exact List.getElem_mem _)
         split at hy<;>omega⟩⟩
    ·obtain rfl:j=ls[k].aw.n:=by omega
     rw [List.take_of_length_le (l:=h.av[k].aw) (by omega),← br,← kC _ _ qA] at hM;refine Wz ?_;refine ae.again (k+1) ⟨rfl,rfl,rfl,rfl,rfl,trivial⟩ (by omega) ⟨by omega,hw,hE,aK,hM,hP.snoc qA (by rwa [← Cf]) Ke fun p hp => ?_⟩;obtain ⟨i,hi,rfl⟩:=List.getElem_of_mem hp;exact hZ i hi (by omega)
  ·have k6 : ¬ kB h.bW z0.To h.av:=fun hh=>xO (by have:=hh.head k qA;rwa [← Cf] at this)
   have Kf : ¬ (((0≤ls[k].dL∧ls[k].dL<r.bW)∧(0≤ls[k].aq∧ls[k].aq≤1)∧(0≤ls[k].Ty∧ls[k].Ty≤2)∧(1≤ls[k].aw.n∧ls[k].aw.n≤8))):=fun hh=>xO (by unfold mK;omega)
   have ic:ls[k].dL<0∨(0≤ls[k].dL∧(r.bW≤ls[k].dL∨(ls[k].dL<r.bW∧(ls[k].aq<0∨(0≤ls[k].aq∧(1<ls[k].aq∨(ls[k].aq≤1∧(ls[k].Ty<0∨(0≤ls[k].Ty∧(3≤ls[k].Ty∨(ls[k].Ty<3∧(ls[k].aw.n=0∨(0<ls[k].aw.n∧8<ls[k].aw.n))))))))))))):=by omega
   rcases ic with d|⟨d1,d|⟨d2,d|⟨d3,d|⟨d4,d|⟨d5,d|⟨d6,d|⟨d7,d⟩⟩⟩⟩⟩⟩⟩
   repeat' (first|refine Wz ?_|((apply CW.aO mixed;(· kernel_rfl);rotate_left;intro w1 ab;replace hw:=Ext.trans hw ab;replace aK:=aK.ext ab;replace ax:=ax.ext ab;replace hM:=hM.ext ab;replace hE:=hE.ext ab;clear ab;rotate_right))|exact SW.bx rfl)
   all_goals exact ae.aN rfl rfl ⟨_,rfl,hw,hE.g,.inr ⟨rfl,fun hh=>k6 hh.1⟩⟩
 ·obtain rfl:k=r.av.n:=by omega
  rw [List.take_of_length_le (l:=h.av) (by omega)] at hM;refine Wz ?_;exact ae.aN rfl rfl ⟨_,rfl,hw,hE.g,.inl ⟨rfl,hP.all (by omega),hM⟩⟩
open Go.RowKit
theorem qB {l:List Block}:∀ {s:Option (List Block)},(bi s l).isSome=true → ∀ b∈l,0≤b.At∧b.At+pw b.Order≤256:=by
 induction l with
 | nil=>intro s _ b hb;simp at hb
 | cons x l ih =>
   intro s h b hb;have h':(bi (jJ s x) l).isSome=true:=h
   rcases List.mem_cons.1 hb with rfl|hb
   ·cases e:jJ s b with
    | none=>rw [e,fc] at h';cases h'
    | some bs=>obtain ⟨cs,_,hf,_⟩:=lg e;exact ⟨hf.1,hf.2.1⟩
   ·exact ih h' b hb
def uD (b:Block) : Prop:=(0≤b.Order∧b.Order≤4)∧0≤b.At∧b.At % pw b.Order=0∧fi b.Ty
structure sG (l:List Block) (k:Nat) : Prop where
 each:∀ (i:Nat) (h:i<l.length),i<k→uD l[i]
 next:∀ (i:Nat) (h:i+1<l.length),i+1<k→l[i].At<l[i+1].At
theorem sG.nil (l:List Block) : sG l 0:=⟨fun i _ h=>by omega,fun i _ h=>by omega⟩
theorem sG.snoc {l:List Block} {k:Nat} (h:sG l k) (hk:k<l.length) (h1:uD l[k]) (h2:∀ (h : 0<k),l[k-1].At<l[k].At) : sG l (k+1):=by
 refine ⟨fun i hi zv => ?_,fun i hi zv => ?_⟩
 ·by_cases e:i=k
  ·subst e;exact h1
  ·exact h.each i hi (by omega)
 ·by_cases e:i+1=k
  ·subst e;exact h2 (by omega)
  ·exact h.next i hi (by omega)
theorem sG.ok {l:List Block} {k:Nat} {s:Option (List Block)} (h:sG l k) (hk:l.length≤k) (hf:(bi s l).isSome=true) : mL l:=by
 refine ⟨fun i hi => ?_,fun i hi=>h.next i hi (by omega)⟩;obtain ⟨h1,h2,h3,h4⟩:=h.each i hi (by omega);have h5:=qB hf _ (List.getElem_mem hi);have h6:=bG h1.1 h1.2;exact ⟨h1,⟨h2,by omega⟩,h3,h4⟩
def tY (n:Int) : Bool:=decide (n<0) || decide (256<n)
theorem CG (x:Int) (w:World) : bt Tryz.prog 61 ([.int .i64 x]++[]) w fun v _=>v = .bool (tY x):=by
 refine aL Tryz.func61 rfl Tryz.ntmps61 rfl ?_;have hw:=Ext.refl w;have ic:x<0∨(0≤x∧(256<x∨x≤256)):=by omega
 rcases ic with d|⟨d1,d|d⟩
 repeat' (first|refine Wz ?_|fail);all_goals exact ae.aN rfl rfl ⟨_,rfl,hw,by unfold tY;simp;omega⟩
end Go.Proofs.YtjimadiidbkohaaGreatDoor
