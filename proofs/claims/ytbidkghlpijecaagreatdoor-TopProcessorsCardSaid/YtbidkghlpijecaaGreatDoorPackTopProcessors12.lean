/-
  Texts of the claim TopProcessors, part 12: what its theorem leans on.
-/
import Derived.Test.YtbidkghlpijecaaGreatDoorPackTopProcessors10
import Derived.Test.YtbidkghlpijecaaGreatDoorPackTopProcessors8
import Derived.Test.YtbidkghlpijecaaGreatDoorPackTopProcessors11
import Derived.Test.YtbidkghlpijecaaGreatDoorPackTopProcessors2
import Derived.Test.YtbidkghlpijecaaGreatDoorPackTopProcessors9
import Derived.Test.YtbidkghlpijecaaGreatDoorRows
import Derived.Test.YtbidkghlpijecaaGreatDoorPackTopProcessors3
import Derived.ProofKit
import Derived.SizedLaws
import Derived.JoinedCond
import Derived.Deep.Slices
import Derived.Deep.Fields
import Derived.Lib.SmallJoins
import Derived.OpenShut
import Derived.Test.YtbidkghlpijecaaGreatDoorPackTopProcessors1
import Derived.Test.YtbidkghlpijecaaGreatDoorPackTopProcessors5
import Derived.Great.BuildSlice
import Derived.Test.YtbidkghlpijecaaGreatDoorPackTopProcessors7
import Derived.LaidMore
import Derived.Stop.Joined
set_option linter.unusedVariables false
set_option linter.unusedSimpArgs false
namespace Go.Proofs.YtbidkghlpijecaaGreatDoor
open Go.RowKit
structure Jv (F:World→Prop) (w:World) : Prop where
 at_:F w
 all:∀ w w',Ext w w'→F w→F w'
theorem Jv.ext {F:World→Prop} {w w':World} (h:Jv F w) (hx:Ext w w') : Jv F w':=⟨h.all _ _ hx h.at_,h.all⟩
theorem Jv.to {F:World→Prop} {w w':World} (h:Jv F w) (hf:F w') : Jv F w':=⟨hf,h.all⟩
theorem eK.aN {α β:Type} {R : α → β → Prop} {xs:List α} {ys:List β} (h:eK R xs ys) {i:Nat} (hi:i≤xs.length) {x : α} {y : β} (hr:R x y) : eK R (aN xs i x) (aN ys i y):=by
 have hl:=h.len;refine ⟨by rw [cf _ hi,cf _ (by omega),hl],fun k h1 h2 => ?_⟩
 have j2:∀ {γ:Type} (zs:List γ) (z : γ) (k:Nat) (hk:k<(Proofs.YtbidkghlpijecaaGreatDoor.aN zs i z).length) (u : γ),(Proofs.YtbidkghlpijecaaGreatDoor.aN zs i z)[k]?=some u→(Proofs.YtbidkghlpijecaaGreatDoor.aN zs i z)[k]=u:=fun zs z k hk u hu=>by
  rw [List.getElem?_eq_getElem hk] at hu;exact Option.some.inj hu
 rw [cf _ hi] at h1;rcases Nat.lt_trichotomy k i with e|e|e
 ·rw [j2 xs x k _ (xs[k]'(by omega)) (by rw [rn hi e,List.getElem?_eq_getElem]),j2 ys y k _ (ys[k]'(by omega)) (by rw [rn (by omega) e,List.getElem?_eq_getElem])];exact h.get k (by omega) (by omega)
 ·subst e;rw [j2 xs x k _ x (jN hi),j2 ys y k _ y (jN (by omega))];exact hr
 ·obtain ⟨j,rfl⟩ : ∃ j,k=j+1:=⟨k-1,by omega⟩;rw [j2 xs x (j+1) _ (xs[j]'(by omega)) (by rw [vK hi (by omega),List.getElem?_eq_getElem]),j2 ys y (j+1) _ (ys[j]'(by omega)) (by rw [vK (by omega) (by omega),List.getElem?_eq_getElem])];exact h.get j (by omega) (by omega)
theorem eK.setAt {α β:Type} {R R' : α → β → Prop} {xs:List α} {ys:List β} (h:eK R xs ys) {i:Nat} {x : α} {y : β} (hr:R' x y) (ho:∀ (k:Nat) (h1:k<xs.length) (h2:k<ys.length),k≠i→R xs[k] ys[k]→R' xs[k] ys[k]) : eK R' (xs.set i x) (ys.set i y):=by
 refine ⟨by simp [h.len],fun k h1 h2 => ?_⟩;simp only [List.length_set] at h1 h2;rw [List.getElem_set,List.getElem_set];by_cases e:i=k
 ·rw [if_pos e,if_pos e];exact hr
 ·rw [if_neg e,if_neg e];exact ho k h1 h2 (fun h=>e h.symm) (h.get k h1 h2)
structure A8 (n:Nat) (w:World) (lo:Nat) (F:World→Prop) (L:List ay) (x:ay) (p:Int) (Ph:gg) (Fl:List cy) (L1:List ay) : Prop where
 own:eH w lo Ph Fl L1
 lt:bg L x<L1.length
 pR:L1.set (bg L x) ⟨x.fT,x.ao,x.Ty,L1[bg L x].av++[p]⟩=fQ L ⟨x.fT,x.ao,x.Ty,cd L x++[p]⟩
 key:fZ L1[bg L x] x
 sep:∀ (j:Nat) (hk:bg L x<Fl.length) (hj:j<Fl.length),j≠bg L x → ∀ g,aM Fl[bg L x].av.A Fl[bg L x].av.c=some g→aM Fl[j].av.A Fl[j].av.c≠some g
 Qu:∀ (hk:bg L x<Fl.length) (w w':World),w.grownBy w' (aM Fl[bg L x].av.A Fl[bg L x].av.c)→F w→F w'
 small:L1[bg L x].av.length≤1000
 size:n≤w.heap.size
theorem A8.ext {n:Nat} {w w':World} {lo:Nat} {F:World→Prop} {L:List ay} {x:ay} {p:Int} {Ph:gg} {Fl:List cy} {L1:List ay} (h:A8 n w lo F L x p Ph Fl L1) (hx:Ext w w') : A8 n w' lo F L x p Ph Fl L1 :=
 ⟨h.own.ext hx,h.lt,h.pR,h.key,h.sep,h.Qu,h.small,Nat.le_trans h.size hx.size⟩
set_option maxHeartbeats 8000000 in
theorem A9 (Z m:gg) (cp:Int) (li lv:gg) (L:List ay) (ls:List cy) (x:ay) (y:cy) (p:Int) (F:World→Prop) (b1:Nat) (w w0:World) (hw:Ext w w0) (z8:w.heap.size≤b1) (aI:aW w0 b1 41 (cV ⟨Z,m,cp,li,lv⟩)) (hl:eH w0 w.heap.size li ls L) (hk:sI y x) (Pj:y.av = .nil) (Pk:x.av=[])
 (Az:CE ls) (hs:AP L) (hn:(li.n+1)*48≤140737488355328) (Hg:∀ l∈L,l.av.length≤1000) (oT:Jv F w0) (IX:∀ (w w':World) (row:Option Nat),w.grownBy w' row→(∀ k,row=some k→k=b1∨aM li.A li.c=some k∨w0.heap.size≤k)→F w→F w')
 (M8:∀ (i:Nat) (hi:i<ls.length) (w w':World),w.grownBy w' (aM ls[i].av.A ls[i].av.c)→F w→F w') :
 jw Tryz.prog 112 [.pointer (some ⟨b1,0,none⟩),.agg (bI y).toArray,.int .i64 p] w0 fun v w'=>Ext w w'∧F w' ∧ ∃ IW Ej,aW w' b1 41 (cV ⟨Z,m,cp,IW,lv⟩)∧eH w' w.heap.size IW Ej (fQ L ⟨x.fT,x.ao,x.Ty,cd L x++[p]⟩)∧xw w0.heap.size li ls IW Ej:=by
 refine dM Tryz.func112 rfl Tryz.ntmps112 rfl ?_;have TI:fZ x ⟨x.fT,x.ao,x.Ty,cd L x++[p]⟩:=⟨rfl,rfl,rfl⟩
 obtain ⟨RS,RT⟩:=iP (L:=L) TI;refine CW.seq (CW.region (SW.box rfl rfl fun b4 w1 ap jF bd => ?_));have iN:w.heap.size≤b4:=Nat.le_trans hw.size jF
 have N2:=hl.row.lt_size
 have N3:∀ z∈ls,∀ g,ob z.av=some g→g<w0.heap.size:=fun z hz g e=>by
  obtain ⟨j,hj,rfl⟩:=List.getElem_of_mem hz;exact (hl.each.get j hj (by rw [← hl.each.len];exact hj)).bM.lt_size g e
 (replace hw:=Ext.trans hw ap;replace aI:=aI.ext ap;replace hl:=hl.ext ap;replace oT:=oT.ext ap);obtain ⟨l1,l2⟩:=hl.rd.len;obtain ⟨q,hq⟩ : ∃ q,cK L x=q:=⟨_,rfl⟩
 have cL:∀ w',vy w' li ls L→bq Tryz.prog 113 [.agg (cV ⟨Z,m,cp,li,lv⟩).toArray,.agg (bI y).toArray] w' fun v _=>v = .tuple #[.int .i64 (bg L x:Int),.bool q]:=fun w' h=>by
  have:=sJ ⟨Z,m,cp,li,lv⟩ L ls x y w' h hk (by simp only;omega)
  rwa [hq] at this
 cases q
 ·have fe:=lf L x;have Qv:bg L x≤ls.length:=by omega
  refine Wz ?_;(apply CW.bl mixed;(· kernel_rfl);rotate_left;intro w1 ae;replace hw:=Ext.trans hw ae;replace aI:=aI.ext ae;replace bd:=bd.ext ae;replace hl:=hl.ext ae;replace oT:=oT.ext ae;clear ae;rotate_right);repeat' (first|refine Wz ?_|(refine CW.dh rfl ?_)|refine SW.cx rfl rfl (fun w1 ae=>(cL _ (hl.rd.ext ae))) ?_|exact SW.dF rfl)
  clear cL;obtain ⟨yc,yz,yt,yp⟩:=y;simp only at Pj;subst Pj;refine SW.bz (i:=3) bd rfl rfl rfl rfl fun w3 dZ vh => ?_
  replace hw:=hw.own iN vh;replace aI:=aI.aw (bd.gr vh) rfl;have TJ:=IX _ _ _ vh (fun k e=>by cases e;exact .inr (.inr jF)) oT.at_;replace oT:=oT.to TJ;replace hl:eH w3 w.heap.size li ls L:=⟨hl.row.grown vh (.inr (fun e=>by have:=N2 _ e;omega)),hl.each.mono fun _ _ h=>h.aw (bd.gr vh) rfl⟩;replace bd:aW w3 b4 142 (bI ⟨yc,yz,yt,.nil⟩):=dZ;clear dZ;refine Wz ?_;have LY:=hl.row.sl.base;refine CW.iL 8 11 (fun _=>True) mixed (by kernel_rfl) fun w1 ae aJ => ?_
  replace hw:=Ext.trans hw ae;replace aI:=aI.ext ae;replace bd:=bd.ext ae;replace hl:=hl.ext ae;replace oT:=oT.ext ae;clear ae;refine SF.eG 0 [] aJ rfl (by kernel_rfl) (by kernel_rfl) (by kernel_rfl) (bo rfl) (fun w2 hS=>bo rfl) rfl ?_;refine SF.take 1 [4,3,2] [] aJ rfl (by kernel_rfl) (by kernel_rfl) (by kernel_rfl) ?_;repeat (refine SW.pure rfl rfl ?_)
  refine SW.ai ?_;refine SF.take 2 [4,3] [] aJ rfl (by kernel_rfl) (by kernel_rfl) (by kernel_rfl) ?_;repeat ((show SW _ _ _ _ (⟨_,Op.nilCheck _,_,_,_,none⟩::_) _ _;refine SW.st (aC rfl) rfl ?_))
  refine SW.ai ?_;refine SF.take 3 [4] [] aJ rfl (by kernel_rfl) (by kernel_rfl) (by kernel_rfl) ?_;repeat ((show SW _ _ _ _ (⟨_,Op.fieldAddr _ _ _,_,_,_,none⟩::_) _ _;refine SW.st (aP rfl) rfl ?_))
  refine SW.ai ?_;refine SF.take 4 [] [] aJ rfl (by kernel_rfl) (by kernel_rfl) (by kernel_rfl) ?_;repeat ((show SW _ _ _ _ (⟨_,Op.load _ _,_,_,_,none⟩::_) _ _;refine SW.st (aq rfl (aI.cell (i:=3) (v := .slice li.A li.n li.c) rfl)) rfl ?_))
  refine SW.ai ?_;refine SF.take 5 [] [] aJ rfl (by kernel_rfl) (by kernel_rfl) (by kernel_rfl) ?_;repeat (refine SW.pure rfl rfl ?_)
  refine SW.ai ?_;refine SF.take 6 [7] [] aJ rfl (by kernel_rfl) (by kernel_rfl) (by kernel_rfl) ?_;repeat ((show SW _ _ _ _ (⟨_,Op.load _ _,_,_,_,none⟩::_) _ _;refine SW.st (aB rfl rfl ((fun _ _=>bd.cell))) rfl ?_))
  refine SW.ai ?_;refine SF.one 7 rfl (by kernel_rfl) rfl ?_;refine SW.dR rfl rfl rfl rfl rfl fun b w4 ap hb hB => ?_
  have Ba:w0.heap.size≤w4.heap.size:=Nat.le_trans (Nat.le_of_lt (Nat.lt_of_le_of_lt jF bd.lt)) ap.size
  have nt:aM li.A li.c≠some b:=fun e=>by have:=hl.row.lt_size _ e;omega
  (replace hw:=Ext.trans hw ap;replace aI:=aI.ext ap;replace hl:=hl.ext ap;replace oT:=oT.ext ap);refine SW.nil (ah.sf ap ?_);refine SF.turn rfl (by kernel_rfl) rfl ?_;refine SW.dt rfl rfl (v8 li.A li.n li.c w.heap.size ls _ hl.row (bg L x) (by omega) ⟨yc,yz,yt,.nil⟩ b hB nt hn hw.size) fun v w5 hv => ?_
  obtain ⟨A2,c2,rfl,cJ,hg,ju⟩:=hv;have hG:=hl.row.gr hg;have hS:True:=trivial
  replace hw:=aO hw hg (Nat.le_refl _) hl.row.bc;have N4:=IX _ _ _ hg (fun k e => .inr (.inl e)) oT.at_;replace oT:=oT.to N4;replace aI:=aI.aw hG rfl;have Pl:=(hl.each.mono fun _ _ h=>h.aw hG rfl).aN (i:=bg L x) (x:=⟨yc,yz,yt,.nil⟩) (y:=⟨x.fT,x.ao,x.Ty,[]⟩) (by omega) ⟨hk.1,hk.2.1,hk.2.2,Own.gz _ _ _ _ _ _⟩;refine SW.nil (ah.sg hS ?_);refine SG.one 9 rfl (by kernel_rfl) rfl ?_;repeat ((show SW _ _ _ _ (⟨_,Op.nilCheck _,_,_,_,none⟩::_) _ _;refine SW.st (aC rfl) rfl ?_))
  refine SW.nil (ah.sg hS ?_);refine SG.one 10 rfl (by kernel_rfl) rfl ?_;repeat ((show SW _ _ _ _ (⟨_,Op.fieldAddr _ _ _,_,_,_,none⟩::_) _ _;refine SW.st (aP rfl) rfl ?_))
  refine SW.nil (ah.sg hS ?_);refine SG.last rfl (by kernel_rfl) (by kernel_rfl) ?_;refine SW.bz (i:=3) aI rfl rfl rfl rfl fun w6 pO qT => ?_
  have sO:=aI.gr qT;have Qw:w0.heap.size≤w6.heap.size:=Nat.le_trans Ba (Nat.le_trans hg.size qT.size)
  have N5:=ju;replace hw:=hw.own z8 qT;have N6:=IX _ _ _ qT (fun k e=>by cases e;exact .inl rfl) oT.at_;replace oT:=oT.to N6;replace cJ:=cJ.aw sO rfl;replace Pl:=Pl.mono fun _ _ h=>h.aw sO rfl
  replace aI:aW w6 b1 41 (cV ⟨Z,m,cp,⟨A2,li.n+1,c2⟩,lv⟩):=pO;clear pO
  have j2:∀ h:bg L x<(aN L (bg L x) (⟨x.fT,x.ao,x.Ty,[]⟩ : ay)).length,(aN L (bg L x) (⟨x.fT,x.ao,x.Ty,[]⟩ : ay))[bg L x]=⟨x.fT,x.ao,x.Ty,[]⟩:=fun h=>by
   have:=jN (x:=(⟨x.fT,x.ao,x.Ty,[]⟩ : ay)) fe
   rw [List.getElem?_eq_getElem h] at this;exact Option.some.inj this
  have Hh:∀ h:bg L x<(aN ls (bg L x) (⟨yc,yz,yt,.nil⟩ : cy)).length,(aN ls (bg L x) (⟨yc,yz,yt,.nil⟩ : cy))[bg L x]=⟨yc,yz,yt,.nil⟩:=fun h=>by
   have:=jN (l:=ls) (i:=bg L x) (x:=(⟨yc,yz,yt,.nil⟩ : cy)) (by omega)
   rw [List.getElem?_eq_getElem h] at this;exact Option.some.inj this
  have Jw:bg L x<(aN L (bg L x) (⟨x.fT,x.ao,x.Ty,[]⟩ : ay)).length:=by rw [cf _ fe];omega
  have hR:A8 w0.heap.size w6 w.heap.size F L x p ⟨A2,li.n+1,c2⟩ (aN ls (bg L x) ⟨yc,yz,yt,.nil⟩) (aN L (bg L x) ⟨x.fT,x.ao,x.Ty,[]⟩):=by
   refine ⟨⟨cJ,Pl⟩,Jw,?_,?_,fun j h1 h2 na g e => ?_,fun h1 w w' hg => ?_,?_,Qw⟩
   ·rw [j2 Jw,sD fe,oN (by rw [← RT];exact hq),← RS,ln hq]
   ·rw [j2 Jw];exact ⟨rfl,rfl,rfl⟩
   ·rw [Hh h1] at e;cases e
   ·rw [Hh h1] at hg;exact oT.all _ _ (aO (Ext.refl w) hg (Nat.le_refl _) (fun k e=>by cases e))
   ·rw [j2 Jw];simp
  clear Pl cJ hl bd;refine Wz ?_;have hA:=hR.own.row.sl.base;have dY:bg L x<(li.n+1):=by have:=hR.own.rd.len;have:=hR.lt;omega
  have oS:bg L x<((aN ls (bg L x) (⟨yc,yz,yt,.nil⟩ : cy))).length:=by have:=hR.own.rd.len;have:=hR.lt;omega
  have dL:=hR.lt;have vN:=hR.small;refine CW.iL 15 18 (fun w2=>aW w2 b1 41 (cV ⟨Z,m,cp,⟨A2,li.n+1,c2⟩,lv⟩)) mixed (by kernel_rfl) fun w1 ae aJ => ?_
  replace hw:=Ext.trans hw ae;replace aI:=aI.ext ae;replace hR:=hR.ext ae;replace oT:=oT.ext ae;clear ae;refine SF.eG 0 [] aJ rfl (by kernel_rfl) (by kernel_rfl) (by kernel_rfl) (bo rfl) (fun w2 hS=>bo rfl) rfl ?_;refine SF.eG 1 [] aJ rfl (by kernel_rfl) (by kernel_rfl) (by kernel_rfl) (aC rfl) (fun w2 hS=>aC rfl) rfl ?_;refine SF.eG 2 [] aJ rfl (by kernel_rfl) (by kernel_rfl) (by kernel_rfl) (aP rfl) (fun w2 hS=>aP rfl) rfl ?_;refine SF.eG 3 [] aJ rfl (by kernel_rfl) (by kernel_rfl) (by kernel_rfl) (aq rfl (aI.cell (i:=3) (v := .slice A2 (li.n+1) c2) rfl)) (fun w2 hS=>aq rfl (hS.cell (i:=3) (v := .slice A2 (li.n+1) c2) rfl)) rfl ?_;refine SF.eG 4 [] aJ rfl (by kernel_rfl) (by kernel_rfl) (by kernel_rfl) (bo rfl) (fun w2 hS=>bo rfl) rfl ?_;refine SF.take 5 [12,11,10,8,7,6] [] aJ rfl (by kernel_rfl) (by kernel_rfl) (by kernel_rfl) ?_;repeat (refine SW.pure rfl rfl ?_)
  refine SW.ai ?_;refine SF.take 6 [12,11,10,8,7] [] aJ rfl (by kernel_rfl) (by kernel_rfl) (by kernel_rfl) ?_;repeat ((show SW _ _ _ _ (⟨_,Op.nilCheck _,_,_,_,none⟩::_) _ _;refine SW.st (aC rfl) rfl ?_))
  refine SW.ai ?_;refine SF.take 7 [12,11,10,8] [] aJ rfl (by kernel_rfl) (by kernel_rfl) (by kernel_rfl) ?_;repeat ((show SW _ _ _ _ (⟨_,Op.fieldAddr _ _ _,_,_,_,none⟩::_) _ _;refine SW.st (aP rfl) rfl ?_))
  refine SW.ai ?_;refine SF.take 8 [12,11,10] [] aJ rfl (by kernel_rfl) (by kernel_rfl) (by kernel_rfl) ?_;repeat ((show SW _ _ _ _ (⟨_,Op.load _ _,_,_,_,none⟩::_) _ _;refine SW.st (aq rfl (aI.cell (i:=3) (v := .slice A2 (li.n+1) c2) rfl)) rfl ?_))
  refine SW.ai ?_;refine SF.take 9 [12,11,10] [] aJ rfl (by kernel_rfl) (by kernel_rfl) (by kernel_rfl) ?_;repeat (refine SW.pure rfl rfl ?_)
  refine SW.ai ?_;refine SF.take 10 [12,11] [] aJ rfl (by kernel_rfl) (by kernel_rfl) (by kernel_rfl) ?_;repeat ((show SW _ _ _ _ (⟨_,Op.indexAddr _ _ _,_,_,_,none⟩::_) _ _;refine SW.st (bJ rfl rfl (by assumption) (by omega)) rfl ?_))
  refine SW.ai ?_;refine SF.take 11 [12] [] aJ rfl (by kernel_rfl) (by kernel_rfl) (by kernel_rfl) ?_;repeat ((show SW _ _ _ _ (⟨_,Op.fieldAddr _ _ _,_,_,_,none⟩::_) _ _;refine SW.st (aP rfl) rfl ?_))
  refine SW.ai ?_;refine SF.take 12 [] [] aJ rfl (by kernel_rfl) (by kernel_rfl) (by kernel_rfl) ?_;repeat ((show SW _ _ _ _ (⟨_,Op.load _ _,_,_,_,none⟩::_) _ _;refine SW.st (aq rfl (hR.own.row.sl.fw dY (j:=3) (u := .slice ((aN ls (bg L x) (⟨yc,yz,yt,.nil⟩ : cy)))[bg L x].av.A ((aN ls (bg L x) (⟨yc,yz,yt,.nil⟩ : cy)))[bg L x].av.n ((aN ls (bg L x) (⟨yc,yz,yt,.nil⟩ : cy)))[bg L x].av.c) rfl)) rfl ?_))
  refine SW.ai ?_;refine SF.take 13 [14] [] aJ rfl (by kernel_rfl) (by kernel_rfl) (by kernel_rfl) ?_;repeat (refine SW.pure rfl rfl ?_)
  refine SW.ai ?_;refine SF.one 14 rfl (by kernel_rfl) rfl ?_;refine SW.dR rfl rfl rfl rfl rfl fun b w4 ap hb hB => ?_
  (replace hw:=Ext.trans hw ap;replace aI:=aI.ext ap;replace hR:=hR.ext ap;replace oT:=oT.ext ap);have LZ:w0.heap.size≤w4.heap.size:=hR.size
  refine SW.nil (ah.sf ap ?_);refine SF.turn rfl (by kernel_rfl) rfl ?_;have zF:=hR.own.each.get (bg L x) oS dL;have El:=zF.bM;have Cc:=El.sl.len;refine SW.Ek El (aW.z7 (enc:=bK) hB) hw.size (by decide) rfl rfl rfl (by omega) (by omega) fun A3 c3 w5 n7 hg Hi => ?_
  have hS:=aI.aw (El.gr hg) rfl;have dN:=hR.own.row.aw (El.gr hg) rfl;have N4:=hR.Qu oS _ _ hg oT.at_;replace hw:=aO hw hg (Nat.le_refl _) El.bc;refine SW.nil (ah.sg hS ?_);refine SG.one 16 rfl (by kernel_rfl) rfl ?_;repeat ((show SW _ _ _ _ (⟨_,Op.indexAddr _ _ _,_,_,_,none⟩::_) _ _;refine SW.st (bJ rfl rfl (by assumption) (by omega)) rfl ?_))
  refine SW.nil (ah.sg hS ?_);refine SG.one 17 rfl (by kernel_rfl) rfl ?_;repeat ((show SW _ _ _ _ (⟨_,Op.fieldAddr _ _ _,_,_,_,none⟩::_) _ _;refine SW.st (aP rfl) rfl ?_))
  refine SW.nil (ah.sg hS ?_);refine SG.last rfl (by kernel_rfl) (by kernel_rfl) ?_;refine SW.fH (bg L x) 3 ⟨((aN ls (bg L x) (⟨yc,yz,yt,.nil⟩ : cy)))[bg L x].fT,((aN ls (bg L x) (⟨yc,yz,yt,.nil⟩ : cy)))[bg L x].ao,((aN ls (bg L x) (⟨yc,yz,yt,.nil⟩ : cy)))[bg L x].Ty,⟨A3,((aN ls (bg L x) (⟨yc,yz,yt,.nil⟩ : cy)))[bg L x].av.n+1,c3⟩⟩ dN rfl rfl rfl dY (by decide) rfl rfl fun w6 gp qT => ?_
  have sO:=dN.gr qT;have N6:=IX _ _ _ qT (fun k e=>by rcases ju k e with h|h;exact .inr (.inl h);exact .inr (.inr (Nat.le_trans Ba h))) N4;replace hw:=aO hw qT (Nat.le_refl _) dN.bc;refine Wz ?_;refine ah.vB rfl ⟨_,rfl,hw,N6,⟨A2,li.n+1,c2⟩,((aN ls (bg L x) (⟨yc,yz,yt,.nil⟩ : cy))).set (bg L x) ⟨((aN ls (bg L x) (⟨yc,yz,yt,.nil⟩ : cy)))[bg L x].fT,((aN ls (bg L x) (⟨yc,yz,yt,.nil⟩ : cy)))[bg L x].ao,((aN ls (bg L x) (⟨yc,yz,yt,.nil⟩ : cy)))[bg L x].Ty,⟨A3,((aN ls (bg L x) (⟨yc,yz,yt,.nil⟩ : cy)))[bg L x].av.n+1,c3⟩⟩,hS.aw (b:=b1) (t':=41) sO rfl,?_⟩
  have Qx:xw w0.heap.size li ls ⟨A2,li.n+1,c2⟩ ((aN ls (bg L x) (⟨yc,yz,yt,.nil⟩ : cy)).set (bg L x) ⟨((aN ls (bg L x) (⟨yc,yz,yt,.nil⟩ : cy)))[bg L x].fT,((aN ls (bg L x) (⟨yc,yz,yt,.nil⟩ : cy)))[bg L x].ao,((aN ls (bg L x) (⟨yc,yz,yt,.nil⟩ : cy)))[bg L x].Ty,⟨A3,((aN ls (bg L x) (⟨yc,yz,yt,.nil⟩ : cy)))[bg L x].av.n+1,c3⟩⟩):=by
   rw [sD Qv];refine xw.ins Az N3 (fun g e => ?_) (fun k e=>(N5 k e).imp id (fun h=>Nat.le_trans Ba h));rcases Hi g e with h|h
   ·rw [Hh oS] at h;cases h
   ·exact Nat.le_trans LZ h
  refine ⟨?_,Qx⟩;rw [← hR.pR];refine ⟨gp,eK.setAt (R:=od _ w.heap.size) hR.own.each ⟨zF.cpu.trans hR.key.1,zF.iG.trans hR.key.2.1,zF.ty.trans hR.key.2.2,n7.aw sO rfl⟩ fun j h1 h2 na ho=>⟨ho.cpu,ho.iG,ho.ty,?_⟩⟩;refine (ho.bM.grown hg ?_).aw sO rfl;cases eo:aM ((aN ls (bg L x) (⟨yc,yz,yt,.nil⟩ : cy)))[j].av.A ((aN ls (bg L x) (⟨yc,yz,yt,.nil⟩ : cy)))[j].av.c with
  | none=>exact .inl rfl
  | some g =>
    right;intro e;exact hR.sep j oS h1 na g e.symm eo
 ·obtain ⟨fe,qC⟩:=iu hq;refine Wz ?_;(apply CW.bl mixed;(· kernel_rfl);rotate_left;intro w1 ae;replace hw:=Ext.trans hw ae;replace aI:=aI.ext ae;replace bd:=bd.ext ae;replace hl:=hl.ext ae;replace oT:=oT.ext ae;clear ae;rotate_right);repeat' (first|refine Wz ?_|(refine CW.di rfl ?_)|refine SW.cx rfl rfl (fun w1 ae=>(cL _ (hl.rd.ext ae))) ?_|exact SW.dF rfl)
  clear cL;have Ba:=Nat.le_trans jF (Nat.le_of_lt bd.lt);have hR:=(⟨hl,fe,by rw [oM (by rw [← RT];exact hq),← RS,fM hq fe],qC,fun j h1 h2 na g e=>Az _ _ h1 h2 (Ne.symm na) g e,fun h1 w w' hg=>M8 _ h1 w w' hg,Hg _ (List.getElem_mem fe),Ba⟩ : A8 w0.heap.size _ w.heap.size F L x p li ls L);clear hl;have hA:=hR.own.row.sl.base;have dY:bg L x<li.n:=by have:=hR.own.rd.len;have:=hR.lt;omega
  have oS:bg L x<(ls).length:=by have:=hR.own.rd.len;have:=hR.lt;omega
  have dL:=hR.lt;have vN:=hR.small;refine CW.iL 15 18 (fun w2=>aW w2 b1 41 (cV ⟨Z,m,cp,li,lv⟩)) mixed (by kernel_rfl) fun w1 ae aJ => ?_
  replace hw:=Ext.trans hw ae;replace aI:=aI.ext ae;replace hR:=hR.ext ae;replace oT:=oT.ext ae;clear ae;refine SF.eG 0 [] aJ rfl (by kernel_rfl) (by kernel_rfl) (by kernel_rfl) (bo rfl) (fun w2 hS=>bo rfl) rfl ?_;refine SF.eG 1 [] aJ rfl (by kernel_rfl) (by kernel_rfl) (by kernel_rfl) (aC rfl) (fun w2 hS=>aC rfl) rfl ?_;refine SF.eG 2 [] aJ rfl (by kernel_rfl) (by kernel_rfl) (by kernel_rfl) (aP rfl) (fun w2 hS=>aP rfl) rfl ?_;refine SF.eG 3 [] aJ rfl (by kernel_rfl) (by kernel_rfl) (by kernel_rfl) (aq rfl (aI.cell (i:=3) (v := .slice li.A li.n li.c) rfl)) (fun w2 hS=>aq rfl (hS.cell (i:=3) (v := .slice li.A li.n li.c) rfl)) rfl ?_;refine SF.eG 4 [] aJ rfl (by kernel_rfl) (by kernel_rfl) (by kernel_rfl) (bo rfl) (fun w2 hS=>bo rfl) rfl ?_;refine SF.take 5 [12,11,10,8,7,6] [] aJ rfl (by kernel_rfl) (by kernel_rfl) (by kernel_rfl) ?_;repeat (refine SW.pure rfl rfl ?_)
  refine SW.ai ?_;refine SF.take 6 [12,11,10,8,7] [] aJ rfl (by kernel_rfl) (by kernel_rfl) (by kernel_rfl) ?_;repeat ((show SW _ _ _ _ (⟨_,Op.nilCheck _,_,_,_,none⟩::_) _ _;refine SW.st (aC rfl) rfl ?_))
  refine SW.ai ?_;refine SF.take 7 [12,11,10,8] [] aJ rfl (by kernel_rfl) (by kernel_rfl) (by kernel_rfl) ?_;repeat ((show SW _ _ _ _ (⟨_,Op.fieldAddr _ _ _,_,_,_,none⟩::_) _ _;refine SW.st (aP rfl) rfl ?_))
  refine SW.ai ?_;refine SF.take 8 [12,11,10] [] aJ rfl (by kernel_rfl) (by kernel_rfl) (by kernel_rfl) ?_;repeat ((show SW _ _ _ _ (⟨_,Op.load _ _,_,_,_,none⟩::_) _ _;refine SW.st (aq rfl (aI.cell (i:=3) (v := .slice li.A li.n li.c) rfl)) rfl ?_))
  refine SW.ai ?_;refine SF.take 9 [12,11,10] [] aJ rfl (by kernel_rfl) (by kernel_rfl) (by kernel_rfl) ?_;repeat (refine SW.pure rfl rfl ?_)
  refine SW.ai ?_;refine SF.take 10 [12,11] [] aJ rfl (by kernel_rfl) (by kernel_rfl) (by kernel_rfl) ?_;repeat ((show SW _ _ _ _ (⟨_,Op.indexAddr _ _ _,_,_,_,none⟩::_) _ _;refine SW.st (bJ rfl rfl (by assumption) (by omega)) rfl ?_))
  refine SW.ai ?_;refine SF.take 11 [12] [] aJ rfl (by kernel_rfl) (by kernel_rfl) (by kernel_rfl) ?_;repeat ((show SW _ _ _ _ (⟨_,Op.fieldAddr _ _ _,_,_,_,none⟩::_) _ _;refine SW.st (aP rfl) rfl ?_))
  refine SW.ai ?_;refine SF.take 12 [] [] aJ rfl (by kernel_rfl) (by kernel_rfl) (by kernel_rfl) ?_;repeat ((show SW _ _ _ _ (⟨_,Op.load _ _,_,_,_,none⟩::_) _ _;refine SW.st (aq rfl (hR.own.row.sl.fw dY (j:=3) (u := .slice (ls)[bg L x].av.A (ls)[bg L x].av.n (ls)[bg L x].av.c) rfl)) rfl ?_))
  refine SW.ai ?_;refine SF.take 13 [14] [] aJ rfl (by kernel_rfl) (by kernel_rfl) (by kernel_rfl) ?_;repeat (refine SW.pure rfl rfl ?_)
  refine SW.ai ?_;refine SF.one 14 rfl (by kernel_rfl) rfl ?_;refine SW.dR rfl rfl rfl rfl rfl fun b w4 ap hb hB => ?_
  (replace hw:=Ext.trans hw ap;replace aI:=aI.ext ap;replace hR:=hR.ext ap;replace oT:=oT.ext ap);have LZ:w0.heap.size≤w4.heap.size:=hR.size
  refine SW.nil (ah.sf ap ?_);refine SF.turn rfl (by kernel_rfl) rfl ?_;have zF:=hR.own.each.get (bg L x) oS dL;have El:=zF.bM;have Cc:=El.sl.len;refine SW.Ek El (aW.z7 (enc:=bK) hB) hw.size (by decide) rfl rfl rfl (by omega) (by omega) fun A3 c3 w5 n7 hg Hi => ?_
  have hS:=aI.aw (El.gr hg) rfl;have dN:=hR.own.row.aw (El.gr hg) rfl;have N4:=hR.Qu oS _ _ hg oT.at_;replace hw:=aO hw hg (Nat.le_refl _) El.bc;refine SW.nil (ah.sg hS ?_);refine SG.one 16 rfl (by kernel_rfl) rfl ?_;repeat ((show SW _ _ _ _ (⟨_,Op.indexAddr _ _ _,_,_,_,none⟩::_) _ _;refine SW.st (bJ rfl rfl (by assumption) (by omega)) rfl ?_))
  refine SW.nil (ah.sg hS ?_);refine SG.one 17 rfl (by kernel_rfl) rfl ?_;repeat ((show SW _ _ _ _ (⟨_,Op.fieldAddr _ _ _,_,_,_,none⟩::_) _ _;refine SW.st (aP rfl) rfl ?_))
  refine SW.nil (ah.sg hS ?_);refine SG.last rfl (by kernel_rfl) (by kernel_rfl) ?_;refine SW.fH (bg L x) 3 ⟨(ls)[bg L x].fT,(ls)[bg L x].ao,(ls)[bg L x].Ty,⟨A3,(ls)[bg L x].av.n+1,c3⟩⟩ dN rfl rfl rfl dY (by decide) rfl rfl fun w6 gp qT => ?_
  have sO:=dN.gr qT;have N6:=IX _ _ _ qT (fun k e => .inr (.inl e)) N4;replace hw:=aO hw qT (Nat.le_refl _) dN.bc;refine Wz ?_;refine ah.vB rfl ⟨_,rfl,hw,N6,li,(ls).set (bg L x) ⟨(ls)[bg L x].fT,(ls)[bg L x].ao,(ls)[bg L x].Ty,⟨A3,(ls)[bg L x].av.n+1,c3⟩⟩,hS.aw (b:=b1) (t':=41) sO rfl,?_⟩
  have Qx:xw w0.heap.size li ls li ((ls).set (bg L x) ⟨(ls)[bg L x].fT,(ls)[bg L x].ao,(ls)[bg L x].Ty,⟨A3,(ls)[bg L x].av.n+1,c3⟩⟩):=by
   refine xw.pR Az N3 oS (fun g e => ?_);rcases Hi g e with h|h
   ·exact .inl h
   ·exact .inr (Nat.le_trans LZ h)
  refine ⟨?_,Qx⟩;rw [← hR.pR];refine ⟨gp,eK.setAt (R:=od _ w.heap.size) hR.own.each ⟨zF.cpu.trans hR.key.1,zF.iG.trans hR.key.2.1,zF.ty.trans hR.key.2.2,n7.aw sO rfl⟩ fun j h1 h2 na ho=>⟨ho.cpu,ho.iG,ho.ty,?_⟩⟩;refine (ho.bM.grown hg ?_).aw sO rfl;cases eo:aM (ls)[j].av.A (ls)[j].av.c with
  | none=>exact .inl rfl
  | some g =>
    right;intro e;exact hR.sep j oS h1 na g e.symm eo
def gD (n:ByteArray) (c:aF) : Bool:=vX c.Names n
def v9 (z:Int) (c:aF) : Bool:=decide (c.aE=z)
def ag.zero:ag:=⟨[],.zero,[]⟩
def rz (l:List ByteArray) (n:ByteArray) : Nat:=(l.takeWhile fun m=>eI m n).length
theorem uL (l:List ByteArray) (n:ByteArray) : rz l n≤l.length:=by
 unfold rz;exact (List.takeWhile_sublist _).length_le
theorem Jx {l:List ByteArray} {n:ByteArray} {j:Nat} (h:j<rz l n) (hj:j<l.length) : eI l[j] n=true:=by
 unfold rz at h;have h1:(l.takeWhile fun m=>eI m n)[j]=l[j]:=List.IsPrefix.getElem (List.takeWhile_prefix _) h
 rw [← h1];have:=List.all_takeWhile (p:=fun m=>eI m n) (l:=l)
 rw [List.all_eq_true] at this;exact this _ (List.getElem_mem h)
theorem Jy {l:List ByteArray} {n:ByteArray} (h:rz l n<l.length) : eI l[rz l n] n=false:=by
 induction l with
 | nil=>simp at h
 | cons a r ih =>
   unfold rz at h ih ⊢;by_cases e:eI a n=true
   ·simp only [List.takeWhile_cons,e,if_true,List.length_cons] at h ih ⊢;simp only [List.getElem_cons_succ];exact ih (by omega)
   ·have e':eI a n=false:=by simpa using e
    simp [e']
theorem Fm {l:List ByteArray} {n:ByteArray} {k:Nat} (hk:k≤l.length) (h1:∀ j (hj:j<l.length),j<k→eI l[j] n=true) (h2:∀ h:k<l.length,eI l[k] n=false) : rz l n=k:=by
 rcases Nat.lt_trichotomy (rz l n) k with h|h|h
 ·have:=h1 (rz l n) (by omega) h
  rw [Jy (by omega)] at this;cases this
 ·exact h
 ·have:=Jx h (by have:=uL l n;omega)
  rw [h2 (by have:=uL l n;omega)] at this;cases this
def Hj (l:List ByteArray) : Prop := ∀ (i j:Nat) (hi:i<l.length) (hj:j<l.length),i<j→eI l[i] l[j]=true
theorem uH.mr {acc l:List ByteArray} (h:uH acc l) : Hj l:=by
 have:∀ (d i:Nat) (hi:i<l.length) (hj:i+d+1<l.length),eI l[i] l[i+d+1]=true:=by
  intro d;induction d with
  | zero=>intro i hi hj;exact (h.each (i+1) hj).2.2 (by omega)
  | succ d ih =>
    intro i hi hj;exact oL (ih i hi (by omega)) ((h.each (i+(d+1)+1) hj).2.2 (by omega))
 intro i j hi hj lz;obtain ⟨d,rfl⟩ : ∃ d,j=i+d+1:=⟨j-i-1,by omega⟩;exact this d i hi hj
def rA (size align:Int) : Int:=(size+align-1) / align*align
def gR (a:Int) : Prop:=a=1∨a=2∨a=4∨a=8
theorem Jz {size align:Int} (ha:gR align) (h : 1≤size∧size≤64) : size≤rA size align∧rA size align<size+align∧rA size align % align=0∧rA size align≤64:=by
 unfold rA;rcases ha with rfl|rfl|rfl|rfl<;>omega
def iT (s:ag) (n:ByteArray) (z:Int) : aF:=⟨[n],z,(dy z).2.1,(dy z).1,[],List.replicate s.Heap.bw.toNat (-1)⟩
def rB (c:aF) (n:ByteArray) : aF:=⟨aN c.Names (rz c.Names n) n,c.aE,c.bG,c.Order,c.ab,c.ar⟩
theorem pC.x8 {s:ag} {i:Nat} {hi:i<s.aa.length} (h:pC s i hi) (hH:bp s.Heap) (hI:∀ (j:Nat) (h:j<s.aa.length),pC s j h) : s.aa[i].Names.length≤3512479453921:=by
 have h1:=A6 hH i (by omega) (fun j hj _=>hI j hj);have h2:=nE (l:=s.aa[i].Names) h1.1.1 s.aa[i].Names.length (fun k hk _=>(h.names.each k hk).2.1);rw [List.take_length] at h2;refine A4 (List.nodup_append.1 h2).2.1 fun n hn => ?_
 obtain ⟨k,hk,rfl⟩:=List.getElem_of_mem hn;exact (h.names.each k hk).1
inductive nF (s:ag) (n:ByteArray) (size align:Int) : ag×Int→Prop where
 | bad (h:en s=false) : nF s n size align (.zero,8)
 | form (h:en s=true) (hn : ¬ (fy n=true∧gR align)) : nF s n size align (.zero,3)
 | range (h:en s=true) (hn:fy n=true∧gR align) (hs : ¬ (1≤size∧size≤64)) : nF s n size align (.zero,1)
 | fA (h:en s=true) (hn:fy n=true∧gR align) (hs : 1≤size∧size≤64) (ht:s.aa.any (gD n)=true) : nF s n size align (.zero,5)
 | uM {i:Nat} (h:en s=true) (hn:fy n=true∧gR align) (hs : 1≤size∧size≤64) (ht:s.aa.any (gD n)=false) (hi:i<s.aa.length) (hz:s.aa[i].aE=rA size align) (ha:∀ j (hj:j<s.aa.length),j<i→s.aa[j].aE≠rA size align) :
    nF s n size align (⟨s.Words,s.Heap,s.aa.set i (rB s.aa[i] n)⟩,0)
 | full (h:en s=true) (hn:fy n=true∧gR align) (hs : 1≤size∧size≤64) (ht:s.aa.any (gD n)=false) (hz:∀ j (hj:j<s.aa.length),s.aa[j].aE≠rA size align) (hc:s.aa.length=20) : nF s n size align (.zero,9)
 | new (h:en s=true) (hn:fy n=true∧gR align) (hs : 1≤size∧size≤64) (ht:s.aa.any (gD n)=false) (hz:∀ j (hj:j<s.aa.length),s.aa[j].aE≠rA size align) (hc:s.aa.length<20) :
    nF s n size align (⟨s.Words,s.Heap,s.aa++[iT s n (rA size align)]⟩,0)
theorem nF.ir {s:ag} {n:ByteArray} {size align:Int} {u v:ag×Int} (a:nF s n size align u) (b:nF s n size align v) : u=v:=by
 cases a with
 | bad h=>cases b with
   | bad=>rfl
   | form h'|range h'|fA h'|uM h'|full h'|new h'=>rw [h] at h';cases h'
 | form h hn=>cases b with
   | bad h'=>rw [h] at h';cases h'
   | form=>rfl
   | range _ h'|fA _ h'|uM _ h'|full _ h'|new _ h'=>exact absurd h' hn
 | range h hn hs=>cases b with
   | bad h'=>rw [h] at h';cases h'
   | form _ h'=>exact absurd hn h'
   | range=>rfl
   | fA _ _ h'|uM _ _ h'|full _ _ h'|new _ _ h'=>exact absurd h' hs
 | fA h hn hs ht=>cases b with
   | bad h'=>rw [h] at h';cases h'
   | form _ h'=>exact absurd hn h'
   | range _ _ h'=>exact absurd hs h'
   | fA=>rfl
   | uM _ _ _ h'|full _ _ _ h'|new _ _ _ h'=>rw [ht] at h';cases h'
 | @uM i h hn hs ht hi hz ha=>cases b with
   | bad h'=>rw [h] at h';cases h'
   | form _ h'=>exact absurd hn h'
   | range _ _ h'=>exact absurd hs h'
   | fA _ _ _ h'=>rw [ht] at h';cases h'
   | @uM j _ _ _ _ hj lO iY =>
     rcases Nat.lt_trichotomy i j with g|g|g
     ·exact absurd hz (iY i hi g)
     ·subst g;rfl
     ·exact absurd lO (ha j hj g)
   | full _ _ _ _ h'|new _ _ _ _ h'=>exact absurd hz (h' i hi)
 | full h hn hs ht hz hc=>cases b with
   | bad h'=>rw [h] at h';cases h'
   | form _ h'=>exact absurd hn h'
   | range _ _ h'=>exact absurd hs h'
   | fA _ _ _ h'=>rw [ht] at h';cases h'
   | uM _ _ _ _ hi h'=>exact absurd h' (hz _ hi)
   | full=>rfl
   | new _ _ _ _ _ h'=>omega
 | new h hn hs ht hz hc=>cases b with
   | bad h'=>rw [h] at h';cases h'
   | form _ h'=>exact absurd hn h'
   | range _ _ h'=>exact absurd hs h'
   | fA _ _ _ h'=>rw [ht] at h';cases h'
   | uM _ _ _ _ hi h'=>exact absurd h' (hz _ hi)
   | full _ _ _ _ _ h'=>omega
   | new=>rfl
def gE (lo:Nat) (u:ag×Int) (v:Value) (w:World) : Prop := ∃ q,v = .tuple #[.agg (ba q).toArray,.int .i64 u.2]∧lR w lo q u.1
theorem gE.zero (e:Int) (lo:Nat) (w:World) : gE lo (.zero,e) (.tuple #[.agg (ba .zero).toArray,.int .i64 e]) w :=
 ⟨.zero,rfl,Own.gz _ _ _ _ _ _,gZ.zero w lo,⟨[],dV.nil _ _⟩⟩
theorem Heap.jk:Heap.zero.small:=by constructor<;>simp [Heap.zero]
theorem ag.jk:ag.zero.small:=⟨by simp [ag.zero],Heap.jk,by simp [ag.zero],by simp [ag.zero]⟩
theorem nF.small {s:ag} {n:ByteArray} {size align:Int} {u:ag×Int} (a:nF s n size align u) (hs:s.small) : u.1.small:=by
 cases a with
 | bad|form|range|fA|full=>exact ag.jk
 | @uM i h hn k8 ht hi hz ha =>
   have hM:=ie.1 h;have hc:=hs.each _ (List.getElem_mem hi);refine ⟨hs.words,hs.heap,by simp only [List.length_set];exact hs.bR,fun c hm => ?_⟩;rcases List.mem_or_eq_of_mem_set hm with hm|rfl
   ·exact hs.each c hm
   ·have hl:=(hM.each i hi).x8 hM.heap (fun j h=>hM.each j h);refine ⟨?_,hc.aH,hc.a8⟩;simp only [rB];rw [cf _ (uL _ _)];omega
 | new h hn k8 ht hz hc =>
   have hM:=ie.1 h;refine ⟨hs.words,hs.heap,by simp only [List.length_append,List.length_singleton];omega,fun c hm => ?_⟩;rcases List.mem_append.1 hm with hm|hm
   ·exact hs.each c hm
   ·simp only [List.mem_singleton] at hm;subst hm;have:=hM.heap.cpus
    refine ⟨by simp [iT],by simp [iT],?_⟩;simp only [iT,List.length_replicate];omega
open Go.RowKit
open Go.RowKit
open Go.RowKit
open Go.ChangeShapes Go.WideShapes Go.ChangeAt Go.RowKit Go.Deep Go.Joins
theorem own:ownKnob Tryz.prog.godebug=none:=by kernel_rfl
theorem laidOut:laidOutB Tryz.prog=true:=by kernel_rfl
theorem qd {H:Type} {enc:TypeId×Value→H} {P:Program} (hl:laidOutB P=true) {W W':World} (hb:Below W.heap.size W W') :
 ∀ (ts:List TypeId) (vs:List Value) (ds:List (DataW H)) (ps:List MemPlace),(∀ t∈ts,P.readableRec t=true∧t<P.types.size) →
  DataW.TrodAll enc P W 0 (fun _=>true) true ts vs ds ps→(∀ x∈ps,x.block<W.heap.size)→DataW.TrodAll enc P W' 0 (fun b=>decide (b<W.heap.size)) true ts vs ds ps
 | [],[],[],_,_,h,_=>h
 | t::ts,v::vs,d::ds,ps,N7,h,dL=>by
   obtain ⟨p,q,h1,h2,rfl⟩:=h
   exact ⟨p,q,Below.trod hl (N7 t (by simp)).1 (N7 t (by simp)).2 h1 hb (fun x hx=>dL x (by simp [hx])),
    qd hl hb ts vs ds q (fun u hu=>N7 u (by simp [hu])) h2 (fun x hx=>dL x (by simp [hx])),rfl⟩
 | [],_::_,_,_,_,h,_=>by simp [DataW.TrodAll] at h
 | [],[],_::_,_,_,h,_=>by simp [DataW.TrodAll] at h
 | _::_,[],_,_,_,h,_=>by simp [DataW.TrodAll] at h
 | _::_,_::_,[],_,_,h,_=>by simp [DataW.TrodAll] at h
theorem Fo {H:Type} {enc:TypeId×Value→H} {P:Program} {f:Func} {s:ChangeSpec} {RU:FuncId} {W:World} {args:Array Value} {ds gs:List (DataW H)} {before:List MemPlace} {tb:TypeId}
 (hl:laidOutB P=true) (N7:∀ t∈f.params.toList,P.readableRec t=true∧t<P.types.size) (hr:f.resultTypes = #[tb]) (hb:P.underlying tb=some .bool) (hv:s.vars=[])
 (IY:(s.fn H (ds++[])).results=[.lit (.bool true)]∧(s.fn H (ds++[])).args=ds∧(s.fn H (ds++[])).vars=[])
 (hW:DataW.Whole enc P f.params.toList s.vars false W args.toList ds gs before) (h:bq P RU args.toList W fun v _=>v = .bool true) :
 Calls P RU args W fun e W' => ∃ v,e = .returned v∧s.post enc P f false true false false W args v W':=by
 have N8:=hW;obtain ⟨p,q,hA,hV,rfl,_,_⟩:=hW;rw [hv] at hV;obtain ⟨rfl,rfl⟩:=trodVars_none hV;simp only [List.append_nil] at N8;have dL:∀ x∈p,x.block<W.heap.size:=fun x hx=>by simpa using N8.lt x hx
 refine Calls.mono h.out ?_;rintro e W' ⟨v,rfl,hx,rfl⟩
 obtain ⟨s1,s2,s3⟩:=IY;refine ⟨_,rfl,ds,[],p,[],p,[],N8,?_,?_,?_,Below.frame hx _,fun h=>by cases h⟩
 ·rw [s1,hr];exact trodAll_mk1 (shut_bool hb true)
 ·rw [s2];exact qd hl hx _ _ _ _ N7 hA dL
 ·rw [s3,hv]
  rfl
end Go.Proofs.YtbidkghlpijecaaGreatDoor
set_option maxRecDepth 100000
namespace Go.Proofs.YtbidkghlpijecaaGreatDoor
open Go.ChangeShapes Go.WideShapes Go.ChangeAt Go.RowKit Go.Deep Go.Joins
def N9 (z:Int) : Prop := -9223372036854775808≤z∧z≤9223372036854775807
section
variable {H:Type} {enc:TypeId×Value→H} {W:World} {base:Nat} {spare:Nat→Bool} {held:Bool} {fuel:Nat} {cs:List Value} {x:DataW H×List MemPlace}
theorem in64_of_wf {z:Int} (h:(Lit.int .i64 z).wf=true) : N9 z:=by
 have h1:IntKind.i64.min = -9223372036854775808:=rfl
 have h2:IntKind.i64.max=9223372036854775807:=rfl
 simp only [Lit.wf,Bool.and_eq_true,decide_eq_true_eq] at h;unfold N9;omega
end
section
variable {H:Type} {P:Program}
end
section
variable {H:Type} {enc:TypeId×Value→H} {W:World} {base:Nat} {spare:Nat→Bool} {held:Bool} {fuel:Nat} {cs:List Value} {x:DataW H×List MemPlace}
end
end Go.Proofs.YtbidkghlpijecaaGreatDoor
set_option maxRecDepth 100000
namespace Go.Proofs.YtbidkghlpijecaaGreatDoor
open Go.ChangeShapes Go.WideShapes Go.ChangeAt Go.RowKit Go.Deep Go.Joins
section
variable {H:Type} {enc:TypeId×Value→H} {W:World} {base:Nat} {spare:Nat→Bool} {held:Bool} {fuel:Nat} {cs:List Value} {x:DataW H×List MemPlace}
end
end Go.Proofs.YtbidkghlpijecaaGreatDoor
set_option maxRecDepth 100000
namespace Go.Proofs.YtbidkghlpijecaaGreatDoor
open Go.ChangeShapes Go.WideShapes Go.ChangeAt Go.RowKit Go.Deep Go.Joins
section
variable {H:Type} {enc:TypeId×Value→H} {W:World} {base:Nat} {spare:Nat→Bool} {held:Bool} {fuel:Nat} {cs:List Value} {x:DataW H×List MemPlace}
end
open Go.RowKit
open Go.RowKit
theorem ud (A:Option Addr) (n c:Nat) (l:List ByteArray) (x:ByteArray) (w:World) (hl:Sl w 1 encStr A n l) (hn:n≤9223372036854775807) :
 bq Tryz.prog 188 [.slice A n c,.string x] w fun v _ => ∃ i:Int,v = .int .i64 i∧decide (0≤i)=vX l x:=by
 refine aG Tryz.func188 rfl Tryz.ntmps188 rfl ?_;have hw:=Ext.refl w;have hA:=hl.base;have pp:=hl.len;refine Wz ?_
 refine CW.loop (fun k:Nat=>[(0,.slice A n c),(1,.string x),(7,.int .i64 (n:Int)),(8,.int .i64 (k:Int))]) (fun k w'=>k≤n∧Ext w w' ∧ ∀ (i:Nat) (h:i<l.length),i<k→l[i]≠x)
  (fun k=>n-k) 0 ⟨rfl,rfl,rfl,rfl,trivial⟩ ⟨by omega,hw,fun i h hi=>by omega⟩ ?_
 clear hw;rintro k w' ⟨hk,hw,hI⟩
 by_cases dY:k<n
 ·by_cases hx:x=l[k]
  ·repeat' (first|refine Wz ?_|refine SW.st (aT hw rfl (hl.one dY rfl)) rfl ?_|(refine SW.st ((lD rfl rfl).eq (congrArg Value.bool (decide_eq_true hx))) rfl ?_))
   refine ah.aY rfl rfl ⟨_,rfl,hw,_,rfl,?_⟩;rw [iR.2 (hx ▸ List.getElem_mem (hl.lt dY))];simp
  ·repeat' (first|refine Wz ?_|refine SW.st (aT hw rfl (hl.one dY rfl)) rfl ?_|(refine SW.st ((lD rfl rfl).eq (congrArg Value.bool (decide_eq_false hx))) rfl ?_))
   refine ah.again (k+1) ⟨rfl,rfl,rfl,rfl,trivial⟩ (by omega) ⟨by omega,hw,fun i h' hi => ?_⟩;by_cases z9:i=k
   ·subst z9;exact fun e=>hx e.symm
   ·exact hI i h' (by omega)
 ·refine Wz ?_;refine ah.aY rfl rfl ⟨_,rfl,hw,_,rfl,?_⟩
  have hx:vX l x=false:=by
   cases e:vX l x
   ·rfl
   ·obtain ⟨i,hi,e⟩:=List.getElem_of_mem (iR.1 e);exact absurd e (hI i hi (by omega))
  rw [hx];simp
theorem lH (A:Option Addr) (n c:Nat) (l:List ByteArray) (x:ByteArray) (w:World) (hl:Sl w 1 encStr A n l) (hn:n≤9223372036854775807) :
 bq Tryz.prog 98 [.slice A n c,.string x] w fun v _=>v = .bool (vX l x):=by
 refine aG Tryz.func98 rfl Tryz.ntmps98 rfl ?_;have hw:=Ext.refl w;refine Wz ?_;refine SW.call rfl rfl (ud _ _ _ _ _ _ (hl.ext hw) hn) fun v w1 ae hv => ?_
 obtain ⟨i,rfl,hi⟩:=hv;replace hw:=Ext.trans hw ae;refine Wz ?_;exact ah.aY rfl rfl ⟨_,rfl,hw,by rw [hi]⟩
theorem oU {α β:Type} {p : α → Bool} {q : β → Bool} {l:List α} {m:List β} (hl:l.length=m.length) (h:∀ (k:Nat) (h1:k<l.length) (h2:k<m.length),p l[k]=q m[k]) : idxOf p l=idxOf q m∧l.any p=m.any q:=by
 have e:l.map p=m.map q:=List.ext_getElem (by simp [hl]) fun k h1 h2=>by simpa using h k (by simpa using h1) (by simpa using h2)
 have a1:l.any p=m.any q:=by
  have x1:(l.map p).any id=l.any p:=by rw [List.any_map];rfl
  have x2:(m.map q).any id=m.any q:=by rw [List.any_map];rfl
  rw [← x1,← x2,e]
 have a2:l.findIdx p=m.findIdx q:=by
  have x1:(l.map p).findIdx id=l.findIdx p:=by rw [List.findIdx_map];rfl
  have x2:(m.map q).findIdx id=m.findIdx q:=by rw [List.findIdx_map];rfl
  rw [← x1,← x2,e]
 unfold idxOf;rw [a1,a2];exact ⟨rfl,rfl⟩
theorem CT {w:World} {A:Option Addr} {n:Nat} {l l':List ByteArray} (h:Sl w 1 encStr A n l) (h':Sl w 1 encStr A n l') : l=l':=by
 have e1:=h.len;have e2:=h'.len;refine List.ext_getElem (by omega) fun k h1 h2 => ?_
 have a:=h.one (i:=k) (by omega) (u := .string l[k]) rfl;have b:=h'.one (i:=k) (by omega) (u := .string l'[k]) rfl;rw [a] at b;simpa using b
theorem Fp (w:World) (n:ByteArray) : ∃ p:dv→Bool,∀ x c,CF w x c→p x=gD n c:=by
 classical
 refine ⟨fun x=>decide (∃ c,CF w x c∧gD n c=true),fun x c h => ?_⟩;cases e:gD n c
 ·refine decide_eq_false ?_;rintro ⟨c',h',e'⟩
  unfold gD at e e';rw [CT h'.names h.names,e] at e';cases e'
 ·exact decide_eq_true ⟨c,h,e⟩
theorem CU (x:dv) (c:aF) (b3:Nat) (n:ByteArray) (w:World) (h3:aW w b3 9 [.string n]) (hx:CF w x c) (hn:x.Names.n≤9223372036854775807) :
 bq Tryz.prog 204 ([.agg (eA x).toArray]++[.pointer (some ⟨b3,0,none⟩)]) w fun v _=>v = .bool (gD n c):=by
 refine aG Tryz.func204 rfl Tryz.ntmps204 rfl ?_;refine CW.seq (CW.region (SW.box rfl rfl fun b1 w1 hw jh aI => ?_));replace h3:=h3.ext hw;have Kx:=h3.cell (i:=0) (v := .string n) rfl;rw [add_zero] at Kx;repeat' (first|refine Wz ?_|refine SW.st (aq rfl Kx) rfl ?_|(refine SW.call rfl rfl (lH _ _ _ _ _ _ (hx.names.ext hw) hn) ?_;intro v w1 ae hv;subst hv;replace hw:=Ext.trans hw ae;replace aI:=aI.ext ae;clear ae))
 exact ah.aY rfl rfl ⟨_,rfl,hw,rfl⟩
theorem x9 (r:eQ) (s:ag) (n:ByteArray) (w:World) (hr:Ab w r s) (hs:s.small) :
 bq Tryz.prog 136 [.agg (ba r).toArray,.string n] w fun v _=>v = .tuple #[.int .i64 (idxOf (gD n) s.aa),.bool (s.aa.any (gD n))]:=by
 refine aG Tryz.func136 rfl Tryz.ntmps136 rfl ?_;obtain ⟨cs,hc⟩:=hr.bR;obtain ⟨z1,z2⟩:=hc.len;have m3:=hs.bR;obtain ⟨p,hp⟩:=Fp w n;have qe:=oU (p:=p) (q:=gD n) (l:=cs) (m:=s.aa) (by omega) fun k h1 h2=>hp _ _ (hc.each.get k h1 h2)
 refine CW.seq (CW.region (SW.box rfl rfl fun b2 w1 hw j0 aD => ?_));refine SW.Gu rfl rfl rfl fun b3 w2 bF bQ ax => ?_
 (replace hw:=Ext.trans hw bF;replace aD:=aD.ext bF);repeat' (first|refine Wz ?_|(refine SW.st (gI (vs:=[.pointer (some ⟨b3,0,none⟩)]) rfl) rfl ?_))
 refine SW.call rfl rfl (jM _ _ _ _ _ (hc.row.ext hw) _ [.pointer (some ⟨b3,0,none⟩)] p (fun x => .agg (eA x).toArray) (fun x=>rfl) (fun x hx w1 jn=>by
  obtain ⟨k,hk,rfl⟩:=List.getElem_of_mem hx;have j6:k<s.aa.length:=by omega
  have iS:=hc.each.get k hk j6;have q1:=(hs.each _ (List.getElem_mem j6)).names;have q2:=iS.names.len;rw [hp _ _ iS];exact CU _ _ b3 n w1 (ax.ext jn) (iS.ext (Ext.trans hw jn)) (by omega)) (by omega)) fun v w4 eM hv => ?_
 subst hv;rw [qe.1];replace hw:=Ext.trans hw eM;have Lj:=kz (gD n) s.aa;refine Wz ?_;all_goals exact ah.cb rfl rfl rfl ⟨_,rfl,hw,by rw [Lj]⟩
theorem CV (x:ByteArray) (w:World) : bq Tryz.prog 239 [.string x] w fun v _=>v = .bool false:=by
 refine aG Tryz.func239 rfl Tryz.ntmps239 rfl ?_;have hw:=Ext.refl w;repeat' (first|refine Wz ?_|(refine SW.st ((xQ rfl rfl).eq (congrArg Value.bool (decide_eq_false (fun h=>h rfl)))) rfl ?_))
 exact ah.aY rfl rfl ⟨_,rfl,hw,rfl⟩
theorem CX (x:ByteArray) (w:World) : bq Tryz.prog 206 [.string x] w fun v _=>v = .bool false:=by
 refine aG Tryz.func206 rfl Tryz.ntmps206 rfl ?_;have hw:=Ext.refl w;repeat' (first|refine Wz ?_|(refine SW.st ((xQ rfl rfl).eq (congrArg Value.bool (decide_eq_false (fun h=>h rfl)))) rfl ?_))
 exact ah.aY rfl rfl ⟨_,rfl,hw,rfl⟩
theorem Bb (x y:ByteArray) (w:World) : bq Tryz.prog 205 [.string x,.string y] w fun v _=>v = .bool (eI x y):=by
 refine aG Tryz.func205 rfl Tryz.ntmps205 rfl ?_;have hw:=Ext.refl w;repeat' (first|refine Wz ?_|(refine SW.call rfl rfl (CV _ _) ?_;intro v w1 ae hv;subst hv;replace hw:=Ext.trans hw ae;clear ae)|(refine SW.st (GW rfl rfl) rfl ?_))
 exact ah.aY rfl rfl ⟨_,rfl,hw,rfl⟩
theorem CY (A:Option Addr) (n c:Nat) (l:List ByteArray) (x:ByteArray) (w:World) (hl:Sl w 1 encStr A n l) (hs:Hj l) (hn:n≤1000000000000000000) :
 bq Tryz.prog 139 [.slice A n c,.string x] w fun v _ => ∃ b,v = .tuple #[.int .i64 (rz l x:Int),.bool b]:=by
 refine aG Tryz.func139 rfl Tryz.ntmps139 rfl ?_;have hw:=Ext.refl w;have hA:=hl.base;have pp:=hl.len;refine Wz ?_
 refine CW.loop (fun s:Nat×Nat=>[(0,.slice A n c),(1,.string x),(6,.int .i64 (n:Int)),(7,.int .i64 (s.1:Int)),(8,.int .i64 (s.2:Int))])
  (fun s w'=>s.1≤s.2∧s.2≤n∧Ext w w'∧(∀ (k:Nat) (h:k<l.length),k<s.1→eI l[k] x=true)∧(∀ (k:Nat) (h:k<l.length),s.2≤k→eI l[k] x=false)) (fun s=>s.2-s.1) (0,n)
  ⟨rfl,rfl,rfl,rfl,rfl,trivial⟩ ⟨by omega,by omega,hw,fun k h h'=>by omega,fun k h h'=>by omega⟩ ?_
 clear hw;rintro ⟨i,j⟩ w' ⟨lz,nd,hw,hI,hJ⟩
 simp only at lz nd hI hJ ⊢;by_cases dL:i<j
 ·have hk:(i+j) / 2<n:=by omega
  have fe:=hl.lt hk;obtain ⟨q,hq⟩ : ∃ q,eI (l[(i+j) / 2]) x=q:=⟨_,rfl⟩
  have cL:∀ w',bq Tryz.prog 205 [.string (l[(i+j) / 2]),.string x] w' fun v _=>v = .bool q:=fun w'=>by
   have:=Bb (l[(i+j) / 2]) x w'
   rwa [hq] at this
  cases q
  ·repeat' (first|refine Wz ?_|refine SW.st (aT hw rfl (hl.one hk rfl)) rfl ?_|(refine SW.call rfl rfl (cL _) ?_;intro v w1 ae hv;subst hv;replace hw:=Ext.trans hw ae;clear ae)|(refine SW.st ((kB Tryz.underlying3 kA rfl).eq (congrArg (Value.int .u64) (wrap_u64 (by omega) (by omega)))) rfl ?_)|(refine SW.st ((kB kA Tryz.underlying3 rfl).eq (congrArg (Value.int .i64) (gf (by omega) (by omega)))) rfl ?_)|(refine SW.st (uB rfl rfl) rfl ?_))
   refine ah.again (i,(i+j) / 2) ⟨rfl,rfl,rfl,rfl,congrArg (fun z=>some (Value.int .i64 z)) (by omega),trivial⟩ (by simp only;omega) ⟨by simp only;omega,by simp only;omega,hw,hI,fun k h h' => ?_⟩;simp only at h';by_cases e:k=(i+j) / 2
   ·subst e;exact hq
   ·cases c:eI l[k] x
    ·rfl
    ·have:=oL (hs ((i+j) / 2) k fe h (by omega)) c
     rw [hq] at this;cases this
  ·repeat' (first|refine Wz ?_|refine SW.st (aT hw rfl (hl.one hk rfl)) rfl ?_|(refine SW.call rfl rfl (cL _) ?_;intro v w1 ae hv;subst hv;replace hw:=Ext.trans hw ae;clear ae)|(refine SW.st ((kB Tryz.underlying3 kA rfl).eq (congrArg (Value.int .u64) (wrap_u64 (by omega) (by omega)))) rfl ?_)|(refine SW.st ((kB kA Tryz.underlying3 rfl).eq (congrArg (Value.int .i64) (gf (by omega) (by omega)))) rfl ?_)|(refine SW.st (uB rfl rfl) rfl ?_))
   refine ah.again ((i+j) / 2+1,j) ⟨rfl,rfl,rfl,congrArg (fun z=>some (Value.int .i64 z)) (by omega),rfl,trivial⟩ (by simp only;omega) ⟨by simp only;omega,nd,hw,fun k h h' => ?_,hJ⟩;simp only at h';by_cases e:k=(i+j) / 2
   ·subst e;exact hq
   ·exact oL (hs k ((i+j) / 2) h fe (by omega)) hq
 ·obtain rfl:i=j:=by omega
  have hp:rz l x=i:=Fm (by omega) (fun j hj h=>hI j hj h) (fun h=>hJ i h (by omega))
  rw [hp];by_cases df:i<n
  ·by_cases he:l[i]'(hl.lt df)=x
   ·repeat' (first|refine Wz ?_|refine SW.st (aT hw rfl (hl.one df rfl)) rfl ?_|(refine SW.st ((lD rfl rfl).eq (congrArg Value.bool (decide_eq_true he))) rfl ?_))
    exact ah.cb rfl rfl rfl ⟨_,rfl,hw,_,rfl⟩
   ·repeat' (first|refine Wz ?_|refine SW.st (aT hw rfl (hl.one df rfl)) rfl ?_|(refine SW.call rfl rfl (CX _ _) ?_;intro v w1 ae hv;subst hv;replace hw:=Ext.trans hw ae;clear ae)|(refine SW.st ((lD rfl rfl).eq (congrArg Value.bool (decide_eq_false he))) rfl ?_))
    exact ah.cb rfl rfl rfl ⟨_,rfl,hw,_,rfl⟩
  ·refine Wz ?_;exact ah.cb rfl rfl rfl ⟨_,rfl,hw,_,rfl⟩
open Go.RowKit
theorem pF:∀ (vs X Y Z:List Value),vs.length=Y.length→setAt (X++Y++Z) X.length vs=X++vs++Z
 | [],X,Y,Z,h=>by
   have:Y=[]:=List.length_eq_zero_iff.1 (by simpa using h.symm)
   subst this;rfl
 | v::r,X,[],Z,h=>by simp at h
 | v::r,X,y::Y,Z,h=>by
   have e:=pF r (X++[v]) Y Z (by simpa using h);simp only [List.length_append,List.length_singleton] at e;simp only [setAt]
   have e2:(X++(y::Y)++Z).set X.length v=X++[v]++Y++Z:=by
    rw [List.append_assoc,List.set_append_right _ _ (Nat.le_refl _)];simp
   rw [e2,e];simp
theorem Hk {sz:Nat} {u v:Value} {cs ds Z:List Value} (hu:u.cells.toList=cs) (hv:v.cells.toList=ds) (hc:cs.length=sz) (hd:ds.length=sz) (hZ:Z.length=2*sz) :
 Instr.fill (fun i=>some (i*sz,sz)) Z.toArray [(0,u),(1,v)]=some (cs++ds).toArray:=by
 have h1:u.cells.size=sz:=by rw [← Array.length_toList,hu,hc]
 have h2:v.cells.size=sz:=by rw [← Array.length_toList,hv,hd]
 have eZ:Z=[]++Z.take sz++Z.drop sz:=by simp
 have s1:setAt Z 0 cs=cs++Z.drop sz:=by
  have:=pF cs [] (Z.take sz) (Z.drop sz) (by simp;omega)
  rw [← eZ] at this;simpa using this
 have s2:setAt (cs++Z.drop sz) sz ds=cs++ds:=by
  have:=pF ds cs (Z.drop sz) [] (by simp;omega)
  rw [List.append_nil,hc] at this;simpa using this
 have fold:∀ (x:Value) (off:Nat) (X:List Value),Array.foldl (fun (cs:Array Value) (p:Value×Nat)=>cs.setIfInBounds (off+p.2) p.1) X.toArray x.cells.zipIdx=(setAt X off x.cells.toList).toArray:=fun x off X=>by
  have:=nf x.cells.toList 0 off X
  rw [Nat.add_zero] at this;rw [← this,← Array.foldl_toList];simp [Array.toList_zipIdx]
 simp only [Instr.fill];rw [if_neg (by simp;omega)];have f1:=fold u (0*sz) Z;rw [hu,Nat.zero_mul,s1] at f1;have f2:=fold v (1*sz) (cs++Z.drop sz);rw [hv,Nat.one_mul,s2] at f2;simp only [Nat.zero_mul,Nat.one_mul] at f1 f2 ⊢;simp only [f1,f2];rw [if_neg (by simp;omega)]
theorem SW.wa {α:Type} {P:Program} {n:Nat} {ops:Array Oper} {Q:Exit→Act→World→Prop} {rest:List Oper} {L:Env} {w:World} {d:Nat} {T:TypeId} {pos:String} {af:Array Edge} {t e:TypeId} {z:Value} {sz bytes:Nat} {enc : α → List Value}
 [S:bj P t e sz] [E:dj P e z sz bytes] [C:fP enc sz] {x y:Operand} {u v:Value} (a b : α) (hx:cg L x=some u) (hy:cg L y=some v) (hu:u.cells.toList=enc a) (hv:v.cells.toList=enc b) (hs:Nat.ble sz 1000=true)
 (hn:Nat.blt d n=true) (h:∀ g w',Ext w w'→w.heap.size≤g→Own w' w.heap.size e sz enc (some ⟨g,0,none⟩) 2 2 [a,b]→SW P n ops (.gw Q) rest ((d,.slice (some ⟨g,0,none⟩) 2 2)::L) w') :
 SW P n ops (.gw Q) (⟨some d,.buildSlice t 2 #[(0,x),(1,y)],T,pos,af,none⟩::rest) L w :=
 ⟨fun q hq=>by
  obtain ⟨i,hi,hz,k8,xb⟩:=dQ P e (z:=z) (sz:=sz) (bytes:=bytes);have hle:sz≤1000:=by simpa using hs
  have hp : 0<sz:=E.pos
  simp only [swp];refine wpList_buildSlice rfl t e 2 _ rfl (enc a++enc b).toArray i z S.mB hi hz (by rw [k8];omega) (by rw [k8];omega) ?_ ?_
  ·have e1:(Array.map (fun (p:Nat×Operand)=>(p.1,q.eval p.2)) #[(0,x),(1,y)]).toList=[(0,u),(1,v)]:=by
    simp [hq.eval hx,hq.eval hy]
   have e2:∀ X:Array Value,X=X.toList.toArray:=fun X=>rfl
   rw [e1,e2 (Array.map _ (Array.range _)),k8];exact Hk hu hv (C.len a) (C.len b) (by simp)
  ·refine (h w.heap.size _ (Ext.alloc w _) (Nat.le_refl _) ⟨rfl,.inr ⟨by omega,w.heap.size,_,rfl,Nat.le_refl _,aW.new w e (enc a++enc b),Nat.le_refl _,by simp only [maxLen];omega,by simp [C.len];omega,?_⟩⟩).out _ (hq.put hn _);simp only [List.flatMap_cons,List.flatMap_nil,List.append_nil];exact List.take_of_length_le (by simp [C.len];omega)⟩
open Go.RowKit
section
variable {P:Program} {L:Env} {w:World} {d:Option Nat} {T:TypeId} {pos:String} {af:Array Edge} {g:Option (Nat×Bool)}
theorem Bc {t:TypeId} [c:D8 P t] {x lo hi:Operand} {s r:ByteArray} {i j:Int} (hx:cg L x=some (.string s)) (gB:cg L lo=some (.int .i64 i)) (TK:cg L hi=some (.int .i64 j)) (h0 : 0≤i) (h1:i≤j) (h2:j≤s.size) (hr:s.extract i.toNat j.toNat=r) :
 St P ⟨d,.slice t x (some lo) (some hi) none,T,pos,af,g⟩ L w (.string r) :=
 ⟨fun _ a ha w' _=>by
  subst hr;have e1:=ha.eval hx;have e2:=ha.eval gB;have e3:=ha.eval TK;have h3:i≤(j.toNat:Int):=by omega
  have h4 : ¬ max j 0<i:=by omega
  generalize a.eval = ρ at *
  simp [execOp,e1,e2,e3,Instr.sliceAt,Instr.slice,Instr.sliceBounds,Instr.sliceBound,asIntOf,run_underlying c.mB,h0,h1,h2,h3,h4,show 0≤j by omega]⟩
theorem Fq {t ty:TypeId} {x y:Operand} {s r:ByteArray} (hx:cg L x=some (.string s)) (hy:cg L y=some (.string r)) (hb:s.size+r.size≤9223372036854775807) : St P ⟨d,.binOp .add t x y ty,T,pos,af,g⟩ L w (.string (s++r)) :=
 ⟨fun _ a ha w' _=>by
  have e1:=ha.eval hx;have e2:=ha.eval hy;generalize a.eval = ρ at *
  have h1 : ¬ IntKind.i64.max<((s.size+r.size:Nat) : Int):=by
   have:IntKind.i64.max=9223372036854775807:=rfl
   omega
  simp only [Int.natCast_add] at h1;simp [go_sem,e1,e2,Op.stringOp,h1];omega⟩
theorem Bd {t e:TypeId} {len sz:Nat} [c:va P t len e sz] {x:Operand} {ad:Addr} (hx:cg L x=some (.pointer (some ad))) : St P ⟨d,.slice t x none none none,T,pos,af,g⟩ L w (.slice (some ad) len len) :=
 ⟨fun _ a ha w' _=>by
  have e1:=ha.eval hx;generalize a.eval = ρ at *
  simp [execOp,e1,Instr.sliceAt,Instr.sureAddr,Instr.sliceBounds,run_underlying c.mB,run_sizeOf c.size,add_zero]⟩
end
open Go.RowKit
def kL:List Int:=[1,2,4,8,16,32]
def Fs (k:Int) : ByteArray:=if k=1 then ⟨#[49]⟩ else if k=2 then ⟨#[50]⟩ else if k=4 then ⟨#[52]⟩ else if k=8 then ⟨#[56]⟩ else if k=16 then ⟨#[49,54]⟩ else ⟨#[51,50]⟩
def kh (k:Int) : ByteArray:=if k=1 then ⟨#[107,49]⟩ else if k=2 then ⟨#[107,50]⟩ else if k=4 then ⟨#[107,52]⟩ else if k=8 then ⟨#[107,56]⟩ else if k=16 then ⟨#[107,49,54]⟩ else ⟨#[107,51,50]⟩
theorem rC {k:Int} (h:k∈kL) : k=1∨k=2∨k=4∨k=8∨k=16∨k=32:=by simpa [kL] using h
theorem Ft (k:Int) (hk:k∈kL) (w:World) : bq Tryz.prog 258 [.int .i64 k] w fun v _=>v = .string (Fs k):=by
 refine aG Tryz.func258 rfl Tryz.ntmps258 rfl ?_;have hw:=Ext.refl w;rcases rC hk with rfl|rfl|rfl|rfl|rfl|rfl
 all_goals
  refine Wz ?_;refine SW.st (Bc rfl rfl rfl (by decide) (by decide) (of_decide_eq_true (by kernel_rfl)) rfl) rfl ?_;refine Wz ?_;exact ah.aY rfl rfl ⟨_,rfl,hw,congrArg Value.string (by kernel_rfl)⟩
theorem xy (k:Int) (hk:k∈kL) (w:World) : bq Tryz.prog 241 [.int .i64 k,.int .i64 10] w fun v _=>v = .string (Fs k):=by
 refine aG Tryz.func241 rfl Tryz.ntmps241 rfl ?_;have hw:=Ext.refl w;have j6 : 1≤k∧k≤32:=by rcases rC hk with h|h|h|h|h|h<;>omega
 repeat' (first|refine Wz ?_|(refine SW.call rfl rfl (Ft k hk _) ?_;intro v w1 ae hv;subst hv;replace hw:=Ext.trans hw ae;clear ae))
 exact ah.aY rfl rfl ⟨_,rfl,hw,rfl⟩
theorem Fu (k:Int) (hk:k∈kL) (w:World) : bq Tryz.prog 209 [.int .i64 k] w fun v _=>v = .string (Fs k):=by
 refine aG Tryz.func209 rfl Tryz.ntmps209 rfl ?_;have hw:=Ext.refl w;repeat' (first|refine Wz ?_|(refine SW.call rfl rfl (xy k hk _) ?_;intro v w1 ae hv;subst hv;replace hw:=Ext.trans hw ae;clear ae))
 exact ah.aY rfl rfl ⟨_,rfl,hw,rfl⟩
theorem Hl (k:Int) (hk:k∈kL) (w:World) : bq Tryz.prog 142 [.int .i64 k] w fun v _=>v = .string (Fs k):=by
 refine aG Tryz.func142 rfl Tryz.ntmps142 rfl ?_;have hw:=Ext.refl w;repeat' (first|refine Wz ?_|(refine SW.call rfl rfl (Fu k hk _) ?_;intro v w1 ae hv;subst hv;replace hw:=Ext.trans hw ae;clear ae))
 exact ah.aY rfl rfl ⟨_,rfl,hw,rfl⟩
theorem sP (k:Int) (hk:k∈kL) (w:World) : bq Tryz.prog 59 [.int .i64 k] w fun v _=>v = .string (kh k):=by
 refine aG Tryz.func59 rfl Tryz.ntmps59 rfl ?_;have hw:=Ext.refl w;have e:(⟨#[107]⟩ : ByteArray)++Fs k=kh k:=by rcases rC hk with rfl|rfl|rfl|rfl|rfl|rfl<;>kernel_rfl
 have hs:(⟨#[107]⟩ : ByteArray).size+(Fs k).size≤9223372036854775807:=by rcases rC hk with rfl|rfl|rfl|rfl|rfl|rfl<;>decide
 repeat' (first|refine Wz ?_|(refine SW.call rfl rfl (Hl k hk _) ?_;intro v w1 ae hv;subst hv;replace hw:=Ext.trans hw ae;clear ae)|(refine SW.st ((Fq rfl rfl hs).eq (congrArg Value.string e)) rfl ?_))
 exact ah.aY rfl rfl ⟨_,rfl,hw,rfl⟩
def oV (c:aF) : Bool:=kL.any fun k=>gD (kh k) c
structure iK (w:World) : Prop where
 sl:Sl w 1 bK (some ⟨0,0,none⟩) 6 kL
theorem iK.ext {w w':World} (h:iK w) (hx:Ext w w') : iK w':=⟨h.sl.ext hx⟩
theorem Fv (k:Int) (hk:k∈kL) (x:dv) (c:aF) (b1:Nat) (w:World) (h1:aW w b1 89 (eA x)) (hx:CF w x c) (hn:x.Names.n≤9223372036854775807) :
 bq Tryz.prog 97 ([.int .i64 k]++[.pointer (some ⟨b1,0,none⟩)]) w fun v _=>v = .bool (gD (kh k) c):=by
 refine aG Tryz.func97 rfl Tryz.ntmps97 rfl ?_;have hw:=Ext.refl w;repeat' (first|refine Wz ?_|((apply CW.bl mixed;(· kernel_rfl);rotate_left;intro w1 ae;replace hw:=Ext.trans hw ae;clear ae;rotate_right))|refine SW.cx rfl rfl (fun w1 ae=>(sP k hk _)) ?_|refine SW.cx rfl rfl (fun w1 ae=>(lH _ _ _ _ _ _ (hx.names.ext (Ext.trans hw ae)) hn)) ?_|exact SW.dF rfl)
 exact ah.aY rfl rfl ⟨_,rfl,hw,rfl⟩
theorem wc (x:dv) (c:aF) (w:World) (hx:CF w x c) (hn:x.Names.n≤9223372036854775807) (hS:iK w) :
 bq Tryz.prog 43 [.agg (eA x).toArray] w fun v _=>v = .bool (oV c):=by
 refine aG Tryz.func43 rfl Tryz.ntmps43 rfl ?_;refine CW.seq (CW.region (SW.box rfl rfl fun b1 w1 hw jh aI => ?_));repeat' (first|refine Wz ?_|refine SW.st (Bd rfl) rfl ?_|(refine SW.st (gI (vs:=[.pointer (some ⟨b1,0,none⟩)]) rfl) rfl ?_))
 refine SW.call rfl rfl (fF _ _ _ kL _ (hS.sl.ext hw) _ [.pointer (some ⟨b1,0,none⟩)] (fun k=>gD (kh k) c) (fun k => .int .i64 k) (fun k=>rfl) (fun k hk w1 jn=>Fv k hk x c b1 w1 (aI.ext jn) (hx.ext (Ext.trans hw jn)) hn) (by omega)) fun v w4 eM hv => ?_
 subst hv;replace hw:=Ext.trans hw eM;refine Wz ?_;exact ah.aY rfl rfl ⟨_,rfl,hw,rfl⟩
def jQ (n:Int) : ByteArray:=if n≤1 then kh 1 else if n≤2 then kh 2 else if n≤4 then kh 4 else if n≤8 then kh 8 else if n≤16 then kh 16 else if n≤32 then kh 32 else ⟨#[]⟩
open Go.RowKit
theorem Be : Tryz.prog.globalNamed "paddock/kmem.sizes" = some 0 := by kernel_rfl
theorem CZ:(Tryz.prog.globals[0]?).map (·.type)=some 111:=by kernel_rfl
set_option maxRecDepth 100000 in
theorem Bf {W:World} {cs:List Value} {fuel:Nat} {p:List MemPlace} {enc:TypeId×Value→Unit} {base:Nat} {spare:Nat→Bool} {held:Bool} (h:DataW.trod enc Tryz.prog W base spare held fuel 111 cs=some (Rows.laid_paddock_kmem_sizes,p)) :
 cs=[.int .i64 1,.int .i64 2,.int .i64 4,.int .i64 8,.int .i64 16,.int .i64 32]:=by
 have c6:Tryz.prog.cellsOf 111=6:=by kernel_rfl
 have c1:Tryz.prog.cellsOf 3=1:=by kernel_rfl
 obtain ⟨xs,m,rfl,hx,hlen,hn,Gg⟩:=DataW.trod_array Tryz.underlying111 h;rw [c6] at hlen;rw [c1] at Gg;simp only [Prod.mk.injEq] at hx
 have one:∀ (a:Value) (u:Int) (x:DataW Unit×List MemPlace),DataW.trod enc Tryz.prog W base spare held m 3 [a]=some x→x.1 = .lit (.int .i64 u)→a = .int .i64 u:=by
  intro a u x hx e;obtain ⟨z0,e0,f0,_⟩:=DataW.trod_int Tryz.underlying3 hx;rw [f0] at e;simp at e e0;rw [e0,e]
 match cs,hlen,xs,hn with
 | [a,b,c,d,e,f],_,[x0,x1,x2,x3,x4,x5],_ =>
   have jn:=hx.1;simp only [Rows.laid_paddock_kmem_sizes,List.map_cons,List.map_nil,DataW.agg.injEq,List.cons.injEq,and_true] at jn;obtain rfl:=one a 1 x0 (Gg 0 (by decide)) jn.1.symm;obtain rfl:=one b 2 x1 (Gg 1 (by decide)) jn.2.1.symm;obtain rfl:=one c 4 x2 (Gg 2 (by decide)) jn.2.2.1.symm;obtain rfl:=one d 8 x3 (Gg 3 (by decide)) jn.2.2.2.1.symm;obtain rfl:=one e 16 x4 (Gg 4 (by decide)) jn.2.2.2.2.1.symm;obtain rfl:=one f 32 x5 (Gg 5 (by decide)) jn.2.2.2.2.2.symm
   rfl
theorem Hm {W : World} {ps : List MemPlace} (h : DataW.LaidVars Tryz.prog W [("paddock/kmem.sizes", Rows.laid_paddock_kmem_sizes)] ps) : iK W := by
 obtain ⟨g0,t0,xz,f0,p0,q0,Ge,Pm,M9,O8,_⟩:=h;obtain rfl:=Option.some.inj (Be.symm.trans Ge);obtain rfl:=Option.some.inj (CZ.symm.trans Pm);have hc:=Bf O8
 have tw:∀ i,W.cell? ⟨0,i,none⟩=xz.toList[i]?:=fun i=>by
  have:=World.var?_cell Ge M9 i
  simpa using this
 refine ⟨⟨rfl,fun _=>rfl,fun i hi j u hu => ?_⟩⟩;have Qy:i<6:=hi
 rw [add_add];show W.cell? ((⟨0,0,none⟩ : Addr).add _)=_
 rw [ck,tw,hc]
 have hj:j=0:=by
  rcases Nat.eq_zero_or_pos j with h|h
  ·exact h
  ·rw [List.getElem?_eq_none (by simp [bK];omega)] at hu;cases hu
 subst hj;rcases (show i=0∨i=1∨i=2∨i=3∨i=4∨i=5 by omega) with rfl|rfl|rfl|rfl|rfl|rfl
 all_goals simpa [kL,bK] using hu
open Go.RowKit
theorem Fw {W : World} {ps : List MemPlace} (h : DataW.LaidVars Tryz.prog W [("paddock/buddy.others", Rows.laid_paddock_buddy_others)] ps) : nq W := by
 obtain ⟨g0,t0,xz,f0,p0,q0,Ge,Pm,M9,O8,_⟩:=h;obtain rfl:=Option.some.inj (zo.symm.trans Ge);obtain rfl:=Option.some.inj (AG.symm.trans Pm);have hc:=zp O8;refine ⟨fun k hk j v hv => ?_⟩
 have tw:∀ i,W.cell? ⟨1,i,none⟩=xz.toList[i]?:=fun i=>by
  have:=World.var?_cell Ge M9 i
  simpa using this
 rw [add_add,ck,tw,hc];rcases (show k=0∨k=1∨k=2 by omega) with rfl|rfl|rfl
 all_goals
  match j,hv with
  | 0,hv=>simpa [xq,xr] using hv
  | 1,hv=>simpa [xq,xr] using hv
theorem oW {W : World} {D1 D2 D3 : DataW Unit} (hp : ([("math/bits.deBruijn32tab", D1), ("math/bits.deBruijn64tab", D2), ("internal/strconv.uint64pow10", D3), ("paddock/buddy.others", Rows.laid_paddock_buddy_others), ("paddock/kmem.sizes", Rows.laid_paddock_kmem_sizes)].all fun x => x.2.handleName?.isNone) = true)
 (h : laidMetH Tryz.prog [("math/bits.deBruijn32tab", D1), ("math/bits.deBruijn64tab", D2), ("internal/strconv.uint64pow10", D3), ("paddock/buddy.others", Rows.laid_paddock_buddy_others), ("paddock/kmem.sizes", Rows.laid_paddock_kmem_sizes)] W) : iK W ∧ nq W := by
 rw [MakeChecks.laidMetH_plain _ _ _ hp] at h;obtain ⟨ps,⟨_,_,_,_,_,_,_,_,_,_,⟨_,_,_,_,_,_,_,_,_,_,⟨_,_,_,_,_,_,_,_,_,_,⟨g0,t0,xz,f0,p0,q0,a1,a2,a3,a4,h5,_⟩,_⟩,_⟩,_⟩,_,_⟩:=h;exact ⟨Hm h5,Fw ⟨g0,t0,xz,f0,p0,[],a1,a2,a3,a4,rfl,rfl⟩⟩
end Go.Proofs.YtbidkghlpijecaaGreatDoor
