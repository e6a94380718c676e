/-
  Texts of the claim TopRoom, part 16: what its theorem leans on.
-/
import Derived.Test.YtbidkghlpijecaaGreatDoorPackTopRoom15
import Derived.Test.YtbidkghlpijecaaGreatDoorPackTopRoom13
import Derived.Test.YtbidkghlpijecaaGreatDoorPackTopRoom2
import Derived.Test.YtbidkghlpijecaaGreatDoorPackTopRoom14
import Derived.Test.YtbidkghlpijecaaGreatDoorPackTopRoom11
import Derived.Test.YtbidkghlpijecaaGreatDoorPackTopRoom12
import Derived.Test.YtbidkghlpijecaaGreatDoorPackTopRoom7
import Derived.Test.YtbidkghlpijecaaGreatDoorPackTopRoom8
import Derived.Test.YtbidkghlpijecaaGreatDoorPackTopRoom1
set_option linter.unusedVariables false
set_option linter.unusedSimpArgs false
namespace Go.Proofs.YtbidkghlpijecaaGreatDoor
open Go.RowKit
theorem Cr (k:HK) (p:HP) (s:ab×ab) (L:List ap) (bs:List Block) (b:Block) (wb w:World) (H:HS wb w k p s L) (hD:lA s bs) (hN:kK bs b) :
 jr Tryz.prog 109 [.pointer (some ⟨k.b,0,none⟩),.int .i64 b.At,.int .i64 b.Order] w fun v w' => ∃ p',p'.li=p.li∧p'.ls=p.ls∧HS wb w' k p' (ee s b) L∧kr w k p w' p':=by
 refine eG Tryz.func109 rfl Tryz.ntmps109 rfl ?_;have hw:=Ext.refl w;have H0:=H;have eT:=H.zs.z0.jA;obtain ⟨q1,q2,q3,q4⟩:=nv H.zs.z0 hD.gZ;obtain ⟨p1,p2,p3,p4⟩:=nv H.zs.z1 hD.gL;have hA:=H.zs.row.sl.base;have cz:∀ w',Sl w' 4 bG (some ⟨k.g,0,none⟩) 2 [p.u0,p.u1]→bl Tryz.prog 110 [.agg (bW (k.h p)).toArray,.int .i64 b.At] w' fun v _=>v = .int .i64 (if b.At<p.u0.To then 0 else 1):=fun w' h=>qe (k.h p) p.u0 p.u1 b.At w' h
 by_cases hx:b.At<p.u0.To
 ·have eP:ee s b=dI s ((0:Nat) : Int) (bV s.1 b.At b.Order).2:=by unfold ee;rw [if_pos (by omega)];simp [dI]
  simp only [if_pos hx] at cz;have k0 : 0<2:=by omega
  repeat' (first|refine Wz ?_|refine SW.st (ay rfl rfl ((fun _ _=>H.cU.cell))) rfl ?_|(refine SW.call rfl rfl (cz _ H.zs.row.sl) ?_;intro v w1 aa hv;subst hv;replace hw:=Ext.trans hw aa;replace H:=H.ext aa;clear aa))
  refine CW.l9 19 19 (fun _=>True) mixed (by kernel_rfl) fun w1 aa bm => ?_
  replace hw:=Ext.trans hw aa;replace H:=H.ext aa;clear aa;refine SF.take 0 [] [] bm rfl (by kernel_rfl) (by kernel_rfl) (by kernel_rfl) ?_;repeat (refine SW.pure rfl rfl ?_)
  refine SW.ar ?_;refine SF.take 1 [] [] bm rfl (by kernel_rfl) (by kernel_rfl) (by kernel_rfl) ?_;repeat ((show SW _ _ _ _ (⟨_,Op.nilCheck _,_,_,_,none⟩::_) _ _;refine SW.st (bd rfl) rfl ?_))
  refine SW.ar ?_;refine SF.take 2 [] [] bm rfl (by kernel_rfl) (by kernel_rfl) (by kernel_rfl) ?_;repeat ((show SW _ _ _ _ (⟨_,Op.fieldAddr _ _ _,_,_,_,none⟩::_) _ _;refine SW.st (br rfl) rfl ?_))
  refine SW.ar ?_;refine SF.take 3 [] [] bm rfl (by kernel_rfl) (by kernel_rfl) (by kernel_rfl) ?_;repeat ((show SW _ _ _ _ (⟨_,Op.load _ _,_,_,_,none⟩::_) _ _;refine SW.st (ax rfl (H.cU.cell rfl)) rfl ?_))
  refine SW.ar ?_;refine SF.take 4 [] [] bm rfl (by kernel_rfl) (by kernel_rfl) (by kernel_rfl) ?_;repeat (refine SW.pure rfl rfl ?_)
  refine SW.ar ?_;refine SF.take 5 [] [] bm rfl (by kernel_rfl) (by kernel_rfl) (by kernel_rfl) ?_;repeat (refine SW.pure rfl rfl ?_)
  refine SW.ar ?_;refine SF.take 6 [] [] bm rfl (by kernel_rfl) (by kernel_rfl) (by kernel_rfl) ?_;repeat ((show SW _ _ _ _ (⟨_,Op.nilCheck _,_,_,_,none⟩::_) _ _;refine SW.st (bd rfl) rfl ?_))
  refine SW.ar ?_;refine SF.take 7 [] [] bm rfl (by kernel_rfl) (by kernel_rfl) (by kernel_rfl) ?_;repeat ((show SW _ _ _ _ (⟨_,Op.fieldAddr _ _ _,_,_,_,none⟩::_) _ _;refine SW.st (br rfl) rfl ?_))
  refine SW.ar ?_;refine SF.take 8 [] [] bm rfl (by kernel_rfl) (by kernel_rfl) (by kernel_rfl) ?_;repeat ((show SW _ _ _ _ (⟨_,Op.load _ _,_,_,_,none⟩::_) _ _;refine SW.st (ax rfl (H.cU.cell rfl)) rfl ?_))
  refine SW.ar ?_;refine SF.take 9 [] [] bm rfl (by kernel_rfl) (by kernel_rfl) (by kernel_rfl) ?_;repeat (refine SW.pure rfl rfl ?_)
  refine SW.ar ?_;refine SF.take 10 [] [] bm rfl (by kernel_rfl) (by kernel_rfl) (by kernel_rfl) ?_;repeat ((show SW _ _ _ _ (⟨_,Op.indexAddr _ _ _,_,_,_,none⟩::_) _ _;refine SW.st (ca rfl rfl (by assumption) (by omega)) rfl ?_))
  refine SW.ar ?_;refine SF.take 11 [] [] bm rfl (by kernel_rfl) (by kernel_rfl) (by kernel_rfl) ?_;repeat ((show SW _ _ _ _ (⟨_,Op.load _ _,_,_,_,none⟩::_) _ _;refine SW.st (ay rfl rfl ((H.zs.row.sl.all k0))) rfl ?_))
  refine SW.ar ?_;refine SF.take 12 [] [] bm rfl (by kernel_rfl) (by kernel_rfl) (by kernel_rfl) ?_;repeat (refine SW.pure rfl rfl ?_)
  refine SW.ar ?_;refine SF.take 13 [] [] bm rfl (by kernel_rfl) (by kernel_rfl) (by kernel_rfl) ?_;repeat (refine SW.pure rfl rfl ?_)
  refine SW.ar ?_;refine SF.one 14 rfl (by kernel_rfl) rfl ?_;refine SW.call rfl rfl (kH p.u0 s.1 b.At b.Order _ H.zs.z0.rd q1 q2 ⟨by omega,by omega⟩ ⟨by omega,by omega⟩) fun v w4 ao hv => ?_
  obtain ⟨u',rfl,jo⟩:=hv;replace jo:=jo.low hw.size;(replace hw:=Ext.trans hw ao;replace H:=H.ext ao);refine SW.nil (ae.sf ao ?_);refine SF.take 15 [] [] bm rfl (by kernel_rfl) (by kernel_rfl) (by kernel_rfl) ?_;repeat (refine SW.pure rfl rfl ?_)
  refine SW.ar ?_;refine SF.take 16 [] [] bm rfl (by kernel_rfl) (by kernel_rfl) (by kernel_rfl) ?_;repeat (refine SW.pure rfl rfl ?_)
  refine SW.ar ?_;refine SF.wZ 17 bm rfl (by kernel_rfl) (by kernel_rfl) rfl (fun _=>dx rfl) rfl ?_;refine SF.take 18 [] [] bm rfl (by kernel_rfl) (by kernel_rfl) (by kernel_rfl) ?_;repeat ((show SW _ _ _ _ (⟨_,Op.indexAddr _ _ _,_,_,_,none⟩::_) _ _;refine SW.st (ca rfl rfl (by assumption) (by omega)) rfl ?_))
  refine SW.ar ?_;refine SF.last rfl (by kernel_rfl) (by kernel_rfl) ?_;refine SW.kQ (enc:=bG) 0 u' H.zs.row rfl rfl k0 fun w5 Kz hg => ?_
  rw [H.zs.own] at hg;have H5:=HS.Ix H0 H k0 Kz hg jo;have hK:kr w k p w5 (tg p 0 u'):=((kr.refl w k p).ext hw).step hg (fun i e=>by cases e;exact .inl (.inr (.inl rfl))) (fun i e => .inl (qk.1 e))
  refine Wz ?_;exact ae.uj rfl ⟨_,rfl,tg p 0 u',nA.1,nA.2,by rw [eP];exact H5,hK⟩
 ·have eP:ee s b=dI s ((1:Nat) : Int) (bV s.2 b.At b.Order).2:=by unfold ee;rw [if_neg (by omega)];simp [dI]
  simp only [if_neg hx] at cz;have k0 : 1<2:=by omega
  repeat' (first|refine Wz ?_|refine SW.st (ay rfl rfl ((fun _ _=>H.cU.cell))) rfl ?_|(refine SW.call rfl rfl (cz _ H.zs.row.sl) ?_;intro v w1 aa hv;subst hv;replace hw:=Ext.trans hw aa;replace H:=H.ext aa;clear aa))
  refine CW.l9 19 19 (fun _=>True) mixed (by kernel_rfl) fun w1 aa bm => ?_
  replace hw:=Ext.trans hw aa;replace H:=H.ext aa;clear aa;refine SF.take 0 [] [] bm rfl (by kernel_rfl) (by kernel_rfl) (by kernel_rfl) ?_;repeat (refine SW.pure rfl rfl ?_)
  refine SW.ar ?_;refine SF.take 1 [] [] bm rfl (by kernel_rfl) (by kernel_rfl) (by kernel_rfl) ?_;repeat ((show SW _ _ _ _ (⟨_,Op.nilCheck _,_,_,_,none⟩::_) _ _;refine SW.st (bd rfl) rfl ?_))
  refine SW.ar ?_;refine SF.take 2 [] [] bm rfl (by kernel_rfl) (by kernel_rfl) (by kernel_rfl) ?_;repeat ((show SW _ _ _ _ (⟨_,Op.fieldAddr _ _ _,_,_,_,none⟩::_) _ _;refine SW.st (br rfl) rfl ?_))
  refine SW.ar ?_;refine SF.take 3 [] [] bm rfl (by kernel_rfl) (by kernel_rfl) (by kernel_rfl) ?_;repeat ((show SW _ _ _ _ (⟨_,Op.load _ _,_,_,_,none⟩::_) _ _;refine SW.st (ax rfl (H.cU.cell rfl)) rfl ?_))
  refine SW.ar ?_;refine SF.take 4 [] [] bm rfl (by kernel_rfl) (by kernel_rfl) (by kernel_rfl) ?_;repeat (refine SW.pure rfl rfl ?_)
  refine SW.ar ?_;refine SF.take 5 [] [] bm rfl (by kernel_rfl) (by kernel_rfl) (by kernel_rfl) ?_;repeat (refine SW.pure rfl rfl ?_)
  refine SW.ar ?_;refine SF.take 6 [] [] bm rfl (by kernel_rfl) (by kernel_rfl) (by kernel_rfl) ?_;repeat ((show SW _ _ _ _ (⟨_,Op.nilCheck _,_,_,_,none⟩::_) _ _;refine SW.st (bd rfl) rfl ?_))
  refine SW.ar ?_;refine SF.take 7 [] [] bm rfl (by kernel_rfl) (by kernel_rfl) (by kernel_rfl) ?_;repeat ((show SW _ _ _ _ (⟨_,Op.fieldAddr _ _ _,_,_,_,none⟩::_) _ _;refine SW.st (br rfl) rfl ?_))
  refine SW.ar ?_;refine SF.take 8 [] [] bm rfl (by kernel_rfl) (by kernel_rfl) (by kernel_rfl) ?_;repeat ((show SW _ _ _ _ (⟨_,Op.load _ _,_,_,_,none⟩::_) _ _;refine SW.st (ax rfl (H.cU.cell rfl)) rfl ?_))
  refine SW.ar ?_;refine SF.take 9 [] [] bm rfl (by kernel_rfl) (by kernel_rfl) (by kernel_rfl) ?_;repeat (refine SW.pure rfl rfl ?_)
  refine SW.ar ?_;refine SF.take 10 [] [] bm rfl (by kernel_rfl) (by kernel_rfl) (by kernel_rfl) ?_;repeat ((show SW _ _ _ _ (⟨_,Op.indexAddr _ _ _,_,_,_,none⟩::_) _ _;refine SW.st (ca rfl rfl (by assumption) (by omega)) rfl ?_))
  refine SW.ar ?_;refine SF.take 11 [] [] bm rfl (by kernel_rfl) (by kernel_rfl) (by kernel_rfl) ?_;repeat ((show SW _ _ _ _ (⟨_,Op.load _ _,_,_,_,none⟩::_) _ _;refine SW.st (ay rfl rfl ((H.zs.row.sl.all k0))) rfl ?_))
  refine SW.ar ?_;refine SF.take 12 [] [] bm rfl (by kernel_rfl) (by kernel_rfl) (by kernel_rfl) ?_;repeat (refine SW.pure rfl rfl ?_)
  refine SW.ar ?_;refine SF.take 13 [] [] bm rfl (by kernel_rfl) (by kernel_rfl) (by kernel_rfl) ?_;repeat (refine SW.pure rfl rfl ?_)
  refine SW.ar ?_;refine SF.one 14 rfl (by kernel_rfl) rfl ?_;refine SW.call rfl rfl (kH p.u1 s.2 b.At b.Order _ H.zs.z1.rd p1 p2 ⟨by omega,by omega⟩ ⟨by omega,by omega⟩) fun v w4 ao hv => ?_
  obtain ⟨u',rfl,jo⟩:=hv;replace jo:=jo.low hw.size;(replace hw:=Ext.trans hw ao;replace H:=H.ext ao);refine SW.nil (ae.sf ao ?_);refine SF.take 15 [] [] bm rfl (by kernel_rfl) (by kernel_rfl) (by kernel_rfl) ?_;repeat (refine SW.pure rfl rfl ?_)
  refine SW.ar ?_;refine SF.take 16 [] [] bm rfl (by kernel_rfl) (by kernel_rfl) (by kernel_rfl) ?_;repeat (refine SW.pure rfl rfl ?_)
  refine SW.ar ?_;refine SF.wZ 17 bm rfl (by kernel_rfl) (by kernel_rfl) rfl (fun _=>dx rfl) rfl ?_;refine SF.take 18 [] [] bm rfl (by kernel_rfl) (by kernel_rfl) (by kernel_rfl) ?_;repeat ((show SW _ _ _ _ (⟨_,Op.indexAddr _ _ _,_,_,_,none⟩::_) _ _;refine SW.st (ca rfl rfl (by assumption) (by omega)) rfl ?_))
  refine SW.ar ?_;refine SF.last rfl (by kernel_rfl) (by kernel_rfl) ?_;refine SW.kQ (enc:=bG) 1 u' H.zs.row rfl rfl k0 fun w5 Kz hg => ?_
  rw [H.zs.own] at hg;have H5:=HS.Ix H0 H k0 Kz hg jo;have hK:kr w k p w5 (tg p 1 u'):=((kr.refl w k p).ext hw).step hg (fun i e=>by cases e;exact .inl (.inr (.inl rfl))) (fun i e => .inl (qk.1 e))
  refine Wz ?_;exact ae.uj rfl ⟨_,rfl,tg p 1 u',nA.1,nA.2,by rw [eP];exact H5,hK⟩
theorem HS.drop {wb w w':World} {k:HK} {p:HP} {s:ab×ab} {L:List ap} (h:HS wb w k p s L) (hb:aT w' k.b 41 (bW (k.h ⟨p.u0,p.u1,.nil,[]⟩))) (hg:w.grownBy w' (some k.b)) : HS wb w' k ⟨p.u0,p.u1,.nil,[]⟩ s []:=by
 have hG:=h.cU.gr hg;exact ⟨hb,h.zs.au hG rfl,h.cT.au hG rfl,h.live.au hG rfl,dE.nil _ _,oW.nil _ _,h.sf,h.EA,h.base.own h.EA hg⟩
theorem Cs {k:HK} {p:HP} {i:Nat} (h:gz k ⟨p.u0,p.u1,.nil,[]⟩ i) : gz k p i:=by
 rcases h with h|h|h|⟨z,hz,h⟩
 ·exact .inl h
 ·exact .inr (.inl h)
 ·cases h
 ·simp at hz
set_option maxHeartbeats 2000000 in
theorem Aa (k:HK) (p:HP) (h:Heap) (z0 z1:ab) (hd:jK h z0 z1) (hs:h.small) (wb w:World) (H:HS wb w k p (z0,z1) h.aj) :
 jr Tryz.prog 154 [.pointer (some ⟨k.b,0,none⟩)] w fun v w' => ∃ p',HS wb w' k p' (bh (z0,z1) (aF h.aj)) []∧kr w k p w' p':=by
 refine eG Tryz.func154 rfl Tryz.ntmps154 rfl ?_;have hw:=Ext.refl w;have nP:=H.ls.rd.len;have s4:=hs.lists;have Ij:=H.ls.row.sl.base;repeat' (first|refine Wz ?_|refine SW.st (ax rfl (H.cU.cell rfl)) rfl ?_)
 refine CW.loop (fun t:Nat×HP=>[(0,.pointer (some ⟨k.b,0,none⟩)),(9,.slice p.li.A p.li.n p.li.c),(10,.int .i64 (p.li.n:Int)),(11,.int .i64 (t.1:Int))])
  (fun t w'=>t.1≤p.li.n∧t.2.li=p.li∧t.2.ls=p.ls∧HS wb w' k t.2 (iq h z0 z1 (gm h.aj t.1)) h.aj∧kr w k p w' t.2) (fun t=>p.li.n-t.1) (0,p)
  ⟨rfl,rfl,rfl,rfl,trivial⟩ ⟨by omega,rfl,rfl,by simpa [iq,gm,aF,bh] using H,kr.refl _ _ _⟩ ?_
 clear hw H Ij;rintro ⟨i,p1⟩ w ⟨hi,e1,e2,H,K0⟩
 simp only at hi e1 e2 H K0 ⊢;have hw:=Ext.refl w;have fQ:Sl w 4 bi p.li.A p.li.n p.ls:=by have:=H.ls.row.sl;rwa [e1,e2] at this
 have hA:=fQ.base;by_cases gR:i<p.li.n
 ·have um:i<h.aj.length:=by omega
  have uo:i<p.ls.length:=by omega
  have Fo:h.aj[i].an.length=(p.ls[i]'uo).an.n:=by
   have:=(H.ls.each.get i (by rw [e2];exact uo) um).cb.len
   simpa only [e2] using this
  have Fp:=hs.cb _ (List.getElem_mem um);obtain ⟨y,hy⟩ : ∃ y,p.ls[i]'uo=y:=⟨_,rfl⟩;have EG:=fQ.all gR;rw [hy] at EG Fo;repeat' (first|refine Wz ?_|refine SW.st (ay rfl rfl EG) rfl ?_)
  refine SW.alloc rfl fun b3 w1 aa bL aq => ?_
  skip;refine SW.ah aq rfl rfl rfl rfl (fu.one (enc:=bi) _) fun w2 cS hg => ?_
  have ao:=aa.own bL hg;have cJ:w.heap.size≤b3:=Nat.le_trans hw.size bL
  replace hw:=Ext.trans hw ao;replace H:=H.ext ao;replace K0:=K0.ext ao;replace aq:=cS;clear cS aa hg ao
  have Ba:∀ (w':World) (q:HP) (s:ab×ab),q.ls=p.ls→HS wb w' k q s h.aj→Own w' wb.heap.size 3 1 bB y.an.A y.an.n y.an.c h.aj[i].an:=fun w' q s eq hh=>by
   have:=(hh.ls.each.get i (by rw [eq];exact uo) um).cb
   simpa only [eq,hy] using this
  have hP:=Ba _ p1 _ e2 H;have Kk:=hP.sl.base;repeat' (first|refine Wz ?_|fail)
  refine CW.loop (fun t:Nat×HP=>[(0,.pointer (some ⟨k.b,0,none⟩)),(9,.slice p.li.A p.li.n p.li.c),(10,.int .i64 (p.li.n:Int)),(11,.int .i64 (i:Int)),(16,.slice y.an.A y.an.n y.an.c),(17,.int .i64 (y.an.n:Int)),(18,.int .i64 (t.1:Int))])
   (fun t w'=>t.1≤y.an.n∧t.2.li=p.li∧t.2.ls=p.ls∧HS wb w' k t.2 (iq h z0 z1 (gm h.aj i+t.1)) h.aj∧kr _ k p w' t.2) (fun t=>y.an.n-t.1) (0,p1)
   ⟨rfl,rfl,rfl,rfl,rfl,rfl,rfl,trivial⟩ ⟨by omega,e1,e2,H,K0⟩ ?_
  clear hw H K0 aq hP Kk fQ EG bL cJ e1 e2 p1;rintro ⟨j,p1⟩ w' ⟨hj,e1,e2,H,K0⟩
  simp only at hj e1 e2 H K0 ⊢;have hw:=Ext.refl w';have hP:=Ba _ p1 _ e2 H;have Kk:=hP.sl.base;by_cases mm:j<y.an.n
  ·have nQ:j<h.aj[i].an.length:=by omega
   obtain ⟨hK,J3⟩:=rI um nQ;have hN:=hd.next hK;have hD:=hd.inv (gm h.aj i+j) (by omega);have hT:=jv (z0,z1) (aF h.aj) _ hK;rw [J3] at hN hT;have I8:iq h z0 z1 (gm h.aj i+(j+1))=ee (iq h z0 z1 (gm h.aj i+j)) (bj h.aj[i].an[j]):=hT
   repeat' (first|refine Wz ?_|refine SW.st (ax rfl (hP.sl.one mm rfl)) rfl ?_)
   refine SW.dy rfl rfl (Cr k p1 _ h.aj _ (bj h.aj[i].an[j]) wb _ H hD hN) fun v w5 hv => ?_
   obtain ⟨p2,e3,e4,H5,K5⟩:=hv;repeat' (first|refine Wz ?_|fail);refine ae.again (j+1,p2) ⟨rfl,rfl,rfl,rfl,rfl,rfl,rfl,trivial⟩ (by simp only;omega) ⟨by simp only;omega,e3.trans e1,e4.trans e2,?_,K0.trans K5⟩;simp only;rw [I8];exact H5
  ·have ej:gm h.aj i+j=gm h.aj (i+1):=by rw [sI um];omega
   rw [ej] at H;repeat' (first|refine Wz ?_|fail);exact ae.again (i+1,p1) ⟨rfl,rfl,rfl,rfl,trivial⟩ (by simp only;omega) ⟨by simp only;omega,e1,e2,H,K0⟩
 ·have ei:i=h.aj.length:=by omega
  have Io:iq h z0 z1 (gm h.aj i)=bh (z0,z1) (aF h.aj):=by
   rw [ei,wa,iq,List.take_of_length_le (Nat.le_refl _)]
  rw [Io] at H;repeat' (first|refine Wz ?_|fail);refine SW.bp (i:=3) H.cU rfl rfl rfl rfl fun w6 nH hg => ?_
  have H6:=H.drop nH hg;have K6:=K0.step hg (fun i e=>by cases e;exact .inl (.inl rfl)) (fun i e => .inl (Cs e));repeat' (first|refine Wz ?_|fail);exact ae.uj rfl ⟨_,rfl,_,H6,K6⟩
open Go.RowKit
theorem tj (r:gb) (l:List Block) (a:Int) (w:World) (hl:Sl w 3 aA r.Live.A r.Live.n l) (hu:l.Pairwise fun x y=>x.At<y.At) (hb:∀ b∈l,0≤b.At∧b.At≤255) (hn:r.Live.n≤1000000000000000000) (ha : 0≤a∧a<256) :
 bl Tryz.prog 107 [.agg (bW r).toArray,.int .i64 a] w fun v _=>v = .tuple #[.int .i64 (aZ l a:Int),.bool (bf l a)]:=by
 refine aD Tryz.func107 rfl Tryz.ntmps107 rfl ?_;refine CW.seq (CW.region (SW.box rfl rfl fun b1 w1 hw gX aB => ?_));refine Wz ?_
 refine SW.call rfl rfl (fy _ _ _ _ a _ (hl.ext hw) _ (fun x hx w' _=>by
  have:=mT x a w'
  have h:=hb x hx;rwa [fi (by omega) (by omega)] at this) hu hn) fun v w2 bo hv => ?_
 subst hv;replace hw:=Ext.trans hw bo;refine Wz ?_;exact ae.dk rfl rfl rfl ⟨_,rfl,hw,rfl⟩
def jX (lo:Nat) (u:Heap×Int×Int) (v:Value) (w:World) : Prop := ∃ s:gb,v = .tuple #[.agg (bW s).toArray,.int .i64 u.2.1,.int .i64 u.2.2]∧gq w lo s u.1
theorem jX.zero (e:Int) (lo:Nat) (w:World) : jX lo (.zero,0,e) (.tuple #[.agg (bW .zero).toArray,.int .i64 0,.int .i64 e]) w:=⟨.zero,rfl,gq.zero w lo⟩
theorem HS.EH {wb w:World} {k:HK} {p:HP} {s:ab×ab} {L:List ap} {i:Nat} {cs:List Value} (h:HS wb w k p s L) (hB:aT w i 41 cs) (cr:i≠k.b) : ¬ gz k p i:=fun hm=>by
 rcases hm with e|e|e|⟨y,hy,e⟩
 ·exact cr e
 ·exact h.zs.row.cu hB rfl (by rw [h.zs.own,e])
 ·exact h.ls.row.cu hB rfl e
 ·obtain ⟨l,_,hl⟩:=h.zC hy;exact hl.cb.cu hB rfl e
theorem EI {h:Heap} (hm:aW h) : u9 h.bT (aS h 0) (aS h 1):=by
 obtain ⟨m0,m1,e,h0,h1⟩:=hm.cT;unfold aS;rw [e];exact ⟨rfl,h0,h1⟩
set_option maxHeartbeats 8000000 in
theorem Ct (r:gb) (h:Heap) (cpu o f:Int) (w:World) (hr:AM w r h) (hs:h.small) (Fg:∀ z∈h.aL,kM z) (hO:oV w) :
 bl Tryz.prog 67 [.agg (bW r).toArray,.int .i64 cpu,.int .i64 o,.int .i64 f] w fun v w' => ∃ u,bI h cpu o f u∧jX w.heap.size u v w':=by
 refine aD Tryz.func67 rfl Tryz.ntmps67 rfl ?_;refine CW.seq (CW.region (SW.box rfl rfl fun b4 w1 hw je aQ => ?_));have fZ:=je;refine SW.alloc rfl fun b8 w2 bo tm bX => ?_
 have ks:w.heap.size≤b8:=Nat.le_trans hw.size tm
 have tp:b4≠b8:=by have:=aQ.lt;omega
 (replace hw:=Ext.trans hw bo;replace aQ:=aQ.ext bo);have eC:=hr.cpus;obtain ⟨q,hq⟩ : ∃ q,fa h=q:=⟨_,rfl⟩
 have c1:∀ w',Ext w w'→bl Tryz.prog 88 [.agg (bW r).toArray] w' fun v _=>v = .int .i64 (if q then 0 else 8):=fun w' hx=>by
  have:=lE r h w' (hr.ext hx) hs Fg
  rwa [hq] at this
 cases q
 ·simp only [Bool.false_eq_true,if_false] at c1;repeat' (first|refine Wy ?_|refine SW.st (ay rfl rfl ((fun _ _=>aQ.cell))) rfl ?_|(refine SW.call rfl rfl (c1 _ hw) ?_;intro v w1 aa hv;subst hv;replace hw:=Ext.trans hw aa;replace aQ:=aQ.ext aa;replace bX:=bX.ext aa;clear aa))
  refine SW.ah bX rfl rfl rfl rfl (dt .zero) fun w5 ct hg => ?_
  replace hw:=hw.own ks hg;repeat' (first|refine Wy ?_|fail);exact ae.mB rfl rfl rfl rfl ct rfl ⟨_,rfl,hw,_,.bad hq,jX.zero 8 _ _⟩
 ·simp only [if_true] at c1;have hm:=bH.1 hq;obtain ⟨z0,z1,F⟩:=dm hm;by_cases hc:(0≤cpu∧cpu<h.bt)∧0≤o∧o≤4
  ·obtain ⟨q2,uG⟩ : ∃ q2,decide (0≤ff f)=q2:=⟨_,rfl⟩
   have c2:∀ w',bl Tryz.prog 152 [.int .i64 f] w' fun v _=>v = .tuple #[.int .i64 (if 0≤ff f then ff f else 0),.bool q2]:=fun w'=>by
    have:=z7 f w'
    rwa [uG] at this
   cases q2
   ·have ht:=of_decide_eq_false uG;repeat' (first|refine Wy ?_|(refine CW.eX rfl ?_)|refine SW.st (ay rfl rfl ((fun _ _=>aQ.cell))) rfl ?_|refine SW.st (ax rfl (aQ.cell (i:=2) (v := .int .i64 r.bt) rfl)) rfl ?_|((first|refine SW.call rfl rfl (c1 _ hw) ?_|refine SW.call rfl rfl (c2 _) ?_);intro v w1 aa hv;subst hv;replace hw:=Ext.trans hw aa;replace aQ:=aQ.ext aa;replace bX:=bX.ext aa;clear aa))
    all_goals try omega
    refine SW.ah bX rfl rfl rfl rfl (dt .zero) fun w5 ct hg => ?_
    replace hw:=hw.own ks hg;repeat' (first|refine Wy ?_|fail);exact ae.mB rfl rfl rfl rfl ct rfl ⟨_,rfl,hw,_,.form hq hc (by omega),jX.zero 3 _ _⟩
   ·have ht:=of_decide_eq_true uG;obtain ⟨hf,rD⟩:=m8 ht;obtain ⟨t,Gk⟩ : ∃ t,ff f=t:=⟨_,rfl⟩;have mg : 0≤t:=by rw [← Gk];exact ht
    simp only [Gk,if_pos mg] at c2;repeat' (first|refine Wy ?_|(refine CW.eY rfl ?_)|refine SW.st (ay rfl rfl ((fun _ _=>aQ.cell))) rfl ?_|refine SW.st (ax rfl (aQ.cell (i:=2) (v := .int .i64 r.bt) rfl)) rfl ?_|((first|refine SW.call rfl rfl (c1 _ hw) ?_|refine SW.call rfl rfl (c2 _) ?_);intro v w1 aa hv;subst hv;replace hw:=Ext.trans hw aa;replace aQ:=aQ.ext aa;replace bX:=bX.ext aa;clear aa))
    all_goals try omega
    clear c1 c2;refine SW.call rfl rfl (oe r h _ (hr.ext hw) hs) fun v w4 dz hv => ?_
    obtain ⟨s,rfl,KH⟩:=hv;have hM:=KH.own.cT.low hw.size;have hV:=KH.own.live.low hw.size;have Eo:=KH.own.cpus;obtain ⟨g,c,u0,u1,ls,eZ,hZ,hL,rc,Ff⟩:=KH.split F.d.bz;have hZ:dM w4 w.heap.size g c u0 u1 (z0,z1):=⟨hZ.row.low hw.size,hZ.z0.low hw.size,hZ.z1.low hw.size,Nat.le_trans hw.size hZ.A7,hZ.pos⟩
    replace hL:=hL.low hw.size;clear KH;(replace hw:=Ext.trans hw dz;replace aQ:=aQ.ext dz;replace bX:=bX.ext dz);obtain ⟨sz,m,cp,li,lv⟩:=s;simp only at eZ hM hV hL rc Ff Eo;subst eZ;refine SW.ah aQ rfl rfl rfl rfl (dt ⟨⟨some ⟨g,0,none⟩,2,c⟩,m,cp,li,lv⟩) fun w5 eW hg => ?_
    have hG:=aQ.gr hg;replace hw:=hw.own fZ hg;replace bX:=bX.grown hg (by simpa using Ne.symm tp);(replace hZ:=hZ.au hG rfl;replace hM:=hM.au hG rfl;replace hV:=hV.au hG rfl;replace hL:=hL.au hG rfl);have H:HS w w5 ⟨b4,g,c,m,lv,cp,h.bT,h.Live⟩ ⟨u0,u1,li,ls⟩ (z0,z1) h.aj:=⟨eW,hZ,hM,hV,hL,rc,Ff,fZ,hw⟩
    obtain ⟨k,hk⟩ : ∃ k:HK,k=⟨b4,g,c,m,lv,cp,h.bT,h.Live⟩:=⟨_,rfl⟩;obtain ⟨p0,Gc⟩ : ∃ p:HP,p=⟨u0,u1,li,ls⟩:=⟨_,rfl⟩;rw [← hk,← Gc] at H;have Ql:k.b=b4:=by rw [hk]
    have LB:k.V=h.Live:=by rw [hk]
    have Nc:k.M=h.bT:=by rw [hk]
    have OG:k.cp=h.bt:=by rw [hk];exact Eo
    clear aQ eW hZ hM hV hL rc Ff hG hg hk Gc Eo;subst Ql;have OH:u9 k.M (aS h 0) (aS h 1):=by rw [Nc];exact EI hm
    have Jj:=F.d.start.vs;have KC:=H.EH bX (Ne.symm tp);have dg:=im F.live
    have JO:∀ b∈h.Live,0≤b.At∧b.At≤255:=fun b hb=>by
     obtain ⟨j,hj,rfl⟩:=List.getElem_of_mem hb;have:=(F.next hj).at_
     omega
    have nP:=yg F;repeat' (first|refine Wy ?_|fail);refine SW.dy rfl rfl (qS k p0 (z0,z1) h.aj _ _ cpu o t f w _ H hO OH Jj F.jQ F.lists F.count hc.2 hf) fun v w6 ID => ?_
    obtain ⟨q1,D7,rfl,p1,H1,K1⟩:=ID;have EJ:=K1.not KC bX.lt;replace bX:=K1.cU bX KC;clear H hw KC;have hw:=H1.base;cases q1 with
    | none =>
      simp only [KA,IC] at H1;have OI:=dH F.d;repeat' (first|refine Wy ?_|(refine CW.eX rfl ?_))
      refine SW.dy rfl rfl (Aa k p1 h z0 z1 F.d hs w _ H1) fun v w7 M7 => ?_
      obtain ⟨p2,H2,K2⟩:=M7;have IG:=K2.not EJ bX.lt;replace bX:=K2.cU bX EJ;clear H1 hw EJ;have hw:=H2.base;repeat' (first|refine Wy ?_|fail);refine SW.dy rfl rfl (qS k p2 _ [] _ _ cpu o t f w _ H2 hO OH OI.vs List.Pairwise.nil (fun l hl=>by simp at hl) (by simp) hc.2 hf) fun v w8 M4 => ?_
      obtain ⟨q3,Nd,rfl,p3,H3,K3⟩:=M4;have KI:=K3.not IG bX.lt;replace bX:=K3.cU bX IG;clear H2 hw IG;have hw:=H3.base;cases q3 with
      | none =>
        repeat' (first|refine Wy ?_|(refine CW.eX rfl ?_))
        refine SW.ah bX rfl rfl rfl rfl (dt .zero) fun w5 ct hg => ?_
        replace hw:=hw.own ks hg;repeat' (first|refine Wy ?_|fail);exact ae.mB rfl rfl rfl rfl ct rfl ⟨_,rfl,hw,_,.room hq hc ht F.d.bz (by rw [Gk];exact D7) (by rw [Gk];exact Nd),jX.zero 6 _ _⟩
      | some q3 =>
        obtain ⟨s3,L3,a⟩:=q3;simp only [KA,IC] at H3;obtain ⟨i,KJ,Qm,Gl⟩:=lJ F (Nd.found OI.vs).2;have KJ:a=(i:Int):=KJ
        have Nf:bI h cpu o f (ev h s3 L3 (cQ h a o t),a,0):=by
         have:=bI.dG hq hc ht F.d.bz (by rw [Gk];exact D7) (by rw [Gk];exact Nd)
         rw [Gk] at this;exact this
        have Jc:=H3.live.len;rw [LB] at Jc;obtain ⟨fd,Ng⟩ : ∃ fd,bf h.Live a=fd:=⟨_,rfl⟩
        have c3:∀ w',Sl w' 3 aA k.lv.A k.lv.n h.Live→bl Tryz.prog 107 [.agg (bW (k.h p3)).toArray,.int .i64 a] w' fun v _=>v = .tuple #[.int .i64 (aZ h.Live a:Int),.bool fd]:=fun w' hh=>by
         have:=tj (k.h p3) h.Live a w' hh dg JO (by simp only;omega) ⟨by omega,by omega⟩
         rwa [Ng] at this
        have hV:=H3.live;rw [LB] at hV;have aQ:=H3.cU;have hZ:=H3.zs;have hM:=H3.cT;have hL:=H3.ls;rw [Nc] at hM;have Jm:=H3.sf;clear H3;have GU:=hV.lt_size;repeat' (first|refine Wy ?_|(refine CW.eY rfl ?_)|refine SW.st (ay rfl rfl ((fun _ _=>aQ.cell))) rfl ?_|(refine SW.call rfl rfl (c3 _ hV.sl) ?_;intro v w1 aa hv;subst hv;replace hw:=Ext.trans hw aa;replace aQ:=aQ.ext aa;replace bX:=bX.ext aa;replace hV:=hV.ext aa;replace hZ:=hZ.ext aa;replace hM:=hM.ext aa;replace hL:=hL.ext aa;clear aa))
        repeat' (first|refine Wy ?_|refine SW.st (ax rfl (aQ.cell (i:=4) (v := .slice k.lv.A k.lv.n k.lv.c) rfl)) rfl ?_)
        refine SW.dJ rfl rfl rfl rfl rfl fun b w9 ao Mw hB => ?_
        have sD:aG k.lv.A k.lv.c≠some b:=fun e=>by have:=hV.lt_size _ e;omega
        (replace hw:=Ext.trans hw ao;replace aQ:=aQ.ext ao;replace bX:=bX.ext ao;replace hV:=hV.ext ao;replace hZ:=hZ.ext ao;replace hM:=hM.ext ao;replace hL:=hL.ext ao);skip;have sw:aZ h.Live a≤h.Live.length:=List.findIdx_le_length
        refine SW.dy rfl rfl (fw k.lv.A k.lv.n k.lv.c w.heap.size h.Live _ hV (aZ h.Live a) (by omega) ⟨a,o,t⟩ b hB sD (by omega) hw.size) fun v Jp hv => ?_
        obtain ⟨A',c',rfl,wv,hg⟩:=hv;have hG:=hV.gr hg;replace hw:=aJ hw hg (Nat.le_refl _) hV.ba;replace hZ:=hZ.zL Jm hg hG;(replace aQ:=aQ.au hG rfl;replace bX:=bX.au hG rfl;replace hM:=hM.au hG rfl;replace hL:=hL.au hG rfl);repeat' (first|refine Wy ?_|fail);refine SW.bp (i:=4) aQ rfl rfl rfl rfl fun Cu eW hg => ?_
        have hG:=aQ.gr hg;replace hw:=hw.own fZ hg;replace bX:=bX.grown hg (by simpa using Ne.symm tp);(replace hZ:=hZ.au hG rfl;replace hM:=hM.au hG rfl;replace hL:=hL.au hG rfl;replace wv:=wv.au hG rfl);replace aQ:aT Cu k.b 41 (bW ⟨⟨some ⟨k.g,0,none⟩,2,k.c⟩,k.m,k.cp,p3.li,⟨A',k.lv.n+1,c'⟩⟩):=eW;repeat' (first|refine Wy ?_|refine SW.st (ay rfl rfl ((fun _ _=>aQ.cell))) rfl ?_)
        refine SW.ah bX rfl rfl rfl rfl (dt ⟨⟨some ⟨k.g,0,none⟩,2,k.c⟩,k.m,k.cp,p3.li,⟨A',k.lv.n+1,c'⟩⟩) fun C1 ct hg => ?_
        have hG:=bX.gr hg;replace hw:=hw.own ks hg;(replace hZ:=hZ.au hG rfl;replace hM:=hM.au hG rfl;replace hL:=hL.au hG rfl;replace wv:=wv.au hG rfl);repeat' (first|refine Wy ?_|fail);exact ae.mB rfl rfl rfl rfl ct rfl ⟨_,rfl,hw,_,Nf,⟨⟨some ⟨k.g,0,none⟩,2,k.c⟩,k.m,k.cp,p3.li,⟨A',k.lv.n+1,c'⟩⟩,rfl,⟨OG,hM,wv,⟨[p3.u0,p3.u1],⟨hZ.row,dV.two hZ.z0 hZ.z1⟩⟩,⟨p3.ls,hL⟩⟩⟩
    | some q3 =>
      obtain ⟨s3,L3,a⟩:=q3;simp only [KA,IC] at H1;obtain ⟨i,KJ,Qm,Gl⟩:=nz F (D7.found Jj).2;have KJ:a=(i:Int):=KJ
      have Nf:bI h cpu o f (ev h s3 L3 (cQ h a o t),a,0):=by
       have:=bI.once hq hc ht F.d.bz (by rw [Gk];exact D7)
       rw [Gk] at this;exact this
      have H3:=H1;have KI:=EJ;obtain ⟨p3,Qn⟩ : ∃ p3,p1=p3:=⟨_,rfl⟩;rw [Qn] at H3 KI;clear H1 EJ;have Jc:=H3.live.len;rw [LB] at Jc;obtain ⟨fd,Ng⟩ : ∃ fd,bf h.Live a=fd:=⟨_,rfl⟩
      have c3:∀ w',Sl w' 3 aA k.lv.A k.lv.n h.Live→bl Tryz.prog 107 [.agg (bW (k.h p3)).toArray,.int .i64 a] w' fun v _=>v = .tuple #[.int .i64 (aZ h.Live a:Int),.bool fd]:=fun w' hh=>by
       have:=tj (k.h p3) h.Live a w' hh dg JO (by simp only;omega) ⟨by omega,by omega⟩
       rwa [Ng] at this
      have hV:=H3.live;rw [LB] at hV;have aQ:=H3.cU;have hZ:=H3.zs;have hM:=H3.cT;have hL:=H3.ls;rw [Nc] at hM;have Jm:=H3.sf;clear H3;have GU:=hV.lt_size;repeat' (first|refine Wy ?_|(refine CW.eY rfl ?_)|refine SW.st (ay rfl rfl ((fun _ _=>aQ.cell))) rfl ?_|(refine SW.call rfl rfl (c3 _ hV.sl) ?_;intro v w1 aa hv;subst hv;replace hw:=Ext.trans hw aa;replace aQ:=aQ.ext aa;replace bX:=bX.ext aa;replace hV:=hV.ext aa;replace hZ:=hZ.ext aa;replace hM:=hM.ext aa;replace hL:=hL.ext aa;clear aa))
      repeat' (first|refine Wy ?_|refine SW.st (ax rfl (aQ.cell (i:=4) (v := .slice k.lv.A k.lv.n k.lv.c) rfl)) rfl ?_)
      refine SW.dJ rfl rfl rfl rfl rfl fun b w9 ao Mw hB => ?_
      have sD:aG k.lv.A k.lv.c≠some b:=fun e=>by have:=hV.lt_size _ e;omega
      (replace hw:=Ext.trans hw ao;replace aQ:=aQ.ext ao;replace bX:=bX.ext ao;replace hV:=hV.ext ao;replace hZ:=hZ.ext ao;replace hM:=hM.ext ao;replace hL:=hL.ext ao);skip;have sw:aZ h.Live a≤h.Live.length:=List.findIdx_le_length
      refine SW.dy rfl rfl (fw k.lv.A k.lv.n k.lv.c w.heap.size h.Live _ hV (aZ h.Live a) (by omega) ⟨a,o,t⟩ b hB sD (by omega) hw.size) fun v Jp hv => ?_
      obtain ⟨A',c',rfl,wv,hg⟩:=hv;have hG:=hV.gr hg;replace hw:=aJ hw hg (Nat.le_refl _) hV.ba;replace hZ:=hZ.zL Jm hg hG;(replace aQ:=aQ.au hG rfl;replace bX:=bX.au hG rfl;replace hM:=hM.au hG rfl;replace hL:=hL.au hG rfl);repeat' (first|refine Wy ?_|fail);refine SW.bp (i:=4) aQ rfl rfl rfl rfl fun Cu eW hg => ?_
      have hG:=aQ.gr hg;replace hw:=hw.own fZ hg;replace bX:=bX.grown hg (by simpa using Ne.symm tp);(replace hZ:=hZ.au hG rfl;replace hM:=hM.au hG rfl;replace hL:=hL.au hG rfl;replace wv:=wv.au hG rfl);replace aQ:aT Cu k.b 41 (bW ⟨⟨some ⟨k.g,0,none⟩,2,k.c⟩,k.m,k.cp,p3.li,⟨A',k.lv.n+1,c'⟩⟩):=eW;repeat' (first|refine Wy ?_|refine SW.st (ay rfl rfl ((fun _ _=>aQ.cell))) rfl ?_)
      refine SW.ah bX rfl rfl rfl rfl (dt ⟨⟨some ⟨k.g,0,none⟩,2,k.c⟩,k.m,k.cp,p3.li,⟨A',k.lv.n+1,c'⟩⟩) fun C1 ct hg => ?_
      have hG:=bX.gr hg;replace hw:=hw.own ks hg;(replace hZ:=hZ.au hG rfl;replace hM:=hM.au hG rfl;replace hL:=hL.au hG rfl;replace wv:=wv.au hG rfl);repeat' (first|refine Wy ?_|fail);exact ae.mB rfl rfl rfl rfl ct rfl ⟨_,rfl,hw,_,Nf,⟨⟨some ⟨k.g,0,none⟩,2,k.c⟩,k.m,k.cp,p3.li,⟨A',k.lv.n+1,c'⟩⟩,rfl,⟨OG,hM,wv,⟨[p3.u0,p3.u1],⟨hZ.row,dV.two hZ.z0 hZ.z1⟩⟩,⟨p3.ls,hL⟩⟩⟩
  ·repeat' (first|refine Wy ?_|refine SW.en rfl rfl rfl (fun h => ?_) (fun h => ?_)|refine SW.st (ay rfl rfl ((fun _ _=>aQ.cell))) rfl ?_|refine SW.st (ax rfl (aQ.cell (i:=2) (v := .int .i64 r.bt) rfl)) rfl ?_|(refine SW.call rfl rfl (c1 _ hw) ?_;intro v w1 aa hv;subst hv;replace hw:=Ext.trans hw aa;replace aQ:=aQ.ext aa;replace bX:=bX.ext aa;clear aa))
   all_goals try omega
   all_goals
    refine SW.ah bX rfl rfl rfl rfl (dt .zero) fun w5 ct hg => ?_
    replace hw:=hw.own ks hg;repeat' (first|refine Wy ?_|fail);exact ae.mB rfl rfl rfl rfl ct rfl ⟨_,rfl,hw,_,.range hq hc,jX.zero 1 _ _⟩
open Go.RowKit
theorem SW.kV {P:Program} {n:Nat} {ops:Array Oper} {Q:Exit→Act→World→Prop} {rest:List Oper} {L:Env} {w:World} {T:TypeId} {pos:String} {af:Array Edge} {t:TypeId} {k:Nat} [G:dZ P t k] {b:Nat} {tb:TypeId} {cs vs:List Value} {x y:Operand} (o:Nat)
 (hB:aT w b tb cs) (hx:bF L x=some (.pointer (some ((⟨b,0,none⟩ : Addr).add o)))) (hy:bF L y=some (.agg vs.toArray)) (hl:vs.length=k) (hc:o+k≤cs.length) (h1:∀ v∈vs,v.oneCell'=true) (Fh:List Value) (nj:cs.take o++vs++cs.drop (o+k)=Fh)
 (h:∀ w',aT w' b tb Fh→w.grownBy w' (some b)→SW P n ops (.fB Q) rest L w') : SW P n ops (.fB Q) (⟨none,.store t x y,T,pos,af,none⟩::rest) L w :=
 ⟨fun a ha=>by
  rw [cn] at hx;have tX:=run_storeCells_at P b o tb vs 0 cs.toArray w hB (by simp only [List.size_toArray];omega) h1;simp only [Nat.add_zero,hl,nj] at tX;simp only [swp,wpList,Region.wanted,if_true];refine .inl ?_;unfold Oper.wp
  have zI:(execOp a.eval ⟨none,.store t x y,T,pos,af,none⟩).run P w = .ok .skip (w.setRow b Fh.toArray):=by
   simp [execOp,ha.eval hx,ha.eval hy,Instr.storeAt,Instr.sureAddr,storeVar,Value.cells,run_sizeOf G.size,hl,tX]
  rw [zI,Oper.upon_skip];obtain ⟨q9,CU⟩:=ed (cs:=Fh) hB;exact (h _ q9 CU).out _ ha⟩
open Go.RowKit
section
variable {P:Program} {n:Nat} {ops:Array Oper} {Q:Exit→Act→World→Prop} {fin fO f:Nat} {S2:World→Prop} {listed:Array Bool} {L:Env} {w:World}
end
open Go.RowKit
open Go.RowKit
set_option maxHeartbeats 4000000 in
theorem Ab (r:ik) (s:ak) (w:World) (hr:DN w r s) (hs:s.small) :
 bl Tryz.prog 36 [.agg (bq r).toArray] w fun v w' => ∃ q zr,v = .agg (bq q).toArray∧SX w' w.heap.size q s zr∧SI w' w.heap.size q s zr:=by
 refine aD Tryz.func36 rfl Tryz.ntmps36 rfl ?_;refine CW.seq (CW.region (SW.box rfl rfl fun b1 w1 hw gX aB => ?_));refine SW.alloc rfl fun b2 w2 bo jg aC => ?_
 have oK:w.heap.size≤b2:=Nat.le_trans hw.size jg
 have BM:b2≠b1:=by have:=aB.lt;omega
 (replace hw:=Ext.trans hw bo;replace aB:=aB.ext bo);obtain ⟨cs,hc⟩:=hr.ck;have N6:=hr.words.len;have s1:=hs.words;have s3:=hs.ck;obtain ⟨c1,c2⟩:=hc.len;refine Wz ?_
 obtain ⟨K,hK⟩ : ∃ K:Env→World→Prop,K=fun L' w' => ∃ X c1 G b3 m1 m2,gH L' [(1,.pointer (some ⟨b1,0,none⟩)),(2,.pointer (some ⟨b2,0,none⟩)),(3,.pointer (some ⟨b3,0,none⟩))]∧Ext w w'∧aT w' b1 44 (bq r)∧aT w' b2 44 (bq .zero) ∧
  aT w' b3 44 (bq ⟨⟨X,r.Words.n,c1⟩,G,.nil⟩)∧Own w' w.heap.size 3 1 bB X r.Words.n c1 s.Words∧jV w' m1 m2 G s.Heap∧(w.heap.size≤m1∧m1≤m2∧m2≤w'.heap.size ∧ ∀ g,aG X c1=some g→g<m1)∧w.heap.size≤b3∧b1≠b3∧b2≠b3:=⟨_,rfl⟩
 refine CW.cut K ?_ ?_
 ·refine CW.any 8 mixed (dq (by kernel_rfl)) rfl fun w1 aa bm => ?_
  replace hw:=Ext.trans hw aa;replace aB:=aB.ext aa;replace aC:=aC.ext aa;clear aa;refine Wa ?_;refine SA.take 4 bm rfl (by kernel_rfl) (by kernel_rfl) rfl ?_;repeat ((show SW _ _ _ _ (⟨_,Op.load _ _,_,_,_,none⟩::_) _ _;refine SW.st (ay rfl rfl ((mP aB))) rfl ?_))
  refine SW.ar ?_;refine SA.two 2 7 rfl rfl (by kernel_rfl) rfl rfl ?_ ?_
  ·refine SW.call rfl rfl (cX _ _ _ _ _ (hr.words.ext hw) (by omega)) fun v w4 ao hv => ?_
   obtain ⟨X,c4,rfl,hX⟩:=hv;replace hX:=hX.low hw.size;replace hw:=Ext.trans hw ao;replace aB:=aB.ext ao;replace aC:=aC.ext ao;try replace aq:=aq.ext ao
   refine SW.nil (ae.sa ao ?_);refine SA.two 5 7 rfl rfl (by kernel_rfl) rfl rfl ?_ ?_
   ·refine SW.call rfl rfl (iD _ _ _ (hr.heap.ext hw) hs.heap) fun v w4 ao hv => ?_
    obtain ⟨G,rfl,hY⟩:=hv;have KK:∃ m1 m2,w.heap.size≤m1∧m1≤m2∧m2≤w4.heap.size∧(∀ g,aG X c4=some g→g<m1)∧jV w4 m1 m2 G s.Heap:=⟨_,_,hw.size,ao.size,Nat.le_refl _,hX.lt_size,hY.wu⟩
    clear hY;obtain ⟨m1,m2,yW,uv,qp,IH,hY⟩:=KK;replace hX:=hX.ext ao;replace hw:=Ext.trans hw ao;replace aB:=aB.ext ao;replace aC:=aC.ext ao;try replace aq:=aq.ext ao
    refine SW.nil (ae.sa ao ?_);refine Wa ?_;refine SA.one 7 rfl (by kernel_rfl) rfl ?_;refine SW.alloc rfl fun b3 w4 ao bL aq => ?_
    have cJ:w.heap.size≤b3:=Nat.le_trans hw.size bL
    try replace qp:=Nat.le_trans qp ao.size
    have gY:b1≠b3:=by have:=aB.lt;omega
    have gl:b2≠b3:=by have:=aC.lt;omega
    replace hw:=Ext.trans hw ao;replace aB:=aB.ext ao;replace aC:=aC.ext ao;try replace hX:=hX.ext ao
    try replace hY:=hY.ext ao
    refine SW.nil (ae.sa ao ?_);refine SA.done (by kernel_rfl) ?_;skip;refine SW.ah aq rfl rfl rfl rfl (cq ⟨⟨X,r.Words.n,c4⟩,G,.nil⟩) fun w5 ct hg => ?_
    have hG:=aq.gr hg;have Gm:=Nat.le_trans qp hg.size;replace hw:=hw.own cJ hg;(replace hX:=hX.au hG rfl;replace hY:=hY.au hG rfl);replace aB:=aB.grown hg (by simpa using gY);replace aC:=aC.grown hg (by simpa using gl);refine Wz ?_;exact ae.cut (K:=K) (by rw [hK];exact ⟨X,c4,G,b3,m1,m2,⟨rfl,rfl,rfl,trivial⟩,hw,aB,aC,ct,hX,hY,⟨yW,uv,Gm,IH⟩,cJ,gY,gl⟩)
   ·refine SW.alloc rfl fun b3 w4 ao bL aq => ?_
    have cJ:w.heap.size≤b3:=Nat.le_trans hw.size bL
    try replace qp:=Nat.le_trans qp ao.size
    have gY:b1≠b3:=by have:=aB.lt;omega
    have gl:b2≠b3:=by have:=aC.lt;omega
    replace hw:=Ext.trans hw ao;replace aB:=aB.ext ao;replace aC:=aC.ext ao;try replace hX:=hX.ext ao
    try replace hY:=hY.ext ao
    refine SW.nil (ae.sa ao ?_);refine SA.one 5 rfl (by kernel_rfl) rfl ?_;refine SW.call rfl rfl (iD _ _ _ (hr.heap.ext hw) hs.heap) fun v w4 ao hv => ?_
    obtain ⟨G,rfl,hY⟩:=hv;have KK:∃ m1 m2,w.heap.size≤m1∧m1≤m2∧m2≤w4.heap.size∧(∀ g,aG X c4=some g→g<m1)∧jV w4 m1 m2 G s.Heap:=⟨_,_,hw.size,ao.size,Nat.le_refl _,hX.lt_size,hY.wu⟩
    clear hY;obtain ⟨m1,m2,yW,uv,qp,IH,hY⟩:=KK;replace hX:=hX.ext ao;replace hw:=Ext.trans hw ao;replace aB:=aB.ext ao;replace aC:=aC.ext ao;try replace aq:=aq.ext ao
    refine SW.nil (ae.sa ao ?_);refine Wa ?_;refine SA.done (by kernel_rfl) ?_;skip;refine SW.ah aq rfl rfl rfl rfl (cq ⟨⟨X,r.Words.n,c4⟩,G,.nil⟩) fun w5 ct hg => ?_
    have hG:=aq.gr hg;have Gm:=Nat.le_trans qp hg.size;replace hw:=hw.own cJ hg;(replace hX:=hX.au hG rfl;replace hY:=hY.au hG rfl);replace aB:=aB.grown hg (by simpa using gY);replace aC:=aC.grown hg (by simpa using gl);refine Wz ?_;exact ae.cut (K:=K) (by rw [hK];exact ⟨X,c4,G,b3,m1,m2,⟨rfl,rfl,rfl,trivial⟩,hw,aB,aC,ct,hX,hY,⟨yW,uv,Gm,IH⟩,cJ,gY,gl⟩)
  ·refine SW.alloc rfl fun b3 w4 ao bL aq => ?_
   have cJ:w.heap.size≤b3:=Nat.le_trans hw.size bL
   try replace qp:=Nat.le_trans qp ao.size
   have gY:b1≠b3:=by have:=aB.lt;omega
   have gl:b2≠b3:=by have:=aC.lt;omega
   replace hw:=Ext.trans hw ao;replace aB:=aB.ext ao;replace aC:=aC.ext ao;try replace hX:=hX.ext ao
   try replace hY:=hY.ext ao
   refine SW.nil (ae.sa ao ?_);refine SA.one 2 rfl (by kernel_rfl) rfl ?_;refine SW.call rfl rfl (cX _ _ _ _ _ (hr.words.ext hw) (by omega)) fun v w4 ao hv => ?_
   obtain ⟨X,c4,rfl,hX⟩:=hv;replace hX:=hX.low hw.size;replace hw:=Ext.trans hw ao;replace aB:=aB.ext ao;replace aC:=aC.ext ao;try replace aq:=aq.ext ao
   refine SW.nil (ae.sa ao ?_);refine SA.one 5 rfl (by kernel_rfl) rfl ?_;refine SW.call rfl rfl (iD _ _ _ (hr.heap.ext hw) hs.heap) fun v w4 ao hv => ?_
   obtain ⟨G,rfl,hY⟩:=hv;have KK:∃ m1 m2,w.heap.size≤m1∧m1≤m2∧m2≤w4.heap.size∧(∀ g,aG X c4=some g→g<m1)∧jV w4 m1 m2 G s.Heap:=⟨_,_,hw.size,ao.size,Nat.le_refl _,hX.lt_size,hY.wu⟩
   clear hY;obtain ⟨m1,m2,yW,uv,qp,IH,hY⟩:=KK;replace hX:=hX.ext ao;replace hw:=Ext.trans hw ao;replace aB:=aB.ext ao;replace aC:=aC.ext ao;try replace aq:=aq.ext ao
   refine SW.nil (ae.sa ao ?_);refine Wa ?_;refine SA.done (by kernel_rfl) ?_;skip;refine SW.ah aq rfl rfl rfl rfl (cq ⟨⟨X,r.Words.n,c4⟩,G,.nil⟩) fun w5 ct hg => ?_
   have hG:=aq.gr hg;have Gm:=Nat.le_trans qp hg.size;replace hw:=hw.own cJ hg;(replace hX:=hX.au hG rfl;replace hY:=hY.au hG rfl);replace aB:=aB.grown hg (by simpa using gY);replace aC:=aC.grown hg (by simpa using gl);refine Wz ?_;exact ae.cut (K:=K) (by rw [hK];exact ⟨X,c4,G,b3,m1,m2,⟨rfl,rfl,rfl,trivial⟩,hw,aB,aC,ct,hX,hY,⟨yW,uv,Gm,IH⟩,cJ,gY,gl⟩)
 ·clear aB aC hw;subst hK;rintro L' w' ⟨X,c4,G,b3,m1,m2,nE,hw,aB,aC,aq,hX,hY,⟨yW,uv,Gm,IH⟩,cJ,gY,gl⟩
  refine ae.sub nE ?_;refine Wz ?_
  refine CW.loop (fun s:Nat×Option Addr×Nat×List dL=>[(2,.pointer (some ⟨b2,0,none⟩)),(3,.pointer (some ⟨b3,0,none⟩)),(14,.slice r.ai.A r.ai.n r.ai.c),(15,.int .i64 (r.ai.n:Int)),(16,.int .i64 (s.1:Int))])
   (fun t w'=>t.1≤r.ai.n∧m2≤w'.heap.size∧Ext w w'∧aT w' b2 44 (bq .zero)∧aT w' b3 44 (bq ⟨⟨X,r.Words.n,c4⟩,G,⟨t.2.1,t.1,t.2.2.1⟩⟩)∧Own w' w.heap.size 3 1 bB X r.Words.n c4 s.Words∧jV w' m1 m2 G s.Heap ∧
     dB w' m2 ⟨t.2.1,t.1,t.2.2.1⟩ t.2.2.2 (s.ai.take t.1)∧rj ⟨X,r.Words.n,c4⟩ t.2.2.2) (fun t=>r.ai.n-t.1) (0,none,0,[]) ⟨rfl,rfl,rfl,rfl,rfl,trivial⟩ ⟨by omega,Gm,hw,aC,aq,hX,hY,dB.nil _ _,rj.nil _⟩ ?_
  clear aB aC aq hX hY hw nE;rintro ⟨k,A,c,zr⟩ w' ⟨hk,Gm,hw,aC,aq,hX,hY,hO,rc⟩
  simp only at hk aq hO rc ⊢;have hA:=hc.row.base;by_cases ey:k<r.ai.n
  ·have kO:=hc.each.get k (by omega) (by omega);have q:=hs.each _ (List.getElem_mem (show k<s.ai.length by omega));have q1:=kO.names.len;have q2:=kO.bK.len;have q3:=kO.dh.len;have q4:=q.names;have q5:=q.bK;have q6:=q.dh;have zT:=hO.row.lt_size;repeat' (first|refine Wz ?_|refine SW.st (aN hw rfl rfl ((hc.row.all ey))) rfl ?_)
   refine SW.alloc rfl fun b5 w1 aa ig bw => ?_
   skip;refine SW.ah bw rfl rfl rfl rfl (AV _) fun w2 eQ hg => ?_
   have ao:=aa.own ig hg;have j2:w.heap.size≤b5:=Nat.le_trans hw.size ig
   replace hw:=Ext.trans hw ao;replace aC:=aC.ext ao;replace aq:=aq.ext ao;replace hX:=hX.ext ao;replace hY:=hY.ext ao;replace hO:=hO.ext ao;replace bw:=eQ;clear eQ aa hg ao;have KL:m2≤b5:=Nat.le_trans Gm ig
   refine Wz ?_;refine CW.any 10 mixed (dq (by kernel_rfl)) rfl fun w1 aa bm => ?_
   replace hw:=Ext.trans hw aa;replace aC:=aC.ext aa;replace aq:=aq.ext aa;replace bw:=bw.ext aa;replace hX:=hX.ext aa;replace hY:=hY.ext aa;replace hO:=hO.ext aa;clear aa;refine Wa ?_;refine SA.one 2 rfl (by kernel_rfl) rfl ?_;refine SW.call rfl rfl (pj _ _ _ _ _ (kO.names.ext hw) (by omega)) fun v w4 ao hv => ?_
   obtain ⟨N,n4,rfl,hN⟩:=hv;have FB:=hO.Og (b:=⟨N,cs[k].Names.n,n4⟩) hN.ba;replace hN:=hN.low (Nat.le_trans KL (Nat.le_of_lt bw.lt));(replace hw:=Ext.trans hw ao;replace aC:=aC.ext ao;replace aq:=aq.ext ao;replace bw:=bw.ext ao;replace hX:=hX.ext ao;replace hY:=hY.ext ao;replace hO:=hO.ext ao);refine SW.nil (ae.sa ao ?_);refine Wa ?_;refine SA.one 5 rfl (by kernel_rfl) rfl ?_;refine SW.call rfl rfl (nV _ _ _ _ _ (kO.bK.ext hw) (by omega)) fun v w4 ao hv => ?_
   obtain ⟨M,m4,rfl,hM⟩:=hv;have iy:=hO.Oh (b:=⟨M,cs[k].aK.n,m4⟩) hM.ba;replace hM:=hM.low (Nat.le_trans KL (Nat.le_of_lt bw.lt));(replace hw:=Ext.trans hw ao;replace aC:=aC.ext ao;replace aq:=aq.ext ao;replace bw:=bw.ext ao;replace hX:=hX.ext ao;replace hY:=hY.ext ao;replace hO:=hO.ext ao;replace hN:=hN.ext ao);refine SW.nil (ae.sa ao ?_);refine SA.one 8 rfl (by kernel_rfl) rfl ?_;refine SW.call rfl rfl (cX _ _ _ _ _ (kO.dh.ext hw) (by omega)) fun v w4 ao hv => ?_
   obtain ⟨Q,q7,rfl,hQ⟩:=hv;have H7:=hO.Oi (b:=⟨Q,cs[k].a8.n,q7⟩) hQ.ba;have uG:=kR (a:=⟨X,r.Words.n,c4⟩) (b:=⟨Q,cs[k].a8.n,q7⟩) hX hQ.ba;replace hQ:=hQ.low (Nat.le_trans KL (Nat.le_of_lt bw.lt));(replace hw:=Ext.trans hw ao;replace aC:=aC.ext ao;replace aq:=aq.ext ao;replace bw:=bw.ext ao;replace hX:=hX.ext ao;replace hY:=hY.ext ao;replace hO:=hO.ext ao;replace hN:=hN.ext ao;replace hM:=hM.ext ao);refine SW.nil (ae.sa ao ?_);refine SA.done (by kernel_rfl) ?_;refine SW.bp (i:=0) bw rfl rfl rfl rfl fun w6 eQ hg => ?_
   have hG:=bw.gr hg;replace hw:=hw.own j2 hg;replace hO:=hO.cU bw hg zT ig;(replace aC:=aC.au hG rfl;replace aq:=aq.au hG rfl;replace hX:=hX.au hG rfl;replace hY:=hY.au hG rfl;replace hN:=hN.au hG rfl;replace hM:=hM.au hG rfl;replace hQ:=hQ.au hG rfl);replace bw:=eQ;clear eQ hg hG;refine Wz ?_;refine SW.bp (i:=4) bw rfl rfl rfl rfl fun w6 eQ hg => ?_
   have hG:=bw.gr hg;replace hw:=hw.own j2 hg;replace hO:=hO.cU bw hg zT ig;(replace aC:=aC.au hG rfl;replace aq:=aq.au hG rfl;replace hX:=hX.au hG rfl;replace hY:=hY.au hG rfl;replace hN:=hN.au hG rfl;replace hM:=hM.au hG rfl;replace hQ:=hQ.au hG rfl);replace bw:=eQ;clear eQ hg hG;refine Wz ?_;refine SW.bp (i:=5) bw rfl rfl rfl rfl fun w6 eQ hg => ?_
   have hG:=bw.gr hg;replace hw:=hw.own j2 hg;replace hO:=hO.cU bw hg zT ig;(replace aC:=aC.au hG rfl;replace aq:=aq.au hG rfl;replace hX:=hX.au hG rfl;replace hY:=hY.au hG rfl;replace hN:=hN.au hG rfl;replace hM:=hM.au hG rfl;replace hQ:=hQ.au hG rfl);replace bw:=eQ;clear eQ hg hG;refine Wz ?_;refine SW.dJ rfl rfl rfl rfl rfl fun b w6 ao hb hB => ?_
   (replace hw:=Ext.trans hw ao;replace aC:=aC.ext ao;replace aq:=aq.ext ao;replace hX:=hX.ext ao;replace hY:=hY.ext ao;replace hO:=hO.ext ao;replace hN:=hN.ext ao;replace hM:=hM.ext ao;replace hQ:=hQ.ext ao);refine SW.append hO.row (aT.wU (enc:=fG) (x:=⟨⟨N,_,n4⟩,cs[k].aY,cs[k].jm,cs[k].Order,⟨M,_,m4⟩,⟨Q,_,q7⟩⟩) hB) (Nat.le_trans KL (Nat.le_trans (Nat.le_of_lt bw.lt) ao.size)) rfl rfl rfl (by simp only;omega) (by simp only;omega) fun A2 c2 w5 mn hg => ?_
   have hG:=hO.row.gr hg;have Qo:=Nat.le_trans (Nat.le_trans KL (Nat.le_trans (Nat.le_of_lt bw.lt) ao.size)) hg.size;replace hw:=aJ hw hg (Nat.le_trans yW uv) hO.row.ba;(replace aC:=aC.au hG rfl;replace aq:=aq.au hG rfl;replace hX:=hX.au hG rfl;replace hY:=hY.au hG rfl;replace hN:=hN.au hG rfl;replace hM:=hM.au hG rfl;replace hQ:=hQ.au hG rfl);have hE:=hO.each.mono fun _ _ h=>h.au hG rfl
   refine Wz ?_;refine SW.bp (i:=6) aq rfl rfl rfl rfl fun w6 cS hg => ?_
   have hG:=aq.gr hg;replace hw:=hw.own cJ hg;replace aC:=aC.grown hg (by simpa using gl);(replace hX:=hX.au hG rfl;replace hY:=hY.au hG rfl;replace hN:=hN.au hG rfl;replace hM:=hM.au hG rfl;replace hQ:=hQ.au hG rfl;replace mn:=mn.au hG rfl);replace hE:=hE.mono fun _ _ h=>h.au hG rfl
   refine Wz ?_;refine ae.again (k+1,A2,c2,zr++[⟨⟨N,_,n4⟩,cs[k].aY,cs[k].jm,cs[k].Order,⟨M,_,m4⟩,⟨Q,_,q7⟩⟩]) ⟨rfl,rfl,rfl,rfl,rfl,trivial⟩ (by simp only;omega) ⟨by simp only;omega,Nat.le_trans Qo hg.size,hw,aC,cS,hX,hY,⟨mn,?_⟩,rc.snoc (fun u hu=>⟨FB u hu,iy u hu,H7 u hu⟩) uG⟩;rw [List.take_succ_eq_append_getElem (by omega)];exact hE.snoc ⟨kO.size,kO.qI,kO.order,hN,hM,hQ⟩
  ·obtain rfl:k=r.ai.n:=by omega
   rw [List.take_of_length_le (by omega)] at hO;refine Wz ?_;refine SW.ah aC rfl rfl rfl rfl (cq _) fun w5 ct hg => ?_
   have hG:=aC.gr hg;replace hw:=hw.own oK hg;(replace hX:=hX.au hG rfl;replace hY:=hY.au hG rfl;replace hO:=hO.au hG rfl);refine Wz ?_;exact ae.wY rfl rfl ct rfl ⟨_,rfl,hw,⟨_,G,_⟩,zr,rfl,⟨hX,hY.own.low yW,hO.row.low (Nat.le_trans yW uv),hO.each.mono fun _ _ h=>h.low (Nat.le_trans yW uv),rc.pair⟩,⟨m1,m2,yW,uv,IH,hY,hO.each⟩⟩
open Go.RowKit
open Go.RowKit
open Go.RowKit
open Go.RowKit
open Go.RowKit
open Go.RowKit
open Go.RowKit
section
variable {wb w w':World} {k:HK} {p:HP} {s:ab×ab} {L:List ap} {t:TypeId} {b:Nat}
end
open Go.RowKit
open Go.RowKit
open Go.RowKit
open Go.RowKit
open Go.RowKit
open Go.RowKit
section
variable {P:Program} {L:Env} {w:World} {d:Option Nat} {T:TypeId} {pos:String} {af:Array Edge} {g:Option (Nat×Bool)}
end
open Go.RowKit
open Go.RowKit
def KM (n:Int) : Int:=if n≤16 then 0 else if n≤32 then 1 else if n≤64 then 2 else if n≤128 then 3 else 4
inductive lK (s:ak) (cpu n:Int) : ak×Int×Int→Prop where
 | bad (h:fA s=false) : lK s cpu n (.zero,0,8)
 | range (h:fA s=true) (hn:n<1) : lK s cpu n (.zero,0,1)
 | size (h:fA s=true) (hn : 256<n) : lK s cpu n (.zero,0,9)
 | obj {u:ak×Int×Int} (h:fA s=true) (hn : 1≤n∧n≤32) (ho:Iw s (Il n) cpu u) : lK s cpu n u
 | fault {u:Heap×Int×Int} (h:fA s=true) (hn : 32<n∧n≤256) (ha:bI s.Heap cpu (KM n) 0 u) (he:u.2.2≠0) : lK s cpu n (.zero,0,u.2.2)
 | cb {u:Heap×Int×Int} (h:fA s=true) (hn : 32<n∧n≤256) (ha:bI s.Heap cpu (KM n) 0 u) (he:u.2.2=0) : lK s cpu n (td s u.1,16*u.2.1,0)
structure iY where
 Kind:Int
 eI:Int
 N:Int
 M:Int
 At:Int
 Flags:Int
 Name:ByteArray
open Go.RowKit
theorem km.au {w w':World} {lo t:Nat} {r:ik} {s:ak} (h:km w lo r s) (hG:tZ w w' t) (cr:(Nat.beq t 3 || (Nat.beq t 165 || (Nat.beq t 139 || (Nat.beq t 142 || (Nat.beq t 89 || (Nat.beq t 9 || Nat.beq t 91))))))=false) : km w' lo r s:=by
 simp only [Bool.or_eq_false_iff] at cr;obtain ⟨h1,h2,h3,h4,h5,h6,h7⟩:=cr;obtain ⟨cs,hc⟩:=h.ck;exact ⟨h.words.au hG h1,h.heap.au hG (by simp [h1,h2,h3,h4]),⟨cs,hc.au hG (by simp [h1,h5,h6,h7])⟩⟩
open Go.RowKit
noncomputable def ku (h:Heap) : Int×Heap:=if fa h then (match h.aL with | [z0,z1]=>(0,ke h z0 z1)|_=>(8,⟨[],[],0,[],[]⟩)) else (8,⟨[],[],0,[],[]⟩)
theorem yl {h:Heap} (hb:fa h=false) : ku h=(8,⟨[],[],0,[],[]⟩):=by simp [ku,hb]
theorem tq {h:Heap} (hb:fa h=true) {z0 z1:ab} (hz:h.aL=[z0,z1]) : ku h=(0,ke h z0 z1):=by simp [ku,hb,hz]
set_option maxHeartbeats 2000000 in
theorem Cv (r:gb) (h:Heap) (w:World) (hr:AM w r h) (hs:h.small) (Fg:∀ z∈h.aL,kM z) :
 bl Tryz.prog 80 [.agg (bW r).toArray] w (gE w.heap.size (ku h)):=by
 refine aD Tryz.func80 rfl Tryz.ntmps80 rfl ?_;refine CW.seq (CW.region (SW.box rfl rfl fun b1 w1 hw gX aB => ?_));have El:=gX;refine SW.alloc rfl fun b2 w2 bo jg aC => ?_
 have oK:w.heap.size≤b2:=Nat.le_trans hw.size jg
 have cr:b1≠b2:=by have:=aB.lt;omega
 (replace hw:=Ext.trans hw bo;replace aB:=aB.ext bo);obtain ⟨q,hq⟩ : ∃ q,fa h=q:=⟨_,rfl⟩
 have c1:∀ w',Ext w w'→bl Tryz.prog 88 [.agg (bW r).toArray] w' fun v _=>v = .int .i64 (if q then 0 else 8):=fun w' hx=>by
  have:=lE r h w' (hr.ext hx) hs Fg
  rwa [hq] at this
 cases q
 ·simp only [Bool.false_eq_true,if_false] at c1;rw [yl hq];repeat' (first|refine Wz ?_|(refine SW.call rfl rfl (c1 _ hw) ?_;intro v w1 aa hv;subst hv;replace hw:=Ext.trans hw aa;replace aB:=aB.ext aa;replace aC:=aC.ext aa;clear aa))
  refine SW.ah aC rfl rfl rfl rfl (dt .zero) fun w5 ct hg => ?_
  replace hw:=hw.own oK hg;refine Wz ?_;exact ae.cA rfl rfl rfl ct rfl ⟨_,rfl,hw,gE.zero 8 _ _⟩
 ·simp only [if_true] at c1;have hm:=bH.1 hq;obtain ⟨z0,z1,hd⟩:=xC hm;rw [tq hq hd.bz];repeat' (first|refine Wz ?_|(refine SW.call rfl rfl (c1 _ hw) ?_;intro v w1 aa hv;subst hv;replace hw:=Ext.trans hw aa;replace aB:=aB.ext aa;replace aC:=aC.ext aa;clear aa))
  refine SW.call rfl rfl (iD r h _ (hr.ext hw) hs) fun v w4 dz hv => ?_
  obtain ⟨s,rfl,hO⟩:=hv;replace hO:=hO.low hw.size;(replace hw:=Ext.trans hw dz;replace aB:=aB.ext dz;replace aC:=aC.ext dz);clear c1;obtain ⟨g,c,u0,u1,ls,eZ,hZ,hR⟩:=hO.split hd.bz;have Eo:=hO.cpus;clear hO;obtain ⟨sz,m,cp,li,lv⟩:=s;simp only at eZ hR Eo;subst eZ;refine SW.ah aB rfl rfl rfl rfl (dt ⟨⟨some ⟨g,0,none⟩,2,c⟩,m,cp,li,lv⟩) fun w5 nH hg => ?_
  have hG:=aB.gr hg;replace hw:=hw.own El hg;replace aC:=aC.grown hg (by simpa using Ne.symm cr);replace hZ:=hZ.au hG rfl;replace hR:=hR.au hG rfl;replace aB:=nH;clear nH hg hG;refine Wz ?_;have qX:b2≠g:=fun e=>hZ.row.cu aC rfl (by rw [hZ.own,e])
  refine SW.dy rfl rfl (Cj h z0 z1 hd hs m cp li lv ls u0 u1 g c b1 w.heap.size w _ hw (Nat.le_refl _) hw.size El aB hZ hR) fun v w6 hv => ?_
  obtain ⟨wR,hE,nH,Qp,u2,u3,yX⟩:=hv;replace aC:=hE.cU aC qX (Ne.symm cr);clear hw aB hR hZ hE;have hw:=wR;clear wR;refine Wz ?_;refine SW.ah aC rfl rfl rfl rfl (dt ⟨⟨some ⟨g,0,none⟩,2,c⟩,m,cp,.nil,lv⟩) fun w7 ct hg => ?_
  have hG:=aC.gr hg;replace hw:=hw.own oK hg;refine Wz ?_;exact ae.cA rfl rfl rfl ct rfl ⟨_,rfl,hw,⟨⟨some ⟨g,0,none⟩,2,c⟩,m,cp,.nil,lv⟩,rfl,(Qp.au hG rfl).join (yX.au hG rfl) Eo⟩
theorem Bk {z:ab} (h:aU z) : z.ag.length*24≤140737488355328∧z.Types.length*8≤140737488355328:=by
 have:=gu h
 exact ⟨Nat.le_trans (Nat.mul_le_mul_right 24 this.1) (by decide),by omega⟩
theorem wy (h:Heap) (hs:h.small) : (ku h).2.small:=by
 cases hq:fa h
 ·rw [yl hq];constructor<;>simp
 ·obtain ⟨z0,z1,hd⟩:=xC (bH.1 hq);rw [tq hq hd.bz];have hI:=hd.inv _ (Nat.le_refl _);rw [List.take_length] at hI;refine ⟨by simp [ke],hs.cT,by simp [ke],hs.live,fun z hz => ?_,fun l hl=>by simp [ke] at hl⟩;simp only [ke,List.mem_cons,List.not_mem_nil,or_false] at hz;rcases hz with rfl|rfl
  ·exact Bk hI.gZ
  ·exact Bk hI.gL
open Go.RowKit
structure iZ where
 Code:Int
 N:Int
 L:List Int
structure Ac where
 Code:Int
 N:Int
 L:fD
def rm (a:iY) : List Value:=[.int .i64 a.Kind,.int .i64 a.eI,.int .i64 a.N,.int .i64 a.M,.int .i64 a.At,.int .i64 a.Flags,.string a.Name]
instance:fu rm 7:=⟨fun _=>rfl,fun r u hu=>by simp [rm] at hu;rcases hu with rfl|rfl|rfl|rfl|rfl|rfl|rfl<;>rfl⟩
def fM (r:Ac) : List Value:=[.int .i64 r.Code,.int .i64 r.N,r.L.v]
instance:fu fM 3:=⟨fun _=>rfl,fun r u hu=>by simp [fM,fD.v] at hu;rcases hu with rfl|rfl|rfl<;>rfl⟩
theorem jY (r:Ac) : ∀ v∈fM r,v.oneCell'=true:=fu.one (enc:=fM) r
theorem KN (r:iY) : ∀ v∈rm r,v.oneCell'=true:=fu.one (enc:=rm) r
structure mj (s:ak) : Prop where
 g7:s.g7
 may:gf s
structure lL (w:World) (lo:Nat) (r:Ac) (x:iZ) : Prop where
 code:r.Code=x.Code
 n:r.N=x.N
 list:Own w lo 3 1 bB r.L.A r.L.n r.L.c x.L
section
variable {w w':World} {lo kA t:Nat} {r:Ac} {x:iZ}
theorem lL.ext (h:lL w lo r x) (hx:Ext w w') : lL w' lo r x:=⟨h.code,h.n,h.list.ext hx⟩
theorem lL.low (h:lL w lo r x) (hl:kA≤lo) : lL w kA r x:=⟨h.code,h.n,h.list.low hl⟩
theorem lL.au (h:lL w lo r x) (hG:tZ w w' t) (cr:Nat.beq t 3=false) : lL w' lo r x:=⟨h.code,h.n,h.list.au hG cr⟩
theorem lL.plain (w:World) (lo:Nat) (c n:Int) : lL w lo ⟨c,n,.nil⟩ ⟨c,n,[]⟩:=⟨rfl,rfl,Own.fj _ _ _ _ _ _⟩
end
structure ir (w:World) (lo:Nat) (A:Option Addr) (n c:Nat) (rs:List Ac) (xs:List iZ) : Prop where
 row:Own w lo 55 3 fM A n c rs
 each:dV (lL w lo) rs xs
section
variable {w w':World} {lo kA t n c:Nat} {A:Option Addr} {rs:List Ac} {xs:List iZ}
theorem ir.ext (h:ir w lo A n c rs xs) (hx:Ext w w') : ir w' lo A n c rs xs:=⟨h.row.ext hx,h.each.mono fun _ _ h=>h.ext hx⟩
theorem ir.low (h:ir w lo A n c rs xs) (hl:kA≤lo) : ir w kA A n c rs xs:=⟨h.row.low hl,h.each.mono fun _ _ h=>h.low hl⟩
theorem ir.au (h:ir w lo A n c rs xs) (hG:tZ w w' t) (cr:(Nat.beq t 55 || Nat.beq t 3)=false) : ir w' lo A n c rs xs:=by
 simp only [Bool.or_eq_false_iff] at cr;exact ⟨h.row.au hG cr.1,h.each.mono fun _ _ h=>h.au hG cr.2⟩
theorem ir.len (h:ir w lo A n c rs xs) : xs.length=n:=by rw [← h.each.len,h.row.len]
end
def tr (e:Int) (s t:ak) : ak:=if e=0 then t else s
inductive pq (s:ak) (a:iY) : ak×Int→Prop
 | range (h : ¬ (0≤a.At∧a.At<256)) : pq s a (s,1)
 | no (h : 0≤a.At∧a.At<256) (hw:dN s (a.At*16)=false) : pq s a (s,4)
 | ok (h : 0≤a.At∧a.At<256) (hw:dN s (a.At*16)=true) (he:(iW s.Heap a.eI a.At).1=0) : pq s a (td s (iW s.Heap a.eI a.At).2,0)
 | fault (h : 0≤a.At∧a.At<256) (hw:dN s (a.At*16)=true) (he:(iW s.Heap a.eI a.At).1≠0) : pq s a (s,(iW s.Heap a.eI a.At).1)
inductive na (s:ak) (a:iY) : ak×iZ→Prop
 | cb {u:Heap×Int×Int} (hk:a.Kind=1) (h:bI s.Heap a.eI a.N a.Flags u) : na s a (tr u.2.2 s (td s u.1),⟨u.2.2,u.2.1,[]⟩)
 | Cw {u:ak×Int} (hk:a.Kind=2) (h:pq s a u) : na s a (tr u.2 s u.1,⟨u.2,0,[]⟩)
 | drain (hk:a.Kind=12) : na s a (tr (ku s.Heap).1 s (td s (ku s.Heap).2),⟨(ku s.Heap).1,0,[]⟩)
 | pr {u:ak×Int×Int} (hk:a.Kind=8) (h:lK s a.eI a.N u) : na s a (tr u.2.2 s u.1,⟨u.2.2,u.2.1,[]⟩)
 | ym {u:ak×Int} (hk:a.Kind=9) (h:qi s a.eI a.At u) : na s a (tr u.2 s u.1,⟨u.2,0,[]⟩)
 | yn {u:Int×Int} (hk:a.Kind=10) (h:ta s a.At u) : na s a (s,⟨u.2,u.1,[]⟩)
inductive kW:ak→List iY→List iZ→ak→Prop
 | nil (s:ak) : kW s [] [] s
 | snoc {s t:ak} {l:List iY} {xs:List iZ} {a:iY} {u:ak×iZ} (h:kW s l xs t) (hu:na t a u) : kW s (l++[a]) (xs++[u.2]) u.1
theorem kW.len {s t:ak} {l:List iY} {xs:List iZ} (h:kW s l xs t) : xs.length=l.length:=by
 induction h with
 | nil=>rfl
 | snoc h hu ih=>simp [ih]
theorem kW.vc {s t:ak} {l:List iY} {a:iY} {xs:List iZ} (h:kW s (l++[a]) xs t) : ∃ ys m u,kW s l ys m∧na m a u∧xs=ys++[u.2]∧t=u.1:=by
 generalize e:l++[a]=l' at h
 cases h with
 | nil=>simp at e
 | snoc h hu =>
   obtain ⟨rfl,e2⟩:=List.append_inj' e rfl;simp only [List.cons.injEq,and_true] at e2;subst e2;exact ⟨_,_,_,h,hu,rfl,rfl⟩
def wz (I:ak→Prop) (a:iY) : Prop := ∀ s u,I s→na s a u→I u.1
def Nh (lo:Nat) (u:ak×iZ) (v:Value) (w:World) : Prop := ∃ q x,v = .tuple #[.agg (bq q).toArray,.agg (fM x).toArray]∧km w lo q u.1∧lL w lo x u.2
def nB (I:ak→Prop) (a:iY) : Prop := ∀ (r:ik) (s:ak) (lo:Nat) (w:World),km w lo r s→lo≤w.heap.size→I s→jU w→oV w →
 bl Tryz.prog 35 [.agg (bq r).toArray,.agg (rm a).toArray] w fun v w' => ∃ u,na s a u∧Nh lo u v w'
theorem ae.vd {P:Program} {fn:Func} {R:Ending→World→Prop} {n:Nat} {L:Env} {w:World} {t t' ty Ni b b' tb Qq m m':Nat} {cs Fh:List Value} [c:dZ P ty m] [c':dZ P Ni m'] (hr:fn.results = #[.cell t ty,.cell t' Ni]) (hv:get L t=some (.pointer (some ⟨b,0,none⟩))) (Jg:get L t'=some (.pointer (some ⟨b',0,none⟩)))
 (hB:aT w b tb cs) (q9:aT w b' Qq Fh) (hl:Nat.beq cs.length m=true) (Fc:Nat.beq Fh.length m'=true) (h:R (.returned (.tuple #[.agg cs.toArray,.agg Fh.toArray])) w) : ae n (bodyPost P fn R) .ret L w :=
 ⟨fun a ha=>⟨ha.defers,_,by simpa using jk.results (rs:=[.cell t ty,.cell t' Ni]) hr (.cell c hv hB (Nat.eq_of_beq_eq_true hl) (.cell c' Jg q9 (Nat.eq_of_beq_eq_true Fc) .nil)) ha,h⟩⟩
end Go.Proofs.YtbidkghlpijecaaGreatDoor
