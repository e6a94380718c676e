/-
  Texts of the claim KmemAllocs, part 25: what its theorem leans on.
-/
import Derived.Test.YtbidkghlpijecaaGreatDoorPackKmemAllocs16
import Derived.Test.YtbidkghlpijecaaGreatDoorPackKmemAllocs24
import Derived.Test.YtbidkghlpijecaaGreatDoorPackKmemAllocs8
import Derived.Test.YtbidkghlpijecaaGreatDoorPackKmemAllocs6
import Derived.Test.YtbidkghlpijecaaGreatDoorPackKmemAllocs2
set_option linter.unusedVariables false
set_option linter.unusedSimpArgs false
namespace Go.Proofs.YtbidkghlpijecaaGreatDoor
open Go.RowKit
def yj (n:Int) : Int:=if n≤16 then 0 else if n≤32 then 1 else if n≤64 then 2 else if n≤128 then 3 else 4
inductive dV (s:aE) (cpu n:Int) : aE×Int×Int→Prop where
 | bad (h:g9 s=false) : dV s cpu n (.zero,0,8)
 | range (h:g9 s=true) (hn:n<1) : dV s cpu n (.zero,0,1)
 | size (h:g9 s=true) (hn : 256<n) : dV s cpu n (.zero,0,9)
 | obj {u:aE×Int×Int} (h:g9 s=true) (hn : 1≤n∧n≤32) (ho:mi s (eE n) cpu u) : dV s cpu n u
 | fault {u:Heap×Int×Int} (h:g9 s=true) (hn : 32<n∧n≤256) (ha:di s.Heap cpu (yj n) 0 u) (he:u.2.2≠0) : dV s cpu n (.zero,0,u.2.2)
 | bL {u:Heap×Int×Int} (h:g9 s=true) (hn : 32<n∧n≤256) (ha:di s.Heap cpu (yj n) 0 u) (he:u.2.2=0) : dV s cpu n (Ly s u.1,16*u.2.1,0)
theorem dV.jy {s:aE} {cpu n:Int} {u v:aE×Int×Int} (x:dV s cpu n u) (y:dV s cpu n v) : u=v:=by
 cases x with
 | bad h=>cases y with
   | bad=>rfl
   | range h'|size h'|obj h'|fault h'|bL h'=>rw [h] at h';cases h'
 | range h hn=>cases y with
   | bad h'=>rw [h] at h';cases h'
   | range=>rfl
   | size _ lO|obj _ lO|fault _ lO|bL _ lO=>omega
 | size h hn=>cases y with
   | bad h'=>rw [h] at h';cases h'
   | size=>rfl
   | range _ lO|obj _ lO|fault _ lO|bL _ lO=>omega
 | obj h hn ho=>cases y with
   | bad h'=>rw [h] at h';cases h'
   | obj _ _ sc=>exact ho.jy sc
   | range _ lO|size _ lO|fault _ lO|bL _ lO=>omega
 | fault h hn ha he=>cases y with
   | bad h'=>rw [h] at h';cases h'
   | fault _ _ gh=>rw [ha.jy gh]
   | bL _ _ gh lM=>rw [ha.jy gh] at he;exact absurd lM he
   | range _ lO|size _ lO|obj _ lO=>omega
 | bL h hn ha he=>cases y with
   | bad h'=>rw [h] at h';cases h'
   | bL _ _ gh=>rw [ha.jy gh]
   | fault _ _ gh lM=>rw [ha.jy gh] at he;exact absurd he lM
   | range _ lO|size _ lO|obj _ lO=>omega
theorem dV.small {s:aE} {cpu n:Int} {u:aE×Int×Int} (x:dV s cpu n u) (hf:s.kh) : u.1.small:=by
 have hs:=hf.small;cases x with
 | bad|range|size|fault=>exact aE.km
 | obj _ _ ho=>exact ho.small hf
 | bL _ _ ha=>exact ⟨hs.words,ha.small hs.heap,hs.dn,hs.each⟩
theorem Eg {n:Int} {j:Nat} (hj:j<6) (h1:∀ m,m<j→kP m<n) (h2:n≤kP j) : eE n=oJ (kP j)∧n≤32:=by
 have a0:=h1 0;have a1:=h1 1;have a2:=h1 2;have a3:=h1 3;have a4:=h1 4;unfold kP at *;rcases (show j=0∨j=1∨j=2∨j=3∨j=4∨j=5 by omega) with rfl|rfl|rfl|rfl|rfl|rfl
 all_goals
  simp only [Nat.reduceLT,forall_const,Int.reducePow,false_implies] at a0 a1 a2 a3 a4 h2;refine ⟨?_,by omega⟩;unfold eE;repeat' split
  all_goals first|(exfalso;omega)|rfl
theorem B7 {n:Int} (h1:∀ m,m<6→kP m<n) : eE n=⟨#[]⟩∧32<n:=by
 have a5:=h1 5 (by omega);unfold kP at a5;simp only [Int.reducePow] at a5;refine ⟨?_,a5⟩;unfold eE;repeat' split
 all_goals first|(exfalso;omega)|rfl
theorem Eh {n:Int} {j:Nat} (hj:j<5) (h1:∀ m:Nat,m<j→16*pw (m:Int)<n) (h2:n≤16*pw (j:Int)) : yj n=(j:Int)∧n≤256:=by
 have a0:=h1 0;have a1:=h1 1;have a2:=h1 2;have a3:=h1 3;have p0:pw ((0:Nat) : Int)=1:=by decide
 have p1:pw ((1:Nat) : Int)=2:=by decide
 have p2:pw ((2:Nat) : Int)=4:=by decide
 have p3:pw ((3:Nat) : Int)=8:=by decide
 have p4:pw ((4:Nat) : Int)=16:=by decide
 rw [p0] at a0;rw [p1] at a1;rw [p2] at a2;rw [p3] at a3;rcases (show j=0∨j=1∨j=2∨j=3∨j=4 by omega) with rfl|rfl|rfl|rfl|rfl
 all_goals
  first|rw [p0] at h2|rw [p1] at h2|rw [p2] at h2|rw [p3] at h2|rw [p4] at h2
  refine ⟨?_,by omega⟩;unfold yj;repeat' split
  all_goals first|(exfalso;omega)|rfl
theorem AF {n:Int} (h1:∀ m:Nat,m<5→16*pw (m:Int)<n) : 256<n:=by
 have:=h1 4 (by omega)
 rw [show pw ((4:Nat) : Int)=16 by decide] at this;omega
theorem yl (n:Int) : (eE n).size≤140737488351232:=by
 unfold eE;split
 ·decide
 split
 ·decide
 split
 ·decide
 split
 ·decide
 split
 ·decide
 split
 ·decide
 ·decide
theorem B8 {n:Int} (h:n≤32) : eE n≠⟨#[]⟩:=by
 unfold eE;split
 ·decide
 split
 ·decide
 split
 ·decide
 split
 ·decide
 split
 ·decide
 decide
open Go.RowKit
theorem na.ay {w w':World} {lo t:Nat} {r:dQ} {s:aE} (h:na w lo r s) (hG:oa w w' t) (cG:(Nat.beq t 3 || (Nat.beq t 165 || (Nat.beq t 139 || (Nat.beq t 142 || (Nat.beq t 89 || (Nat.beq t 9 || Nat.beq t 91))))))=false) : na w' lo r s:=by
 simp only [Bool.or_eq_false_iff] at cG;obtain ⟨h1,h2,h3,h4,h5,h6,h7⟩:=cG;obtain ⟨cs,hc⟩:=h.dn;exact ⟨h.words.ay hG h1,h.heap.ay hG (by simp [h1,h2,h3,h4]),⟨cs,hc.ay hG (by simp [h1,h5,h6,h7])⟩⟩
open Go.RowKit
theorem zR (n:Int) (w:World) (hS:mb w) : bo Tryz.prog 65 [.int .i64 n] w fun v _=>v = .tuple #[.string (eE n),.bool (decide (n≤32))]:=by
 refine aI Tryz.func65 rfl Tryz.ntmps65 rfl ?_;have hw:=Ext.refl w;repeat' (first|refine Wz ?_|refine SW.st (aW rfl rfl ((BH hS))) rfl ?_)
 refine CW.loop (fun j:Nat=>[(0,.int .i64 n),(6,.agg (kL.map (Value.int .i64)).toArray),(7,.int .i64 (j:Int))]) (fun j w'=>j≤6∧Ext w w' ∧ ∀ m,m<j→kP m<n) (fun j=>6-j) 0
  ⟨rfl,rfl,rfl,trivial⟩ ⟨by omega,hw,fun m h=>by omega⟩ ?_
 clear hw;rintro j w' ⟨hj,hw,hI⟩
 by_cases Ku:j<6
 ·obtain ⟨k1,k2,k3,k4⟩:=Jm Ku;have Kk:=Eg (n:=n) Ku hI;obtain ⟨z,hz⟩ : ∃ z,kP j=z:=⟨_,rfl⟩;rw [hz] at k1 k2 k3 k4 Kk;have vn:(kL.map (Value.int .i64))[j]?=some (.int .i64 z):=by rw [List.getElem?_map,k2];rfl
  by_cases Pc:n≤z
  ·obtain ⟨e1,e2⟩:=Kk Pc;repeat' (first|refine Wz ?_|(refine SW.call rfl rfl (BF z k1 _) ?_;intro v w1 ab hv;subst hv;replace hw:=Ext.trans hw ab;clear ab)|(refine SW.st (nD j rfl rfl rfl Ku vn) rfl ?_))
   exact ae.cx rfl rfl rfl ⟨_,rfl,hw,by rw [e1,decide_eq_true e2]⟩
  ·repeat' (first|refine Wz ?_|(refine SW.st (nD j rfl rfl rfl Ku vn) rfl ?_))
   refine ae.again (j+1) ⟨rfl,rfl,rfl,trivial⟩ (by omega) ⟨by omega,hw,fun m h => ?_⟩;by_cases e:m=j
   ·subst e;omega
   ·exact hI m (by omega)
 ·obtain rfl:j=6:=by omega
  obtain ⟨e1,e2⟩:=B7 hI;refine Wz ?_;exact ae.cx rfl rfl rfl ⟨_,rfl,hw,by rw [e1,decide_eq_false (by omega)]⟩
def rL (lo:Nat) (u:aE×Int×Int) (v:Value) (w:World) : Prop := ∃ q,v = .tuple #[.agg (aR q).toArray,.int .i64 u.2.1,.int .i64 u.2.2]∧na w lo q u.1
theorem rL.zero (e:Int) (lo:Nat) (w:World) : rL lo (.zero,0,e) (.tuple #[.agg (aR .zero).toArray,.int .i64 0,.int .i64 e]) w :=
 ⟨.zero,rfl,Own.eJ _ _ _ _ _ _,iD.zero w lo,⟨[],dX.nil _ _⟩⟩
set_option maxHeartbeats 4000000 in
theorem zS (r:dQ) (s:aE) (cpu n:Int) (w:World) (hr:qR w r s) (hf:s.kh) (hS:mb w) (pK:nR w) :
 bo Tryz.prog 26 [.agg (aR r).toArray,.int .i64 cpu,.int .i64 n] w fun v w' => ∃ u,dV s cpu n u∧rL w.heap.size u v w':=by
 refine aI Tryz.func26 rfl Tryz.ntmps26 rfl ?_;refine CW.seq (CW.region (SW.box rfl rfl fun b3 w1 hw bH aq => ?_));refine SW.alloc rfl fun b6 w2 cq eg aw => ?_
 have cu:w.heap.size≤b6:=Nat.le_trans hw.size eg
 have cG:b6≠b3:=by have:=aq.lt;omega
 (replace hw:=Ext.trans hw cq;replace aq:=aq.ext cq);have hs:=hf.small;obtain ⟨q,hq⟩ : ∃ q,g9 s=q:=⟨_,rfl⟩
 have c1:∀ w',Ext w w'→bo Tryz.prog 41 [.agg (aR r).toArray] w' fun v _=>v = .int .i64 (if q then 0 else 8):=fun w' hx=>by
  have:=tu r s w' (hr.ext hx) hf
  rwa [hq] at this
 cases q
 ·simp only [Bool.false_eq_true,if_false] at c1;repeat' (first|refine Wz ?_|(refine SW.call rfl rfl (c1 _ hw) ?_;intro v w1 ab hv;subst hv;replace hw:=Ext.trans hw ab;replace aq:=aq.ext ab;replace aw:=aw.ext ab;clear ab))
  refine SW.ak aw rfl rfl rfl rfl (cr .zero) fun w5 bF hg => ?_
  replace hw:=hw.own cu hg;refine Wz ?_;exact ae.cl rfl rfl rfl rfl bF rfl ⟨_,rfl,hw,_,.bad hq,rL.zero 8 _ _⟩
 simp only [if_true] at c1;have hM:=lD.1 hq;by_cases zZ:n<1
 ·repeat' (first|refine Wz ?_|(refine SW.call rfl rfl (c1 _ hw) ?_;intro v w1 ab hv;subst hv;replace hw:=Ext.trans hw ab;replace aq:=aq.ext ab;replace aw:=aw.ext ab;clear ab))
  refine SW.ak aw rfl rfl rfl rfl (cr .zero) fun w5 bF hg => ?_
  replace hw:=hw.own cu hg;refine Wz ?_;exact ae.cl rfl rfl rfl rfl bF rfl ⟨_,rfl,hw,_,.range hq zZ,rL.zero 1 _ _⟩
 have c2:∀ w',Ext w w'→bo Tryz.prog 65 [.int .i64 n] w' fun v _=>v = .tuple #[.string (eE n),.bool (decide (n≤32))]:=fun w' hx=>zR n w' (hS.ext hx)
 have gG:=yl n;by_cases EE:n≤32
 ·rw [decide_eq_true EE] at c2;obtain ⟨cs,HQ⟩ : ∃ cs,eE n=cs:=⟨_,rfl⟩;have hR:=fun u (h:mi s (eE n) cpu u)=>dV.obj (cpu:=cpu) (n:=n) hq ⟨by omega,EE⟩ h
  rw [HQ] at c2 gG hR;repeat' (first|refine Wz ?_|(refine CW.bO rfl ?_)|((first|refine SW.call rfl rfl (c1 _ hw) ?_|refine SW.call rfl rfl (c2 _ hw) ?_);intro v w1 ab hv;subst hv;replace hw:=Ext.trans hw ab;replace aq:=aq.ext ab;replace aw:=aw.ext ab;clear ab))
  refine SW.call rfl rfl (uH r s cs cpu _ (hr.ext hw) hf gG (pK.ext hw)) fun v w5 iV hv => ?_
  obtain ⟨u,hu,q,rfl,hO⟩:=hv;replace hO:=hO.low hw.size;(replace hw:=Ext.trans hw iV;replace aq:=aq.ext iV;replace aw:=aw.ext iV);refine Wz ?_;refine SW.ak aw rfl rfl rfl rfl (cr q) fun w6 bF hg => ?_
  have hG:=aw.gr hg;replace hw:=hw.own cu hg;(replace hO:=hO.ay hG rfl);refine Wz ?_;exact ae.cl rfl rfl rfl rfl bF rfl ⟨_,rfl,hw,_,hR u hu,q,rfl,hO⟩
 rw [decide_eq_false EE] at c2;repeat' (first|refine Wz ?_|(refine CW.bB rfl ?_)|((first|refine SW.call rfl rfl (c1 _ hw) ?_|refine SW.call rfl rfl (c2 _ hw) ?_);intro v w1 ab hv;subst hv;replace hw:=Ext.trans hw ab;replace aq:=aq.ext ab;replace aw:=aw.ext ab;clear ab))
 clear c1 c2
 refine CW.loop (fun j:Nat=>[(1,.int .i64 cpu),(2,.int .i64 n),(3,.pointer (some ⟨b3,0,none⟩)),(6,.pointer (some ⟨b6,0,none⟩)),(38,.int .i64 (j:Int))])
  (fun j w'=>j≤5∧Ext w w'∧aJ w' b3 44 (aR r)∧aJ w' b6 44 (aR .zero) ∧ ∀ m:Nat,m<j→16*pw (m:Int)<n) (fun j=>5-j) 0
  ⟨rfl,rfl,rfl,rfl,rfl,trivial⟩ ⟨by omega,hw,aq,aw,fun m h=>by omega⟩ ?_
 clear hw aq aw;rintro j w' ⟨hj,hw,aq,aw,hI⟩
 by_cases yO:j<5
 ·have Jt:=bE (o:=(j:Int)) (by omega) (by omega);have qO:=Eh (n:=n) yO hI;obtain ⟨p,hp⟩ : ∃ p,pw (j:Int)=p:=⟨_,rfl⟩;rw [hp] at Jt qO;have Nq:(16:Int)*2 ^ ((j:Int)).toNat=16*p:=by rw [← hp];rfl
  by_cases Mi:n≤16*p
  ·obtain ⟨e1,e2⟩:=qO Mi;have J0:=fun u (h:di s.Heap cpu (yj n) 0 u) he=>dV.fault hq ⟨by omega,e2⟩ h he
   have bF:=fun u (h:di s.Heap cpu (yj n) 0 u) he=>dV.bL hq ⟨by omega,e2⟩ h he
   rw [e1] at J0 bF;repeat' (first|refine Wz ?_|refine SW.st (aW rfl rfl ((fY aq))) rfl ?_|(refine SW.st (eW (r:=16*p) rfl rfl (by omega) (by omega) Nq (by omega) (by omega)) rfl ?_))
   refine SW.call rfl rfl (qF r.Heap s.Heap cpu (j:Int) 0 _ (hr.heap.ext hw) hs.heap hf.cQ (pK.ext hw)) fun v w7 HR hv => ?_
   obtain ⟨u,hu,H,rfl,hH⟩:=hv;replace hH:=hH.low hw.size;(replace hw:=Ext.trans hw HR;replace aq:=aq.ext HR;replace aw:=aw.ext HR);by_cases he:u.2.2=0
   ·have Pd:=hu.at_ he;rw [he];refine Wz ?_;refine SW.alloc rfl fun Ir w1 ab rl pN => ?_
    skip;refine SW.ak pN rfl rfl rfl rfl (cn H) fun w2 pO hg => ?_
    have aj:=ab.own rl hg;have Ei:w.heap.size≤Ir:=Nat.le_trans hw.size rl
    replace hw:=Ext.trans hw aj;replace aq:=aq.ext aj;replace aw:=aw.ext aj;replace hH:=hH.ext aj;replace pN:=pO;clear pO ab hg aj;refine Wz ?_;refine SW.call rfl rfl (tN r s _ (hr.ext hw) hs) fun v w9 Ej hv => ?_
    obtain ⟨p,cs',rfl,J1,_⟩:=hv;have hP:=J1.xT.low hw.size;clear J1;(replace hw:=Ext.trans hw Ej;replace aq:=aq.ext Ej;replace aw:=aw.ext Ej;replace pN:=pN.ext Ej;replace hH:=hH.ext Ej);refine SW.ak aq rfl rfl rfl rfl (cr p) fun mw cK hg => ?_
    have hG:=aq.gr hg;replace aw:=aw.grown hg (by simpa using cG);replace hw:=hw.own bH hg;(replace pN:=pN.ay hG rfl;replace hH:=hH.ay hG rfl;replace hP:=hP.ay hG rfl);replace aq:=cK;clear cK hG hg;refine Wz ?_;refine SW.lJ 1 aq rfl rfl rfl (Nat.le_of_ble_eq_true rfl) (cn H) (aR ⟨p.Words,H,p.aa⟩) rfl fun qG cK hg => ?_
    have hG:=aq.gr hg;replace aw:=aw.grown hg (by simpa using cG);replace hw:=hw.own bH hg;(replace hH:=hH.ay hG rfl;replace hP:=hP.ay hG rfl);refine Wz ?_;refine SW.ak aw rfl rfl rfl rfl (cr ⟨p.Words,H,p.aa⟩) fun Ck hR hg => ?_
    have hG:=aw.gr hg;replace hw:=hw.own cu hg;(replace hH:=hH.ay hG rfl;replace hP:=hP.ay hG rfl);refine Wz ?_;exact ae.cl rfl rfl rfl rfl hR rfl ⟨_,rfl,hw,_,bF u hu he,⟨p.Words,H,p.aa⟩,by rw [Int.mul_comm],hP.words,hH,hP.dn⟩
   ·have hv:=J0 u hu he;obtain ⟨e,lM⟩ : ∃ e,u.2.2=e:=⟨_,rfl⟩;rw [lM] at he hv ⊢;refine Wz ?_;refine SW.alloc rfl fun Ir w1 ab rl pN => ?_
    skip;refine SW.ak pN rfl rfl rfl rfl (cn H) fun w2 pO hg => ?_
    have aj:=ab.own rl hg;have Ei:w.heap.size≤Ir:=Nat.le_trans hw.size rl
    replace hw:=Ext.trans hw aj;replace aw:=aw.ext aj;replace pN:=pO;clear pO ab hg aj;refine Wz ?_;refine SW.ak aw rfl rfl rfl rfl (cr .zero) fun Ck hR hg => ?_
    replace hw:=hw.own cu hg;refine Wz ?_;exact ae.cl rfl rfl rfl rfl hR rfl ⟨_,rfl,hw,_,hv,rL.zero _ _ _⟩
  ·repeat' (first|refine Wz ?_|(refine SW.st (eW (r:=16*p) rfl rfl (by omega) (by omega) Nq (by omega) (by omega)) rfl ?_))
   refine ae.again (j+1) ⟨rfl,rfl,rfl,rfl,rfl,trivial⟩ (by omega) ⟨by omega,hw,aq,aw,fun m h => ?_⟩;by_cases e:m=j
   ·subst e;rw [hp];omega
   ·exact hI m (by omega)
 ·obtain rfl:j=5:=by omega
  have hn:=AF hI;refine Wz ?_;refine SW.ak aw rfl rfl rfl rfl (cr .zero) fun w5 bF hg => ?_
  replace hw:=hw.own cu hg;refine Wz ?_;exact ae.cl rfl rfl rfl rfl bF rfl ⟨_,rfl,hw,_,.size hq hn,rL.zero 9 _ _⟩
set_option maxHeartbeats 4000000 in
theorem uJ (r:dQ) (s:aE) (cpu n:Int) (w:World) (hr:qR w r s) (hf:s.kh) :
 bo Tryz.prog 27 [.agg (aR r).toArray,.int .i64 cpu,.int .i64 n] w fun v w' => ∃ u,dV s cpu n u∧rL w.heap.size u v w':=by
 refine aI Tryz.func27 rfl Tryz.ntmps27 rfl ?_;refine CW.seq (CW.region (SW.box rfl rfl fun b3 w1 hw bH aq => ?_));refine SW.alloc rfl fun b6 w2 cq eg aw => ?_
 have cu:w.heap.size≤b6:=Nat.le_trans hw.size eg
 (replace hw:=Ext.trans hw cq;replace aq:=aq.ext cq);have hs:=hf.small;obtain ⟨q,hq⟩ : ∃ q,g9 s=q:=⟨_,rfl⟩
 have c1:∀ w',Ext w w'→bo Tryz.prog 47 [.agg (aR r).toArray] w' fun v _=>v = .bool q:=fun w' hx=>by
  have:=xM r s w' (hr.ext hx) hf
  rwa [hq] at this
 cases q
 ·repeat' (first|refine Wz ?_|(refine CW.bO rfl ?_)|(refine SW.call rfl rfl (c1 _ hw) ?_;intro v w1 ab hv;subst hv;replace hw:=Ext.trans hw ab;replace aq:=aq.ext ab;replace aw:=aw.ext ab;clear ab))
  refine SW.ak aw rfl rfl rfl rfl (cr .zero) fun w5 bF hg => ?_
  replace hw:=hw.own cu hg;refine Wz ?_;exact ae.cl rfl rfl rfl rfl bF rfl ⟨_,rfl,hw,_,.bad hq,rL.zero 8 _ _⟩
 have hM:=lD.1 hq;by_cases zZ:n<1
 ·repeat' (first|refine Wz ?_|(refine CW.bB rfl ?_)|(refine SW.call rfl rfl (c1 _ hw) ?_;intro v w1 ab hv;subst hv;replace hw:=Ext.trans hw ab;replace aq:=aq.ext ab;replace aw:=aw.ext ab;clear ab))
  refine SW.ak aw rfl rfl rfl rfl (cr .zero) fun w5 bF hg => ?_
  replace hw:=hw.own cu hg;refine Wz ?_;exact ae.cl rfl rfl rfl rfl bF rfl ⟨_,rfl,hw,_,.range hq zZ,rL.zero 1 _ _⟩
 by_cases Pe : 256<n
 ·repeat' (first|refine Wz ?_|(refine CW.bB rfl ?_)|(refine SW.call rfl rfl (c1 _ hw) ?_;intro v w1 ab hv;subst hv;replace hw:=Ext.trans hw ab;replace aq:=aq.ext ab;replace aw:=aw.ext ab;clear ab))
  refine SW.ak aw rfl rfl rfl rfl (cr .zero) fun w5 bF hg => ?_
  replace hw:=hw.own cu hg;refine Wz ?_;exact ae.cl rfl rfl rfl rfl bF rfl ⟨_,rfl,hw,_,.size hq Pe,rL.zero 9 _ _⟩
 have c2:∀ w',bo Tryz.prog 64 [.int .i64 n] w' fun v _=>v = .string (eE n):=fun w'=>uC n w'
 by_cases EE:n≤32
 ·have IM:=B8 EE;have hR:=fun u (h:mi s (eE n) cpu u)=>dV.obj (cpu:=cpu) (n:=n) hq ⟨by omega,EE⟩ h
  obtain ⟨cs,HQ⟩ : ∃ cs,eE n=cs:=⟨_,rfl⟩;rw [HQ] at c2 hR IM;repeat' (first|refine Wz ?_|(refine CW.bB rfl ?_)|((first|refine SW.call rfl rfl (c1 _ hw) ?_|refine SW.call rfl rfl (c2 _) ?_);intro v w1 ab hv;subst hv;replace hw:=Ext.trans hw ab;replace aq:=aq.ext ab;replace aw:=aw.ext ab;clear ab)|(refine SW.st ((uU rfl rfl).eq (by rw [decide_eq_true IM])) rfl ?_))
  refine CW.any 8 mixed (cj (by kernel_rfl)) rfl fun w1 ab aG => ?_
  replace hw:=Ext.trans hw ab;replace aq:=aq.ext ab;replace aw:=aw.ext ab;clear ab;refine Wa ?_;refine SA.one 2 rfl (by kernel_rfl) rfl ?_;refine SW.call rfl rfl (c2 _) fun v w4 aj hv => ?_
  subst hv;(replace hw:=Ext.trans hw aj;replace aq:=aq.ext aj;replace aw:=aw.ext aj);refine SW.nil (ae.sa aj ?_);refine SA.one 4 rfl (by kernel_rfl) rfl ?_;refine SW.call rfl rfl (B6 r s cs cpu _ (hr.ext hw) hf) fun v w5 aj hv => ?_
  obtain ⟨u,hu,q,rfl,hO⟩:=hv;replace hO:=hO.low hw.size;(replace hw:=Ext.trans hw aj;replace aq:=aq.ext aj;replace aw:=aw.ext aj);refine SW.nil (ae.sa aj ?_);refine Wa ?_;refine SA.done (by kernel_rfl) ?_;refine SW.ak aw rfl rfl rfl rfl (cr q) fun w6 bF hg => ?_
  have hG:=aw.gr hg;replace hw:=hw.own cu hg;(replace hO:=hO.ay hG rfl);refine Wz ?_;exact ae.cl rfl rfl rfl rfl bF rfl ⟨_,rfl,hw,_,hR u hu,q,rfl,hO⟩
 have IM:eE n=⟨#[]⟩:=by
  unfold eE;repeat' split
  all_goals first|(exfalso;omega)|rfl
 rw [IM] at c2;repeat' (first|refine Wz ?_|(refine CW.bB rfl ?_)|((first|refine SW.call rfl rfl (c1 _ hw) ?_|refine SW.call rfl rfl (c2 _) ?_);intro v w1 ab hv;subst hv;replace hw:=Ext.trans hw ab;replace aq:=aq.ext ab;replace aw:=aw.ext ab;clear ab)|(refine SW.st ((uU rfl rfl).eq (by rw [decide_eq_false (fun h=>h rfl)])) rfl ?_))
 clear c1 c2
 refine CW.loop (fun j:Nat=>[(1,.int .i64 cpu),(2,.int .i64 n),(3,.pointer (some ⟨b3,0,none⟩)),(6,.pointer (some ⟨b6,0,none⟩)),(9,.int .i64 (j:Int))])
  (fun j w'=>j<5∧Ext w w'∧aJ w' b3 44 (aR r)∧aJ w' b6 44 (aR .zero) ∧ ∀ m:Nat,m<j→16*pw (m:Int)<n) (fun j=>5-j) 0
  ⟨rfl,rfl,rfl,rfl,rfl,trivial⟩ ⟨by omega,hw,aq,aw,fun m h=>by omega⟩ ?_
 clear hw aq aw;rintro j w' ⟨yO,hw,aq,aw,hI⟩
 have Jt:=bE (o:=(j:Int)) (by omega) (by omega);have qO:=Eh (n:=n) yO hI;have c3:∀ w',bo Tryz.prog 69 [.int .i64 (j:Int)] w' fun v _=>v = .int .i64 (pw (j:Int)):=fun w'=>c9 _ (by omega) w'
 obtain ⟨p,hp⟩ : ∃ p,pw (j:Int)=p:=⟨_,rfl⟩;rw [hp] at Jt qO c3;by_cases Mi:n≤16*p
 ·obtain ⟨e1,e2⟩:=qO Mi;have J0:=fun u (h:di s.Heap cpu (yj n) 0 u) he=>dV.fault hq ⟨by omega,e2⟩ h he
  have bF:=fun u (h:di s.Heap cpu (yj n) 0 u) he=>dV.bL hq ⟨by omega,e2⟩ h he
  rw [e1] at J0 bF;repeat' (first|refine Wz ?_|refine SW.st (aW rfl rfl ((fY aq))) rfl ?_|(refine SW.call rfl rfl (c3 _) ?_;intro v w1 ab hv;subst hv;replace hw:=Ext.trans hw ab;replace aq:=aq.ext ab;replace aw:=aw.ext ab;clear ab))
  refine SW.call rfl rfl (om r.Heap s.Heap cpu (j:Int) 0 _ (hr.heap.ext hw) hs.heap hf.cQ) fun v w7 HR hv => ?_
  obtain ⟨u,hu,H,rfl,hH⟩:=hv;replace hH:=hH.low hw.size;(replace hw:=Ext.trans hw HR;replace aq:=aq.ext HR;replace aw:=aw.ext HR);by_cases he:u.2.2=0
  ·have Pd:=hu.at_ he;rw [he];refine Wz ?_;refine SW.alloc rfl fun jM w1 ab ij aN => ?_
   skip;refine SW.ak aN rfl rfl rfl rfl (cn H) fun w2 dF hg => ?_
   have aj:=ab.own ij hg;have ki:w.heap.size≤jM:=Nat.le_trans hw.size ij
   replace hw:=Ext.trans hw aj;replace aq:=aq.ext aj;replace aw:=aw.ext aj;replace hH:=hH.ext aj;replace aN:=dF;clear dF ab hg aj;refine Wz ?_;refine SW.call rfl rfl (gL r s _ (hr.ext hw) hs) fun v w9 Ej hv => ?_
   obtain ⟨p,cs',rfl,J1,_⟩:=hv;have hP:=J1.xT.low hw.size;clear J1;(replace hw:=Ext.trans hw Ej;replace aq:=aq.ext Ej;replace aw:=aw.ext Ej;replace aN:=aN.ext Ej;replace hH:=hH.ext Ej);have MO:=aw.lt;refine SW.alloc rfl fun Ir w1 ab rl pN => ?_
   skip;refine SW.ak pN rfl rfl rfl rfl (cr p) fun w2 pO hg => ?_
   have aj:=ab.own rl hg;have Ei:w.heap.size≤Ir:=Nat.le_trans hw.size rl
   replace hw:=Ext.trans hw aj;replace aq:=aq.ext aj;replace aw:=aw.ext aj;replace aN:=aN.ext aj;replace hH:=hH.ext aj;replace hP:=hP.ext aj;replace pN:=pO;clear pO ab hg aj;have cG:b6≠Ir:=by omega
   refine Wz ?_;refine SW.lJ 1 pN rfl rfl rfl (Nat.le_of_ble_eq_true rfl) (cn H) (aR ⟨p.Words,H,p.aa⟩) rfl fun qG pO hg => ?_
   have hG:=pN.gr hg;replace aw:=aw.grown hg (by simpa using cG);replace hw:=hw.own Ei hg;(replace hH:=hH.ay hG rfl;replace hP:=hP.ay hG rfl);refine Wz ?_;refine SW.ak aw rfl rfl rfl rfl (cr ⟨p.Words,H,p.aa⟩) fun Ck hR hg => ?_
   have hG:=aw.gr hg;replace hw:=hw.own cu hg;(replace hH:=hH.ay hG rfl;replace hP:=hP.ay hG rfl);refine Wz ?_;exact ae.cl rfl rfl rfl rfl hR rfl ⟨_,rfl,hw,_,bF u hu he,_,rfl,hP.words,hH,hP.dn⟩
  ·have hv:=J0 u hu he;obtain ⟨e,lM⟩ : ∃ e,u.2.2=e:=⟨_,rfl⟩;rw [lM] at he hv ⊢;refine Wz ?_;refine SW.alloc rfl fun jM w1 ab ij aN => ?_
   skip;refine SW.ak aN rfl rfl rfl rfl (cn H) fun w2 dF hg => ?_
   have aj:=ab.own ij hg;have ki:w.heap.size≤jM:=Nat.le_trans hw.size ij
   replace hw:=Ext.trans hw aj;replace aw:=aw.ext aj;replace aN:=dF;clear dF ab hg aj;refine Wz ?_;refine SW.ak aw rfl rfl rfl rfl (cr .zero) fun Ck hR hg => ?_
   replace hw:=hw.own cu hg;refine Wz ?_;exact ae.cl rfl rfl rfl rfl hR rfl ⟨_,rfl,hw,_,hv,rL.zero _ _ _⟩
 ·repeat' (first|refine Wz ?_|(refine SW.call rfl rfl (c3 _) ?_;intro v w1 ab hv;subst hv;replace hw:=Ext.trans hw ab;replace aq:=aq.ext ab;replace aw:=aw.ext ab;clear ab))
  have Nr:∀ m:Nat,m<j+1→16*pw (m:Int)<n:=fun m h=>by
   by_cases e:m=j
   ·subst e;rw [hp];omega
   ·exact hI m (by omega)
  have:j+1<5:=by
   rcases (show j+1<5∨j+1=5 by omega) with h|h
   ·exact h
   ·have:=AF (n:=n) (fun m hm=>Nr m (by omega))
    omega
  exact ae.again (j+1) ⟨rfl,rfl,rfl,rfl,rfl,trivial⟩ (by omega) ⟨this,hw,aq,aw,Nr⟩
set_option maxHeartbeats 2000000 in
theorem tT (r:dQ) (s:aE) (cpu n:Int) (w:World) (hr:qR w r s) (hf:s.kh) (hS:mb w) (pK:nR w) :
 bo Tryz.prog 8 [.agg (aR r).toArray,.int .i64 cpu,.int .i64 n] w fun v _=>v = .bool true:=by
 refine aI Tryz.func8 rfl Tryz.ntmps8 rfl ?_;have hs:=hf.small;refine CW.seq (CW.region (SW.box rfl rfl fun b1 w1 hw gV aB => ?_));refine Wz ?_;refine SW.call rfl rfl (gL r s _ (hr.ext hw) hs) fun v w4 iK hv => ?_
 obtain ⟨k,cs,rfl,Ns,_⟩:=hv;have hK:=Ns.xT;clear Ns;(replace hw:=Ext.trans hw iK;replace aB:=aB.ext iK);refine SW.alloc rfl fun b3 w1 ab bH aq => ?_
 skip;refine SW.ak aq rfl rfl rfl rfl (cr k) fun w2 cK hg => ?_
 have aj:=ab.own bH hg;have cw:w.heap.size≤b3:=Nat.le_trans hw.size bH
 replace hw:=Ext.trans hw aj;replace aB:=aB.ext aj;replace hK:=hK.ext aj;replace aq:=cK;clear cK ab hg aj;refine Wz ?_;refine SW.call rfl rfl (zS k s cpu n _ hK.rd hf (hS.ext hw) (pK.ext hw)) fun v w5 iV hv => ?_
 obtain ⟨o,hu,s1,rfl,ub⟩:=hv;have G1:=hu.small hf;(replace hw:=Ext.trans hw iV;replace aB:=aB.ext iV;replace aq:=aq.ext iV;replace hK:=hK.ext iV);refine Wz ?_;refine SW.alloc rfl fun b4 w1 ab mA bZ => ?_
 skip;refine SW.ak bZ rfl rfl rfl rfl (cr s1) fun w2 rF hg => ?_
 have aj:=ab.own mA hg;have mP:w.heap.size≤b4:=Nat.le_trans hw.size mA
 replace hw:=Ext.trans hw aj;replace aB:=aB.ext aj;replace aq:=aq.ext aj;replace hK:=hK.ext aj;replace ub:=ub.ext aj;replace bZ:=rF;clear rF ab hg aj;refine Wz ?_;refine SW.call rfl rfl (uJ r s cpu n _ (hr.ext hw) hf) fun v w6 Eo hv => ?_
 obtain ⟨o',BK,s2,rfl,J2⟩:=hv;obtain rfl:=hu.jy BK;(replace hw:=Ext.trans hw Eo;replace aB:=aB.ext Eo;replace aq:=aq.ext Eo;replace bZ:=bZ.ext Eo;replace hK:=hK.ext Eo;replace ub:=ub.ext Eo);refine Wz ?_;refine SW.alloc rfl fun b6 w1 ab eg aw => ?_
 skip;refine SW.ak aw rfl rfl rfl rfl (cr s2) fun w2 gq hg => ?_
 have aj:=ab.own eg hg;have cu:w.heap.size≤b6:=Nat.le_trans hw.size eg
 replace hw:=Ext.trans hw aj;replace aB:=aB.ext aj;replace aq:=aq.ext aj;replace bZ:=bZ.ext aj;replace hK:=hK.ext aj;replace ub:=ub.ext aj;replace J2:=J2.ext aj;replace aw:=gq;clear gq ab hg aj;have cA:∀ w',Ext w w'→qR w' s1 o.1→qR w' s2 o.1→bo Tryz.prog 23 [.agg (aR s1).toArray,.agg (aR s2).toArray] w' fun v _=>v = .bool true:=fun w' _ h1 h2=>nw s1 s2 o.1 w' h1 h2 G1
 have cB:∀ w',Ext w w'→qR w' k s→bo Tryz.prog 23 [.agg (aR k).toArray,.agg (aR r).toArray] w' fun v _=>v = .bool true:=fun w' hx h1=>nw k r s w' h1 (hr.ext hx) hs
 repeat' (first|refine Wz ?_|((first|refine SW.call rfl rfl (cA _ hw ub.rd J2.rd) ?_|refine SW.call rfl rfl (cB _ hw hK.rd) ?_);intro v w1 ab hv;subst hv;replace hw:=Ext.trans hw ab;replace aB:=aB.ext ab;replace aq:=aq.ext ab;replace bZ:=bZ.ext ab;replace aw:=aw.ext ab;replace hK:=hK.ext ab;replace ub:=ub.ext ab;replace J2:=J2.ext ab;clear ab))
 exact ae.aO rfl rfl ⟨_,rfl,hw,rfl⟩
end Go.Proofs.YtbidkghlpijecaaGreatDoor
