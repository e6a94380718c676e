/-
  Texts of the claim TopProcessors, part 16: what its theorem leans on.
-/
import Derived.Test.YtbidkghlpijecaaGreatDoorPackTopProcessors15
import Derived.Test.YtbidkghlpijecaaGreatDoorPackTopProcessors2
import Derived.Test.YtbidkghlpijecaaGreatDoorPackTopProcessors5
import Derived.Test.YtbidkghlpijecaaGreatDoorPackTopProcessors12
import Derived.Test.YtbidkghlpijecaaGreatDoorPackTopProcessors13
set_option linter.unusedVariables false
set_option linter.unusedSimpArgs false
namespace Go.Proofs.YtbidkghlpijecaaGreatDoor
open Go.RowKit
inductive KJ (m0 m1:Int) (s:ao×ao) (zi o t f:Int) : Option ((ao×ao)×Int)→Prop
 | kQ (he : ¬ gU m0 m1 s zi o f) : KJ m0 m1 s zi o t f none
 | none {u:ao×Int×Int} (he:gU m0 m1 s zi o f) (ht:fL (uh s zi) o t u) (hu:u.2.2≠0) : KJ m0 m1 s zi o t f none
 | ok {u:ao×Int×Int} (he:gU m0 m1 s zi o f) (ht:fL (uh s zi) o t u) (hu:u.2.2=0) : KJ m0 m1 s zi o t f (some (o9 s zi u.1,u.2.1))
def TZ:Option ((ao×ao)×Int)→Value
 | Option.none => .tuple #[.int .i64 0,.bool false]
 | some q => .tuple #[.int .i64 q.2,.bool true]
def Pt (s:ao×ao) : Option ((ao×ao)×Int)→ao×ao
 | Option.none=>s
 | some q=>q.1
theorem KJ.vs {m0 m1:Int} {s:ao×ao} {zi o t f:Int} {q:Option ((ao×ao)×Int)} (h:KJ m0 m1 s zi o t f q) (hv:VS s) : VS (Pt s q):=by
 cases h with
 | kQ|none=>exact hv
 | ok he ht hu=>exact hv.pR (ht.qw hu).1
theorem HS.iG {wb w:World} {k:HK} {p:HP} {s:ao×ao} {L:List ay} (h:HS wb w k p s L) (hv:VS s) {zi:Nat} (hz:zi<2) : ∃ u,[p.u0,p.u1][zi]'hz=u∧fc w wb.heap.size u (uh s zi):=by
 rcases Nat.lt_or_ge zi 1 with h1|h1
 ·obtain rfl:zi=0:=by omega
  exact ⟨p.u0,rfl,h.zs.z0⟩
 ·obtain rfl:zi=1:=by omega
  exact ⟨p.u1,rfl,h.zs.z1⟩
set_option maxHeartbeats 2000000 in
theorem rK (k:HK) (p:HP) (s:ao×ao) (L:List ay) (m0 m1:Int) (zi:Nat) (o t f:Int) (wb w:World) (H:HS wb w k p s L) (hO:nq w) (hM:yq k.M m0 m1) (hv:VS s) (pD:zi<2) (ho : 0≤o∧o≤4) (hf : 0≤f∧f≤15) :
 jw Tryz.prog 214 [.pointer (some ⟨k.b,0,none⟩),.int .i64 (zi:Int),.int .i64 o,.int .i64 t,.int .i64 f] w fun v w' => ∃ q,KJ m0 m1 s zi o t f q∧v=TZ q ∧ ∃ p',HS wb w' k p' (Pt s q) L∧mu w k p w' p':=by
 refine dM Tryz.func214 rfl Tryz.ntmps214 rfl ?_;have hw:=Ext.refl w;have H0:=H;obtain ⟨uz,T0,Ae⟩:=H.iG hv pD;have Ol:=hv.uh (zi:Int);obtain ⟨z,hz⟩ : ∃ z,uh s (zi:Int)=z:=⟨_,rfl⟩;rw [hz] at Ae Ol;obtain ⟨q1,q2,q3,q4⟩:=pE Ae Ol;have hA:=H.zs.row.sl.base;have fz:=H.zs.row.sl.all pD;rw [T0] at fz;have T1:=ed.2 Ol
 have cP:∀ w',Ext w w'→bq Tryz.prog 245 [.agg (bX uz).toArray] w' fun v _=>v = .tuple #[.int .i64 (im z.aj),.int .i64 0]:=fun w' hx=>by
  have:=C4 uz z w' (Ae.ext hx).rd (by omega) (by omega) ⟨by omega,by omega⟩ ⟨by omega,by omega⟩
  rwa [show o7 z=(im z.aj,0) by simp [o7,T1]] at this
 obtain ⟨hd,Kt⟩ : ∃ hd,yi m0 m1 s zi f=hd:=⟨_,rfl⟩;have o1:=hv.j3.ok;obtain ⟨a1,a2,a3,a4,a5⟩:=o1
 have cH:∀ w',Ext w w'→bq Tryz.prog 246 [.agg (cV (k.h p)).toArray,.int .i64 (zi:Int),.int .i64 f] w' fun v _=>v = .int .i64 hd:=fun w' hx=>by
  have:=Mj.HM (k.h p) p.u0 p.u1 s k.M m0 m1 zi f w' (H0.dA.ext hx).sl (H0.zs.row.ext hx).sl hM H0.zs.z1.from_ H0.zs.z1.lV ⟨by omega,by omega⟩ ⟨by omega,by omega⟩ pD hf
  rwa [Kt] at this
 have VH : 0≤hd∧hd≤512:=by
  rw [← Kt];have h1:=hM.b0;have h2:=hM.b1;unfold yi;(repeat' split)<;>omega
 have GV:=iO Ol;have T2:=mm Ol z.aj.length (Nat.le_refl _);rw [List.take_length] at T2;have Po:=bT ho.1 ho.2;by_cases he:hd≤im z.aj-pw o
 ·have hE:gU m0 m1 s zi o f:=by unfold gU;rw [Kt,hz];exact he
  repeat' (first|refine Wz ?_|((apply CW.bl mixed;(· kernel_rfl);rotate_left;intro w1 ae;replace hw:=Ext.trans hw ae;replace H:=H.ext ae;replace Ae:=Ae.ext ae;clear ae;rotate_right))|refine SW.st (aq rfl (H.dD.cell (i:=0) (v := .slice (some ⟨k.g,0,none⟩) 2 k.c) rfl)) rfl ?_|refine SW.st (aB rfl rfl fz) rfl ?_|refine SW.st (aU hw rfl rfl fz) rfl ?_|refine SW.st (aB rfl rfl ((fun _ _=>H.dD.cell))) rfl ?_|(refine SW.call rfl rfl (cP _ hw) ?_;intro v w1 ae hv;subst hv;replace hw:=Ext.trans hw ae;replace H:=H.ext ae;replace Ae:=Ae.ext ae;clear ae)|refine SW.cx rfl rfl (fun w1 ae=>(cH _ (Ext.trans hw ae))) ?_|(refine SW.st (fb (r:=pw o) rfl rfl (by omega) (by omega) (by simp [pw]) (by omega) (by omega)) rfl ?_)|exact SW.dF rfl)
  refine SW.call rfl rfl (GU uz z o t _ Ae.rd q1 q2 ⟨by omega,by omega⟩ ⟨by omega,by omega⟩ (hO.ext hw)) fun v w4 ap hv => ?_
  obtain ⟨u,hT,r',rfl,Ml⟩:=hv;replace Ml:=Ml.low hw.size;(replace hw:=Ext.trans hw ap;replace H:=H.ext ap);refine Wz ?_;refine SW.alloc rfl fun Pu w1 ae yr rL => ?_
  skip;refine SW.ak rL rfl rfl rfl rfl (dr r') fun w2 Bs hg => ?_
  have ap:=ae.own yr hg;have Om:w.heap.size≤Pu:=Nat.le_trans hw.size yr
  replace hw:=Ext.trans hw ap;replace H:=H.ext ap;replace Ml:=Ml.ext ap;replace rL:=Bs;clear Bs ae hg ap;rw [← hz] at hT;by_cases hu:u.2.2=0
  ·refine Wz ?_;refine CW.iL 7 7 (fun _=>True) mixed (by kernel_rfl) fun w1 ae aJ => ?_
   replace hw:=Ext.trans hw ae;replace H:=H.ext ae;replace Ml:=Ml.ext ae;replace rL:=rL.ext ae;clear ae;refine Wf ?_;refine SF.take 3 [] [] aJ rfl (by kernel_rfl) (by kernel_rfl) (by kernel_rfl) ?_;repeat ((show SW _ _ _ _ (⟨_,Op.load _ _,_,_,_,none⟩::_) _ _;refine SW.st (aq rfl (H.dD.cell (i:=0) (v := .slice (some ⟨k.g,0,none⟩) 2 k.c) rfl)) rfl ?_))
   refine SW.ai ?_;refine Wf ?_;refine SF.last rfl (by kernel_rfl) (by kernel_rfl) ?_;refine SW.mO (enc:=bX) zi r' H.zs.row rfl rfl pD fun w5 L2 hg => ?_
   rw [H.zs.own] at hg;have H5:=HS.Mh H0 H pD L2 hg Ml;have hK:mu w k p w5 (wm p zi r'):=((mu.refl w k p).ext hw).step hg (fun i e=>by cases e;exact .inl (.inr (.inl rfl))) (fun i e => .inl (sX.1 e))
   refine Wz ?_;exact ah.cb rfl rfl rfl ⟨_,rfl,_,.ok hE hT hu,rfl,_,H5,hK⟩
  ·refine Wz ?_;exact ah.cb rfl rfl rfl ⟨_,rfl,_,.none hE hT hu,rfl,_,H,(mu.refl w k p).ext hw⟩
 ·have hE : ¬ gU m0 m1 s zi o f:=by unfold gU;rw [Kt,hz];exact he
  repeat' (first|refine Wz ?_|((apply CW.bl mixed;(· kernel_rfl);rotate_left;intro w1 ae;replace hw:=Ext.trans hw ae;replace H:=H.ext ae;replace Ae:=Ae.ext ae;clear ae;rotate_right))|refine SW.st (aq rfl (H.dD.cell (i:=0) (v := .slice (some ⟨k.g,0,none⟩) 2 k.c) rfl)) rfl ?_|refine SW.st (aB rfl rfl fz) rfl ?_|refine SW.st (aB rfl rfl ((fun _ _=>H.dD.cell))) rfl ?_|(refine SW.call rfl rfl (cP _ hw) ?_;intro v w1 ae hv;subst hv;replace hw:=Ext.trans hw ae;replace H:=H.ext ae;replace Ae:=Ae.ext ae;clear ae)|refine SW.cx rfl rfl (fun w1 ae=>(cH _ (Ext.trans hw ae))) ?_|(refine SW.st (fb (r:=pw o) rfl rfl (by omega) (by omega) (by simp [pw]) (by omega) (by omega)) rfl ?_)|exact SW.dF rfl)
  exact ah.cb rfl rfl rfl ⟨_,rfl,_,.kQ hE,rfl,_,H,(mu.refl w k p).ext hw⟩
open Go.RowKit
set_option maxHeartbeats 4000000 in
theorem wo (A:Option Addr) (n c lo:Nat) (l:List cy) (w:World) (hO:Own w lo 142 4 bI A n c l) (i:Nat) (hi:i<n) (hn:n≤1000000000000000000) (gB:lo≤w.heap.size) :
 jw Tryz.prog 244 [.slice A n c,.int .i64 (i:Int),.int .i64 ((i+1:Nat) : Int)] w fun v w'=>v = .slice A (n-1) c∧Own w' lo 142 4 bI A (n-1) c (l.eraseIdx i)∧w.grownBy w' (aM A c):=by
 refine dM Tryz.func244 rfl Tryz.ntmps244 rfl ?_;have hle:=hO.le;have pp:=hO.len;have hA:=hO.sl.base;have Ge:w.grownBy w (aM A c):=World.grownBy.refl _ _
 repeat' (first|refine Wz ?_|(refine SW.st (so (i:=i) (j:=i+1) (k:=n) rfl rfl rfl rfl (by omega) (by omega) (by omega)) rfl ?_))
 all_goals try omega
 have hw:=Ext.refl w;have e0:i+(n-(i+1))=n-1:=by omega
 have el:l.take i++l.drop (i+1)=l.eraseIdx i:=by rw [List.eraseIdx_eq_take_drop_succ]
 refine CW.any 6 mixed (da (by kernel_rfl)) rfl fun w1 ae aJ => ?_
 replace hw:=Ext.trans hw ae;replace hO:=hO.ext ae;clear ae;refine Wa ?_;refine SA.take 2 aJ rfl (by kernel_rfl) (by kernel_rfl) rfl ?_;repeat ((refine SW.st (cS (k:=i) rfl rfl (by omega)) rfl ?_))
 refine SW.ai ?_;refine Wa ?_;refine SA.take 5 aJ rfl (by kernel_rfl) (by kernel_rfl) rfl ?_;repeat ((refine SW.st (aV (k:=i+1) rfl rfl (by omega) (by omega)) rfl ?_))
 refine SW.ai ?_;refine SA.done (by kernel_rfl) ?_;refine SW.vx (hO.pre (i:=i) (by omega)) (hO.sl.drop (i+1) c (by omega) (by omega)) (by omega) rfl rfl rfl fun w2 cJ hg => ?_
 rw [e0,el] at cJ;rw [e0];have EO:=(hw.gr (aM A c));repeat' (first|refine Wz ?_|(refine SW.st (qt (i:=n-1) (j:=n) rfl rfl rfl (by omega) (by omega)) rfl ?_))
 obtain ⟨g,rest,rfl,h1,h2,h3,h4,h5,h6⟩:=cJ.opened (by omega);have m8:((l.eraseIdx i).flatMap bI).length=(n-1)*4:=by rw [aQ,cJ.len]
 refine SW.clear ((n-1)*4) h2 rfl (by rw [List.length_append,m8];omega) (fun h0 => ?_) (by decide) fun w3 cs m7 hB nY => ?_
 ·rw [if_neg (by omega)];simp [ck]
 ·have e7:=dS ((l.eraseIdx i).flatMap bI) (rest.take ((n-(n-1))*4)) (rest.drop ((n-(n-1))*4)) cs (by rw [m7];simp;omega) (o:=(n-1)*4) m8.symm;rw [List.append_assoc (List.flatMap _ _),List.take_append_drop] at e7;rw [e7,List.append_assoc] at hB;have Cn:=Own.closed (l:=l.eraseIdx i) cJ.len hB (by rw [List.length_append,m7];simp;omega) h4 (by omega) h5 h1;rw [← h6] at nY;have xJ:=bH (bH EO hg (.inl rfl)) nY (.inl rfl);refine Wz ?_;exact ah.aY rfl rfl ⟨_,rfl,rfl,Cn,xJ⟩
open Go.RowKit
def R8:Option ((ao×ao)×List ay×Int)→Value
 | Option.none => .tuple #[.int .i64 0,.bool false]
 | some q => .tuple #[.int .i64 q.2.2,.bool true]
def On (s:ao×ao) : Option ((ao×ao)×List ay×Int)→ao×ao
 | Option.none=>s
 | some q=>q.1
def Mm (L:List ay) : Option ((ao×ao)×List ay×Int)→List ay
 | Option.none=>L
 | some q=>q.2.1
theorem HN {k:HK} {p:HP} {i j:Nat} {y:cy} (hi:i<p.ls.length) (ho:ob y.av=ob p.ls[i].av) (h:iW k ⟨p.u0,p.u1,p.li,p.ls.set i y⟩ j) : iW k p j:=by
 rcases h with h|h|h|⟨z,hz,h⟩
 ·exact .inl h
 ·exact .inr (.inl h)
 ·exact .inr (.inr (.inl h))
 ·rcases List.mem_or_eq_of_mem_set hz with h1|rfl
  ·exact .inr (.inr (.inr ⟨z,h1,h⟩))
  ·exact .inr (.inr (.inr ⟨_,List.getElem_mem hi,ho ▸ h⟩))
theorem HO {k:HK} {p:HP} {i j:Nat} (h:iW k ⟨p.u0,p.u1,⟨p.li.A,p.li.n-1,p.li.c⟩,p.ls.eraseIdx i⟩ j) : iW k p j:=by
 rcases h with h|h|h|⟨z,hz,h⟩
 ·exact .inl h
 ·exact .inr (.inl h)
 ·exact .inr (.inr (.inl h))
 ·exact .inr (.inr (.inr ⟨z,List.mem_of_mem_eraseIdx hz,h⟩))
set_option maxHeartbeats 4000000 in
theorem wq (k:HK) (p:HP) (s:ao×ao) (L:List ay) (m0 m1 cpu:Int) (zi:Nat) (t f:Int) (wb w:World) (H:HS wb w k p s L) (hO:nq wb) (hM:yq k.M m0 m1) (hv:VS s) (hs:AP L) (ua:∀ l∈L,1≤l.av.length∧l.av.length≤8) (JE:L.length≤256) (pD:zi<2) (hf : 0≤f∧f≤15) :
 jw Tryz.prog 213 [.pointer (some ⟨k.b,0,none⟩),.int .i64 cpu,.int .i64 (zi:Int),.int .i64 t,.int .i64 f] w fun v w' => ∃ q,iw m0 m1 cpu zi 0 t f s L q∧v=R8 q ∧ ∃ p',HS wb w' k p' (On s q) (Mm L q)∧mu w k p w' p':=by
 refine dM Tryz.func213 rfl Tryz.ntmps213 rfl ?_;have hw:=Ext.refl w;repeat' (first|refine Wy ?_|fail);have Bt:∀ i,w.heap.size≤i → ¬ iW k p i:=fun i hi=>H.not hi
 have K0:=mu.refl w k p;refine SW.alloc rfl fun De w1 ae tM dG => ?_
 skip;refine SW.ak dG rfl rfl rfl rfl (GX ⟨cpu,zi,t,.nil⟩) fun w2 pd hg => ?_
 have ap:=ae.own tM hg;have yu:w.heap.size≤De:=Nat.le_trans hw.size tM
 replace hw:=Ext.trans hw ap;replace H:=H.ext ap;replace K0:=K0.ext ap;replace dG:=pd;clear pd ae hg ap;obtain ⟨x,hx⟩ : ∃ x:ay,x=⟨cpu,zi,t,[]⟩:=⟨_,rfl⟩;have Hx:sI ⟨cpu,zi,t,.nil⟩ x:=by subst hx;exact ⟨rfl,rfl,rfl⟩
 have Pk:x.av=[]:=by subst hx;rfl
 obtain ⟨l1,l2⟩:=H.ls.rd.len;have hA:=H.ls.row.sl.base;obtain ⟨q,hq⟩ : ∃ q,cK L x=q:=⟨_,rfl⟩;obtain ⟨kp,tN⟩ : ∃ kp,bg L x=kp:=⟨_,rfl⟩
 have cL:∀ w',vy w' p.li p.ls L→bq Tryz.prog 113 [.agg (cV (k.h p)).toArray,.agg (bI ⟨cpu,zi,t,.nil⟩).toArray] w' fun v _=>v = .tuple #[.int .i64 (kp:Int),.bool q]:=fun w' h=>by
  have:=sJ (k.h p) L p.ls x ⟨cpu,zi,t,.nil⟩ w' h Hx (by simp only;omega)
  rwa [hq,tN] at this
 cases q
 ·repeat' (first|refine Wy ?_|fail);(apply CW.bl mixed;(· kernel_rfl);rotate_left;intro w1 ae;replace hw:=Ext.trans hw ae;replace H:=H.ext ae;replace dG:=dG.ext ae;replace K0:=K0.ext ae;clear ae;rotate_right);repeat' (first|refine Wy ?_|(refine CW.di rfl ?_)|refine SW.st (aB rfl rfl ((fun _ _=>H.dD.cell))) rfl ?_|refine SW.st (aB rfl rfl ((fun _ _=>dG.cell))) rfl ?_|refine SW.cx rfl rfl (fun w1 ae=>(cL _ (H.ls.rd.ext ae))) ?_|exact SW.dF rfl)
  clear cL;skip;refine SW.dt rfl rfl (rK k p s L m0 m1 zi 0 t f wb _ H (hO.ext H.base) hM hv pD (by decide) hf) fun v w5 AX => ?_
  obtain ⟨q5,hT,rfl,p5,H5,K5⟩:=AX;have FL:=K5.not (Bt De yu) dG.lt;replace dG:=K5.dD dG (Bt De yu);replace K5:=K0.trans K5;clear K0 H hw Bt;have hw:=Ext.refl w5
  have m9 : ¬ ((0:Int)=0∧cK L ⟨cpu,(zi:Int),t,[]⟩=true):=fun h=>by
   have:=h.2
   rw [← hx,hq] at this;cases this
  have QJ:cK L ⟨cpu,(zi:Int),t,[]⟩=false:=by rw [← hx];exact hq
  have Nc:=hT.vs hv;cases q5 with
  | none =>
    have Bu:iw m0 m1 cpu zi 0 t f s L none:=by
     cases hT with
     | kQ he=>exact .kQ m9 he
     | none he ht hu=>exact .none m9 he ht hu
    repeat' (first|refine Wy ?_|fail);refine CW.loop (fun _:Unit=>[(17,.int .i64 0),(18,.bool false),(19,.int .i64 1)]) (fun _ w'=>w'=w5) (fun _=>0) () ⟨rfl,rfl,rfl,trivial⟩ rfl ?_;rintro _ w' rfl;repeat' (first|refine Wy ?_|fail);exact ah.cb rfl rfl rfl ⟨_,rfl,_,Bu,rfl,p5,H5,K5⟩
  | some q5 =>
    obtain ⟨s1,a⟩:=q5
    have KK:∀ r,gV m0 m1 zi t f s1 [] r→iw m0 m1 cpu zi 0 t f s L (some (r.1,iE L x r.2,a)):=fun r hr=>by
     rw [hx];cases hT with
     | ok he ht hu=>exact .fill rfl QJ he ht hu hr
    simp only [Pt] at H5 Nc;have R9:HS wb w5 k p5 s1 (iE L x []):=by rw [kj];exact H5
    clear H5;repeat' (first|refine Wy ?_|fail)
    refine CW.loop (fun u:HP×(ao×ao)×List Int=>[(0,.pointer (some ⟨k.b,0,none⟩)),(2,.int .i64 (zi:Int)),(3,.int .i64 t),(4,.int .i64 f),(12,.pointer (some ⟨De,0,none⟩)),(17,.int .i64 a),(18,.bool true),(19,.int .i64 ((u.2.2.length+1:Nat) : Int))])
     (fun u w'=>u.2.2.length≤3∧HS wb w' k u.1 u.2.1 (iE L x u.2.2)∧VS u.2.1∧aW w' De 142 (bI ⟨cpu,zi,t,.nil⟩) ∧ ¬ iW k u.1 De∧mu w k p w' u.1 ∧ ∀ r,gV m0 m1 zi t f u.2.1 u.2.2 r→gV m0 m1 zi t f s1 [] r) (fun u=>3-u.2.2.length) (p5,s1,[])
     ⟨rfl,rfl,rfl,rfl,rfl,rfl,rfl,rfl,trivial⟩ ⟨by simp,R9,Nc,dG,FL,K5,fun r h=>h⟩ ?_
    clear hw dG K5 FL R9 Nc hT;rintro ⟨p6,s6,pg⟩ w' ⟨QK,H,IZ,dG,Bt,K0,Et⟩
    simp only at QK H IZ Bt K0 Et ⊢;have hw:=Ext.refl w';by_cases dL:pg.length<3
    ·repeat' (first|refine Wy ?_|fail);refine SW.dt rfl rfl (rK k p6 s6 (iE L x pg) m0 m1 zi 0 t f wb _ H (hO.ext H.base) hM IZ pD (by decide) hf) fun v w5 AX => ?_
     obtain ⟨q5,hT,rfl,p5,H5,K5⟩:=AX;have FL:=K5.not Bt dG.lt;replace dG:=K5.dD dG Bt;replace K5:=K0.trans K5;clear K0 H hw Bt;have hw:=Ext.refl w5;have Nc:=hT.vs IZ;cases q5 with
     | none =>
       have Bu:gV m0 m1 zi t f s6 pg (s6,pg):=by
        cases hT with
        | kQ he=>exact .kQ dL he
        | none he ht hu=>exact .none dL he ht hu
       repeat' (first|refine Wy ?_|(refine CW.dh rfl ?_))
       exact ah.cb rfl rfl rfl ⟨_,rfl,_,KK _ (Et _ Bu),rfl,p5,H5,K5⟩
     | some q5 =>
       obtain ⟨s7,b⟩:=q5;simp only [Pt] at H5 Nc
       have Mn:∀ r,gV m0 m1 zi t f s7 (pg++[b]) r→gV m0 m1 zi t f s1 [] r:=fun r hr=>by
        cases hT with
        | ok he ht hu=>exact Et _ (.more dL he ht hu hr)
       repeat' (first|refine Wy ?_|(refine CW.di rfl ?_))
       repeat' (first|refine Wy ?_|refine SW.st (aB rfl rfl ((fun _ _=>dG.cell))) rfl ?_)
       obtain ⟨l3,l4⟩:=H5.ls.rd.len;have P7:=yl (pg:=pg) hq
       refine SW.dt rfl rfl (FJ k p5 s7 (iE L x pg) x ⟨cpu,zi,t,.nil⟩ b wb _ H5 Hx rfl Pk (zI hs hq) (by omega) (fun l hl=>by
        rcases yj hq l hl with h|rfl
        ·have:=ua l h;omega
        ·simp only [dX];omega)) fun v w8 QL => ?_
       obtain ⟨p8,H8,K8⟩:=QL;have Oo:=K8.not FL dG.lt;replace dG:=K8.dD dG FL;replace K8:=K5.trans K8;rw [C8 hq] at H8;clear hw;have hw:=Ext.refl w8;repeat' (first|refine Wy ?_|fail);exact ah.again (p8,s7,pg++[b]) ⟨rfl,rfl,rfl,rfl,rfl,rfl,rfl,congrArg (fun z=>some (Value.int .i64 z)) (by simp),trivial⟩ (by simp;omega) ⟨by simp;omega,H8,Nc,dG,Oo,K8,Mn⟩
    ·have Bu:gV m0 m1 zi t f s6 pg (s6,pg) := .full (by omega)
     repeat' (first|refine Wy ?_|fail);exact ah.cb rfl rfl rfl ⟨_,rfl,_,KK _ (Et _ Bu),rfl,p6,H,K0⟩
 ·repeat' (first|refine Wy ?_|fail);(apply CW.bl mixed;(· kernel_rfl);rotate_left;intro w1 ae;replace hw:=Ext.trans hw ae;replace H:=H.ext ae;replace dG:=dG.ext ae;replace K0:=K0.ext ae;clear ae;rotate_right);repeat' (first|refine Wy ?_|(refine CW.dh rfl ?_)|refine SW.st (aB rfl rfl ((fun _ _=>H.dD.cell))) rfl ?_|refine SW.st (aB rfl rfl ((fun _ _=>dG.cell))) rfl ?_|refine SW.cx rfl rfl (fun w1 ae=>(cL _ (H.ls.rd.ext ae))) ?_|exact SW.dF rfl)
  clear cL;obtain ⟨fe,qC⟩:=iu hq;simp only [tN] at fe qC;have dY:kp<p.li.n:=by omega
  have oS:kp<p.ls.length:=by omega
  have P0:=H.ls.each.get kp oS fe;have QM:=ua _ (List.getElem_mem fe);obtain ⟨y,hy⟩ : ∃ y,p.ls[kp]'oS=y:=⟨_,rfl⟩;obtain ⟨uT,Oq⟩ : ∃ uT,L[kp].av=uT:=⟨_,rfl⟩;rw [hy] at P0;have hP:=P0.bM;have pc:=P0.cpu;have pz:=P0.iG;have pt:=P0.ty;rw [Oq] at hP QM;clear P0;have Cc:=hP.len;have LY:=hP.sl.base;have Eo:y.av.n-1<y.av.n:=by omega
  have Ot:cd L ⟨cpu,(zi:Int),t,[]⟩=uT:=by
   rw [← hx,fM hq (by omega)];simp only [tN,Oq]
  have Na:cd L x=uT:=by rw [hx];exact Ot
  have T3:=hP.le;have e3:(bI (p.ls[kp]'oS))[3]?=some (Value.slice y.av.A y.av.n y.av.c):=by rw [hy];rfl
  have Hg:uT≠[]:=fun e=>by rw [e] at QM;simp at QM
  have zf:=Da Hg (i:=y.av.n-1) (by omega) (by omega);obtain ⟨a,ha⟩ : ∃ a,uT.getLast Hg=a:=⟨_,rfl⟩;rw [ha] at zf
  have Bu:iw m0 m1 cpu zi 0 t f s L (some (s,sW L x uT,a)):=by
   have:=iw.list (m0:=m0) (m1:=m1) (fl:=f) (s:=s) (o:=0) rfl (show cK L ⟨cpu,(zi:Int),t,[]⟩=true by rw [← hx];exact hq) (by rw [Ot];exact Hg)
   simp only [← hx,Na,ha] at this;exact this
  repeat' (first|refine Wy ?_|refine SW.st (aZ (y.av.n-1) rfl rfl (by assumption) (by omega) (by omega)) rfl ?_|refine SW.st (aq rfl (H.dD.cell (i:=3) (v := .slice p.li.A p.li.n p.li.c) rfl)) rfl ?_|refine SW.st (aq rfl (H.ls.row.sl.fw dY (j:=3) e3)) rfl ?_|refine SW.st (aq rfl (hP.sl.one Eo (congrArg bK zf.symm))) rfl ?_)
  refine CW.iL 17 17 (fun _=>True) mixed (by kernel_rfl) fun w1 ae aJ => ?_
  replace hw:=Ext.trans hw ae;replace H:=H.ext ae;replace hP:=hP.ext ae;replace K0:=K0.ext ae;clear ae;refine SF.take 0 [] [] aJ rfl (by kernel_rfl) (by kernel_rfl) (by kernel_rfl) ?_;repeat (refine SW.pure rfl rfl ?_)
  refine SW.ai ?_;refine SF.take 1 [] [] aJ rfl (by kernel_rfl) (by kernel_rfl) (by kernel_rfl) ?_;repeat ((show SW _ _ _ _ (⟨_,Op.nilCheck _,_,_,_,none⟩::_) _ _;refine SW.st (aC rfl) rfl ?_))
  refine SW.ai ?_;refine SF.take 2 [] [] aJ rfl (by kernel_rfl) (by kernel_rfl) (by kernel_rfl) ?_;repeat ((show SW _ _ _ _ (⟨_,Op.fieldAddr _ _ _,_,_,_,none⟩::_) _ _;refine SW.st (aP rfl) rfl ?_))
  refine SW.ai ?_;refine SF.take 3 [] [] aJ rfl (by kernel_rfl) (by kernel_rfl) (by kernel_rfl) ?_;repeat ((show SW _ _ _ _ (⟨_,Op.load _ _,_,_,_,none⟩::_) _ _;refine SW.st (aq rfl (H.dD.cell (i:=3) (v := .slice p.li.A p.li.n p.li.c) rfl)) rfl ?_))
  refine SW.ai ?_;refine SF.take 4 [] [] aJ rfl (by kernel_rfl) (by kernel_rfl) (by kernel_rfl) ?_;repeat (refine SW.pure rfl rfl ?_)
  refine SW.ai ?_;refine SF.take 5 [] [] aJ rfl (by kernel_rfl) (by kernel_rfl) (by kernel_rfl) ?_;repeat (refine SW.pure rfl rfl ?_)
  refine SW.ai ?_;refine SF.take 6 [] [] aJ rfl (by kernel_rfl) (by kernel_rfl) (by kernel_rfl) ?_;repeat ((show SW _ _ _ _ (⟨_,Op.nilCheck _,_,_,_,none⟩::_) _ _;refine SW.st (aC rfl) rfl ?_))
  refine SW.ai ?_;refine SF.take 7 [] [] aJ rfl (by kernel_rfl) (by kernel_rfl) (by kernel_rfl) ?_;repeat ((show SW _ _ _ _ (⟨_,Op.fieldAddr _ _ _,_,_,_,none⟩::_) _ _;refine SW.st (aP rfl) rfl ?_))
  refine SW.ai ?_;refine SF.take 8 [] [] aJ rfl (by kernel_rfl) (by kernel_rfl) (by kernel_rfl) ?_;repeat ((show SW _ _ _ _ (⟨_,Op.load _ _,_,_,_,none⟩::_) _ _;refine SW.st (aq rfl (H.dD.cell (i:=3) (v := .slice p.li.A p.li.n p.li.c) rfl)) rfl ?_))
  refine SW.ai ?_;refine SF.take 9 [] [] aJ rfl (by kernel_rfl) (by kernel_rfl) (by kernel_rfl) ?_;repeat (refine SW.pure rfl rfl ?_)
  refine SW.ai ?_;refine SF.take 10 [] [] aJ rfl (by kernel_rfl) (by kernel_rfl) (by kernel_rfl) ?_;repeat ((show SW _ _ _ _ (⟨_,Op.indexAddr _ _ _,_,_,_,none⟩::_) _ _;refine SW.st (bJ rfl rfl (by assumption) (by omega)) rfl ?_))
  refine SW.ai ?_;refine SF.take 11 [] [] aJ rfl (by kernel_rfl) (by kernel_rfl) (by kernel_rfl) ?_;repeat ((show SW _ _ _ _ (⟨_,Op.fieldAddr _ _ _,_,_,_,none⟩::_) _ _;refine SW.st (aP rfl) rfl ?_))
  refine SW.ai ?_;refine SF.take 12 [] [] aJ rfl (by kernel_rfl) (by kernel_rfl) (by kernel_rfl) ?_;repeat ((show SW _ _ _ _ (⟨_,Op.load _ _,_,_,_,none⟩::_) _ _;refine SW.st (aq rfl (H.ls.row.sl.fw dY (j:=3) e3)) rfl ?_))
  refine SW.ai ?_;refine SF.take 13 [] [] aJ rfl (by kernel_rfl) (by kernel_rfl) (by kernel_rfl) ?_;repeat (refine SW.pure rfl rfl ?_)
  refine SW.ai ?_;refine SF.take 14 [] [] aJ rfl (by kernel_rfl) (by kernel_rfl) (by kernel_rfl) ?_;repeat ((refine SW.st (cS (k:=y.av.n-1) rfl (congrArg (fun z=>some (Value.int .i64 z)) (by omega)) (by omega)) rfl ?_))
  refine SW.ai ?_;refine SF.take 15 [16] [16] aJ rfl (by kernel_rfl) (by kernel_rfl) (by kernel_rfl) ?_;repeat ((show SW _ _ _ _ (⟨_,Op.indexAddr _ _ _,_,_,_,none⟩::_) _ _;refine SW.st (bJ rfl rfl (by assumption) (by omega)) rfl ?_))
  refine SW.ai ?_;refine SF.take 16 [] [] aJ rfl (by kernel_rfl) (by kernel_rfl) (by kernel_rfl) ?_;repeat ((show SW _ _ _ _ (⟨_,Op.fieldAddr _ _ _,_,_,_,none⟩::_) _ _;refine SW.st (aP rfl) rfl ?_))
  refine SW.ai ?_;refine SF.last rfl (by kernel_rfl) (by kernel_rfl) ?_;refine SW.fH kp 3 ⟨y.fT,y.ao,y.Ty,⟨y.av.A,y.av.n-1,y.av.c⟩⟩ H.ls.row rfl rfl rfl dY (by decide) rfl (by rw [hy];rfl) fun w6 gp qT => ?_
  have Sa:ob (⟨y.fT,y.ao,y.Ty,⟨y.av.A,y.av.n-1,y.av.c⟩⟩ : cy).av=ob (p.ls[kp]'oS).av:=by rw [hy];rfl
  have xn:=hP.pre (i:=y.av.n-1) (by omega);have T4:uT.take (y.av.n-1)=uT.dropLast:=by rw [List.dropLast_eq_take,Cc]
  rw [T4] at xn;have H6:=HS.setRow (y:=⟨y.fT,y.ao,y.Ty,⟨y.av.A,y.av.n-1,y.av.c⟩⟩) (l:=dX x uT.dropLast) H oS gp qT ⟨pc.trans qC.1,pz.trans qC.2.1,pt.trans qC.2.2,xn⟩ Sa;have K6:mu w k p w6 ⟨p.u0,p.u1,p.li,p.ls.set kp ⟨y.fT,y.ao,y.Ty,⟨y.av.A,y.av.n-1,y.av.c⟩⟩⟩:=K0.step qT (fun i e => .inl (.inr (.inr (.inl e)))) (fun i e => .inl (HN oS Sa e))
  by_cases h1:y.av.n=1
  ·have eL:sW L x uT=(L.set kp (dX x uT.dropLast)).eraseIdx kp:=by rw [C9 (by omega),tN,List.eraseIdx_set_eq]
   obtain ⟨p6,Sb⟩ : ∃ p6:HP,p6=⟨p.u0,p.u1,p.li,p.ls.set kp ⟨y.fT,y.ao,y.Ty,⟨y.av.A,y.av.n-1,y.av.c⟩⟩⟩:=⟨_,rfl⟩;have Sc:p6.li=p.li:=by rw [Sb]
   rw [← Sb] at H6 K6;have QN:kp<p6.li.n:=by rw [Sc];exact dY
   clear hw;have hw:=Ext.refl w6;repeat' (first|refine Wy ?_|refine SW.st (aq rfl (H6.dD.cell (i:=3) (v := .slice p6.li.A p6.li.n p6.li.c) rfl)) rfl ?_)
   refine SW.dt rfl rfl (wo p6.li.A p6.li.n p6.li.c wb.heap.size p6.ls _ H6.ls.row kp QN (by rw [Sc];omega) H6.low) fun v w7 QO => ?_
   obtain ⟨rfl,T5,Mo⟩:=QO;have bO:=H6.dD.aw (H6.ls.Dc Mo) rfl;repeat' (first|refine Wy ?_|fail);refine SW.bz (i:=3) bO rfl rfl rfl rfl fun w8 bA Mp => ?_
   have H8:=HS.Mi H6 T5 Mo bA Mp;have K7:=K6.step (p':=p6) Mo (fun i e => .inl (.inr (.inr (.inl e)))) (fun i e => .inl e);have K8:=K7.step Mp (fun i e=>by cases e;exact .inl (.inl rfl)) (fun i e => .inl (HO (i:=kp) e));repeat' (first|refine Wy ?_|fail);exact ah.cb rfl rfl rfl ⟨_,rfl,_,Bu,rfl,_,by simp only [Mm,eL];exact H8,K8⟩
  ·have eL:sW L x uT=L.set kp (dX x uT.dropLast):=by rw [HI (by omega),tN]
   repeat' (first|refine Wy ?_|fail);exact ah.cb rfl rfl rfl ⟨_,rfl,_,Bu,rfl,_,by simp only [Mm,eL];exact H6,K6⟩
open Go.RowKit
theorem mu.JL {α:Type} {w0 w:World} {k:HK} {p0 p:HP} (h:mu w0 k p0 w p) {lo:Nat} {e:TypeId} {sz:Nat} {enc : α → List Value} {A:Option Addr} {n c:Nat} {l:List α} (hO:Own w0 lo e sz enc A n c l) (hn:∀ g,aM A c=some g → ¬ iW k p0 g) : Own w lo e sz enc A n c l:=by
 have dL:=hO.lt_size;refine ⟨hO.len,?_⟩;rcases hO.row with h1|⟨hc,g,ij,rfl,h1,h2,h3⟩
 ·exact .inl h1
 ·have hg:aM (some (⟨g,0,none⟩ : Addr)) c=some g:=by simp [aM,Nat.pos_iff_ne_zero.1 hc]
  exact .inr ⟨hc,g,ij,rfl,h1,by rw [h.block g (dL g hg) (hn g hg)];exact h2,h3⟩
def T6 (L:List ay) : Option ((ao×ao)×Int)→Option ((ao×ao)×List ay×Int)
 | none=>none
 | some q=>some (q.1,L,q.2)
theorem KJ.uJ {m0 m1 cpu:Int} {s:ao×ao} {zi o t f:Int} {q:Option ((ao×ao)×Int)} {L:List ay} (h:KJ m0 m1 s zi o t f q) (ho : 0<o) : iw m0 m1 cpu zi o t f s L (T6 L q):=by
 have m9 : ¬ (o=0∧cK L ⟨cpu,zi,t,[]⟩=true):=fun h=>by omega
 cases h with
 | kQ he=>exact .kQ m9 he
 | none he ht hu=>exact .none m9 he ht hu
 | ok he ht hu=>exact .uJ ho he ht hu
theorem rM {m0 m1 cpu o t f:Int} {s:ao×ao} {L:List ay} {zl:List Int} {j:Nat} {r:(ao×ao)×List ay×Int} (hz:(zl=[1,0]∧f % 2=0)∨(zl=[0]∧f % 2=1)) (hj:j<zl.length) (hb:∀ (i:Nat) (h:i<zl.length),i<j→iw m0 m1 cpu zl[i] o t f s L none) (h:iw m0 m1 cpu zl[j] o t f s L (some r)) : kR m0 m1 cpu o t f s L (some r):=by
 rcases hz with ⟨rfl,hf⟩|⟨rfl,hf⟩
 ·have pX:j<2:=hj
  rcases Nat.lt_or_ge j 1 with h1|h1
  ·obtain rfl:j=0:=by omega
   exact .tZ hf h
  ·obtain rfl:j=1:=by omega
   exact .low (fun _=>hb 0 (by simp) (by omega)) h
 ·have pX:j<1:=hj
  obtain rfl:j=0:=by omega
  exact .low (fun e=>by omega) h
theorem Bv {m0 m1 cpu o t f:Int} {s:ao×ao} {L:List ay} {zl:List Int} (hz:(zl=[1,0]∧f % 2=0)∨(zl=[0]∧f % 2=1)) (hb:∀ (i:Nat) (h:i<zl.length),iw m0 m1 cpu zl[i] o t f s L none) : kR m0 m1 cpu o t f s L none:=by
 rcases hz with ⟨rfl,hf⟩|⟨rfl,hf⟩
 ·exact .low (fun _=>hb 0 (by simp)) (hb 1 (by simp))
 ·exact .low (fun e=>by omega) (hb 0 (by simp))
abbrev T7 (g:Nat) : Option Addr:=some ⟨g,0,none⟩
abbrev T8 (g:Nat) : Option Addr:=if 2=1 then some ⟨g,0,none⟩ else (some (⟨g,0,none⟩ : Addr)).map (·.add (1*1))
set_option maxHeartbeats 4000000 in
theorem tO (k:HK) (p:HP) (s:ao×ao) (L:List ay) (m0 m1 cpu o t f:Int) (wb w:World) (H:HS wb w k p s L) (hO:nq wb) (hM:yq k.M m0 m1) (hv:VS s) (hs:AP L) (ua:∀ l∈L,1≤l.av.length∧l.av.length≤8) (JE:L.length≤256) (ho : 0≤o∧o≤4) (hf : 0≤f∧f≤15) :
 jw Tryz.prog 153 [.pointer (some ⟨k.b,0,none⟩),.int .i64 cpu,.int .i64 o,.int .i64 t,.int .i64 f] w fun v w' => ∃ q,kR m0 m1 cpu o t f s L q∧v=R8 q ∧ ∃ p',HS wb w' k p' (On s q) (Mm L q)∧mu w k p w' p':=by
 refine dM Tryz.func153 rfl Tryz.ntmps153 rfl ?_;have hw:=Ext.refl w;obtain ⟨q1,q2,q4,q8⟩:=sY hf;have Ou:∀ i,w.heap.size≤i → ¬ iW k p i:=fun i hi=>H.not hi
 have K0:=mu.refl w k p;refine Wz ?_;refine SW.wa (enc:=bK) 1 0 rfl rfl rfl rfl rfl rfl fun g w2 r5 QC hZ => ?_
 (replace hw:=Ext.trans hw r5;replace H:=H.ext r5;replace K0:=K0.ext r5);have hn:∀ j,aM (some (⟨g,0,none⟩ : Addr)) 2=some j → ¬ iW k p j:=fun j e=>Ou j (by simp [aM] at e;omega)
 obtain ⟨lo,gB⟩ : ∃ lo,w.heap.size=lo:=⟨_,rfl⟩;rw [gB] at hZ;clear Ou gB;rcases (show f % 2=0∨f % 2=1 by omega) with Ov|Ov
 ·obtain ⟨zl,GV⟩ : ∃ zl:List Int,zl=[1,0]:=⟨_,rfl⟩;have JM:(zl=[1,0]∧f % 2=0)∨(zl=[0]∧f % 2=1):=by rw [GV];exact .inl ⟨rfl,Ov⟩
  obtain ⟨A,hA⟩ : ∃ A:Option Addr,A=(T7 g):=⟨_,rfl⟩
  have QP:∀ w',Own w' lo 3 1 bK (some ⟨g,0,none⟩) 2 2 [1,0]→Sl w' 1 bK A 2 zl:=fun w' h=>by
   rw [GV,hA]
   first|exact h.sl|exact h.sl.drop 1 2 (by decide) (by decide)
  have IU:zl.length=2:=by rw [GV];rfl
  have xu:∀ (j:Nat) (hj:j<zl.length),∃ zi:Nat,zl[j]=(zi:Int)∧zi<2:=fun j hj=>by
   rcases JM with ⟨rfl,_⟩|⟨rfl,_⟩
   ·have pX:j<2:=hj
    rcases Nat.lt_or_ge j 1 with h1|h1
    ·obtain rfl:j=0:=by omega
     exact ⟨1,rfl,by omega⟩
    ·obtain rfl:j=1:=by omega
     exact ⟨0,rfl,by omega⟩
   ·have pX:j<1:=hj
    obtain rfl:j=0:=by omega
    exact ⟨0,rfl,by omega⟩
  repeat' (first|refine Wz ?_|(refine SW.st (uS rfl rfl (by omega) (by decide)) rfl ?_))
  all_goals try omega
  refine CW.loop (fun u:Nat×HP=>[(0,.pointer (some ⟨k.b,0,none⟩)),(1,.int .i64 cpu),(2,.int .i64 o),(3,.int .i64 t),(4,.int .i64 f),(23,.slice A 2 2),(24,.int .i64 ((2:Nat) : Int)),(25,.int .i64 (u.1:Int))])
   (fun u w'=>u.1≤zl.length∧HS wb w' k u.2 s L∧mu w k p w' u.2∧Own w' lo 3 1 bK (some ⟨g,0,none⟩) 2 2 [1,0]∧(∀ j,aM (some (⟨g,0,none⟩ : Addr)) 2=some j → ¬ iW k u.2 j) ∧ ∀ (i:Nat) (h:i<zl.length),i<u.1→iw m0 m1 cpu zl[i] o t f s L none) (fun u=>zl.length-u.1) (0,p)
   ⟨rfl,rfl,rfl,rfl,rfl,by rw [hA];rfl,rfl,rfl,trivial⟩ ⟨by simp,H,K0,hZ,hn,fun i h h'=>by simp at h'⟩ ?_
  clear hw hZ H K0 hn;rintro ⟨j,p6⟩ w' ⟨hj,H,K0,hZ,hn,hb⟩
  simp only at hj H K0 hn hb ⊢;have hw:=Ext.refl w';have hS:=QP _ hZ;have T9:=hS.base;by_cases dL:j<zl.length
  ·obtain ⟨zi,pD,HQ⟩:=xu j dL;have QQ:j<2:=by omega
   have fz:=hS.one QQ (congrArg bK pD);by_cases JD:o=0
   ·repeat' (first|refine Wz ?_|refine SW.st (aq rfl fz) rfl ?_)
    subst JD;refine SW.dt rfl rfl (wq k p6 s L m0 m1 cpu zi t f wb _ H hO hM hv hs ua JE HQ hf) fun v w5 AX => ?_
    obtain ⟨q5,hT,rfl,p5,H5,K5⟩:=AX;have Mq:=K5.JL hZ hn;have FL:∀ i,aM (some (⟨g,0,none⟩ : Addr)) 2=some i → ¬ iW k p5 i:=fun i e=>K5.not (hn i e) (hZ.lt_size i e)
    replace K5:=K0.trans K5;clear hw;have hw:=Ext.refl w5;rw [← pD] at hT;cases q5 with
    | none =>
      repeat' (first|refine Wz ?_|(refine CW.di rfl ?_))
      exact ah.again (j+1,p5) ⟨rfl,rfl,rfl,rfl,rfl,rfl,rfl,rfl,trivial⟩ (by simp only;omega) ⟨by simp only;omega,H5,K5,Mq,FL,fun i h h'=>by
       by_cases e:i=j
       ·subst e;exact hT
       ·exact hb i h (by simp only at h';omega)⟩
    | some q5 =>
      repeat' (first|refine Wz ?_|(refine CW.dh rfl ?_))
      exact ah.cb rfl rfl rfl ⟨_,rfl,_,rM JM dL hb hT,rfl,p5,H5,K5⟩
   ·repeat' (first|refine Wz ?_|refine SW.st (aq rfl fz) rfl ?_)
    refine SW.dt rfl rfl (rK k p6 s L m0 m1 zi o t f wb _ H (hO.ext H.base) hM hv HQ ho hf) fun v w5 AX => ?_
    obtain ⟨q5,hT,rfl,p5,H5,K5⟩:=AX;have Mq:=K5.JL hZ hn;have FL:∀ i,aM (some (⟨g,0,none⟩ : Addr)) 2=some i → ¬ iW k p5 i:=fun i e=>K5.not (hn i e) (hZ.lt_size i e)
    replace K5:=K0.trans K5;clear hw;have hw:=Ext.refl w5;have hT:=hT.uJ (cpu:=cpu) (L:=L) (by omega);rw [← pD] at hT;cases q5 with
    | none =>
      repeat' (first|refine Wz ?_|(refine CW.di rfl ?_))
      exact ah.again (j+1,p5) ⟨rfl,rfl,rfl,rfl,rfl,rfl,rfl,rfl,trivial⟩ (by simp only;omega) ⟨by simp only;omega,H5,K5,Mq,FL,fun i h h'=>by
       by_cases e:i=j
       ·subst e;exact hT
       ·exact hb i h (by simp only at h';omega)⟩
    | some q5 =>
      repeat' (first|refine Wz ?_|(refine CW.dh rfl ?_))
      exact ah.cb rfl rfl rfl ⟨_,rfl,_,rM JM dL hb hT,rfl,p5,H5,K5⟩
  ·refine Wz ?_;exact ah.cb rfl rfl rfl ⟨_,rfl,none,Bv JM (fun i h=>hb i h (by omega)),rfl,p6,H,K0⟩
 ·obtain ⟨zl,GV⟩ : ∃ zl:List Int,zl=[0]:=⟨_,rfl⟩;have JM:(zl=[1,0]∧f % 2=0)∨(zl=[0]∧f % 2=1):=by rw [GV];exact .inr ⟨rfl,Ov⟩
  obtain ⟨A,hA⟩ : ∃ A:Option Addr,A=(T8 g):=⟨_,rfl⟩
  have QP:∀ w',Own w' lo 3 1 bK (some ⟨g,0,none⟩) 2 2 [1,0]→Sl w' 1 bK A (2-1) zl:=fun w' h=>by
   rw [GV,hA]
   first|exact h.sl|exact h.sl.drop 1 2 (by decide) (by decide)
  have IU:zl.length=(2-1):=by rw [GV];rfl
  have xu:∀ (j:Nat) (hj:j<zl.length),∃ zi:Nat,zl[j]=(zi:Int)∧zi<2:=fun j hj=>by
   rcases JM with ⟨rfl,_⟩|⟨rfl,_⟩
   ·have pX:j<2:=hj
    rcases Nat.lt_or_ge j 1 with h1|h1
    ·obtain rfl:j=0:=by omega
     exact ⟨1,rfl,by omega⟩
    ·obtain rfl:j=1:=by omega
     exact ⟨0,rfl,by omega⟩
   ·have pX:j<1:=hj
    obtain rfl:j=0:=by omega
    exact ⟨0,rfl,by omega⟩
  repeat' (first|refine Wz ?_|(refine SW.st (uS rfl rfl (by omega) (by decide)) rfl ?_)|(refine SW.st (aV (k:=1) rfl rfl (by omega) (by omega)) rfl ?_))
  all_goals try omega
  refine CW.loop (fun u:Nat×HP=>[(0,.pointer (some ⟨k.b,0,none⟩)),(1,.int .i64 cpu),(2,.int .i64 o),(3,.int .i64 t),(4,.int .i64 f),(23,.slice A (2-1) (2-1)),(24,.int .i64 (((2-1) : Nat) : Int)),(25,.int .i64 (u.1:Int))])
   (fun u w'=>u.1≤zl.length∧HS wb w' k u.2 s L∧mu w k p w' u.2∧Own w' lo 3 1 bK (some ⟨g,0,none⟩) 2 2 [1,0]∧(∀ j,aM (some (⟨g,0,none⟩ : Addr)) 2=some j → ¬ iW k u.2 j) ∧ ∀ (i:Nat) (h:i<zl.length),i<u.1→iw m0 m1 cpu zl[i] o t f s L none) (fun u=>zl.length-u.1) (0,p)
   ⟨rfl,rfl,rfl,rfl,rfl,by rw [hA];rfl,rfl,rfl,trivial⟩ ⟨by simp,H,K0,hZ,hn,fun i h h'=>by simp at h'⟩ ?_
  clear hw hZ H K0 hn;rintro ⟨j,p6⟩ w' ⟨hj,H,K0,hZ,hn,hb⟩
  simp only at hj H K0 hn hb ⊢;have hw:=Ext.refl w';have hS:=QP _ hZ;have T9:=hS.base;by_cases dL:j<zl.length
  ·obtain ⟨zi,pD,HQ⟩:=xu j dL;have QQ:j<(2-1):=by omega
   have fz:=hS.one QQ (congrArg bK pD);by_cases JD:o=0
   ·repeat' (first|refine Wz ?_|refine SW.st (aq rfl fz) rfl ?_)
    subst JD;refine SW.dt rfl rfl (wq k p6 s L m0 m1 cpu zi t f wb _ H hO hM hv hs ua JE HQ hf) fun v w5 AX => ?_
    obtain ⟨q5,hT,rfl,p5,H5,K5⟩:=AX;have Mq:=K5.JL hZ hn;have FL:∀ i,aM (some (⟨g,0,none⟩ : Addr)) 2=some i → ¬ iW k p5 i:=fun i e=>K5.not (hn i e) (hZ.lt_size i e)
    replace K5:=K0.trans K5;clear hw;have hw:=Ext.refl w5;rw [← pD] at hT;cases q5 with
    | none =>
      repeat' (first|refine Wz ?_|(refine CW.di rfl ?_))
      exact ah.again (j+1,p5) ⟨rfl,rfl,rfl,rfl,rfl,rfl,rfl,rfl,trivial⟩ (by simp only;omega) ⟨by simp only;omega,H5,K5,Mq,FL,fun i h h'=>by
       by_cases e:i=j
       ·subst e;exact hT
       ·exact hb i h (by simp only at h';omega)⟩
    | some q5 =>
      repeat' (first|refine Wz ?_|(refine CW.dh rfl ?_))
      exact ah.cb rfl rfl rfl ⟨_,rfl,_,rM JM dL hb hT,rfl,p5,H5,K5⟩
   ·repeat' (first|refine Wz ?_|refine SW.st (aq rfl fz) rfl ?_)
    refine SW.dt rfl rfl (rK k p6 s L m0 m1 zi o t f wb _ H (hO.ext H.base) hM hv HQ ho hf) fun v w5 AX => ?_
    obtain ⟨q5,hT,rfl,p5,H5,K5⟩:=AX;have Mq:=K5.JL hZ hn;have FL:∀ i,aM (some (⟨g,0,none⟩ : Addr)) 2=some i → ¬ iW k p5 i:=fun i e=>K5.not (hn i e) (hZ.lt_size i e)
    replace K5:=K0.trans K5;clear hw;have hw:=Ext.refl w5;have hT:=hT.uJ (cpu:=cpu) (L:=L) (by omega);rw [← pD] at hT;cases q5 with
    | none =>
      repeat' (first|refine Wz ?_|(refine CW.di rfl ?_))
      exact ah.again (j+1,p5) ⟨rfl,rfl,rfl,rfl,rfl,rfl,rfl,rfl,trivial⟩ (by simp only;omega) ⟨by simp only;omega,H5,K5,Mq,FL,fun i h h'=>by
       by_cases e:i=j
       ·subst e;exact hT
       ·exact hb i h (by simp only at h';omega)⟩
    | some q5 =>
      repeat' (first|refine Wz ?_|(refine CW.dh rfl ?_))
      exact ah.cb rfl rfl rfl ⟨_,rfl,_,rM JM dL hb hT,rfl,p5,H5,K5⟩
  ·refine Wz ?_;exact ah.cb rfl rfl rfl ⟨_,rfl,none,Bv JM (fun i h=>hb i h (by omega)),rfl,p6,H,K0⟩
open Go.RowKit
theorem FM (k:HK) (p:HP) (s:ao×ao) (L:List ay) (bs:List Block) (b:Block) (wb w:World) (H:HS wb w k p s L) (hD:nv s bs) (hN:mL bs b) :
 jw Tryz.prog 109 [.pointer (some ⟨k.b,0,none⟩),.int .i64 b.At,.int .i64 b.Order] w fun v w' => ∃ p',p'.li=p.li∧p'.ls=p.ls∧HS wb w' k p' (eR s b) L∧mu w k p w' p':=by
 refine dM Tryz.func109 rfl Tryz.ntmps109 rfl ?_;have hw:=Ext.refl w;have H0:=H;have eT:=H.zs.z0.lV;obtain ⟨q1,q2,q3,q4⟩:=pE H.zs.z0 hD.kf;obtain ⟨p1,p2,p3,p4⟩:=pE H.zs.z1 hD.j3;have hA:=H.zs.row.sl.base;have cz:∀ w',Sl w' 4 bX (some ⟨k.g,0,none⟩) 2 [p.u0,p.u1]→bq Tryz.prog 110 [.agg (cV (k.h p)).toArray,.int .i64 b.At] w' fun v _=>v = .int .i64 (if b.At<p.u0.To then 0 else 1):=fun w' h=>sM (k.h p) p.u0 p.u1 b.At w' h
 by_cases hx:b.At<p.u0.To
 ·have eP:eR s b=o9 s ((0:Nat) : Int) (ee s.1 b.At b.Order).2:=by unfold eR;rw [if_pos (by omega)];simp [o9]
  simp only [if_pos hx] at cz;have k0 : 0<2:=by omega
  repeat' (first|refine Wz ?_|refine SW.st (aB rfl rfl ((fun _ _=>H.dD.cell))) rfl ?_|(refine SW.call rfl rfl (cz _ H.zs.row.sl) ?_;intro v w1 ae hv;subst hv;replace hw:=Ext.trans hw ae;replace H:=H.ext ae;clear ae))
  refine CW.iL 19 19 (fun _=>True) mixed (by kernel_rfl) fun w1 ae aJ => ?_
  replace hw:=Ext.trans hw ae;replace H:=H.ext ae;clear ae;refine SF.take 0 [] [] aJ rfl (by kernel_rfl) (by kernel_rfl) (by kernel_rfl) ?_;repeat (refine SW.pure rfl rfl ?_)
  refine SW.ai ?_;refine SF.take 1 [] [] aJ rfl (by kernel_rfl) (by kernel_rfl) (by kernel_rfl) ?_;repeat ((show SW _ _ _ _ (⟨_,Op.nilCheck _,_,_,_,none⟩::_) _ _;refine SW.st (aC rfl) rfl ?_))
  refine SW.ai ?_;refine SF.take 2 [] [] aJ rfl (by kernel_rfl) (by kernel_rfl) (by kernel_rfl) ?_;repeat ((show SW _ _ _ _ (⟨_,Op.fieldAddr _ _ _,_,_,_,none⟩::_) _ _;refine SW.st (aP rfl) rfl ?_))
  refine SW.ai ?_;refine SF.take 3 [] [] aJ rfl (by kernel_rfl) (by kernel_rfl) (by kernel_rfl) ?_;repeat ((show SW _ _ _ _ (⟨_,Op.load _ _,_,_,_,none⟩::_) _ _;refine SW.st (aq rfl (H.dD.cell rfl)) rfl ?_))
  refine SW.ai ?_;refine SF.take 4 [] [] aJ rfl (by kernel_rfl) (by kernel_rfl) (by kernel_rfl) ?_;repeat (refine SW.pure rfl rfl ?_)
  refine SW.ai ?_;refine SF.take 5 [] [] aJ rfl (by kernel_rfl) (by kernel_rfl) (by kernel_rfl) ?_;repeat (refine SW.pure rfl rfl ?_)
  refine SW.ai ?_;refine SF.take 6 [] [] aJ rfl (by kernel_rfl) (by kernel_rfl) (by kernel_rfl) ?_;repeat ((show SW _ _ _ _ (⟨_,Op.nilCheck _,_,_,_,none⟩::_) _ _;refine SW.st (aC rfl) rfl ?_))
  refine SW.ai ?_;refine SF.take 7 [] [] aJ rfl (by kernel_rfl) (by kernel_rfl) (by kernel_rfl) ?_;repeat ((show SW _ _ _ _ (⟨_,Op.fieldAddr _ _ _,_,_,_,none⟩::_) _ _;refine SW.st (aP rfl) rfl ?_))
  refine SW.ai ?_;refine SF.take 8 [] [] aJ rfl (by kernel_rfl) (by kernel_rfl) (by kernel_rfl) ?_;repeat ((show SW _ _ _ _ (⟨_,Op.load _ _,_,_,_,none⟩::_) _ _;refine SW.st (aq rfl (H.dD.cell rfl)) rfl ?_))
  refine SW.ai ?_;refine SF.take 9 [] [] aJ rfl (by kernel_rfl) (by kernel_rfl) (by kernel_rfl) ?_;repeat (refine SW.pure rfl rfl ?_)
  refine SW.ai ?_;refine SF.take 10 [] [] aJ rfl (by kernel_rfl) (by kernel_rfl) (by kernel_rfl) ?_;repeat ((show SW _ _ _ _ (⟨_,Op.indexAddr _ _ _,_,_,_,none⟩::_) _ _;refine SW.st (bJ rfl rfl (by assumption) (by omega)) rfl ?_))
  refine SW.ai ?_;refine SF.take 11 [] [] aJ rfl (by kernel_rfl) (by kernel_rfl) (by kernel_rfl) ?_;repeat ((show SW _ _ _ _ (⟨_,Op.load _ _,_,_,_,none⟩::_) _ _;refine SW.st (aB rfl rfl ((H.zs.row.sl.all k0))) rfl ?_))
  refine SW.ai ?_;refine SF.take 12 [] [] aJ rfl (by kernel_rfl) (by kernel_rfl) (by kernel_rfl) ?_;repeat (refine SW.pure rfl rfl ?_)
  refine SW.ai ?_;refine SF.take 13 [] [] aJ rfl (by kernel_rfl) (by kernel_rfl) (by kernel_rfl) ?_;repeat (refine SW.pure rfl rfl ?_)
  refine SW.ai ?_;refine SF.one 14 rfl (by kernel_rfl) rfl ?_;refine SW.call rfl rfl (mG p.u0 s.1 b.At b.Order _ H.zs.z0.rd q1 q2 ⟨by omega,by omega⟩ ⟨by omega,by omega⟩) fun v w4 ap hv => ?_
  obtain ⟨u',rfl,k8⟩:=hv;replace k8:=k8.low hw.size;(replace hw:=Ext.trans hw ap;replace H:=H.ext ap);refine SW.nil (ah.sf ap ?_);refine SF.take 15 [] [] aJ rfl (by kernel_rfl) (by kernel_rfl) (by kernel_rfl) ?_;repeat (refine SW.pure rfl rfl ?_)
  refine SW.ai ?_;refine SF.take 16 [] [] aJ rfl (by kernel_rfl) (by kernel_rfl) (by kernel_rfl) ?_;repeat (refine SW.pure rfl rfl ?_)
  refine SW.ai ?_;refine SF.xI 17 aJ rfl (by kernel_rfl) (by kernel_rfl) rfl (fun _=>bo rfl) rfl ?_;refine SF.take 18 [] [] aJ rfl (by kernel_rfl) (by kernel_rfl) (by kernel_rfl) ?_;repeat ((show SW _ _ _ _ (⟨_,Op.indexAddr _ _ _,_,_,_,none⟩::_) _ _;refine SW.st (bJ rfl rfl (by assumption) (by omega)) rfl ?_))
  refine SW.ai ?_;refine SF.last rfl (by kernel_rfl) (by kernel_rfl) ?_;refine SW.mO (enc:=bX) 0 u' H.zs.row rfl rfl k0 fun w5 L2 hg => ?_
  rw [H.zs.own] at hg;have H5:=HS.Mh H0 H k0 L2 hg k8;have hK:mu w k p w5 (wm p 0 u'):=((mu.refl w k p).ext hw).step hg (fun i e=>by cases e;exact .inl (.inr (.inl rfl))) (fun i e => .inl (sX.1 e))
  refine Wz ?_;exact ah.vB rfl ⟨_,rfl,wm p 0 u',pJ.1,pJ.2,by rw [eP];exact H5,hK⟩
 ·have eP:eR s b=o9 s ((1:Nat) : Int) (ee s.2 b.At b.Order).2:=by unfold eR;rw [if_neg (by omega)];simp [o9]
  simp only [if_neg hx] at cz;have k0 : 1<2:=by omega
  repeat' (first|refine Wz ?_|refine SW.st (aB rfl rfl ((fun _ _=>H.dD.cell))) rfl ?_|(refine SW.call rfl rfl (cz _ H.zs.row.sl) ?_;intro v w1 ae hv;subst hv;replace hw:=Ext.trans hw ae;replace H:=H.ext ae;clear ae))
  refine CW.iL 19 19 (fun _=>True) mixed (by kernel_rfl) fun w1 ae aJ => ?_
  replace hw:=Ext.trans hw ae;replace H:=H.ext ae;clear ae;refine SF.take 0 [] [] aJ rfl (by kernel_rfl) (by kernel_rfl) (by kernel_rfl) ?_;repeat (refine SW.pure rfl rfl ?_)
  refine SW.ai ?_;refine SF.take 1 [] [] aJ rfl (by kernel_rfl) (by kernel_rfl) (by kernel_rfl) ?_;repeat ((show SW _ _ _ _ (⟨_,Op.nilCheck _,_,_,_,none⟩::_) _ _;refine SW.st (aC rfl) rfl ?_))
  refine SW.ai ?_;refine SF.take 2 [] [] aJ rfl (by kernel_rfl) (by kernel_rfl) (by kernel_rfl) ?_;repeat ((show SW _ _ _ _ (⟨_,Op.fieldAddr _ _ _,_,_,_,none⟩::_) _ _;refine SW.st (aP rfl) rfl ?_))
  refine SW.ai ?_;refine SF.take 3 [] [] aJ rfl (by kernel_rfl) (by kernel_rfl) (by kernel_rfl) ?_;repeat ((show SW _ _ _ _ (⟨_,Op.load _ _,_,_,_,none⟩::_) _ _;refine SW.st (aq rfl (H.dD.cell rfl)) rfl ?_))
  refine SW.ai ?_;refine SF.take 4 [] [] aJ rfl (by kernel_rfl) (by kernel_rfl) (by kernel_rfl) ?_;repeat (refine SW.pure rfl rfl ?_)
  refine SW.ai ?_;refine SF.take 5 [] [] aJ rfl (by kernel_rfl) (by kernel_rfl) (by kernel_rfl) ?_;repeat (refine SW.pure rfl rfl ?_)
  refine SW.ai ?_;refine SF.take 6 [] [] aJ rfl (by kernel_rfl) (by kernel_rfl) (by kernel_rfl) ?_;repeat ((show SW _ _ _ _ (⟨_,Op.nilCheck _,_,_,_,none⟩::_) _ _;refine SW.st (aC rfl) rfl ?_))
  refine SW.ai ?_;refine SF.take 7 [] [] aJ rfl (by kernel_rfl) (by kernel_rfl) (by kernel_rfl) ?_;repeat ((show SW _ _ _ _ (⟨_,Op.fieldAddr _ _ _,_,_,_,none⟩::_) _ _;refine SW.st (aP rfl) rfl ?_))
  refine SW.ai ?_;refine SF.take 8 [] [] aJ rfl (by kernel_rfl) (by kernel_rfl) (by kernel_rfl) ?_;repeat ((show SW _ _ _ _ (⟨_,Op.load _ _,_,_,_,none⟩::_) _ _;refine SW.st (aq rfl (H.dD.cell rfl)) rfl ?_))
  refine SW.ai ?_;refine SF.take 9 [] [] aJ rfl (by kernel_rfl) (by kernel_rfl) (by kernel_rfl) ?_;repeat (refine SW.pure rfl rfl ?_)
  refine SW.ai ?_;refine SF.take 10 [] [] aJ rfl (by kernel_rfl) (by kernel_rfl) (by kernel_rfl) ?_;repeat ((show SW _ _ _ _ (⟨_,Op.indexAddr _ _ _,_,_,_,none⟩::_) _ _;refine SW.st (bJ rfl rfl (by assumption) (by omega)) rfl ?_))
  refine SW.ai ?_;refine SF.take 11 [] [] aJ rfl (by kernel_rfl) (by kernel_rfl) (by kernel_rfl) ?_;repeat ((show SW _ _ _ _ (⟨_,Op.load _ _,_,_,_,none⟩::_) _ _;refine SW.st (aB rfl rfl ((H.zs.row.sl.all k0))) rfl ?_))
  refine SW.ai ?_;refine SF.take 12 [] [] aJ rfl (by kernel_rfl) (by kernel_rfl) (by kernel_rfl) ?_;repeat (refine SW.pure rfl rfl ?_)
  refine SW.ai ?_;refine SF.take 13 [] [] aJ rfl (by kernel_rfl) (by kernel_rfl) (by kernel_rfl) ?_;repeat (refine SW.pure rfl rfl ?_)
  refine SW.ai ?_;refine SF.one 14 rfl (by kernel_rfl) rfl ?_;refine SW.call rfl rfl (mG p.u1 s.2 b.At b.Order _ H.zs.z1.rd p1 p2 ⟨by omega,by omega⟩ ⟨by omega,by omega⟩) fun v w4 ap hv => ?_
  obtain ⟨u',rfl,k8⟩:=hv;replace k8:=k8.low hw.size;(replace hw:=Ext.trans hw ap;replace H:=H.ext ap);refine SW.nil (ah.sf ap ?_);refine SF.take 15 [] [] aJ rfl (by kernel_rfl) (by kernel_rfl) (by kernel_rfl) ?_;repeat (refine SW.pure rfl rfl ?_)
  refine SW.ai ?_;refine SF.take 16 [] [] aJ rfl (by kernel_rfl) (by kernel_rfl) (by kernel_rfl) ?_;repeat (refine SW.pure rfl rfl ?_)
  refine SW.ai ?_;refine SF.xI 17 aJ rfl (by kernel_rfl) (by kernel_rfl) rfl (fun _=>bo rfl) rfl ?_;refine SF.take 18 [] [] aJ rfl (by kernel_rfl) (by kernel_rfl) (by kernel_rfl) ?_;repeat ((show SW _ _ _ _ (⟨_,Op.indexAddr _ _ _,_,_,_,none⟩::_) _ _;refine SW.st (bJ rfl rfl (by assumption) (by omega)) rfl ?_))
  refine SW.ai ?_;refine SF.last rfl (by kernel_rfl) (by kernel_rfl) ?_;refine SW.mO (enc:=bX) 1 u' H.zs.row rfl rfl k0 fun w5 L2 hg => ?_
  rw [H.zs.own] at hg;have H5:=HS.Mh H0 H k0 L2 hg k8;have hK:mu w k p w5 (wm p 1 u'):=((mu.refl w k p).ext hw).step hg (fun i e=>by cases e;exact .inl (.inr (.inl rfl))) (fun i e => .inl (sX.1 e))
  refine Wz ?_;exact ah.vB rfl ⟨_,rfl,wm p 1 u',pJ.1,pJ.2,by rw [eP];exact H5,hK⟩
theorem HS.drop {wb w w':World} {k:HK} {p:HP} {s:ao×ao} {L:List ay} (h:HS wb w k p s L) (hb:aW w' k.b 41 (cV (k.h ⟨p.u0,p.u1,.nil,[]⟩))) (hg:w.grownBy w' (some k.b)) : HS wb w' k ⟨p.u0,p.u1,.nil,[]⟩ s []:=by
 have hG:=h.dD.gr hg;exact ⟨hb,h.zs.aw hG rfl,h.dA.aw hG rfl,h.live.aw hG rfl,eH.nil _ _,rl.nil _ _,h.sf,h.HL,h.base.own h.HL hg⟩
theorem FN {k:HK} {p:HP} {i:Nat} (h:iW k ⟨p.u0,p.u1,.nil,[]⟩ i) : iW k p i:=by
 rcases h with h|h|h|⟨z,hz,h⟩
 ·exact .inl h
 ·exact .inr (.inl h)
 ·cases h
 ·simp at hz
set_option maxHeartbeats 2000000 in
theorem Df (k:HK) (p:HP) (h:Heap) (z0 z1:ao) (hd:lF h z0 z1) (hs:h.small) (wb w:World) (H:HS wb w k p (z0,z1) h.au) :
 jw Tryz.prog 154 [.pointer (some ⟨k.b,0,none⟩)] w fun v w' => ∃ p',HS wb w' k p' (bE (z0,z1) (aR h.au)) []∧mu w k p w' p':=by
 refine dM Tryz.func154 rfl Tryz.ntmps154 rfl ?_;have hw:=Ext.refl w;have pp:=H.ls.rd.len;have s4:=hs.lists;have LY:=H.ls.row.sl.base;repeat' (first|refine Wz ?_|refine SW.st (aq rfl (H.dD.cell rfl)) rfl ?_)
 refine CW.loop (fun t:Nat×HP=>[(0,.pointer (some ⟨k.b,0,none⟩)),(9,.slice p.li.A p.li.n p.li.c),(10,.int .i64 (p.li.n:Int)),(11,.int .i64 (t.1:Int))])
  (fun t w'=>t.1≤p.li.n∧t.2.li=p.li∧t.2.ls=p.ls∧HS wb w' k t.2 (jT h z0 z1 (iI h.au t.1)) h.au∧mu w k p w' t.2) (fun t=>p.li.n-t.1) (0,p)
  ⟨rfl,rfl,rfl,rfl,trivial⟩ ⟨by omega,rfl,rfl,by simpa [jT,iI,aR,bE] using H,mu.refl _ _ _⟩ ?_
 clear hw H LY;rintro ⟨i,p1⟩ w ⟨hi,e1,e2,H,K0⟩
 simp only at hi e1 e2 H K0 ⊢;have hw:=Ext.refl w;have dN:Sl w 4 bI p.li.A p.li.n p.ls:=by have:=H.ls.row.sl;rwa [e1,e2] at this
 have hA:=dN.base;by_cases df:i<p.li.n
 ·have r9:i<h.au.length:=by omega
  have xv:i<p.ls.length:=by omega
  have Cc:h.au[i].av.length=(p.ls[i]'xv).av.n:=by
   have:=(H.ls.each.get i (by rw [e2];exact xv) r9).bM.len
   simpa only [e2] using this
  have IY:=hs.bM _ (List.getElem_mem r9);obtain ⟨y,hy⟩ : ∃ y,p.ls[i]'xv=y:=⟨_,rfl⟩;have HR:=dN.all df;rw [hy] at HR Cc;repeat' (first|refine Wz ?_|refine SW.st (aB rfl rfl HR) rfl ?_)
  refine SW.alloc rfl fun b3 w1 ae bQ ax => ?_
  skip;refine SW.ak ax rfl rfl rfl rfl (fP.one (enc:=bI) _) fun w2 cW hg => ?_
  have ap:=ae.own bQ hg;have dB:w.heap.size≤b3:=Nat.le_trans hw.size bQ
  replace hw:=Ext.trans hw ap;replace H:=H.ext ap;replace K0:=K0.ext ap;replace ax:=cW;clear cW ae hg ap
  have El:∀ (w':World) (q:HP) (s:ao×ao),q.ls=p.ls→HS wb w' k q s h.au→Own w' wb.heap.size 3 1 bK y.av.A y.av.n y.av.c h.au[i].av:=fun w' q s eq hh=>by
   have:=(hh.ls.each.get i (by rw [eq];exact xv) r9).bM
   simpa only [eq,hy] using this
  have hP:=El _ p1 _ e2 H;have Bj:=hP.sl.base;repeat' (first|refine Wz ?_|fail)
  refine CW.loop (fun t:Nat×HP=>[(0,.pointer (some ⟨k.b,0,none⟩)),(9,.slice p.li.A p.li.n p.li.c),(10,.int .i64 (p.li.n:Int)),(11,.int .i64 (i:Int)),(16,.slice y.av.A y.av.n y.av.c),(17,.int .i64 (y.av.n:Int)),(18,.int .i64 (t.1:Int))])
   (fun t w'=>t.1≤y.av.n∧t.2.li=p.li∧t.2.ls=p.ls∧HS wb w' k t.2 (jT h z0 z1 (iI h.au i+t.1)) h.au∧mu _ k p w' t.2) (fun t=>y.av.n-t.1) (0,p1)
   ⟨rfl,rfl,rfl,rfl,rfl,rfl,rfl,trivial⟩ ⟨by omega,e1,e2,H,K0⟩ ?_
  clear hw H K0 ax hP Bj dN HR bQ dB e1 e2 p1;rintro ⟨j,p1⟩ w' ⟨hj,e1,e2,H,K0⟩
  simp only at hj e1 e2 H K0 ⊢;have hw:=Ext.refl w';have hP:=El _ p1 _ e2 H;have Bj:=hP.sl.base;by_cases nd:j<y.av.n
  ·have pq:j<h.au[i].av.length:=by omega
   obtain ⟨hK,NR⟩:=uG r9 pq;have hN:=hd.next hK;have hD:=hd.inv (iI h.au i+j) (by omega);have hT:=ld (z0,z1) (aR h.au) _ hK;rw [NR] at hN hT;have M0:jT h z0 z1 (iI h.au i+(j+1))=eR (jT h z0 z1 (iI h.au i+j)) (bL h.au[i].av[j]):=hT
   repeat' (first|refine Wz ?_|refine SW.st (aq rfl (hP.sl.one nd rfl)) rfl ?_)
   refine SW.dt rfl rfl (FM k p1 _ h.au _ (bL h.au[i].av[j]) wb _ H hD hN) fun v w5 hv => ?_
   obtain ⟨p2,e3,e4,H5,K5⟩:=hv;repeat' (first|refine Wz ?_|fail);refine ah.again (j+1,p2) ⟨rfl,rfl,rfl,rfl,rfl,rfl,rfl,trivial⟩ (by simp only;omega) ⟨by simp only;omega,e3.trans e1,e4.trans e2,?_,K0.trans K5⟩;simp only;rw [M0];exact H5
  ·have ej:iI h.au i+j=iI h.au (i+1):=by rw [vI r9];omega
   rw [ej] at H;repeat' (first|refine Wz ?_|fail);exact ah.again (i+1,p1) ⟨rfl,rfl,rfl,rfl,trivial⟩ (by simp only;omega) ⟨by simp only;omega,e1,e2,H,K0⟩
 ·have ei:i=h.au.length:=by omega
  have L6:jT h z0 z1 (iI h.au i)=bE (z0,z1) (aR h.au):=by
   rw [ei,zu,jT,List.take_of_length_le (Nat.le_refl _)]
  rw [L6] at H;repeat' (first|refine Wz ?_|fail);refine SW.bz (i:=3) H.dD rfl rfl rfl rfl fun w6 pO hg => ?_
  have H6:=H.drop pO hg;have K6:=K0.step hg (fun i e=>by cases e;exact .inl (.inl rfl)) (fun i e => .inl (FN e));repeat' (first|refine Wz ?_|fail);exact ah.vB rfl ⟨_,rfl,_,H6,K6⟩
end Go.Proofs.YtbidkghlpijecaaGreatDoor
