/-
  Texts of the claim SlabBulks, part 18: what its theorem leans on.
-/
import Derived.Test.YtjimadiidbkohaaGreatDoorPackSlabBulks17
import Derived.Test.YtjimadiidbkohaaGreatDoorPackSlabBulks2
import Derived.Test.YtjimadiidbkohaaGreatDoorPackSlabBulks5
import Derived.Test.YtjimadiidbkohaaGreatDoorPackSlabBulks16
import Derived.Test.YtjimadiidbkohaaGreatDoorPackSlabBulks1
import Derived.Great.BuildSlice
import Derived.Test.YtjimadiidbkohaaGreatDoorPackSlabBulks11
set_option linter.unusedVariables false
set_option linter.unusedSimpArgs false
namespace Go.Proofs.YtjimadiidbkohaaGreatDoor
open Go.RowKit
inductive FJ (m0 m1:Int) (s:aq×aq) (zi o t f:Int) : Option ((aq×aq)×Int)→Prop
 | jY (he : ¬ dv m0 m1 s zi o f) : FJ m0 m1 s zi o t f none
 | none {u:aq×Int×Int} (he:dv m0 m1 s zi o f) (ht:fV (rm s zi) o t u) (hu:u.2.2≠0) : FJ m0 m1 s zi o t f none
 | ok {u:aq×Int×Int} (he:dv m0 m1 s zi o f) (ht:fV (rm s zi) o t u) (hu:u.2.2=0) : FJ m0 m1 s zi o t f (some (la s zi u.1,u.2.1))
def NY:Option ((aq×aq)×Int)→Value
 | Option.none => .tuple #[.int .i64 0,.bool false]
 | some q => .tuple #[.int .i64 q.2,.bool true]
def JR (s:aq×aq) : Option ((aq×aq)×Int)→aq×aq
 | Option.none=>s
 | some q=>q.1
theorem FJ.vs {m0 m1:Int} {s:aq×aq} {zi o t f:Int} {q:Option ((aq×aq)×Int)} (h:FJ m0 m1 s zi o t f q) (hv:VS s) : VS (JR s q):=by
 cases h with
 | jY|none=>exact hv
 | ok he ht hu=>exact hv.qi (ht.vC hu).1
theorem HS.fC {wb w:World} {k:HK} {p:HP} {s:aq×aq} {L:List aA} (h:HS wb w k p s L) (hv:VS s) {zi:Nat} (hz:zi<2) : ∃ u,[p.u0,p.u1][zi]'hz=u∧fa w wb.heap.size u (rm s zi):=by
 rcases Nat.lt_or_ge zi 1 with h1|h1
 ·obtain rfl:zi=0:=by omega
  exact ⟨p.u0,rfl,h.zs.z0⟩
 ·obtain rfl:zi=1:=by omega
  exact ⟨p.u1,rfl,h.zs.z1⟩
set_option maxHeartbeats 2000000 in
theorem pE (k:HK) (p:HP) (s:aq×aq) (L:List aA) (m0 m1:Int) (zi:Nat) (o t f:Int) (wb w:World) (H:HS wb w k p s L) (hO:pe w) (hM:n9 k.M m0 m1) (hv:VS s) (jc:zi<2) (ho : 0≤o∧o≤4) (hf : 0≤f∧f≤15) :
 il Tryz.prog 122 [.pointer (some ⟨k.b,0,none⟩),.int .i64 (zi:Int),.int .i64 o,.int .i64 t,.int .i64 f] w fun v w' => ∃ q,FJ m0 m1 s zi o t f q∧v=NY q ∧ ∃ p',HS wb w' k p' (JR s q) L∧ld w k p w' p':=by
 refine dC Tryz.func122 rfl Tryz.ntmps122 rfl ?_;have hw:=Ext.refl w;have H0:=H;obtain ⟨uz,GY,nK⟩:=H.fC hv jc;have uU:=hv.rm (zi:Int);obtain ⟨z,hz⟩ : ∃ z,rm s (zi:Int)=z:=⟨_,rfl⟩;rw [hz] at nK uU;obtain ⟨q1,q2,q3,q4⟩:=kN nK uU;have hA:=H.zs.row.sl.base;have fz:=H.zs.row.sl.all jc;rw [GY] at fz;have NZ:=dw.2 uU
 have cP:∀ w',Ext w w'→bt Tryz.prog 131 [.agg (bo uz).toArray] w' fun v _=>v = .tuple #[.int .i64 (dK z.ag),.int .i64 0]:=fun w' hx=>by
  have:=yZ uz z w' (nK.ext hx).rd (by omega) (by omega) ⟨by omega,by omega⟩ ⟨by omega,by omega⟩
  rwa [show nb z=(dK z.ag,0) by simp [nb,NZ]] at this
 obtain ⟨hd,yn⟩ : ∃ hd,nn m0 m1 s zi f=hd:=⟨_,rfl⟩;have o1:=hv.l8.ok;obtain ⟨a1,a2,a3,a4,a5⟩:=o1
 have cH:∀ w',Ext w w'→bt Tryz.prog 132 [.agg (bm (k.h p)).toArray,.int .i64 (zi:Int),.int .i64 f] w' fun v _=>v = .int .i64 hd:=fun w' hx=>by
  have:=GX.Dt (k.h p) p.u0 p.u1 s k.M m0 m1 zi f w' (H0.cn.ext hx).sl (H0.zs.row.ext hx).sl hM H0.zs.z1.from_ H0.zs.z1.ka ⟨by omega,by omega⟩ ⟨by omega,by omega⟩ jc hf
  rwa [yn] at this
 have N0 : 0≤hd∧hd≤512:=by
  rw [← yn];have h1:=hM.b0;have h2:=hM.b1;unfold nn;(repeat' split)<;>omega
 have AR:=kf uU;have La:=jr uU z.ag.length (Nat.le_refl _);rw [List.take_length] at La;have N1:=bH ho.1 ho.2;by_cases he:hd≤dK z.ag-pw o
 ·have hE:dv m0 m1 s zi o f:=by unfold dv;rw [yn,hz];exact he
  repeat' (first|refine Wz ?_|((apply CW.aP mixed;(· kernel_rfl);rotate_left;intro w1 ab;replace hw:=Ext.trans hw ab;replace H:=H.ext ab;replace nK:=nK.ext ab;clear ab;rotate_right))|refine SW.st (ak rfl (H.cV.cell (i:=0) (v := .slice (some ⟨k.g,0,none⟩) 2 k.c) rfl)) rfl ?_|refine SW.st (aY rfl rfl fz) rfl ?_|refine SW.st (aH hw rfl rfl fz) rfl ?_|refine SW.st (aY rfl rfl ((fun _ _=>H.cV.cell))) rfl ?_|(refine SW.call rfl rfl (cP _ hw) ?_;intro v w1 ab hv;subst hv;replace hw:=Ext.trans hw ab;replace H:=H.ext ab;replace nK:=nK.ext ab;clear ab)|refine SW.bq rfl rfl (fun w1 ab=>(cH _ (Ext.trans hw ab))) ?_|(refine SW.st (fQ (r:=pw o) rfl rfl (by omega) (by omega) (by simp [pw]) (by omega) (by omega)) rfl ?_)|exact SW.bx rfl)
  refine SW.call rfl rfl (CI uz z o t _ nK.rd q1 q2 ⟨by omega,by omega⟩ ⟨by omega,by omega⟩ (hO.ext hw)) fun v w4 aj hv => ?_
  obtain ⟨u,hT,r',rfl,tP⟩:=hv;replace tP:=tP.low hw.size;(replace hw:=Ext.trans hw aj;replace H:=H.ext aj);refine Wz ?_;refine SW.alloc rfl fun N2 w1 ab FK E0 => ?_
  skip;refine SW.ap E0 rfl rfl rfl rfl (cw r') fun w2 FL hg => ?_
  have aj:=ab.own FK hg;have Mr:w.heap.size≤N2:=Nat.le_trans hw.size FK
  replace hw:=Ext.trans hw aj;replace H:=H.ext aj;replace tP:=tP.ext aj;replace E0:=FL;clear FL ab hg aj;rw [← hz] at hT;by_cases hu:u.2.2=0
  ·refine Wz ?_;refine CW.jf 7 7 (fun _=>True) mixed (by kernel_rfl) fun w1 ab aG => ?_
   replace hw:=Ext.trans hw ab;replace H:=H.ext ab;replace tP:=tP.ext ab;replace E0:=E0.ext ab;clear ab;refine Wf ?_;refine SF.take 3 [] [] aG rfl (by kernel_rfl) (by kernel_rfl) (by kernel_rfl) ?_;repeat ((show SW _ _ _ _ (⟨_,Op.load _ _,_,_,_,none⟩::_) _ _;refine SW.st (ak rfl (H.cV.cell (i:=0) (v := .slice (some ⟨k.g,0,none⟩) 2 k.c) rfl)) rfl ?_))
   refine SW.ai ?_;refine Wf ?_;refine SF.last rfl (by kernel_rfl) (by kernel_rfl) ?_;refine SW.iA (enc:=bo) zi r' H.zs.row rfl rfl jc fun w5 Du hg => ?_
   rw [H.zs.own] at hg;have H5:=HS.BA H0 H jc Du hg tP;have hK:ld w k p w5 (ku p zi r'):=((ld.refl w k p).ext hw).step hg (fun i e=>by cases e;exact .inl (.inr (.inl rfl))) (fun i e => .inl (qu.1 e))
   refine Wz ?_;exact ae.cy rfl rfl rfl ⟨_,rfl,_,.ok hE hT hu,rfl,_,H5,hK⟩
  ·refine Wz ?_;exact ae.cy rfl rfl rfl ⟨_,rfl,_,.none hE hT hu,rfl,_,H,(ld.refl w k p).ext hw⟩
 ·have hE : ¬ dv m0 m1 s zi o f:=by unfold dv;rw [yn,hz];exact he
  repeat' (first|refine Wz ?_|((apply CW.aP mixed;(· kernel_rfl);rotate_left;intro w1 ab;replace hw:=Ext.trans hw ab;replace H:=H.ext ab;replace nK:=nK.ext ab;clear ab;rotate_right))|refine SW.st (ak rfl (H.cV.cell (i:=0) (v := .slice (some ⟨k.g,0,none⟩) 2 k.c) rfl)) rfl ?_|refine SW.st (aY rfl rfl fz) rfl ?_|refine SW.st (aY rfl rfl ((fun _ _=>H.cV.cell))) rfl ?_|(refine SW.call rfl rfl (cP _ hw) ?_;intro v w1 ab hv;subst hv;replace hw:=Ext.trans hw ab;replace H:=H.ext ab;replace nK:=nK.ext ab;clear ab)|refine SW.bq rfl rfl (fun w1 ab=>(cH _ (Ext.trans hw ab))) ?_|(refine SW.st (fQ (r:=pw o) rfl rfl (by omega) (by omega) (by simp [pw]) (by omega) (by omega)) rfl ?_)|exact SW.bx rfl)
  exact ae.cy rfl rfl rfl ⟨_,rfl,_,.jY hE,rfl,_,H,(ld.refl w k p).ext hw⟩
open Go.RowKit
set_option maxHeartbeats 4000000 in
theorem tr (A:Option Addr) (n c lo:Nat) (l:List bO) (w:World) (hO:Own w lo 62 4 bp A n c l) (i:Nat) (hi:i<n) (hn:n≤1000000000000000000) (fG:lo≤w.heap.size) :
 il Tryz.prog 129 [.slice A n c,.int .i64 (i:Int),.int .i64 ((i+1:Nat) : Int)] w fun v w'=>v = .slice A (n-1) c∧Own w' lo 62 4 bp A (n-1) c (l.eraseIdx i)∧w.grownBy w' (aQ A c):=by
 refine dC Tryz.func129 rfl Tryz.ntmps129 rfl ?_;have hle:=hO.le;have kB:=hO.len;have hA:=hO.sl.base;have AG:w.grownBy w (aQ A c):=World.grownBy.refl _ _
 repeat' (first|refine Wz ?_|(refine SW.st (uG (i:=i) (j:=i+1) (k:=n) rfl rfl rfl rfl (by omega) (by omega) (by omega)) rfl ?_))
 all_goals try omega
 have hw:=Ext.refl w;have e0:i+(n-(i+1))=n-1:=by omega
 have el:l.take i++l.drop (i+1)=l.eraseIdx i:=by rw [List.eraseIdx_eq_take_drop_succ]
 refine CW.any 6 mixed (cq (by kernel_rfl)) rfl fun w1 ab aG => ?_
 replace hw:=Ext.trans hw ab;replace hO:=hO.ext ab;clear ab;refine Wa ?_;refine SA.take 2 aG rfl (by kernel_rfl) (by kernel_rfl) rfl ?_;repeat ((refine SW.st (dc (k:=i) rfl rfl (by omega)) rfl ?_))
 refine SW.ai ?_;refine Wa ?_;refine SA.take 5 aG rfl (by kernel_rfl) (by kernel_rfl) rfl ?_;repeat ((refine SW.st (bi (k:=i+1) rfl rfl (by omega) (by omega)) rfl ?_))
 refine SW.ai ?_;refine SA.done (by kernel_rfl) ?_;refine SW.wS (hO.pre (i:=i) (by omega)) (hO.sl.drop (i+1) c (by omega) (by omega)) (by omega) rfl rfl rfl fun w2 gf hg => ?_
 rw [e0,el] at gf;rw [e0];have Es:=(hw.gr (aQ A c));repeat' (first|refine Wz ?_|(refine SW.st (sb (i:=n-1) (j:=n) rfl rfl rfl (by omega) (by omega)) rfl ?_))
 obtain ⟨g,rest,rfl,h1,h2,h3,h4,h5,h6⟩:=gf.opened (by omega);have oI:((l.eraseIdx i).flatMap bp).length=(n-1)*4:=by rw [bc,gf.len]
 refine SW.clear ((n-1)*4) h2 rfl (by rw [List.length_append,oI];omega) (fun h0 => ?_) (by decide) fun w3 cs gU hB tH => ?_
 ·rw [if_neg (by omega)];simp [c9]
 ·have e7:=eW ((l.eraseIdx i).flatMap bp) (rest.take ((n-(n-1))*4)) (rest.drop ((n-(n-1))*4)) cs (by rw [gU];simp;omega) (o:=(n-1)*4) oI.symm;rw [List.append_assoc (List.flatMap _ _),List.take_append_drop] at e7;rw [e7,List.append_assoc] at hB;have Hq:=Own.closed (l:=l.eraseIdx i) gf.len hB (by rw [List.length_append,gU];simp;omega) h4 (by omega) h5 h1;rw [← h6] at tH;have wT:=bP (bP Es hg (.inl rfl)) tH (.inl rfl);refine Wz ?_;exact ae.aO rfl rfl ⟨_,rfl,rfl,Hq,wT⟩
open Go.RowKit
def Ms:Option ((aq×aq)×List aA×Int)→Value
 | Option.none => .tuple #[.int .i64 0,.bool false]
 | some q => .tuple #[.int .i64 q.2.2,.bool true]
def Dv (s:aq×aq) : Option ((aq×aq)×List aA×Int)→aq×aq
 | Option.none=>s
 | some q=>q.1
def BF (L:List aA) : Option ((aq×aq)×List aA×Int)→List aA
 | Option.none=>L
 | some q=>q.2.1
theorem Dw {k:HK} {p:HP} {i j:Nat} {y:bO} (hi:i<p.ls.length) (ho:ob y.aw=ob p.ls[i].aw) (h:ia k ⟨p.u0,p.u1,p.li,p.ls.set i y⟩ j) : ia k p j:=by
 rcases h with h|h|h|⟨z,hz,h⟩
 ·exact .inl h
 ·exact .inr (.inl h)
 ·exact .inr (.inr (.inl h))
 ·rcases List.mem_or_eq_of_mem_set hz with h1|rfl
  ·exact .inr (.inr (.inr ⟨z,h1,h⟩))
  ·exact .inr (.inr (.inr ⟨_,List.getElem_mem hi,ho ▸ h⟩))
theorem Dx {k:HK} {p:HP} {i j:Nat} (h:ia k ⟨p.u0,p.u1,⟨p.li.A,p.li.n-1,p.li.c⟩,p.ls.eraseIdx i⟩ j) : ia k p j:=by
 rcases h with h|h|h|⟨z,hz,h⟩
 ·exact .inl h
 ·exact .inr (.inl h)
 ·exact .inr (.inr (.inl h))
 ·exact .inr (.inr (.inr ⟨z,List.mem_of_mem_eraseIdx hz,h⟩))
set_option maxHeartbeats 4000000 in
theorem tu (k:HK) (p:HP) (s:aq×aq) (L:List aA) (m0 m1 cpu:Int) (zi:Nat) (t f:Int) (wb w:World) (H:HS wb w k p s L) (hO:pe wb) (hM:n9 k.M m0 m1) (hv:VS s) (hs:rH L) (Am:∀ l∈L,1≤l.aw.length∧l.aw.length≤8) (wg:L.length≤256) (jc:zi<2) (hf : 0≤f∧f≤15) :
 il Tryz.prog 121 [.pointer (some ⟨k.b,0,none⟩),.int .i64 cpu,.int .i64 (zi:Int),.int .i64 t,.int .i64 f] w fun v w' => ∃ q,g7 m0 m1 cpu zi 0 t f s L q∧v=Ms q ∧ ∃ p',HS wb w' k p' (Dv s q) (BF L q)∧ld w k p w' p':=by
 refine dC Tryz.func121 rfl Tryz.ntmps121 rfl ?_;have hw:=Ext.refl w;repeat' (first|refine Wy ?_|fail);have xZ:∀ i,w.heap.size≤i → ¬ ia k p i:=fun i hi=>H.not hi
 have K0:=ld.refl w k p;refine SW.alloc rfl fun nq w1 ab mv aX => ?_
 skip;refine SW.ap aX rfl rfl rfl rfl (sy ⟨cpu,zi,t,.nil⟩) fun w2 dI hg => ?_
 have aj:=ab.own mv hg;have eD:w.heap.size≤nq:=Nat.le_trans hw.size mv
 replace hw:=Ext.trans hw aj;replace H:=H.ext aj;replace K0:=K0.ext aj;replace aX:=dI;clear dI ab hg aj;obtain ⟨x,hx⟩ : ∃ x:aA,x=⟨cpu,zi,t,[]⟩:=⟨_,rfl⟩;have FM:sJ ⟨cpu,zi,t,.nil⟩ x:=by subst hx;exact ⟨rfl,rfl,rfl⟩
 have JI:x.aw=[]:=by subst hx;rfl
 obtain ⟨l1,l2⟩:=H.ls.rd.len;have hA:=H.ls.row.sl.base;obtain ⟨q,hq⟩ : ∃ q,bU L x=q:=⟨_,rfl⟩;obtain ⟨kp,lL⟩ : ∃ kp,a9 L x=kp:=⟨_,rfl⟩
 have cL:∀ w',sc w' p.li p.ls L→bt Tryz.prog 128 [.agg (bm (k.h p)).toArray,.agg (bp ⟨cpu,zi,t,.nil⟩).toArray] w' fun v _=>v = .tuple #[.int .i64 (kp:Int),.bool q]:=fun w' h=>by
  have:=uP (k.h p) L p.ls x ⟨cpu,zi,t,.nil⟩ w' h FM (by simp only;omega)
  rwa [hq,lL] at this
 cases q
 ·repeat' (first|refine Wy ?_|fail);(apply CW.aP mixed;(· kernel_rfl);rotate_left;intro w1 ab;replace hw:=Ext.trans hw ab;replace H:=H.ext ab;replace aX:=aX.ext ab;replace K0:=K0.ext ab;clear ab;rotate_right);repeat' (first|refine Wy ?_|(refine CW.bA rfl ?_)|refine SW.st (aY rfl rfl ((fun _ _=>H.cV.cell))) rfl ?_|refine SW.st (aY rfl rfl ((fun _ _=>aX.cell))) rfl ?_|refine SW.bq rfl rfl (fun w1 ab=>(cL _ (H.ls.rd.ext ab))) ?_|exact SW.bx rfl)
  clear cL;skip;refine SW.db rfl rfl (pE k p s L m0 m1 zi 0 t f wb _ H (hO.ext H.base) hM hv jc (by decide) hf) fun v w5 sX => ?_
  obtain ⟨q5,hT,rfl,p5,H5,K5⟩:=sX;have BG:=K5.not (xZ nq eD) aX.lt;replace aX:=K5.cV aX (xZ nq eD);replace K5:=K0.trans K5;clear K0 H hw xZ;have hw:=Ext.refl w5
  have ll : ¬ ((0:Int)=0∧bU L ⟨cpu,(zi:Int),t,[]⟩=true):=fun h=>by
   have:=h.2
   rw [← hx,hq] at this;cases this
  have IG:bU L ⟨cpu,(zi:Int),t,[]⟩=false:=by rw [← hx];exact hq
  have HG:=hT.vs hv;cases q5 with
  | none =>
    have ur:g7 m0 m1 cpu zi 0 t f s L none:=by
     cases hT with
     | jY he=>exact .jY ll he
     | none he ht hu=>exact .none ll he ht hu
    repeat' (first|refine Wy ?_|fail);refine CW.loop (fun _:Unit=>[(17,.int .i64 0),(18,.bool false),(19,.int .i64 1)]) (fun _ w'=>w'=w5) (fun _=>0) () ⟨rfl,rfl,rfl,trivial⟩ rfl ?_;rintro _ w' rfl;repeat' (first|refine Wy ?_|fail);exact ae.cy rfl rfl rfl ⟨_,rfl,_,ur,rfl,p5,H5,K5⟩
  | some q5 =>
    obtain ⟨s1,a⟩:=q5
    have tv:∀ r,fr m0 m1 zi t f s1 [] r→g7 m0 m1 cpu zi 0 t f s L (some (r.1,gn L x r.2,a)):=fun r hr=>by
     rw [hx];cases hT with
     | ok he ht hu=>exact .fill rfl IG he ht hu hr
    simp only [JR] at H5 HG;have Mt:HS wb w5 k p5 s1 (gn L x []):=by rw [lJ];exact H5
    clear H5;repeat' (first|refine Wy ?_|fail)
    refine CW.loop (fun u:HP×(aq×aq)×List Int=>[(0,.pointer (some ⟨k.b,0,none⟩)),(2,.int .i64 (zi:Int)),(3,.int .i64 t),(4,.int .i64 f),(12,.pointer (some ⟨nq,0,none⟩)),(17,.int .i64 a),(18,.bool true),(19,.int .i64 ((u.2.2.length+1:Nat) : Int))])
     (fun u w'=>u.2.2.length≤3∧HS wb w' k u.1 u.2.1 (gn L x u.2.2)∧VS u.2.1∧aI w' nq 62 (bp ⟨cpu,zi,t,.nil⟩) ∧ ¬ ia k u.1 nq∧ld w k p w' u.1 ∧ ∀ r,fr m0 m1 zi t f u.2.1 u.2.2 r→fr m0 m1 zi t f s1 [] r) (fun u=>3-u.2.2.length) (p5,s1,[])
     ⟨rfl,rfl,rfl,rfl,rfl,rfl,rfl,rfl,trivial⟩ ⟨by simp,Mt,HG,aX,BG,K5,fun r h=>h⟩ ?_
    clear hw aX K5 BG Mt HG hT;rintro ⟨p6,s6,pg⟩ w' ⟨Lb,H,x8,aX,xZ,K0,kR⟩
    simp only at Lb H x8 xZ K0 kR ⊢;have hw:=Ext.refl w';by_cases c8:pg.length<3
    ·repeat' (first|refine Wy ?_|fail);refine SW.db rfl rfl (pE k p6 s6 (gn L x pg) m0 m1 zi 0 t f wb _ H (hO.ext H.base) hM x8 jc (by decide) hf) fun v w5 sX => ?_
     obtain ⟨q5,hT,rfl,p5,H5,K5⟩:=sX;have BG:=K5.not xZ aX.lt;replace aX:=K5.cV aX xZ;replace K5:=K0.trans K5;clear K0 H hw xZ;have hw:=Ext.refl w5;have HG:=hT.vs x8;cases q5 with
     | none =>
       have ur:fr m0 m1 zi t f s6 pg (s6,pg):=by
        cases hT with
        | jY he=>exact .jY c8 he
        | none he ht hu=>exact .none c8 he ht hu
       repeat' (first|refine Wy ?_|(refine CW.bG rfl ?_))
       exact ae.cy rfl rfl rfl ⟨_,rfl,_,tv _ (kR _ ur),rfl,p5,H5,K5⟩
     | some q5 =>
       obtain ⟨s7,b⟩:=q5;simp only [JR] at H5 HG
       have zy:∀ r,fr m0 m1 zi t f s7 (pg++[b]) r→fr m0 m1 zi t f s1 [] r:=fun r hr=>by
        cases hT with
        | ok he ht hu=>exact kR _ (.more c8 he ht hu hr)
       repeat' (first|refine Wy ?_|(refine CW.bA rfl ?_))
       repeat' (first|refine Wy ?_|refine SW.st (aY rfl rfl ((fun _ _=>aX.cell))) rfl ?_)
       obtain ⟨l3,l4⟩:=H5.ls.rd.len;have JF:=va (pg:=pg) hq
       refine SW.db rfl rfl (BB k p5 s7 (gn L x pg) x ⟨cpu,zi,t,.nil⟩ b wb _ H5 FM rfl JI (wi hs hq) (by omega) (fun l hl=>by
        rcases u9 hq l hl with h|rfl
        ·have:=Am l h;omega
        ·simp only [dn];omega)) fun v w8 Lc => ?_
       obtain ⟨p8,H8,K8⟩:=Lc;have I0:=K8.not BG aX.lt;replace aX:=K8.cV aX BG;replace K8:=K5.trans K8;rw [zu hq] at H8;clear hw;have hw:=Ext.refl w8;repeat' (first|refine Wy ?_|fail);exact ae.again (p8,s7,pg++[b]) ⟨rfl,rfl,rfl,rfl,rfl,rfl,rfl,congrArg (fun z=>some (Value.int .i64 z)) (by simp),trivial⟩ (by simp;omega) ⟨by simp;omega,H8,HG,aX,I0,K8,zy⟩
    ·have ur:fr m0 m1 zi t f s6 pg (s6,pg) := .full (by omega)
     repeat' (first|refine Wy ?_|fail);exact ae.cy rfl rfl rfl ⟨_,rfl,_,tv _ (kR _ ur),rfl,p6,H,K0⟩
 ·repeat' (first|refine Wy ?_|fail);(apply CW.aP mixed;(· kernel_rfl);rotate_left;intro w1 ab;replace hw:=Ext.trans hw ab;replace H:=H.ext ab;replace aX:=aX.ext ab;replace K0:=K0.ext ab;clear ab;rotate_right);repeat' (first|refine Wy ?_|(refine CW.bG rfl ?_)|refine SW.st (aY rfl rfl ((fun _ _=>H.cV.cell))) rfl ?_|refine SW.st (aY rfl rfl ((fun _ _=>aX.cell))) rfl ?_|refine SW.bq rfl rfl (fun w1 ab=>(cL _ (H.ls.rd.ext ab))) ?_|exact SW.bx rfl)
  clear cL;obtain ⟨di,mc⟩:=jt hq;simp only [lL] at di mc;have cb:kp<p.li.n:=by omega
  have nC:kp<p.ls.length:=by omega
  have P0:=H.ls.each.get kp nC di;have GZ:=Am _ (List.getElem_mem di);obtain ⟨y,hy⟩ : ∃ y,p.ls[kp]'nC=y:=⟨_,rfl⟩;obtain ⟨oK,x9⟩ : ∃ oK,L[kp].aw=oK:=⟨_,rfl⟩;rw [hy] at P0;have hP:=P0.cu;have pc:=P0.cpu;have pz:=P0.fC;have pt:=P0.ty;rw [x9] at hP GZ;clear P0;have rI:=hP.len;have Fv:=hP.sl.base;have qQ:y.aw.n-1<y.aw.n:=by omega
  have I1:dE L ⟨cpu,(zi:Int),t,[]⟩=oK:=by
   rw [← hx,jj hq (by omega)];simp only [lL,x9]
  have KX:dE L x=oK:=by rw [hx];exact I1
  have Ld:=hP.le;have e3:(bp (p.ls[kp]'nC))[3]?=some (Value.slice y.aw.A y.aw.n y.aw.c):=by rw [hy];rfl
  have C2:oK≠[]:=fun e=>by rw [e] at GZ;simp at GZ
  have AI:=ti C2 (i:=y.aw.n-1) (by omega) (by omega);obtain ⟨a,ha⟩ : ∃ a,oK.getLast C2=a:=⟨_,rfl⟩;rw [ha] at AI
  have ur:g7 m0 m1 cpu zi 0 t f s L (some (s,rn L x oK,a)):=by
   have:=g7.list (m0:=m0) (m1:=m1) (fl:=f) (s:=s) (o:=0) rfl (show bU L ⟨cpu,(zi:Int),t,[]⟩=true by rw [← hx];exact hq) (by rw [I1];exact C2)
   simp only [← hx,KX,ha] at this;exact this
  repeat' (first|refine Wy ?_|refine SW.st (aZ (y.aw.n-1) rfl rfl (by assumption) (by omega) (by omega)) rfl ?_|refine SW.st (ak rfl (H.cV.cell (i:=3) (v := .slice p.li.A p.li.n p.li.c) rfl)) rfl ?_|refine SW.st (ak rfl (H.ls.row.sl.dA cb (j:=3) e3)) rfl ?_|refine SW.st (ak rfl (hP.sl.one qQ (congrArg bf AI.symm))) rfl ?_)
  refine CW.jf 17 17 (fun _=>True) mixed (by kernel_rfl) fun w1 ab aG => ?_
  replace hw:=Ext.trans hw ab;replace H:=H.ext ab;replace hP:=hP.ext ab;replace K0:=K0.ext ab;clear ab;refine SF.take 0 [] [] aG rfl (by kernel_rfl) (by kernel_rfl) (by kernel_rfl) ?_;repeat (refine SW.pure rfl rfl ?_)
  refine SW.ai ?_;refine SF.take 1 [] [] aG rfl (by kernel_rfl) (by kernel_rfl) (by kernel_rfl) ?_;repeat ((show SW _ _ _ _ (⟨_,Op.nilCheck _,_,_,_,none⟩::_) _ _;refine SW.st (aJ rfl) rfl ?_))
  refine SW.ai ?_;refine SF.take 2 [] [] aG rfl (by kernel_rfl) (by kernel_rfl) (by kernel_rfl) ?_;repeat ((show SW _ _ _ _ (⟨_,Op.fieldAddr _ _ _,_,_,_,none⟩::_) _ _;refine SW.st (aC rfl) rfl ?_))
  refine SW.ai ?_;refine SF.take 3 [] [] aG rfl (by kernel_rfl) (by kernel_rfl) (by kernel_rfl) ?_;repeat ((show SW _ _ _ _ (⟨_,Op.load _ _,_,_,_,none⟩::_) _ _;refine SW.st (ak rfl (H.cV.cell (i:=3) (v := .slice p.li.A p.li.n p.li.c) rfl)) rfl ?_))
  refine SW.ai ?_;refine SF.take 4 [] [] aG rfl (by kernel_rfl) (by kernel_rfl) (by kernel_rfl) ?_;repeat (refine SW.pure rfl rfl ?_)
  refine SW.ai ?_;refine SF.take 5 [] [] aG rfl (by kernel_rfl) (by kernel_rfl) (by kernel_rfl) ?_;repeat (refine SW.pure rfl rfl ?_)
  refine SW.ai ?_;refine SF.take 6 [] [] aG rfl (by kernel_rfl) (by kernel_rfl) (by kernel_rfl) ?_;repeat ((show SW _ _ _ _ (⟨_,Op.nilCheck _,_,_,_,none⟩::_) _ _;refine SW.st (aJ rfl) rfl ?_))
  refine SW.ai ?_;refine SF.take 7 [] [] aG rfl (by kernel_rfl) (by kernel_rfl) (by kernel_rfl) ?_;repeat ((show SW _ _ _ _ (⟨_,Op.fieldAddr _ _ _,_,_,_,none⟩::_) _ _;refine SW.st (aC rfl) rfl ?_))
  refine SW.ai ?_;refine SF.take 8 [] [] aG rfl (by kernel_rfl) (by kernel_rfl) (by kernel_rfl) ?_;repeat ((show SW _ _ _ _ (⟨_,Op.load _ _,_,_,_,none⟩::_) _ _;refine SW.st (ak rfl (H.cV.cell (i:=3) (v := .slice p.li.A p.li.n p.li.c) rfl)) rfl ?_))
  refine SW.ai ?_;refine SF.take 9 [] [] aG rfl (by kernel_rfl) (by kernel_rfl) (by kernel_rfl) ?_;repeat (refine SW.pure rfl rfl ?_)
  refine SW.ai ?_;refine SF.take 10 [] [] aG rfl (by kernel_rfl) (by kernel_rfl) (by kernel_rfl) ?_;repeat ((show SW _ _ _ _ (⟨_,Op.indexAddr _ _ _,_,_,_,none⟩::_) _ _;refine SW.st (bk rfl rfl (by assumption) (by omega)) rfl ?_))
  refine SW.ai ?_;refine SF.take 11 [] [] aG rfl (by kernel_rfl) (by kernel_rfl) (by kernel_rfl) ?_;repeat ((show SW _ _ _ _ (⟨_,Op.fieldAddr _ _ _,_,_,_,none⟩::_) _ _;refine SW.st (aC rfl) rfl ?_))
  refine SW.ai ?_;refine SF.take 12 [] [] aG rfl (by kernel_rfl) (by kernel_rfl) (by kernel_rfl) ?_;repeat ((show SW _ _ _ _ (⟨_,Op.load _ _,_,_,_,none⟩::_) _ _;refine SW.st (ak rfl (H.ls.row.sl.dA cb (j:=3) e3)) rfl ?_))
  refine SW.ai ?_;refine SF.take 13 [] [] aG rfl (by kernel_rfl) (by kernel_rfl) (by kernel_rfl) ?_;repeat (refine SW.pure rfl rfl ?_)
  refine SW.ai ?_;refine SF.take 14 [] [] aG rfl (by kernel_rfl) (by kernel_rfl) (by kernel_rfl) ?_;repeat ((refine SW.st (dc (k:=y.aw.n-1) rfl (congrArg (fun z=>some (Value.int .i64 z)) (by omega)) (by omega)) rfl ?_))
  refine SW.ai ?_;refine SF.take 15 [16] [16] aG rfl (by kernel_rfl) (by kernel_rfl) (by kernel_rfl) ?_;repeat ((show SW _ _ _ _ (⟨_,Op.indexAddr _ _ _,_,_,_,none⟩::_) _ _;refine SW.st (bk rfl rfl (by assumption) (by omega)) rfl ?_))
  refine SW.ai ?_;refine SF.take 16 [] [] aG rfl (by kernel_rfl) (by kernel_rfl) (by kernel_rfl) ?_;repeat ((show SW _ _ _ _ (⟨_,Op.fieldAddr _ _ _,_,_,_,none⟩::_) _ _;refine SW.st (aC rfl) rfl ?_))
  refine SW.ai ?_;refine SF.last rfl (by kernel_rfl) (by kernel_rfl) ?_;refine SW.ig kp 3 ⟨y.dU,y.aq,y.Ty,⟨y.aw.A,y.aw.n-1,y.aw.c⟩⟩ H.ls.row rfl rfl rfl cb (by decide) rfl (by rw [hy];rfl) fun w6 fX wL => ?_
  have Mu:ob (⟨y.dU,y.aq,y.Ty,⟨y.aw.A,y.aw.n-1,y.aw.c⟩⟩ : bO).aw=ob (p.ls[kp]'nC).aw:=by rw [hy];rfl
  have pU:=hP.pre (i:=y.aw.n-1) (by omega);have N3:oK.take (y.aw.n-1)=oK.dropLast:=by rw [List.dropLast_eq_take,rI]
  rw [N3] at pU;have H6:=HS.setRow (y:=⟨y.dU,y.aq,y.Ty,⟨y.aw.A,y.aw.n-1,y.aw.c⟩⟩) (l:=dn x oK.dropLast) H nC fX wL ⟨pc.trans mc.1,pz.trans mc.2.1,pt.trans mc.2.2,pU⟩ Mu;have K6:ld w k p w6 ⟨p.u0,p.u1,p.li,p.ls.set kp ⟨y.dU,y.aq,y.Ty,⟨y.aw.A,y.aw.n-1,y.aw.c⟩⟩⟩:=K0.step wL (fun i e => .inl (.inr (.inr (.inl e)))) (fun i e => .inl (Dw nC Mu e))
  by_cases h1:y.aw.n=1
  ·have eL:rn L x oK=(L.set kp (dn x oK.dropLast)).eraseIdx kp:=by rw [zv (by omega),lL,List.eraseIdx_set_eq]
   obtain ⟨p6,Mv⟩ : ∃ p6:HP,p6=⟨p.u0,p.u1,p.li,p.ls.set kp ⟨y.dU,y.aq,y.Ty,⟨y.aw.A,y.aw.n-1,y.aw.c⟩⟩⟩:=⟨_,rfl⟩;have Mw:p6.li=p.li:=by rw [Mv]
   rw [← Mv] at H6 K6;have Le:kp<p6.li.n:=by rw [Mw];exact cb
   clear hw;have hw:=Ext.refl w6;repeat' (first|refine Wy ?_|refine SW.st (ak rfl (H6.cV.cell (i:=3) (v := .slice p6.li.A p6.li.n p6.li.c) rfl)) rfl ?_)
   refine SW.db rfl rfl (tr p6.li.A p6.li.n p6.li.c wb.heap.size p6.ls _ H6.ls.row kp Le (by rw [Mw];omega) H6.low) fun v w7 Lg => ?_
   obtain ⟨rfl,N4,Lh⟩:=Lg;have j4:=H6.cV.ay (H6.ls.zw Lh) rfl;repeat' (first|refine Wy ?_|fail);refine SW.bB (i:=3) j4 rfl rfl rfl rfl fun w8 bu Av => ?_
   have H8:=HS.GW H6 N4 Lh bu Av;have K7:=K6.step (p':=p6) Lh (fun i e => .inl (.inr (.inr (.inl e)))) (fun i e => .inl e);have K8:=K7.step Av (fun i e=>by cases e;exact .inl (.inl rfl)) (fun i e => .inl (Dx (i:=kp) e));repeat' (first|refine Wy ?_|fail);exact ae.cy rfl rfl rfl ⟨_,rfl,_,ur,rfl,_,by simp only [BF,eL];exact H8,K8⟩
  ·have eL:rn L x oK=L.set kp (dn x oK.dropLast):=by rw [Dq (by omega),lL]
   repeat' (first|refine Wy ?_|fail);exact ae.cy rfl rfl rfl ⟨_,rfl,_,ur,rfl,_,by simp only [BF,eL];exact H6,K6⟩
open Go.RowKit
theorem qv:∀ (vs X Y Z:List Value),vs.length=Y.length→setAt (X++Y++Z) X.length vs=X++vs++Z
 | [],X,Y,Z,h=>by
   have:Y=[]:=List.length_eq_zero_iff.1 (by simpa using h.symm)
   subst this;rfl
 | v::r,X,[],Z,h=>by simp at h
 | v::r,X,y::Y,Z,h=>by
   have e:=qv r (X++[v]) Y Z (by simpa using h);simp only [List.length_append,List.length_singleton] at e;simp only [setAt]
   have e2:(X++(y::Y)++Z).set X.length v=X++[v]++Y++Z:=by
    rw [List.append_assoc,List.set_append_right _ _ (Nat.le_refl _)];simp
   rw [e2,e];simp
theorem Dy {sz:Nat} {u v:Value} {cs ds Z:List Value} (hu:u.cells.toList=cs) (hv:v.cells.toList=ds) (hc:cs.length=sz) (hd:ds.length=sz) (hZ:Z.length=2*sz) :
 Instr.fill (fun i=>some (i*sz,sz)) Z.toArray [(0,u),(1,v)]=some (cs++ds).toArray:=by
 have h1:u.cells.size=sz:=by rw [← Array.length_toList,hu,hc]
 have h2:v.cells.size=sz:=by rw [← Array.length_toList,hv,hd]
 have eZ:Z=[]++Z.take sz++Z.drop sz:=by simp
 have s1:setAt Z 0 cs=cs++Z.drop sz:=by
  have:=qv cs [] (Z.take sz) (Z.drop sz) (by simp;omega)
  rw [← eZ] at this;simpa using this
 have s2:setAt (cs++Z.drop sz) sz ds=cs++ds:=by
  have:=qv ds cs (Z.drop sz) [] (by simp;omega)
  rw [List.append_nil,hc] at this;simpa using this
 have fold:∀ (x:Value) (off:Nat) (X:List Value),Array.foldl (fun (cs:Array Value) (p:Value×Nat)=>cs.setIfInBounds (off+p.2) p.1) X.toArray x.cells.zipIdx=(setAt X off x.cells.toList).toArray:=fun x off X=>by
  have:=od x.cells.toList 0 off X
  rw [Nat.add_zero] at this;rw [← this,← Array.foldl_toList];simp [Array.toList_zipIdx]
 simp only [Instr.fill];rw [if_neg (by simp;omega)];have f1:=fold u (0*sz) Z;rw [hu,Nat.zero_mul,s1] at f1;have f2:=fold v (1*sz) (cs++Z.drop sz);rw [hv,Nat.one_mul,s2] at f2;simp only [Nat.zero_mul,Nat.one_mul] at f1 f2 ⊢;simp only [f1,f2];rw [if_neg (by simp;omega)]
theorem SW.wm {α:Type} {P:Program} {n:Nat} {ops:Array Oper} {Q:Exit→Act→World→Prop} {rest:List Oper} {L:Env} {w:World} {d:Nat} {T:TypeId} {pos:String} {af:Array Edge} {t e:TypeId} {z:Value} {sz bytes:Nat} {enc : α → List Value}
 [S:bw P t e sz] [E:dl P e z sz bytes] [C:fO enc sz] {x y:Operand} {u v:Value} (a b : α) (hx:cd L x=some u) (hy:cd L y=some v) (hu:u.cells.toList=enc a) (hv:v.cells.toList=enc b) (hs:Nat.ble sz 1000=true)
 (hn:Nat.blt d n=true) (h:∀ g w',Ext w w'→w.heap.size≤g→Own w' w.heap.size e sz enc (some ⟨g,0,none⟩) 2 2 [a,b]→SW P n ops (.fF Q) rest ((d,.slice (some ⟨g,0,none⟩) 2 2)::L) w') :
 SW P n ops (.fF Q) (⟨some d,.buildSlice t 2 #[(0,x),(1,y)],T,pos,af,none⟩::rest) L w :=
 ⟨fun q hq=>by
  obtain ⟨i,hi,hz,jG,uC⟩:=dT P e (z:=z) (sz:=sz) (bytes:=bytes);have hle:sz≤1000:=by simpa using hs
  have hp : 0<sz:=E.pos
  simp only [swp];refine wpList_buildSlice rfl t e 2 _ rfl (enc a++enc b).toArray i z S.ky hi hz (by rw [jG];omega) (by rw [jG];omega) ?_ ?_
  ·have e1:(Array.map (fun (p:Nat×Operand)=>(p.1,q.eval p.2)) #[(0,x),(1,y)]).toList=[(0,u),(1,v)]:=by
    simp [hq.eval hx,hq.eval hy]
   have e2:∀ X:Array Value,X=X.toList.toArray:=fun X=>rfl
   rw [e1,e2 (Array.map _ (Array.range _)),jG];exact Dy hu hv (C.len a) (C.len b) (by simp)
  ·refine (h w.heap.size _ (Ext.alloc w _) (Nat.le_refl _) ⟨rfl,.inr ⟨by omega,w.heap.size,_,rfl,Nat.le_refl _,aI.new w e (enc a++enc b),Nat.le_refl _,by simp only [maxLen];omega,by simp [C.len];omega,?_⟩⟩).out _ (hq.put hn _);simp only [List.flatMap_cons,List.flatMap_nil,List.append_nil];exact List.take_of_length_le (by simp [C.len];omega)⟩
open Go.RowKit
theorem ld.E1 {α:Type} {w0 w:World} {k:HK} {p0 p:HP} (h:ld w0 k p0 w p) {lo:Nat} {e:TypeId} {sz:Nat} {enc : α → List Value} {A:Option Addr} {n c:Nat} {l:List α} (hO:Own w0 lo e sz enc A n c l) (hn:∀ g,aQ A c=some g → ¬ ia k p0 g) : Own w lo e sz enc A n c l:=by
 have c8:=hO.lt_size;refine ⟨hO.len,?_⟩;rcases hO.row with h1|⟨hc,g,gb,rfl,h1,h2,h3⟩
 ·exact .inl h1
 ·have hg:aQ (some (⟨g,0,none⟩ : Addr)) c=some g:=by simp [aQ,Nat.pos_iff_ne_zero.1 hc]
  exact .inr ⟨hc,g,gb,rfl,h1,by rw [h.block g (c8 g hg) (hn g hg)];exact h2,h3⟩
def N5 (L:List aA) : Option ((aq×aq)×Int)→Option ((aq×aq)×List aA×Int)
 | none=>none
 | some q=>some (q.1,L,q.2)
theorem FJ.qI {m0 m1 cpu:Int} {s:aq×aq} {zi o t f:Int} {q:Option ((aq×aq)×Int)} {L:List aA} (h:FJ m0 m1 s zi o t f q) (ho : 0<o) : g7 m0 m1 cpu zi o t f s L (N5 L q):=by
 have ll : ¬ (o=0∧bU L ⟨cpu,zi,t,[]⟩=true):=fun h=>by omega
 cases h with
 | jY he=>exact .jY ll he
 | none he ht hu=>exact .none ll he ht hu
 | ok he ht hu=>exact .qI ho he ht hu
theorem pF {m0 m1 cpu o t f:Int} {s:aq×aq} {L:List aA} {zl:List Int} {j:Nat} {r:(aq×aq)×List aA×Int} (hz:(zl=[1,0]∧f % 2=0)∨(zl=[0]∧f % 2=1)) (hj:j<zl.length) (hb:∀ (i:Nat) (h:i<zl.length),i<j→g7 m0 m1 cpu zl[i] o t f s L none) (h:g7 m0 m1 cpu zl[j] o t f s L (some r)) : g9 m0 m1 cpu o t f s L (some r):=by
 rcases hz with ⟨rfl,hf⟩|⟨rfl,hf⟩
 ·have uE:j<2:=hj
  rcases Nat.lt_or_ge j 1 with h1|h1
  ·obtain rfl:j=0:=by omega
   exact .uh hf h
  ·obtain rfl:j=1:=by omega
   exact .low (fun _=>hb 0 (by simp) (by omega)) h
 ·have uE:j<1:=hj
  obtain rfl:j=0:=by omega
  exact .low (fun e=>by omega) h
theorem ya {m0 m1 cpu o t f:Int} {s:aq×aq} {L:List aA} {zl:List Int} (hz:(zl=[1,0]∧f % 2=0)∨(zl=[0]∧f % 2=1)) (hb:∀ (i:Nat) (h:i<zl.length),g7 m0 m1 cpu zl[i] o t f s L none) : g9 m0 m1 cpu o t f s L none:=by
 rcases hz with ⟨rfl,hf⟩|⟨rfl,hf⟩
 ·exact .low (fun _=>hb 0 (by simp)) (hb 1 (by simp))
 ·exact .low (fun e=>by omega) (hb 0 (by simp))
abbrev N6 (g:Nat) : Option Addr:=some ⟨g,0,none⟩
abbrev N7 (g:Nat) : Option Addr:=if 2=1 then some ⟨g,0,none⟩ else (some (⟨g,0,none⟩ : Addr)).map (·.add (1*1))
set_option maxHeartbeats 4000000 in
theorem qR (k:HK) (p:HP) (s:aq×aq) (L:List aA) (m0 m1 cpu o t f:Int) (wb w:World) (H:HS wb w k p s L) (hO:pe wb) (hM:n9 k.M m0 m1) (hv:VS s) (hs:rH L) (Am:∀ l∈L,1≤l.aw.length∧l.aw.length≤8) (wg:L.length≤256) (ho : 0≤o∧o≤4) (hf : 0≤f∧f≤15) :
 il Tryz.prog 103 [.pointer (some ⟨k.b,0,none⟩),.int .i64 cpu,.int .i64 o,.int .i64 t,.int .i64 f] w fun v w' => ∃ q,g9 m0 m1 cpu o t f s L q∧v=Ms q ∧ ∃ p',HS wb w' k p' (Dv s q) (BF L q)∧ld w k p w' p':=by
 refine dC Tryz.func103 rfl Tryz.ntmps103 rfl ?_;have hw:=Ext.refl w;obtain ⟨q1,q2,q4,q8⟩:=nJ hf;have I2:∀ i,w.heap.size≤i → ¬ ia k p i:=fun i hi=>H.not hi
 have K0:=ld.refl w k p;refine Wz ?_;refine SW.wm (enc:=bf) 1 0 rfl rfl rfl rfl rfl rfl fun g w2 tT Mx hZ => ?_
 (replace hw:=Ext.trans hw tT;replace H:=H.ext tT;replace K0:=K0.ext tT);have hn:∀ j,aQ (some (⟨g,0,none⟩ : Addr)) 2=some j → ¬ ia k p j:=fun j e=>I2 j (by simp [aQ] at e;omega)
 obtain ⟨lo,fG⟩ : ∃ lo,w.heap.size=lo:=⟨_,rfl⟩;rw [fG] at hZ;clear I2 fG;rcases (show f % 2=0∨f % 2=1 by omega) with HH|HH
 ·obtain ⟨zl,AR⟩ : ∃ zl:List Int,zl=[1,0]:=⟨_,rfl⟩;have E2:(zl=[1,0]∧f % 2=0)∨(zl=[0]∧f % 2=1):=by rw [AR];exact .inl ⟨rfl,HH⟩
  obtain ⟨A,hA⟩ : ∃ A:Option Addr,A=(N6 g):=⟨_,rfl⟩
  have Li:∀ w',Own w' lo 3 1 bf (some ⟨g,0,none⟩) 2 2 [1,0]→Sl w' 1 bf A 2 zl:=fun w' h=>by
   rw [AR,hA]
   first|exact h.sl|exact h.sl.drop 1 2 (by decide) (by decide)
  have C8:zl.length=2:=by rw [AR];rfl
  have me:∀ (j:Nat) (hj:j<zl.length),∃ zi:Nat,zl[j]=(zi:Int)∧zi<2:=fun j hj=>by
   rcases E2 with ⟨rfl,_⟩|⟨rfl,_⟩
   ·have uE:j<2:=hj
    rcases Nat.lt_or_ge j 1 with h1|h1
    ·obtain rfl:j=0:=by omega
     exact ⟨1,rfl,by omega⟩
    ·obtain rfl:j=1:=by omega
     exact ⟨0,rfl,by omega⟩
   ·have uE:j<1:=hj
    obtain rfl:j=0:=by omega
    exact ⟨0,rfl,by omega⟩
  repeat' (first|refine Wz ?_|(refine SW.st (rP rfl rfl (by omega) (by decide)) rfl ?_))
  all_goals try omega
  refine CW.loop (fun u:Nat×HP=>[(0,.pointer (some ⟨k.b,0,none⟩)),(1,.int .i64 cpu),(2,.int .i64 o),(3,.int .i64 t),(4,.int .i64 f),(23,.slice A 2 2),(24,.int .i64 ((2:Nat) : Int)),(25,.int .i64 (u.1:Int))])
   (fun u w'=>u.1≤zl.length∧HS wb w' k u.2 s L∧ld w k p w' u.2∧Own w' lo 3 1 bf (some ⟨g,0,none⟩) 2 2 [1,0]∧(∀ j,aQ (some (⟨g,0,none⟩ : Addr)) 2=some j → ¬ ia k u.2 j) ∧ ∀ (i:Nat) (h:i<zl.length),i<u.1→g7 m0 m1 cpu zl[i] o t f s L none) (fun u=>zl.length-u.1) (0,p)
   ⟨rfl,rfl,rfl,rfl,rfl,by rw [hA];rfl,rfl,rfl,trivial⟩ ⟨by simp,H,K0,hZ,hn,fun i h h'=>by simp at h'⟩ ?_
  clear hw hZ H K0 hn;rintro ⟨j,p6⟩ w' ⟨hj,H,K0,hZ,hn,hb⟩
  simp only at hj H K0 hn hb ⊢;have hw:=Ext.refl w';have hS:=Li _ hZ;have N8:=hS.base;by_cases c8:j<zl.length
  ·obtain ⟨zi,jc,Dz⟩:=me j c8;have Lj:j<2:=by omega
   have fz:=hS.one Lj (congrArg bf jc);by_cases FN:o=0
   ·repeat' (first|refine Wz ?_|refine SW.st (ak rfl fz) rfl ?_)
    subst FN;refine SW.db rfl rfl (tu k p6 s L m0 m1 cpu zi t f wb _ H hO hM hv hs Am wg Dz hf) fun v w5 sX => ?_
    obtain ⟨q5,hT,rfl,p5,H5,K5⟩:=sX;have G0:=K5.E1 hZ hn;have BG:∀ i,aQ (some (⟨g,0,none⟩ : Addr)) 2=some i → ¬ ia k p5 i:=fun i e=>K5.not (hn i e) (hZ.lt_size i e)
    replace K5:=K0.trans K5;clear hw;have hw:=Ext.refl w5;rw [← jc] at hT;cases q5 with
    | none =>
      repeat' (first|refine Wz ?_|(refine CW.bA rfl ?_))
      exact ae.again (j+1,p5) ⟨rfl,rfl,rfl,rfl,rfl,rfl,rfl,rfl,trivial⟩ (by simp only;omega) ⟨by simp only;omega,H5,K5,G0,BG,fun i h h'=>by
       by_cases e:i=j
       ·subst e;exact hT
       ·exact hb i h (by simp only at h';omega)⟩
    | some q5 =>
      repeat' (first|refine Wz ?_|(refine CW.bG rfl ?_))
      exact ae.cy rfl rfl rfl ⟨_,rfl,_,pF E2 c8 hb hT,rfl,p5,H5,K5⟩
   ·repeat' (first|refine Wz ?_|refine SW.st (ak rfl fz) rfl ?_)
    refine SW.db rfl rfl (pE k p6 s L m0 m1 zi o t f wb _ H (hO.ext H.base) hM hv Dz ho hf) fun v w5 sX => ?_
    obtain ⟨q5,hT,rfl,p5,H5,K5⟩:=sX;have G0:=K5.E1 hZ hn;have BG:∀ i,aQ (some (⟨g,0,none⟩ : Addr)) 2=some i → ¬ ia k p5 i:=fun i e=>K5.not (hn i e) (hZ.lt_size i e)
    replace K5:=K0.trans K5;clear hw;have hw:=Ext.refl w5;have hT:=hT.qI (cpu:=cpu) (L:=L) (by omega);rw [← jc] at hT;cases q5 with
    | none =>
      repeat' (first|refine Wz ?_|(refine CW.bA rfl ?_))
      exact ae.again (j+1,p5) ⟨rfl,rfl,rfl,rfl,rfl,rfl,rfl,rfl,trivial⟩ (by simp only;omega) ⟨by simp only;omega,H5,K5,G0,BG,fun i h h'=>by
       by_cases e:i=j
       ·subst e;exact hT
       ·exact hb i h (by simp only at h';omega)⟩
    | some q5 =>
      repeat' (first|refine Wz ?_|(refine CW.bG rfl ?_))
      exact ae.cy rfl rfl rfl ⟨_,rfl,_,pF E2 c8 hb hT,rfl,p5,H5,K5⟩
  ·refine Wz ?_;exact ae.cy rfl rfl rfl ⟨_,rfl,none,ya E2 (fun i h=>hb i h (by omega)),rfl,p6,H,K0⟩
 ·obtain ⟨zl,AR⟩ : ∃ zl:List Int,zl=[0]:=⟨_,rfl⟩;have E2:(zl=[1,0]∧f % 2=0)∨(zl=[0]∧f % 2=1):=by rw [AR];exact .inr ⟨rfl,HH⟩
  obtain ⟨A,hA⟩ : ∃ A:Option Addr,A=(N7 g):=⟨_,rfl⟩
  have Li:∀ w',Own w' lo 3 1 bf (some ⟨g,0,none⟩) 2 2 [1,0]→Sl w' 1 bf A (2-1) zl:=fun w' h=>by
   rw [AR,hA]
   first|exact h.sl|exact h.sl.drop 1 2 (by decide) (by decide)
  have C8:zl.length=(2-1):=by rw [AR];rfl
  have me:∀ (j:Nat) (hj:j<zl.length),∃ zi:Nat,zl[j]=(zi:Int)∧zi<2:=fun j hj=>by
   rcases E2 with ⟨rfl,_⟩|⟨rfl,_⟩
   ·have uE:j<2:=hj
    rcases Nat.lt_or_ge j 1 with h1|h1
    ·obtain rfl:j=0:=by omega
     exact ⟨1,rfl,by omega⟩
    ·obtain rfl:j=1:=by omega
     exact ⟨0,rfl,by omega⟩
   ·have uE:j<1:=hj
    obtain rfl:j=0:=by omega
    exact ⟨0,rfl,by omega⟩
  repeat' (first|refine Wz ?_|(refine SW.st (rP rfl rfl (by omega) (by decide)) rfl ?_)|(refine SW.st (bi (k:=1) rfl rfl (by omega) (by omega)) rfl ?_))
  all_goals try omega
  refine CW.loop (fun u:Nat×HP=>[(0,.pointer (some ⟨k.b,0,none⟩)),(1,.int .i64 cpu),(2,.int .i64 o),(3,.int .i64 t),(4,.int .i64 f),(23,.slice A (2-1) (2-1)),(24,.int .i64 (((2-1) : Nat) : Int)),(25,.int .i64 (u.1:Int))])
   (fun u w'=>u.1≤zl.length∧HS wb w' k u.2 s L∧ld w k p w' u.2∧Own w' lo 3 1 bf (some ⟨g,0,none⟩) 2 2 [1,0]∧(∀ j,aQ (some (⟨g,0,none⟩ : Addr)) 2=some j → ¬ ia k u.2 j) ∧ ∀ (i:Nat) (h:i<zl.length),i<u.1→g7 m0 m1 cpu zl[i] o t f s L none) (fun u=>zl.length-u.1) (0,p)
   ⟨rfl,rfl,rfl,rfl,rfl,by rw [hA];rfl,rfl,rfl,trivial⟩ ⟨by simp,H,K0,hZ,hn,fun i h h'=>by simp at h'⟩ ?_
  clear hw hZ H K0 hn;rintro ⟨j,p6⟩ w' ⟨hj,H,K0,hZ,hn,hb⟩
  simp only at hj H K0 hn hb ⊢;have hw:=Ext.refl w';have hS:=Li _ hZ;have N8:=hS.base;by_cases c8:j<zl.length
  ·obtain ⟨zi,jc,Dz⟩:=me j c8;have Lj:j<(2-1):=by omega
   have fz:=hS.one Lj (congrArg bf jc);by_cases FN:o=0
   ·repeat' (first|refine Wz ?_|refine SW.st (ak rfl fz) rfl ?_)
    subst FN;refine SW.db rfl rfl (tu k p6 s L m0 m1 cpu zi t f wb _ H hO hM hv hs Am wg Dz hf) fun v w5 sX => ?_
    obtain ⟨q5,hT,rfl,p5,H5,K5⟩:=sX;have G0:=K5.E1 hZ hn;have BG:∀ i,aQ (some (⟨g,0,none⟩ : Addr)) 2=some i → ¬ ia k p5 i:=fun i e=>K5.not (hn i e) (hZ.lt_size i e)
    replace K5:=K0.trans K5;clear hw;have hw:=Ext.refl w5;rw [← jc] at hT;cases q5 with
    | none =>
      repeat' (first|refine Wz ?_|(refine CW.bA rfl ?_))
      exact ae.again (j+1,p5) ⟨rfl,rfl,rfl,rfl,rfl,rfl,rfl,rfl,trivial⟩ (by simp only;omega) ⟨by simp only;omega,H5,K5,G0,BG,fun i h h'=>by
       by_cases e:i=j
       ·subst e;exact hT
       ·exact hb i h (by simp only at h';omega)⟩
    | some q5 =>
      repeat' (first|refine Wz ?_|(refine CW.bG rfl ?_))
      exact ae.cy rfl rfl rfl ⟨_,rfl,_,pF E2 c8 hb hT,rfl,p5,H5,K5⟩
   ·repeat' (first|refine Wz ?_|refine SW.st (ak rfl fz) rfl ?_)
    refine SW.db rfl rfl (pE k p6 s L m0 m1 zi o t f wb _ H (hO.ext H.base) hM hv Dz ho hf) fun v w5 sX => ?_
    obtain ⟨q5,hT,rfl,p5,H5,K5⟩:=sX;have G0:=K5.E1 hZ hn;have BG:∀ i,aQ (some (⟨g,0,none⟩ : Addr)) 2=some i → ¬ ia k p5 i:=fun i e=>K5.not (hn i e) (hZ.lt_size i e)
    replace K5:=K0.trans K5;clear hw;have hw:=Ext.refl w5;have hT:=hT.qI (cpu:=cpu) (L:=L) (by omega);rw [← jc] at hT;cases q5 with
    | none =>
      repeat' (first|refine Wz ?_|(refine CW.bA rfl ?_))
      exact ae.again (j+1,p5) ⟨rfl,rfl,rfl,rfl,rfl,rfl,rfl,rfl,trivial⟩ (by simp only;omega) ⟨by simp only;omega,H5,K5,G0,BG,fun i h h'=>by
       by_cases e:i=j
       ·subst e;exact hT
       ·exact hb i h (by simp only at h';omega)⟩
    | some q5 =>
      repeat' (first|refine Wz ?_|(refine CW.bG rfl ?_))
      exact ae.cy rfl rfl rfl ⟨_,rfl,_,pF E2 c8 hb hT,rfl,p5,H5,K5⟩
  ·refine Wz ?_;exact ae.cy rfl rfl rfl ⟨_,rfl,none,ya E2 (fun i h=>hb i h (by omega)),rfl,p6,H,K0⟩
open Go.RowKit
theorem BH (k:HK) (p:HP) (s:aq×aq) (L:List aA) (bs:List Block) (b:Block) (wb w:World) (H:HS wb w k p s L) (hD:nQ s bs) (hN:qG bs b) :
 il Tryz.prog 123 [.pointer (some ⟨k.b,0,none⟩),.int .i64 b.At,.int .i64 b.Order] w fun v w' => ∃ p',p'.li=p.li∧p'.ls=p.ls∧HS wb w' k p' (iM s b) L∧ld w k p w' p':=by
 refine dC Tryz.func123 rfl Tryz.ntmps123 rfl ?_;have hw:=Ext.refl w;have H0:=H;have eT:=H.zs.z0.ka;obtain ⟨q1,q2,q3,q4⟩:=kN H.zs.z0 hD.m8;obtain ⟨p1,p2,p3,p4⟩:=kN H.zs.z1 hD.l8;have hA:=H.zs.row.sl.base;have cz:∀ w',Sl w' 4 bo (some ⟨k.g,0,none⟩) 2 [p.u0,p.u1]→bt Tryz.prog 97 [.agg (bm (k.h p)).toArray,.int .i64 b.At] w' fun v _=>v = .int .i64 (if b.At<p.u0.To then 0 else 1):=fun w' h=>A7 (k.h p) p.u0 p.u1 b.At w' h
 by_cases hx:b.At<p.u0.To
 ·have eP:iM s b=la s ((0:Nat) : Int) (iZ s.1 b.At b.Order).2:=by unfold iM;rw [if_pos (by omega)];simp [la]
  simp only [if_pos hx] at cz;have k0 : 0<2:=by omega
  repeat' (first|refine Wz ?_|refine SW.st (aY rfl rfl ((fun _ _=>H.cV.cell))) rfl ?_|(refine SW.call rfl rfl (cz _ H.zs.row.sl) ?_;intro v w1 ab hv;subst hv;replace hw:=Ext.trans hw ab;replace H:=H.ext ab;clear ab))
  refine CW.jf 19 19 (fun _=>True) mixed (by kernel_rfl) fun w1 ab aG => ?_
  replace hw:=Ext.trans hw ab;replace H:=H.ext ab;clear ab;refine SF.take 0 [] [] aG rfl (by kernel_rfl) (by kernel_rfl) (by kernel_rfl) ?_;repeat (refine SW.pure rfl rfl ?_)
  refine SW.ai ?_;refine SF.take 1 [] [] aG rfl (by kernel_rfl) (by kernel_rfl) (by kernel_rfl) ?_;repeat ((show SW _ _ _ _ (⟨_,Op.nilCheck _,_,_,_,none⟩::_) _ _;refine SW.st (aJ rfl) rfl ?_))
  refine SW.ai ?_;refine SF.take 2 [] [] aG rfl (by kernel_rfl) (by kernel_rfl) (by kernel_rfl) ?_;repeat ((show SW _ _ _ _ (⟨_,Op.fieldAddr _ _ _,_,_,_,none⟩::_) _ _;refine SW.st (aC rfl) rfl ?_))
  refine SW.ai ?_;refine SF.take 3 [] [] aG rfl (by kernel_rfl) (by kernel_rfl) (by kernel_rfl) ?_;repeat ((show SW _ _ _ _ (⟨_,Op.load _ _,_,_,_,none⟩::_) _ _;refine SW.st (ak rfl (H.cV.cell rfl)) rfl ?_))
  refine SW.ai ?_;refine SF.take 4 [] [] aG rfl (by kernel_rfl) (by kernel_rfl) (by kernel_rfl) ?_;repeat (refine SW.pure rfl rfl ?_)
  refine SW.ai ?_;refine SF.take 5 [] [] aG rfl (by kernel_rfl) (by kernel_rfl) (by kernel_rfl) ?_;repeat (refine SW.pure rfl rfl ?_)
  refine SW.ai ?_;refine SF.take 6 [] [] aG rfl (by kernel_rfl) (by kernel_rfl) (by kernel_rfl) ?_;repeat ((show SW _ _ _ _ (⟨_,Op.nilCheck _,_,_,_,none⟩::_) _ _;refine SW.st (aJ rfl) rfl ?_))
  refine SW.ai ?_;refine SF.take 7 [] [] aG rfl (by kernel_rfl) (by kernel_rfl) (by kernel_rfl) ?_;repeat ((show SW _ _ _ _ (⟨_,Op.fieldAddr _ _ _,_,_,_,none⟩::_) _ _;refine SW.st (aC rfl) rfl ?_))
  refine SW.ai ?_;refine SF.take 8 [] [] aG rfl (by kernel_rfl) (by kernel_rfl) (by kernel_rfl) ?_;repeat ((show SW _ _ _ _ (⟨_,Op.load _ _,_,_,_,none⟩::_) _ _;refine SW.st (ak rfl (H.cV.cell rfl)) rfl ?_))
  refine SW.ai ?_;refine SF.take 9 [] [] aG rfl (by kernel_rfl) (by kernel_rfl) (by kernel_rfl) ?_;repeat (refine SW.pure rfl rfl ?_)
  refine SW.ai ?_;refine SF.take 10 [] [] aG rfl (by kernel_rfl) (by kernel_rfl) (by kernel_rfl) ?_;repeat ((show SW _ _ _ _ (⟨_,Op.indexAddr _ _ _,_,_,_,none⟩::_) _ _;refine SW.st (bk rfl rfl (by assumption) (by omega)) rfl ?_))
  refine SW.ai ?_;refine SF.take 11 [] [] aG rfl (by kernel_rfl) (by kernel_rfl) (by kernel_rfl) ?_;repeat ((show SW _ _ _ _ (⟨_,Op.load _ _,_,_,_,none⟩::_) _ _;refine SW.st (aY rfl rfl ((H.zs.row.sl.all k0))) rfl ?_))
  refine SW.ai ?_;refine SF.take 12 [] [] aG rfl (by kernel_rfl) (by kernel_rfl) (by kernel_rfl) ?_;repeat (refine SW.pure rfl rfl ?_)
  refine SW.ai ?_;refine SF.take 13 [] [] aG rfl (by kernel_rfl) (by kernel_rfl) (by kernel_rfl) ?_;repeat (refine SW.pure rfl rfl ?_)
  refine SW.ai ?_;refine SF.one 14 rfl (by kernel_rfl) rfl ?_;refine SW.call rfl rfl (uH p.u0 s.1 b.At b.Order _ H.zs.z0.rd q1 q2 ⟨by omega,by omega⟩ ⟨by omega,by omega⟩) fun v w4 aj hv => ?_
  obtain ⟨u',rfl,jG⟩:=hv;replace jG:=jG.low hw.size;(replace hw:=Ext.trans hw aj;replace H:=H.ext aj);refine SW.nil (ae.sf aj ?_);refine SF.take 15 [] [] aG rfl (by kernel_rfl) (by kernel_rfl) (by kernel_rfl) ?_;repeat (refine SW.pure rfl rfl ?_)
  refine SW.ai ?_;refine SF.take 16 [] [] aG rfl (by kernel_rfl) (by kernel_rfl) (by kernel_rfl) ?_;repeat (refine SW.pure rfl rfl ?_)
  refine SW.ai ?_;refine SF.ln 17 aG rfl (by kernel_rfl) (by kernel_rfl) rfl (fun _=>bd rfl) rfl ?_;refine SF.take 18 [] [] aG rfl (by kernel_rfl) (by kernel_rfl) (by kernel_rfl) ?_;repeat ((show SW _ _ _ _ (⟨_,Op.indexAddr _ _ _,_,_,_,none⟩::_) _ _;refine SW.st (bk rfl rfl (by assumption) (by omega)) rfl ?_))
  refine SW.ai ?_;refine SF.last rfl (by kernel_rfl) (by kernel_rfl) ?_;refine SW.iA (enc:=bo) 0 u' H.zs.row rfl rfl k0 fun w5 Du hg => ?_
  rw [H.zs.own] at hg;have H5:=HS.BA H0 H k0 Du hg jG;have hK:ld w k p w5 (ku p 0 u'):=((ld.refl w k p).ext hw).step hg (fun i e=>by cases e;exact .inl (.inr (.inl rfl))) (fun i e => .inl (qu.1 e))
  refine Wz ?_;exact ae.yD rfl ⟨_,rfl,ku p 0 u',jw.1,jw.2,by rw [eP];exact H5,hK⟩
 ·have eP:iM s b=la s ((1:Nat) : Int) (iZ s.2 b.At b.Order).2:=by unfold iM;rw [if_neg (by omega)];simp [la]
  simp only [if_neg hx] at cz;have k0 : 1<2:=by omega
  repeat' (first|refine Wz ?_|refine SW.st (aY rfl rfl ((fun _ _=>H.cV.cell))) rfl ?_|(refine SW.call rfl rfl (cz _ H.zs.row.sl) ?_;intro v w1 ab hv;subst hv;replace hw:=Ext.trans hw ab;replace H:=H.ext ab;clear ab))
  refine CW.jf 19 19 (fun _=>True) mixed (by kernel_rfl) fun w1 ab aG => ?_
  replace hw:=Ext.trans hw ab;replace H:=H.ext ab;clear ab;refine SF.take 0 [] [] aG rfl (by kernel_rfl) (by kernel_rfl) (by kernel_rfl) ?_;repeat (refine SW.pure rfl rfl ?_)
  refine SW.ai ?_;refine SF.take 1 [] [] aG rfl (by kernel_rfl) (by kernel_rfl) (by kernel_rfl) ?_;repeat ((show SW _ _ _ _ (⟨_,Op.nilCheck _,_,_,_,none⟩::_) _ _;refine SW.st (aJ rfl) rfl ?_))
  refine SW.ai ?_;refine SF.take 2 [] [] aG rfl (by kernel_rfl) (by kernel_rfl) (by kernel_rfl) ?_;repeat ((show SW _ _ _ _ (⟨_,Op.fieldAddr _ _ _,_,_,_,none⟩::_) _ _;refine SW.st (aC rfl) rfl ?_))
  refine SW.ai ?_;refine SF.take 3 [] [] aG rfl (by kernel_rfl) (by kernel_rfl) (by kernel_rfl) ?_;repeat ((show SW _ _ _ _ (⟨_,Op.load _ _,_,_,_,none⟩::_) _ _;refine SW.st (ak rfl (H.cV.cell rfl)) rfl ?_))
  refine SW.ai ?_;refine SF.take 4 [] [] aG rfl (by kernel_rfl) (by kernel_rfl) (by kernel_rfl) ?_;repeat (refine SW.pure rfl rfl ?_)
  refine SW.ai ?_;refine SF.take 5 [] [] aG rfl (by kernel_rfl) (by kernel_rfl) (by kernel_rfl) ?_;repeat (refine SW.pure rfl rfl ?_)
  refine SW.ai ?_;refine SF.take 6 [] [] aG rfl (by kernel_rfl) (by kernel_rfl) (by kernel_rfl) ?_;repeat ((show SW _ _ _ _ (⟨_,Op.nilCheck _,_,_,_,none⟩::_) _ _;refine SW.st (aJ rfl) rfl ?_))
  refine SW.ai ?_;refine SF.take 7 [] [] aG rfl (by kernel_rfl) (by kernel_rfl) (by kernel_rfl) ?_;repeat ((show SW _ _ _ _ (⟨_,Op.fieldAddr _ _ _,_,_,_,none⟩::_) _ _;refine SW.st (aC rfl) rfl ?_))
  refine SW.ai ?_;refine SF.take 8 [] [] aG rfl (by kernel_rfl) (by kernel_rfl) (by kernel_rfl) ?_;repeat ((show SW _ _ _ _ (⟨_,Op.load _ _,_,_,_,none⟩::_) _ _;refine SW.st (ak rfl (H.cV.cell rfl)) rfl ?_))
  refine SW.ai ?_;refine SF.take 9 [] [] aG rfl (by kernel_rfl) (by kernel_rfl) (by kernel_rfl) ?_;repeat (refine SW.pure rfl rfl ?_)
  refine SW.ai ?_;refine SF.take 10 [] [] aG rfl (by kernel_rfl) (by kernel_rfl) (by kernel_rfl) ?_;repeat ((show SW _ _ _ _ (⟨_,Op.indexAddr _ _ _,_,_,_,none⟩::_) _ _;refine SW.st (bk rfl rfl (by assumption) (by omega)) rfl ?_))
  refine SW.ai ?_;refine SF.take 11 [] [] aG rfl (by kernel_rfl) (by kernel_rfl) (by kernel_rfl) ?_;repeat ((show SW _ _ _ _ (⟨_,Op.load _ _,_,_,_,none⟩::_) _ _;refine SW.st (aY rfl rfl ((H.zs.row.sl.all k0))) rfl ?_))
  refine SW.ai ?_;refine SF.take 12 [] [] aG rfl (by kernel_rfl) (by kernel_rfl) (by kernel_rfl) ?_;repeat (refine SW.pure rfl rfl ?_)
  refine SW.ai ?_;refine SF.take 13 [] [] aG rfl (by kernel_rfl) (by kernel_rfl) (by kernel_rfl) ?_;repeat (refine SW.pure rfl rfl ?_)
  refine SW.ai ?_;refine SF.one 14 rfl (by kernel_rfl) rfl ?_;refine SW.call rfl rfl (uH p.u1 s.2 b.At b.Order _ H.zs.z1.rd p1 p2 ⟨by omega,by omega⟩ ⟨by omega,by omega⟩) fun v w4 aj hv => ?_
  obtain ⟨u',rfl,jG⟩:=hv;replace jG:=jG.low hw.size;(replace hw:=Ext.trans hw aj;replace H:=H.ext aj);refine SW.nil (ae.sf aj ?_);refine SF.take 15 [] [] aG rfl (by kernel_rfl) (by kernel_rfl) (by kernel_rfl) ?_;repeat (refine SW.pure rfl rfl ?_)
  refine SW.ai ?_;refine SF.take 16 [] [] aG rfl (by kernel_rfl) (by kernel_rfl) (by kernel_rfl) ?_;repeat (refine SW.pure rfl rfl ?_)
  refine SW.ai ?_;refine SF.ln 17 aG rfl (by kernel_rfl) (by kernel_rfl) rfl (fun _=>bd rfl) rfl ?_;refine SF.take 18 [] [] aG rfl (by kernel_rfl) (by kernel_rfl) (by kernel_rfl) ?_;repeat ((show SW _ _ _ _ (⟨_,Op.indexAddr _ _ _,_,_,_,none⟩::_) _ _;refine SW.st (bk rfl rfl (by assumption) (by omega)) rfl ?_))
  refine SW.ai ?_;refine SF.last rfl (by kernel_rfl) (by kernel_rfl) ?_;refine SW.iA (enc:=bo) 1 u' H.zs.row rfl rfl k0 fun w5 Du hg => ?_
  rw [H.zs.own] at hg;have H5:=HS.BA H0 H k0 Du hg jG;have hK:ld w k p w5 (ku p 1 u'):=((ld.refl w k p).ext hw).step hg (fun i e=>by cases e;exact .inl (.inr (.inl rfl))) (fun i e => .inl (qu.1 e))
  refine Wz ?_;exact ae.yD rfl ⟨_,rfl,ku p 1 u',jw.1,jw.2,by rw [eP];exact H5,hK⟩
theorem HS.drop {wb w w':World} {k:HK} {p:HP} {s:aq×aq} {L:List aA} (h:HS wb w k p s L) (hb:aI w' k.b 27 (bm (k.h ⟨p.u0,p.u1,.nil,[]⟩))) (hg:w.grownBy w' (some k.b)) : HS wb w' k ⟨p.u0,p.u1,.nil,[]⟩ s []:=by
 have hG:=h.cV.gr hg;exact ⟨hb,h.zs.ay hG rfl,h.cn.ay hG rfl,h.live.ay hG rfl,cQ.nil _ _,pi.nil _ _,h.sf,h.Ds,h.base.own h.Ds hg⟩
theorem BI {k:HK} {p:HP} {i:Nat} (h:ia k ⟨p.u0,p.u1,.nil,[]⟩ i) : ia k p i:=by
 rcases h with h|h|h|⟨z,hz,h⟩
 ·exact .inl h
 ·exact .inr (.inl h)
 ·cases h
 ·simp at hz
set_option maxHeartbeats 2000000 in
theorem zz (k:HK) (p:HP) (h:Heap) (z0 z1:aq) (hd:lC h z0 z1) (hs:h.small) (wb w:World) (H:HS wb w k p (z0,z1) h.av) :
 il Tryz.prog 104 [.pointer (some ⟨k.b,0,none⟩)] w fun v w' => ∃ p',HS wb w' k p' (dt (z0,z1) (aS h.av)) []∧ld w k p w' p':=by
 refine dC Tryz.func104 rfl Tryz.ntmps104 rfl ?_;have hw:=Ext.refl w;have kB:=H.ls.rd.len;have s4:=hs.lists;have Fv:=H.ls.row.sl.base;repeat' (first|refine Wz ?_|refine SW.st (ak rfl (H.cV.cell rfl)) rfl ?_)
 refine CW.loop (fun t:Nat×HP=>[(0,.pointer (some ⟨k.b,0,none⟩)),(9,.slice p.li.A p.li.n p.li.c),(10,.int .i64 (p.li.n:Int)),(11,.int .i64 (t.1:Int))])
  (fun t w'=>t.1≤p.li.n∧t.2.li=p.li∧t.2.ls=p.ls∧HS wb w' k t.2 (iN h z0 z1 (gX h.av t.1)) h.av∧ld w k p w' t.2) (fun t=>p.li.n-t.1) (0,p)
  ⟨rfl,rfl,rfl,rfl,trivial⟩ ⟨by omega,rfl,rfl,by simpa [iN,gX,aS,dt] using H,ld.refl _ _ _⟩ ?_
 clear hw H Fv;rintro ⟨i,p1⟩ w ⟨hi,e1,e2,H,K0⟩
 simp only at hi e1 e2 H K0 ⊢;have hw:=Ext.refl w;have dz:Sl w 4 bp p.li.A p.li.n p.ls:=by have:=H.ls.row.sl;rwa [e1,e2] at this
 have hA:=dz.base;by_cases ck:i<p.li.n
 ·have kM:i<h.av.length:=by omega
  have lE:i<p.ls.length:=by omega
  have rI:h.av[i].aw.length=(p.ls[i]'lE).aw.n:=by
   have:=(H.ls.each.get i (by rw [e2];exact lE) kM).cu.len
   simpa only [e2] using this
  have Kn:=hs.cu _ (List.getElem_mem kM);obtain ⟨y,hy⟩ : ∃ y,p.ls[i]'lE=y:=⟨_,rfl⟩;have DA:=dz.all ck;rw [hy] at DA rI;repeat' (first|refine Wz ?_|refine SW.st (aY rfl rfl DA) rfl ?_)
  refine SW.alloc rfl fun b3 w1 ab bM ar => ?_
  skip;refine SW.ap ar rfl rfl rfl rfl (fO.one (enc:=bp) _) fun w2 cU hg => ?_
  have aj:=ab.own bM hg;have cr:w.heap.size≤b3:=Nat.le_trans hw.size bM
  replace hw:=Ext.trans hw aj;replace H:=H.ext aj;replace K0:=K0.ext aj;replace ar:=cU;clear cU ab hg aj
  have Ak:∀ (w':World) (q:HP) (s:aq×aq),q.ls=p.ls→HS wb w' k q s h.av→Own w' wb.heap.size 3 1 bf y.aw.A y.aw.n y.aw.c h.av[i].aw:=fun w' q s eq hh=>by
   have:=(hh.ls.each.get i (by rw [eq];exact lE) kM).cu
   simpa only [eq,hy] using this
  have hP:=Ak _ p1 _ e2 H;have uu:=hP.sl.base;repeat' (first|refine Wz ?_|fail)
  refine CW.loop (fun t:Nat×HP=>[(0,.pointer (some ⟨k.b,0,none⟩)),(9,.slice p.li.A p.li.n p.li.c),(10,.int .i64 (p.li.n:Int)),(11,.int .i64 (i:Int)),(16,.slice y.aw.A y.aw.n y.aw.c),(17,.int .i64 (y.aw.n:Int)),(18,.int .i64 (t.1:Int))])
   (fun t w'=>t.1≤y.aw.n∧t.2.li=p.li∧t.2.ls=p.ls∧HS wb w' k t.2 (iN h z0 z1 (gX h.av i+t.1)) h.av∧ld _ k p w' t.2) (fun t=>y.aw.n-t.1) (0,p1)
   ⟨rfl,rfl,rfl,rfl,rfl,rfl,rfl,trivial⟩ ⟨by omega,e1,e2,H,K0⟩ ?_
  clear hw H K0 ar hP uu dz DA bM cr e1 e2 p1;rintro ⟨j,p1⟩ w' ⟨hj,e1,e2,H,K0⟩
  simp only at hj e1 e2 H K0 ⊢;have hw:=Ext.refl w';have hP:=Ak _ p1 _ e2 H;have uu:=hP.sl.base;by_cases jo:j<y.aw.n
  ·have kW:j<h.av[i].aw.length:=by omega
   obtain ⟨hK,Lk⟩:=Ah kM kW;have hN:=hd.next hK;have hD:=hd.inv (gX h.av i+j) (by omega);have hT:=l7 (z0,z1) (aS h.av) _ hK;rw [Lk] at hN hT;have Ew:iN h z0 z1 (gX h.av i+(j+1))=iM (iN h z0 z1 (gX h.av i+j)) (cX h.av[i].aw[j]):=hT
   repeat' (first|refine Wz ?_|refine SW.st (ak rfl (hP.sl.one jo rfl)) rfl ?_)
   refine SW.db rfl rfl (BH k p1 _ h.av _ (cX h.av[i].aw[j]) wb _ H hD hN) fun v w5 hv => ?_
   obtain ⟨p2,e3,e4,H5,K5⟩:=hv;repeat' (first|refine Wz ?_|fail);refine ae.again (j+1,p2) ⟨rfl,rfl,rfl,rfl,rfl,rfl,rfl,trivial⟩ (by simp only;omega) ⟨by simp only;omega,e3.trans e1,e4.trans e2,?_,K0.trans K5⟩;simp only;rw [Ew];exact H5
  ·have ej:gX h.av i+j=gX h.av (i+1):=by rw [sH kM];omega
   rw [ej] at H;repeat' (first|refine Wz ?_|fail);exact ae.again (i+1,p1) ⟨rfl,rfl,rfl,rfl,trivial⟩ (by simp only;omega) ⟨by simp only;omega,e1,e2,H,K0⟩
 ·have ei:i=h.av.length:=by omega
  have G1:iN h z0 z1 (gX h.av i)=dt (z0,z1) (aS h.av):=by
   rw [ei,vJ,iN,List.take_of_length_le (Nat.le_refl _)]
  rw [G1] at H;repeat' (first|refine Wz ?_|fail);refine SW.bB (i:=3) H.cV rfl rfl rfl rfl fun w6 pp hg => ?_
  have H6:=H.drop pp hg;have K6:=K0.step hg (fun i e=>by cases e;exact .inl (.inl rfl)) (fun i e => .inl (BI e));repeat' (first|refine Wz ?_|fail);exact ae.yD rfl ⟨_,rfl,_,H6,K6⟩
end Go.Proofs.YtjimadiidbkohaaGreatDoor
