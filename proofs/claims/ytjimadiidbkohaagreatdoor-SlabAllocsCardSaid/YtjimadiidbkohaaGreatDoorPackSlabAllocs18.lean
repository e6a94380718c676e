/-
  Texts of the claim SlabAllocs, part 18: what its theorem leans on.
-/
import Derived.Test.YtjimadiidbkohaaGreatDoorPackSlabAllocs17
import Derived.Test.YtjimadiidbkohaaGreatDoorPackSlabAllocs2
import Derived.Test.YtjimadiidbkohaaGreatDoorPackSlabAllocs5
import Derived.Test.YtjimadiidbkohaaGreatDoorPackSlabAllocs16
import Derived.Test.YtjimadiidbkohaaGreatDoorPackSlabAllocs1
import Derived.Great.BuildSlice
import Derived.Test.YtjimadiidbkohaaGreatDoorPackSlabAllocs11
set_option linter.unusedVariables false
set_option linter.unusedSimpArgs false
namespace Go.Proofs.YtjimadiidbkohaaGreatDoor
open Go.RowKit
inductive Fi (m0 m1:Int) (s:aq×aq) (zi o t f:Int) : Option ((aq×aq)×Int)→Prop
 | jO (he : ¬ dr m0 m1 s zi o f) : Fi m0 m1 s zi o t f none
 | none {u:aq×Int×Int} (he:dr m0 m1 s zi o f) (ht:gl (rc s zi) o t u) (hu:u.2.2≠0) : Fi m0 m1 s zi o t f none
 | ok {u:aq×Int×Int} (he:dr m0 m1 s zi o f) (ht:gl (rc s zi) o t u) (hu:u.2.2=0) : Fi m0 m1 s zi o t f (some (kU s zi u.1,u.2.1))
def Nz:Option ((aq×aq)×Int)→Value
 | Option.none => .tuple #[.int .i64 0,.bool false]
 | some q => .tuple #[.int .i64 q.2,.bool true]
def Jt (s:aq×aq) : Option ((aq×aq)×Int)→aq×aq
 | Option.none=>s
 | some q=>q.1
theorem Fi.vs {m0 m1:Int} {s:aq×aq} {zi o t f:Int} {q:Option ((aq×aq)×Int)} (h:Fi m0 m1 s zi o t f q) (hv:VS s) : VS (Jt s q):=by
 cases h with
 | jO|none=>exact hv
 | ok he ht hu=>exact hv.pZ (ht.yf hu).1
theorem HS.fp {wb w:World} {k:HK} {p:HP} {s:aq×aq} {L:List aB} (h:HS wb w k p s L) (hv:VS s) {zi:Nat} (hz:zi<2) : ∃ u,[p.u0,p.u1][zi]'hz=u∧eV w wb.heap.size u (rc s zi):=by
 rcases Nat.lt_or_ge zi 1 with h1|h1
 ·obtain rfl:zi=0:=by omega
  exact ⟨p.u0,rfl,h.zs.z0⟩
 ·obtain rfl:zi=1:=by omega
  exact ⟨p.u1,rfl,h.zs.z1⟩
set_option maxHeartbeats 2000000 in
theorem pp (k:HK) (p:HP) (s:aq×aq) (L:List aB) (m0 m1:Int) (zi:Nat) (o t f:Int) (wb w:World) (H:HS wb w k p s L) (hO:oZ w) (hM:nV k.M m0 m1) (hv:VS s) (iM:zi<2) (ho : 0≤o∧o≤4) (hf : 0≤f∧f≤15) :
 gL Tryz.prog 122 [.pointer (some ⟨k.b,0,none⟩),.int .i64 (zi:Int),.int .i64 o,.int .i64 t,.int .i64 f] w fun v w' => ∃ q,Fi m0 m1 s zi o t f q∧v=Nz q ∧ ∃ p',HS wb w' k p' (Jt s q) L∧kW w k p w' p':=by
 refine dw Tryz.func122 rfl Tryz.ntmps122 rfl ?_;have hw:=Ext.refl w;have H0:=H;obtain ⟨uz,Gy,nA⟩:=H.fp hv iM;have uG:=hv.rc (zi:Int);obtain ⟨z,hz⟩ : ∃ z,rc s (zi:Int)=z:=⟨_,rfl⟩;rw [hz] at nA uG;obtain ⟨q1,q2,q3,q4⟩:=kF nA uG;have hA:=H.zs.row.sl.base;have fz:=H.zs.row.sl.all iM;rw [Gy] at fz;have NA:=dC.2 uG
 have cP:∀ w',Ext w w'→bt Tryz.prog 131 [.agg (bo uz).toArray] w' fun v _=>v = .tuple #[.int .i64 (dE z.ag),.int .i64 0]:=fun w' hx=>by
  have:=yB uz z w' (nA.ext hx).rd (by omega) (by omega) ⟨by omega,by omega⟩ ⟨by omega,by omega⟩
  rwa [show mW z=(dE z.ag,0) by simp [mW,NA]] at this
 obtain ⟨hd,xO⟩ : ∃ hd,na m0 m1 s zi f=hd:=⟨_,rfl⟩;have o1:=hv.ms.ok;obtain ⟨a1,a2,a3,a4,a5⟩:=o1
 have cH:∀ w',Ext w w'→bt Tryz.prog 132 [.agg (bm (k.h p)).toArray,.int .i64 (zi:Int),.int .i64 f] w' fun v _=>v = .int .i64 hd:=fun w' hx=>by
  have:=Gx.C1 (k.h p) p.u0 p.u1 s k.M m0 m1 zi f w' (H0.cj.ext hx).sl (H0.zs.row.ext hx).sl hM H0.zs.z1.from_ H0.zs.z1.jZ ⟨by omega,by omega⟩ ⟨by omega,by omega⟩ iM hf
  rwa [xO] at this
 have NB : 0≤hd∧hd≤512:=by
  rw [← xO];have h1:=hM.b0;have h2:=hM.b1;unfold na;(repeat' split)<;>omega
 have Ap:=j3 uG;have KA:=jb uG z.ag.length (Nat.le_refl _);rw [List.take_length] at KA;have NC:=bG ho.1 ho.2;by_cases he:hd≤dE z.ag-pw o
 ·have hE:dr m0 m1 s zi o f:=by unfold dr;rw [xO,hz];exact he
  repeat' (first|refine Wz ?_|((apply CW.aO mixed;(· kernel_rfl);rotate_left;intro w1 ab;replace hw:=Ext.trans hw ab;replace H:=H.ext ab;replace nA:=nA.ext ab;clear ab;rotate_right))|refine SW.st (ak rfl (H.cU.cell (i:=0) (v := .slice (some ⟨k.g,0,none⟩) 2 k.c) rfl)) rfl ?_|refine SW.st (aX rfl rfl fz) rfl ?_|refine SW.st (aH hw rfl rfl fz) rfl ?_|refine SW.st (aX rfl rfl ((fun _ _=>H.cU.cell))) rfl ?_|(refine SW.call rfl rfl (cP _ hw) ?_;intro v w1 ab hv;subst hv;replace hw:=Ext.trans hw ab;replace H:=H.ext ab;replace nA:=nA.ext ab;clear ab)|refine SW.bq rfl rfl (fun w1 ab=>(cH _ (Ext.trans hw ab))) ?_|(refine SW.st (fD (r:=pw o) rfl rfl (by omega) (by omega) (by simp [pw]) (by omega) (by omega)) rfl ?_)|exact SW.bx rfl)
  refine SW.call rfl rfl (Ch uz z o t _ nA.rd q1 q2 ⟨by omega,by omega⟩ ⟨by omega,by omega⟩ (hO.ext hw)) fun v w4 aj hv => ?_
  obtain ⟨u,hT,r',rfl,tF⟩:=hv;replace tF:=tF.low hw.size;(replace hw:=Ext.trans hw aj;replace H:=H.ext aj);refine Wz ?_;refine SW.alloc rfl fun ND w1 ab Fj EB => ?_
  skip;refine SW.ap EB rfl rfl rfl rfl (ct r') fun w2 Fk hg => ?_
  have aj:=ab.own Fj hg;have LW:w.heap.size≤ND:=Nat.le_trans hw.size Fj
  replace hw:=Ext.trans hw aj;replace H:=H.ext aj;replace tF:=tF.ext aj;replace EB:=Fk;clear Fk ab hg aj;rw [← hz] at hT;by_cases hu:u.2.2=0
  ·refine Wz ?_;refine CW.iO 7 7 (fun _=>True) mixed (by kernel_rfl) fun w1 ab aG => ?_
   replace hw:=Ext.trans hw ab;replace H:=H.ext ab;replace tF:=tF.ext ab;replace EB:=EB.ext ab;clear ab;refine Wf ?_;refine SF.take 3 [] [] aG rfl (by kernel_rfl) (by kernel_rfl) (by kernel_rfl) ?_;repeat ((show SW _ _ _ _ (⟨_,Op.load _ _,_,_,_,none⟩::_) _ _;refine SW.st (ak rfl (H.cU.cell (i:=0) (v := .slice (some ⟨k.g,0,none⟩) 2 k.c) rfl)) rfl ?_))
   refine SW.ah ?_;refine Wf ?_;refine SF.last rfl (by kernel_rfl) (by kernel_rfl) ?_;refine SW.ib (enc:=bo) zi r' H.zs.row rfl rfl iM fun w5 C2 hg => ?_
   rw [H.zs.own] at hg;have H5:=HS.Ba H0 H iM C2 hg tF;have hK:kW w k p w5 (kh p zi r'):=((kW.refl w k p).ext hw).step hg (fun i e=>by cases e;exact .inl (.inr (.inl rfl))) (fun i e => .inl (qi.1 e))
   refine Wz ?_;exact ae.cu rfl rfl rfl ⟨_,rfl,_,.ok hE hT hu,rfl,_,H5,hK⟩
  ·refine Wz ?_;exact ae.cu rfl rfl rfl ⟨_,rfl,_,.none hE hT hu,rfl,_,H,(kW.refl w k p).ext hw⟩
 ·have hE : ¬ dr m0 m1 s zi o f:=by unfold dr;rw [xO,hz];exact he
  repeat' (first|refine Wz ?_|((apply CW.aO mixed;(· kernel_rfl);rotate_left;intro w1 ab;replace hw:=Ext.trans hw ab;replace H:=H.ext ab;replace nA:=nA.ext ab;clear ab;rotate_right))|refine SW.st (ak rfl (H.cU.cell (i:=0) (v := .slice (some ⟨k.g,0,none⟩) 2 k.c) rfl)) rfl ?_|refine SW.st (aX rfl rfl fz) rfl ?_|refine SW.st (aX rfl rfl ((fun _ _=>H.cU.cell))) rfl ?_|(refine SW.call rfl rfl (cP _ hw) ?_;intro v w1 ab hv;subst hv;replace hw:=Ext.trans hw ab;replace H:=H.ext ab;replace nA:=nA.ext ab;clear ab)|refine SW.bq rfl rfl (fun w1 ab=>(cH _ (Ext.trans hw ab))) ?_|(refine SW.st (fD (r:=pw o) rfl rfl (by omega) (by omega) (by simp [pw]) (by omega) (by omega)) rfl ?_)|exact SW.bx rfl)
  exact ae.cu rfl rfl rfl ⟨_,rfl,_,.jO hE,rfl,_,H,(kW.refl w k p).ext hw⟩
open Go.RowKit
set_option maxHeartbeats 4000000 in
theorem te (A:Option Addr) (n c lo:Nat) (l:List bL) (w:World) (hO:Own w lo 62 4 bp A n c l) (i:Nat) (hi:i<n) (hn:n≤1000000000000000000) (fC:lo≤w.heap.size) :
 gL Tryz.prog 129 [.slice A n c,.int .i64 (i:Int),.int .i64 ((i+1:Nat) : Int)] w fun v w'=>v = .slice A (n-1) c∧Own w' lo 62 4 bp A (n-1) c (l.eraseIdx i)∧w.grownBy w' (aT A c):=by
 refine dw Tryz.func129 rfl Tryz.ntmps129 rfl ?_;have hle:=hO.le;have ma:=hO.len;have hA:=hO.sl.base;have Ae:w.grownBy w (aT A c):=World.grownBy.refl _ _
 repeat' (first|refine Wz ?_|(refine SW.st (uo (i:=i) (j:=i+1) (k:=n) rfl rfl rfl rfl (by omega) (by omega) (by omega)) rfl ?_))
 all_goals try omega
 have hw:=Ext.refl w;have e0:i+(n-(i+1))=n-1:=by omega
 have el:l.take i++l.drop (i+1)=l.eraseIdx i:=by rw [List.eraseIdx_eq_take_drop_succ]
 refine CW.any 6 mixed (cl (by kernel_rfl)) rfl fun w1 ab aG => ?_
 replace hw:=Ext.trans hw ab;replace hO:=hO.ext ab;clear ab;refine Wa ?_;refine SA.take 2 aG rfl (by kernel_rfl) (by kernel_rfl) rfl ?_;repeat ((refine SW.st (da (k:=i) rfl rfl (by omega)) rfl ?_))
 refine SW.ah ?_;refine Wa ?_;refine SA.take 5 aG rfl (by kernel_rfl) (by kernel_rfl) rfl ?_;repeat ((refine SW.st (bg (k:=i+1) rfl rfl (by omega) (by omega)) rfl ?_))
 refine SW.ah ?_;refine SA.done (by kernel_rfl) ?_;refine SW.wu (hO.pre (i:=i) (by omega)) (hO.sl.drop (i+1) c (by omega) (by omega)) (by omega) rfl rfl rfl fun w2 gx hg => ?_
 rw [e0,el] at gx;rw [e0];have DZ:=(hw.gr (aT A c));repeat' (first|refine Wz ?_|(refine SW.st (rX (i:=n-1) (j:=n) rfl rfl rfl (by omega) (by omega)) rfl ?_))
 obtain ⟨g,rest,rfl,h1,h2,h3,h4,h5,h6⟩:=gx.opened (by omega);have oB:((l.eraseIdx i).flatMap bp).length=(n-1)*4:=by rw [ba,gx.len]
 refine SW.clear ((n-1)*4) h2 rfl (by rw [List.length_append,oB];omega) (fun h0 => ?_) (by decide) fun w3 cs ic hB tx => ?_
 ·rw [if_neg (by omega)];simp [c7]
 ·have e7:=eJ ((l.eraseIdx i).flatMap bp) (rest.take ((n-(n-1))*4)) (rest.drop ((n-(n-1))*4)) cs (by rw [ic];simp;omega) (o:=(n-1)*4) oB.symm;rw [List.append_assoc (List.flatMap _ _),List.take_append_drop] at e7;rw [e7,List.append_assoc] at hB;have G4:=Own.closed (l:=l.eraseIdx i) gx.len hB (by rw [List.length_append,ic];simp;omega) h4 (by omega) h5 h1;rw [← h6] at tx;have wv:=bO (bO DZ hg (.inl rfl)) tx (.inl rfl);refine Wz ?_;exact ae.aN rfl rfl ⟨_,rfl,rfl,G4,wv⟩
open Go.RowKit
def LX:Option ((aq×aq)×List aB×Int)→Value
 | Option.none => .tuple #[.int .i64 0,.bool false]
 | some q => .tuple #[.int .i64 q.2.2,.bool true]
def C3 (s:aq×aq) : Option ((aq×aq)×List aB×Int)→aq×aq
 | Option.none=>s
 | some q=>q.1
def Bf (L:List aB) : Option ((aq×aq)×List aB×Int)→List aB
 | Option.none=>L
 | some q=>q.2.1
theorem C4 {k:HK} {p:HP} {i j:Nat} {y:bL} (hi:i<p.ls.length) (ho:ob y.aw=ob p.ls[i].aw) (h:gC k ⟨p.u0,p.u1,p.li,p.ls.set i y⟩ j) : gC k p j:=by
 rcases h with h|h|h|⟨z,hz,h⟩
 ·exact .inl h
 ·exact .inr (.inl h)
 ·exact .inr (.inr (.inl h))
 ·rcases List.mem_or_eq_of_mem_set hz with h1|rfl
  ·exact .inr (.inr (.inr ⟨z,h1,h⟩))
  ·exact .inr (.inr (.inr ⟨_,List.getElem_mem hi,ho ▸ h⟩))
theorem C5 {k:HK} {p:HP} {i j:Nat} (h:gC k ⟨p.u0,p.u1,⟨p.li.A,p.li.n-1,p.li.c⟩,p.ls.eraseIdx i⟩ j) : gC k p j:=by
 rcases h with h|h|h|⟨z,hz,h⟩
 ·exact .inl h
 ·exact .inr (.inl h)
 ·exact .inr (.inr (.inl h))
 ·exact .inr (.inr (.inr ⟨z,List.mem_of_mem_eraseIdx hz,h⟩))
set_option maxHeartbeats 4000000 in
theorem tf (k:HK) (p:HP) (s:aq×aq) (L:List aB) (m0 m1 cpu:Int) (zi:Nat) (t f:Int) (wb w:World) (H:HS wb w k p s L) (hO:oZ wb) (hM:nV k.M m0 m1) (hv:VS s) (hs:rz L) (zR:∀ l∈L,1≤l.aw.length∧l.aw.length≤8) (vQ:L.length≤256) (iM:zi<2) (hf : 0≤f∧f≤15) :
 gL Tryz.prog 121 [.pointer (some ⟨k.b,0,none⟩),.int .i64 cpu,.int .i64 (zi:Int),.int .i64 t,.int .i64 f] w fun v w' => ∃ q,ij m0 m1 cpu zi 0 t f s L q∧v=LX q ∧ ∃ p',HS wb w' k p' (C3 s q) (Bf L q)∧kW w k p w' p':=by
 refine dw Tryz.func121 rfl Tryz.ntmps121 rfl ?_;have hw:=Ext.refl w;repeat' (first|refine Wy ?_|fail);have xz:∀ i,w.heap.size≤i → ¬ gC k p i:=fun i hi=>H.not hi
 have K0:=kW.refl w k p;refine SW.alloc rfl fun qI w1 ab nW bl => ?_
 skip;refine SW.ap bl rfl rfl rfl rfl (sn ⟨cpu,zi,t,.nil⟩) fun w2 fy hg => ?_
 have aj:=ab.own nW hg;have fM:w.heap.size≤qI:=Nat.le_trans hw.size nW
 replace hw:=Ext.trans hw aj;replace H:=H.ext aj;replace K0:=K0.ext aj;replace bl:=fy;clear fy ab hg aj;obtain ⟨x,hx⟩ : ∃ x:aB,x=⟨cpu,zi,t,[]⟩:=⟨_,rfl⟩;have Fl:sy ⟨cpu,zi,t,.nil⟩ x:=by subst hx;exact ⟨rfl,rfl,rfl⟩
 have Jk:x.aw=[]:=by subst hx;rfl
 obtain ⟨l1,l2⟩:=H.ls.rd.len;have hA:=H.ls.row.sl.base;obtain ⟨q,hq⟩ : ∃ q,bT L x=q:=⟨_,rfl⟩;obtain ⟨kp,qJ⟩ : ∃ kp,a8 L x=kp:=⟨_,rfl⟩
 have cL:∀ w',rY w' p.li p.ls L→bt Tryz.prog 128 [.agg (bm (k.h p)).toArray,.agg (bp ⟨cpu,zi,t,.nil⟩).toArray] w' fun v _=>v = .tuple #[.int .i64 (kp:Int),.bool q]:=fun w' h=>by
  have:=uB (k.h p) L p.ls x ⟨cpu,zi,t,.nil⟩ w' h Fl (by simp only;omega)
  rwa [hq,qJ] at this
 cases q
 ·repeat' (first|refine Wy ?_|fail);(apply CW.aO mixed;(· kernel_rfl);rotate_left;intro w1 ab;replace hw:=Ext.trans hw ab;replace H:=H.ext ab;replace bl:=bl.ext ab;replace K0:=K0.ext ab;clear ab;rotate_right);repeat' (first|refine Wy ?_|(refine CW.bA rfl ?_)|refine SW.st (aX rfl rfl ((fun _ _=>H.cU.cell))) rfl ?_|refine SW.st (aX rfl rfl ((fun _ _=>bl.cell))) rfl ?_|refine SW.bq rfl rfl (fun w1 ab=>(cL _ (H.ls.rd.ext ab))) ?_|exact SW.bx rfl)
  clear cL;skip;refine SW.cV rfl rfl (pp k p s L m0 m1 zi 0 t f wb _ H (hO.ext H.base) hM hv iM (by decide) hf) fun v w5 sO => ?_
  obtain ⟨q5,hT,rfl,p5,H5,K5⟩:=sO;have Bg:=K5.not (xz qI fM) bl.lt;replace bl:=K5.cU bl (xz qI fM);replace K5:=K0.trans K5;clear K0 H hw xz;have hw:=Ext.refl w5
  have k6 : ¬ ((0:Int)=0∧bT L ⟨cpu,(zi:Int),t,[]⟩=true):=fun h=>by
   have:=h.2
   rw [← hx,hq] at this;cases this
  have Ii:bT L ⟨cpu,(zi:Int),t,[]⟩=false:=by rw [← hx];exact hq
  have Hl:=hT.vs hv;cases q5 with
  | none =>
    have ud:ij m0 m1 cpu zi 0 t f s L none:=by
     cases hT with
     | jO he=>exact .jO k6 he
     | none he ht hu=>exact .none k6 he ht hu
    repeat' (first|refine Wy ?_|fail);refine CW.loop (fun _:Unit=>[(17,.int .i64 0),(18,.bool false),(19,.int .i64 1)]) (fun _ w'=>w'=w5) (fun _=>0) () ⟨rfl,rfl,rfl,trivial⟩ rfl ?_;rintro _ w' rfl;repeat' (first|refine Wy ?_|fail);exact ae.cu rfl rfl rfl ⟨_,rfl,_,ud,rfl,p5,H5,K5⟩
  | some q5 =>
    obtain ⟨s1,a⟩:=q5
    have tg:∀ r,ff m0 m1 zi t f s1 [] r→ij m0 m1 cpu zi 0 t f s L (some (r.1,fX L x r.2,a)):=fun r hr=>by
     rw [hx];cases hT with
     | ok he ht hu=>exact .fill rfl Ii he ht hu hr
    simp only [Jt] at H5 Hl;have LY:HS wb w5 k p5 s1 (fX L x []):=by rw [lB];exact H5
    clear H5;repeat' (first|refine Wy ?_|fail)
    refine CW.loop (fun u:HP×(aq×aq)×List Int=>[(0,.pointer (some ⟨k.b,0,none⟩)),(2,.int .i64 (zi:Int)),(3,.int .i64 t),(4,.int .i64 f),(12,.pointer (some ⟨qI,0,none⟩)),(17,.int .i64 a),(18,.bool true),(19,.int .i64 ((u.2.2.length+1:Nat) : Int))])
     (fun u w'=>u.2.2.length≤3∧HS wb w' k u.1 u.2.1 (fX L x u.2.2)∧VS u.2.1∧aJ w' qI 62 (bp ⟨cpu,zi,t,.nil⟩) ∧ ¬ gC k u.1 qI∧kW w k p w' u.1 ∧ ∀ r,ff m0 m1 zi t f u.2.1 u.2.2 r→ff m0 m1 zi t f s1 [] r) (fun u=>3-u.2.2.length) (p5,s1,[])
     ⟨rfl,rfl,rfl,rfl,rfl,rfl,rfl,rfl,trivial⟩ ⟨by simp,LY,Hl,bl,Bg,K5,fun r h=>h⟩ ?_
    clear hw bl K5 Bg LY Hl hT;rintro ⟨p6,s6,pg⟩ w' ⟨KB,H,xA,bl,xz,K0,kI⟩
    simp only at KB H xA xz K0 kI ⊢;have hw:=Ext.refl w';by_cases c9:pg.length<3
    ·repeat' (first|refine Wy ?_|fail);refine SW.cV rfl rfl (pp k p6 s6 (fX L x pg) m0 m1 zi 0 t f wb _ H (hO.ext H.base) hM xA iM (by decide) hf) fun v w5 sO => ?_
     obtain ⟨q5,hT,rfl,p5,H5,K5⟩:=sO;have Bg:=K5.not xz bl.lt;replace bl:=K5.cU bl xz;replace K5:=K0.trans K5;clear K0 H hw xz;have hw:=Ext.refl w5;have Hl:=hT.vs xA;cases q5 with
     | none =>
       have ud:ff m0 m1 zi t f s6 pg (s6,pg):=by
        cases hT with
        | jO he=>exact .jO c9 he
        | none he ht hu=>exact .none c9 he ht hu
       repeat' (first|refine Wy ?_|(refine CW.bF rfl ?_))
       exact ae.cu rfl rfl rfl ⟨_,rfl,_,tg _ (kI _ ud),rfl,p5,H5,K5⟩
     | some q5 =>
       obtain ⟨s7,b⟩:=q5;simp only [Jt] at H5 Hl
       have yY:∀ r,ff m0 m1 zi t f s7 (pg++[b]) r→ff m0 m1 zi t f s1 [] r:=fun r hr=>by
        cases hT with
        | ok he ht hu=>exact kI _ (.more c9 he ht hu hr)
       repeat' (first|refine Wy ?_|(refine CW.bA rfl ?_))
       repeat' (first|refine Wy ?_|refine SW.st (aX rfl rfl ((fun _ _=>bl.cell))) rfl ?_)
       obtain ⟨l3,l4⟩:=H5.ls.rd.len;have Jh:=uQ (pg:=pg) hq
       refine SW.cV rfl rfl (Bb k p5 s7 (fX L x pg) x ⟨cpu,zi,t,.nil⟩ b wb _ H5 Fl rfl Jk (vR hs hq) (by omega) (fun l hl=>by
        rcases uP hq l hl with h|rfl
        ·have:=zR l h;omega
        ·simp only [dk];omega)) fun v w8 KC => ?_
       obtain ⟨p8,H8,K8⟩:=KC;have IC:=K8.not Bg bl.lt;replace bl:=K8.cU bl Bg;replace K8:=K5.trans K8;rw [yT hq] at H8;clear hw;have hw:=Ext.refl w8;repeat' (first|refine Wy ?_|fail);exact ae.again (p8,s7,pg++[b]) ⟨rfl,rfl,rfl,rfl,rfl,rfl,rfl,congrArg (fun z=>some (Value.int .i64 z)) (by simp),trivial⟩ (by simp;omega) ⟨by simp;omega,H8,Hl,bl,IC,K8,yY⟩
    ·have ud:ff m0 m1 zi t f s6 pg (s6,pg) := .full (by omega)
     repeat' (first|refine Wy ?_|fail);exact ae.cu rfl rfl rfl ⟨_,rfl,_,tg _ (kI _ ud),rfl,p6,H,K0⟩
 ·repeat' (first|refine Wy ?_|fail);(apply CW.aO mixed;(· kernel_rfl);rotate_left;intro w1 ab;replace hw:=Ext.trans hw ab;replace H:=H.ext ab;replace bl:=bl.ext ab;replace K0:=K0.ext ab;clear ab;rotate_right);repeat' (first|refine Wy ?_|(refine CW.bF rfl ?_)|refine SW.st (aX rfl rfl ((fun _ _=>H.cU.cell))) rfl ?_|refine SW.st (aX rfl rfl ((fun _ _=>bl.cell))) rfl ?_|refine SW.bq rfl rfl (fun w1 ab=>(cL _ (H.ls.rd.ext ab))) ?_|exact SW.bx rfl)
  clear cL;obtain ⟨de,lT⟩:=je hq;simp only [qJ] at de lT;have bY:kp<p.li.n:=by omega
  have ns:kp<p.ls.length:=by omega
  have P0:=H.ls.each.get kp ns de;have Gz:=zR _ (List.getElem_mem de);obtain ⟨y,hy⟩ : ∃ y,p.ls[kp]'ns=y:=⟨_,rfl⟩;obtain ⟨oD,xB⟩ : ∃ oD,L[kp].aw=oD:=⟨_,rfl⟩;rw [hy] at P0;have hP:=P0.cr;have pc:=P0.cpu;have pz:=P0.fp;have pt:=P0.ty;rw [xB] at hP Gz;clear P0;have sB:=hP.len;have E3:=hP.sl.base;have qH:y.aw.n-1<y.aw.n:=by omega
  have ID:dA L ⟨cpu,(zi:Int),t,[]⟩=oD:=by
   rw [← hx,iS hq (by omega)];simp only [qJ,xB]
  have Kw:dA L x=oD:=by rw [hx];exact ID
  have KD:=hP.le;have e3:(bp (p.ls[kp]'ns))[3]?=some (Value.slice y.aw.A y.aw.n y.aw.c):=by rw [hy];rfl
  have CA:oD≠[]:=fun e=>by rw [e] at Gz;simp at Gz
  have Ag:=s9 CA (i:=y.aw.n-1) (by omega) (by omega);obtain ⟨a,ha⟩ : ∃ a,oD.getLast CA=a:=⟨_,rfl⟩;rw [ha] at Ag
  have ud:ij m0 m1 cpu zi 0 t f s L (some (s,re L x oD,a)):=by
   have:=ij.list (m0:=m0) (m1:=m1) (fl:=f) (s:=s) (o:=0) rfl (show bT L ⟨cpu,(zi:Int),t,[]⟩=true by rw [← hx];exact hq) (by rw [ID];exact CA)
   simp only [← hx,Kw,ha] at this;exact this
  repeat' (first|refine Wy ?_|refine SW.st (aY (y.aw.n-1) rfl rfl (by assumption) (by omega) (by omega)) rfl ?_|refine SW.st (ak rfl (H.cU.cell (i:=3) (v := .slice p.li.A p.li.n p.li.c) rfl)) rfl ?_|refine SW.st (ak rfl (H.ls.row.sl.dv bY (j:=3) e3)) rfl ?_|refine SW.st (ak rfl (hP.sl.one qH (congrArg bh Ag.symm))) rfl ?_)
  refine CW.iO 17 17 (fun _=>True) mixed (by kernel_rfl) fun w1 ab aG => ?_
  replace hw:=Ext.trans hw ab;replace H:=H.ext ab;replace hP:=hP.ext ab;replace K0:=K0.ext ab;clear ab;refine SF.take 0 [] [] aG rfl (by kernel_rfl) (by kernel_rfl) (by kernel_rfl) ?_;repeat (refine SW.pure rfl rfl ?_)
  refine SW.ah ?_;refine SF.take 1 [] [] aG rfl (by kernel_rfl) (by kernel_rfl) (by kernel_rfl) ?_;repeat ((show SW _ _ _ _ (⟨_,Op.nilCheck _,_,_,_,none⟩::_) _ _;refine SW.st (aI rfl) rfl ?_))
  refine SW.ah ?_;refine SF.take 2 [] [] aG rfl (by kernel_rfl) (by kernel_rfl) (by kernel_rfl) ?_;repeat ((show SW _ _ _ _ (⟨_,Op.fieldAddr _ _ _,_,_,_,none⟩::_) _ _;refine SW.st (aC rfl) rfl ?_))
  refine SW.ah ?_;refine SF.take 3 [] [] aG rfl (by kernel_rfl) (by kernel_rfl) (by kernel_rfl) ?_;repeat ((show SW _ _ _ _ (⟨_,Op.load _ _,_,_,_,none⟩::_) _ _;refine SW.st (ak rfl (H.cU.cell (i:=3) (v := .slice p.li.A p.li.n p.li.c) rfl)) rfl ?_))
  refine SW.ah ?_;refine SF.take 4 [] [] aG rfl (by kernel_rfl) (by kernel_rfl) (by kernel_rfl) ?_;repeat (refine SW.pure rfl rfl ?_)
  refine SW.ah ?_;refine SF.take 5 [] [] aG rfl (by kernel_rfl) (by kernel_rfl) (by kernel_rfl) ?_;repeat (refine SW.pure rfl rfl ?_)
  refine SW.ah ?_;refine SF.take 6 [] [] aG rfl (by kernel_rfl) (by kernel_rfl) (by kernel_rfl) ?_;repeat ((show SW _ _ _ _ (⟨_,Op.nilCheck _,_,_,_,none⟩::_) _ _;refine SW.st (aI rfl) rfl ?_))
  refine SW.ah ?_;refine SF.take 7 [] [] aG rfl (by kernel_rfl) (by kernel_rfl) (by kernel_rfl) ?_;repeat ((show SW _ _ _ _ (⟨_,Op.fieldAddr _ _ _,_,_,_,none⟩::_) _ _;refine SW.st (aC rfl) rfl ?_))
  refine SW.ah ?_;refine SF.take 8 [] [] aG rfl (by kernel_rfl) (by kernel_rfl) (by kernel_rfl) ?_;repeat ((show SW _ _ _ _ (⟨_,Op.load _ _,_,_,_,none⟩::_) _ _;refine SW.st (ak rfl (H.cU.cell (i:=3) (v := .slice p.li.A p.li.n p.li.c) rfl)) rfl ?_))
  refine SW.ah ?_;refine SF.take 9 [] [] aG rfl (by kernel_rfl) (by kernel_rfl) (by kernel_rfl) ?_;repeat (refine SW.pure rfl rfl ?_)
  refine SW.ah ?_;refine SF.take 10 [] [] aG rfl (by kernel_rfl) (by kernel_rfl) (by kernel_rfl) ?_;repeat ((show SW _ _ _ _ (⟨_,Op.indexAddr _ _ _,_,_,_,none⟩::_) _ _;refine SW.st (bj rfl rfl (by assumption) (by omega)) rfl ?_))
  refine SW.ah ?_;refine SF.take 11 [] [] aG rfl (by kernel_rfl) (by kernel_rfl) (by kernel_rfl) ?_;repeat ((show SW _ _ _ _ (⟨_,Op.fieldAddr _ _ _,_,_,_,none⟩::_) _ _;refine SW.st (aC rfl) rfl ?_))
  refine SW.ah ?_;refine SF.take 12 [] [] aG rfl (by kernel_rfl) (by kernel_rfl) (by kernel_rfl) ?_;repeat ((show SW _ _ _ _ (⟨_,Op.load _ _,_,_,_,none⟩::_) _ _;refine SW.st (ak rfl (H.ls.row.sl.dv bY (j:=3) e3)) rfl ?_))
  refine SW.ah ?_;refine SF.take 13 [] [] aG rfl (by kernel_rfl) (by kernel_rfl) (by kernel_rfl) ?_;repeat (refine SW.pure rfl rfl ?_)
  refine SW.ah ?_;refine SF.take 14 [] [] aG rfl (by kernel_rfl) (by kernel_rfl) (by kernel_rfl) ?_;repeat ((refine SW.st (da (k:=y.aw.n-1) rfl (congrArg (fun z=>some (Value.int .i64 z)) (by omega)) (by omega)) rfl ?_))
  refine SW.ah ?_;refine SF.take 15 [16] [16] aG rfl (by kernel_rfl) (by kernel_rfl) (by kernel_rfl) ?_;repeat ((show SW _ _ _ _ (⟨_,Op.indexAddr _ _ _,_,_,_,none⟩::_) _ _;refine SW.st (bj rfl rfl (by assumption) (by omega)) rfl ?_))
  refine SW.ah ?_;refine SF.take 16 [] [] aG rfl (by kernel_rfl) (by kernel_rfl) (by kernel_rfl) ?_;repeat ((show SW _ _ _ _ (⟨_,Op.fieldAddr _ _ _,_,_,_,none⟩::_) _ _;refine SW.st (aC rfl) rfl ?_))
  refine SW.ah ?_;refine SF.last rfl (by kernel_rfl) (by kernel_rfl) ?_;refine SW.gH kp 3 ⟨y.dL,y.aq,y.Ty,⟨y.aw.A,y.aw.n-1,y.aw.c⟩⟩ H.ls.row rfl rfl rfl bY (by decide) rfl (by rw [hy];rfl) fun w6 fJ wh => ?_
  have LZ:ob (⟨y.dL,y.aq,y.Ty,⟨y.aw.A,y.aw.n-1,y.aw.c⟩⟩ : bL).aw=ob (p.ls[kp]'ns).aw:=by rw [hy];rfl
  have pM:=hP.pre (i:=y.aw.n-1) (by omega);have NE:oD.take (y.aw.n-1)=oD.dropLast:=by rw [List.dropLast_eq_take,sB]
  rw [NE] at pM;have H6:=HS.setRow (y:=⟨y.dL,y.aq,y.Ty,⟨y.aw.A,y.aw.n-1,y.aw.c⟩⟩) (l:=dk x oD.dropLast) H ns fJ wh ⟨pc.trans lT.1,pz.trans lT.2.1,pt.trans lT.2.2,pM⟩ LZ;have K6:kW w k p w6 ⟨p.u0,p.u1,p.li,p.ls.set kp ⟨y.dL,y.aq,y.Ty,⟨y.aw.A,y.aw.n-1,y.aw.c⟩⟩⟩:=K0.step wh (fun i e => .inl (.inr (.inr (.inl e)))) (fun i e => .inl (C4 ns LZ e))
  by_cases h1:y.aw.n=1
  ·have eL:re L x oD=(L.set kp (dk x oD.dropLast)).eraseIdx kp:=by rw [yU (by omega),qJ,List.eraseIdx_set_eq]
   obtain ⟨p6,L0⟩ : ∃ p6:HP,p6=⟨p.u0,p.u1,p.li,p.ls.set kp ⟨y.dL,y.aq,y.Ty,⟨y.aw.A,y.aw.n-1,y.aw.c⟩⟩⟩:=⟨_,rfl⟩;have L2:p6.li=p.li:=by rw [L0]
   rw [← L0] at H6 K6;have KE:kp<p6.li.n:=by rw [L2];exact bY
   clear hw;have hw:=Ext.refl w6;repeat' (first|refine Wy ?_|refine SW.st (ak rfl (H6.cU.cell (i:=3) (v := .slice p6.li.A p6.li.n p6.li.c) rfl)) rfl ?_)
   refine SW.cV rfl rfl (te p6.li.A p6.li.n p6.li.c wb.heap.size p6.ls _ H6.ls.row kp KE (by rw [L2];omega) H6.low) fun v w7 KF => ?_
   obtain ⟨rfl,NF,KG⟩:=KF;have jS:=H6.cU.ay (H6.ls.yW KG) rfl;repeat' (first|refine Wy ?_|fail);refine SW.bB (i:=3) jS rfl rfl rfl rfl fun w8 bu zZ => ?_
   have H8:=HS.Gw H6 NF KG bu zZ;have K7:=K6.step (p':=p6) KG (fun i e => .inl (.inr (.inr (.inl e)))) (fun i e => .inl e);have K8:=K7.step zZ (fun i e=>by cases e;exact .inl (.inl rfl)) (fun i e => .inl (C5 (i:=kp) e));repeat' (first|refine Wy ?_|fail);exact ae.cu rfl rfl rfl ⟨_,rfl,_,ud,rfl,_,by simp only [Bf,eL];exact H8,K8⟩
  ·have eL:re L x oD=L.set kp (dk x oD.dropLast):=by rw [CY (by omega),qJ]
   repeat' (first|refine Wy ?_|fail);exact ae.cu rfl rfl rfl ⟨_,rfl,_,ud,rfl,_,by simp only [Bf,eL];exact H6,K6⟩
open Go.RowKit
theorem qj:∀ (vs X Y Z:List Value),vs.length=Y.length→setAt (X++Y++Z) X.length vs=X++vs++Z
 | [],X,Y,Z,h=>by
   have:Y=[]:=List.length_eq_zero_iff.1 (by simpa using h.symm)
   subst this;rfl
 | v::r,X,[],Z,h=>by simp at h
 | v::r,X,y::Y,Z,h=>by
   have e:=qj r (X++[v]) Y Z (by simpa using h);simp only [List.length_append,List.length_singleton] at e;simp only [setAt]
   have e2:(X++(y::Y)++Z).set X.length v=X++[v]++Y++Z:=by
    rw [List.append_assoc,List.set_append_right _ _ (Nat.le_refl _)];simp
   rw [e2,e];simp
theorem C6 {sz:Nat} {u v:Value} {cs ds Z:List Value} (hu:u.cells.toList=cs) (hv:v.cells.toList=ds) (hc:cs.length=sz) (hd:ds.length=sz) (hZ:Z.length=2*sz) :
 Instr.fill (fun i=>some (i*sz,sz)) Z.toArray [(0,u),(1,v)]=some (cs++ds).toArray:=by
 have h1:u.cells.size=sz:=by rw [← Array.length_toList,hu,hc]
 have h2:v.cells.size=sz:=by rw [← Array.length_toList,hv,hd]
 have eZ:Z=[]++Z.take sz++Z.drop sz:=by simp
 have s1:setAt Z 0 cs=cs++Z.drop sz:=by
  have:=qj cs [] (Z.take sz) (Z.drop sz) (by simp;omega)
  rw [← eZ] at this;simpa using this
 have s2:setAt (cs++Z.drop sz) sz ds=cs++ds:=by
  have:=qj ds cs (Z.drop sz) [] (by simp;omega)
  rw [List.append_nil,hc] at this;simpa using this
 have fold:∀ (x:Value) (off:Nat) (X:List Value),Array.foldl (fun (cs:Array Value) (p:Value×Nat)=>cs.setIfInBounds (off+p.2) p.1) X.toArray x.cells.zipIdx=(setAt X off x.cells.toList).toArray:=fun x off X=>by
  have:=nZ x.cells.toList 0 off X
  rw [Nat.add_zero] at this;rw [← this,← Array.foldl_toList];simp [Array.toList_zipIdx]
 simp only [Instr.fill];rw [if_neg (by simp;omega)];have f1:=fold u (0*sz) Z;rw [hu,Nat.zero_mul,s1] at f1;have f2:=fold v (1*sz) (cs++Z.drop sz);rw [hv,Nat.one_mul,s2] at f2;simp only [Nat.zero_mul,Nat.one_mul] at f1 f2 ⊢;simp only [f1,f2];rw [if_neg (by simp;omega)]
theorem SW.vU {α:Type} {P:Program} {n:Nat} {ops:Array Oper} {Q:Exit→Act→World→Prop} {rest:List Oper} {L:Env} {w:World} {d:Nat} {T:TypeId} {pos:String} {af:Array Edge} {t e:TypeId} {z:Value} {sz bytes:Nat} {enc : α → List Value}
 [S:bw P t e sz] [E:dg P e z sz bytes] [C:fB enc sz] {x y:Operand} {u v:Value} (a b : α) (hx:ca L x=some u) (hy:ca L y=some v) (hu:u.cells.toList=enc a) (hv:v.cells.toList=enc b) (hs:Nat.ble sz 1000=true)
 (hn:Nat.blt d n=true) (h:∀ g w',Ext w w'→w.heap.size≤g→Own w' w.heap.size e sz enc (some ⟨g,0,none⟩) 2 2 [a,b]→SW P n ops (.fr Q) rest ((d,.slice (some ⟨g,0,none⟩) 2 2)::L) w') :
 SW P n ops (.fr Q) (⟨some d,.buildSlice t 2 #[(0,x),(1,y)],T,pos,af,none⟩::rest) L w :=
 ⟨fun q hq=>by
  obtain ⟨i,hi,hz,js,uj⟩:=dK P e (z:=z) (sz:=sz) (bytes:=bytes);have hle:sz≤1000:=by simpa using hs
  have hp : 0<sz:=E.pos
  simp only [swp];refine wpList_buildSlice rfl t e 2 _ rfl (enc a++enc b).toArray i z S.ko hi hz (by rw [js];omega) (by rw [js];omega) ?_ ?_
  ·have e1:(Array.map (fun (p:Nat×Operand)=>(p.1,q.eval p.2)) #[(0,x),(1,y)]).toList=[(0,u),(1,v)]:=by
    simp [hq.eval hx,hq.eval hy]
   have e2:∀ X:Array Value,X=X.toList.toArray:=fun X=>rfl
   rw [e1,e2 (Array.map _ (Array.range _)),js];exact C6 hu hv (C.len a) (C.len b) (by simp)
  ·refine (h w.heap.size _ (Ext.alloc w _) (Nat.le_refl _) ⟨rfl,.inr ⟨by omega,w.heap.size,_,rfl,Nat.le_refl _,aJ.new w e (enc a++enc b),Nat.le_refl _,by simp only [maxLen];omega,by simp [C.len];omega,?_⟩⟩).out _ (hq.put hn _);simp only [List.flatMap_cons,List.flatMap_nil,List.append_nil];exact List.take_of_length_le (by simp [C.len];omega)⟩
open Go.RowKit
theorem kW.EC {α:Type} {w0 w:World} {k:HK} {p0 p:HP} (h:kW w0 k p0 w p) {lo:Nat} {e:TypeId} {sz:Nat} {enc : α → List Value} {A:Option Addr} {n c:Nat} {l:List α} (hO:Own w0 lo e sz enc A n c l) (hn:∀ g,aT A c=some g → ¬ gC k p0 g) : Own w lo e sz enc A n c l:=by
 have c9:=hO.lt_size;refine ⟨hO.len,?_⟩;rcases hO.row with h1|⟨hc,g,ga,rfl,h1,h2,h3⟩
 ·exact .inl h1
 ·have hg:aT (some (⟨g,0,none⟩ : Addr)) c=some g:=by simp [aT,Nat.pos_iff_ne_zero.1 hc]
  exact .inr ⟨hc,g,ga,rfl,h1,by rw [h.block g (c9 g hg) (hn g hg)];exact h2,h3⟩
def NG (L:List aB) : Option ((aq×aq)×Int)→Option ((aq×aq)×List aB×Int)
 | none=>none
 | some q=>some (q.1,L,q.2)
theorem Fi.uC {m0 m1 cpu:Int} {s:aq×aq} {zi o t f:Int} {q:Option ((aq×aq)×Int)} {L:List aB} (h:Fi m0 m1 s zi o t f q) (ho : 0<o) : ij m0 m1 cpu zi o t f s L (NG L q):=by
 have k6 : ¬ (o=0∧bT L ⟨cpu,zi,t,[]⟩=true):=fun h=>by omega
 cases h with
 | jO he=>exact .jO k6 he
 | none he ht hu=>exact .none k6 he ht hu
 | ok he ht hu=>exact .uC ho he ht hu
theorem pq {m0 m1 cpu o t f:Int} {s:aq×aq} {L:List aB} {zl:List Int} {j:Nat} {r:(aq×aq)×List aB×Int} (hz:(zl=[1,0]∧f % 2=0)∨(zl=[0]∧f % 2=1)) (hj:j<zl.length) (hb:∀ (i:Nat) (h:i<zl.length),i<j→ij m0 m1 cpu zl[i] o t f s L none) (h:ij m0 m1 cpu zl[j] o t f s L (some r)) : ik m0 m1 cpu o t f s L (some r):=by
 rcases hz with ⟨rfl,hf⟩|⟨rfl,hf⟩
 ·have ul:j<2:=hj
  rcases Nat.lt_or_ge j 1 with h1|h1
  ·obtain rfl:j=0:=by omega
   exact .vr hf h
  ·obtain rfl:j=1:=by omega
   exact .low (fun _=>hb 0 (by simp) (by omega)) h
 ·have ul:j<1:=hj
  obtain rfl:j=0:=by omega
  exact .low (fun e=>by omega) h
theorem xC {m0 m1 cpu o t f:Int} {s:aq×aq} {L:List aB} {zl:List Int} (hz:(zl=[1,0]∧f % 2=0)∨(zl=[0]∧f % 2=1)) (hb:∀ (i:Nat) (h:i<zl.length),ij m0 m1 cpu zl[i] o t f s L none) : ik m0 m1 cpu o t f s L none:=by
 rcases hz with ⟨rfl,hf⟩|⟨rfl,hf⟩
 ·exact .low (fun _=>hb 0 (by simp)) (hb 1 (by simp))
 ·exact .low (fun e=>by omega) (hb 0 (by simp))
abbrev NH (g:Nat) : Option Addr:=some ⟨g,0,none⟩
abbrev NI (g:Nat) : Option Addr:=if 2=1 then some ⟨g,0,none⟩ else (some (⟨g,0,none⟩ : Addr)).map (·.add (1*1))
set_option maxHeartbeats 4000000 in
theorem qK (k:HK) (p:HP) (s:aq×aq) (L:List aB) (m0 m1 cpu o t f:Int) (wb w:World) (H:HS wb w k p s L) (hO:oZ wb) (hM:nV k.M m0 m1) (hv:VS s) (hs:rz L) (zR:∀ l∈L,1≤l.aw.length∧l.aw.length≤8) (vQ:L.length≤256) (ho : 0≤o∧o≤4) (hf : 0≤f∧f≤15) :
 gL Tryz.prog 103 [.pointer (some ⟨k.b,0,none⟩),.int .i64 cpu,.int .i64 o,.int .i64 t,.int .i64 f] w fun v w' => ∃ q,ik m0 m1 cpu o t f s L q∧v=LX q ∧ ∃ p',HS wb w' k p' (C3 s q) (Bf L q)∧kW w k p w' p':=by
 refine dw Tryz.func103 rfl Tryz.ntmps103 rfl ?_;have hw:=Ext.refl w;obtain ⟨q1,q2,q4,q8⟩:=nz hf;have IE:∀ i,w.heap.size≤i → ¬ gC k p i:=fun i hi=>H.not hi
 have K0:=kW.refl w k p;refine Wz ?_;refine SW.vU (enc:=bh) 1 0 rfl rfl rfl rfl rfl rfl fun g w2 tH L4 hZ => ?_
 (replace hw:=Ext.trans hw tH;replace H:=H.ext tH;replace K0:=K0.ext tH);have hn:∀ j,aT (some (⟨g,0,none⟩ : Addr)) 2=some j → ¬ gC k p j:=fun j e=>IE j (by simp [aT] at e;omega)
 obtain ⟨lo,fC⟩ : ∃ lo,w.heap.size=lo:=⟨_,rfl⟩;rw [fC] at hZ;clear IE fC;rcases (show f % 2=0∨f % 2=1 by omega) with Hm|Hm
 ·obtain ⟨zl,Ap⟩ : ∃ zl:List Int,zl=[1,0]:=⟨_,rfl⟩;have ED:(zl=[1,0]∧f % 2=0)∨(zl=[0]∧f % 2=1):=by rw [Ap];exact .inl ⟨rfl,Hm⟩
  obtain ⟨A,hA⟩ : ∃ A:Option Addr,A=(NH g):=⟨_,rfl⟩
  have KH:∀ w',Own w' lo 3 1 bh (some ⟨g,0,none⟩) 2 2 [1,0]→Sl w' 1 bh A 2 zl:=fun w' h=>by
   rw [Ap,hA]
   first|exact h.sl|exact h.sl.drop 1 2 (by decide) (by decide)
  have CH:zl.length=2:=by rw [Ap];rfl
  have lV:∀ (j:Nat) (hj:j<zl.length),∃ zi:Nat,zl[j]=(zi:Int)∧zi<2:=fun j hj=>by
   rcases ED with ⟨rfl,_⟩|⟨rfl,_⟩
   ·have ul:j<2:=hj
    rcases Nat.lt_or_ge j 1 with h1|h1
    ·obtain rfl:j=0:=by omega
     exact ⟨1,rfl,by omega⟩
    ·obtain rfl:j=1:=by omega
     exact ⟨0,rfl,by omega⟩
   ·have ul:j<1:=hj
    obtain rfl:j=0:=by omega
    exact ⟨0,rfl,by omega⟩
  repeat' (first|refine Wz ?_|(refine SW.st (rF rfl rfl (by omega) (by decide)) rfl ?_))
  all_goals try omega
  refine CW.loop (fun u:Nat×HP=>[(0,.pointer (some ⟨k.b,0,none⟩)),(1,.int .i64 cpu),(2,.int .i64 o),(3,.int .i64 t),(4,.int .i64 f),(23,.slice A 2 2),(24,.int .i64 ((2:Nat) : Int)),(25,.int .i64 (u.1:Int))])
   (fun u w'=>u.1≤zl.length∧HS wb w' k u.2 s L∧kW w k p w' u.2∧Own w' lo 3 1 bh (some ⟨g,0,none⟩) 2 2 [1,0]∧(∀ j,aT (some (⟨g,0,none⟩ : Addr)) 2=some j → ¬ gC k u.2 j) ∧ ∀ (i:Nat) (h:i<zl.length),i<u.1→ij m0 m1 cpu zl[i] o t f s L none) (fun u=>zl.length-u.1) (0,p)
   ⟨rfl,rfl,rfl,rfl,rfl,by rw [hA];rfl,rfl,rfl,trivial⟩ ⟨by simp,H,K0,hZ,hn,fun i h h'=>by simp at h'⟩ ?_
  clear hw hZ H K0 hn;rintro ⟨j,p6⟩ w' ⟨hj,H,K0,hZ,hn,hb⟩
  simp only at hj H K0 hn hb ⊢;have hw:=Ext.refl w';have hS:=KH _ hZ;have NJ:=hS.base;by_cases c9:j<zl.length
  ·obtain ⟨zi,iM,C7⟩:=lV j c9;have KI:j<2:=by omega
   have fz:=hS.one KI (congrArg bh iM);by_cases Fm:o=0
   ·repeat' (first|refine Wz ?_|refine SW.st (ak rfl fz) rfl ?_)
    subst Fm;refine SW.cV rfl rfl (tf k p6 s L m0 m1 cpu zi t f wb _ H hO hM hv hs zR vQ C7 hf) fun v w5 sO => ?_
    obtain ⟨q5,hT,rfl,p5,H5,K5⟩:=sO;have GA:=K5.EC hZ hn;have Bg:∀ i,aT (some (⟨g,0,none⟩ : Addr)) 2=some i → ¬ gC k p5 i:=fun i e=>K5.not (hn i e) (hZ.lt_size i e)
    replace K5:=K0.trans K5;clear hw;have hw:=Ext.refl w5;rw [← iM] at hT;cases q5 with
    | none =>
      repeat' (first|refine Wz ?_|(refine CW.bA rfl ?_))
      exact ae.again (j+1,p5) ⟨rfl,rfl,rfl,rfl,rfl,rfl,rfl,rfl,trivial⟩ (by simp only;omega) ⟨by simp only;omega,H5,K5,GA,Bg,fun i h h'=>by
       by_cases e:i=j
       ·subst e;exact hT
       ·exact hb i h (by simp only at h';omega)⟩
    | some q5 =>
      repeat' (first|refine Wz ?_|(refine CW.bF rfl ?_))
      exact ae.cu rfl rfl rfl ⟨_,rfl,_,pq ED c9 hb hT,rfl,p5,H5,K5⟩
   ·repeat' (first|refine Wz ?_|refine SW.st (ak rfl fz) rfl ?_)
    refine SW.cV rfl rfl (pp k p6 s L m0 m1 zi o t f wb _ H (hO.ext H.base) hM hv C7 ho hf) fun v w5 sO => ?_
    obtain ⟨q5,hT,rfl,p5,H5,K5⟩:=sO;have GA:=K5.EC hZ hn;have Bg:∀ i,aT (some (⟨g,0,none⟩ : Addr)) 2=some i → ¬ gC k p5 i:=fun i e=>K5.not (hn i e) (hZ.lt_size i e)
    replace K5:=K0.trans K5;clear hw;have hw:=Ext.refl w5;have hT:=hT.uC (cpu:=cpu) (L:=L) (by omega);rw [← iM] at hT;cases q5 with
    | none =>
      repeat' (first|refine Wz ?_|(refine CW.bA rfl ?_))
      exact ae.again (j+1,p5) ⟨rfl,rfl,rfl,rfl,rfl,rfl,rfl,rfl,trivial⟩ (by simp only;omega) ⟨by simp only;omega,H5,K5,GA,Bg,fun i h h'=>by
       by_cases e:i=j
       ·subst e;exact hT
       ·exact hb i h (by simp only at h';omega)⟩
    | some q5 =>
      repeat' (first|refine Wz ?_|(refine CW.bF rfl ?_))
      exact ae.cu rfl rfl rfl ⟨_,rfl,_,pq ED c9 hb hT,rfl,p5,H5,K5⟩
  ·refine Wz ?_;exact ae.cu rfl rfl rfl ⟨_,rfl,none,xC ED (fun i h=>hb i h (by omega)),rfl,p6,H,K0⟩
 ·obtain ⟨zl,Ap⟩ : ∃ zl:List Int,zl=[0]:=⟨_,rfl⟩;have ED:(zl=[1,0]∧f % 2=0)∨(zl=[0]∧f % 2=1):=by rw [Ap];exact .inr ⟨rfl,Hm⟩
  obtain ⟨A,hA⟩ : ∃ A:Option Addr,A=(NI g):=⟨_,rfl⟩
  have KH:∀ w',Own w' lo 3 1 bh (some ⟨g,0,none⟩) 2 2 [1,0]→Sl w' 1 bh A (2-1) zl:=fun w' h=>by
   rw [Ap,hA]
   first|exact h.sl|exact h.sl.drop 1 2 (by decide) (by decide)
  have CH:zl.length=(2-1):=by rw [Ap];rfl
  have lV:∀ (j:Nat) (hj:j<zl.length),∃ zi:Nat,zl[j]=(zi:Int)∧zi<2:=fun j hj=>by
   rcases ED with ⟨rfl,_⟩|⟨rfl,_⟩
   ·have ul:j<2:=hj
    rcases Nat.lt_or_ge j 1 with h1|h1
    ·obtain rfl:j=0:=by omega
     exact ⟨1,rfl,by omega⟩
    ·obtain rfl:j=1:=by omega
     exact ⟨0,rfl,by omega⟩
   ·have ul:j<1:=hj
    obtain rfl:j=0:=by omega
    exact ⟨0,rfl,by omega⟩
  repeat' (first|refine Wz ?_|(refine SW.st (rF rfl rfl (by omega) (by decide)) rfl ?_)|(refine SW.st (bg (k:=1) rfl rfl (by omega) (by omega)) rfl ?_))
  all_goals try omega
  refine CW.loop (fun u:Nat×HP=>[(0,.pointer (some ⟨k.b,0,none⟩)),(1,.int .i64 cpu),(2,.int .i64 o),(3,.int .i64 t),(4,.int .i64 f),(23,.slice A (2-1) (2-1)),(24,.int .i64 (((2-1) : Nat) : Int)),(25,.int .i64 (u.1:Int))])
   (fun u w'=>u.1≤zl.length∧HS wb w' k u.2 s L∧kW w k p w' u.2∧Own w' lo 3 1 bh (some ⟨g,0,none⟩) 2 2 [1,0]∧(∀ j,aT (some (⟨g,0,none⟩ : Addr)) 2=some j → ¬ gC k u.2 j) ∧ ∀ (i:Nat) (h:i<zl.length),i<u.1→ij m0 m1 cpu zl[i] o t f s L none) (fun u=>zl.length-u.1) (0,p)
   ⟨rfl,rfl,rfl,rfl,rfl,by rw [hA];rfl,rfl,rfl,trivial⟩ ⟨by simp,H,K0,hZ,hn,fun i h h'=>by simp at h'⟩ ?_
  clear hw hZ H K0 hn;rintro ⟨j,p6⟩ w' ⟨hj,H,K0,hZ,hn,hb⟩
  simp only at hj H K0 hn hb ⊢;have hw:=Ext.refl w';have hS:=KH _ hZ;have NJ:=hS.base;by_cases c9:j<zl.length
  ·obtain ⟨zi,iM,C7⟩:=lV j c9;have KI:j<(2-1):=by omega
   have fz:=hS.one KI (congrArg bh iM);by_cases Fm:o=0
   ·repeat' (first|refine Wz ?_|refine SW.st (ak rfl fz) rfl ?_)
    subst Fm;refine SW.cV rfl rfl (tf k p6 s L m0 m1 cpu zi t f wb _ H hO hM hv hs zR vQ C7 hf) fun v w5 sO => ?_
    obtain ⟨q5,hT,rfl,p5,H5,K5⟩:=sO;have GA:=K5.EC hZ hn;have Bg:∀ i,aT (some (⟨g,0,none⟩ : Addr)) 2=some i → ¬ gC k p5 i:=fun i e=>K5.not (hn i e) (hZ.lt_size i e)
    replace K5:=K0.trans K5;clear hw;have hw:=Ext.refl w5;rw [← iM] at hT;cases q5 with
    | none =>
      repeat' (first|refine Wz ?_|(refine CW.bA rfl ?_))
      exact ae.again (j+1,p5) ⟨rfl,rfl,rfl,rfl,rfl,rfl,rfl,rfl,trivial⟩ (by simp only;omega) ⟨by simp only;omega,H5,K5,GA,Bg,fun i h h'=>by
       by_cases e:i=j
       ·subst e;exact hT
       ·exact hb i h (by simp only at h';omega)⟩
    | some q5 =>
      repeat' (first|refine Wz ?_|(refine CW.bF rfl ?_))
      exact ae.cu rfl rfl rfl ⟨_,rfl,_,pq ED c9 hb hT,rfl,p5,H5,K5⟩
   ·repeat' (first|refine Wz ?_|refine SW.st (ak rfl fz) rfl ?_)
    refine SW.cV rfl rfl (pp k p6 s L m0 m1 zi o t f wb _ H (hO.ext H.base) hM hv C7 ho hf) fun v w5 sO => ?_
    obtain ⟨q5,hT,rfl,p5,H5,K5⟩:=sO;have GA:=K5.EC hZ hn;have Bg:∀ i,aT (some (⟨g,0,none⟩ : Addr)) 2=some i → ¬ gC k p5 i:=fun i e=>K5.not (hn i e) (hZ.lt_size i e)
    replace K5:=K0.trans K5;clear hw;have hw:=Ext.refl w5;have hT:=hT.uC (cpu:=cpu) (L:=L) (by omega);rw [← iM] at hT;cases q5 with
    | none =>
      repeat' (first|refine Wz ?_|(refine CW.bA rfl ?_))
      exact ae.again (j+1,p5) ⟨rfl,rfl,rfl,rfl,rfl,rfl,rfl,rfl,trivial⟩ (by simp only;omega) ⟨by simp only;omega,H5,K5,GA,Bg,fun i h h'=>by
       by_cases e:i=j
       ·subst e;exact hT
       ·exact hb i h (by simp only at h';omega)⟩
    | some q5 =>
      repeat' (first|refine Wz ?_|(refine CW.bF rfl ?_))
      exact ae.cu rfl rfl rfl ⟨_,rfl,_,pq ED c9 hb hT,rfl,p5,H5,K5⟩
  ·refine Wz ?_;exact ae.cu rfl rfl rfl ⟨_,rfl,none,xC ED (fun i h=>hb i h (by omega)),rfl,p6,H,K0⟩
open Go.RowKit
theorem Bh (k:HK) (p:HP) (s:aq×aq) (L:List aB) (bs:List Block) (b:Block) (wb w:World) (H:HS wb w k p s L) (hD:nF s bs) (hN:qx bs b) :
 gL Tryz.prog 123 [.pointer (some ⟨k.b,0,none⟩),.int .i64 b.At,.int .i64 b.Order] w fun v w' => ∃ p',p'.li=p.li∧p'.ls=p.ls∧HS wb w' k p' (iA s b) L∧kW w k p w' p':=by
 refine dw Tryz.func123 rfl Tryz.ntmps123 rfl ?_;have hw:=Ext.refl w;have H0:=H;have eT:=H.zs.z0.jZ;obtain ⟨q1,q2,q3,q4⟩:=kF H.zs.z0 hD.nG;obtain ⟨p1,p2,p3,p4⟩:=kF H.zs.z1 hD.ms;have hA:=H.zs.row.sl.base;have cz:∀ w',Sl w' 4 bo (some ⟨k.g,0,none⟩) 2 [p.u0,p.u1]→bt Tryz.prog 97 [.agg (bm (k.h p)).toArray,.int .i64 b.At] w' fun v _=>v = .int .i64 (if b.At<p.u0.To then 0 else 1):=fun w' h=>AA (k.h p) p.u0 p.u1 b.At w' h
 by_cases hx:b.At<p.u0.To
 ·have eP:iA s b=kU s ((0:Nat) : Int) (iJ s.1 b.At b.Order).2:=by unfold iA;rw [if_pos (by omega)];simp [kU]
  simp only [if_pos hx] at cz;have k0 : 0<2:=by omega
  repeat' (first|refine Wz ?_|refine SW.st (aX rfl rfl ((fun _ _=>H.cU.cell))) rfl ?_|(refine SW.call rfl rfl (cz _ H.zs.row.sl) ?_;intro v w1 ab hv;subst hv;replace hw:=Ext.trans hw ab;replace H:=H.ext ab;clear ab))
  refine CW.iO 19 19 (fun _=>True) mixed (by kernel_rfl) fun w1 ab aG => ?_
  replace hw:=Ext.trans hw ab;replace H:=H.ext ab;clear ab;refine SF.take 0 [] [] aG rfl (by kernel_rfl) (by kernel_rfl) (by kernel_rfl) ?_;repeat (refine SW.pure rfl rfl ?_)
  refine SW.ah ?_;refine SF.take 1 [] [] aG rfl (by kernel_rfl) (by kernel_rfl) (by kernel_rfl) ?_;repeat ((show SW _ _ _ _ (⟨_,Op.nilCheck _,_,_,_,none⟩::_) _ _;refine SW.st (aI rfl) rfl ?_))
  refine SW.ah ?_;refine SF.take 2 [] [] aG rfl (by kernel_rfl) (by kernel_rfl) (by kernel_rfl) ?_;repeat ((show SW _ _ _ _ (⟨_,Op.fieldAddr _ _ _,_,_,_,none⟩::_) _ _;refine SW.st (aC rfl) rfl ?_))
  refine SW.ah ?_;refine SF.take 3 [] [] aG rfl (by kernel_rfl) (by kernel_rfl) (by kernel_rfl) ?_;repeat ((show SW _ _ _ _ (⟨_,Op.load _ _,_,_,_,none⟩::_) _ _;refine SW.st (ak rfl (H.cU.cell rfl)) rfl ?_))
  refine SW.ah ?_;refine SF.take 4 [] [] aG rfl (by kernel_rfl) (by kernel_rfl) (by kernel_rfl) ?_;repeat (refine SW.pure rfl rfl ?_)
  refine SW.ah ?_;refine SF.take 5 [] [] aG rfl (by kernel_rfl) (by kernel_rfl) (by kernel_rfl) ?_;repeat (refine SW.pure rfl rfl ?_)
  refine SW.ah ?_;refine SF.take 6 [] [] aG rfl (by kernel_rfl) (by kernel_rfl) (by kernel_rfl) ?_;repeat ((show SW _ _ _ _ (⟨_,Op.nilCheck _,_,_,_,none⟩::_) _ _;refine SW.st (aI rfl) rfl ?_))
  refine SW.ah ?_;refine SF.take 7 [] [] aG rfl (by kernel_rfl) (by kernel_rfl) (by kernel_rfl) ?_;repeat ((show SW _ _ _ _ (⟨_,Op.fieldAddr _ _ _,_,_,_,none⟩::_) _ _;refine SW.st (aC rfl) rfl ?_))
  refine SW.ah ?_;refine SF.take 8 [] [] aG rfl (by kernel_rfl) (by kernel_rfl) (by kernel_rfl) ?_;repeat ((show SW _ _ _ _ (⟨_,Op.load _ _,_,_,_,none⟩::_) _ _;refine SW.st (ak rfl (H.cU.cell rfl)) rfl ?_))
  refine SW.ah ?_;refine SF.take 9 [] [] aG rfl (by kernel_rfl) (by kernel_rfl) (by kernel_rfl) ?_;repeat (refine SW.pure rfl rfl ?_)
  refine SW.ah ?_;refine SF.take 10 [] [] aG rfl (by kernel_rfl) (by kernel_rfl) (by kernel_rfl) ?_;repeat ((show SW _ _ _ _ (⟨_,Op.indexAddr _ _ _,_,_,_,none⟩::_) _ _;refine SW.st (bj rfl rfl (by assumption) (by omega)) rfl ?_))
  refine SW.ah ?_;refine SF.take 11 [] [] aG rfl (by kernel_rfl) (by kernel_rfl) (by kernel_rfl) ?_;repeat ((show SW _ _ _ _ (⟨_,Op.load _ _,_,_,_,none⟩::_) _ _;refine SW.st (aX rfl rfl ((H.zs.row.sl.all k0))) rfl ?_))
  refine SW.ah ?_;refine SF.take 12 [] [] aG rfl (by kernel_rfl) (by kernel_rfl) (by kernel_rfl) ?_;repeat (refine SW.pure rfl rfl ?_)
  refine SW.ah ?_;refine SF.take 13 [] [] aG rfl (by kernel_rfl) (by kernel_rfl) (by kernel_rfl) ?_;repeat (refine SW.pure rfl rfl ?_)
  refine SW.ah ?_;refine SF.one 14 rfl (by kernel_rfl) rfl ?_;refine SW.call rfl rfl (uq p.u0 s.1 b.At b.Order _ H.zs.z0.rd q1 q2 ⟨by omega,by omega⟩ ⟨by omega,by omega⟩) fun v w4 aj hv => ?_
  obtain ⟨u',rfl,js⟩:=hv;replace js:=js.low hw.size;(replace hw:=Ext.trans hw aj;replace H:=H.ext aj);refine SW.nil (ae.sf aj ?_);refine SF.take 15 [] [] aG rfl (by kernel_rfl) (by kernel_rfl) (by kernel_rfl) ?_;repeat (refine SW.pure rfl rfl ?_)
  refine SW.ah ?_;refine SF.take 16 [] [] aG rfl (by kernel_rfl) (by kernel_rfl) (by kernel_rfl) ?_;repeat (refine SW.pure rfl rfl ?_)
  refine SW.ah ?_;refine SF.jD 17 aG rfl (by kernel_rfl) (by kernel_rfl) rfl (fun _=>bc rfl) rfl ?_;refine SF.take 18 [] [] aG rfl (by kernel_rfl) (by kernel_rfl) (by kernel_rfl) ?_;repeat ((show SW _ _ _ _ (⟨_,Op.indexAddr _ _ _,_,_,_,none⟩::_) _ _;refine SW.st (bj rfl rfl (by assumption) (by omega)) rfl ?_))
  refine SW.ah ?_;refine SF.last rfl (by kernel_rfl) (by kernel_rfl) ?_;refine SW.ib (enc:=bo) 0 u' H.zs.row rfl rfl k0 fun w5 C2 hg => ?_
  rw [H.zs.own] at hg;have H5:=HS.Ba H0 H k0 C2 hg js;have hK:kW w k p w5 (kh p 0 u'):=((kW.refl w k p).ext hw).step hg (fun i e=>by cases e;exact .inl (.inr (.inl rfl))) (fun i e => .inl (qi.1 e))
  refine Wz ?_;exact ae.x8 rfl ⟨_,rfl,kh p 0 u',jh.1,jh.2,by rw [eP];exact H5,hK⟩
 ·have eP:iA s b=kU s ((1:Nat) : Int) (iJ s.2 b.At b.Order).2:=by unfold iA;rw [if_neg (by omega)];simp [kU]
  simp only [if_neg hx] at cz;have k0 : 1<2:=by omega
  repeat' (first|refine Wz ?_|refine SW.st (aX rfl rfl ((fun _ _=>H.cU.cell))) rfl ?_|(refine SW.call rfl rfl (cz _ H.zs.row.sl) ?_;intro v w1 ab hv;subst hv;replace hw:=Ext.trans hw ab;replace H:=H.ext ab;clear ab))
  refine CW.iO 19 19 (fun _=>True) mixed (by kernel_rfl) fun w1 ab aG => ?_
  replace hw:=Ext.trans hw ab;replace H:=H.ext ab;clear ab;refine SF.take 0 [] [] aG rfl (by kernel_rfl) (by kernel_rfl) (by kernel_rfl) ?_;repeat (refine SW.pure rfl rfl ?_)
  refine SW.ah ?_;refine SF.take 1 [] [] aG rfl (by kernel_rfl) (by kernel_rfl) (by kernel_rfl) ?_;repeat ((show SW _ _ _ _ (⟨_,Op.nilCheck _,_,_,_,none⟩::_) _ _;refine SW.st (aI rfl) rfl ?_))
  refine SW.ah ?_;refine SF.take 2 [] [] aG rfl (by kernel_rfl) (by kernel_rfl) (by kernel_rfl) ?_;repeat ((show SW _ _ _ _ (⟨_,Op.fieldAddr _ _ _,_,_,_,none⟩::_) _ _;refine SW.st (aC rfl) rfl ?_))
  refine SW.ah ?_;refine SF.take 3 [] [] aG rfl (by kernel_rfl) (by kernel_rfl) (by kernel_rfl) ?_;repeat ((show SW _ _ _ _ (⟨_,Op.load _ _,_,_,_,none⟩::_) _ _;refine SW.st (ak rfl (H.cU.cell rfl)) rfl ?_))
  refine SW.ah ?_;refine SF.take 4 [] [] aG rfl (by kernel_rfl) (by kernel_rfl) (by kernel_rfl) ?_;repeat (refine SW.pure rfl rfl ?_)
  refine SW.ah ?_;refine SF.take 5 [] [] aG rfl (by kernel_rfl) (by kernel_rfl) (by kernel_rfl) ?_;repeat (refine SW.pure rfl rfl ?_)
  refine SW.ah ?_;refine SF.take 6 [] [] aG rfl (by kernel_rfl) (by kernel_rfl) (by kernel_rfl) ?_;repeat ((show SW _ _ _ _ (⟨_,Op.nilCheck _,_,_,_,none⟩::_) _ _;refine SW.st (aI rfl) rfl ?_))
  refine SW.ah ?_;refine SF.take 7 [] [] aG rfl (by kernel_rfl) (by kernel_rfl) (by kernel_rfl) ?_;repeat ((show SW _ _ _ _ (⟨_,Op.fieldAddr _ _ _,_,_,_,none⟩::_) _ _;refine SW.st (aC rfl) rfl ?_))
  refine SW.ah ?_;refine SF.take 8 [] [] aG rfl (by kernel_rfl) (by kernel_rfl) (by kernel_rfl) ?_;repeat ((show SW _ _ _ _ (⟨_,Op.load _ _,_,_,_,none⟩::_) _ _;refine SW.st (ak rfl (H.cU.cell rfl)) rfl ?_))
  refine SW.ah ?_;refine SF.take 9 [] [] aG rfl (by kernel_rfl) (by kernel_rfl) (by kernel_rfl) ?_;repeat (refine SW.pure rfl rfl ?_)
  refine SW.ah ?_;refine SF.take 10 [] [] aG rfl (by kernel_rfl) (by kernel_rfl) (by kernel_rfl) ?_;repeat ((show SW _ _ _ _ (⟨_,Op.indexAddr _ _ _,_,_,_,none⟩::_) _ _;refine SW.st (bj rfl rfl (by assumption) (by omega)) rfl ?_))
  refine SW.ah ?_;refine SF.take 11 [] [] aG rfl (by kernel_rfl) (by kernel_rfl) (by kernel_rfl) ?_;repeat ((show SW _ _ _ _ (⟨_,Op.load _ _,_,_,_,none⟩::_) _ _;refine SW.st (aX rfl rfl ((H.zs.row.sl.all k0))) rfl ?_))
  refine SW.ah ?_;refine SF.take 12 [] [] aG rfl (by kernel_rfl) (by kernel_rfl) (by kernel_rfl) ?_;repeat (refine SW.pure rfl rfl ?_)
  refine SW.ah ?_;refine SF.take 13 [] [] aG rfl (by kernel_rfl) (by kernel_rfl) (by kernel_rfl) ?_;repeat (refine SW.pure rfl rfl ?_)
  refine SW.ah ?_;refine SF.one 14 rfl (by kernel_rfl) rfl ?_;refine SW.call rfl rfl (uq p.u1 s.2 b.At b.Order _ H.zs.z1.rd p1 p2 ⟨by omega,by omega⟩ ⟨by omega,by omega⟩) fun v w4 aj hv => ?_
  obtain ⟨u',rfl,js⟩:=hv;replace js:=js.low hw.size;(replace hw:=Ext.trans hw aj;replace H:=H.ext aj);refine SW.nil (ae.sf aj ?_);refine SF.take 15 [] [] aG rfl (by kernel_rfl) (by kernel_rfl) (by kernel_rfl) ?_;repeat (refine SW.pure rfl rfl ?_)
  refine SW.ah ?_;refine SF.take 16 [] [] aG rfl (by kernel_rfl) (by kernel_rfl) (by kernel_rfl) ?_;repeat (refine SW.pure rfl rfl ?_)
  refine SW.ah ?_;refine SF.jD 17 aG rfl (by kernel_rfl) (by kernel_rfl) rfl (fun _=>bc rfl) rfl ?_;refine SF.take 18 [] [] aG rfl (by kernel_rfl) (by kernel_rfl) (by kernel_rfl) ?_;repeat ((show SW _ _ _ _ (⟨_,Op.indexAddr _ _ _,_,_,_,none⟩::_) _ _;refine SW.st (bj rfl rfl (by assumption) (by omega)) rfl ?_))
  refine SW.ah ?_;refine SF.last rfl (by kernel_rfl) (by kernel_rfl) ?_;refine SW.ib (enc:=bo) 1 u' H.zs.row rfl rfl k0 fun w5 C2 hg => ?_
  rw [H.zs.own] at hg;have H5:=HS.Ba H0 H k0 C2 hg js;have hK:kW w k p w5 (kh p 1 u'):=((kW.refl w k p).ext hw).step hg (fun i e=>by cases e;exact .inl (.inr (.inl rfl))) (fun i e => .inl (qi.1 e))
  refine Wz ?_;exact ae.x8 rfl ⟨_,rfl,kh p 1 u',jh.1,jh.2,by rw [eP];exact H5,hK⟩
theorem HS.drop {wb w w':World} {k:HK} {p:HP} {s:aq×aq} {L:List aB} (h:HS wb w k p s L) (hb:aJ w' k.b 27 (bm (k.h ⟨p.u0,p.u1,.nil,[]⟩))) (hg:w.grownBy w' (some k.b)) : HS wb w' k ⟨p.u0,p.u1,.nil,[]⟩ s []:=by
 have hG:=h.cU.gr hg;exact ⟨hb,h.zs.ay hG rfl,h.cj.ay hG rfl,h.live.ay hG rfl,cJ.nil _ _,o7.nil _ _,h.sf,h.C0,h.base.own h.C0 hg⟩
theorem Bi {k:HK} {p:HP} {i:Nat} (h:gC k ⟨p.u0,p.u1,.nil,[]⟩ i) : gC k p i:=by
 rcases h with h|h|h|⟨z,hz,h⟩
 ·exact .inl h
 ·exact .inr (.inl h)
 ·cases h
 ·simp at hz
set_option maxHeartbeats 2000000 in
theorem yZ (k:HK) (p:HP) (h:Heap) (z0 z1:aq) (hd:ll h z0 z1) (hs:h.small) (wb w:World) (H:HS wb w k p (z0,z1) h.av) :
 gL Tryz.prog 104 [.pointer (some ⟨k.b,0,none⟩)] w fun v w' => ∃ p',HS wb w' k p' (dp (z0,z1) (aS h.av)) []∧kW w k p w' p':=by
 refine dw Tryz.func104 rfl Tryz.ntmps104 rfl ?_;have hw:=Ext.refl w;have ma:=H.ls.rd.len;have s4:=hs.lists;have E3:=H.ls.row.sl.base;repeat' (first|refine Wz ?_|refine SW.st (ak rfl (H.cU.cell rfl)) rfl ?_)
 refine CW.loop (fun t:Nat×HP=>[(0,.pointer (some ⟨k.b,0,none⟩)),(9,.slice p.li.A p.li.n p.li.c),(10,.int .i64 (p.li.n:Int)),(11,.int .i64 (t.1:Int))])
  (fun t w'=>t.1≤p.li.n∧t.2.li=p.li∧t.2.ls=p.ls∧HS wb w' k t.2 (iB h z0 z1 (gz h.av t.1)) h.av∧kW w k p w' t.2) (fun t=>p.li.n-t.1) (0,p)
  ⟨rfl,rfl,rfl,rfl,trivial⟩ ⟨by omega,rfl,rfl,by simpa [iB,gz,aS,dp] using H,kW.refl _ _ _⟩ ?_
 clear hw H E3;rintro ⟨i,p1⟩ w ⟨hi,e1,e2,H,K0⟩
 simp only at hi e1 e2 H K0 ⊢;have hw:=Ext.refl w;have dt:Sl w 4 bp p.li.A p.li.n p.ls:=by have:=H.ls.row.sl;rwa [e1,e2] at this
 have hA:=dt.base;by_cases cf:i<p.li.n
 ·have kE:i<h.av.length:=by omega
  have ln:i<p.ls.length:=by omega
  have sB:h.av[i].aw.length=(p.ls[i]'ln).aw.n:=by
   have:=(H.ls.each.get i (by rw [e2];exact ln) kE).cr.len
   simpa only [e2] using this
  have JX:=hs.cr _ (List.getElem_mem kE);obtain ⟨y,hy⟩ : ∃ y,p.ls[i]'ln=y:=⟨_,rfl⟩;have C8:=dt.all cf;rw [hy] at C8 sB;repeat' (first|refine Wz ?_|refine SW.st (aX rfl rfl C8) rfl ?_)
  refine SW.alloc rfl fun b3 w1 ab bK ar => ?_
  skip;refine SW.ap ar rfl rfl rfl rfl (fB.one (enc:=bp) _) fun w2 cS hg => ?_
  have aj:=ab.own bK hg;have cn:w.heap.size≤b3:=Nat.le_trans hw.size bK
  replace hw:=Ext.trans hw aj;replace H:=H.ext aj;replace K0:=K0.ext aj;replace ar:=cS;clear cS ab hg aj
  have zQ:∀ (w':World) (q:HP) (s:aq×aq),q.ls=p.ls→HS wb w' k q s h.av→Own w' wb.heap.size 3 1 bh y.aw.A y.aw.n y.aw.c h.av[i].aw:=fun w' q s eq hh=>by
   have:=(hh.ls.each.get i (by rw [eq];exact ln) kE).cr
   simpa only [eq,hy] using this
  have hP:=zQ _ p1 _ e2 H;have ue:=hP.sl.base;repeat' (first|refine Wz ?_|fail)
  refine CW.loop (fun t:Nat×HP=>[(0,.pointer (some ⟨k.b,0,none⟩)),(9,.slice p.li.A p.li.n p.li.c),(10,.int .i64 (p.li.n:Int)),(11,.int .i64 (i:Int)),(16,.slice y.aw.A y.aw.n y.aw.c),(17,.int .i64 (y.aw.n:Int)),(18,.int .i64 (t.1:Int))])
   (fun t w'=>t.1≤y.aw.n∧t.2.li=p.li∧t.2.ls=p.ls∧HS wb w' k t.2 (iB h z0 z1 (gz h.av i+t.1)) h.av∧kW _ k p w' t.2) (fun t=>y.aw.n-t.1) (0,p1)
   ⟨rfl,rfl,rfl,rfl,rfl,rfl,rfl,trivial⟩ ⟨by omega,e1,e2,H,K0⟩ ?_
  clear hw H K0 ar hP ue dt C8 bK cn e1 e2 p1;rintro ⟨j,p1⟩ w' ⟨hj,e1,e2,H,K0⟩
  simp only at hj e1 e2 H K0 ⊢;have hw:=Ext.refl w';have hP:=zQ _ p1 _ e2 H;have ue:=hP.sl.base;by_cases iZ:j<y.aw.n
  ·have kO:j<h.av[i].aw.length:=by omega
   obtain ⟨hK,KJ⟩:=zN kE kO;have hN:=hd.next hK;have hD:=hd.inv (gz h.av i+j) (by omega);have hT:=lQ (z0,z1) (aS h.av) _ hK;rw [KJ] at hN hT;have D6:iB h z0 z1 (gz h.av i+(j+1))=iA (iB h z0 z1 (gz h.av i+j)) (cX h.av[i].aw[j]):=hT
   repeat' (first|refine Wz ?_|refine SW.st (ak rfl (hP.sl.one iZ rfl)) rfl ?_)
   refine SW.cV rfl rfl (Bh k p1 _ h.av _ (cX h.av[i].aw[j]) wb _ H hD hN) fun v w5 hv => ?_
   obtain ⟨p2,e3,e4,H5,K5⟩:=hv;repeat' (first|refine Wz ?_|fail);refine ae.again (j+1,p2) ⟨rfl,rfl,rfl,rfl,rfl,rfl,rfl,trivial⟩ (by simp only;omega) ⟨by simp only;omega,e3.trans e1,e4.trans e2,?_,K0.trans K5⟩;simp only;rw [D6];exact H5
  ·have ej:gz h.av i+j=gz h.av (i+1):=by rw [sw kE];omega
   rw [ej] at H;repeat' (first|refine Wz ?_|fail);exact ae.again (i+1,p1) ⟨rfl,rfl,rfl,rfl,trivial⟩ (by simp only;omega) ⟨by simp only;omega,e1,e2,H,K0⟩
 ·have ei:i=h.av.length:=by omega
  have GC:iB h z0 z1 (gz h.av i)=dp (z0,z1) (aS h.av):=by
   rw [ei,vt,iB,List.take_of_length_le (Nat.le_refl _)]
  rw [GC] at H;repeat' (first|refine Wz ?_|fail);refine SW.bB (i:=3) H.cU rfl rfl rfl rfl fun w6 pd hg => ?_
  have H6:=H.drop pd hg;have K6:=K0.step hg (fun i e=>by cases e;exact .inl (.inl rfl)) (fun i e => .inl (Bi e));repeat' (first|refine Wz ?_|fail);exact ae.x8 rfl ⟨_,rfl,_,H6,K6⟩
end Go.Proofs.YtjimadiidbkohaaGreatDoor
