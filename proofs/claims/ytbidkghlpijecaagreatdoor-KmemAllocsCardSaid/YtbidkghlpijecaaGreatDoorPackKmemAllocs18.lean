/-
  Texts of the claim KmemAllocs, part 18: what its theorem leans on.
-/
import Derived.Test.YtbidkghlpijecaaGreatDoorPackKmemAllocs5
import Derived.Test.YtbidkghlpijecaaGreatDoorPackKmemAllocs2
import Derived.Test.YtbidkghlpijecaaGreatDoorPackKmemAllocs17
import Derived.Test.YtbidkghlpijecaaGreatDoorPackKmemAllocs16
import Derived.Test.YtbidkghlpijecaaGreatDoorPackKmemAllocs14
import Derived.Test.YtbidkghlpijecaaGreatDoorPackKmemAllocs15
import Derived.Test.YtbidkghlpijecaaGreatDoorPackKmemAllocs11
set_option linter.unusedVariables false
set_option linter.unusedSimpArgs false
namespace Go.Proofs.YtbidkghlpijecaaGreatDoor
open Go.RowKit
set_option maxHeartbeats 4000000 in
theorem tJ (A:Option Addr) (n c lo:Nat) (l:List bM) (w:World) (hO:Own w lo 142 4 bq A n c l) (i:Nat) (hi:i<n) (hn:n≤1000000000000000000) (fy:lo≤w.heap.size) :
 gX Tryz.prog 244 [.slice A n c,.int .i64 (i:Int),.int .i64 ((i+1:Nat) : Int)] w fun v w'=>v = .slice A (n-1) c∧Own w' lo 142 4 bq A (n-1) c (l.eraseIdx i)∧w.grownBy w' (aU A c):=by
 refine dB Tryz.func244 rfl Tryz.ntmps244 rfl ?_;have hle:=hO.le;have mn:=hO.len;have hA:=hO.sl.base;have yq:w.grownBy w (aU A c):=World.grownBy.refl _ _
 repeat' (first|refine Wz ?_|(refine SW.st (uN (i:=i) (j:=i+1) (k:=n) rfl rfl rfl rfl (by omega) (by omega) (by omega)) rfl ?_))
 all_goals try omega
 have hw:=Ext.refl w;have e0:i+(n-(i+1))=n-1:=by omega
 have el:l.take i++l.drop (i+1)=l.eraseIdx i:=by rw [List.eraseIdx_eq_take_drop_succ]
 refine CW.any 6 mixed (cj (by kernel_rfl)) rfl fun w1 ab aG => ?_
 replace hw:=Ext.trans hw ab;replace hO:=hO.ext ab;clear ab;refine Wa ?_;refine SA.take 2 aG rfl (by kernel_rfl) (by kernel_rfl) rfl ?_;repeat ((refine SW.st (dg (k:=i) rfl rfl (by omega)) rfl ?_))
 refine SW.ah ?_;refine Wa ?_;refine SA.take 5 aG rfl (by kernel_rfl) (by kernel_rfl) rfl ?_;repeat ((refine SW.st (bh (k:=i+1) rfl rfl (by omega) (by omega)) rfl ?_))
 refine SW.ah ?_;refine SA.done (by kernel_rfl) ?_;refine SW.wS (hO.pre (i:=i) (by omega)) (hO.sl.drop (i+1) c (by omega) (by omega)) (by omega) rfl rfl rfl fun w2 gB hg => ?_
 rw [e0,el] at gB;rw [e0];have EL:=(hw.gr (aU A c));repeat' (first|refine Wz ?_|(refine SW.st (su (i:=n-1) (j:=n) rfl rfl rfl (by omega) (by omega)) rfl ?_))
 obtain ⟨g,rest,rfl,h1,h2,h3,h4,h5,h6⟩:=gB.opened (by omega);have oQ:((l.eraseIdx i).flatMap bq).length=(n-1)*4:=by rw [a9,gB.len]
 refine SW.clear ((n-1)*4) h2 rfl (by rw [List.length_append,oQ];omega) (fun h0 => ?_) (by decide) fun w3 cs gG hB tW => ?_
 ·rw [if_neg (by omega)];simp [c7]
 ·have e7:=eR ((l.eraseIdx i).flatMap bq) (rest.take ((n-(n-1))*4)) (rest.drop ((n-(n-1))*4)) cs (by rw [gG];simp;omega) (o:=(n-1)*4) oQ.symm;rw [List.append_assoc (List.flatMap _ _),List.take_append_drop] at e7;rw [e7,List.append_assoc] at hB;have HT:=Own.closed (l:=l.eraseIdx i) gB.len hB (by rw [List.length_append,gG];simp;omega) h4 (by omega) h5 h1;rw [← h6] at tW;have wT:=bQ (bQ EL hg (.inl rfl)) tW (.inl rfl);refine Wz ?_;exact ae.aO rfl rfl ⟨_,rfl,rfl,HT,wT⟩
open Go.RowKit
def MV:Option ((ar×ar)×List aC×Int)→Value
 | Option.none => .tuple #[.int .i64 0,.bool false]
 | some q => .tuple #[.int .i64 q.2.2,.bool true]
def DI (s:ar×ar) : Option ((ar×ar)×List aC×Int)→ar×ar
 | Option.none=>s
 | some q=>q.1
def BS (L:List aC) : Option ((ar×ar)×List aC×Int)→List aC
 | Option.none=>L
 | some q=>q.2.1
theorem DJ {k:HK} {p:HP} {i j:Nat} {y:bM} (hi:i<p.ls.length) (ho:ob y.ax=ob p.ls[i].ax) (h:gE k ⟨p.u0,p.u1,p.li,p.ls.set i y⟩ j) : gE k p j:=by
 rcases h with h|h|h|⟨z,hz,h⟩
 ·exact .inl h
 ·exact .inr (.inl h)
 ·exact .inr (.inr (.inl h))
 ·rcases List.mem_or_eq_of_mem_set hz with h1|rfl
  ·exact .inr (.inr (.inr ⟨z,h1,h⟩))
  ·exact .inr (.inr (.inr ⟨_,List.getElem_mem hi,ho ▸ h⟩))
theorem DK {k:HK} {p:HP} {i j:Nat} (h:gE k ⟨p.u0,p.u1,⟨p.li.A,p.li.n-1,p.li.c⟩,p.ls.eraseIdx i⟩ j) : gE k p j:=by
 rcases h with h|h|h|⟨z,hz,h⟩
 ·exact .inl h
 ·exact .inr (.inl h)
 ·exact .inr (.inr (.inl h))
 ·exact .inr (.inr (.inr ⟨z,List.mem_of_mem_eraseIdx hz,h⟩))
set_option maxHeartbeats 4000000 in
theorem tK (k:HK) (p:HP) (s:ar×ar) (L:List aC) (m0 m1 cpu:Int) (zi:Nat) (t f:Int) (wb w:World) (H:HS wb w k p s L) (hO:nR wb) (hM:oh k.M m0 m1) (hv:VS s) (hs:rT L) (As:∀ l∈L,1≤l.ax.length∧l.ax.length≤8) (wi:L.length≤256) (iP:zi<2) (hf : 0≤f∧f≤15) :
 gX Tryz.prog 213 [.pointer (some ⟨k.b,0,none⟩),.int .i64 cpu,.int .i64 (zi:Int),.int .i64 t,.int .i64 f] w fun v w' => ∃ q,im m0 m1 cpu zi 0 t f s L q∧v=MV q ∧ ∃ p',HS wb w' k p' (DI s q) (BS L q)∧k9 w k p w' p':=by
 refine dB Tryz.func213 rfl Tryz.ntmps213 rfl ?_;have hw:=Ext.refl w;repeat' (first|refine Wy ?_|fail);have x9:∀ i,w.heap.size≤i → ¬ gE k p i:=fun i hi=>H.not hi
 have K0:=k9.refl w k p;refine SW.alloc rfl fun rc w1 ab ol bl => ?_
 skip;refine SW.ak bl rfl rfl rfl rfl (sM ⟨cpu,zi,t,.nil⟩) fun w2 fD hg => ?_
 have aj:=ab.own ol hg;have fO:w.heap.size≤rc:=Nat.le_trans hw.size ol
 replace hw:=Ext.trans hw aj;replace H:=H.ext aj;replace K0:=K0.ext aj;replace bl:=fD;clear fD ab hg aj;obtain ⟨x,hx⟩ : ∃ x:aC,x=⟨cpu,zi,t,[]⟩:=⟨_,rfl⟩;have F8:te ⟨cpu,zi,t,.nil⟩ x:=by subst hx;exact ⟨rfl,rfl,rfl⟩
 have Kh:x.ax=[]:=by subst hx;rfl
 obtain ⟨l1,l2⟩:=H.ls.rd.len;have hA:=H.ls.row.sl.base;obtain ⟨q,hq⟩ : ∃ q,bV L x=q:=⟨_,rfl⟩;obtain ⟨kp,re⟩ : ∃ kp,aZ L x=kp:=⟨_,rfl⟩
 have cL:∀ w',sv w' p.li p.ls L→bo Tryz.prog 113 [.agg (bm (k.h p)).toArray,.agg (bq ⟨cpu,zi,t,.nil⟩).toArray] w' fun v _=>v = .tuple #[.int .i64 (kp:Int),.bool q]:=fun w' h=>by
  have:=u7 (k.h p) L p.ls x ⟨cpu,zi,t,.nil⟩ w' h F8 (by simp only;omega)
  rwa [hq,re] at this
 cases q
 ·repeat' (first|refine Wy ?_|fail);(apply CW.aP mixed;(· kernel_rfl);rotate_left;intro w1 ab;replace hw:=Ext.trans hw ab;replace H:=H.ext ab;replace bl:=bl.ext ab;replace K0:=K0.ext ab;clear ab;rotate_right);repeat' (first|refine Wy ?_|(refine CW.bB rfl ?_)|refine SW.st (aW rfl rfl ((fun _ _=>H.c8.cell))) rfl ?_|refine SW.st (aW rfl rfl ((fun _ _=>bl.cell))) rfl ?_|refine SW.br rfl rfl (fun w1 ab=>(cL _ (H.ls.rd.ext ab))) ?_|exact SW.bx rfl)
  clear cL;skip;refine SW.da rfl rfl (pI k p s L m0 m1 zi 0 t f wb _ H (hO.ext H.base) hM hv iP (by decide) hf) fun v w5 th => ?_
  obtain ⟨q5,hT,rfl,p5,H5,K5⟩:=th;have BU:=K5.not (x9 rc fO) bl.lt;replace bl:=K5.c8 bl (x9 rc fO);replace K5:=K0.trans K5;clear K0 H hw x9;have hw:=Ext.refl w5
  have lf : ¬ ((0:Int)=0∧bV L ⟨cpu,(zi:Int),t,[]⟩=true):=fun h=>by
   have:=h.2
   rw [← hx,hq] at this;cases this
  have Jj:bV L ⟨cpu,(zi:Int),t,[]⟩=false:=by rw [← hx];exact hq
  have Ij:=hT.vs hv;cases q5 with
  | none =>
    have uF:im m0 m1 cpu zi 0 t f s L none:=by
     cases hT with
     | jU he=>exact .jU lf he
     | none he ht hu=>exact .none lf he ht hu
    repeat' (first|refine Wy ?_|fail);refine CW.loop (fun _:Unit=>[(17,.int .i64 0),(18,.bool false),(19,.int .i64 1)]) (fun _ w'=>w'=w5) (fun _=>0) () ⟨rfl,rfl,rfl,trivial⟩ rfl ?_;rintro _ w' rfl;repeat' (first|refine Wy ?_|fail);exact ae.cx rfl rfl rfl ⟨_,rfl,_,uF,rfl,p5,H5,K5⟩
  | some q5 =>
    obtain ⟨s1,a⟩:=q5
    have tL:∀ r,fi m0 m1 zi t f s1 [] r→im m0 m1 cpu zi 0 t f s L (some (r.1,fZ L x r.2,a)):=fun r hr=>by
     rw [hx];cases hT with
     | ok he ht hu=>exact .fill rfl Jj he ht hu hr
    simp only [Kn] at H5 Ij;have MW:HS wb w5 k p5 s1 (fZ L x []):=by rw [lH];exact H5
    clear H5;repeat' (first|refine Wy ?_|fail)
    refine CW.loop (fun u:HP×(ar×ar)×List Int=>[(0,.pointer (some ⟨k.b,0,none⟩)),(2,.int .i64 (zi:Int)),(3,.int .i64 t),(4,.int .i64 f),(12,.pointer (some ⟨rc,0,none⟩)),(17,.int .i64 a),(18,.bool true),(19,.int .i64 ((u.2.2.length+1:Nat) : Int))])
     (fun u w'=>u.2.2.length≤3∧HS wb w' k u.1 u.2.1 (fZ L x u.2.2)∧VS u.2.1∧aJ w' rc 142 (bq ⟨cpu,zi,t,.nil⟩) ∧ ¬ gE k u.1 rc∧k9 w k p w' u.1 ∧ ∀ r,fi m0 m1 zi t f u.2.1 u.2.2 r→fi m0 m1 zi t f s1 [] r) (fun u=>3-u.2.2.length) (p5,s1,[])
     ⟨rfl,rfl,rfl,rfl,rfl,rfl,rfl,rfl,trivial⟩ ⟨by simp,MW,Ij,bl,BU,K5,fun r h=>h⟩ ?_
    clear hw bl K5 BU MW Ij hT;rintro ⟨p6,s6,pg⟩ w' ⟨LF,H,vn,bl,x9,K0,kQ⟩
    simp only at LF H vn x9 K0 kQ ⊢;have hw:=Ext.refl w';by_cases de:pg.length<3
    ·repeat' (first|refine Wy ?_|fail);refine SW.da rfl rfl (pI k p6 s6 (fZ L x pg) m0 m1 zi 0 t f wb _ H (hO.ext H.base) hM vn iP (by decide) hf) fun v w5 th => ?_
     obtain ⟨q5,hT,rfl,p5,H5,K5⟩:=th;have BU:=K5.not x9 bl.lt;replace bl:=K5.c8 bl x9;replace K5:=K0.trans K5;clear K0 H hw x9;have hw:=Ext.refl w5;have Ij:=hT.vs vn;cases q5 with
     | none =>
       have uF:fi m0 m1 zi t f s6 pg (s6,pg):=by
        cases hT with
        | jU he=>exact .jU de he
        | none he ht hu=>exact .none de he ht hu
       repeat' (first|refine Wy ?_|(refine CW.bO rfl ?_))
       exact ae.cx rfl rfl rfl ⟨_,rfl,_,tL _ (kQ _ uF),rfl,p5,H5,K5⟩
     | some q5 =>
       obtain ⟨s7,b⟩:=q5;simp only [Kn] at H5 Ij
       have zG:∀ r,fi m0 m1 zi t f s7 (pg++[b]) r→fi m0 m1 zi t f s1 [] r:=fun r hr=>by
        cases hT with
        | ok he ht hu=>exact kQ _ (.more de he ht hu hr)
       repeat' (first|refine Wy ?_|(refine CW.bB rfl ?_))
       repeat' (first|refine Wy ?_|refine SW.st (aW rfl rfl ((fun _ _=>bl.cell))) rfl ?_)
       obtain ⟨l3,l4⟩:=H5.ls.rd.len;have Ka:=vj (pg:=pg) hq
       refine SW.da rfl rfl (BO k p5 s7 (fZ L x pg) x ⟨cpu,zi,t,.nil⟩ b wb _ H5 F8 rfl Kh (wu hs hq) (by omega) (fun l hl=>by
        rcases vi hq l hl with h|rfl
        ·have:=As l h;omega
        ·simp only [dp];omega)) fun v w8 LG => ?_
       obtain ⟨p8,H8,K8⟩:=LG;have Ju:=K8.not BU bl.lt;replace bl:=K8.c8 bl BU;replace K8:=K5.trans K8;rw [zB hq] at H8;clear hw;have hw:=Ext.refl w8;repeat' (first|refine Wy ?_|fail);exact ae.again (p8,s7,pg++[b]) ⟨rfl,rfl,rfl,rfl,rfl,rfl,rfl,congrArg (fun z=>some (Value.int .i64 z)) (by simp),trivial⟩ (by simp;omega) ⟨by simp;omega,H8,Ij,bl,Ju,K8,zG⟩
    ·have uF:fi m0 m1 zi t f s6 pg (s6,pg) := .full (by omega)
     repeat' (first|refine Wy ?_|fail);exact ae.cx rfl rfl rfl ⟨_,rfl,_,tL _ (kQ _ uF),rfl,p6,H,K0⟩
 ·repeat' (first|refine Wy ?_|fail);(apply CW.aP mixed;(· kernel_rfl);rotate_left;intro w1 ab;replace hw:=Ext.trans hw ab;replace H:=H.ext ab;replace bl:=bl.ext ab;replace K0:=K0.ext ab;clear ab;rotate_right);repeat' (first|refine Wy ?_|(refine CW.bO rfl ?_)|refine SW.st (aW rfl rfl ((fun _ _=>H.c8.cell))) rfl ?_|refine SW.st (aW rfl rfl ((fun _ _=>bl.cell))) rfl ?_|refine SW.br rfl rfl (fun w1 ab=>(cL _ (H.ls.rd.ext ab))) ?_|exact SW.bx rfl)
  clear cL;obtain ⟨dk,ma⟩:=jk hq;simp only [re] at dk ma;have cb:kp<p.li.n:=by omega
  have nF:kp<p.ls.length:=by omega
  have P0:=H.ls.each.get kp nF dk;have Hn:=As _ (List.getElem_mem dk);obtain ⟨y,hy⟩ : ∃ y,p.ls[kp]'nF=y:=⟨_,rfl⟩;obtain ⟨oT,ya⟩ : ∃ oT,L[kp].ax=oT:=⟨_,rfl⟩;rw [hy] at P0;have hP:=P0.bL;have pc:=P0.cpu;have pz:=P0.fu;have pt:=P0.ty;rw [ya] at hP Hn;clear P0;have tg:=hP.len;have FW:=hP.sl.base;have rb:y.ax.n-1<y.ax.n:=by omega
  have Jv:dD L ⟨cpu,(zi:Int),t,[]⟩=oT:=by
   rw [← hx,iX hq (by omega)];simp only [re,ya]
  have Lz:dD L x=oT:=by rw [hx];exact Jv
  have LH:=hP.le;have e3:(bq (p.ls[kp]'nF))[3]?=some (Value.slice y.ax.A y.ax.n y.ax.c):=by rw [hy];rfl
  have Dk:oT≠[]:=fun e=>by rw [e] at Hn;simp at Hn
  have AN:=tF Dk (i:=y.ax.n-1) (by omega) (by omega);obtain ⟨a,ha⟩ : ∃ a,oT.getLast Dk=a:=⟨_,rfl⟩;rw [ha] at AN
  have uF:im m0 m1 cpu zi 0 t f s L (some (s,rI L x oT,a)):=by
   have:=im.list (m0:=m0) (m1:=m1) (fl:=f) (s:=s) (o:=0) rfl (show bV L ⟨cpu,(zi:Int),t,[]⟩=true by rw [← hx];exact hq) (by rw [Jv];exact Dk)
   simp only [← hx,Lz,ha] at this;exact this
  repeat' (first|refine Wy ?_|refine SW.st (bc (y.ax.n-1) rfl rfl (by assumption) (by omega) (by omega)) rfl ?_|refine SW.st (ao rfl (H.c8.cell (i:=3) (v := .slice p.li.A p.li.n p.li.c) rfl)) rfl ?_|refine SW.st (ao rfl (H.ls.row.sl.dA cb (j:=3) e3)) rfl ?_|refine SW.st (ao rfl (hP.sl.one rb (congrArg bd AN.symm))) rfl ?_)
  refine CW.iS 17 17 (fun _=>True) mixed (by kernel_rfl) fun w1 ab aG => ?_
  replace hw:=Ext.trans hw ab;replace H:=H.ext ab;replace hP:=hP.ext ab;replace K0:=K0.ext ab;clear ab;refine SF.take 0 [] [] aG rfl (by kernel_rfl) (by kernel_rfl) (by kernel_rfl) ?_;repeat (refine SW.pure rfl rfl ?_)
  refine SW.ah ?_;refine SF.take 1 [] [] aG rfl (by kernel_rfl) (by kernel_rfl) (by kernel_rfl) ?_;repeat ((show SW _ _ _ _ (⟨_,Op.nilCheck _,_,_,_,none⟩::_) _ _;refine SW.st (aK rfl) rfl ?_))
  refine SW.ah ?_;refine SF.take 2 [] [] aG rfl (by kernel_rfl) (by kernel_rfl) (by kernel_rfl) ?_;repeat ((show SW _ _ _ _ (⟨_,Op.fieldAddr _ _ _,_,_,_,none⟩::_) _ _;refine SW.st (aD rfl) rfl ?_))
  refine SW.ah ?_;refine SF.take 3 [] [] aG rfl (by kernel_rfl) (by kernel_rfl) (by kernel_rfl) ?_;repeat ((show SW _ _ _ _ (⟨_,Op.load _ _,_,_,_,none⟩::_) _ _;refine SW.st (ao rfl (H.c8.cell (i:=3) (v := .slice p.li.A p.li.n p.li.c) rfl)) rfl ?_))
  refine SW.ah ?_;refine SF.take 4 [] [] aG rfl (by kernel_rfl) (by kernel_rfl) (by kernel_rfl) ?_;repeat (refine SW.pure rfl rfl ?_)
  refine SW.ah ?_;refine SF.take 5 [] [] aG rfl (by kernel_rfl) (by kernel_rfl) (by kernel_rfl) ?_;repeat (refine SW.pure rfl rfl ?_)
  refine SW.ah ?_;refine SF.take 6 [] [] aG rfl (by kernel_rfl) (by kernel_rfl) (by kernel_rfl) ?_;repeat ((show SW _ _ _ _ (⟨_,Op.nilCheck _,_,_,_,none⟩::_) _ _;refine SW.st (aK rfl) rfl ?_))
  refine SW.ah ?_;refine SF.take 7 [] [] aG rfl (by kernel_rfl) (by kernel_rfl) (by kernel_rfl) ?_;repeat ((show SW _ _ _ _ (⟨_,Op.fieldAddr _ _ _,_,_,_,none⟩::_) _ _;refine SW.st (aD rfl) rfl ?_))
  refine SW.ah ?_;refine SF.take 8 [] [] aG rfl (by kernel_rfl) (by kernel_rfl) (by kernel_rfl) ?_;repeat ((show SW _ _ _ _ (⟨_,Op.load _ _,_,_,_,none⟩::_) _ _;refine SW.st (ao rfl (H.c8.cell (i:=3) (v := .slice p.li.A p.li.n p.li.c) rfl)) rfl ?_))
  refine SW.ah ?_;refine SF.take 9 [] [] aG rfl (by kernel_rfl) (by kernel_rfl) (by kernel_rfl) ?_;repeat (refine SW.pure rfl rfl ?_)
  refine SW.ah ?_;refine SF.take 10 [] [] aG rfl (by kernel_rfl) (by kernel_rfl) (by kernel_rfl) ?_;repeat ((show SW _ _ _ _ (⟨_,Op.indexAddr _ _ _,_,_,_,none⟩::_) _ _;refine SW.st (bj rfl rfl (by assumption) (by omega)) rfl ?_))
  refine SW.ah ?_;refine SF.take 11 [] [] aG rfl (by kernel_rfl) (by kernel_rfl) (by kernel_rfl) ?_;repeat ((show SW _ _ _ _ (⟨_,Op.fieldAddr _ _ _,_,_,_,none⟩::_) _ _;refine SW.st (aD rfl) rfl ?_))
  refine SW.ah ?_;refine SF.take 12 [] [] aG rfl (by kernel_rfl) (by kernel_rfl) (by kernel_rfl) ?_;repeat ((show SW _ _ _ _ (⟨_,Op.load _ _,_,_,_,none⟩::_) _ _;refine SW.st (ao rfl (H.ls.row.sl.dA cb (j:=3) e3)) rfl ?_))
  refine SW.ah ?_;refine SF.take 13 [] [] aG rfl (by kernel_rfl) (by kernel_rfl) (by kernel_rfl) ?_;repeat (refine SW.pure rfl rfl ?_)
  refine SW.ah ?_;refine SF.take 14 [] [] aG rfl (by kernel_rfl) (by kernel_rfl) (by kernel_rfl) ?_;repeat ((refine SW.st (dg (k:=y.ax.n-1) rfl (congrArg (fun z=>some (Value.int .i64 z)) (by omega)) (by omega)) rfl ?_))
  refine SW.ah ?_;refine SF.take 15 [16] [16] aG rfl (by kernel_rfl) (by kernel_rfl) (by kernel_rfl) ?_;repeat ((show SW _ _ _ _ (⟨_,Op.indexAddr _ _ _,_,_,_,none⟩::_) _ _;refine SW.st (bj rfl rfl (by assumption) (by omega)) rfl ?_))
  refine SW.ah ?_;refine SF.take 16 [] [] aG rfl (by kernel_rfl) (by kernel_rfl) (by kernel_rfl) ?_;repeat ((show SW _ _ _ _ (⟨_,Op.fieldAddr _ _ _,_,_,_,none⟩::_) _ _;refine SW.st (aD rfl) rfl ?_))
  refine SW.ah ?_;refine SF.last rfl (by kernel_rfl) (by kernel_rfl) ?_;refine SW.gR kp 3 ⟨y.dO,y.ar,y.Ty,⟨y.ax.A,y.ax.n-1,y.ax.c⟩⟩ H.ls.row rfl rfl rfl cb (by decide) rfl (by rw [hy];rfl) fun w6 fL wL => ?_
  have MX:ob (⟨y.dO,y.ar,y.Ty,⟨y.ax.A,y.ax.n-1,y.ax.c⟩⟩ : bM).ax=ob (p.ls[kp]'nF).ax:=by rw [hy];rfl
  have qb:=hP.pre (i:=y.ax.n-1) (by omega);have OF:oT.take (y.ax.n-1)=oT.dropLast:=by rw [List.dropLast_eq_take,tg]
  rw [OF] at qb;have H6:=HS.setRow (y:=⟨y.dO,y.ar,y.Ty,⟨y.ax.A,y.ax.n-1,y.ax.c⟩⟩) (l:=dp x oT.dropLast) H nF fL wL ⟨pc.trans ma.1,pz.trans ma.2.1,pt.trans ma.2.2,qb⟩ MX;have K6:k9 w k p w6 ⟨p.u0,p.u1,p.li,p.ls.set kp ⟨y.dO,y.ar,y.Ty,⟨y.ax.A,y.ax.n-1,y.ax.c⟩⟩⟩:=K0.step wL (fun i e => .inl (.inr (.inr (.inl e)))) (fun i e => .inl (DJ nF MX e))
  by_cases h1:y.ax.n=1
  ·have eL:rI L x oT=(L.set kp (dp x oT.dropLast)).eraseIdx kp:=by rw [zC (by omega),re,List.eraseIdx_set_eq]
   obtain ⟨p6,MY⟩ : ∃ p6:HP,p6=⟨p.u0,p.u1,p.li,p.ls.set kp ⟨y.dO,y.ar,y.Ty,⟨y.ax.A,y.ax.n-1,y.ax.c⟩⟩⟩:=⟨_,rfl⟩;have MZ:p6.li=p.li:=by rw [MY]
   rw [← MY] at H6 K6;have LI:kp<p6.li.n:=by rw [MZ];exact cb
   clear hw;have hw:=Ext.refl w6;repeat' (first|refine Wy ?_|refine SW.st (ao rfl (H6.c8.cell (i:=3) (v := .slice p6.li.A p6.li.n p6.li.c) rfl)) rfl ?_)
   refine SW.da rfl rfl (tJ p6.li.A p6.li.n p6.li.c wb.heap.size p6.ls _ H6.ls.row kp LI (by rw [MZ];omega) H6.low) fun v w7 LJ => ?_
   obtain ⟨rfl,OG,LK⟩:=LJ;have jY:=H6.c8.ay (H6.ls.zE LK) rfl;repeat' (first|refine Wy ?_|fail);refine SW.bA (i:=3) jY rfl rfl rfl rfl fun w8 bw AA => ?_
   have H8:=HS.Hk H6 OG LK bw AA;have K7:=K6.step (p':=p6) LK (fun i e => .inl (.inr (.inr (.inl e)))) (fun i e => .inl e);have K8:=K7.step AA (fun i e=>by cases e;exact .inl (.inl rfl)) (fun i e => .inl (DK (i:=kp) e));repeat' (first|refine Wy ?_|fail);exact ae.cx rfl rfl rfl ⟨_,rfl,_,uF,rfl,_,by simp only [BS,eL];exact H8,K8⟩
  ·have eL:rI L x oT=L.set kp (dp x oT.dropLast):=by rw [DD (by omega),re]
   repeat' (first|refine Wy ?_|fail);exact ae.cx rfl rfl rfl ⟨_,rfl,_,uF,rfl,_,by simp only [BS,eL];exact H6,K6⟩
open Go.RowKit
theorem k9.Fm {α:Type} {w0 w:World} {k:HK} {p0 p:HP} (h:k9 w0 k p0 w p) {lo:Nat} {e:TypeId} {sz:Nat} {enc : α → List Value} {A:Option Addr} {n c:Nat} {l:List α} (hO:Own w0 lo e sz enc A n c l) (hn:∀ g,aU A c=some g → ¬ gE k p0 g) : Own w lo e sz enc A n c l:=by
 have de:=hO.lt_size;refine ⟨hO.len,?_⟩;rcases hO.row with h1|⟨hc,g,gd,rfl,h1,h2,h3⟩
 ·exact .inl h1
 ·have hg:aU (some (⟨g,0,none⟩ : Addr)) c=some g:=by simp [aU,Nat.pos_iff_ne_zero.1 hc]
  exact .inr ⟨hc,g,gd,rfl,h1,by rw [h.block g (de g hg) (hn g hg)];exact h2,h3⟩
def OH (L:List aC) : Option ((ar×ar)×Int)→Option ((ar×ar)×List aC×Int)
 | none=>none
 | some q=>some (q.1,L,q.2)
theorem F5.ve {m0 m1 cpu:Int} {s:ar×ar} {zi o t f:Int} {q:Option ((ar×ar)×Int)} {L:List aC} (h:F5 m0 m1 s zi o t f q) (ho : 0<o) : im m0 m1 cpu zi o t f s L (OH L q):=by
 have lf : ¬ (o=0∧bV L ⟨cpu,zi,t,[]⟩=true):=fun h=>by omega
 cases h with
 | jU he=>exact .jU lf he
 | none he ht hu=>exact .none lf he ht hu
 | ok he ht hu=>exact .ve ho he ht hu
theorem pJ {m0 m1 cpu o t f:Int} {s:ar×ar} {L:List aC} {zl:List Int} {j:Nat} {r:(ar×ar)×List aC×Int} (hz:(zl=[1,0]∧f % 2=0)∨(zl=[0]∧f % 2=1)) (hj:j<zl.length) (hb:∀ (i:Nat) (h:i<zl.length),i<j→im m0 m1 cpu zl[i] o t f s L none) (h:im m0 m1 cpu zl[j] o t f s L (some r)) : iq m0 m1 cpu o t f s L (some r):=by
 rcases hz with ⟨rfl,hf⟩|⟨rfl,hf⟩
 ·have uM:j<2:=hj
  rcases Nat.lt_or_ge j 1 with h1|h1
  ·obtain rfl:j=0:=by omega
   exact .vS hf h
  ·obtain rfl:j=1:=by omega
   exact .low (fun _=>hb 0 (by simp) (by omega)) h
 ·have uM:j<1:=hj
  obtain rfl:j=0:=by omega
  exact .low (fun e=>by omega) h
theorem yb {m0 m1 cpu o t f:Int} {s:ar×ar} {L:List aC} {zl:List Int} (hz:(zl=[1,0]∧f % 2=0)∨(zl=[0]∧f % 2=1)) (hb:∀ (i:Nat) (h:i<zl.length),im m0 m1 cpu zl[i] o t f s L none) : iq m0 m1 cpu o t f s L none:=by
 rcases hz with ⟨rfl,hf⟩|⟨rfl,hf⟩
 ·exact .low (fun _=>hb 0 (by simp)) (hb 1 (by simp))
 ·exact .low (fun e=>by omega) (hb 0 (by simp))
abbrev OI (g:Nat) : Option Addr:=some ⟨g,0,none⟩
abbrev OJ (g:Nat) : Option Addr:=if 2=1 then some ⟨g,0,none⟩ else (some (⟨g,0,none⟩ : Addr)).map (·.add (1*1))
set_option maxHeartbeats 4000000 in
theorem rf (k:HK) (p:HP) (s:ar×ar) (L:List aC) (m0 m1 cpu o t f:Int) (wb w:World) (H:HS wb w k p s L) (hO:nR wb) (hM:oh k.M m0 m1) (hv:VS s) (hs:rT L) (As:∀ l∈L,1≤l.ax.length∧l.ax.length≤8) (wi:L.length≤256) (ho : 0≤o∧o≤4) (hf : 0≤f∧f≤15) :
 gX Tryz.prog 153 [.pointer (some ⟨k.b,0,none⟩),.int .i64 cpu,.int .i64 o,.int .i64 t,.int .i64 f] w fun v w' => ∃ q,iq m0 m1 cpu o t f s L q∧v=MV q ∧ ∃ p',HS wb w' k p' (DI s q) (BS L q)∧k9 w k p w' p':=by
 refine dB Tryz.func153 rfl Tryz.ntmps153 rfl ?_;have hw:=Ext.refl w;obtain ⟨q1,q2,q4,q8⟩:=nM hf;have Jw:∀ i,w.heap.size≤i → ¬ gE k p i:=fun i hi=>H.not hi
 have K0:=k9.refl w k p;refine Wz ?_;refine SW.wj (enc:=bd) 1 0 rfl rfl rfl rfl rfl rfl fun g w2 tV M0 hZ => ?_
 (replace hw:=Ext.trans hw tV;replace H:=H.ext tV;replace K0:=K0.ext tV);have hn:∀ j,aU (some (⟨g,0,none⟩ : Addr)) 2=some j → ¬ gE k p j:=fun j e=>Jw j (by simp [aU] at e;omega)
 obtain ⟨lo,fy⟩ : ∃ lo,w.heap.size=lo:=⟨_,rfl⟩;rw [fy] at hZ;clear Jw fy;rcases (show f % 2=0∨f % 2=1 by omega) with Ik|Ik
 ·obtain ⟨zl,AW⟩ : ∃ zl:List Int,zl=[1,0]:=⟨_,rfl⟩;have Fo:(zl=[1,0]∧f % 2=0)∨(zl=[0]∧f % 2=1):=by rw [AW];exact .inl ⟨rfl,Ik⟩
  obtain ⟨A,hA⟩ : ∃ A:Option Addr,A=(OI g):=⟨_,rfl⟩
  have LL:∀ w',Own w' lo 3 1 bd (some ⟨g,0,none⟩) 2 2 [1,0]→Sl w' 1 bd A 2 zl:=fun w' h=>by
   rw [AW,hA]
   first|exact h.sl|exact h.sl.drop 1 2 (by decide) (by decide)
  have C8:zl.length=2:=by rw [AW];rfl
  have l8:∀ (j:Nat) (hj:j<zl.length),∃ zi:Nat,zl[j]=(zi:Int)∧zi<2:=fun j hj=>by
   rcases Fo with ⟨rfl,_⟩|⟨rfl,_⟩
   ·have uM:j<2:=hj
    rcases Nat.lt_or_ge j 1 with h1|h1
    ·obtain rfl:j=0:=by omega
     exact ⟨1,rfl,by omega⟩
    ·obtain rfl:j=1:=by omega
     exact ⟨0,rfl,by omega⟩
   ·have uM:j<1:=hj
    obtain rfl:j=0:=by omega
    exact ⟨0,rfl,by omega⟩
  repeat' (first|refine Wz ?_|(refine SW.st (r3 rfl rfl (by omega) (by decide)) rfl ?_))
  all_goals try omega
  refine CW.loop (fun u:Nat×HP=>[(0,.pointer (some ⟨k.b,0,none⟩)),(1,.int .i64 cpu),(2,.int .i64 o),(3,.int .i64 t),(4,.int .i64 f),(23,.slice A 2 2),(24,.int .i64 ((2:Nat) : Int)),(25,.int .i64 (u.1:Int))])
   (fun u w'=>u.1≤zl.length∧HS wb w' k u.2 s L∧k9 w k p w' u.2∧Own w' lo 3 1 bd (some ⟨g,0,none⟩) 2 2 [1,0]∧(∀ j,aU (some (⟨g,0,none⟩ : Addr)) 2=some j → ¬ gE k u.2 j) ∧ ∀ (i:Nat) (h:i<zl.length),i<u.1→im m0 m1 cpu zl[i] o t f s L none) (fun u=>zl.length-u.1) (0,p)
   ⟨rfl,rfl,rfl,rfl,rfl,by rw [hA];rfl,rfl,rfl,trivial⟩ ⟨by simp,H,K0,hZ,hn,fun i h h'=>by simp at h'⟩ ?_
  clear hw hZ H K0 hn;rintro ⟨j,p6⟩ w' ⟨hj,H,K0,hZ,hn,hb⟩
  simp only at hj H K0 hn hb ⊢;have hw:=Ext.refl w';have hS:=LL _ hZ;have OK:=hS.base;by_cases de:j<zl.length
  ·obtain ⟨zi,iP,DL⟩:=l8 j de;have LM:j<2:=by omega
   have fz:=hS.one LM (congrArg bd iP);by_cases F9:o=0
   ·repeat' (first|refine Wz ?_|refine SW.st (ao rfl fz) rfl ?_)
    subst F9;refine SW.da rfl rfl (tK k p6 s L m0 m1 cpu zi t f wb _ H hO hM hv hs As wi DL hf) fun v w5 th => ?_
    obtain ⟨q5,hT,rfl,p5,H5,K5⟩:=th;have Ho:=K5.Fm hZ hn;have BU:∀ i,aU (some (⟨g,0,none⟩ : Addr)) 2=some i → ¬ gE k p5 i:=fun i e=>K5.not (hn i e) (hZ.lt_size i e)
    replace K5:=K0.trans K5;clear hw;have hw:=Ext.refl w5;rw [← iP] at hT;cases q5 with
    | none =>
      repeat' (first|refine Wz ?_|(refine CW.bB rfl ?_))
      exact ae.again (j+1,p5) ⟨rfl,rfl,rfl,rfl,rfl,rfl,rfl,rfl,trivial⟩ (by simp only;omega) ⟨by simp only;omega,H5,K5,Ho,BU,fun i h h'=>by
       by_cases e:i=j
       ·subst e;exact hT
       ·exact hb i h (by simp only at h';omega)⟩
    | some q5 =>
      repeat' (first|refine Wz ?_|(refine CW.bO rfl ?_))
      exact ae.cx rfl rfl rfl ⟨_,rfl,_,pJ Fo de hb hT,rfl,p5,H5,K5⟩
   ·repeat' (first|refine Wz ?_|refine SW.st (ao rfl fz) rfl ?_)
    refine SW.da rfl rfl (pI k p6 s L m0 m1 zi o t f wb _ H (hO.ext H.base) hM hv DL ho hf) fun v w5 th => ?_
    obtain ⟨q5,hT,rfl,p5,H5,K5⟩:=th;have Ho:=K5.Fm hZ hn;have BU:∀ i,aU (some (⟨g,0,none⟩ : Addr)) 2=some i → ¬ gE k p5 i:=fun i e=>K5.not (hn i e) (hZ.lt_size i e)
    replace K5:=K0.trans K5;clear hw;have hw:=Ext.refl w5;have hT:=hT.ve (cpu:=cpu) (L:=L) (by omega);rw [← iP] at hT;cases q5 with
    | none =>
      repeat' (first|refine Wz ?_|(refine CW.bB rfl ?_))
      exact ae.again (j+1,p5) ⟨rfl,rfl,rfl,rfl,rfl,rfl,rfl,rfl,trivial⟩ (by simp only;omega) ⟨by simp only;omega,H5,K5,Ho,BU,fun i h h'=>by
       by_cases e:i=j
       ·subst e;exact hT
       ·exact hb i h (by simp only at h';omega)⟩
    | some q5 =>
      repeat' (first|refine Wz ?_|(refine CW.bO rfl ?_))
      exact ae.cx rfl rfl rfl ⟨_,rfl,_,pJ Fo de hb hT,rfl,p5,H5,K5⟩
  ·refine Wz ?_;exact ae.cx rfl rfl rfl ⟨_,rfl,none,yb Fo (fun i h=>hb i h (by omega)),rfl,p6,H,K0⟩
 ·obtain ⟨zl,AW⟩ : ∃ zl:List Int,zl=[0]:=⟨_,rfl⟩;have Fo:(zl=[1,0]∧f % 2=0)∨(zl=[0]∧f % 2=1):=by rw [AW];exact .inr ⟨rfl,Ik⟩
  obtain ⟨A,hA⟩ : ∃ A:Option Addr,A=(OJ g):=⟨_,rfl⟩
  have LL:∀ w',Own w' lo 3 1 bd (some ⟨g,0,none⟩) 2 2 [1,0]→Sl w' 1 bd A (2-1) zl:=fun w' h=>by
   rw [AW,hA]
   first|exact h.sl|exact h.sl.drop 1 2 (by decide) (by decide)
  have C8:zl.length=(2-1):=by rw [AW];rfl
  have l8:∀ (j:Nat) (hj:j<zl.length),∃ zi:Nat,zl[j]=(zi:Int)∧zi<2:=fun j hj=>by
   rcases Fo with ⟨rfl,_⟩|⟨rfl,_⟩
   ·have uM:j<2:=hj
    rcases Nat.lt_or_ge j 1 with h1|h1
    ·obtain rfl:j=0:=by omega
     exact ⟨1,rfl,by omega⟩
    ·obtain rfl:j=1:=by omega
     exact ⟨0,rfl,by omega⟩
   ·have uM:j<1:=hj
    obtain rfl:j=0:=by omega
    exact ⟨0,rfl,by omega⟩
  repeat' (first|refine Wz ?_|(refine SW.st (r3 rfl rfl (by omega) (by decide)) rfl ?_)|(refine SW.st (bh (k:=1) rfl rfl (by omega) (by omega)) rfl ?_))
  all_goals try omega
  refine CW.loop (fun u:Nat×HP=>[(0,.pointer (some ⟨k.b,0,none⟩)),(1,.int .i64 cpu),(2,.int .i64 o),(3,.int .i64 t),(4,.int .i64 f),(23,.slice A (2-1) (2-1)),(24,.int .i64 (((2-1) : Nat) : Int)),(25,.int .i64 (u.1:Int))])
   (fun u w'=>u.1≤zl.length∧HS wb w' k u.2 s L∧k9 w k p w' u.2∧Own w' lo 3 1 bd (some ⟨g,0,none⟩) 2 2 [1,0]∧(∀ j,aU (some (⟨g,0,none⟩ : Addr)) 2=some j → ¬ gE k u.2 j) ∧ ∀ (i:Nat) (h:i<zl.length),i<u.1→im m0 m1 cpu zl[i] o t f s L none) (fun u=>zl.length-u.1) (0,p)
   ⟨rfl,rfl,rfl,rfl,rfl,by rw [hA];rfl,rfl,rfl,trivial⟩ ⟨by simp,H,K0,hZ,hn,fun i h h'=>by simp at h'⟩ ?_
  clear hw hZ H K0 hn;rintro ⟨j,p6⟩ w' ⟨hj,H,K0,hZ,hn,hb⟩
  simp only at hj H K0 hn hb ⊢;have hw:=Ext.refl w';have hS:=LL _ hZ;have OK:=hS.base;by_cases de:j<zl.length
  ·obtain ⟨zi,iP,DL⟩:=l8 j de;have LM:j<(2-1):=by omega
   have fz:=hS.one LM (congrArg bd iP);by_cases F9:o=0
   ·repeat' (first|refine Wz ?_|refine SW.st (ao rfl fz) rfl ?_)
    subst F9;refine SW.da rfl rfl (tK k p6 s L m0 m1 cpu zi t f wb _ H hO hM hv hs As wi DL hf) fun v w5 th => ?_
    obtain ⟨q5,hT,rfl,p5,H5,K5⟩:=th;have Ho:=K5.Fm hZ hn;have BU:∀ i,aU (some (⟨g,0,none⟩ : Addr)) 2=some i → ¬ gE k p5 i:=fun i e=>K5.not (hn i e) (hZ.lt_size i e)
    replace K5:=K0.trans K5;clear hw;have hw:=Ext.refl w5;rw [← iP] at hT;cases q5 with
    | none =>
      repeat' (first|refine Wz ?_|(refine CW.bB rfl ?_))
      exact ae.again (j+1,p5) ⟨rfl,rfl,rfl,rfl,rfl,rfl,rfl,rfl,trivial⟩ (by simp only;omega) ⟨by simp only;omega,H5,K5,Ho,BU,fun i h h'=>by
       by_cases e:i=j
       ·subst e;exact hT
       ·exact hb i h (by simp only at h';omega)⟩
    | some q5 =>
      repeat' (first|refine Wz ?_|(refine CW.bO rfl ?_))
      exact ae.cx rfl rfl rfl ⟨_,rfl,_,pJ Fo de hb hT,rfl,p5,H5,K5⟩
   ·repeat' (first|refine Wz ?_|refine SW.st (ao rfl fz) rfl ?_)
    refine SW.da rfl rfl (pI k p6 s L m0 m1 zi o t f wb _ H (hO.ext H.base) hM hv DL ho hf) fun v w5 th => ?_
    obtain ⟨q5,hT,rfl,p5,H5,K5⟩:=th;have Ho:=K5.Fm hZ hn;have BU:∀ i,aU (some (⟨g,0,none⟩ : Addr)) 2=some i → ¬ gE k p5 i:=fun i e=>K5.not (hn i e) (hZ.lt_size i e)
    replace K5:=K0.trans K5;clear hw;have hw:=Ext.refl w5;have hT:=hT.ve (cpu:=cpu) (L:=L) (by omega);rw [← iP] at hT;cases q5 with
    | none =>
      repeat' (first|refine Wz ?_|(refine CW.bB rfl ?_))
      exact ae.again (j+1,p5) ⟨rfl,rfl,rfl,rfl,rfl,rfl,rfl,rfl,trivial⟩ (by simp only;omega) ⟨by simp only;omega,H5,K5,Ho,BU,fun i h h'=>by
       by_cases e:i=j
       ·subst e;exact hT
       ·exact hb i h (by simp only at h';omega)⟩
    | some q5 =>
      repeat' (first|refine Wz ?_|(refine CW.bO rfl ?_))
      exact ae.cx rfl rfl rfl ⟨_,rfl,_,pJ Fo de hb hT,rfl,p5,H5,K5⟩
  ·refine Wz ?_;exact ae.cx rfl rfl rfl ⟨_,rfl,none,yb Fo (fun i h=>hb i h (by omega)),rfl,p6,H,K0⟩
open Go.RowKit
theorem BV (k:HK) (p:HP) (s:ar×ar) (L:List aC) (bs:List Block) (b:Block) (wb w:World) (H:HS wb w k p s L) (hD:nT s bs) (hN:qS bs b) :
 gX Tryz.prog 109 [.pointer (some ⟨k.b,0,none⟩),.int .i64 b.At,.int .i64 b.Order] w fun v w' => ∃ p',p'.li=p.li∧p'.ls=p.ls∧HS wb w' k p' (iG s b) L∧k9 w k p w' p':=by
 refine dB Tryz.func109 rfl Tryz.ntmps109 rfl ?_;have hw:=Ext.refl w;have H0:=H;have eT:=H.zs.z0.j6;obtain ⟨q1,q2,q3,q4⟩:=kM H.zs.z0 hD.nU;obtain ⟨p1,p2,p3,p4⟩:=kM H.zs.z1 hD.mH;have hA:=H.zs.row.sl.base;have cz:∀ w',Sl w' 4 bp (some ⟨k.g,0,none⟩) 2 [p.u0,p.u1]→bo Tryz.prog 110 [.agg (bm (k.h p)).toArray,.int .i64 b.At] w' fun v _=>v = .int .i64 (if b.At<p.u0.To then 0 else 1):=fun w' h=>Bt (k.h p) p.u0 p.u1 b.At w' h
 by_cases hx:b.At<p.u0.To
 ·have eP:iG s b=k7 s ((0:Nat) : Int) (iM s.1 b.At b.Order).2:=by unfold iG;rw [if_pos (by omega)];simp [k7]
  simp only [if_pos hx] at cz;have k0 : 0<2:=by omega
  repeat' (first|refine Wz ?_|refine SW.st (aW rfl rfl ((fun _ _=>H.c8.cell))) rfl ?_|(refine SW.call rfl rfl (cz _ H.zs.row.sl) ?_;intro v w1 ab hv;subst hv;replace hw:=Ext.trans hw ab;replace H:=H.ext ab;clear ab))
  refine CW.iS 19 19 (fun _=>True) mixed (by kernel_rfl) fun w1 ab aG => ?_
  replace hw:=Ext.trans hw ab;replace H:=H.ext ab;clear ab;refine SF.take 0 [] [] aG rfl (by kernel_rfl) (by kernel_rfl) (by kernel_rfl) ?_;repeat (refine SW.pure rfl rfl ?_)
  refine SW.ah ?_;refine SF.take 1 [] [] aG rfl (by kernel_rfl) (by kernel_rfl) (by kernel_rfl) ?_;repeat ((show SW _ _ _ _ (⟨_,Op.nilCheck _,_,_,_,none⟩::_) _ _;refine SW.st (aK rfl) rfl ?_))
  refine SW.ah ?_;refine SF.take 2 [] [] aG rfl (by kernel_rfl) (by kernel_rfl) (by kernel_rfl) ?_;repeat ((show SW _ _ _ _ (⟨_,Op.fieldAddr _ _ _,_,_,_,none⟩::_) _ _;refine SW.st (aD rfl) rfl ?_))
  refine SW.ah ?_;refine SF.take 3 [] [] aG rfl (by kernel_rfl) (by kernel_rfl) (by kernel_rfl) ?_;repeat ((show SW _ _ _ _ (⟨_,Op.load _ _,_,_,_,none⟩::_) _ _;refine SW.st (ao rfl (H.c8.cell rfl)) rfl ?_))
  refine SW.ah ?_;refine SF.take 4 [] [] aG rfl (by kernel_rfl) (by kernel_rfl) (by kernel_rfl) ?_;repeat (refine SW.pure rfl rfl ?_)
  refine SW.ah ?_;refine SF.take 5 [] [] aG rfl (by kernel_rfl) (by kernel_rfl) (by kernel_rfl) ?_;repeat (refine SW.pure rfl rfl ?_)
  refine SW.ah ?_;refine SF.take 6 [] [] aG rfl (by kernel_rfl) (by kernel_rfl) (by kernel_rfl) ?_;repeat ((show SW _ _ _ _ (⟨_,Op.nilCheck _,_,_,_,none⟩::_) _ _;refine SW.st (aK rfl) rfl ?_))
  refine SW.ah ?_;refine SF.take 7 [] [] aG rfl (by kernel_rfl) (by kernel_rfl) (by kernel_rfl) ?_;repeat ((show SW _ _ _ _ (⟨_,Op.fieldAddr _ _ _,_,_,_,none⟩::_) _ _;refine SW.st (aD rfl) rfl ?_))
  refine SW.ah ?_;refine SF.take 8 [] [] aG rfl (by kernel_rfl) (by kernel_rfl) (by kernel_rfl) ?_;repeat ((show SW _ _ _ _ (⟨_,Op.load _ _,_,_,_,none⟩::_) _ _;refine SW.st (ao rfl (H.c8.cell rfl)) rfl ?_))
  refine SW.ah ?_;refine SF.take 9 [] [] aG rfl (by kernel_rfl) (by kernel_rfl) (by kernel_rfl) ?_;repeat (refine SW.pure rfl rfl ?_)
  refine SW.ah ?_;refine SF.take 10 [] [] aG rfl (by kernel_rfl) (by kernel_rfl) (by kernel_rfl) ?_;repeat ((show SW _ _ _ _ (⟨_,Op.indexAddr _ _ _,_,_,_,none⟩::_) _ _;refine SW.st (bj rfl rfl (by assumption) (by omega)) rfl ?_))
  refine SW.ah ?_;refine SF.take 11 [] [] aG rfl (by kernel_rfl) (by kernel_rfl) (by kernel_rfl) ?_;repeat ((show SW _ _ _ _ (⟨_,Op.load _ _,_,_,_,none⟩::_) _ _;refine SW.st (aW rfl rfl ((H.zs.row.sl.all k0))) rfl ?_))
  refine SW.ah ?_;refine SF.take 12 [] [] aG rfl (by kernel_rfl) (by kernel_rfl) (by kernel_rfl) ?_;repeat (refine SW.pure rfl rfl ?_)
  refine SW.ah ?_;refine SF.take 13 [] [] aG rfl (by kernel_rfl) (by kernel_rfl) (by kernel_rfl) ?_;repeat (refine SW.pure rfl rfl ?_)
  refine SW.ah ?_;refine SF.one 14 rfl (by kernel_rfl) rfl ?_;refine SW.call rfl rfl (uO p.u0 s.1 b.At b.Order _ H.zs.z0.rd q1 q2 ⟨by omega,by omega⟩ ⟨by omega,by omega⟩) fun v w4 aj hv => ?_
  obtain ⟨u',rfl,iR⟩:=hv;replace iR:=iR.low hw.size;(replace hw:=Ext.trans hw aj;replace H:=H.ext aj);refine SW.nil (ae.sf aj ?_);refine SF.take 15 [] [] aG rfl (by kernel_rfl) (by kernel_rfl) (by kernel_rfl) ?_;repeat (refine SW.pure rfl rfl ?_)
  refine SW.ah ?_;refine SF.take 16 [] [] aG rfl (by kernel_rfl) (by kernel_rfl) (by kernel_rfl) ?_;repeat (refine SW.pure rfl rfl ?_)
  refine SW.ah ?_;refine SF.jI 17 aG rfl (by kernel_rfl) (by kernel_rfl) rfl (fun _=>ba rfl) rfl ?_;refine SF.take 18 [] [] aG rfl (by kernel_rfl) (by kernel_rfl) (by kernel_rfl) ?_;repeat ((show SW _ _ _ _ (⟨_,Op.indexAddr _ _ _,_,_,_,none⟩::_) _ _;refine SW.st (bj rfl rfl (by assumption) (by omega)) rfl ?_))
  refine SW.ah ?_;refine SF.last rfl (by kernel_rfl) (by kernel_rfl) ?_;refine SW.ik (enc:=bp) 0 u' H.zs.row rfl rfl k0 fun w5 DH hg => ?_
  rw [H.zs.own] at hg;have H5:=HS.BN H0 H k0 DH hg iR;have hK:k9 w k p w5 (ku p 0 u'):=((k9.refl w k p).ext hw).step hg (fun i e=>by cases e;exact .inl (.inr (.inl rfl))) (fun i e => .inl (qE.1 e))
  refine Wz ?_;exact ae.yH rfl ⟨_,rfl,ku p 0 u',jm.1,jm.2,by rw [eP];exact H5,hK⟩
 ·have eP:iG s b=k7 s ((1:Nat) : Int) (iM s.2 b.At b.Order).2:=by unfold iG;rw [if_neg (by omega)];simp [k7]
  simp only [if_neg hx] at cz;have k0 : 1<2:=by omega
  repeat' (first|refine Wz ?_|refine SW.st (aW rfl rfl ((fun _ _=>H.c8.cell))) rfl ?_|(refine SW.call rfl rfl (cz _ H.zs.row.sl) ?_;intro v w1 ab hv;subst hv;replace hw:=Ext.trans hw ab;replace H:=H.ext ab;clear ab))
  refine CW.iS 19 19 (fun _=>True) mixed (by kernel_rfl) fun w1 ab aG => ?_
  replace hw:=Ext.trans hw ab;replace H:=H.ext ab;clear ab;refine SF.take 0 [] [] aG rfl (by kernel_rfl) (by kernel_rfl) (by kernel_rfl) ?_;repeat (refine SW.pure rfl rfl ?_)
  refine SW.ah ?_;refine SF.take 1 [] [] aG rfl (by kernel_rfl) (by kernel_rfl) (by kernel_rfl) ?_;repeat ((show SW _ _ _ _ (⟨_,Op.nilCheck _,_,_,_,none⟩::_) _ _;refine SW.st (aK rfl) rfl ?_))
  refine SW.ah ?_;refine SF.take 2 [] [] aG rfl (by kernel_rfl) (by kernel_rfl) (by kernel_rfl) ?_;repeat ((show SW _ _ _ _ (⟨_,Op.fieldAddr _ _ _,_,_,_,none⟩::_) _ _;refine SW.st (aD rfl) rfl ?_))
  refine SW.ah ?_;refine SF.take 3 [] [] aG rfl (by kernel_rfl) (by kernel_rfl) (by kernel_rfl) ?_;repeat ((show SW _ _ _ _ (⟨_,Op.load _ _,_,_,_,none⟩::_) _ _;refine SW.st (ao rfl (H.c8.cell rfl)) rfl ?_))
  refine SW.ah ?_;refine SF.take 4 [] [] aG rfl (by kernel_rfl) (by kernel_rfl) (by kernel_rfl) ?_;repeat (refine SW.pure rfl rfl ?_)
  refine SW.ah ?_;refine SF.take 5 [] [] aG rfl (by kernel_rfl) (by kernel_rfl) (by kernel_rfl) ?_;repeat (refine SW.pure rfl rfl ?_)
  refine SW.ah ?_;refine SF.take 6 [] [] aG rfl (by kernel_rfl) (by kernel_rfl) (by kernel_rfl) ?_;repeat ((show SW _ _ _ _ (⟨_,Op.nilCheck _,_,_,_,none⟩::_) _ _;refine SW.st (aK rfl) rfl ?_))
  refine SW.ah ?_;refine SF.take 7 [] [] aG rfl (by kernel_rfl) (by kernel_rfl) (by kernel_rfl) ?_;repeat ((show SW _ _ _ _ (⟨_,Op.fieldAddr _ _ _,_,_,_,none⟩::_) _ _;refine SW.st (aD rfl) rfl ?_))
  refine SW.ah ?_;refine SF.take 8 [] [] aG rfl (by kernel_rfl) (by kernel_rfl) (by kernel_rfl) ?_;repeat ((show SW _ _ _ _ (⟨_,Op.load _ _,_,_,_,none⟩::_) _ _;refine SW.st (ao rfl (H.c8.cell rfl)) rfl ?_))
  refine SW.ah ?_;refine SF.take 9 [] [] aG rfl (by kernel_rfl) (by kernel_rfl) (by kernel_rfl) ?_;repeat (refine SW.pure rfl rfl ?_)
  refine SW.ah ?_;refine SF.take 10 [] [] aG rfl (by kernel_rfl) (by kernel_rfl) (by kernel_rfl) ?_;repeat ((show SW _ _ _ _ (⟨_,Op.indexAddr _ _ _,_,_,_,none⟩::_) _ _;refine SW.st (bj rfl rfl (by assumption) (by omega)) rfl ?_))
  refine SW.ah ?_;refine SF.take 11 [] [] aG rfl (by kernel_rfl) (by kernel_rfl) (by kernel_rfl) ?_;repeat ((show SW _ _ _ _ (⟨_,Op.load _ _,_,_,_,none⟩::_) _ _;refine SW.st (aW rfl rfl ((H.zs.row.sl.all k0))) rfl ?_))
  refine SW.ah ?_;refine SF.take 12 [] [] aG rfl (by kernel_rfl) (by kernel_rfl) (by kernel_rfl) ?_;repeat (refine SW.pure rfl rfl ?_)
  refine SW.ah ?_;refine SF.take 13 [] [] aG rfl (by kernel_rfl) (by kernel_rfl) (by kernel_rfl) ?_;repeat (refine SW.pure rfl rfl ?_)
  refine SW.ah ?_;refine SF.one 14 rfl (by kernel_rfl) rfl ?_;refine SW.call rfl rfl (uO p.u1 s.2 b.At b.Order _ H.zs.z1.rd p1 p2 ⟨by omega,by omega⟩ ⟨by omega,by omega⟩) fun v w4 aj hv => ?_
  obtain ⟨u',rfl,iR⟩:=hv;replace iR:=iR.low hw.size;(replace hw:=Ext.trans hw aj;replace H:=H.ext aj);refine SW.nil (ae.sf aj ?_);refine SF.take 15 [] [] aG rfl (by kernel_rfl) (by kernel_rfl) (by kernel_rfl) ?_;repeat (refine SW.pure rfl rfl ?_)
  refine SW.ah ?_;refine SF.take 16 [] [] aG rfl (by kernel_rfl) (by kernel_rfl) (by kernel_rfl) ?_;repeat (refine SW.pure rfl rfl ?_)
  refine SW.ah ?_;refine SF.jI 17 aG rfl (by kernel_rfl) (by kernel_rfl) rfl (fun _=>ba rfl) rfl ?_;refine SF.take 18 [] [] aG rfl (by kernel_rfl) (by kernel_rfl) (by kernel_rfl) ?_;repeat ((show SW _ _ _ _ (⟨_,Op.indexAddr _ _ _,_,_,_,none⟩::_) _ _;refine SW.st (bj rfl rfl (by assumption) (by omega)) rfl ?_))
  refine SW.ah ?_;refine SF.last rfl (by kernel_rfl) (by kernel_rfl) ?_;refine SW.ik (enc:=bp) 1 u' H.zs.row rfl rfl k0 fun w5 DH hg => ?_
  rw [H.zs.own] at hg;have H5:=HS.BN H0 H k0 DH hg iR;have hK:k9 w k p w5 (ku p 1 u'):=((k9.refl w k p).ext hw).step hg (fun i e=>by cases e;exact .inl (.inr (.inl rfl))) (fun i e => .inl (qE.1 e))
  refine Wz ?_;exact ae.yH rfl ⟨_,rfl,ku p 1 u',jm.1,jm.2,by rw [eP];exact H5,hK⟩
theorem HS.drop {wb w w':World} {k:HK} {p:HP} {s:ar×ar} {L:List aC} (h:HS wb w k p s L) (hb:aJ w' k.b 41 (bm (k.h ⟨p.u0,p.u1,.nil,[]⟩))) (hg:w.grownBy w' (some k.b)) : HS wb w' k ⟨p.u0,p.u1,.nil,[]⟩ s []:=by
 have hG:=h.c8.gr hg;exact ⟨hb,h.zs.ay hG rfl,h.ck.ay hG rfl,h.live.ay hG rfl,cX.nil _ _,pp.nil _ _,h.sf,h.DF,h.base.own h.DF hg⟩
theorem BW {k:HK} {p:HP} {i:Nat} (h:gE k ⟨p.u0,p.u1,.nil,[]⟩ i) : gE k p i:=by
 rcases h with h|h|h|⟨z,hz,h⟩
 ·exact .inl h
 ·exact .inr (.inl h)
 ·cases h
 ·simp at hz
set_option maxHeartbeats 2000000 in
theorem zH (k:HK) (p:HP) (h:Heap) (z0 z1:ar) (hd:lA h z0 z1) (hs:h.small) (wb w:World) (H:HS wb w k p (z0,z1) h.av) :
 gX Tryz.prog 154 [.pointer (some ⟨k.b,0,none⟩)] w fun v w' => ∃ p',HS wb w' k p' (dt (z0,z1) (aT h.av)) []∧k9 w k p w' p':=by
 refine dB Tryz.func154 rfl Tryz.ntmps154 rfl ?_;have hw:=Ext.refl w;have mn:=H.ls.rd.len;have s4:=hs.lists;have FW:=H.ls.row.sl.base;repeat' (first|refine Wz ?_|refine SW.st (ao rfl (H.c8.cell rfl)) rfl ?_)
 refine CW.loop (fun t:Nat×HP=>[(0,.pointer (some ⟨k.b,0,none⟩)),(9,.slice p.li.A p.li.n p.li.c),(10,.int .i64 (p.li.n:Int)),(11,.int .i64 (t.1:Int))])
  (fun t w'=>t.1≤p.li.n∧t.2.li=p.li∧t.2.ls=p.ls∧HS wb w' k t.2 (iH h z0 z1 (gC h.av t.1)) h.av∧k9 w k p w' t.2) (fun t=>p.li.n-t.1) (0,p)
  ⟨rfl,rfl,rfl,rfl,trivial⟩ ⟨by omega,rfl,rfl,by simpa [iH,gC,aT,dt] using H,k9.refl _ _ _⟩ ?_
 clear hw H FW;rintro ⟨i,p1⟩ w ⟨hi,e1,e2,H,K0⟩
 simp only at hi e1 e2 H K0 ⊢;have hw:=Ext.refl w;have dw:Sl w 4 bq p.li.A p.li.n p.ls:=by have:=H.ls.row.sl;rwa [e1,e2] at this
 have hA:=dw.base;by_cases cf:i<p.li.n
 ·have kK:i<h.av.length:=by omega
  have lE:i<p.ls.length:=by omega
  have tg:h.av[i].ax.length=(p.ls[i]'lE).ax.n:=by
   have:=(H.ls.each.get i (by rw [e2];exact lE) kK).bL.len
   simpa only [e2] using this
  have Lu:=hs.bL _ (List.getElem_mem kK);obtain ⟨y,hy⟩ : ∃ y,p.ls[i]'lE=y:=⟨_,rfl⟩;have DM:=dw.all cf;rw [hy] at DM tg;repeat' (first|refine Wz ?_|refine SW.st (aW rfl rfl DM) rfl ?_)
  refine SW.alloc rfl fun b3 w1 ab bH aq => ?_
  skip;refine SW.ak aq rfl rfl rfl rfl (fw.one (enc:=bq) _) fun w2 cK hg => ?_
  have aj:=ab.own bH hg;have cw:w.heap.size≤b3:=Nat.le_trans hw.size bH
  replace hw:=Ext.trans hw aj;replace H:=H.ext aj;replace K0:=K0.ext aj;replace aq:=cK;clear cK ab hg aj
  have Av:∀ (w':World) (q:HP) (s:ar×ar),q.ls=p.ls→HS wb w' k q s h.av→Own w' wb.heap.size 3 1 bd y.ax.A y.ax.n y.ax.c h.av[i].ax:=fun w' q s eq hh=>by
   have:=(hh.ls.each.get i (by rw [eq];exact lE) kK).bL
   simpa only [eq,hy] using this
  have hP:=Av _ p1 _ e2 H;have uG:=hP.sl.base;repeat' (first|refine Wz ?_|fail)
  refine CW.loop (fun t:Nat×HP=>[(0,.pointer (some ⟨k.b,0,none⟩)),(9,.slice p.li.A p.li.n p.li.c),(10,.int .i64 (p.li.n:Int)),(11,.int .i64 (i:Int)),(16,.slice y.ax.A y.ax.n y.ax.c),(17,.int .i64 (y.ax.n:Int)),(18,.int .i64 (t.1:Int))])
   (fun t w'=>t.1≤y.ax.n∧t.2.li=p.li∧t.2.ls=p.ls∧HS wb w' k t.2 (iH h z0 z1 (gC h.av i+t.1)) h.av∧k9 _ k p w' t.2) (fun t=>y.ax.n-t.1) (0,p1)
   ⟨rfl,rfl,rfl,rfl,rfl,rfl,rfl,trivial⟩ ⟨by omega,e1,e2,H,K0⟩ ?_
  clear hw H K0 aq hP uG dw DM bH cw e1 e2 p1;rintro ⟨j,p1⟩ w' ⟨hj,e1,e2,H,K0⟩
  simp only at hj e1 e2 H K0 ⊢;have hw:=Ext.refl w';have hP:=Av _ p1 _ e2 H;have uG:=hP.sl.base;by_cases je:j<y.ax.n
  ·have kV:j<h.av[i].ax.length:=by omega
   obtain ⟨hK,LN⟩:=Ap kK kV;have hN:=hd.next hK;have hD:=hd.inv (gC h.av i+j) (by omega);have hT:=lZ (z0,z1) (aT h.av) _ hK;rw [LN] at hN hT;have EP:iH h z0 z1 (gC h.av i+(j+1))=iG (iH h z0 z1 (gC h.av i+j)) (db h.av[i].ax[j]):=hT
   repeat' (first|refine Wz ?_|refine SW.st (ao rfl (hP.sl.one je rfl)) rfl ?_)
   refine SW.da rfl rfl (BV k p1 _ h.av _ (db h.av[i].ax[j]) wb _ H hD hN) fun v w5 hv => ?_
   obtain ⟨p2,e3,e4,H5,K5⟩:=hv;repeat' (first|refine Wz ?_|fail);refine ae.again (j+1,p2) ⟨rfl,rfl,rfl,rfl,rfl,rfl,rfl,trivial⟩ (by simp only;omega) ⟨by simp only;omega,e3.trans e1,e4.trans e2,?_,K0.trans K5⟩;simp only;rw [EP];exact H5
  ·have ej:gC h.av i+j=gC h.av (i+1):=by rw [sU kK];omega
   rw [ej] at H;repeat' (first|refine Wz ?_|fail);exact ae.again (i+1,p1) ⟨rfl,rfl,rfl,rfl,trivial⟩ (by simp only;omega) ⟨by simp only;omega,e1,e2,H,K0⟩
 ·have ei:i=h.av.length:=by omega
  have Hp:iH h z0 z1 (gC h.av i)=dt (z0,z1) (aT h.av):=by
   rw [ei,vT,iH,List.take_of_length_le (Nat.le_refl _)]
  rw [Hp] at H;repeat' (first|refine Wz ?_|fail);refine SW.bA (i:=3) H.c8 rfl rfl rfl rfl fun w6 px hg => ?_
  have H6:=H.drop px hg;have K6:=K0.step hg (fun i e=>by cases e;exact .inl (.inl rfl)) (fun i e => .inl (BW e));repeat' (first|refine Wz ?_|fail);exact ae.yH rfl ⟨_,rfl,_,H6,K6⟩
open Go.RowKit
theorem tM (r:eB) (l:List Block) (a:Int) (w:World) (hl:Sl w 3 aA r.Live.A r.Live.n l) (hu:l.Pairwise fun x y=>x.At<y.At) (hb:∀ b∈l,0≤b.At∧b.At≤255) (hn:r.Live.n≤1000000000000000000) (ha : 0≤a∧a<256) :
 bo Tryz.prog 107 [.agg (bm r).toArray,.int .i64 a] w fun v _=>v = .tuple #[.int .i64 (bG l a:Int),.bool (cc l a)]:=by
 refine aI Tryz.func107 rfl Tryz.ntmps107 rfl ?_;refine CW.seq (CW.region (SW.box rfl rfl fun b1 w1 hw gV aB => ?_));refine Wz ?_
 refine SW.call rfl rfl (jA _ _ _ _ a _ (hl.ext hw) _ (fun x hx w' _=>by
  have:=xy x a w'
  have h:=hb x hx;rwa [iw (by omega) (by omega)] at this) hu hn) fun v w2 cq hv => ?_
 subst hv;replace hw:=Ext.trans hw cq;refine Wz ?_;exact ae.cx rfl rfl rfl ⟨_,rfl,hw,rfl⟩
def fE (lo:Nat) (u:Heap×Int×Int) (v:Value) (w:World) : Prop := ∃ s:eB,v = .tuple #[.agg (bm s).toArray,.int .i64 u.2.1,.int .i64 u.2.2]∧iD w lo s u.1
theorem fE.zero (e:Int) (lo:Nat) (w:World) : fE lo (.zero,0,e) (.tuple #[.agg (bm .zero).toArray,.int .i64 0,.int .i64 e]) w:=⟨.zero,rfl,iD.zero w lo⟩
theorem HS.DN {wb w:World} {k:HK} {p:HP} {s:ar×ar} {L:List aC} {i:Nat} {cs:List Value} (h:HS wb w k p s L) (hB:aJ w i 41 cs) (cG:i≠k.b) : ¬ gE k p i:=fun hm=>by
 rcases hm with e|e|e|⟨y,hy,e⟩
 ·exact cG e
 ·exact h.zs.row.dm hB rfl (by rw [h.zs.own,e])
 ·exact h.ls.row.dm hB rfl e
 ·obtain ⟨l,_,hl⟩:=h.Js hy;exact hl.bL.dm hB rfl e
theorem yd {h:Heap} (hm:bD h) : oh h.bJ (bT h 0) (bT h 1):=by
 obtain ⟨m0,m1,e,h0,h1⟩:=hm.ck;unfold bT;rw [e];exact ⟨rfl,h0,h1⟩
set_option maxHeartbeats 8000000 in
theorem qF (r:eB) (h:Heap) (cpu o f:Int) (w:World) (hr:wI w r h) (hs:h.small) (C8:∀ z∈h.aQ,qX z) (hO:nR w) :
 bo Tryz.prog 67 [.agg (bm r).toArray,.int .i64 cpu,.int .i64 o,.int .i64 f] w fun v w' => ∃ u,di h cpu o f u∧fE w.heap.size u v w':=by
 refine aI Tryz.func67 rfl Tryz.ntmps67 rfl ?_;refine CW.seq (CW.region (SW.box rfl rfl fun b4 w1 hw mA bZ => ?_));have mP:=mA;refine SW.alloc rfl fun b8 w2 cq kY bw => ?_
 have jr:w.heap.size≤b8:=Nat.le_trans hw.size kY
 have AB:b4≠b8:=by have:=bZ.lt;omega
 (replace hw:=Ext.trans hw cq;replace bZ:=bZ.ext cq);have eC:=hr.dY;obtain ⟨q,hq⟩ : ∃ q,iN h=q:=⟨_,rfl⟩
 have c1:∀ w',Ext w w'→bo Tryz.prog 88 [.agg (bm r).toArray] w' fun v _=>v = .int .i64 (if q then 0 else 8):=fun w' hx=>by
  have:=sY r h w' (hr.ext hx) hs C8
  rwa [hq] at this
 cases q
 ·simp only [Bool.false_eq_true,if_false] at c1;repeat' (first|refine Wy ?_|refine SW.st (aW rfl rfl ((fun _ _=>bZ.cell))) rfl ?_|(refine SW.call rfl rfl (c1 _ hw) ?_;intro v w1 ab hv;subst hv;replace hw:=Ext.trans hw ab;replace bZ:=bZ.ext ab;replace bw:=bw.ext ab;clear ab))
  refine SW.ak bw rfl rfl rfl rfl (cn .zero) fun w5 bF hg => ?_
  replace hw:=hw.own jr hg;repeat' (first|refine Wy ?_|fail);exact ae.cl rfl rfl rfl rfl bF rfl ⟨_,rfl,hw,_,.bad hq,fE.zero 8 _ _⟩
 ·simp only [if_true] at c1;have hm:=ig.1 hq;obtain ⟨z0,z1,F⟩:=lC hm;by_cases hc:(0≤cpu∧cpu<h.bY)∧0≤o∧o≤4
  ·obtain ⟨q2,Ep⟩ : ∃ q2,decide (0≤dL f)=q2:=⟨_,rfl⟩
   have c2:∀ w',bo Tryz.prog 152 [.int .i64 f] w' fun v _=>v = .tuple #[.int .i64 (if 0≤dL f then dL f else 0),.bool q2]:=fun w'=>by
    have:=zF f w'
    rwa [Ep] at this
   cases q2
   ·have ht:=of_decide_eq_false Ep;repeat' (first|refine Wy ?_|(refine CW.bO rfl ?_)|refine SW.st (aW rfl rfl ((fun _ _=>bZ.cell))) rfl ?_|refine SW.st (ao rfl (bZ.cell (i:=2) (v := .int .i64 r.bY) rfl)) rfl ?_|((first|refine SW.call rfl rfl (c1 _ hw) ?_|refine SW.call rfl rfl (c2 _) ?_);intro v w1 ab hv;subst hv;replace hw:=Ext.trans hw ab;replace bZ:=bZ.ext ab;replace bw:=bw.ext ab;clear ab))
    all_goals try omega
    refine SW.ak bw rfl rfl rfl rfl (cn .zero) fun w5 bF hg => ?_
    replace hw:=hw.own jr hg;repeat' (first|refine Wy ?_|fail);exact ae.cl rfl rfl rfl rfl bF rfl ⟨_,rfl,hw,_,.form hq hc (by omega),fE.zero 3 _ _⟩
   ·have ht:=of_decide_eq_true Ep;obtain ⟨hf,nC⟩:=xW ht;obtain ⟨t,zI⟩ : ∃ t,dL f=t:=⟨_,rfl⟩;have mD : 0≤t:=by rw [← zI];exact ht
    simp only [zI,if_pos mD] at c2;repeat' (first|refine Wy ?_|(refine CW.bB rfl ?_)|refine SW.st (aW rfl rfl ((fun _ _=>bZ.cell))) rfl ?_|refine SW.st (ao rfl (bZ.cell (i:=2) (v := .int .i64 r.bY) rfl)) rfl ?_|((first|refine SW.call rfl rfl (c1 _ hw) ?_|refine SW.call rfl rfl (c2 _) ?_);intro v w1 ab hv;subst hv;replace hw:=Ext.trans hw ab;replace bZ:=bZ.ext ab;replace bw:=bw.ext ab;clear ab))
    all_goals try omega
    clear c1 c2;refine SW.call rfl rfl (sN r h _ (hr.ext hw) hs) fun v w4 iK hv => ?_
    obtain ⟨s,rfl,DO⟩:=hv;have hM:=DO.own.ck.low hw.size;have hV:=DO.own.live.low hw.size;have Hq:=DO.own.dY;obtain ⟨g,c,u0,u1,ls,eZ,hZ,hL,xl,GW⟩:=DO.split F.d.cQ;have hZ:dT w4 w.heap.size g c u0 u1 (z0,z1):=⟨hZ.row.low hw.size,hZ.z0.low hw.size,hZ.z1.low hw.size,Nat.le_trans hw.size hZ.zm,hZ.pos⟩
    replace hL:=hL.low hw.size;clear DO;(replace hw:=Ext.trans hw iK;replace bZ:=bZ.ext iK;replace bw:=bw.ext iK);obtain ⟨sz,m,cp,li,lv⟩:=s;simp only at eZ hM hV hL xl GW Hq;subst eZ;refine SW.ak bZ rfl rfl rfl rfl (cn ⟨⟨some ⟨g,0,none⟩,2,c⟩,m,cp,li,lv⟩) fun w5 rF hg => ?_
    have hG:=bZ.gr hg;replace hw:=hw.own mP hg;replace bw:=bw.grown hg (by simpa using Ne.symm AB);(replace hZ:=hZ.ay hG rfl;replace hM:=hM.ay hG rfl;replace hV:=hV.ay hG rfl;replace hL:=hL.ay hG rfl);have H:HS w w5 ⟨b4,g,c,m,lv,cp,h.bJ,h.Live⟩ ⟨u0,u1,li,ls⟩ (z0,z1) h.av:=⟨rF,hZ,hM,hV,hL,xl,GW,mP,hw⟩
    obtain ⟨k,hk⟩ : ∃ k:HK,k=⟨b4,g,c,m,lv,cp,h.bJ,h.Live⟩:=⟨_,rfl⟩;obtain ⟨p0,Il⟩ : ∃ p:HP,p=⟨u0,u1,li,ls⟩:=⟨_,rfl⟩;rw [← hk,← Il] at H;have OL:k.b=b4:=by rw [hk]
    have Fp:k.V=h.Live:=by rw [hk]
    have Ga:k.M=h.bJ:=by rw [hk]
    have Ko:k.cp=h.bY:=by rw [hk];exact Hq
    clear bZ rF hZ hM hV hL xl GW hG hg hk Il Hq;subst OL;have Im:oh k.M (bT h 0) (bT h 1):=by rw [Ga];exact yd hm
    have Ih:=F.d.start.vs;have Ju:=H.DN bw (Ne.symm AB);have de:=rV F.live
    have II:∀ b∈h.Live,0≤b.At∧b.At≤255:=fun b hb=>by
     obtain ⟨j,hj,rfl⟩:=List.getElem_of_mem hb;have:=(F.next hj).at_
     omega
    have mn:=tG F;repeat' (first|refine Wy ?_|fail);refine SW.da rfl rfl (rf k p0 (z0,z1) h.av _ _ cpu o t f w _ H hO Im Ih F.y8 F.lists F.count hc.2 hf) fun v w6 vn => ?_
    obtain ⟨q1,rX,rfl,p1,H1,K1⟩:=vn;have DP:=K1.not Ju bw.lt;replace bw:=K1.c8 bw Ju;clear H hw Ju;have hw:=H1.base;cases q1 with
    | none =>
      simp only [DI,BS] at H1;have M1:=ga F.d;repeat' (first|refine Wy ?_|(refine CW.bO rfl ?_))
      refine SW.da rfl rfl (zH k p1 h z0 z1 F.d hs w _ H1) fun v w7 LJ => ?_
      obtain ⟨p2,H2,K2⟩:=LJ;have Hr:=K2.not DP bw.lt;replace bw:=K2.c8 bw DP;clear H1 hw DP;have hw:=H2.base;repeat' (first|refine Wy ?_|fail);refine SW.da rfl rfl (rf k p2 _ [] _ _ cpu o t f w _ H2 hO Im M1.vs List.Pairwise.nil (fun l hl=>by simp at hl) (by simp) hc.2 hf) fun v w8 LG => ?_
      obtain ⟨q3,Jd,rfl,p3,H3,K3⟩:=LG;have Jx:=K3.not Hr bw.lt;replace bw:=K3.c8 bw Hr;clear H2 hw Hr;have hw:=H3.base;cases q3 with
      | none =>
        repeat' (first|refine Wy ?_|(refine CW.bO rfl ?_))
        refine SW.ak bw rfl rfl rfl rfl (cn .zero) fun w5 bF hg => ?_
        replace hw:=hw.own jr hg;repeat' (first|refine Wy ?_|fail);exact ae.cl rfl rfl rfl rfl bF rfl ⟨_,rfl,hw,_,.room hq hc ht F.d.cQ (by rw [zI];exact rX) (by rw [zI];exact Jd),fE.zero 6 _ _⟩
      | some q3 =>
        obtain ⟨s3,L3,a⟩:=q3;simp only [DI,BS] at H3;obtain ⟨i,Jy,Hh,DQ⟩:=mf F (Jd.found M1.vs).2;have Jy:a=(i:Int):=Jy
        have Hs:di h cpu o f (k8 h s3 L3 (gD h a o t),a,0):=by
         have:=di.nu hq hc ht F.d.cQ (by rw [zI];exact rX) (by rw [zI];exact Jd)
         rw [zI] at this;exact this
        have GV:=H3.live.len;rw [Fp] at GV;obtain ⟨fd,LO⟩ : ∃ fd,cc h.Live a=fd:=⟨_,rfl⟩
        have c3:∀ w',Sl w' 3 aA k.lv.A k.lv.n h.Live→bo Tryz.prog 107 [.agg (bm (k.h p3)).toArray,.int .i64 a] w' fun v _=>v = .tuple #[.int .i64 (bG h.Live a:Int),.bool fd]:=fun w' hh=>by
         have:=tM (k.h p3) h.Live a w' hh de II (by simp only;omega) ⟨by omega,by omega⟩
         rwa [LO] at this
        have hV:=H3.live;rw [Fp] at hV;have bZ:=H3.c8;have hZ:=H3.zs;have hM:=H3.ck;have hL:=H3.ls;rw [Ga] at hM;have Ii:=H3.sf;clear H3;have FP:=hV.lt_size;repeat' (first|refine Wy ?_|(refine CW.bB rfl ?_)|refine SW.st (aW rfl rfl ((fun _ _=>bZ.cell))) rfl ?_|(refine SW.call rfl rfl (c3 _ hV.sl) ?_;intro v w1 ab hv;subst hv;replace hw:=Ext.trans hw ab;replace bZ:=bZ.ext ab;replace bw:=bw.ext ab;replace hV:=hV.ext ab;replace hZ:=hZ.ext ab;replace hM:=hM.ext ab;replace hL:=hL.ext ab;clear ab))
        repeat' (first|refine Wy ?_|refine SW.st (ao rfl (bZ.cell (i:=4) (v := .slice k.lv.A k.lv.n k.lv.c) rfl)) rfl ?_)
        refine SW.bK rfl rfl rfl rfl rfl fun b w9 aj Ld hB => ?_
        have m9:aU k.lv.A k.lv.c≠some b:=fun e=>by have:=hV.lt_size _ e;omega
        (replace hw:=Ext.trans hw aj;replace bZ:=bZ.ext aj;replace bw:=bw.ext aj;replace hV:=hV.ext aj;replace hZ:=hZ.ext aj;replace hM:=hM.ext aj;replace hL:=hL.ext aj);skip;have sw:bG h.Live a≤h.Live.length:=List.findIdx_le_length
        refine SW.da rfl rfl (fA k.lv.A k.lv.n k.lv.c w.heap.size h.Live _ hV (bG h.Live a) (by omega) ⟨a,o,t⟩ b hB m9 (by omega) hw.size) fun v mw hv => ?_
        obtain ⟨A',c',rfl,BQ,hg⟩:=hv;have hG:=hV.gr hg;replace hw:=aF hw hg (Nat.le_refl _) hV.aM;replace hZ:=hZ.Di Ii hg hG;(replace bZ:=bZ.ay hG rfl;replace bw:=bw.ay hG rfl;replace hM:=hM.ay hG rfl;replace hL:=hL.ay hG rfl);repeat' (first|refine Wy ?_|fail);refine SW.bA (i:=4) bZ rfl rfl rfl rfl fun qG rF hg => ?_
        have hG:=bZ.gr hg;replace hw:=hw.own mP hg;replace bw:=bw.grown hg (by simpa using Ne.symm AB);(replace hZ:=hZ.ay hG rfl;replace hM:=hM.ay hG rfl;replace hL:=hL.ay hG rfl;replace BQ:=BQ.ay hG rfl);replace bZ:aJ qG k.b 41 (bm ⟨⟨some ⟨k.g,0,none⟩,2,k.c⟩,k.m,k.cp,p3.li,⟨A',k.lv.n+1,c'⟩⟩):=rF;repeat' (first|refine Wy ?_|refine SW.st (aW rfl rfl ((fun _ _=>bZ.cell))) rfl ?_)
        refine SW.ak bw rfl rfl rfl rfl (cn ⟨⟨some ⟨k.g,0,none⟩,2,k.c⟩,k.m,k.cp,p3.li,⟨A',k.lv.n+1,c'⟩⟩) fun Ck bF hg => ?_
        have hG:=bw.gr hg;replace hw:=hw.own jr hg;(replace hZ:=hZ.ay hG rfl;replace hM:=hM.ay hG rfl;replace hL:=hL.ay hG rfl;replace BQ:=BQ.ay hG rfl);repeat' (first|refine Wy ?_|fail);exact ae.cl rfl rfl rfl rfl bF rfl ⟨_,rfl,hw,_,Hs,⟨⟨some ⟨k.g,0,none⟩,2,k.c⟩,k.m,k.cp,p3.li,⟨A',k.lv.n+1,c'⟩⟩,rfl,⟨Ko,hM,BQ,⟨[p3.u0,p3.u1],⟨hZ.row,eA.two hZ.z0 hZ.z1⟩⟩,⟨p3.ls,hL⟩⟩⟩
    | some q3 =>
      obtain ⟨s3,L3,a⟩:=q3;simp only [DI,BS] at H1;obtain ⟨i,Jy,Hh,DQ⟩:=nJ F (rX.found Ih).2;have Jy:a=(i:Int):=Jy
      have Hs:di h cpu o f (k8 h s3 L3 (gD h a o t),a,0):=by
       have:=di.once hq hc ht F.d.cQ (by rw [zI];exact rX)
       rw [zI] at this;exact this
      have H3:=H1;have Jx:=DP;obtain ⟨p3,OM⟩ : ∃ p3,p1=p3:=⟨_,rfl⟩;rw [OM] at H3 Jx;clear H1 DP;have GV:=H3.live.len;rw [Fp] at GV;obtain ⟨fd,LO⟩ : ∃ fd,cc h.Live a=fd:=⟨_,rfl⟩
      have c3:∀ w',Sl w' 3 aA k.lv.A k.lv.n h.Live→bo Tryz.prog 107 [.agg (bm (k.h p3)).toArray,.int .i64 a] w' fun v _=>v = .tuple #[.int .i64 (bG h.Live a:Int),.bool fd]:=fun w' hh=>by
       have:=tM (k.h p3) h.Live a w' hh de II (by simp only;omega) ⟨by omega,by omega⟩
       rwa [LO] at this
      have hV:=H3.live;rw [Fp] at hV;have bZ:=H3.c8;have hZ:=H3.zs;have hM:=H3.ck;have hL:=H3.ls;rw [Ga] at hM;have Ii:=H3.sf;clear H3;have FP:=hV.lt_size;repeat' (first|refine Wy ?_|(refine CW.bB rfl ?_)|refine SW.st (aW rfl rfl ((fun _ _=>bZ.cell))) rfl ?_|(refine SW.call rfl rfl (c3 _ hV.sl) ?_;intro v w1 ab hv;subst hv;replace hw:=Ext.trans hw ab;replace bZ:=bZ.ext ab;replace bw:=bw.ext ab;replace hV:=hV.ext ab;replace hZ:=hZ.ext ab;replace hM:=hM.ext ab;replace hL:=hL.ext ab;clear ab))
      repeat' (first|refine Wy ?_|refine SW.st (ao rfl (bZ.cell (i:=4) (v := .slice k.lv.A k.lv.n k.lv.c) rfl)) rfl ?_)
      refine SW.bK rfl rfl rfl rfl rfl fun b w9 aj Ld hB => ?_
      have m9:aU k.lv.A k.lv.c≠some b:=fun e=>by have:=hV.lt_size _ e;omega
      (replace hw:=Ext.trans hw aj;replace bZ:=bZ.ext aj;replace bw:=bw.ext aj;replace hV:=hV.ext aj;replace hZ:=hZ.ext aj;replace hM:=hM.ext aj;replace hL:=hL.ext aj);skip;have sw:bG h.Live a≤h.Live.length:=List.findIdx_le_length
      refine SW.da rfl rfl (fA k.lv.A k.lv.n k.lv.c w.heap.size h.Live _ hV (bG h.Live a) (by omega) ⟨a,o,t⟩ b hB m9 (by omega) hw.size) fun v mw hv => ?_
      obtain ⟨A',c',rfl,BQ,hg⟩:=hv;have hG:=hV.gr hg;replace hw:=aF hw hg (Nat.le_refl _) hV.aM;replace hZ:=hZ.Di Ii hg hG;(replace bZ:=bZ.ay hG rfl;replace bw:=bw.ay hG rfl;replace hM:=hM.ay hG rfl;replace hL:=hL.ay hG rfl);repeat' (first|refine Wy ?_|fail);refine SW.bA (i:=4) bZ rfl rfl rfl rfl fun qG rF hg => ?_
      have hG:=bZ.gr hg;replace hw:=hw.own mP hg;replace bw:=bw.grown hg (by simpa using Ne.symm AB);(replace hZ:=hZ.ay hG rfl;replace hM:=hM.ay hG rfl;replace hL:=hL.ay hG rfl;replace BQ:=BQ.ay hG rfl);replace bZ:aJ qG k.b 41 (bm ⟨⟨some ⟨k.g,0,none⟩,2,k.c⟩,k.m,k.cp,p3.li,⟨A',k.lv.n+1,c'⟩⟩):=rF;repeat' (first|refine Wy ?_|refine SW.st (aW rfl rfl ((fun _ _=>bZ.cell))) rfl ?_)
      refine SW.ak bw rfl rfl rfl rfl (cn ⟨⟨some ⟨k.g,0,none⟩,2,k.c⟩,k.m,k.cp,p3.li,⟨A',k.lv.n+1,c'⟩⟩) fun Ck bF hg => ?_
      have hG:=bw.gr hg;replace hw:=hw.own jr hg;(replace hZ:=hZ.ay hG rfl;replace hM:=hM.ay hG rfl;replace hL:=hL.ay hG rfl;replace BQ:=BQ.ay hG rfl);repeat' (first|refine Wy ?_|fail);exact ae.cl rfl rfl rfl rfl bF rfl ⟨_,rfl,hw,_,Hs,⟨⟨some ⟨k.g,0,none⟩,2,k.c⟩,k.m,k.cp,p3.li,⟨A',k.lv.n+1,c'⟩⟩,rfl,⟨Ko,hM,BQ,⟨[p3.u0,p3.u1],⟨hZ.row,eA.two hZ.z0 hZ.z1⟩⟩,⟨p3.ls,hL⟩⟩⟩
  ·repeat' (first|refine Wy ?_|refine SW.cV rfl rfl rfl (fun h => ?_) (fun h => ?_)|refine SW.st (aW rfl rfl ((fun _ _=>bZ.cell))) rfl ?_|refine SW.st (ao rfl (bZ.cell (i:=2) (v := .int .i64 r.bY) rfl)) rfl ?_|(refine SW.call rfl rfl (c1 _ hw) ?_;intro v w1 ab hv;subst hv;replace hw:=Ext.trans hw ab;replace bZ:=bZ.ext ab;replace bw:=bw.ext ab;clear ab))
   all_goals try omega
   all_goals
    refine SW.ak bw rfl rfl rfl rfl (cn .zero) fun w5 bF hg => ?_
    replace hw:=hw.own jr hg;repeat' (first|refine Wy ?_|fail);exact ae.cl rfl rfl rfl rfl bF rfl ⟨_,rfl,hw,_,.range hq hc,fE.zero 1 _ _⟩
open Go.RowKit
theorem SW.lJ {P:Program} {n:Nat} {ops:Array Oper} {Q:Exit→Act→World→Prop} {rest:List Oper} {L:Env} {w:World} {T:TypeId} {pos:String} {af:Array Edge} {t:TypeId} {k:Nat} [G:gz P t k] {b:Nat} {tb:TypeId} {cs vs:List Value} {x y:Operand} (o:Nat)
 (hB:aJ w b tb cs) (hx:bR L x=some (.pointer (some ((⟨b,0,none⟩ : Addr).add o)))) (hy:bR L y=some (.agg vs.toArray)) (hl:vs.length=k) (hc:o+k≤cs.length) (h1:∀ v∈vs,v.oneCell'=true) (cs':List Value) (gG:cs.take o++vs++cs.drop (o+k)=cs')
 (h:∀ w',aJ w' b tb cs'→w.grownBy w' (some b)→SW P n ops (.ff Q) rest L w') : SW P n ops (.ff Q) (⟨none,.store t x y,T,pos,af,none⟩::rest) L w :=
 ⟨fun a ha=>by
  rw [c7] at hx;have rO:=run_storeCells_at P b o tb vs 0 cs.toArray w hB (by simp only [List.size_toArray];omega) h1;simp only [Nat.add_zero,hl,gG] at rO;simp only [swp,wpList,Region.wanted,if_true];refine .inl ?_;unfold Oper.wp
  have zh:(execOp a.eval ⟨none,.store t x y,T,pos,af,none⟩).run P w = .ok .skip (w.setRow b cs'.toArray):=by
   simp [execOp,ha.eval hx,ha.eval hy,Instr.storeAt,Instr.sureAddr,storeVar,Value.cells,run_sizeOf G.size,hl,rO]
  rw [zh,Oper.upon_skip];obtain ⟨rq,wZ⟩:=ew (cs:=cs') hB;exact (h _ rq wZ).out _ ha⟩
end Go.Proofs.YtbidkghlpijecaaGreatDoor
