/-
  Texts of the claim TopRoom, part 19: what its theorem leans on.
-/
import Derived.Test.YtbidkghlpijecaaGreatDoorPackTopRoom18
import Derived.Test.YtbidkghlpijecaaGreatDoorPackTopRoom3
import Derived.Test.YtbidkghlpijecaaGreatDoorPackTopRoom16
import Derived.Test.YtbidkghlpijecaaGreatDoorPackTopRoom7
import Derived.Test.YtbidkghlpijecaaGreatDoorPackTopRoom2
import Derived.Test.YtbidkghlpijecaaGreatDoorPackTopRoom14
set_option linter.unusedVariables false
set_option linter.unusedSimpArgs false
namespace Go.Proofs.YtbidkghlpijecaaGreatDoor
open Go.RowKit
def fV (A:Option Addr) (n c:Nat) (B:Option Addr) (m d:Nat) (split least cpus:Int) : List Value:=[.slice A n c,.slice B m d,.int .i64 split,.int .i64 least,.int .i64 cpus]
theorem IR {w:World} {b t:Nat} {A:Option Addr} {n c:Nat} {B:Option Addr} {m d:Nat} {split least cpus:Int} (h:aT w b t (fV A n c B m d split least cpus)) : ∀ j v,(kX A n c B m d)[j]?=some v→w.cell? ((((⟨b,0,none⟩ : Addr)).add 0).add j)=some v:=fun j v hv=>by
 rw [add_add];refine h.cell (i:=0+j) ?_
 match j,hv with
 | 0,hv=>exact hv
 | 1,hv=>exact hv
set_option maxHeartbeats 4000000 in
theorem yB (A:Option Addr) (n c:Nat) (B:Option Addr) (m d:Nat) (x y:List Region) (split least cpus:Int) (w:World) (hx:Sl w 2 gp A n x) (hy:Sl w 2 gp B m y) (hn:n≤9223372036854775807) (hm:m≤9223372036854775807) (Fp : -9223372036854775808≤split∧split≤9223372036854775807) (hS:jU w) :
 bl Tryz.prog 24 [.agg (fV A n c B m d split least cpus).toArray] w fun v w' => ∃ u,gg (gF 256 x y) split least cpus u∧jS w.heap.size u v w':=by
 refine aD Tryz.func24 rfl Tryz.ntmps24 rfl ?_;refine CW.seq (CW.region (SW.box rfl rfl fun b1 w1 hw gX aB => ?_));refine SW.alloc rfl fun b2 w2 bo jg aC => ?_
 have oK:w.heap.size≤b2:=Nat.le_trans hw.size jg
 (replace hw:=Ext.trans hw bo;replace aB:=aB.ext bo);have hlen:=yx 256 x y;repeat' (first|refine Wz ?_|refine SW.st (ay rfl rfl ((IR aB))) rfl ?_)
 refine SW.call rfl rfl (Ae A n c B m d x y 256 rfl _ (hx.ext hw) (hy.ext hw) hn hm) fun v w5 qL hv => ?_
 obtain ⟨o,ho⟩ : ∃ o,gF 256 x y=o:=⟨_,rfl⟩;rw [ho] at hv hlen ⊢;clear ho;obtain ⟨A1,c1,rfl,hO⟩:=hv;replace hO:=hO.low hw.size;(replace hw:=Ext.trans hw qL;replace aB:=aB.ext qL;replace aC:=aC.ext qL);by_cases h0:o.1=0
 ·rw [h0];refine Wz ?_;refine SW.call rfl rfl (ER A1 o.2.length c1 o.2 split least cpus _ hO.sl (by omega) Fp) fun v w6 He hv => ?_
  have Hi:=fun h2=>vl (l:=o.2) (split:=split) (least:=least) (cpus:=cpus) h2
  obtain ⟨e,he⟩ : ∃ e,dP o.2 split least cpus=e:=⟨_,rfl⟩;have II:=fun h2=>gg.heap (o:=o) (split:=split) (least:=least) (cpus:=cpus) h0 h2
  have ct:=fun (t:ak) h2 m=>gg.made (o:=o) (split:=split) (least:=least) (cpus:=cpus) (t:=t) h0 h2 m
  rw [he] at hv Hi II ct;clear he;obtain ⟨H,rfl,hH⟩:=hv;replace hH:=hH.low hw.size;(replace hw:=Ext.trans hw He;replace aB:=aB.ext He;replace aC:=aC.ext He);clear hO;by_cases h2:e.1=0
  ·rw [h2];refine Wz ?_;refine SW.alloc rfl fun b6 w1 aa fk az => ?_
   skip;refine SW.ah az rfl rfl rfl rfl (dt H) fun w2 de hg => ?_
   have ao:=aa.own fk hg;have dU:w.heap.size≤b6:=Nat.le_trans hw.size fk
   replace hw:=Ext.trans hw ao;replace aB:=aB.ext ao;replace aC:=aC.ext ao;replace hH:=hH.ext ao;replace az:=de;clear de aa hg ao;refine Wz ?_;refine SW.call rfl rfl (FE 256 _) fun v w7 j4 hv => ?_
   rw [if_pos ⟨by decide,by decide⟩] at hv;obtain ⟨A2,c2,rfl,hX⟩:=hv;replace hX:Own w7 w.heap.size 3 1 bB A2 4096 c2 (List.replicate 4096 0):=hX.low hw.size;(replace hw:=Ext.trans hw j4;replace aB:=aB.ext j4;replace aC:=aC.ext j4;replace az:=az.ext j4;replace hH:=hH.ext j4);refine Wz ?_;have Mq:=aC.lt;refine SW.alloc rfl fun b9 w1 aa oQ dp => ?_
   skip;refine SW.ah dp rfl rfl rfl rfl (cq ⟨⟨A2,4096,c2⟩,H,.nil⟩) fun w2 jh hg => ?_
   have ao:=aa.own oQ hg;have uf:w.heap.size≤b9:=Nat.le_trans hw.size oQ
   replace hw:=Ext.trans hw ao;replace aB:=aB.ext ao;replace aC:=aC.ext ao;replace az:=az.ext ao;replace hH:=hH.ext ao;replace hX:=hX.ext ao;replace dp:=jh;clear jh aa hg ao;have cr:b2≠b9:=by omega
   have C3:km _ w.heap.size ⟨⟨A2,4096,c2⟩,H,.nil⟩ (Ah e.2):=⟨hX,hH,⟨[],dB.nil _ _⟩⟩
   clear hX hH aB az;repeat' (first|refine Wz ?_|refine SW.st (aN hw rfl rfl ((Ck hS))) rfl ?_)
   refine CW.loop (fun s:Nat×ik×ak=>[(2,.pointer (some ⟨b2,0,none⟩)),(9,.pointer (some ⟨b9,0,none⟩)),(44,.agg (kL.map (Value.int .i64)).toArray),(45,.int .i64 (s.1:Int))])
    (fun s w'=>s.1≤6∧Ext w w'∧aT w' b2 44 (bq .zero)∧aT w' b9 44 (bq s.2.1)∧km w' w.heap.size s.2.1 s.2.2∧pu (Ah e.2) s.1 s.2.2) (fun s=>6-s.1) (0,⟨⟨A2,4096,c2⟩,H,.nil⟩,Ah e.2)
    ⟨rfl,rfl,rfl,rfl,trivial⟩ ⟨by omega,hw,aC,dp,C3,.zero⟩ ?_
   clear hw aC dp C3;rintro ⟨j,r,s⟩ w' ⟨hj,hw,aC,dp,C3,hM⟩
   simp only at hj dp C3 hM ⊢;by_cases Nv:j<6
   ·obtain ⟨k1,k2,k3,k4⟩:=G9 Nv;have uq:=uY Nv;have hf:=hM.g7 (Hi h2) hj;have kS:=Gh j;obtain ⟨z,hz⟩ : ∃ z,kP j=z:=⟨_,rfl⟩;have QM:=fun (u:ak×Int) (h:lG s (jT z) z 1 u)=>pu.succ (u:=u) hM (hz ▸ h)
    rw [hz] at k1 k2 k3 k4 uq kS;have ID:(kL.map (Value.int .i64))[j]?=some (.int .i64 z):=by rw [List.getElem?_map,k2];rfl
    repeat' (first|refine Wz ?_|(refine SW.st (oU j rfl rfl rfl Nv ID) rfl ?_))
    refine CW.l9 8 8 (fun _=>True) mixed (by kernel_rfl) fun w1 aa bm => ?_
    replace hw:=Ext.trans hw aa;replace aC:=aC.ext aa;replace dp:=dp.ext aa;replace C3:=C3.ext aa;clear aa;refine Wf ?_;refine SF.one 2 rfl (by kernel_rfl) rfl ?_;refine SW.call rfl rfl (Ce z k1 _) fun v w4 ao hv => ?_
    subst hv;(replace hw:=Ext.trans hw ao;replace aC:=aC.ext ao;replace dp:=dp.ext ao;replace C3:=C3.ext ao);refine SW.nil (ae.sf ao ?_);refine SF.one 4 rfl (by kernel_rfl) rfl ?_;refine SW.call rfl rfl (Ai r s (jT z) z 1 _ C3.rd hf uq) fun v w4 ao hv => ?_
    obtain ⟨u,hu,q,rfl,hq⟩:=hv;replace hq:=hq.low hw.size;(replace hw:=Ext.trans hw ao;replace aC:=aC.ext ao;replace dp:=dp.ext ao);refine SW.nil (ae.sf ao ?_);refine Wf ?_;refine SF.wZ 7 bm rfl (by kernel_rfl) (by kernel_rfl) rfl (fun _=>dx rfl) rfl ?_;refine SF.last rfl (by kernel_rfl) (by kernel_rfl) ?_;refine SW.ah dp rfl rfl rfl rfl (cq q) fun w6 jh hg => ?_
    have hG:=dp.gr hg;replace aC:=aC.grown hg (by simpa using cr);replace hw:=hw.own uf hg;(replace hq:=hq.au hG rfl);refine Wz ?_;exact ae.again (j+1,q,u.1) ⟨rfl,rfl,rfl,rfl,trivial⟩ (by simp only;omega) ⟨by simp only;omega,hw,aC,jh,hq,QM u hu⟩
   ·obtain rfl:j=6:=by omega
    refine Wz ?_;refine SW.ah aC rfl rfl rfl rfl (cq r) fun w6 hR hg => ?_
    have hG:=aC.gr hg;replace hw:=hw.own oK hg;(replace C3:=C3.au hG rfl);refine Wz ?_;exact ae.cA rfl rfl rfl hR rfl ⟨_,rfl,hw,_,ct s h2 hM,r,rfl,C3⟩
  ·have hv:=II h2;obtain ⟨e1,Js⟩ : ∃ e1,e.1=e1:=⟨_,rfl⟩;rw [Js] at h2 hv ⊢;refine Wz ?_;refine SW.alloc rfl fun b6 w1 aa fk az => ?_
   skip;refine SW.ah az rfl rfl rfl rfl (dt H) fun w2 de hg => ?_
   have ao:=aa.own fk hg;have dU:w.heap.size≤b6:=Nat.le_trans hw.size fk
   replace hw:=Ext.trans hw ao;replace aC:=aC.ext ao;replace az:=de;clear de aa hg ao;refine Wz ?_;refine SW.ah aC rfl rfl rfl rfl (cq .zero) fun w7 hR hg => ?_
   replace hw:=hw.own oK hg;refine Wz ?_;exact ae.cA rfl rfl rfl hR rfl ⟨_,rfl,hw,_,hv,jS.zero _ _ _⟩
 ·have hv:=gg.IN (split:=split) (least:=least) (cpus:=cpus) h0;obtain ⟨e1,Js⟩ : ∃ e1,o.1=e1:=⟨_,rfl⟩;rw [Js] at h0 hv ⊢;refine Wz ?_;refine SW.ah aC rfl rfl rfl rfl (cq .zero) fun w7 hR hg => ?_
  replace hw:=hw.own oK hg;refine Wz ?_;exact ae.cA rfl rfl rfl hR rfl ⟨_,rfl,hw,_,hv,jS.zero _ _ _⟩
open Go.RowKit
inductive CE (o:Int×List Region) (split least cpus:Int) (l:List iY) : Int×List iZ×ak→Prop
 | fault {u:ak×Int} (h:gg o split least cpus u) (he:u.2≠0) : CE o split least cpus l (u.2,[],.zero)
 | OR {u:ak×Int} {xs:List iZ} {t:ak} (h:gg o split least cpus u) (he:u.2=0) (hr:kW u.1 l xs t) : CE o split least cpus l (0,xs,t)
def IS (lo:Nat) (o:Int×List iZ×ak) (v:Value) (w:World) : Prop := ∃ A n c rs q,v = .tuple #[.slice A n c,.agg (bq q).toArray,.int .i64 o.1]∧ir w lo A n c rs o.2.1∧km w lo q o.2.2
theorem ae.EW {P:Program} {fn:Func} {R:Ending→World→Prop} {n:Nat} {L:Env} {w:World} {t u q ty b tb m:Nat} {cs:List Value} {x y:Value} [c:dZ P ty m] (hr:fn.results = #[.tmp u,.cell t ty,.tmp q]) (hx:get L u=some x) (hv:get L t=some (.pointer (some ⟨b,0,none⟩))) (hy:get L q=some y) (hB:aT w b tb cs) (hl:Nat.beq cs.length m=true) (h:R (.returned (.tuple #[x,.agg cs.toArray,y])) w) : ae n (bodyPost P fn R) .ret L w :=
 ⟨fun a ha=>⟨ha.defers,_,by simpa using jk.results (rs:=[.tmp u,.cell t ty,.tmp q]) hr (.tmp hx (.cell c hv hB (Nat.eq_of_beq_eq_true hl) (.tmp hy .nil))) ha,h⟩⟩
theorem ir.fj (w:World) (lo:Nat) (A:Option Addr) : ir w lo A 0 0 [] []:=⟨Own.fj _ _ _ _ _ _,.nil⟩
structure KS where
 j:Nat
 A:Option Addr
 c:Nat
 rs:List Ac
 xs:List iZ
 q:ik
 t:ak
set_option maxHeartbeats 4000000 in
theorem wC (I:ak→Prop) (A:Option Addr) (n c:Nat) (B:Option Addr) (m d:Nat) (x y:List Region) (split least cpus:Int) (X:Option Addr) (k e:Nat) (l:List iY) (w:World) (hx:Sl w 2 gp A n x) (hy:Sl w 2 gp B m y) (hn:n≤9223372036854775807) (hm:m≤9223372036854775807) (Fp : -9223372036854775808≤split∧split≤9223372036854775807) (hS:jU w) (uw:oV w)
 (hl:Sl w 7 rm X k l) (hk:k≤300) (hI:∀ u,gg (gF 256 x y) split least cpus u→u.2=0→I u.1) (hF:∀ s,I s→s.g7) (hG:∀ a∈l,nB I a) (hP:∀ a∈l,wz I a) :
 bl Tryz.prog 16 [.agg (fV A n c B m d split least cpus).toArray,.slice X k e] w fun v w' => ∃ o,CE (gF 256 x y) split least cpus l o∧IS w.heap.size o v w':=by
 refine aD Tryz.func16 rfl Tryz.ntmps16 rfl ?_;refine CW.seq (CW.region (SW.box rfl rfl fun b2 w1 hw jg aC => ?_));have nP:=hl.len;have R8:=hl.base;have l2:=aC.lt;refine Wz ?_;refine SW.alloc rfl fun b5 w2 bo ig bw => ?_
 have j2:w.heap.size≤b5:=Nat.le_trans hw.size ig
 (replace hw:=Ext.trans hw bo;replace aC:=aC.ext bo);refine Wz ?_;refine SW.call rfl rfl (yB A n c B m d x y split least cpus _ (hx.ext hw) (hy.ext hw) hn hm Fp (hS.ext hw)) fun v w5 qL hv => ?_
 obtain ⟨u,hu,s1,rfl,iy⟩:=hv;replace iy:=iy.low hw.size;(replace hw:=Ext.trans hw qL;replace aC:=aC.ext qL;replace bw:=bw.ext qL);obtain ⟨u1,u2⟩:=u;simp only at iy ⊢;refine Wz ?_;have l5:=bw.lt;refine SW.alloc rfl fun b7 w1 aa iP bP => ?_
 skip;refine SW.ah bP rfl rfl rfl rfl (cq s1) fun w2 bu hg => ?_
 have ao:=aa.own iP hg;have jq:w.heap.size≤b7:=Nat.le_trans hw.size iP
 replace hw:=Ext.trans hw ao;replace aC:=aC.ext ao;replace bw:=bw.ext ao;replace iy:=iy.ext ao;replace bP:=bu;clear bu aa hg ao;have C2:b5≠b7:=by omega
 by_cases he:u2=0
 ·have GN:=hI _ hu he;have OS:=fun xs t h=>CE.OR (l:=l) (xs:=xs) (t:=t) hu he h
  simp only at GN OS;subst he;refine Wz ?_
  refine CW.loop (fun s:KS=>[(5,.pointer (some ⟨b5,0,none⟩)),(7,.pointer (some ⟨b7,0,none⟩)),(9,.slice s.A s.j s.c),(26,.slice X k e),(27,.int .i64 (k:Int)),(28,.int .i64 (s.j:Int))])
   (fun s w'=>s.j≤k∧Ext w w'∧aT w' b5 44 (bq .zero)∧aT w' b7 44 (bq s.q)∧km w' w.heap.size s.q s.t∧ir w' w.heap.size s.A s.j s.c s.rs s.xs∧kW u1 (l.take s.j) s.xs s.t∧I s.t) (fun s=>k-s.j) ⟨0,none,0,[],[],s1,u1⟩
   ⟨rfl,rfl,rfl,rfl,rfl,rfl,trivial⟩ ⟨Nat.zero_le _,hw,bw,bP,iy,ir.fj _ _ _,by rw [List.take_zero];exact .nil _,GN⟩ ?_
  clear hw bw bP iy aC;rintro ⟨j,Y,f,rs,xs,q,t⟩ w' ⟨hj,hw,bw,bP,hq,hY,hR,LG⟩
  simp only at hj bP hq hY hR LG ⊢;by_cases kB:j<k
  ·have nQ:j<l.length:=by omega
   repeat' (first|refine Wz ?_|refine SW.st (aN hw rfl rfl ((hl.all kB))) rfl ?_)
   refine SW.alloc rfl fun HQ w1 aa ya ij => ?_
   skip;refine SW.ah ij rfl rfl rfl rfl (KN l[j]) fun w2 qH hg => ?_
   have ao:=aa.own ya hg;have Kn:w.heap.size≤HQ:=Nat.le_trans hw.size ya
   replace hw:=Ext.trans hw ao;replace bw:=bw.ext ao;replace bP:=bP.ext ao;replace hq:=hq.ext ao;replace hY:=hY.ext ao;replace ij:=qH;clear qH aa hg ao;refine Wz ?_;have l7:=hY.row.lt_size;refine SW.alloc rfl fun z9 w2 bo qR cV => ?_
   have va:w.heap.size≤z9:=Nat.le_trans hw.size qR
   (replace hw:=Ext.trans hw bo;replace bw:=bw.ext bo;replace bP:=bP.ext bo;replace ij:=ij.ext bo;replace hq:=hq.ext bo;replace hY:=hY.ext bo);clear bo;refine Wz ?_;refine SW.call rfl rfl (hG l[j] (List.getElem_mem nQ) q t w.heap.size _ hq hw.size LG (hS.ext hw) (uw.ext hw)) fun v w7 j4 hv => ?_
   obtain ⟨o,ho,q',x',rfl,Fs,qU⟩:=hv;(replace hw:=Ext.trans hw j4;replace bw:=bw.ext j4;replace bP:=bP.ext j4;replace ij:=ij.ext j4;replace cV:=cV.ext j4;replace hY:=hY.ext j4);clear j4 hq;obtain ⟨o1,o2⟩:=o;simp only at Fs qU ⊢;have QN:=hP l[j] (List.getElem_mem nQ) t _ LG ho;refine Wz ?_;refine SW.ah bP rfl rfl rfl rfl (cq q') fun w8 bu hg => ?_
   have rR:=bP.gr hg;replace bw:=bw.grown hg (by simpa using C2);replace hw:=hw.own jq hg;(replace ij:=ij.au rR rfl;replace cV:=cV.au rR rfl;replace hY:=hY.au rR rfl;replace Fs:=Fs.au rR rfl;replace qU:=qU.au rR rfl);clear rR hg bP;refine SW.ah cV rfl rfl rfl rfl (jY x') fun w8 m9 hg => ?_
   have rR:=cV.gr hg;have OT:ir w8 w.heap.size Y j f rs xs:=⟨hY.row.grown hg (.inr (fun e=>by have:=l7 _ e;omega)),hY.each.mono fun _ _ h=>h.au rR rfl⟩
   replace hw:=hw.own va hg;(replace bw:=bw.au rR rfl;replace bu:=bu.au rR rfl;replace ij:=ij.au rR rfl;replace Fs:=Fs.au rR rfl;replace qU:=qU.au rR rfl);clear hY rR hg cV l7 qR;have bP:=bu;have cV:=m9;have hY:=OT;clear bu m9 OT;refine Wz ?_;refine SW.dJ rfl rfl rfl rfl rfl fun QO w9 pL Hj EX => ?_
   (replace hw:=Ext.trans hw pL;replace bw:=bw.ext pL;replace bP:=bP.ext pL;replace Fs:=Fs.ext pL;replace qU:=qU.ext pL;replace hY:=hY.ext pL);clear pL;refine SW.append hY.row (aT.wU (enc:=fM) EX) hw.size rfl rfl rfl (by omega) (by omega) fun Y2 f2 Jp LH hg => ?_
   have rR:=hY.row.gr hg;replace hw:=aJ hw hg (Nat.le_refl _) hY.row.ba;have QP:=hY.each.mono fun _ _ h=>h.au (t:=55) rR rfl
   (replace bw:=bw.au rR rfl;replace bP:=bP.au rR rfl;replace Fs:=Fs.au rR rfl;replace qU:=qU.au rR rfl);clear rR hg hY;refine Wz ?_;have ct:=kW.snoc hR ho;rw [← List.take_succ_eq_append_getElem nQ] at ct;exact ae.again ⟨j+1,Y2,f2,rs++[x'],xs++[o2],q',o1⟩ ⟨rfl,rfl,rfl,rfl,rfl,rfl,trivial⟩ (by simp only;omega) ⟨by simp only;omega,hw,bw,bP,Fs,⟨LH,QP.snoc qU⟩,ct,QN⟩
  ·obtain rfl:j=k:=by omega
   rw [List.take_of_length_le (by omega)] at hR;refine Wz ?_;refine SW.call rfl rfl (Ab q t _ hq.rd (hF t LG).small) fun v w9 pL hv => ?_
   obtain ⟨p,Fh,rfl,OU,_⟩:=hv;have hP:=OU.MO.low hw.size;clear OU;(replace hw:=Ext.trans hw pL;replace bw:=bw.ext pL;replace bP:=bP.ext pL;replace hY:=hY.ext pL);refine Wz ?_;refine SW.ah bw rfl rfl rfl rfl (cq p) fun C1 Nw hg => ?_
   have rR:=bw.gr hg;replace hw:=hw.own j2 hg;(replace hP:=hP.au rR rfl;replace hY:=hY.au rR rfl);refine Wz ?_;exact ae.EW rfl rfl rfl rfl Nw rfl ⟨_,rfl,hw,_,OS _ _ hR,Y,j,f,rs,p,rfl,hY,hP⟩
 ·have hv:=CE.fault (l:=l) hu he;simp only at hv;refine Wz ?_;refine SW.ah bw rfl rfl rfl rfl (cq .zero) fun w7 hR hg => ?_
  replace hw:=hw.own j2 hg;refine Wz ?_;exact ae.EW rfl rfl rfl rfl hR rfl ⟨_,rfl,hw,_,hv,none,0,0,[],.zero,rfl,ir.fj _ _ _,Own.fj _ _ _ _ _ _,gq.zero _ _,⟨[],dB.nil _ _⟩⟩
open Go.RowKit
def fq (l:List Block) (i:Nat) : Nat:=l.countP fun b=>kk b i
def nc (a o:Int) (i:Nat) : Nat:=(kk ⟨a,o,0⟩ i).toNat
theorem px (i:Nat) : fq [] i=0:=rfl
theorem cf (l m:List Block) (i:Nat) : fq (l++m) i=fq l i+fq m i:=List.countP_append
theorem py (b:Block) (i:Nat) : fq [b] i=nc b.At b.Order i:=by
 unfold fq nc;have:kk ⟨b.At,b.Order,0⟩ i=kk b i:=rfl
 rw [List.countP_singleton,this];cases kk b i<;>rfl
theorem pA (b:Block) (l:List Block) (i:Nat) : fq (b::l) i=nc b.At b.Order i+fq l i:=by
 rw [← List.singleton_append,cf,py]
theorem iM {l:List Block} {i:Nat}:cy l i=true↔0<fq l i:=by
 unfold cy fq;rw [List.countP_pos_iff,List.any_eq_true]
theorem pB {l:List Block} {i:Nat} (h:fq l i≤1) : fq l i=(cy l i).toNat:=by
 cases e:cy l i with
 | true=>have:=iM.1 e;simp;omega
 | false =>
   have : ¬ 0<fq l i:=fun h=>by rw [iM.2 h] at e;cases e
   simp;omega
theorem qt {l:List Block} {k:Nat} (hk:k<l.length) (i:Nat) : fq l i=fq (l.eraseIdx k) i+nc l[k].At l[k].Order i:=by
 have e:l=l.take k++l[k]::l.drop (k+1):=by simp
 rw [List.eraseIdx_eq_take_drop_succ]
 conv=>lhs;rw [e]
 rw [cf,cf,pA];omega
theorem qu (l:List Block) (p:Nat) (x:Block) (i:Nat) : fq (aH l p x) i=fq l i+nc x.At x.Order i:=by
 unfold aH;have e:fq l i=fq (l.take p) i+fq (l.drop p) i:=by rw [← cf,List.take_append_drop]
 rw [cf,cf,py];omega
theorem Gp {f:Block→Block} (h:∀ b,(f b).At=b.At∧(f b).Order=b.Order) (l:List Block) (i:Nat) : fq (l.map f) i=fq l i:=by
 unfold fq;rw [List.countP_map];congr 1
 funext b
 simp only [Function.comp_apply,kk,(h b).1,(h b).2]
theorem qv (a o:Int) (i:Nat) : nc a o i≤1:=by unfold nc;cases kk ⟨a,o,0⟩ i<;>simp
theorem lP {a o:Int} {i:Nat} : 0<nc a o i↔a≤(i:Int)∧(i:Int)<a+pw o:=by
 unfold nc;cases e:kk ⟨a,o,0⟩ i with
 | true=>simpa [kk] using e
 | false =>
   simp only [Bool.toNat_false,Nat.lt_irrefl,false_iff];intro h;unfold kk at e;simp only [h.1,h.2,decide_true,Bool.and_self,Bool.true_eq_false] at e
theorem Bm {l:List Block} {b:Block} (hb:b∈l) {i:Nat} (h:b.At≤(i:Int)∧(i:Int)<b.At+pw b.Order) : 0<fq l i:=by
 refine iM.1 (List.any_eq_true.2 ⟨b,hb,?_⟩);simp [kk,h.1,h.2]
theorem tE {f t:Int}:∀ {l:List Block},mE l→(∀ b∈l,fv f t b) → ∀ i,fq l i≤1
 | [],_,_,i=>by simp [fq]
 | b::l,hu,hb,i=>by
   unfold mE at hu;rw [List.pairwise_cons] at hu;have ih:=tE (l:=l) hu.2 (fun x hx=>hb x (by simp [hx])) i;rw [pA];have h1:=qv b.At b.Order i;rcases Nat.eq_zero_or_pos (nc b.At b.Order i) with h0|h0
   ·omega
   ·have hi:=lP.1 h0
    have:fq l i=0:=by
     rcases Nat.eq_zero_or_pos (fq l i) with h2|h2
     ·exact h2
     ·obtain ⟨x,hx,IT⟩:=List.any_eq_true.1 (iM.2 h2);have:=hu.1 x hx
      simp only [kk,Bool.and_eq_true,decide_eq_true_eq] at IT;omega
    omega
theorem jb {z:ab} (hz:aU z) : ∀ b∈z.ag,fv z.aw z.To b:=fun b hb=>by
 obtain ⟨i,hi,rfl⟩:=List.getElem_of_mem hb;exact hz.cU i hi
theorem pC {z:ab} (hz:aU z) (i:Nat) : fq z.ag i≤1:=tE (kE hz) (jb hz) i
theorem Gq {q:Int} (h1 : 1≤q) (h4:q≤4) : pw q=2*pw (q-1):=by
 have:=iI (o:=q-1) (by omega) (by omega)
 rwa [Int.sub_add_cancel] at this
theorem EY {a q:Int} (h1 : 1≤q) (h4:q≤4) (i:Nat) : nc a q i=nc a (q-1) i+nc (a+pw (q-1)) (q-1) i:=by
 have hp:=Gq h1 h4;have Lg:=(bM (o:=q-1) (by omega) (by omega)).1;have e0:=lP (a:=a) (o:=q) (i:=i);have e1:=lP (a:=a) (o:=q-1) (i:=i);have e2:=lP (a:=a+pw (q-1)) (o:=q-1) (i:=i);have l0:=qv a q i;have l1:=qv a (q-1) i;have l2:=qv (a+pw (q-1)) (q-1) i;omega
theorem tF {ty a:Int} (i:Nat) : ∀ (k:Nat) (q:Int) (l:List Block),(k:Int)≤q→q≤4→fq (gk ty a k q l) i+nc a (q-k) i=fq l i+nc a q i
 | 0,q,l,_,_=>by simp [gk]
 | k+1,q,l,h,h4=>by
   have ih:=tF (ty:=ty) (a:=a) i k (q-1) (mM ty a q l) (by omega) (by omega);have e:fq (mM ty a q l) i=fq l i+nc (a+pw (q-1)) (q-1) i:=qu _ _ _ _
   have hh:=EY (a:=a) (q:=q) (by omega) h4 i;simp only [gk];rw [show q-((k+1:Nat) : Int)=q-1-(k:Int) by omega];omega
theorem CF (z:ab) (b:Block) (t:Int) (st:Bool) (i:Nat) : fq (fb z b t st) i=fq z.ag i:=by
 unfold fb fF;split
 ·split
  ·rfl
  ·exact Gp (jG _ _ _) _ _
 ·rfl
theorem dA.fq {z:ab} {o t:Int} {u:ab×Int×Int} (h:dA z o t u) (h0:u.2.2=0) (i:Nat) : Go.Proofs.YtbidkghlpijecaaGreatDoor.fq z.ag i=Go.Proofs.YtbidkghlpijecaaGreatDoor.fq u.1.ag i+nc u.2.1 o i:=by
 cases h with
 | bad|range|kind|room=>simp at h0
 | @ok k st hq ho ht hk hp =>
   have hz:=dc.1 hq;obtain ⟨_,p1,p2⟩:=hp.ord;have kj:k<(fb z z.ag[k] t st).length:=by rw [(mN hz ht st).1];exact hk
   have e1:=qt kj i;rw [CF,ns hz ht st hk] at e1;have e2:=tF (ty:=oa z t st z.ag[k]) (a:=z.ag[k].At) i (z.ag[k].Order-o).toNat z.ag[k].Order ((fb z z.ag[k] t st).eraseIdx k) (by omega) p2;rw [show z.ag[k].Order-((z.ag[k].Order-o).toNat:Int)=o by omega] at e2;have e3:(lx z o t z.ag[k] k st).ag=gk (oa z t st z.ag[k]) z.ag[k].At (z.ag[k].Order-o).toNat z.ag[k].Order ((fb z z.ag[k] t st).eraseIdx k):=rfl
   simp only [e3];simp only at e1;omega
def iz (s:ab×ab) (i:Nat) : Nat:=fq s.1.ag i+fq s.2.ag i
def g8 (l:List Int) (i:Nat) : Nat:=fq (l.map bj) i
def dQ (L:List ap) (i:Nat) : Nat:=fq (aF L) i
theorem pD (p:Int) (i:Nat) : g8 [p] i=nc p 0 i:=py _ _
theorem jc (l m:List Int) (i:Nat) : g8 (l++m) i=g8 l i+g8 m i:=by unfold g8;rw [List.map_append,cf]
theorem fh (L M:List ap) (i:Nat) : dQ (L++M) i=dQ L i+dQ M i:=by unfold dQ aF;rw [List.flatMap_append,cf]
theorem yC (x:ap) (i:Nat) : dQ [x] i=g8 x.an i:=by unfold dQ aF g8;simp
theorem qw (x:ap) (L:List ap) (i:Nat) : dQ (x::L) i=g8 x.an i+dQ L i:=by rw [← List.singleton_append,fh,yC]
theorem tG (L:List ap) (p:Nat) (x:ap) (i:Nat) : dQ (aH L p x) i=dQ L i+g8 x.an i:=by
 unfold aH;have e:dQ L i=dQ (L.take p) i+dQ (L.drop p) i:=by rw [← fh,List.take_append_drop]
 rw [fh,fh,yC];omega
theorem Aj {L:List ap} {k:Nat} (hk:k<L.length) (i:Nat) : dQ L i=dQ (L.eraseIdx k) i+g8 L[k].an i:=by
 have e:L=L.take k++L[k]::L.drop (k+1):=by simp
 rw [List.eraseIdx_eq_take_drop_succ]
 conv=>lhs;rw [e]
 rw [fh,fh,qw];omega
theorem yD {L:List ap} {k:Nat} (hk:k<L.length) (x:ap) (i:Nat) : dQ (L.set k x) i+g8 L[k].an i=dQ L i+g8 x.an i:=by
 have e:L=L.take k++L[k]::L.drop (k+1):=by simp
 have e2:L.set k x=L.take k++x::L.drop (k+1):=by rw [List.set_eq_take_append_cons_drop,if_pos hk]
 rw [e2]
 conv=>rhs;rw [e]
 rw [fh,fh,qw,qw];omega
theorem tH {s:ab×ab} {zi o t:Int} {u:ab×Int×Int} (h:dA (jd s zi) o t u) (h0:u.2.2=0) (i:Nat) : iz s i=iz (dI s zi u.1) i+nc u.2.1 o i:=by
 have:=h.fq h0 i
 unfold jd at this;unfold iz dI;split at this
 ·rename_i e;rw [if_pos e];simp only;omega
 ·rename_i e;rw [if_neg e];simp only;omega
theorem lQ {s:ab×ab} {zi o t:Int} {u:ab×Int×Int} (h:dA (jd s zi) o t u) (h0:u.2.2=0) : (dI s zi u.1).1.To=s.1.To:=by
 have hk:=(h.ra h0).1.jA;unfold jd at hk;unfold dI;split at hk
 ·rename_i e;rw [if_pos e];exact hk
 ·rename_i e;rw [if_neg e]
theorem fg.to {m0 m1 zi t fl:Int} {s:ab×ab} {l:List Int} {r:(ab×ab)×List Int} (h:fg m0 m1 zi t fl s l r) : r.1.1.To=s.1.To:=by
 induction h with
 | full|iw|none=>rfl
 | more h he ht hu hr ih=>rw [ih,lQ ht hu]
theorem dO.to {m0 m1 cpu zi o t fl:Int} {s:ab×ab} {L:List ap} {r:(ab×ab)×List ap×Int} (h:dO m0 m1 cpu zi o t fl s L (some r)) : r.1.1.To=s.1.To:=by
 cases h with
 | list=>rfl
 | sZ ho he ht hu=>exact lQ ht hu
 | fill ho hk he ht hu hr=>simp only;rw [hr.to,lQ ht hu]
theorem ef.to {m0 m1 cpu o t fl:Int} {s:ab×ab} {L:List ap} {r:(ab×ab)×List ap×Int} (h:ef m0 m1 cpu o t fl s L (some r)) : r.1.1.To=s.1.To:=by
 cases h with
 | mi _ h=>exact h.to
 | low _ h=>exact h.to
theorem fg.fq {m0 m1 zi t fl:Int} {s:ab×ab} {l:List Int} {r:(ab×ab)×List Int} (h:fg m0 m1 zi t fl s l r) (i:Nat) : iz s i+g8 l i=iz r.1 i+g8 r.2 i:=by
 induction h with
 | full|iw|none=>rfl
 | more h he ht hu hr ih =>
   have:=tH ht hu i
   rw [jc,pD] at ih;omega
theorem EZ {L:List ap} {x:ap} (hk:bC L x=true) (hp:bA L x≠[]) (i:Nat) : dQ L i=dQ (nJ L x (bA L x)) i+nc ((bA L x).getLast hp) 0 i:=by
 obtain ⟨hl,_⟩:=fK hk
 have e:=dY hk hl
 obtain ⟨pg,re⟩ : ∃ pg,bA L x=pg:=⟨_,rfl⟩
 simp only [re] at hp ⊢
 rw [re] at e
 have e2:pg=pg.dropLast++[pg.getLast hp]:=(List.dropLast_concat_getLast hp).symm
 have e3:g8 pg i=g8 pg.dropLast i+nc (pg.getLast hp) 0 i:=by
  conv=>lhs;rw [e2]
  rw [jc,pD]
 unfold nJ
 split
 ·rename_i h1
  have:=Aj hl i
  rw [← e] at this
  have h0:pg.dropLast=[]:=List.eq_nil_of_length_eq_zero (by rw [List.length_dropLast];omega)
  rw [h0] at e3
  simp only [g8,List.map_nil,px] at e3
  simp only [g8] at this
  omega
 ·have:=yD hl (dn x pg.dropLast) i
  rw [← e] at this
  simp only [dn] at this ⊢
  omega
theorem CG {L:List ap} {x:ap} (hk:bC L x=false) (pg:List Int) (i:Nat) : dQ (gh L x pg) i=dQ L i+g8 pg i:=by
 by_cases h:pg=[]
 ·subst h;rw [iG];rfl
 ·rw [kU hk h,tG];rfl
theorem dO.fq {m0 m1 cpu zi o t fl:Int} {s:ab×ab} {L:List ap} {r:(ab×ab)×List ap×Int} (h:dO m0 m1 cpu zi o t fl s L (some r)) (i:Nat) : iz s i+dQ L i=iz r.1 i+dQ r.2.1 i+nc r.2.2 o i:=by
 cases h with
 | list ho hk hp=>subst ho;have:=EZ hk hp i;simp only;omega
 | sZ ho he ht hu=>have:=tH ht hu i;simp only;omega
 | fill ho hk he ht hu hr =>
   have h1:=tH ht hu i
   have h2:=hr.fq i
   have h3:=fun pg=>CG hk pg i
   simp only [h3]
   simp only [g8,List.map_nil,px] at h2
   simp only [g8]
   omega
theorem ef.fq {m0 m1 cpu o t fl:Int} {s:ab×ab} {L:List ap} {r:(ab×ab)×List ap×Int} (h:ef m0 m1 cpu o t fl s L (some r)) (i:Nat) : iz s i+dQ L i=iz r.1 i+dQ r.2.1 i+nc r.2.2 o i:=by
 cases h with
 | mi _ h=>exact h.fq i
 | low _ h=>exact h.fq i
theorem nZ:∀ {l bs:List Block},(∀ b∈bs++l,0≤b.At∧1≤pw b.Order)→(∀ i,fq bs i≤1)→(aR (some bs) l).isSome=true → ∀ i,fq (bs++l) i≤1
 | [],bs,_,hc,_,i=>by simpa using hc i
 | b::l,bs,hg,hc,h,i=>by
   have e:aR (some bs) (b::l)=aR (iv (some bs) b) l:=rfl
   rw [e] at h;by_cases hf:qF bs b
   ·have e2:iv (some bs) b=some (bs++[b]):=by simp only [iv,if_pos hf]
    rw [e2] at h
    have Jn:∀ i,fq (bs++[b]) i≤1:=fun i=>by
     rw [cf,py];have h1:=hc i;have h2:=qv b.At b.Order i;rcases Nat.eq_zero_or_pos (nc b.At b.Order i) with h0|h0
     ·omega
     ·have hi:=lP.1 h0;have hm:=(lq (fun x hx=>hg x (by simp [hx])) (hg b (by simp)).2).2 hf;have hq:=hm.2.2.2 i hi.1 hi.2;have : ¬ 0<fq bs i:=fun h=>by rw [iM.2 h] at hq;cases hq
      omega
    have:=nZ (l:=l) (bs:=bs++[b]) (by simpa using hg) Jn h i
    simpa using this
   ·have e2:iv (some bs) b=none:=by simp only [iv,if_neg hf]
    rw [e2,e8] at h;cases h
theorem n0:∀ {l bs:List Block},(∀ b∈bs++l,0≤b.At∧1≤pw b.Order)→(∀ b∈l,b.At+pw b.Order≤256)→(∀ i,fq (bs++l) i≤1)→(aR (some bs) l).isSome=true
 | [],bs,_,_,_=>rfl
 | b::l,bs,hg,hr,hc=>by
   have AN:=hg b (by simp);have R9:=hr b (by simp)
   have hf:qF bs b:=by
    refine (lq (fun x hx=>hg x (by simp [hx])) AN.2).1 ⟨AN.1,by omega,by omega,fun i h1 h2 => ?_⟩;cases e:cy bs i with
    | false=>rfl
    | true =>
      have h3:=iM.1 e;have h4:=hc i;have h5:=lP.2 (⟨h1,h2⟩ : b.At≤(i:Int)∧(i:Int)<b.At+pw b.Order);rw [cf,pA] at h4;omega
   have e:aR (some bs) (b::l)=aR (iv (some bs) b) l:=rfl
   have e2:iv (some bs) b=some (bs++[b]):=by simp only [iv,if_pos hf]
   rw [e,e2];exact n0 (by simpa using hg) (fun x hx=>hr x (by simp [hx])) (by simpa using hc)
def ox (s:ab×ab) (L:List ap) (lv:List Block) (i:Nat) : Nat:=iz s i+dQ L i+fq lv i
theorem E0 {h:Heap} {z0 z1:ab} (f:fe h z0 z1) : ∀ b∈z0.ag++z1.ag++aF h.aj++h.Live,0≤b.At∧1≤pw b.Order:=fun b hb=>by
 obtain ⟨bs,JP⟩:=Option.isSome_iff_exists.1 f.all;have ib:=qK f.all b hb;refine ⟨ib.1,?_⟩;simp only [List.mem_append] at hb;rcases hb with ((hb|hb)|hb)|hb
 ·exact (gV f.d.gZ b hb).2
 ·exact (gV f.d.gL b hb).2
 ·unfold aF at hb;obtain ⟨x,_,hx⟩:=List.mem_flatMap.1 hb;obtain ⟨p,_,rfl⟩:=List.mem_map.1 hx;simp only [bj,fp];omega
 ·obtain ⟨j,hj,rfl⟩:=List.getElem_of_mem hb;have:=(f.live.each j hj).1
  exact (bM this.1 this.2).1
theorem fe.IU {h:Heap} {z0 z1:ab} (f:fe h z0 z1) (i:Nat) : ox (z0,z1) h.aj h.Live i≤1:=by
 have:=nZ (bs:=[]) (l:=z0.ag++z1.ag++aF h.aj++h.Live) (by simpa using E0 f) (fun i=>by simp [fq]) f.all i
 simp only [List.nil_append,cf] at this;unfold ox iz dQ;simp only;omega
theorem tI {z:ab} (hz:aU z) {i:Nat} (h : 0<fq z.ag i) : z.aw≤(i:Int)∧(i:Int)<z.To:=by
 obtain ⟨x,hx,IT⟩:=List.any_eq_true.1 (iM.2 h);simp only [kk,Bool.and_eq_true,decide_eq_true_eq] at IT;obtain ⟨⟨f1,f2,f3,f4,f5⟩,_⟩:=jb hz x hx;obtain ⟨k1,k2,k3,k4,k5⟩:=hz.ok;refine ⟨by omega,?_⟩;rcases dl f1 f2 with ⟨e1,e2⟩|⟨e1,e2⟩|⟨e1,e2⟩|⟨e1,e2⟩|⟨e1,e2⟩<;>rw [e2] at f5 IT<;>omega
theorem tJ {s:ab×ab} (h:VS s) (i:Nat) : iz s i=(cy s.1.ag i || cy s.2.ag i).toNat:=by
 have h0:=pC h.gZ i;have h1:=pC h.gL i;have e0:=pB h0;have e1:=pB h1;unfold iz;rcases Nat.eq_zero_or_pos (fq s.1.ag i) with g0|g0
 ·have c0:cy s.1.ag i=false:=by
   cases e:cy s.1.ag i with
   | false=>rfl
   | true=>have:=iM.1 e;omega
  rw [g0,e1,c0];simp
 ·have r0:=tI h.gZ g0
  have:fq s.2.ag i=0:=by
   rcases Nat.eq_zero_or_pos (fq s.2.ag i) with g1|g1
   ·exact g1
   ·have:=tI h.gL g1
    have:=h.v9
    omega
  rw [this,e0,iM.2 g0];simp
theorem qT {h:Heap} {z0 z1:ab} (f:fe h z0 z1) (i:Nat) : iz (bh (z0,z1) (aF h.aj)) i=iz (z0,z1) i+dQ h.aj i:=by
 have hd:=dH f.d;have ht:=f.IU i;unfold ox at ht;have hc:fq (z0.ag++z1.ag++aF h.aj) i=iz (z0,z1) i+dQ h.aj i:=by rw [cf,cf];rfl
 rw [tJ hd.vs i,hd.zx i,← pB (by rw [hc];omega),hc]
theorem tK {h:Heap} {z0 z1:ab} (d:jK h z0 z1) : (bh (z0,z1) (aF h.aj)).1.To=z0.To:=by
 have key:∀ k,k≤(aF h.aj).length→(bh (z0,z1) ((aF h.aj).take k)).1.To=z0.To:=by
  intro k;induction k with
  | zero=>intro _;simp [bh]
  | succ k ih =>
    intro hk;rw [jv _ _ _ hk];exact ((d.inv k (by omega)).back (d.next hk)).2.trans (ih (by omega))
 have:=key _ (Nat.le_refl _)
 rwa [List.take_length] at this
theorem bI.fq {h:Heap} {cpu o fl:Int} {u:Heap×Int×Int} (a:bI h cpu o fl u) (h0:u.2.2=0) : ∃ z0 z1 s,h.aL=[z0,z1]∧fe h z0 z1∧VS s∧u.1.aL=[s.1,s.2]∧(∃ t,fR t∧u.1.Live=cQ h u.2.1 o t)∧u.1.bT=h.bT∧u.1.bt=h.bt∧s.1.To=z0.To ∧
 ∀ i,ox (z0,z1) h.aj h.Live i=ox s u.1.aj u.1.Live i∧iz (z0,z1) i+dQ h.aj i=iz s i+dQ u.1.aj i+nc u.2.1 o i:=by
 cases a with
 | bad|range|form|room=>simp at h0
 | @once z0 z1 r hb hr ht hz ha =>
   obtain ⟨y0,y1,F⟩:=dm (bH.1 hb);have fC:=F.d.bz;rw [hz] at fC;simp only [List.cons.injEq,and_true] at fC;obtain ⟨rfl,rfl⟩:=fC;have hv:=(ha.found F.d.start.vs).1;refine ⟨z0,z1,r.1,hz,F,hv,rfl,⟨_,(m8 ht).2,rfl⟩,rfl,rfl,?_,fun i => ?_⟩
   ·exact ha.to
   ·have e:=ha.fq i;refine ⟨?_,e⟩;unfold ox ev cQ;simp only [qu];omega
 | @dG z0 z1 r hb hr ht hz ha h2 =>
   obtain ⟨y0,y1,F⟩:=dm (bH.1 hb);have fC:=F.d.bz;rw [hz] at fC;simp only [List.cons.injEq,and_true] at fC;obtain ⟨rfl,rfl⟩:=fC;have hv:=(h2.found (dH F.d).vs).1;refine ⟨z0,z1,r.1,hz,F,hv,rfl,⟨_,(m8 ht).2,rfl⟩,rfl,rfl,?_,fun i => ?_⟩
   ·rw [h2.to];exact tK F.d
   ·have e:=h2.fq i;have e2:=qT F i;have e3:dQ [] i=0:=rfl
    refine ⟨?_,by simp only [ev];omega⟩;unfold ox ev cQ;simp only [qu];omega
open Go.RowKit
def CH (to zi p:Int) : Prop:=(0≤p∧p<256)∧(p<to↔zi=0)
structure gn (c to:Int) (L:List ap) : Prop where
 head:∀ l∈L,ic c l
 jQ:wc L
 gj:∀ l∈L,∀ p∈l.an,CH to l.ab p
theorem gn.nil (c to:Int) : gn c to []:=⟨by simp,List.Pairwise.nil,by simp⟩
theorem gn.ok {c to:Int} {L:List ap} (h:gn c to L) : js c to L:=by
 refine ⟨fun i hi=>h.head _ (List.getElem_mem hi),fun i hi=>h.jQ.get hi (by omega),fun i hi p hp=>(h.gj _ (List.getElem_mem hi) p hp).2⟩
theorem fe.ls {h:Heap} {z0 z1:ab} (f:fe h z0 z1) (hm:aW h) : gn h.bt z0.To h.aj:=by
 obtain ⟨y0,y1,h1,_,_,_,_,_,h7,_⟩:=hm.bz;have hz:=f.d.bz;rw [h1] at hz;simp only [List.cons.injEq,and_true] at hz;obtain ⟨rfl,rfl⟩:=hz;refine ⟨fun l hl => ?_,f.jQ,fun l hl p hp => ?_⟩
 ·obtain ⟨i,hi,rfl⟩:=List.getElem_of_mem hl;exact h7.head i hi
 ·obtain ⟨i,hi,rfl⟩:=List.getElem_of_mem hl;refine ⟨?_,h7.gj i hi p hp⟩;obtain ⟨j,hj,rfl⟩:=List.getElem_of_mem hp;exact (f.zC hi hj).at_
theorem gn.erase {c to:Int} {L:List ap} (h:gn c to L) (k:Nat) : gn c to (L.eraseIdx k) :=
 ⟨fun l hl=>h.head l (List.mem_of_mem_eraseIdx hl),List.Pairwise.sublist (List.eraseIdx_sublist L k) h.jQ,fun l hl=>h.gj l (List.mem_of_mem_eraseIdx hl)⟩
theorem gn.ko {c to:Int} {L:List ap} (h:gn c to L) {k:Nat} (hk:k<L.length) {y:ap} (he:dS L[k] y) (hy:ic c y) (hz:∀ p∈y.an,CH to y.ab p) : gn c to (L.set k y):=by
 refine ⟨fun l hl => ?_,?_,fun l hl => ?_⟩
 ·rcases List.mem_or_eq_of_mem_set hl with h1|rfl
  ·exact h.head l h1
  ·exact hy
 ·unfold wc;rw [List.pairwise_iff_getElem];intro i j hi hj j1;simp only [List.length_set] at hi hj;have h0:=h.jQ.get hj j1;rw [List.getElem_set,List.getElem_set];unfold bD dS at *;split
  ·rename_i e;subst e
   rw [if_neg (by omega)];omega
  ·split
   ·rename_i e;subst e;omega
   ·exact h0
 ·rcases List.mem_or_eq_of_mem_set hl with h1|rfl
  ·exact h.gj l h1
  ·exact hz
theorem gn.ins {c to:Int} {L:List ap} (h:gn c to L) {y:ap} (hk:bC L y=false) (hy:ic c y) (hz:∀ p∈y.an,CH to y.ab p) : gn c to (aH L (aO L y) y):=by
 have j3:∀ l∈aH L (aO L y) y,l∈L∨l=y:=fun l hl=>by
  unfold aH at hl;simp only [List.mem_append,List.mem_singleton] at hl;rcases hl with (hl|rfl)|hl
  ·exact .inl (List.mem_of_mem_take hl)
  ·exact .inr rfl
  ·exact .inl (List.mem_of_mem_drop hl)
 refine ⟨fun l hl => ?_,tf h.jQ hk,fun l hl => ?_⟩
 ·rcases j3 l hl with h1|rfl
  ·exact h.head l h1
  ·exact hy
 ·rcases j3 l hl with h1|rfl
  ·exact h.gj l h1
  ·exact hz
theorem gn.Hk {c to:Int} {L:List ap} (h:gn c to L) {y:ap} (hy:ic c y) (hz:∀ p∈y.an,CH to y.ab p) : gn c to (eU L y):=by
 cases hk:bC L y
 ·rw [lC hk];exact h.ins hk hy hz
 ·obtain ⟨hl,he⟩:=fK hk;rw [mQ hk];exact h.ko hl he hy hz
theorem gn.pop {c to:Int} {L:List ap} (h:gn c to L) {x:ap} (hk:bC L x=true) : gn c to (nJ L x (bA L x)):=by
 obtain ⟨hl,he⟩:=fK hk;have e:=dY hk hl;unfold nJ;split
 ·exact h.erase _
 ·rename_i h1;have h2:=h.head _ (List.getElem_mem hl);have h3:=h.gj _ (List.getElem_mem hl);rw [e] at h1 ⊢;refine h.ko hl (by unfold dS dn at *;simpa using he) ?_ fun p hp => ?_
  ·unfold ic dn at *;unfold dS at he;simp only [List.length_dropLast];omega
  ·have:=h3 p ((List.dropLast_sublist _).subset hp)
   unfold dS at he;simp only [dn] at this ⊢;rwa [← he.2.1]
theorem gn.more {c to:Int} {L:List ap} (h:gn c to L) {x:ap} (hk:bC L x=false) {pg:List Int} (h1:(0≤x.eI∧x.eI<c)∧(0≤x.ab∧x.ab≤1)∧(0≤x.Ty∧x.Ty≤2)) (h2:pg.length≤8) (hz:∀ p∈pg,CH to x.ab p) : gn c to (gh L x pg):=by
 by_cases e:pg=[]
 ·subst e;rw [iG];exact h
 ·rw [kU hk e];obtain ⟨k1,k2⟩:=gx (L:=L) (lI (x:=x) (pg:=pg));refine h.ins (by rw [← k2];exact hk) ?_ hz;have : 0<pg.length:=List.length_pos_iff.2 e
  unfold ic dn;simp only;omega
theorem VS.range {s:ab×ab} (h:VS s) : 0≤s.1.To∧s.1.To≤256:=by
 have h1:=h.gZ.ok;have h2:=h.gL.ok;have:=h.v9
 obtain ⟨a1,a2,a3,a4,a5⟩:=h1;obtain ⟨b1,b2,b3,b4,b5⟩:=h2;omega
theorem vm {s:ab×ab} {zi o t:Int} {u:ab×Int×Int} (hv:VS s) (kf:zi=0∨zi=1) (h:dA (jd s zi) o t u) (h0:u.2.2=0) : CH s.1.To zi u.2.1:=by
 obtain ⟨_,⟨x,hx,e⟩,_⟩:=h.ra h0;obtain ⟨⟨f1,f2,f3,f4,f5⟩,_⟩:=jb (hv.jd zi) x hx;have hr:=hv.range;have:=hv.kc;have:=hv.v9;have:=hv.AW
 unfold jd at f3 f4;unfold CH;rcases kf with rfl|rfl
 ·simp only [if_true] at f3 f4;omega
 ·simp only [show ¬ (1:Int)=0 by omega,if_false] at f3 f4;omega
theorem fg.cb {m0 m1 zi t fl:Int} {s:ab×ab} {l:List Int} {r:(ab×ab)×List Int} (h:fg m0 m1 zi t fl s l r) (kf:zi=0∨zi=1) : VS s→(∀ p∈l,CH s.1.To zi p) → ∀ p∈r.2,CH s.1.To zi p:=by
 induction h with
 | full|iw|none=>exact fun _ h=>h
 | more h he ht hu hr ih =>
   intro hv hl;rw [← lQ ht hu];refine ih (hv.ko (ht.ra hu).1) fun p hp => ?_
   rw [lQ ht hu];rcases List.mem_append.1 hp with hp|hp
   ·exact hl p hp
   ·simp only [List.mem_singleton] at hp;subst hp;exact vm hv kf ht hu
theorem dO.ls {m0 m1 cpu zi o t fl c:Int} {s:ab×ab} {L:List ap} {r:(ab×ab)×List ap×Int} (h:dO m0 m1 cpu zi o t fl s L (some r)) (kf:zi=0∨zi=1) (hv:VS s) (hL:gn c s.1.To L) (hc : 0≤cpu∧cpu<c) (ht : 0≤t∧t≤2) : gn c s.1.To r.2.1:=by
 cases h with
 | list ho hk hp=>exact hL.pop hk
 | sZ ho he ht hu=>exact hL
 | fill ho hk he DS hu hr =>
   have Mj:=hv.ko (DS.ra hu).1;have h3:=(hr.vs Mj).2;refine hL.more hk ⟨hc,by rcases kf with rfl|rfl<;>simp,ht⟩ (by omega) fun p hp => ?_
   have:=hr.cb kf Mj (by simp) p hp
   rwa [lQ DS hu] at this
theorem ef.ls {m0 m1 cpu o t fl c:Int} {s:ab×ab} {L:List ap} {r:(ab×ab)×List ap×Int} (h:ef m0 m1 cpu o t fl s L (some r)) (hv:VS s) (hL:gn c s.1.To L) (hc : 0≤cpu∧cpu<c) (ht : 0≤t∧t≤2) : gn c s.1.To r.2.1:=by
 cases h with
 | mi _ h=>exact h.ls (.inr rfl) hv hL hc ht
 | low _ h=>exact h.ls (.inl rfl) hv hL hc ht
theorem IV {o k:Int} (ho : 0≤o) (h:o≤k) (hk:k≤4) {a:Int} (ha:a % pw k=0) : a % pw o=0:=by
 rcases dl (o:=o) ho (by omega) with ⟨e1,e2⟩|⟨e1,e2⟩|⟨e1,e2⟩|⟨e1,e2⟩|⟨e1,e2⟩<;>rcases dl (o:=k) (by omega) hk with ⟨e3,e4⟩|⟨e3,e4⟩|⟨e3,e4⟩|⟨e3,e4⟩|⟨e3,e4⟩<;>rw [e2]<;>rw [e4] at ha<;>omega
theorem dA.al {z:ab} {o t:Int} {u:ab×Int×Int} (h:dA z o t u) (h0:u.2.2=0) : u.2.1 % pw o=0:=by
 cases h with
 | bad|range|kind|room=>simp at h0
 | @ok k st hq ho ht hk hp =>
   obtain ⟨_,p1,p2⟩:=hp.ord;have hb:=(jb (dc.1 hq) _ (List.getElem_mem hk)).1;exact IV ho.1 (by omega) (by omega) hb.2.2.2.2
theorem dO.al {m0 m1 cpu zi o t fl:Int} {s:ab×ab} {L:List ap} {r:(ab×ab)×List ap×Int} (h:dO m0 m1 cpu zi o t fl s L (some r)) : r.2.2 % pw o=0:=by
 cases h with
 | list ho hk hp=>subst ho;simp only [fp];omega
 | sZ ho he ht hu=>exact ht.al hu
 | fill ho hk he ht hu hr=>exact ht.al hu
theorem ef.al {m0 m1 cpu o t fl:Int} {s:ab×ab} {L:List ap} {r:(ab×ab)×List ap×Int} (h:ef m0 m1 cpu o t fl s L (some r)) : r.2.2 % pw o=0:=by
 cases h with
 | mi _ h=>exact h.al
 | low _ h=>exact h.al
theorem wD {l:List Block} (h1:∀ b∈l,pU b) (h2:l.Pairwise fun x y=>x.At<y.At) : dW l:=by
 rw [List.pairwise_iff_getElem] at h2;exact ⟨fun i hi=>h1 _ (List.getElem_mem hi),fun i hi=>h2 i (i+1) (by omega) hi (by omega)⟩
theorem dW.all {l:List Block} (h:dW l) : ∀ b∈l,pU b:=fun b hb=>by
 obtain ⟨i,hi,rfl⟩:=List.getElem_of_mem hb;exact h.each i hi
theorem dW.erase {l:List Block} (h:dW l) (k:Nat) : dW (l.eraseIdx k) :=
 wD (fun b hb=>h.all b (List.mem_of_mem_eraseIdx hb)) (List.Pairwise.sublist (List.eraseIdx_sublist l k) (im h))
theorem dW.KT {h:Heap} (hl:dW h.Live) {a o t:Int} (hb:pU ⟨a,o,t⟩) (hn:∀ b∈h.Live,b.At≠a) : dW (cQ h a o t):=by
 refine wD (fun b lV => ?_) ?_
 ·rcases jy lV with rfl|h1
  ·exact hb
  ·exact hl.all b h1
 ·have hp:=im hl
  have hd:∀ x∈h.Live.drop (aZ h.Live a),a<x.At:=fun x hx=>by
   obtain ⟨j,hj,rfl⟩:=List.getElem_of_mem hx;simp only [List.length_drop] at hj;rw [List.getElem_drop];have h1:=xg (l:=h.Live) (a:=a) (by omega);have h2:=hn _ (List.getElem_mem (show aZ h.Live a+j<h.Live.length by omega));rcases Nat.eq_zero_or_pos j with e|e
   ·subst e;simp only [Nat.add_zero] at h2 ⊢;omega
   ·rw [List.pairwise_iff_getElem] at hp;have h3:=hp (aZ h.Live a) (aZ h.Live a+j) (by omega) (by omega) (by omega);omega
  have ht:∀ x∈h.Live.take (aZ h.Live a),x.At<a:=fun x hx=>by
   obtain ⟨j,hj,rfl⟩:=List.getElem_of_mem hx;simp only [List.length_take] at hj;rw [List.getElem_take];exact kF (by omega)
  unfold cQ aH;rw [List.append_assoc,List.pairwise_append];refine ⟨List.Pairwise.sublist (List.take_sublist _ _) hp,?_,fun x hx y hy => ?_⟩
  ·rw [List.singleton_append,List.pairwise_cons];exact ⟨hd,List.Pairwise.sublist (List.drop_sublist _ _) hp⟩
  ·have h1:=ht x hx;rcases List.mem_append.1 hy with hy|hy
   ·simp only [List.mem_singleton] at hy;subst hy;exact h1
   ·have:=hd y hy;omega
theorem kZ {h:Heap} {s:ab×ab} (hz:h.aL=[s.1,s.2]) (hv:VS s) (hl:gn h.bt s.1.To h.aj) (hm:∃ m0 m1,h.bT=[m0,m1]∧(0≤m0∧m0≤256)∧(0≤m1∧m1≤256)) (hc : 1≤h.bt∧h.bt≤4) (GU:dW h.Live) (ht:∀ i,ox s h.aj h.Live i≤1) : aW h:=by
 refine ⟨⟨s.1,s.2,hz,hv.gZ,hv.gL,hv.kc,hv.v9,hv.AW,hl.ok,?_⟩,hm,hc,GU⟩;have hr:=hv.range
 have key:∀ b∈s.1.ag++s.2.ag++aF h.aj++h.Live,(0≤b.At∧1≤pw b.Order)∧b.At+pw b.Order≤256:=fun b hb=>by
  have al:∀ x o:Int,0≤o→o≤4→0≤x→x<256→x % pw o=0→(0≤x∧1≤pw o)∧x+pw o≤256:=fun x o o1 o2 x1 x2 h3=>by
   rcases dl o1 o2 with ⟨e1,e2⟩|⟨e1,e2⟩|⟨e1,e2⟩|⟨e1,e2⟩|⟨e1,e2⟩<;>rw [e2] at h3 ⊢<;>omega
  have z0:=hv.gZ.ok;have z1:=hv.gL.ok;unfold cw at z0 z1;rw [List.mem_append,List.mem_append,List.mem_append] at hb;rcases hb with ((hb|hb)|hb)|hb
  ·obtain ⟨⟨f1,f2,f3,f4,f5⟩,_⟩:=jb hv.gZ b hb;exact al _ _ f1 f2 (by omega) (by omega) f5
  ·obtain ⟨⟨f1,f2,f3,f4,f5⟩,_⟩:=jb hv.gL b hb;exact al _ _ f1 f2 (by omega) (by omega) f5
  ·unfold aF at hb;obtain ⟨x,hx,hb⟩:=List.mem_flatMap.1 hb;obtain ⟨p,hp,rfl⟩:=List.mem_map.1 hb;have:=(hl.gj x hx p hp).1
   exact al p 0 (by omega) (by omega) this.1 this.2 (by rw [fp];omega)
  ·obtain ⟨l1,l2,l3,_⟩:=GU.all b hb;exact al _ _ l1.1 l1.2 l2.1 (by omega) l3
 refine n0 (bs:=[]) (fun b hb=>(key b (by simpa using hb)).1) (fun b hb=>(key b hb).2) fun i => ?_
 have:=ht i
 unfold ox iz dQ at this;simp only [List.nil_append,cf];omega
theorem bI.may {h:Heap} {cpu o fl:Int} {u:Heap×Int×Int} (a:bI h cpu o fl u) (h0:u.2.2=0) : aW u.1:=by
 obtain ⟨y0,y1,s,c1,c2,c3,c4,⟨t,c5,c6⟩,c7,c8,c9,LI⟩:=a.fq h0;have uH:=a.at_ h0
 have hm:aW h:=by
  cases a with
  | bad|range|form|room=>simp at h0
  | once hb|dG hb=>exact bH.1 hb
 have ug:(0≤o∧o≤4)∧u.2.1 % pw o=0∧gn h.bt y0.To u.1.aj ∧ ∀ b∈h.Live,b.At≠u.2.1:=by
  cases a with
  | bad|range|form|room=>simp at h0
  | @once z0 z1 r hb hr ht hz ha =>
    rw [c1] at hz;simp only [List.cons.injEq,and_true] at hz;obtain ⟨rfl,rfl⟩:=hz;obtain ⟨i,e,h1,h2⟩:=nz c2 (ha.found c2.d.start.vs).2;exact ⟨hr.2,ha.al,ha.ls c2.d.start.vs (c2.ls hm) hr.1 (m8 ht).2,c2.rN e h2⟩
  | @dG z0 z1 r hb hr ht hz ha h2 =>
    rw [c1] at hz;simp only [List.cons.injEq,and_true] at hz;obtain ⟨rfl,rfl⟩:=hz;obtain ⟨i,e,h1,h3⟩:=lJ c2 (h2.found (dH c2.d).vs).2;have:=h2.ls (c:=h.bt) (dH c2.d).vs (gn.nil _ _) hr.1 (m8 ht).2
    rw [tK c2.d] at this;exact ⟨hr.2,h2.al,this,c2.rN e h3⟩
 obtain ⟨o1,o2,o3,o4⟩:=ug;have Nx:=fun i=>c2.IU i
 refine kZ c4 c3 (by rw [c8,c9];exact o3) (by rw [c7];exact hm.cT) (by rw [c8];exact hm.cpus) ?_ fun i=>by rw [← (LI i).1];exact Nx i
 rw [c6];exact c2.live.KT ⟨o1,by simp only;omega,o2,c5⟩ o4
theorem CI {h:Heap} {z0 z1:ab} (hm:aW h) (hz:h.aL=[z0,z1]) : aW (ke h z0 z1):=by
 obtain ⟨y0,y1,f⟩:=dm hm;have fC:=f.d.bz;rw [hz] at fC;simp only [List.cons.injEq,and_true] at fC;obtain ⟨rfl,rfl⟩:=fC;refine kZ rfl (dH f.d).vs (gn.nil _ _) hm.cT hm.cpus f.live fun i => ?_
 have h1:=f.IU i;have h2:=qT f i;have h3:dQ [] i=0:=rfl
 unfold ox at h1 ⊢;simp only [ke];omega
theorem Gr (l:List Block) (i:Nat) : (cy l i).toNat≤fq l i:=by
 cases e:cy l i with
 | false=>simp
 | true=>have:=iM.1 e;simp;omega
theorem E1 (L:List ap) (y:ap) (i:Nat) : dQ (eU L y) i+g8 (bA L y) i=dQ L i+g8 y.an i:=by
 cases hk:bC L y
 ·rw [lC hk,iE hk,tG];simp [g8,px]
 ·obtain ⟨hl,_⟩:=fK hk;rw [mQ hk,dY hk hl];exact yD hl y i
theorem fe.E2 {h:Heap} {z0 z1:ab} (f:fe h z0 z1) {i:Nat} (hi:i<h.aj.length) : ∀ j,j≤h.aj[i].an.length→(bh (z0,z1) ((h.aj[i].an.take j).map bj)).1.To=z0.To
 | 0,_=>by simp [bh]
 | j+1,hj=>by
   have ih:=((f.inv hi j (by omega)).back (f.zC hi (show j<_ by omega))).2
   have e:(h.aj[i].an.take (j+1)).map bj=(h.aj[i].an.take j).map bj++[bj h.aj[i].an[j]]:=by
    rw [List.take_succ_eq_append_getElem (by omega),List.map_append];rfl
   rw [e,jJ];exact ih.trans (f.E2 hi j (by omega))
theorem yE {z:ab} (hz:aU z) {a:Int} (h1:z.aw≤a) (h2:a<z.To) : fR (oZ z a):=by
 have hl:=hz.len;have hi:((a-z.aw) / 8).toNat<z.Types.length:=by omega
 unfold oZ;rw [List.getD_eq_getElem?_getD,List.getElem?_eq_getElem hi];exact hz.types _ (List.getElem_mem hi)
theorem E3 {h:Heap} {z0 z1:ab} (f:fe h z0 z1) {cpu a:Int} (hc : 0≤cpu∧cpu<h.bt) (ha : 0≤a∧a<256) : ((0≤(keyOf z0 z1 cpu a).eI∧(keyOf z0 z1 cpu a).eI<h.bt)∧(0≤(keyOf z0 z1 cpu a).ab∧(keyOf z0 z1 cpu a).ab≤1)∧(0≤(keyOf z0 z1 cpu a).Ty∧(keyOf z0 z1 cpu a).Ty≤2))∧CH z0.To (keyOf z0 z1 cpu a).ab a:=by
 have h0:=f.d.kc;have hm:=f.d.v9;have ht:=f.d.AW
 unfold keyOf CH;by_cases hl:a<z0.To
 ·simp only [if_pos hl];exact ⟨⟨hc,by omega,yE f.d.gZ (by omega) hl⟩,ha,by simp [hl]⟩
 ·simp only [if_neg hl];exact ⟨⟨hc,by omega,yE f.d.gL (by omega) (by omega)⟩,ha,by simp [hl]⟩
theorem Ak (l:List Int) (k i:Nat) : g8 l i=g8 (l.take k) i+g8 (l.drop k) i:=by rw [← jc,List.take_append_drop]
theorem vn {h:Heap} {cpu a:Int} (hm:aW h) (hc : 0≤cpu∧cpu<h.bt) (hf:bf h.Live a=true) : aW (iF h cpu a):=by
 obtain ⟨z0,z1,f⟩:=dm hm;obtain ⟨hk,G3⟩:=jM hf;obtain ⟨k,ek⟩ : ∃ k,aZ h.Live a=k:=⟨_,rfl⟩;simp only [ek] at hk G3;have hL:=f.ls hm;have DL:=f.live.each k hk;have hN:=f.next hk
 have Gl:∀ (s:ab×ab) (bs:List Block),lA s (z0.ag++z1.ag++bs) → ∀ i,iz s i≤iz (z0,z1) i+fq bs i:=fun s bs D i=>by
  rw [tJ D.vs i,D.zx i];have:=Gr (z0.ag++z1.ag++bs) i
  rw [cf,cf] at this;exact this
 by_cases ho : 0<h.Live[k].Order
 ·rw [jO f.d.bz hk ek ho];obtain ⟨D,vX⟩:=f.d.start.back hN;refine kZ (s:=ee (z0,z1) h.Live[k]) rfl D.vs (by rw [vX];exact hL) hm.cT hm.cpus (f.live.erase k) fun i => ?_
  have h1:=f.IU i;have h2:=Gl _ _ D i;have h3:=qt hk i;rw [py] at h2;unfold ox at h1 ⊢;simp only [jN];omega
 ·have e0:h.Live[k].Order=0:=by have:=DL.1;omega
  rw [jP f.d.bz hk ek ho];obtain ⟨hx,hz⟩:=E3 f hc (a:=a) (by have:=DL.2.1;omega);obtain ⟨x,ex⟩ : ∃ x,keyOf z0 z1 cpu a=x:=⟨_,rfl⟩;rw [ex] at hx hz ⊢;obtain ⟨q,eq⟩ : ∃ q,bA h.aj x=q:=⟨_,rfl⟩;rw [eq]
  have QQ:q.length≤8∧(∀ p∈q,CH z0.To x.ab p)∧(q≠[] → ∃ hl:aO h.aj x<h.aj.length,h.aj[aO h.aj x].an=q):=by
   cases hh:bC h.aj x
   ·rw [iE hh] at eq;subst eq;exact ⟨by simp,by simp,fun h=>absurd rfl h⟩
   ·obtain ⟨hl,he⟩:=fK hh;rw [dY hh hl] at eq;subst eq;refine ⟨(hL.head _ (List.getElem_mem hl)).2.2.2.2,fun p hp => ?_,fun _=>⟨hl,rfl⟩⟩;have:=hL.gj _ (List.getElem_mem hl) p hp
    rwa [he.2.1] at this
  obtain ⟨q1,q2,q3⟩:=QQ
  have OV:∀ p∈q++[a],CH z0.To x.ab p:=fun p hp=>by
   rcases List.mem_append.1 hp with hp|hp
   ·exact q2 p hp
   ·simp only [List.mem_singleton] at hp;subst hp;exact hz
  have Gd:∀ (pg:List Int) (i:Nat),dQ (eU h.aj (jn x pg)) i+g8 q i=dQ h.aj i+g8 pg i:=fun pg i=>by
   have h1:=E1 h.aj (jn x pg) i;have M1:dS (jn x pg) x:=⟨rfl,rfl,rfl⟩
   obtain ⟨k1,k2⟩:=gx (L:=h.aj) M1
   have:bA h.aj (jn x pg)=q:=by
    rw [← eq];unfold bA;rw [k2];split
    ·rename_i hh;obtain ⟨hl,_⟩:=fK hh;rw [k1,List.getD_eq_getElem?_getD,List.getD_eq_getElem?_getD,List.getElem?_eq_getElem hl]
     rfl
    ·rfl
   rw [this] at h1;exact h1
  have h3:=fun i=>qt hk i
  rw [G3,e0] at h3;unfold fU;split
  ·rename_i h9;simp only [List.length_append,List.length_singleton] at h9;have hq:q.length=8:=by omega
   have OW:(q++[a]).take 4=q.take 4:=List.take_append_of_le_length (by omega)
   obtain ⟨hl,Ny⟩:=q3 (fun e=>by rw [e] at hq;simp at hq);have D:=f.inv hl 4 (by rw [Ny];omega);have vX:=f.E2 hl 4 (by rw [Ny];omega);rw [Ny] at D vX;rw [OW];refine kZ (s:=bh (z0,z1) ((q.take 4).map bj)) rfl D.vs ?_ hm.cT hm.cpus (f.live.erase k) fun i => ?_
   ·simp only [vX];refine hL.Hk ?_ fun p hp=>OV p (List.mem_of_mem_drop hp)
    unfold ic jn;simp only [List.length_drop,List.length_append,List.length_singleton];omega
   ·have h1:=f.IU i;have h2:=Gl _ _ D i;have h4:=Gd ((q++[a]).drop 4) i;have h5:=Ak (q++[a]) 4 i;rw [jc,pD,OW] at h5;have h6:=h3 i;have h7:g8 (q.take 4) i=fq ((q.take 4).map bj) i:=rfl
    unfold ox at h1 ⊢;simp only;omega
  ·rename_i h9;simp only [List.length_append,List.length_singleton] at h9;refine kZ (s:=(z0,z1)) rfl f.d.start.vs ?_ hm.cT hm.cpus (f.live.erase k) fun i => ?_
   ·refine hL.Hk ?_ OV;unfold ic jn;simp only [List.length_append,List.length_singleton];omega
   ·have h1:=f.IU i;have h4:=Gd (q++[a]) i;rw [jc,pD] at h4;have h6:=h3 i;unfold ox at h1 ⊢;simp only;omega
open Go.RowKit
def bE (n m:Int) : Int:=(if n<0 then -(n+1) else n).tmod m
theorem bZ {n m:Int} (hm : 0<m) : 0≤bE n m∧bE n m<m:=by
 unfold bE;have h : 0≤(if n<0 then -(n+1) else n):=by split<;>omega
 exact ⟨Int.tmod_nonneg _ h,Int.tmod_lt_of_pos _ hm⟩
def rn (a b c:Int) : List Region:=[⟨bE a 20,40+bE b 60⟩,⟨130+bE c 10,16+bE a 90⟩]
def rp (a b c:Int) : List Region:=[⟨bE a 20+bE c 30,1+bE a 7⟩,⟨150+bE b 9,1+bE c 5⟩]
theorem Hl {x y:Region} (hx:x.ok) (hy:y.ok) (h:x.aw+x.aY<y.aw) : dX [x,y]:=by
 refine ⟨by simp,fun i hi => ?_⟩;simp only [List.length_cons,List.length_nil] at hi;rcases (show i=0∨i=1 by omega) with rfl|rfl
 ·exact ⟨hx,fun h0=>by omega⟩
 ·exact ⟨hy,fun _=>h⟩
theorem Al (a b c:Int) : kY (rn a b c) (rp a b c)=true:=by
 have h1:=bZ (n:=a) (m:=20) (by omega);have h2:=bZ (n:=b) (m:=60) (by omega);have h3:=bZ (n:=c) (m:=10) (by omega);have h4:=bZ (n:=a) (m:=90) (by omega);have h5:=bZ (n:=c) (m:=30) (by omega);have h6:=bZ (n:=a) (m:=7) (by omega);have h7:=bZ (n:=b) (m:=9) (by omega);have h8:=bZ (n:=c) (m:=5) (by omega);unfold kY rn rp;rw [iA (Hl (by unfold Region.ok;simp only;omega) (by unfold Region.ok;simp only;omega) (by simp only;omega)),iA (Hl (by unfold Region.ok;simp only;omega) (by unfold Region.ok;simp only;omega) (by simp only;omega))]
 rfl
theorem tL {p:Nat→Bool} {a b c d:Int} (h:∀ k:Nat,p k=true→(k=0∨p (k-1)=false)→(k:Int)=a∨(k:Int)=b∨(k:Int)=c∨(k:Int)=d) :
 ∀ k:Nat,(runs p k).length≤(if a<(k:Int) then 1 else 0)+(if b<(k:Int) then 1 else 0)+(if c<(k:Int) then 1 else 0)+(if d<(k:Int) then 1 else 0)
 | 0=>by simp [runs]
 | k+1=>by
   have ih:=tL h k;have ux:∀ x:Int,(if x<(k:Int) then 1 else 0)≤(if x<((k+1:Nat) : Int) then 1 else 0):=fun x=>by split<;>split<;>omega
   have lZ:∀ x:Int,(k:Int)=x→(if x<(k:Int) then 1 else 0)+1≤(if x<((k+1:Nat) : Int) then 1 else 0):=fun x e=>by rw [if_neg (by omega),if_pos (by omega)];omega
   have ma:=ux a;have mb:=ux b;have mc:=ux c;have md:=ux d;cases hp:p k
   ·have e:runs p (k+1)=runs p k:=by simp [runs,hp]
    rw [e];omega
   ·by_cases hk : 0<k∧p (k-1)=true
    ·have e:runs p (k+1)=bump (runs p k):=by simp only [runs,hp,if_true,if_pos hk]
     obtain ⟨init,r,hr,_⟩:=(oR p k).last hk.1 hk.2;rw [e,hr,j9];rw [hr] at ih;simp only [List.length_append,List.length_singleton] at ih ⊢;omega
    ·have e:runs p (k+1)=runs p k++[⟨(k:Int),1⟩]:=by simp only [runs,hp,if_true,if_neg hk]
     have tX:=h k hp (by cases hq:p (k-1)<;>simp_all<;>omega);rw [e];simp only [List.length_append,List.length_singleton];rcases tX with e|e|e|e<;>have:=lZ _ e<;>omega
theorem E4 (x y:Region) (i:Int) : cK [x,y] i=true↔(x.aw≤i∧i<x.aw+x.aY)∨(y.aw≤i∧i<y.aw+y.aY):=by
 unfold cK;simp
theorem Am (a b c:Int) : da (runs (gB (rn a b c) (rp a b c)) 256)=true:=by
 have hr:=oR (gB (rn a b c) (rp a b c)) 256;refine iA ⟨?_,fun i hi=>⟨?_,fun h0 => ?_⟩⟩
 ·have h1:=bZ (n:=a) (m:=20) (by omega);have h2:=bZ (n:=b) (m:=60) (by omega);have h3:=bZ (n:=c) (m:=10) (by omega);have h4:=bZ (n:=a) (m:=90) (by omega)
  have:=tL (p:=gB (rn a b c) (rp a b c)) (a:=bE a 20) (b:=130+bE c 10) (c:=bE a 20+bE c 30+(1+bE a 7)) (d:=150+bE b 9+(1+bE c 5)) (fun k hk DU=>by
   have key:∀ i:Nat,gB (rn a b c) (rp a b c) i=true↔((bE a 20≤(i:Int)∧(i:Int)<bE a 20+(40+bE b 60))∨(130+bE c 10≤(i:Int)∧(i:Int)<130+bE c 10+(16+bE a 90))) ∧ ¬ ((bE a 20+bE c 30≤(i:Int)∧(i:Int)<bE a 20+bE c 30+(1+bE a 7))∨(150+bE b 9≤(i:Int)∧(i:Int)<150+bE b 9+(1+bE c 5))):=fun i=>by
    unfold gB rn rp;rw [Bool.and_eq_true,Bool.not_eq_true',← Bool.not_eq_true,E4,E4]
   rw [key] at hk;rcases DU with rfl|DU
   ·omega
   ·rw [← Bool.not_eq_true,key] at DU;by_cases h0:k=0
    ·subst h0;omega
    ·omega) 256
  have e1:∀ x:Int,(if x<((256:Nat) : Int) then 1 else 0)≤1:=fun x=>by split<;>omega
  have a1:=e1 (bE a 20);have a2:=e1 (130+bE c 10);have a3:=e1 (bE a 20+bE c 30+(1+bE a 7));have a4:=e1 (150+bE b 9+(1+bE c 5));omega
 ·have:=hr.GK _ (List.getElem_mem hi)
  unfold Region.ok;omega
 ·have:=hr.sep
  rw [List.pairwise_iff_getElem] at this;exact this (i-1) i (by omega) hi (by omega)
def rP (l:List Region) : Nat→List Block
 | 0=>[]
 | p+1=>if cK l p then rP l p++[bj p] else rP l p
theorem wF (l:List Region) : ∀ p:Nat,∀ b∈rP l p,0≤b.At∧b.At<(p:Int)∧b.Order=0
 | 0=>by simp [rP]
 | p+1=>fun b hb=>by
   unfold rP at hb;split at hb
   ·rcases List.mem_append.1 hb with hb|hb
    ·have:=wF l p b hb;omega
    ·simp only [List.mem_singleton] at hb;subst hb;refine ⟨?_,?_,rfl⟩<;>simp only [bj]<;>omega
   ·have:=wF l p b hb;omega
theorem yF (l:List Region) {p:Nat} (hp:p<256) : kK (rP l p) (bj p):=by
 refine ⟨by simp [bj],by simp only [bj];omega,by simp only [bj,fp];omega,⟨by simp only [bj];omega,by simp only [bj,fp];omega,?_⟩,fun x hx => ?_⟩
 ·unfold eK;rw [List.any_eq_false];intro x hx;have:=wF l p x hx
  rw [this.2.2,fp];intro hh;simp only [bj,Bool.and_eq_true,decide_eq_true_eq] at hh;have h2:=of_decide_eq_true hh.2;omega
 ·have:=wF l p x hx
  rw [this.2.2,fp];omega
theorem yG {f t:Int} (h:cw f t) : aU (eJ f t).2∧(eJ f t).2.aw=f∧(eJ f t).2.To=t∧(eJ f t).2.ag=[]:=by
 rw [ep h];have h':=h;unfold cw at h';refine ⟨⟨h,by simp only [List.length_replicate];omega,fun x hx => ?_,fun i hi=>by simp at hi,fun i hi=>by simp at hi⟩,rfl,rfl,rfl⟩;have:=List.eq_of_mem_replicate hx
 subst this;unfold fR;omega
theorem tM {l:List Region} {split:Int} (hs:cw 0 split) : ∀ p:Nat,p≤256→lA (dw l split p) (rP l p)∧(dw l split p).1.To=split
 | 0,_=>by
   have kw:cw split 256:=by unfold cw at hs ⊢;omega
   obtain ⟨a1,a2,a3,a4⟩:=yG hs;obtain ⟨b1,b2,b3,b4⟩:=yG kw;refine ⟨⟨a1,b1,a2,a3.trans b2.symm,b3,fun i => ?_⟩,a3⟩;simp only [dw,rP,a4,b4]
   rfl
 | p+1,hp=>by
   obtain ⟨D,vX⟩:=tM hs p (by omega);have hb:=D.back (yF l (by omega));rw [dw,rP];cases hi:cK l p
   ·simp only [Bool.false_eq_true,if_false];exact ⟨D,vX⟩
   ·simp only [if_true]
    have e:(if (p:Int)<split then (ja (dw l split p).1 p,(dw l split p).2) else ((dw l split p).1,ja (dw l split p).2 p))=ee (dw l split p) (bj p):=by
     unfold ee ja;simp only [bj,vX]
    rw [e];exact ⟨hb.1,hb.2.trans vX⟩
theorem Gs {l:List Region} {split least cpus:Int} (ha:iL split least cpus) : aW (kv (dw l split 256) least cpus):=by
 obtain ⟨D,vX⟩:=tM (l:=l) ha.1 256 (Nat.le_refl _);refine kZ (s:=dw l split 256) rfl D.vs (gn.nil _ _) ⟨least,least,rfl,ha.2.1,ha.2.1⟩ ha.2.2 (wD (by simp [kv]) (by simp [kv])) fun i => ?_
 have h1:=tJ D.vs i;have h2:∀ b:Bool,b.toNat≤1:=fun b=>by cases b<;>simp
 have h3:=h2 (cy (dw l split 256).1.ag i || cy (dw l split 256).2.ag i);have h4:dQ [] i=0:=rfl
 unfold ox;simp only [kv,px];omega
def fr (h:Heap) (i:Nat) : aV:=⟨[jT (kP i)],kP i,(dj (kP i)).2.1,(dj (kP i)).1,[],List.replicate h.bt.toNat (-1)⟩
structure kx (h:Heap) (j:Nat) (s:ak) : Prop where
 words:s.Words=List.replicate 4096 0
 heap:s.Heap=h
 ck:s.ai=(List.range j).map (fr h)
theorem OX {P:Nat→Prop} (h0:P 0) (h1:P 1) (h2:P 2) (h3:P 3) (h4:P 4) (h5:P 5) {i:Nat} (h:i<6) : P i:=by
 rcases (show i=0∨i=1∨i=2∨i=3∨i=4∨i=5 by omega) with rfl|rfl|rfl|rfl|rfl|rfl
 ·exact h0
 ·exact h1
 ·exact h2
 ·exact h3
 ·exact h4
 ·exact h5
theorem vo {i:Nat} (h:i<6) : eR (jT (kP i))=true:=OX (P:=fun i=>eR (jT (kP i))=true) (by decide) (by decide) (by decide) (by decide) (by decide) (by decide) h
theorem Hm {i j:Nat} (h:i<6) (hj:j<i) : kP j≠kP i:=by
 have:∀ i,i<6 → ∀ j,j<i→kP j≠kP i:=by unfold kP;decide
 exact this i h j hj
theorem Bn {i j:Nat} (h:i<6) (hj:j<i) : jT (kP j)≠jT (kP i):=by
 have:∀ i,i<6 → ∀ j,j<i→jT (kP j)≠jT (kP i):=by unfold kP;decide
 exact this i h j hj
theorem vp {h:Heap} (hm:aW h) {j:Nat} (hj:j≤6) {s:ak} (f:kx h j s) : gf s:=by
 refine ⟨by rw [f.words,List.length_replicate],by rw [f.heap];exact hm,by rw [f.ck];simp;omega,fun i hi => ?_⟩;have I6:i<j:=by rw [f.ck] at hi;simpa using hi
 have ec:∀ (k:Nat) (hk:k<s.ai.length),s.ai[k]=fr h k:=fun k hk=>by
  have:s.ai[k]=((List.range j).map (fr h))[k]'(by rw [f.ck] at hk;exact hk):=by congr 1;exact f.ck
  rw [this];simp
 have CV:=hm.cpus;refine ⟨⟨?_,?_,?_,fun k hk => ?_,fun k hk => ?_⟩,fun k hk => ?_,⟨fun k hk => ?_⟩,fun k hk => ?_⟩
 ·rw [ec i hi];exact OX (P:=fun i=>dj (fr h i).aY=((fr h i).Order,(fr h i).jm,0)) rfl rfl rfl rfl rfl rfl (show i<6 by omega)
 ·rw [ec i hi];simp [fr]
 ·rw [ec i hi,f.heap];simp [fr];omega
 ·exfalso;rw [ec i hi] at hk;simp [fr] at hk
 ·left;have:∀ (c:aV) (e:c=fr h i) (hk:k<c.a8.length),c.a8[k] = -1:=fun c e hk=>by subst e;simp [fr]
  exact this _ (ec i hi) hk
 ·rw [ec i hi,ec k (by omega)];exact Hm (by omega) hk
 ·have key:∀ (c:aV) (e:c=fr h i) (hk:k<c.Names.length) (acc:List ByteArray),(∀ n∈acc,n≠jT (kP i))→eR c.Names[k]=true∧c.Names[k]∉acc++c.Names.take k∧(0<k→dF (c.Names[k-1]'(by omega)) c.Names[k]=true):=fun c e hk acc ha=>by
   subst e;have tY:k=0:=by simp [fr] at hk;exact hk
   subst tY;simp only [fr,List.getElem_cons_zero,List.take_zero,List.append_nil];exact ⟨vo (by omega),fun hh=>ha _ hh rfl,fun h=>by omega⟩
  refine key _ (ec i hi) hk _ fun n hn => ?_
  unfold db at hn;obtain ⟨c,hc,hn⟩:=List.mem_flatMap.1 hn;obtain ⟨q,hq,rfl⟩:=List.getElem_of_mem hc;simp only [List.length_take] at hq;rw [List.getElem_take,ec q (by omega)] at hn;simp only [fr,List.mem_singleton] at hn;subst hn;exact Bn (by omega) (by omega)
 ·exfalso;rw [ec i hi] at hk;simp [fr] at hk
theorem An {h:Heap} (hm:aW h) {j:Nat} (hj:j<6) {s:ak} (f:kx h j s) {u:ak×Int} (hu:lG s (jT (kP j)) (kP j) 1 u) : kx h (j+1) u.1:=by
 have hM:=vp hm (by omega) f;obtain ⟨_,_,k3,k4⟩:=G9 hj;have ez:pf (kP j) 1=kP j:=by unfold pf;omega
 have hn:∀ c∈s.ai,∃ q,q<j∧c=fr h q:=fun c hc=>by
  rw [f.ck] at hc;obtain ⟨q,hq,rfl⟩:=List.mem_map.1 hc;exact ⟨q,by simpa using hq,rfl⟩
 have Nz:=lG.new (s:=s) (n:=jT (kP j)) (size:=kP j) (align:=1) (zF hM) ⟨vo hj,.inl rfl⟩ ⟨k3,by omega⟩ (by
  rw [List.any_eq_false];intro c hc;obtain ⟨q,hq,rfl⟩:=hn c hc;have:=Bn hj hq
  simp [kq,sV,fr];exact fun e=>this e) (fun q hq=>by
  obtain ⟨t,ht,e⟩:=hn _ (List.getElem_mem hq);rw [e,ez];exact Hm hj ht) (by rw [f.ck];simp;omega)
 rw [hu.mo Nz];refine ⟨f.words,f.heap,?_⟩;simp only [ez];rw [List.range_succ,List.map_append,← f.ck];congr 1
 simp only [gy,List.map_cons,List.map_nil,fr,f.heap]
theorem Ao {h:Heap} (hm:aW h) {j:Nat} {s:ak} (x:pu (Ah h) j s) : j≤6→kx h j s:=by
 induction x with
 | zero=>exact fun _=>⟨rfl,rfl,rfl⟩
 | succ m hu ih=>exact fun hj=>An hm (by omega) (ih (by omega)) hu
theorem lR (a b c:Int) : iL (16*bE a 9) (bE b 12) (1+bE c 4):=by
 have h1:=bZ (n:=a) (m:=9) (by omega);have h2:=bZ (n:=b) (m:=12) (by omega);have h3:=bZ (n:=c) (m:=4) (by omega);unfold iL cw;omega
noncomputable def CJ (a b c:Int) : Heap:=kv (dw (runs (gB (rn a b c) (rp a b c)) 256) (16*bE a 9) 256) (bE b 12) (1+bE c 4)
theorem tN (a b c:Int) : aW (CJ a b c):=Gs (lR a b c)
theorem iH {a b c:Int} {u:ak×Int} (h:gg (gF 256 (rn a b c) (rp a b c)) (16*bE a 9) (bE b 12) (1+bE c 4) u) : u.2=0∧kx (CJ a b c) 6 u.1∧mj u.1:=by
 have hf:=h.g7;have e1:=qq (N:=256) (Al a b c);have e2:=lO (Am a b c) (lR a b c);cases h with
 | IN h=>rw [e1] at h;exact absurd rfl h
 | heap h h2=>rw [e1,e2] at h2;exact absurd rfl h2
 | made h h2 m =>
   rw [e1] at m;simp only [e2] at m;have hF:=Ao (tN a b c) m (Nat.le_refl _);exact ⟨rfl,hF,hf,vp (tN a b c) (Nat.le_refl _) hF⟩
theorem kx.eq {h:Heap} {j:Nat} {s t:ak} (a:kx h j s) (b:kx h j t) : s=t:=by
 obtain ⟨a1,a2,a3⟩:=a;obtain ⟨b1,b2,b3⟩:=b;cases s
 cases t
 simp only at *;subst a1 a2 a3 b1 b2 b3
 rfl
end Go.Proofs.YtbidkghlpijecaaGreatDoor
