/-
  Texts of the claim TopRoom, part 20: what its theorem leans on.
-/
import Derived.Test.YtbidkghlpijecaaGreatDoorPackTopRoom19
import Derived.Test.YtbidkghlpijecaaGreatDoorPackTopRoom16
import Derived.Test.YtbidkghlpijecaaGreatDoorPackTopRoom17
import Derived.Test.YtbidkghlpijecaaGreatDoorPackTopRoom12
import Derived.Test.YtbidkghlpijecaaGreatDoorPackTopRoom2
import Derived.Test.YtbidkghlpijecaaGreatDoorPackTopRoom11
set_option linter.unusedVariables false
set_option linter.unusedSimpArgs false
namespace Go.Proofs.YtbidkghlpijecaaGreatDoor
open Go.RowKit
theorem pE {l:List Block} (h:dW l) {b:Block} (hb:b∈l) : rf l b.At=b.Order:=by
 obtain ⟨k,hk,rfl⟩:=List.getElem_of_mem hb;obtain ⟨e1,e2⟩:=om (im h) hk (rfl:l[k].At=l[k].At);rw [DW e2 (by rw [e1];exact hk)];simp only [e1]
theorem wG {l:List Block} {x:Int} (h:∀ b∈l,b.At≠x) : rf l x = -1:=zD (zB fun k hk=>h _ (List.getElem_mem hk))
theorem tO {l m:List Block} (hl:dW l) (hm:dW m) {x:Int} (h:∀ b:Block,b.At=x→(b∈l↔b∈m)) : rf m x=rf l x:=by
 by_cases e:∃ b∈l,b.At=x
 ·obtain ⟨b,hb,rfl⟩:=e;rw [pE hl hb,pE hm ((h b rfl).1 hb)]
 ·have e1:∀ b∈l,b.At≠x:=fun b hb he=>e ⟨b,hb,he⟩
  rw [wG e1,wG fun b hb he=>e1 b ((h b he).2 hb) he]
theorem Gt {h:Heap} (hm:aW h) : ∀ z∈h.aL,kM z:=by
 obtain ⟨z0,z1,h1,h2,h3,h4,h5,h6,_⟩:=hm.bz;obtain ⟨a1,a2,a3,_⟩:=h2.ok;obtain ⟨b1,b2,b3,_⟩:=h3.ok;rw [h1];intro z hz;simp only [List.mem_cons,List.not_mem_nil,or_false] at hz;unfold kM;rcases hz with rfl|rfl<;>omega
theorem Ap {s:ak} (hI:mj s) {h:Heap} (hm:aW h) (hs:h.small) (hc:h.bt=s.Heap.bt) (hl:∀ c∈s.ai,∀ x∈c.aK,rf h.Live x.At=rf s.Heap.Live x.At) : mj (td s h):=by
 have hf:=hI.g7;have hM:=hI.may;refine ⟨⟨⟨hf.small.words,hs,hf.small.ck,hf.small.each⟩,Gt hm,hf.bK,hf.names⟩,hM.words,hm,hM.most,fun i hi => ?_⟩;have hC:=hM.each i hi;refine ⟨⟨hC.may.lay,hC.may.names,hC.may.dh.trans hc.symm,fun k hk => ?_,hC.may.J4⟩,hC.size,hC.names,hC.bK⟩;have hS:=hC.may.bK k hk;exact ⟨(hl _ (List.getElem_mem hi) _ (List.getElem_mem hk)).trans hS.live,hS.next,hS.chain⟩
theorem CK {s:ak} (hM:gf s) {c:aV} (hc:c∈s.ai) {x:Slab} (hx:x∈c.aK) : ∃ b∈s.Heap.Live,b.At=x.At:=by
 obtain ⟨i,hi,rfl⟩:=List.getElem_of_mem hc;obtain ⟨k,hk,rfl⟩:=List.getElem_of_mem hx;have hC:=(hM.each i hi).may;have h1:=(hC.bK k hk).live;have h2:=oo hC.lay;rcases Classical.em (∃ b∈s.Heap.Live,b.At=s.ai[i].aK[k].At) with h|h
 ·exact h
 ·rw [wG fun b hb e=>h ⟨b,hb,e⟩] at h1;omega
theorem bI.from_ {h:Heap} {cpu o fl:Int} {u:Heap×Int×Int} (a:bI h cpu o fl u) (h0:u.2.2=0) : aW h∧u.1.bt=h.bt∧(∃ t,fR t∧u.1.Live=cQ h u.2.1 o t) ∧ ∀ b∈h.Live,b.At≠u.2.1:=by
 obtain ⟨y0,y1,s,c1,c2,c3,c4,c5,c7,c8,c9,LI⟩:=a.fq h0
 have hm:aW h:=by
  cases a with
  | bad|range|form|room=>simp at h0
  | once hb|dG hb=>exact bH.1 hb
 refine ⟨hm,c8,c5,?_⟩;cases a with
 | bad|range|form|room=>simp at h0
 | @once z0 z1 r hb hr ht hz ha =>
   rw [c1] at hz;simp only [List.cons.injEq,and_true] at hz;obtain ⟨rfl,rfl⟩:=hz;obtain ⟨i,e,h1,h2⟩:=nz c2 (ha.found c2.d.start.vs).2;exact c2.rN e h2
 | @dG z0 z1 r hb hr ht hz ha h2 =>
   rw [c1] at hz;simp only [List.cons.injEq,and_true] at hz;obtain ⟨rfl,rfl⟩:=hz;obtain ⟨i,e,h1,h3⟩:=lJ c2 (h2.found (dH c2.d).vs).2;exact c2.rN e h3
theorem wH {h:Heap} {cpu a:Int} (hm:aW h) (hf:bf h.Live a=true) : (iF h cpu a).bt=h.bt∧(iF h cpu a).Live=h.Live.eraseIdx (aZ h.Live a)∧(iF h cpu a).bT=h.bT:=by
 obtain ⟨z0,z1,f⟩:=dm hm;obtain ⟨hk,_⟩:=jM hf;by_cases ho : 0<h.Live[aZ h.Live a].Order
 ·rw [jO f.d.bz hk rfl ho];exact ⟨rfl,rfl,rfl⟩
 ·rw [jP f.d.bz hk rfl ho];unfold fU;split<;>exact ⟨rfl,rfl,rfl⟩
theorem wI {l:List Block} (h:dW l) {a:Int} (hf:bf l a=true) {b:Block}:b∈l.eraseIdx (aZ l a)↔b∈l∧b.At≠a:=by
 obtain ⟨hk,G3⟩:=jM hf;have hu:=im h;rw [DV hu hk G3 rfl];unfold gC;simp only [List.mem_filter,Bool.not_eq_true',← Bool.not_eq_true,fJ];constructor
 ·rintro ⟨h1,h2⟩
  refine ⟨h1,fun e=>h2 ⟨e,?_⟩⟩;have e1:=pE h h1;have e2:=pE h (List.getElem_mem hk);rw [G3] at e2;rw [e,e2] at e1;exact e1.symm
 ·rintro ⟨h1,h2⟩
  exact ⟨h1,fun e=>h2 e.1⟩
theorem pF {a:iY} (hk:a.Kind=1) : wz mj a:=fun s u hI h=>by
 cases h with
 | @cb u hk h =>
   by_cases he:u.2.2=0
   ·simp only [tr,if_pos he];obtain ⟨hm,e2,⟨t,_,e3⟩,e4⟩:=h.from_ he;have KU:=h.may he;refine Ap hI KU (h.small hI.g7.small.heap) e2 fun c hc x hx => ?_
    obtain ⟨b,hb,LD⟩:=CK hI.may hc hx;refine tO hm.live KU.live fun y hy => ?_
    rw [e3];constructor
    ·exact fun h=>by unfold cQ aH;rw [List.append_assoc,List.mem_append];rw [← List.take_append_drop (aZ s.Heap.Live u.2.1) s.Heap.Live,List.mem_append] at h;rcases h with h|h;exact .inl h;exact .inr (List.mem_append_right _ h)
    ·intro h;rcases jy h with rfl|h
     ·exact absurd (LD.trans hy.symm) (e4 b hb)
     ·exact h
   ·simp only [tr,if_neg he];exact hI
 | Cw kj|drain kj|pr kj|ym kj|yn kj=>omega
theorem IW {s:ak} (hI:mj s) {cpu a:Int} (hc : 0≤cpu∧cpu<s.Heap.bt) (hw:dN s (a*16)=true) : mj (td s (iF s.Heap cpu a)):=by
 have hm:=hI.may.heap;have OY:a*16 / 16=a:=by omega
 obtain ⟨hf,h0,_⟩:=pk hw;rw [OY] at hf;have KU:=vn hm hc hf;obtain ⟨p1,p2,p3⟩:=wH (cpu:=cpu) hm hf;have yV:=ye s.Heap cpu a hI.g7.small.heap;rw [o6 (bH.2 hm) hc hf] at yV;refine Ap hI KU yV p1 fun c I7 x hx => ?_
 have cr:x.At≠a:=fun e=>by
  unfold dN at hw;rw [OY] at hw;simp only [Bool.and_eq_true,Bool.not_eq_true',← Bool.not_eq_true] at hw;refine hw.2.1 ?_;unfold ny;rw [List.any_eq_true];refine ⟨c,I7,?_⟩;unfold m6;rw [List.any_eq_true];exact ⟨x,hx,decide_eq_true e⟩
 refine tO hm.live KU.live fun y hy => ?_
 rw [p2,wI hm.live hf];exact ⟨fun h=>⟨h,by rw [hy];exact cr⟩,fun h=>h.1⟩
theorem yH {a:iY} (hk:a.Kind=2) : wz mj a:=fun s u hI h=>by
 cases h with
 | @Cw u hk h =>
   cases h with
   | range|no|fault=>simp [tr];exact hI
   | ok h hw he =>
     simp only [tr,if_true];have hm:=hI.may.heap;obtain ⟨hf,_,_⟩:=pk hw;rw [show a.At*16 / 16=a.At by omega] at hf;by_cases hc : 0≤a.eI∧a.eI<s.Heap.bt
     ·rw [o6 (bH.2 hm) hc hf];exact IW hI hc hw
     ·rw [wj (bH.2 hm) hc] at he;exact absurd he (by simp)
 | cb kj|drain kj|pr kj|ym kj|yn kj=>omega
theorem wJ {a:iY} (hk:a.Kind=12) : wz mj a:=fun s u hI h=>by
 cases h with
 | drain hk =>
   have hm:=hI.may.heap;obtain ⟨z0,z1,h1,_⟩:=hm.bz;have yV:=wy s.Heap hI.g7.small.heap;rw [tq (bH.2 hm) h1] at yV ⊢;simp only [tr,if_true];exact Ap hI (CI hm h1) yV rfl fun c hc x hx=>rfl
 | cb kj|Cw kj|pr kj|ym kj|yn kj=>omega
open Go.RowKit
theorem IX {P:Program} {L:Env} {w:World} {d:Option Nat} {T:TypeId} {pos:String} {af:Array Edge} {g:Option (Nat×Bool)} {t:TypeId} {x:Operand} {i:Int} (hx:bF L x=some (.int .i64 i)) (h1 : -9223372036854775808 ≤ -i) (h2 : -i≤9223372036854775807) : St P ⟨d,.unOp .neg t x,T,pos,af,g⟩ L w (.int .i64 (-i)) :=
 ⟨fun _ a ha w' _=>by have e1:=ha.eval hx;have:=fi h1 h2;generalize a.eval = ρ at *;simp [go_sem,e1,Op.unary,this]⟩
theorem ew (n m:Int) (w:World) (hn : -9223372036854775808≤n∧n≤9223372036854775807) (hm : 0<m) : bl Tryz.prog 37 [.int .i64 n,.int .i64 m] w fun v _=>v = .int .i64 (bE n m):=by
 refine aD Tryz.func37 rfl Tryz.ntmps37 rfl ?_;have hw:=Ext.refl w;have tW:m≠0:=by omega
 by_cases h0:n<0
 ·have e:bE n m=(-(n+1)).tmod m:=by unfold bE;rw [if_pos h0]
  rw [e];repeat' (first|refine Wz ?_|(refine SW.st (IX rfl (by omega) (by omega)) rfl ?_))
  exact ae.aI rfl rfl ⟨_,rfl,hw,rfl⟩
 ·have e:bE n m=n.tmod m:=by unfold bE;rw [if_neg h0]
  rw [e];refine Wz ?_;exact ae.aI rfl rfl ⟨_,rfl,hw,rfl⟩
theorem Aq (n m:Int) (w:World) (hn : -9223372036854775808≤n∧n≤9223372036854775807) (hm : 0<m) : bl Tryz.prog 17 [.int .i64 n,.int .i64 m] w fun v _=>v = .int .i64 (bE n m):=by
 refine aD Tryz.func17 rfl Tryz.ntmps17 rfl ?_;have hw:=Ext.refl w;repeat' (first|refine Wz ?_|(refine SW.call rfl rfl (ew n m _ hn hm) ?_;intro v w1 aa hv;subst hv;replace hw:=Ext.trans hw aa;clear aa))
 exact ae.aI rfl rfl ⟨_,rfl,hw,rfl⟩
theorem wK (A:Option Addr) (n c:Nat) (B:Option Addr) (m d:Nat) (x y z:Int) : ∀ v∈fV A n c B m d x y z,v.oneCell'=true:=fun v hv=>by
 simp only [fV,List.mem_cons,List.not_mem_nil,or_false] at hv;rcases hv with rfl|rfl|rfl|rfl|rfl<;>rfl
set_option maxHeartbeats 4000000 in
theorem qx (a b c:Int) (w:World) (ha : -9223372036854775808≤a∧a≤9223372036854775807) (hb : -9223372036854775808≤b∧b≤9223372036854775807) (hc : -9223372036854775808≤c∧c≤9223372036854775807) :
 bl Tryz.prog 32 [.int .i64 a,.int .i64 b,.int .i64 c] w fun v w' => ∃ A B,v = .agg (fV A 2 2 B 2 2 (16*bE a 9) (bE b 12) (1+bE c 4)).toArray∧Sl w' 2 gp A 2 (rn a b c)∧Sl w' 2 gp B 2 (rp a b c):=by
 refine aD Tryz.func32 rfl Tryz.ntmps32 rfl ?_;refine CW.seq (CW.region (SW.alloc rfl fun b6 w1 hw fk az => ?_));have dU:=fk;have h1:=bZ (n:=a) (m:=20) (by omega);have h2:=bZ (n:=b) (m:=60) (by omega);have h3:=bZ (n:=c) (m:=10) (by omega);have h4:=bZ (n:=a) (m:=90) (by omega);have h5:=bZ (n:=c) (m:=30) (by omega);have h6:=bZ (n:=a) (m:=7) (by omega);have h7:=bZ (n:=b) (m:=9) (by omega);have h8:=bZ (n:=c) (m:=5) (by omega);have h9:=bZ (n:=a) (m:=9) (by omega);have Sa:=bZ (n:=b) (m:=12) (by omega);have OJ:=bZ (n:=c) (m:=4) (by omega);repeat' (first|refine Wz ?_|((first|refine SW.call rfl rfl (ew a _ _ ha (by decide)) ?_|refine SW.call rfl rfl (ew b _ _ hb (by decide)) ?_|refine SW.call rfl rfl (ew c _ _ hc (by decide)) ?_);intro v w1 aa hv;subst hv;replace hw:=Ext.trans hw aa;replace az:=az.ext aa;clear aa))
 have l6:=az.lt;refine SW.alloc rfl fun b7 w1 aa iP bP => ?_
 skip;refine SW.ah bP rfl rfl rfl rfl (wK none 0 0 none 0 0 (16*bE a 9) (bE b 12) (1+bE c 4)) fun w2 bu hg => ?_
 have ao:=aa.own iP hg;have jq:w.heap.size≤b7:=Nat.le_trans hw.size iP
 replace hw:=Ext.trans hw ao;replace az:=az.ext ao;replace bP:=bu;clear bu aa hg ao;have OZ:b6≠b7:=by omega
 clear l6;repeat' (first|refine Wz ?_|((first|refine SW.call rfl rfl (ew a _ _ ha (by decide)) ?_|refine SW.call rfl rfl (ew b _ _ hb (by decide)) ?_|refine SW.call rfl rfl (ew c _ _ hc (by decide)) ?_);intro v w1 aa hv;subst hv;replace hw:=Ext.trans hw aa;replace az:=az.ext aa;replace bP:=bP.ext aa;clear aa))
 refine SW.s9 (enc:=gp) ⟨bE a 20,40+bE b 60⟩ ⟨130+bE c 10,16+bE a 90⟩ rfl rfl rfl rfl rfl rfl fun g1 w2 bo QR hA => ?_
 replace hA:=hA.low hw.size;(replace hw:=Ext.trans hw bo;replace az:=az.ext bo;replace bP:=bP.ext bo);clear bo;refine Wz ?_;refine SW.bp (i:=0) bP rfl rfl rfl rfl fun w3 bu hg => ?_
 have hG:=bP.gr hg;replace az:=az.grown hg (by simpa using OZ);replace hw:=hw.own jq hg;(replace hA:=hA.au hG rfl);replace bP:aT _ b7 29 (fV (some ⟨g1,0,none⟩) 2 2 none 0 0 (16*bE a 9) (bE b 12) (1+bE c 4)):=bu;clear hG hg bu;repeat' (first|refine Wz ?_|((first|refine SW.call rfl rfl (ew a _ _ ha (by decide)) ?_|refine SW.call rfl rfl (ew b _ _ hb (by decide)) ?_|refine SW.call rfl rfl (ew c _ _ hc (by decide)) ?_);intro v w1 aa hv;subst hv;replace hw:=Ext.trans hw aa;replace az:=az.ext aa;replace bP:=bP.ext aa;replace hA:=hA.ext aa;clear aa))
 refine SW.s9 (enc:=gp) ⟨bE a 20+bE c 30,1+bE a 7⟩ ⟨150+bE b 9,1+bE c 5⟩ rfl rfl rfl rfl rfl rfl fun g2 w2 bo QS hB => ?_
 replace hB:=hB.low hw.size;(replace hw:=Ext.trans hw bo;replace az:=az.ext bo;replace bP:=bP.ext bo;replace hA:=hA.ext bo);clear bo;refine Wz ?_;refine SW.bp (i:=1) bP rfl rfl rfl rfl fun w3 bu hg => ?_
 have hG:=bP.gr hg;replace az:=az.grown hg (by simpa using OZ);replace hw:=hw.own jq hg;(replace hA:=hA.au hG rfl;replace hB:=hB.au hG rfl);replace bP:aT _ b7 29 (fV (some ⟨g1,0,none⟩) 2 2 (some ⟨g2,0,none⟩) 2 2 (16*bE a 9) (bE b 12) (1+bE c 4)):=bu;clear hG hg bu;refine Wz ?_;refine SW.ah az rfl rfl rfl rfl (wK (some ⟨g1,0,none⟩) 2 2 (some ⟨g2,0,none⟩) 2 2 (16*bE a 9) (bE b 12) (1+bE c 4)) fun w3 hR hg => ?_
 have hG:=az.gr hg;replace hw:=hw.own dU hg;(replace hA:=hA.au hG rfl;replace hB:=hB.au hG rfl);refine Wz ?_;exact ae.wY rfl rfl hR rfl ⟨_,rfl,hw,_,_,rfl,hA.sl,hB.sl⟩
def Hn (k:Int) : iY:=⟨k,0,0,0,0,0,⟨#[]⟩⟩
theorem wL {a b c:Int} {l:List iY} {o:Int×List iZ×ak} (h:CE (gF 256 (rn a b c) (rp a b c)) (16*bE a 9) (bE b 12) (1+bE c 4) l o) : o.1=0 ∧ ∃ s,kx (CJ a b c) 6 s∧mj s∧kW s l o.2.1 o.2.2:=by
 cases h with
 | fault h he=>exact absurd (iH h).1 he
 | OR h he hr=>exact ⟨rfl,_,(iH h).2.1,(iH h).2.2,hr⟩
set_option maxHeartbeats 4000000 in
theorem CL (w:World) (hS:jU w) (uw:oV w) : bl Tryz.prog 13 [] w fun v _=>v = .bool true:=by
 refine aD Tryz.func13 rfl Tryz.ntmps13 rfl ?_;have hw:=Ext.refl w;refine Wz ?_;refine SW.call rfl rfl (qx 0 0 0 _ (by decide) (by decide) (by decide)) fun v w2 bo hv => ?_
 obtain ⟨A,B,rfl,hA,hB⟩:=hv;replace hw:=Ext.trans hw bo;clear bo;have hp:=bZ (n:=0) (m:=9) (by omega);refine SW.call rfl rfl (yB A 2 2 B 2 2 _ _ _ _ _ _ hA hB (by decide) (by decide) (by omega) (hS.ext hw)) fun v w3 iN hv => ?_
 obtain ⟨u,hu,q,rfl,hq⟩:=hv;obtain ⟨e0,hF,hI⟩:=iH hu;replace hq:=hq.low hw.size;replace hw:=Ext.trans hw iN;clear iN hA hB;rw [e0];refine Wz ?_;refine SW.alloc rfl fun b1 w1 aa gX aB => ?_
 skip;refine SW.ah aB rfl rfl rfl rfl (cq q) fun w2 nH hg => ?_
 have ao:=aa.own gX hg;have El:w.heap.size≤b1:=Nat.le_trans hw.size gX
 replace hw:=Ext.trans hw ao;replace hq:=hq.ext ao;replace aB:=nH;clear nH aa hg ao;refine Wz ?_;refine SW.call rfl rfl (qx 0 0 0 _ (by decide) (by decide) (by decide)) fun v w2 bo hv => ?_
 obtain ⟨A,B,rfl,hA,hB⟩:=hv;(replace hw:=Ext.trans hw bo;replace aB:=aB.ext bo;replace hq:=hq.ext bo);clear bo;refine Wz ?_;refine SW.dJ rfl rfl rfl rfl rfl fun Oy w9 pL EC z8 => ?_
 (replace hw:=Ext.trans hw pL;replace aB:=aB.ext pL;replace hq:=hq.ext pL;replace hA:=hA.ext pL;replace hB:=hB.ext pL);clear pL;refine SW.call rfl rfl (wC mj A 2 2 B 2 2 _ _ _ _ _ _ 1 1 [Hn 12] _ hA hB (by decide) (by decide) (by omega) (hS.ext hw) (uw.ext hw) (aT.wU (enc:=rm) (x:=Hn 12) z8) (by decide) (fun u h _=>(iH h).2.2) (fun s h=>h.g7) (fun a ha=>by simp only [List.mem_singleton] at ha;subst ha;exact Cx _ rfl) (fun a ha=>by simp only [List.mem_singleton] at ha;subst ha;exact wJ rfl)) fun v w3 iN hv => ?_
 obtain ⟨o,ho,X,n,c,rs,q2,rfl,hX,uG⟩:=hv;obtain ⟨e1,s,_,_,hR⟩:=wL ho;have hn:=hX.len;have hl:=hR.len;simp only [List.length_singleton] at hl;obtain rfl:n=1:=by omega
 rw [e1];replace hX:=hX.low hw.size;replace uG:=uG.low hw.size;(replace hw:=Ext.trans hw iN;replace aB:=aB.ext iN;replace hq:=hq.ext iN);clear iN hA hB z8;refine Wz ?_;refine SW.alloc rfl fun b4 w1 aa je aQ => ?_
 refine Wz ?_;refine SW.ah aQ rfl rfl rfl rfl (cq q2) fun w2 eW hg => ?_
 have ao:=aa.own je hg;have fZ:w.heap.size≤b4:=Nat.le_trans hw.size je
 replace hw:=Ext.trans hw ao;replace aB:=aB.ext ao;replace hq:=hq.ext ao;replace uG:=uG.ext ao;replace hX:=hX.ext ao;replace aQ:=eW;clear eW aa hg ao;have QT:=hq.words.len;rw [hF.words,List.length_replicate] at QT;refine Wz ?_;all_goals try omega
 exact ae.aI rfl rfl ⟨_,rfl,hw,rfl⟩
open Go.RowKit
theorem vq {sz:Nat}:∀ (us:List Value) (k:Nat) (D Z:List Value),(∀ u∈us,u.cells.size=sz)→D.length=k*sz→Z.length=us.length*sz →
 Instr.fill (fun i=>some (i*sz,sz)) (D++Z).toArray ((us.zipIdx k).map fun p=>(p.2,p.1))=some (D++us.flatMap fun u=>u.cells.toList).toArray
 | [],k,D,Z,_,_,hZ=>by
   have:Z=[]:=List.eq_nil_of_length_eq_zero (by simpa using hZ)
   subst this;simp [Instr.fill]
 | u::us,k,D,Z,hu,hD,hZ=>by
   have h1:=hu u (by simp);have hl:Z.length=sz+us.length*sz:=by rw [hZ,List.length_cons,Nat.add_mul];omega
   have fold:∀ (x:Value) (off:Nat) (X:List Value),Array.foldl (fun (cs:Array Value) (p:Value×Nat)=>cs.setIfInBounds (off+p.2) p.1) X.toArray x.cells.zipIdx=(setAt X off x.cells.toList).toArray:=fun x off X=>by
    have:=lj x.cells.toList 0 off X
    rw [Nat.add_zero] at this;rw [← this,← Array.foldl_toList];simp [Array.toList_zipIdx]
   have hs:setAt (D++Z) (k*sz) u.cells.toList=D++u.cells.toList++Z.drop sz:=by
    have:=nw u.cells.toList D (Z.take sz) (Z.drop sz) (by simp [h1];omega)
    rw [List.append_assoc,List.take_append_drop,hD] at this;exact this
   simp only [List.zipIdx_cons,List.map_cons,Instr.fill];rw [if_neg (by simp [h1];omega),fold u (k*sz) (D++Z),hs,vq us (k+1) (D++u.cells.toList) (Z.drop sz) (fun x hx=>hu x (by simp [hx])) (by simp [hD,h1,Nat.add_mul]) (by simp;omega)];simp
section
variable {α:Type} {P:Program} {n:Nat} {ops:Array Oper} {Q:Exit→Act→World→Prop} {rest:List Oper} {L:Env} {w:World} {d:Nat} {T:TypeId} {pos:String} {af:Array Edge}
theorem SW.IY {t e:TypeId} {z:Value} {sz bytes len:Nat} {enc : α → List Value} {parts:Array (Nat×Operand)} [S:aX P t e sz] [E:cj P e z sz bytes] [C:fu enc sz] (xs:List Operand) {us:List Value} (vz:List α)
 (hp:parts.toList=(xs.zipIdx 0).map fun p=>(p.2,p.1)) (hx:pM L xs=some us) (hu:us.map (fun u=>u.cells.toList)=vz.map enc) (hlen:Nat.beq len vz.length=true) (l8:Nat.blt 0 len=true) (hle:Nat.ble len 100=true) (hs:Nat.ble sz 1000=true)
 (hn:Nat.blt d n=true) (h:∀ g w',Ext w w'→w.heap.size≤g→Own w' w.heap.size e sz enc (some ⟨g,0,none⟩) len len vz→SW P n ops (.fB Q) rest ((d,.slice (some ⟨g,0,none⟩) len len)::L) w') :
 SW P n ops (.fB Q) (⟨some d,.buildSlice t len parts,T,pos,af,none⟩::rest) L w :=
 ⟨fun q hq=>by
  obtain ⟨i,hi,hz,jo,rB⟩:=cW P e (z:=z) (sz:=sz) (bytes:=bytes);have iy:sz≤1000:=by simpa using hs
  have oB:len≤100:=by simpa using hle
  have Gc : 0<len:=by simpa using l8
  have hl:len=vz.length:=Nat.eq_of_beq_eq_true hlen
  have qW : 0<sz:=E.pos
  have O0 : 0<len*sz:=Nat.mul_pos Gc qW
  have Sb:len*sz≤100*1000:=Nat.mul_le_mul oB iy
  have QU:us.length=len:=by have:=congrArg List.length hu;simpa [hl] using this
  have QV:xs.map q.eval=us:=hq.oD hx
  have nj:∀ u∈us,u.cells.size=sz:=fun u hm=>by
   have:u.cells.toList∈vz.map enc:=by rw [← hu];exact List.mem_map_of_mem hm
   obtain ⟨a,_,ha⟩:=List.mem_map.1 this;rw [← Array.length_toList,← ha,C.len]
  have nR:(us.flatMap fun u=>u.cells.toList)=vz.flatMap enc:=by rw [List.flatMap_def,List.flatMap_def,hu]
  simp only [swp];refine wpList_buildSlice rfl t e len _ rfl (vz.flatMap enc).toArray i z S.kz hi hz (by rw [jo];omega) (by rw [jo];omega) ?_ ?_
  ·have e1:(Array.map (fun (p:Nat×Operand)=>(p.1,q.eval p.2)) parts).toList=(us.zipIdx 0).map fun p=>(p.2,p.1):=by
    rw [Array.toList_map,hp,← QV,List.zipIdx_map,List.map_map,List.map_map]
    rfl
   have e2:∀ X:Array Value,X=([]++X.toList).toArray:=fun X=>rfl
   rw [e1,e2 (Array.map _ (Array.range _)),jo,vq us 0 [] _ nj (by simp) (by simp [QU]),List.nil_append,nR]
  ·refine (h w.heap.size _ (Ext.alloc w _) (Nat.le_refl _) ⟨hl.symm,.inr ⟨Gc,w.heap.size,_,rfl,Nat.le_refl _,aT.new w e (vz.flatMap enc),Nat.le_refl _,by simp only [maxLen];omega,by simp [aE (enc:=enc),hl],?_⟩⟩).out _ (hq.put hn _);have:(vz.flatMap enc).length=len*sz:=by rw [aE (enc:=enc),hl]
   exact List.take_of_length_le (Nat.le_of_eq this)⟩
theorem SW.Gu {t e:TypeId} {z:Value} {sz bytes:Nat} {enc : α → List Value} {A X:Option Addr} {k c m c2:Nat} {l ys:List α} [S:aX P t e sz] [I:cj P e z sz bytes] [E:fu enc sz] {x y:Operand}
 (hO:Sl w sz enc A k l) (hS:Sl w sz enc X m ys) (hk : 0<k) (tW : 0<m) (hc:c<k+m) (hx:bF L x=some (.slice A k c)) (hy:bF L y=some (.slice X m c2)) (hn:Nat.blt d n=true)
 (hb:(k+m)*bytes≤140737488355328) (hm:k+m≤9223372036854775807)
 (h:∀ A' c' w',Own w' w.heap.size e sz enc A' (k+m) c' (l++ys)→w.grownBy w' none→SW P n ops (.fB Q) rest ((d,.slice A' (k+m) c')::L) w') :
 SW P n ops (.fB Q) (⟨some d,.call ⟨.builtin .append,#[x,y],#[t,t]⟩,T,pos,af,none⟩::rest) L w :=
 ⟨fun a ha=>by
  obtain ⟨i,hi,hz,hs,rB⟩:=cW P e (z:=z) (sz:=sz) (bytes:=bytes);obtain ⟨b,rfl⟩:=Option.isSome_iff_exists.1 (hO.base hk);obtain ⟨ad,rfl⟩:=Option.isSome_iff_exists.1 (hS.base tW);obtain ⟨v',w',hr,h2,h3⟩:=run_append_arg_grows (P:=P) w t T e i z sz bytes S.kz hi hz hs rB I.zc I.pos b k c (l.flatMap enc) (by rw [aE,hO.len]) (cg I.pos hO) ad m c2 (ys.flatMap enc) (by rw [aE,hS.len]) (cg I.pos hS) hc (by simp only [maxLen];omega) hb;have Db:(l++ys).flatMap enc=l.flatMap enc++ys.flatMap enc:=List.flatMap_append
  rw [← Db] at h2;obtain ⟨A',c',rfl,ho⟩:=Own.lh h2 (by rw [List.length_append,hO.len,hS.len]);simp only [swp,wpList,Region.wanted,if_true];refine .inl ?_;unfold Oper.wp
  have:(execOp a.eval ⟨some d,.call ⟨.builtin .append,#[x,y],#[t,t]⟩,T,pos,af,none⟩).run P w = .ok (.value (.slice A' (k+m) c')) w':=by
   simp [execOp,resolve,invoke,builtin,ha.eval hx,ha.eval hy,hr]
  rw [this,Oper.upon_value];exact (h A' c' w' ho h3).out _ (ha.put hn _)⟩
end
section
variable {P:Program} {L:Env} {w:World} {d:Option Nat} {T:TypeId} {pos:String} {af:Array Edge} {g:Option (Nat×Bool)}
theorem Ar {t e:TypeId} {sz:Nat} [c:aX P t e sz] {x y y':Operand} {A:Option Addr} {n cap k:Nat} (hx:bF L x=some (.slice A n cap)) (hy:bF L y=some (.int .i64 (k:Int))) (NA:bF L y'=some (.int .i64 (k:Int))) (hk:k≤cap) :
 St P ⟨d,.slice t x none (some y) (some y'),T,pos,af,g⟩ L w (.slice A k k) :=
 ⟨fun _ a ha w' _=>by
  have e1:=ha.eval hx;have e2:=ha.eval hy;have e3:=ha.eval NA;generalize a.eval = ρ at *
  have h0:A.map (·.add 0)=A:=by cases A<;>simp [add_zero]
  simp [execOp,e1,e2,e3,Instr.sliceAt,Instr.slice,Instr.sliceBounds,Instr.sliceBound,asIntOf,run_underlying c.kz,run_sizeOf c.size,hk,h0]⟩
theorem IZ {t ty:TypeId} {x y:Operand} {i j r:Int} (hx:bF L x=some (.int .i64 i)) (hy:bF L y=some (.int .i64 j)) (h0 : 0≤j) (h1:j≤64) (hr:i / 2 ^ j.toNat=r) (h2 : -9223372036854775808≤r) (h3:r≤9223372036854775807) :
 St P ⟨d,.binOp .shr t x y ty,T,pos,af,g⟩ L w (.int .i64 r) :=
 ⟨fun n a ha w' _=>by
  have e1:=ha.eval hx;have e2:=ha.eval hy;generalize a.eval = ρ at *
  simp [go_sem,e1,e2];exact hr⟩
end
open Go.RowKit
def k9 (f:Nat→Nat) : Nat→Nat
 | 0=>0
 | k+1=>k9 f k+f k
theorem nd (f g:Nat→Nat) : ∀ k,k9 (fun i=>f i+g i) k=k9 f k+k9 g k
 | 0=>rfl
 | k+1=>by simp only [k9,nd f g k];omega
theorem jZ {f g:Nat→Nat} (h:∀ i,f i=g i) (k:Nat) : k9 f k=k9 g k:=by rw [funext h]
theorem Bo {f:Nat→Nat} (h:∀ i,f i≤1) : ∀ k,k9 f k≤k
 | 0=>Nat.le_refl _
 | k+1=>by have:=Bo h k;have:=h k;simp only [k9];omega
theorem Bp {a o:Int} (ha : 0≤a) (hp : 0≤pw o) : ∀ k:Nat,(k9 (nc a o) k:Int)=if (k:Int)≤a then 0 else if (k:Int)≤a+pw o then (k:Int)-a else pw o
 | 0=>by simp only [k9];rw [if_pos (by omega)];rfl
 | k+1=>by
   have ih:=Bp ha hp k;have h1:=qv a o k;have h2:=lP (a:=a) (o:=o) (i:=k);simp only [k9,Int.natCast_add,ih];by_cases c1:(k:Int)<a
   ·have:nc a o k=0:=by rcases Nat.eq_zero_or_pos (nc a o k) with h|h;exact h;have:=h2.1 h;omega
    rw [this,if_pos (by omega),if_pos (by omega)];rfl
   ·by_cases c2:(k:Int)<a+pw o
    ·have:nc a o k=1:=by have:=h2.2 ⟨by omega,c2⟩;omega
     rw [this];by_cases c3:(k:Int)≤a
     ·rw [if_pos c3,if_neg (by omega),if_pos (by omega)];omega
     ·rw [if_neg c3,if_pos (by omega),if_neg (by omega),if_pos (by omega)];omega
    ·have:nc a o k=0:=by rcases Nat.eq_zero_or_pos (nc a o k) with h|h;exact h;have:=h2.1 h;omega
     rw [this];by_cases c3:(k:Int)≤a
     ·rw [if_pos c3,if_neg (by omega)];split<;>omega
     ·rw [if_neg c3];repeat' split
      all_goals omega
theorem pG {a o:Int} (ha : 0≤a) (hp : 1≤pw o) (h:a+pw o≤256) : (k9 (nc a o) 256:Int)=pw o:=by
 rw [Bp ha (by omega),if_neg (by omega)];split<;>omega
theorem As (b:Block) (l:List Block) : di (b::l)=pw b.Order+di l:=by simp [di]
theorem la:∀ {l:List Block},(∀ b∈l,0≤b.At∧1≤pw b.Order∧b.At+pw b.Order≤256)→di l=(k9 (fq l) 256:Int)
 | [],_=>by
   have:∀ k,k9 (fq []) k=0:=fun k=>by induction k with
    | zero=>rfl
    | succ k ih=>simp only [k9,ih,px]
   rw [this];rfl
 | b::l,h=>by
   have hb:=h b (by simp);have ih:=la (l:=l) fun x hx=>h x (by simp [hx])
   rw [As,ih,jZ (pA b l),nd,Int.natCast_add,pG hb.1 hb.2.1 hb.2.2]
theorem pH {x o:Int} (o1 : 0≤o) (o2:o≤4) (x1 : 0≤x) (x2:x<256) (h3:x % pw o=0) : 0≤x∧1≤pw o∧x+pw o≤256:=by
 rcases dl o1 o2 with ⟨e1,e2⟩|⟨e1,e2⟩|⟨e1,e2⟩|⟨e1,e2⟩|⟨e1,e2⟩<;>rw [e2] at h3 ⊢<;>omega
theorem gW {z:ab} (hz:aU z) {b:Block} (hb:b∈z.ag) : 0≤b.At∧1≤pw b.Order∧b.At+pw b.Order≤256:=by
 obtain ⟨⟨f1,f2,f3,f4,f5⟩,_⟩:=jb hz b hb;obtain ⟨k1,k2,k3,_⟩:=hz.ok;exact pH f1 f2 (by omega) (by omega) f5
theorem tP {z:ab} {o t:Int} {u:ab×Int×Int} (h:dA z o t u) (h0:u.2.2=0) (ho : 0≤o∧o≤4) : di u.1.ag+pw o=di z.ag:=by
 obtain ⟨k1,⟨x,hx,e⟩,hq⟩:=h.ra h0;have hz:=dc.1 hq;have hr:=gW hz hx;have ha:=pH ho.1 ho.2 (show 0≤u.2.1 by omega) (by omega) (h.al h0);rw [la fun b hb=>gW hz hb,la fun b hb=>gW k1.may hb,jZ (h.fq h0),nd,Int.natCast_add,pG ha.1 ha.2.1 ha.2.2]
def ky (o:Int) (l:List Block) : Nat:=l.countP fun b=>decide (o≤b.Order)
theorem nf {o:Int} {l:List Block} : 0<ky o l ↔ ∃ b∈l,o≤b.Order:=by unfold ky;rw [List.countP_pos_iff];simp
theorem Au {o:Int} {l:List Block} {k:Nat} (hk:k<l.length) : ky o l=ky o (l.eraseIdx k)+(if o≤l[k].Order then 1 else 0):=by
 have e:l=l.take k++l[k]::l.drop (k+1):=by simp
 unfold ky;rw [List.eraseIdx_eq_take_drop_succ]
 conv=>lhs;rw [e]
 rw [List.countP_append,List.countP_append,List.countP_cons];simp only [decide_eq_true_eq];omega
theorem yI (o:Int) (l:List Block) (p:Nat) (x:Block) : ky o (aH l p x)=ky o l+(if o≤x.Order then 1 else 0):=by
 unfold aH ky;have e:l.countP (fun b=>decide (o≤b.Order))=(l.take p).countP (fun b=>decide (o≤b.Order))+(l.drop p).countP (fun b=>decide (o≤b.Order)):=by rw [← List.countP_append,List.take_append_drop]
 rw [List.countP_append,List.countP_append,List.countP_singleton,e];simp only [decide_eq_true_eq];omega
theorem Av (o:Int) (z:ab) (b:Block) (t:Int) (st:Bool) : ky o (fb z b t st)=ky o z.ag:=by
 unfold fb fF ky;split
 ·split
  ·rfl
  ·rw [List.countP_map];congr 1
   funext x
   simp only [Function.comp_apply,(jG _ _ _ x).2]
 ·rfl
theorem wM {z:ab} {o:Int} {u:ab×Int×Int} (hz:aU z) (ho : 0≤o∧o≤4) (h:dA z o 1 u) : u.2.2=0↔0<ky o z.ag:=by
 constructor
 ·intro h0;cases h with
  | bad|range|kind|room=>simp at h0
  | @ok k st hq sb ht hk hp =>
    obtain ⟨_,p1,_⟩:=hp.ord;exact nf.2 ⟨_,List.getElem_mem hk,p1⟩
 ·intro hb;obtain ⟨b,hb,Sc⟩:=nf.1 hb;cases h with
  | bad hq=>rw [iJ hz] at hq;cases hq
  | range _ h=>exact absurd ho h
  | kind _ _ h=>exact absurd (by decide) h
  | ok=>rfl
  | room hq _ _ hp =>
    exfalso;cases hp with
    | Dz hf =>
      obtain ⟨⟨f1,f2,_⟩,ht⟩:=jb hz b hb
      have key:∀ n,n<15→n9 o n=b.Order→Dv 1 n=b.Ty→False:=fun n hn e1 e2=>by
       have:=hf n hn
       unfold gw at this;rw [e1,e2,decide_eq_true (by omega),Bool.true_and,List.any_eq_false] at this;exact this b hb (sy.2 ⟨rfl,rfl⟩)
      unfold fR at ht;rcases (show b.Ty=1∨b.Ty=2∨b.Ty=0 by omega) with e|e|e
      ·exact key (b.Order-o).toNat (by omega) (by rw [oS (by omega)];omega) (by rw [vU (by omega),e])
      ·exact key (5+2*(4-b.Order).toNat) (by omega) (by rw [rG];omega) (by rw [vV,e];rfl)
      ·exact key (5+2*(4-b.Order).toNat+1) (by omega) (by rw [rH];omega) (by rw [vW,e];rfl)
theorem Aw {z:ab} {a o:Int} (hz:aU z) (hf:dK z.aw z.To a o) (ho:eK z.ag a o=false) : aU (bV z a o).2∧(bV z a o).2.aw=z.aw∧(bV z a o).2.To=z.To∧di (bV z a o).2.ag=di z.ag+pw o:=by
 obtain ⟨_,k⟩:=ol hz hf ho;refine ⟨k.may,k.from_,k.jA,?_⟩;obtain ⟨k1,k2,k3,_⟩:=hz.ok;have ha:=pH hf.1 hf.2.1 (show 0≤a by have:=hf.2.2.1;omega) (show a<256 by have:=hf.2.2.2.1;omega) hf.2.2.2.2
 have hd:∀ i,fq (bV z a o).2.ag i=fq z.ag i+nc a o i:=fun i=>by
  have h1:=pB (pC k.may i);have h2:=pB (pC hz i);have h3:=k.zx i;have h4:nc a o i=(kk ⟨a,o,0⟩ i).toNat:=rfl
  rw [h1,h2,h3,h4];cases e1:cy z.ag i
  ·simp
  ·cases e2:kk ⟨a,o,0⟩ i
   ·simp
   ·exfalso;have hm:=(lq (bs:=z.ag) (fun b hb=>⟨(gW hz hb).1,(gW hz hb).2.1⟩) (b:=⟨a,o,0⟩) ha.2.1).2 ⟨ha.1,ha.2.2,ho⟩;simp only [kk,Bool.and_eq_true,decide_eq_true_eq] at e2;have:=hm.2.2.2 i e2.1 e2.2
    rw [e1] at this;cases this
 rw [la fun b hb=>gW k.may hb,la fun b hb=>gW hz hb,jZ hd,nd,Int.natCast_add,pG ha.1 ha.2.1 ha.2.2]
theorem vr:∀ (k:Nat) (l:List Block) (a o:Int),o≤(dr k l a o).2.2
 | 0,_,_,_=>Int.le_refl _
 | k+1,l,a,o=>by
   unfold dr;split
   ·split
    ·have:=vr k (gC l (beside a o) o) (min a (beside a o)) (o+1);omega
    ·exact Int.le_refl _
   ·exact Int.le_refl _
theorem E5 {z:ab} {a o:Int} (hz:aU z) (hf:dK z.aw z.To a o) (ho:eK z.ag a o=false) : 0<ky o (bV z a o).2.ag:=by
 obtain ⟨⟨l,a',o'⟩,hj⟩ : ∃ u,dr 5 z.ag a o=u:=⟨_,rfl⟩;have:=vr 5 z.ag a o
 rw [hj] at this;rw [j8 (iJ hz) hf ho hj rfl,yI];simp only at this ⊢;rw [if_pos this];omega
theorem join_none {l:List Block} {a o:Int} (h:ky o l=0) (k:Nat) : dr k l a o=(l,a,o):=by
 cases k with
 | zero=>rfl
 | succ k =>
   have:l.any (sq (beside a o) o)=false:=by
    rw [List.any_eq_false];intro b hb hh;have : 0<ky o l:=nf.2 ⟨b,hb,by have:=(fJ.1 hh).2;omega⟩
    omega
   unfold dr;rw [this];split<;>rfl
theorem CM {z:ab} {a o:Int} (hz:aU z) (hf:dK z.aw z.To a o) (ho:eK z.ag a o=false) (hb:ky o z.ag=0) {u:ab×Int×Int} (h:dA (bV z a o).2 o 1 u) (h0:u.2.2=0) : ky o u.1.ag=0:=by
 have hB:ky o (bV z a o).2.ag=1:=by
  rw [j8 (iJ hz) hf ho (join_none hb 5) rfl,yI,hb,if_pos (Int.le_refl _)]
 have ug:∀ b∈(bV z a o).2.ag,b.Order≤o:=fun b lV=>by
  rw [j8 (iJ hz) hf ho (join_none hb 5) rfl] at lV;rcases jy lV with rfl|h
  ·exact Int.le_refl _
  ·rcases Int.lt_or_le b.Order o with h1|h1
   ·omega
   ·have:=nf.2 ⟨b,h,h1⟩;omega
 generalize (bV z a o).2=zb at h hB ug
 cases h with
 | bad|range|kind|room=>simp at h0
 | @ok k st hq sb ht hk hp =>
   have hz:=dc.1 hq;obtain ⟨_,p1,_⟩:=hp.ord;have p2:=ug _ (List.getElem_mem hk);have kj:k<(fb zb zb.ag[k] 1 st).length:=by rw [(mN hz ht st).1];exact hk
   have e1:=Au (o:=o) kj;rw [Av,ns hz ht st hk] at e1;have e3:(lx zb o 1 zb.ag[k] k st).ag=gk (oa zb 1 st zb.ag[k]) zb.ag[k].At (zb.ag[k].Order-o).toNat zb.ag[k].Order ((fb zb zb.ag[k] 1 st).eraseIdx k):=rfl
   have e4:(zb.ag[k].Order-o).toNat=0:=by omega
   simp only [e3,e4,gk];simp only at e1;rw [if_pos p1] at e1;omega
open Go.RowKit
structure C4 (z:ab) : Prop where
 types:∀ t∈z.Types,t=1
 free:∀ b∈z.ag,b.Ty=1
theorem vt {a:Int}:∀ (k:Nat) (q:Int) (l:List Block),(∀ b∈l,b.Ty=1) → ∀ b∈gk 1 a k q l,b.Ty=1
 | 0,_,_,h=>h
 | k+1,q,l,h=>vt k (q-1) _ fun b hb=>by
   rcases jy hb with rfl|hb
   ·rfl
   ·exact h b hb
theorem wN {z:ab} {o:Int} {u:ab×Int×Int} (h:dA z o 1 u) (h0:u.2.2=0) (hT:C4 z) : C4 u.1:=by
 cases h with
 | bad|range|kind|room=>simp at h0
 | @ok k st hq ho ht hk hp =>
   cases hp with
   | @hit n k hn QW hf kj hp hg =>
     have h1:=(sy.1 hp).2;have h2:=hT.free _ (List.getElem_mem hk);rw [h2] at h1
     have Bi:n<5:=by
      rcases Nat.lt_or_ge n 5 with h|h
      ·exact h
      ·unfold Dv at h1;rw [if_neg (by omega)] at h1;split at h1<;>simp [sA,sB] at h1
     have e:decide (5≤n)=false:=decide_eq_false (by omega)
     have e2:oa z 1 false z.ag[k]=1:=by simp [oa,h2]
     simp only [e,lx,Bool.false_eq_true,if_false,e2];exact ⟨hT.types,vt _ _ _ fun b hb=>hT.free b (List.mem_of_mem_eraseIdx hb)⟩
theorem vu:∀ (k:Nat) (l:List Block) (a o:Int),∀ b∈(dr k l a o).1,b∈l
 | 0,_,_,_=>fun b h=>h
 | k+1,l,a,o=>fun b h=>by
   unfold dr at h;split at h
   ·split at h
    ·have:=vu k _ _ _ b h
     unfold gC at this;exact (List.mem_filter.1 this).1
    ·exact h
   ·exact h
theorem Bq {z:ab} {a o:Int} (hz:aU z) (hf:dK z.aw z.To a o) (ho:eK z.ag a o=false) (hT:C4 z) : C4 (bV z a o).2:=by
 obtain ⟨⟨l,a',o'⟩,hj⟩ : ∃ u,dr 5 z.ag a o=u:=⟨_,rfl⟩;have hJ:=(ss hz.ok.1 5 (oN (f:=0) (t:=0) hz hf ho)).1.fit;have hs:=vu 5 z.ag a o;rw [hj] at hJ hs;simp only at hJ hs
 have hi:((a'-z.aw) / 8).toNat<z.Types.length:=by
  have:=hz.len
  have:=hJ.2.2.1;have:=hJ.2.2.2.1
  omega
 rw [j8 (iJ hz) hf ho hj rfl];refine ⟨hT.types,fun b hb => ?_⟩;rcases jy hb with rfl|hb
 ·simp only;rw [List.getD_eq_getElem?_getD,List.getElem?_eq_getElem hi];exact hT.types _ (List.getElem_mem hi)
 ·exact hT.free b (hs b hb)
theorem Br {l:List Region} {split:Int} (hs:cw 0 split) : ∀ p:Nat,p≤256→C4 (dw l split p).1∧C4 (dw l split p).2
 | 0,_=>by
   have kw:cw split 256:=by unfold cw at hs ⊢;omega
   simp only [dw,ep hs,ep kw];exact ⟨⟨fun t h=>List.eq_of_mem_replicate h,by simp⟩,⟨fun t h=>List.eq_of_mem_replicate h,by simp⟩⟩
 | p+1,hp=>by
   obtain ⟨D,vX⟩:=tM (l:=l) hs p (by omega);obtain ⟨t0,t1⟩:=Br (l:=l) hs p (by omega);have hN:=yF l (show p<256 by omega);obtain ⟨f0,f1⟩:=D.free hN;rw [dw];split
   ·split
    ·rename_i h;exact ⟨Bq D.gZ (D.low hN (by rw [vX];exact h)) f0 t0,t1⟩
    ·rename_i h;exact ⟨t0,Bq D.gL (D.mi hN (by rw [vX];exact h)) f1 t1⟩
   ·exact ⟨t0,t1⟩
def Ts (s:ab×ab) : Prop:=C4 s.1∧C4 s.2
theorem Ts.jd {s:ab×ab} (h:Ts s) (zi:Int) : C4 (jd s zi):=by unfold Go.Proofs.YtbidkghlpijecaaGreatDoor.jd;split;exact h.1;exact h.2
theorem Ts.ko {s:ab×ab} (h:Ts s) {zi:Int} {z:ab} (hz:C4 z) : Ts (dI s zi z):=by unfold dI;split;exact ⟨hz,h.2⟩;exact ⟨h.1,hz⟩
def Jt (o:Int) (L:List ap) : Prop := ∀ l∈L,o=0∧l.eI=0∧l.Ty=1
theorem fg.ty {m0 m1 zi:Int} {s:ab×ab} {l:List Int} {r:(ab×ab)×List Int} (h:fg m0 m1 zi 1 2 s l r) : Ts s→Ts r.1:=by
 induction h with
 | full|iw|none=>exact fun h=>h
 | more h he ht hu hr ih=>exact fun hs=>ih (hs.ko (wN ht hu (hs.jd _)))
theorem dO.room {m0 m1 zi o:Int} {s:ab×ab} {L:List ap} {r:(ab×ab)×List ap×Int} (h:dO m0 m1 0 zi o 1 2 s L (some r)) (hs:Ts s) (hL:Jt o L) : Ts r.1∧Jt o r.2.1:=by
 cases h with
 | list ho hk hp =>
   refine ⟨hs,fun l hl => ?_⟩;simp only [nJ] at hl;split at hl
   ·exact hL l (List.mem_of_mem_eraseIdx hl)
   ·rcases List.mem_or_eq_of_mem_set hl with h1|rfl
    ·exact hL l h1
    ·exact ⟨ho,rfl,rfl⟩
 | sZ ho he ht hu=>exact ⟨hs.ko (wN ht hu (hs.jd _)),hL⟩
 | fill ho hk he ht hu hr =>
   refine ⟨hr.ty (hs.ko (wN ht hu (hs.jd _))),fun l hl => ?_⟩;rcases qj hk l hl with h1|rfl
   ·exact hL l h1
   ·exact ⟨ho,rfl,rfl⟩
theorem ef.room {m0 m1 o:Int} {s:ab×ab} {L:List ap} {r:(ab×ab)×List ap×Int} (h:ef m0 m1 0 o 1 2 s L (some r)) (hs:Ts s) (hL:Jt o L) : Ts r.1∧Jt o r.2.1:=by
 cases h with
 | mi _ h=>exact h.room hs hL
 | low _ h=>exact h.room hs hL
theorem ef.Bs {m0 m1 o:Int} {s:ab×ab} {L:List ap} (h:ef m0 m1 0 o 1 2 s L none) : dO m0 m1 0 1 o 1 2 s L none∧dO m0 m1 0 0 o 1 2 s L none:=by
 cases h with
 | low hf h=>exact ⟨hf (by decide),h⟩
theorem dO.Bt {m0 m1 zi o:Int} {s:ab×ab} {L:List ap} (h:dO m0 m1 0 zi o 1 2 s L Option.none) : ¬ (o=0∧bC L ⟨0,zi,1,[]⟩=true):=by
 cases h with
 | iw hn=>exact hn
 | none hn=>exact hn
theorem ef.I0 {m0 m1 o c to:Int} {s:ab×ab} {L:List ap} (h:ef m0 m1 0 o 1 2 s L none) (hL:Jt o L) (iO:gn c to L) : L=[]:=by
 obtain ⟨h1,h0⟩:=h.Bs;rcases List.eq_nil_or_concat L with e|⟨i,l,e⟩
 ·exact e
 ·exfalso;have hm:l∈L:=by rw [e];simp
  obtain ⟨a1,a2,a3⟩:=hL l hm;obtain ⟨_,⟨b1,b2⟩,_⟩:=iO.head l hm;obtain ⟨k,hk,rfl⟩:=List.getElem_of_mem hm;have key:∀ zi:Int,L[k].ab=zi→bC L ⟨0,zi,1,[]⟩=true:=fun zi e=>(DP iO.jQ hk ⟨a2,e,a3⟩).2
  rcases (show L[k].ab=1∨L[k].ab=0 by omega) with e|e
  ·exact h1.Bt ⟨a1,key 1 e⟩
  ·exact h0.Bt ⟨a1,key 0 e⟩
def Fz (m0 m1 o:Int) (s:ab×ab) (zi:Int) : Prop := ¬ dD m0 m1 s zi o 2∨ky o (jd s zi).ag=0
theorem dO.fz {m0 m1 zi o:Int} {s:ab×ab} {L:List ap} (hv:VS s) (ho : 0≤o∧o≤4) (h:dO m0 m1 0 zi o 1 2 s L Option.none) : Fz m0 m1 o s zi:=by
 cases h with
 | iw _ he=>exact .inl he
 | none _ _ ht hu=>exact .inr (by have:=mt (wM (hv.jd zi) ho ht).2 hu;omega)
theorem dO.Jl {m0 m1 zi o:Int} {s:ab×ab} {r:(ab×ab)×List ap×Int} (hv:VS s) (ho : 0<o∧o≤4) (h:dO m0 m1 0 zi o 1 2 s [] (some r)) : ¬ Fz m0 m1 o s zi ∧ ∃ u,dA (jd s zi) o 1 u∧u.2.2=0∧r=(dI s zi u.1,[],u.2.1):=by
 cases h with
 | list h=>omega
 | fill h=>omega
 | @sZ u _ he ht hu =>
   refine ⟨fun hF => ?_,u,ht,hu,rfl⟩;have:=(wM (hv.jd zi) (by omega) ht).1 hu
   rcases hF with h|h
   ·exact h he
   ·omega
theorem dO.Ax {m0 m1 zi o:Int} {s:ab×ab} {L:List ap} {r:(ab×ab)×List ap×Int} (hv:VS s) (ho : 0≤o∧o≤4) (hk : ¬ (o=0∧bC L ⟨0,zi,1,[]⟩=true)) (h:dO m0 m1 0 zi o 1 2 s L (some r)) : ¬ Fz m0 m1 o s zi:=by
 cases h with
 | list h kj=>exact absurd ⟨h,kj⟩ hk
 | fill _ _ he ht hu _|sZ _ he ht hu =>
   intro hF;have:=(wM (hv.jd zi) ho ht).1 hu
   rcases hF with h|h
   ·exact h he
   ·omega
theorem LJ (x:ap) : bC [] x=false:=by unfold bC;rw [dif_neg (by simp)]
theorem ef.fz {m0 m1 o:Int} {s:ab×ab} {L:List ap} (hv:VS s) (ho : 0≤o∧o≤4) (h:ef m0 m1 0 o 1 2 s L none) : Fz m0 m1 o s 1∧Fz m0 m1 o s 0:=⟨h.Bs.1.fz hv ho,h.Bs.2.fz hv ho⟩
theorem ef.Gv {m0 m1 o:Int} {s:ab×ab} {r:Option ((ab×ab)×List ap×Int)} (hv:VS s) (ho : 0≤o∧o≤4) (h1:Fz m0 m1 o s 1) (h0:Fz m0 m1 o s 0) (h:ef m0 m1 0 o 1 2 s [] r) : r=none:=by
 cases h with
 | mi _ h=>exact absurd h1 (h.Ax hv ho (by rw [LJ];simp))
 | low _ h =>
   cases r with
   | none=>rfl
   | some r=>exact absurd h0 (h.Ax hv ho (by rw [LJ];simp))
theorem ef.Jl {m0 m1 o:Int} {s:ab×ab} {r:(ab×ab)×List ap×Int} (hv:VS s) (ho : 0<o∧o≤4) (h:ef m0 m1 0 o 1 2 s [] (some r)) : ∃ zi u,(zi=0∨zi=1) ∧ ¬ Fz m0 m1 o s zi∧dA (jd s zi) o 1 u∧u.2.2=0∧r=(dI s zi u.1,[],u.2.1):=by
 cases h with
 | mi _ h=>obtain ⟨a,u,b,c,d⟩:=h.Jl hv ho;exact ⟨1,u,.inr rfl,a,b,c,d⟩
 | low _ h=>obtain ⟨a,u,b,c,d⟩:=h.Jl hv ho;exact ⟨0,u,.inl rfl,a,b,c,d⟩
theorem lc (s:ab×ab) {zi:Int} (z:ab) : jd (dI s zi z) zi=z:=by unfold jd dI;split<;>rfl
theorem CN (s:ab×ab) {zi zj:Int} (hi:zi=0∨zi=1) (hj:zj=0∨zj=1) (cr:zj≠zi) (z:ab) : jd (dI s zi z) zj=jd s zj:=by
 rcases hi with rfl|rfl<;>rcases hj with rfl|rfl<;>first|exact absurd rfl cr|rfl
theorem pI (m0 m1:Int) (s:ab×ab) {zi:Int} {z:ab} (h1:z.aw=(jd s zi).aw) (h2:z.To=(jd s zi).To) (zj fl:Int) : jW m0 m1 (dI s zi z) zj fl=jW m0 m1 s zj fl:=by
 have e:(dI s zi z).2.To-(dI s zi z).2.aw=s.2.To-s.2.aw:=by
  unfold dI;unfold jd at h1 h2;by_cases e:zi=0
  ·rw [if_pos e]
  ·rw [if_neg e] at h1 h2 ⊢;simp only [h1,h2]
 unfold jW;rw [e]
theorem yJ {m0 m1 o:Int} {s:ab×ab} {zi zj:Int} {z:ab} (hi:zi=0∨zi=1) (hj:zj=0∨zj=1) (cr:zj≠zi) (h1:z.aw=(jd s zi).aw) (h2:z.To=(jd s zi).To) : Fz m0 m1 o (dI s zi z) zj↔Fz m0 m1 o s zj:=by
 unfold Fz dD;rw [CN s hi hj cr,pI m0 m1 s h1 h2]
theorem CO {s:ab×ab} {b:Block} {zi:Int} (hi:zi=0∨zi=1) (h:b.At<s.1.To↔zi=0) : ee s b=dI s zi (bV (jd s zi) b.At b.Order).2:=by
 unfold ee dI jd;rcases hi with rfl|rfl
 ·rw [if_pos (h.2 rfl)];rfl
 ·rw [if_neg (fun e=>by have:=h.1 e;omega)];rfl
structure vv (o:Int) (h:Heap) : Prop where
 may:aW h
 ty:∀ z∈h.aL,C4 z
 lists:Jt o h.aj
theorem type2:ff 2=1:=by decide
theorem oy {o:Int} {h:Heap} {u:Heap×Int×Int} (hI:vv o h) (ho : 0≤o∧o≤4) (a:bI h 0 o 2 u) : ∃ z0 z1,h.aL=[z0,z1]∧fe h z0 z1 ∧
 ((u.2.2=0 ∧ ∃ r,ef (aS h 0) (aS h 1) 0 o 1 2 (z0,z1) h.aj (some r)∧u=(ev h r.1 r.2.1 (cQ h r.2.2 o 1),r.2.2,0)) ∨
  (u.2.2=6∧h.aj=[]∧ef (aS h 0) (aS h 1) 0 o 1 2 (z0,z1) [] none)):=by
 have hm:=hI.may;have hb:=bH.2 hm;obtain ⟨y0,y1,f⟩:=dm hm;have fC:=f.d.bz;have CV:=hm.cpus;have KV:ef (aS h 0) (aS h 1) 0 o 1 2 (y0,y1) h.aj none→h.aj=[]:=fun ha=>ha.I0 hI.lists (f.ls hm)
 refine ⟨y0,y1,fC,f,?_⟩;cases a with
 | bad h=>rw [hb] at h;cases h
 | range _ h=>exact absurd ⟨⟨by omega,by omega⟩,ho⟩ h
 | form _ _ h=>rw [type2] at h;omega
 | @once z0 z1 r _ _ _ hz ha =>
   rw [hz] at fC;simp only [List.cons.injEq,and_true] at fC;obtain ⟨rfl,rfl⟩:=fC;rw [type2] at ha;exact .inl ⟨rfl,r,ha,by rw [type2]⟩
 | @dG z0 z1 r _ _ _ hz ha h2 =>
   rw [hz] at fC;simp only [List.cons.injEq,and_true] at fC;obtain ⟨rfl,rfl⟩:=fC;rw [type2] at ha h2;have e:=KV ha;rw [e] at ha h2;exact absurd (ha.mo h2) (by simp)
 | @room z0 z1 _ _ _ hz ha h2 =>
   rw [hz] at fC;simp only [List.cons.injEq,and_true] at fC;obtain ⟨rfl,rfl⟩:=fC;rw [type2] at ha;have e:=KV ha;rw [e] at ha;exact .inr ⟨rfl,e,ha⟩
theorem tQ {o:Int} {h:Heap} {u:Heap×Int×Int} (hI:vv o h) (ho : 0≤o∧o≤4) (a:bI h 0 o 2 u) (h0:u.2.2=0) : vv o u.1:=by
 obtain ⟨z0,z1,hz,f,hc⟩:=oy hI ho a;have hm:=a.may h0;rcases hc with ⟨_,r,ha,rfl⟩|⟨h6,_⟩
 ·have ht:=hI.ty;rw [hz] at ht;obtain ⟨t1,t2⟩:=ha.room ⟨ht z0 (by simp),ht z1 (by simp)⟩ hI.lists;refine ⟨hm,fun z hz => ?_,t2⟩;simp only [ev,List.mem_cons,List.not_mem_nil,or_false] at hz;rcases hz with rfl|rfl
  ·exact t1.1
  ·exact t1.2
 ·omega
theorem qy {o:Int} {h:Heap} (hm:aW h) (ho : 0≤o∧o≤4) {s:ab×ab} (hz:h.aL=[s.1,s.2]) (hl:h.aj=[]) (hv:VS s) (h1:Fz (aS h 0) (aS h 1) o s 1) (h0:Fz (aS h 0) (aS h 1) o s 0) {y:Heap×Int×Int} (a:bI h 0 o 2 y) : y.2.2=6:=by
 have CV:=hm.cpus;cases a with
 | bad h=>rw [bH.2 hm] at h;cases h
 | range _ h=>exact absurd ⟨⟨by omega,by omega⟩,ho⟩ h
 | form _ _ h=>rw [type2] at h;omega
 | once _ _ _ fC ha|dG _ _ _ fC _ ha =>
   rw [hz] at fC;simp only [List.cons.injEq,and_true] at fC;obtain ⟨rfl,rfl⟩:=fC;rw [type2,hl] at ha;exact absurd (ef.Gv hv ho h1 h0 ha) (by simp)
 | room=>rfl
open Go.RowKit
theorem vw {z:ab} (hz:aU z) (hT:C4 z) {a:Int} (h1:z.aw≤a) (h2:a<z.To) : oZ z a=1:=by
 have hl:=hz.len;have hi:((a-z.aw) / 8).toNat<z.Types.length:=by omega
 unfold oZ;rw [List.getD_eq_getElem?_getD,List.getElem?_eq_getElem hi];exact hT.types _ (List.getElem_mem hi)
theorem E6 (x:ap) : eU [] x=[x]:=by rw [lC (LJ x)];simp [aH]
theorem CP {l x:ap} (h:dS l x) : bC [l] x=true:=(DP (L:=[l]) (by unfold wc;simp) (k:=0) (by simp) h).2
theorem Gw {l x:ap} {p:Int} (hl:l.an=[p]) (h:bC [l] x=true) : nJ [l] x (bA [l] x)=[]:=by
 obtain ⟨hk,_⟩:=fK h;have e0:aO [l] x=0:=by simp only [List.length_cons,List.length_nil] at hk;omega
 have e:bA [l] x=[p]:=by
  rw [dY h hk];have:∀ (k:Nat) (hk:k<[l].length),k=0→([l])[k].an=[p]:=fun k hk e=>by subst e;exact hl
  exact this _ hk e0
 rw [e];unfold nJ;rw [if_pos (by simp),e0]
 rfl
def tR (o:Int) (h:Heap) : Prop:=h.aj=[] ∧ ∀ z0 z1,h.aL=[z0,z1]→Fz (aS h 0) (aS h 1) o (z0,z1) 1∧Fz (aS h 0) (aS h 1) o (z0,z1) 0
theorem yK {o:Int} {h:Heap} {v:Heap×Int×Int} (hI:vv o h) (ho : 0≤o∧o≤4) (hv:bI h 0 o 2 v) (v0:v.2.2≠0) : tR o h:=by
 obtain ⟨y0,y1,uE,f1,HR⟩:=oy hI ho hv;rcases HR with ⟨h6,_⟩|⟨_,oB,hn⟩
 ·exact absurd h6 v0
 ·refine ⟨oB,fun z0 z1 hz => ?_⟩;rw [uE] at hz;simp only [List.cons.injEq,and_true] at hz;obtain ⟨rfl,rfl⟩:=hz;exact hn.fz f1.d.start.vs ho
theorem Ay {o:Int} {h:Heap} {u x:Heap×Int×Int} (hI:vv o h) (ho : 0≤o∧o≤4) (hu:bI h 0 o 2 u) (u0:u.2.2=0) (nD:tR o u.1) (hx:bI (iF u.1 0 u.2.1) 0 o 2 x) :
 x.2.2=0 ∧ ∀ y,bI x.1 0 o 2 y→y.2.2=6:=by
 have KW:=tQ hI ho hu u0;obtain ⟨z0,z1,hz,f,hc⟩:=oy hI ho hu;rcases hc with ⟨_,r,ha,rfl⟩|⟨h6,_⟩
 rotate_left
 ·omega
 obtain ⟨y0,y1,f1⟩:=dm KW.may;have uE:=f1.d.bz;obtain ⟨oB,hn⟩:=nD;simp only at hx uE oB hn KW f1;have Ho:∀ i,aS (ev h r.1 r.2.1 (cQ h r.2.2 o 1)) i=aS h i:=fun _=>rfl
 rw [Ho,Ho] at hn;replace hn:=hn y0 y1 uE
 have QX:r.1=(y0,y1):=by
  simp only [ev,List.cons.injEq,and_true] at uE;exact Prod.ext uE.1 uE.2
 have CV:=KW.may.cpus
 have hb:(⟨r.2.2,o,1⟩ : Block)∈(ev h r.1 r.2.1 (cQ h r.2.2 o 1)).Live:=by
  simp only [ev,cQ,aH];simp
 generalize QY:ev h r.1 r.2.1 (cQ h r.2.2 o 1)=h1 at *
 have yW:∀ i,aS h1 i=aS h i:=fun i=>by rw [← QY];rfl
 obtain ⟨k,hk,ek⟩:=List.getElem_of_mem hb;obtain ⟨O1,Gx⟩:=om (im f1.live) hk (show h1.Live[k].At=r.2.2 by rw [ek]);have hN:=f1.next hk;rw [ek] at hN;have D:=f1.d.start;have O2:=D.vs;obtain ⟨QZ,Q0⟩:=D.free hN;obtain ⟨F1,F0⟩:=hn;have hF:∀ zj,zj=0∨zj=1→Fz (aS h 0) (aS h 1) o (y0,y1) zj:=fun zj hj=>by rcases hj with rfl|rfl;exact F0;exact F1
 have qp:=vn (cpu:=0) KW.may ⟨by omega,by omega⟩ Gx;by_cases O3 : 0<o
 ·have I1:=jO (cpu:=0) uE hk O1 (by rw [ek];exact O3);rw [ek] at I1;rw [I1] at hx qp
  have hl:h.aj=[]:=by
   rcases List.eq_nil_or_concat h.aj with e|⟨i,l,e⟩
   ·exact e
   ·have:=(hI.lists l (by rw [e];simp)).1
    omega
  rw [hl] at ha;obtain ⟨zi,w0,kf,Q3,hT,Gy,er⟩:=ha.Jl f.d.start.vs (by omega);have NB:(y0,y1)=dI (z0,z1) zi w0.1:=by rw [← QX,er]
  have Q4:r.2.2=w0.2.1:=by rw [er]
  have NC:=vm f.d.start.vs kf hT Gy;have vX:y0.To=z0.To:=by have:=lQ hT Gy;rw [← NB] at this;exact this
  have uH:(⟨r.2.2,o,1⟩ : Block).At<(y0,y1).1.To↔zi=0:=by
   have:=NC.2
   simp only at this ⊢;rw [Q4,vX];exact this
  have eb:=CO (s:=(y0,y1)) (b:=⟨r.2.2,o,1⟩) kf uH;have ez:jd (y0,y1) zi=w0.1:=by rw [NB];exact lc _ _
  have ib:dK (jd (y0,y1) zi).aw (jd (y0,y1) zi).To r.2.2 o∧eK (jd (y0,y1) zi).ag r.2.2 o=false:=by
   rcases kf with rfl|rfl
   ·exact ⟨D.low hN (uH.2 rfl),QZ⟩
   ·exact ⟨D.mi hN (fun e=>by have:=uH.1 e;omega),Q0⟩
  rw [ez] at ib;have E7:=(hT.ra Gy).1;obtain ⟨b1,b2,b3,b4⟩:=Aw E7.may ib.1 ib.2;have bb:=E5 E7.may ib.1 ib.2;have tb:=fun hh=>CM (u:=hh) E7.may ib.1 ib.2
  simp only at eb;rw [ez] at eb;have Gz:=(D.back hN).1.vs;rw [eb] at Gz
  have qU:bI ⟨[(dI (y0,y1) zi (bV w0.1 r.2.2 o).2).1,(dI (y0,y1) zi (bV w0.1 r.2.2 o).2).2],h1.bT,h1.bt,[],h1.Live.eraseIdx k⟩ 0 o 2 x:=by
   have:=hx
   unfold jN at this;rwa [eb,oB] at this
  have KX:aW ⟨[(dI (y0,y1) zi (bV w0.1 r.2.2 o).2).1,(dI (y0,y1) zi (bV w0.1 r.2.2 o).2).2],h1.bT,h1.bt,[],h1.Live.eraseIdx k⟩:=by
   have:=qp
   unfold jN at this;rwa [eb,oB] at this
  generalize (bV w0.1 r.2.2 o).2=zb at *
  have Sd:=tP hT Gy ho;have Q5:=hF zi kf;have I2:dD (aS h 0) (aS h 1) (z0,z1) zi o 2:=Classical.byContradiction fun e=>Q3 (.inl e)
  have ND:jW (aS h 0) (aS h 1) (y0,y1) zi 2=jW (aS h 0) (aS h 1) (z0,z1) zi 2:=by rw [NB];exact pI _ _ _ E7.from_ E7.jA _ _
  have O4:jW (aS h 0) (aS h 1) (dI (y0,y1) zi zb) zi 2=jW (aS h 0) (aS h 1) (y0,y1) zi 2:=pI _ _ _ (by rw [ez];exact b2) (by rw [ez];exact b3) _ _
  have KY : ¬ Fz (aS h 0) (aS h 1) o (dI (y0,y1) zi zb) zi:=by
   rintro (e|e)
   ·refine e ?_;unfold dD at I2 ⊢;rw [O4,ND,lc];omega
   ·rw [lc] at e;omega
  have O5:∀ zj,zj=0∨zj=1→zj≠zi→Fz (aS h 0) (aS h 1) o (dI (y0,y1) zi zb) zj:=fun zj hj cr=>(yJ kf hj cr (by rw [ez];exact b2) (by rw [ez];exact b3)).2 (hF zj hj)
  have E8 : ¬ ef (aS h 0) (aS h 1) 0 o 1 2 (dI (y0,y1) zi zb) [] none:=fun e=>by
   obtain ⟨e1,e0⟩:=e.fz Gz ho;rcases kf with rfl|rfl
   ·exact KY e0
   ·exact KY e1
  have NE:=KX.cpus;have vH:∀ (i:Nat) (Z:List ab) (c:Int) (L:List ap) (lv:List Block),aS ⟨Z,h1.bT,c,L,lv⟩ i=aS h i:=fun i _ _ _ _=>yW i
  have Kb:=fun e=>qU.may e
  cases qU with
  | bad hb=>rw [bH.2 KX] at hb;cases hb
  | range _ hr=>exact absurd ⟨⟨by omega,by omega⟩,ho⟩ hr
  | form _ _ ht=>rw [type2] at ht;omega
  | dG _ _ _ fC oA|room _ _ _ fC oA =>
    simp only [List.cons.injEq,and_true] at fC;obtain ⟨rfl,rfl⟩:=fC;rw [type2,vH,vH] at oA;exact absurd oA E8
  | @once q0 q1 r2 _ _ _ fC oA =>
    refine ⟨rfl,fun y hy => ?_⟩;simp only [List.cons.injEq,and_true] at fC;obtain ⟨rfl,rfl⟩:=fC;rw [type2,vH,vH] at oA;obtain ⟨zk,w1,JY,Q6,O6,aa,Q7⟩:=ef.Jl (s:=dI (y0,y1) zi zb) Gz (by omega) oA;have Q8:zk=zi:=Classical.byContradiction fun e=>Q6 (O5 zk JY e)
    subst Q8;have I3:=O6;rw [lc] at I3;have DU:=(O6.ra aa).1;have NF:=Gz.ko DU;have Q9:=tP I3 aa ho;subst Q7;have Ra:jW (aS h 0) (aS h 1) (dI (dI (y0,y1) zk zb) zk w1.1) zk 2=jW (aS h 0) (aS h 1) (dI (y0,y1) zk zb) zk 2:=pI _ _ _ DU.from_ DU.jA _ _
    have Lt:∀ zj,zj=0∨zj=1→Fz (aS h 0) (aS h 1) o (dI (dI (y0,y1) zk zb) zk w1.1) zj:=fun zj hj=>by
     by_cases e:zj=zk
     ·subst e;rcases Q5 with e|e
      ·refine .inl fun e2=>e ?_
       unfold dD at e2 ⊢;rw [Ra,O4,lc] at e2;rw [ez];omega
      ·rw [ez] at e;right;rw [lc];exact tb _ e I3 aa
     ·exact (yJ kf hj e DU.from_ DU.jA).2 (O5 zj hj e)
    refine qy (Kb rfl) ho (s:=dI (dI (y0,y1) zk zb) zk w1.1) rfl rfl NF ?_ ?_ hy
    ·have:=Lt 1 (.inr rfl)
     rwa [← vH 0 [] 0 [] [],← vH 1 [] 0 [] []] at this
    ·have:=Lt 0 (.inl rfl)
     rwa [← vH 0 [] 0 [] [],← vH 1 [] 0 [] []] at this
 ·have o0:o=0:=by omega
  subst o0;have I1:=jP (cpu:=0) uE hk O1 (by rw [ek];exact O3);rw [I1] at hx qp;have KO:=hN.at_;simp only at KO
  obtain ⟨zi,kf,NG⟩ : ∃ zi,(zi=0∨zi=1)∧keyOf y0 y1 0 r.2.2=⟨0,zi,1,[]⟩:=by
   have ht:=KW.ty;rw [uE] at ht;have a1:y0.aw=0:=D.kc
   have a2:y0.To=y1.aw:=D.v9
   have a3:y1.To=256:=D.AW
   unfold keyOf;by_cases hl:r.2.2<y0.To
   ·refine ⟨0,.inl rfl,?_⟩;rw [if_pos hl,if_pos hl,vw (z:=y0) D.gZ (ht y0 (by simp)) (by omega) hl]
   ·refine ⟨1,.inr rfl,?_⟩;rw [if_neg hl,if_neg hl,vw (z:=y1) D.gL (ht y1 (by simp)) (by omega) (by omega)]
  have e2:fU h1 y0 y1 (keyOf y0 y1 0 r.2.2) (bA h1.aj (keyOf y0 y1 0 r.2.2)++[r.2.2]) (h1.Live.eraseIdx k)=⟨[y0,y1],h1.bT,h1.bt,[⟨0,zi,1,[r.2.2]⟩],h1.Live.eraseIdx k⟩:=by
   rw [NG,oB,iE (LJ _)];unfold fU;rw [if_neg (by simp),oB,E6]
   rfl
  rw [e2] at hx qp;have NE:=qp.cpus;have vH:∀ (i:Nat) (Z:List ab) (c:Int) (L:List ap) (lv:List Block),aS ⟨Z,h1.bT,c,L,lv⟩ i=aS h i:=fun i _ _ _ _=>yW i
  have E8 : ¬ ef (aS h 0) (aS h 1) 0 0 1 2 (y0,y1) [⟨0,zi,1,[r.2.2]⟩] none:=fun e=>by
   obtain ⟨e1,e0⟩:=e.Bs;have Hp:∀ zj,zj=zi→bC [⟨0,zi,1,[r.2.2]⟩] ⟨0,zj,1,[]⟩=true:=fun zj e=>CP ⟨rfl,e.symm,rfl⟩
   rcases kf with rfl|rfl
   ·exact e0.Bt ⟨rfl,Hp _ rfl⟩
   ·exact e1.Bt ⟨rfl,Hp _ rfl⟩
  have KZ:∀ zj r2,(zj=0∨zj=1)→dO (aS h 0) (aS h 1) 0 zj 0 1 2 (y0,y1) [⟨0,zi,1,[r.2.2]⟩] (some r2)→r2.1=(y0,y1)∧r2.2.1=[]:=fun zj r2 hj e=>by
   have Rb:=fun Hp=>e.Ax O2 ho Hp (hF zj hj)
   cases e with
   | list _ Hp hp=>exact ⟨rfl,Gw rfl Hp⟩
   | sZ h=>omega
   | fill _ Hp=>exact absurd (fun hh=>by rw [Hp] at hh;simp at hh) Rb
  have Kb:=fun e=>hx.may e
  cases hx with
  | bad hb=>rw [bH.2 qp] at hb;cases hb
  | range _ hr=>exact absurd ⟨⟨by omega,by omega⟩,ho⟩ hr
  | form _ _ ht=>rw [type2] at ht;omega
  | dG _ _ _ fC oA|room _ _ _ fC oA =>
    simp only [List.cons.injEq,and_true] at fC;obtain ⟨rfl,rfl⟩:=fC;rw [type2,vH,vH] at oA;exact absurd oA E8
  | @once q0 q1 r2 _ _ _ fC oA =>
    refine ⟨rfl,fun y hy => ?_⟩;simp only [List.cons.injEq,and_true] at fC;obtain ⟨rfl,rfl⟩:=fC;rw [type2,vH,vH] at oA
    obtain ⟨q1,q2⟩ : r2.1=(y0,y1)∧r2.2.1=[]:=by
     cases oA with
     | mi _ h=>exact KZ 1 _ (.inr rfl) h
     | low _ h=>exact KZ 0 _ (.inl rfl) h
    refine qy (Kb rfl) ho (s:=(y0,y1)) (by simp only [ev,q1]) (by simp only [ev,q2]) O2 ?_ ?_ hy
    ·rw [← vH 0 [] 0 [] [],← vH 1 [] 0 [] []] at F1;exact F1
    ·rw [← vH 0 [] 0 [] [],← vH 1 [] 0 [] []] at F0;exact F0
open Go.RowKit
def gM (o:Int) : iY:=⟨1,0,o,0,0,2,⟨#[]⟩⟩
def qz (at_:Int) : iY:=⟨2,0,0,0,at_,0,⟨#[]⟩⟩
theorem ld {o:Int} {s:ak} {w:ak×iZ} (h:na s (gM o) w) : ∃ u,bI s.Heap 0 o 2 u∧w=(tr u.2.2 s (td s u.1),⟨u.2.2,u.2.1,[]⟩):=by
 cases h with
 | cb hk h=>exact ⟨_,h,rfl⟩
 | Cw hk|drain hk|pr hk|ym hk|yn hk=>exact absurd hk (by simp [gM])
theorem CQ {a:Int} {s:ak} {w:ak×iZ} (h:na s (qz a) w) : ∃ u,pq s (qz a) u∧w=(tr u.2 s u.1,⟨u.2,0,[]⟩):=by
 cases h with
 | Cw hk h=>exact ⟨_,h,rfl⟩
 | cb hk|drain hk|pr hk|ym hk|yn hk=>exact absurd hk (by simp [qz])
theorem E9 {o:Int} {s:ak} {w w':ak×iZ} (h:na s (gM o) w) (h':na s (gM o) w') : w=w':=by
 obtain ⟨u,hu,rfl⟩:=ld h;obtain ⟨u',Cn,rfl⟩:=ld h';rw [hu.mo Cn]
theorem kW.fj {s t:ak} {xs:List iZ} (h:kW s [] xs t) : xs=[]∧t=s:=by
 generalize e:([] : List iY)=l at h
 cases h with
 | nil=>exact ⟨rfl,rfl⟩
 | snoc h hu=>simp at e
theorem tS {o:Int}:∀ {n:Nat} {s t t':ak} {xs LK:List iZ},kW s (List.replicate n (gM o)) xs t→kW s (List.replicate n (gM o)) LK t'→xs=LK∧t=t'
 | 0,s,t,t',xs,LK,h,h'=>by
   obtain ⟨rfl,rfl⟩:=h.fj;obtain ⟨rfl,rfl⟩:=h'.fj;exact ⟨rfl,rfl⟩
 | n+1,s,t,t',xs,LK,h,h'=>by
   rw [List.replicate_succ'] at h h';obtain ⟨ys,m,u,h1,h2,rfl,rfl⟩:=h.vc;obtain ⟨Se,m',u',Mo,ml,rfl,rfl⟩:=h'.vc;obtain ⟨rfl,rfl⟩:=tS h1 Mo;rw [E9 h2 ml];exact ⟨rfl,rfl⟩
def lf (xs:List iZ) : Int×Int:=xs.foldl (fun p y=>if y.Code=0 then (y.N,p.2+1) else p) (-1,0)
theorem tT (xs:List iZ) (y:iZ) : lf (xs++[y])=if y.Code=0 then (y.N,(lf xs).2+1) else lf xs:=by unfold lf;rw [List.foldl_append];rfl
def yL (h:Heap) : Nat:=k9 (fun i=>fq (h.aL.flatMap ab.ag) i+dQ h.aj i) 256
theorem pJ {h:Heap} {s:ab×ab} (hz:h.aL=[s.1,s.2]) : yL h=k9 (fun i=>iz s i+dQ h.aj i) 256:=by
 unfold yL iz;rw [hz];refine jZ (fun i => ?_) 256;simp [cf]
theorem GA {h:Heap} (hm:aW h) : yL h≤256:=by
 obtain ⟨z0,z1,f⟩:=dm hm;rw [pJ (s:=(z0,z1)) f.d.bz];refine Bo (fun i => ?_) 256;have:=f.IU i
 unfold ox at this;omega
theorem CR {h:Heap} {cpu o fl:Int} {u:Heap×Int×Int} (a:bI h cpu o fl u) (h0:u.2.2=0) (ho : 0≤o∧o≤4) : (yL u.1:Int)+pw o=yL h:=by
 have Fq:u.2.1 % pw o=0:=by
  cases a with
  | bad|range|form|room=>simp at h0
  | once _ _ _ _ ha=>exact ha.al
  | dG _ _ _ _ _ ha=>exact ha.al
 have uH:=a.at_ h0;obtain ⟨y0,y1,s,c1,c2,c3,c4,c5,c7,c8,c9,LI⟩:=a.fq h0;have hr:=pH ho.1 ho.2 uH.1 uH.2 Fq;rw [pJ (s:=(y0,y1)) c1,pJ c4,jZ (fun i=>(LI i).2),nd (fun i=>iz s i+dQ u.1.aj i) (nc u.2.1 o),Int.natCast_add,pG hr.1 hr.2.1 hr.2.2]
theorem yM {f:Nat→Nat} {i:Nat} (h : 0<f i) : ∀ k,i<k→0<k9 f k
 | 0,hk=>by omega
 | k+1,hk=>by
   simp only [k9];by_cases e:i=k
   ·subst e;omega
   ·have:=yM h k (by omega);omega
theorem yN {o:Int} {h:Heap} (hm:aW h) (ht:yL h=0) : tR o h:=by
 obtain ⟨z0,z1,f⟩:=dm hm;rw [pJ (s:=(z0,z1)) f.d.bz] at ht
 have nD:∀ i,i<256→iz (z0,z1) i+dQ h.aj i=0:=fun i hi=>by
  rcases Nat.eq_zero_or_pos (iz (z0,z1) i+dQ h.aj i) with e|e
  ·exact e
  ·have:=yM (f:=fun i=>iz (z0,z1) i+dQ h.aj i) e 256 hi
   omega
 have hz:∀ z,z=z0∨z=z1→aU z→ky o z.ag=0:=fun z hz IA=>by
  rcases Nat.eq_zero_or_pos (ky o z.ag) with e|e
  ·exact e
  ·exfalso;obtain ⟨b,hb,_⟩:=nf.1 e;have hr:=gW IA hb;have h1:=Bm hb (i:=b.At.toNat) (by omega);have h2:=nD b.At.toNat (by omega);unfold iz at h2;rcases hz with rfl|rfl<;>simp only at h2<;>omega
 refine ⟨?_,fun y0 y1 hy => ?_⟩
 ·rcases List.eq_nil_or_concat h.aj with e|⟨i,l,e⟩
  ·exact e
  ·exfalso;have hL:=f.ls hm;have Jb:l∈h.aj:=by rw [e];simp
   have h1:=(hL.head l Jb).2.2.2.1;obtain ⟨p,hp⟩ : ∃ p,p∈l.an:=List.exists_mem_of_length_pos (by omega);have h2:=(hL.gj l Jb p hp).1
   have h3 : 0<dQ h.aj p.toNat:=by
    unfold dQ;refine Bm (b:=bj p) ?_ ?_
    ·unfold aF;rw [List.mem_flatMap];exact ⟨l,Jb,List.mem_map_of_mem hp⟩
    ·simp only [bj,fp];omega
   have:=nD p.toNat (by omega)
   omega
 ·rw [f.d.bz] at hy;simp only [List.cons.injEq,and_true] at hy;obtain ⟨rfl,rfl⟩:=hy;exact ⟨.inr (hz _ (.inr rfl) f.d.gL),.inr (hz _ (.inl rfl) f.d.gZ)⟩
structure K4 (o:Int) (s:ak) : Prop where
 room:vv o s.Heap
 none:∀ c∈s.ai,c.aK=[]
theorem yO {o:Int} (ho : 0≤o∧o≤4) {s:ak} (hs:K4 o s) : ∀ {N:Nat} {xs:List iZ} {t:ak},kW s (List.replicate N (gM o)) xs t →
 ∃ n:Nat,n≤N∧(lf xs).2=(n:Int)∧K4 o t∧(∃ ys,kW s (List.replicate n (gM o)) ys t)∧(n<N→tR o t.Heap)∧(n=0→(lf xs).1 = -1) ∧
  (0<n → ∃ p u,K4 o p∧bI p.Heap 0 o 2 u∧u.2.2=0∧t=td p u.1∧(lf xs).1=u.2.1)∧(yL t.Heap:Int)+n*pw o=yL s.Heap
 | 0,xs,t,h=>by
   obtain ⟨rfl,rfl⟩:=tS h (.nil s);exact ⟨0,Nat.le_refl _,rfl,hs,⟨_,.nil _⟩,fun h=>absurd h (Nat.lt_irrefl _),fun _=>rfl,fun h=>absurd h (Nat.lt_irrefl _),by simp⟩
 | N+1,xs,t,h=>by
   have h':=h;rw [List.replicate_succ'] at h';obtain ⟨ys,m,w,h1,h2,rfl,rfl⟩:=h'.vc;obtain ⟨n,k1,k2,k3,⟨zs,k4⟩,k5,k6,k7,k8⟩:=yO ho hs h1;obtain ⟨u,hu,rfl⟩:=ld h2;rw [tT];by_cases he:u.2.2=0
   ·have hn:n=N:=by
     rcases Nat.lt_or_ge n N with dg|Fx
     ·exfalso;have nD:=k5 dg;obtain ⟨z0,z1,f⟩:=dm k3.room.may;obtain ⟨n1,n2⟩:=nD;obtain ⟨F1,F0⟩:=n2 z0 z1 f.d.bz;have:=qy k3.room.may ho (s:=(z0,z1)) f.d.bz n1 f.d.start.vs F1 F0 hu
      omega
     ·omega
    subst hn;simp only [tr,if_pos he];have hr:=tQ k3.room ho hu he;have ht:=CR hu he ho
    refine ⟨n+1,Nat.le_refl _,by rw [k2];rfl,⟨hr,k3.none⟩,⟨_,h' |> fun hh=>by
     have:=hh
     simp only [tr,if_pos he] at this;rw [List.replicate_succ'];exact this⟩,fun h=>absurd h (Nat.lt_irrefl _),fun h=>by omega,fun _=>⟨m,u,k3,hu,he,rfl,rfl⟩,?_⟩
    simp only [td];rw [Int.natCast_add,Int.add_mul];omega
   ·simp only [tr,if_neg he];exact ⟨n,by omega,k2,k3,⟨zs,k4⟩,fun _=>yK k3.room ho hu he,k6,k7,k8⟩
theorem Fa {o:Int} (ho : 0≤o∧o≤4) {s:ak} (hs:K4 o s) {N:Nat} (hN:(N:Int)*pw o=256) {xs:List iZ} {t:ak} (h:kW s (List.replicate N (gM o)) xs t) :
 ∃ n:Nat,n≤N∧(lf xs).2=(n:Int)∧(n=0→(lf xs).1 = -1)∧(0<n→0≤(lf xs).1∧(lf xs).1<256) ∧
  (0<n → ∀ ys t',kW s (List.replicate n (gM o)++[qz (lf xs).1,gM o,gM o]) ys t' → ∃ zs a b c,ys=zs++[a,b,c]∧zs.length=n∧a.Code=0∧b.Code=0∧c.Code=6):=by
 obtain ⟨n,k1,k2,k3,⟨zs,k4⟩,k5,k6,k7,k8⟩:=yO ho hs h;refine ⟨n,k1,k2,k6,fun hn => ?_,fun hn ys t' hy => ?_⟩
 ·obtain ⟨p,u,_,hu,u0,_,e⟩:=k7 hn;rw [e];exact hu.at_ u0
 ·obtain ⟨p,u,hp,hu,u0,et,e⟩:=k7 hn
  have nD:tR o t.Heap:=by
   rcases Nat.lt_or_ge n N with dg|Fx
   ·exact k5 dg
   ·obtain rfl:n=N:=by omega
    have:=GA hs.room.may
    exact yN k3.room.may (by omega)
  rw [e] at hy;have e3:List.replicate n (gM o)++[qz u.2.1,gM o,gM o]=(List.replicate n (gM o)++[qz u.2.1]++[gM o])++[gM o]:=by simp
  rw [e3] at hy;obtain ⟨y2,m2,w3,Lz,iN,rfl,rfl⟩:=hy.vc;obtain ⟨y1,m1,w2,Rc,bo,rfl,rfl⟩:=Lz.vc;obtain ⟨y0,m0,w1,Lh,aa,rfl,rfl⟩:=Rc.vc;obtain ⟨rfl,rfl⟩:=tS Lh k4;have uH:=hu.at_ u0;obtain ⟨_,_,⟨ty,_,Rd⟩,_⟩:=hu.from_ u0;have NH:m0.Heap=u.1:=by rw [et];rfl
  have tW:=k3.room.may;obtain ⟨g,hg,rfl⟩:=CQ aa;have CV:=tW.cpus
  have Gx:bf m0.Heap.Live u.2.1=true:=by
   have hb:(⟨u.2.1,o,ty⟩ : Block)∈m0.Heap.Live:=by
    rw [NH,Rd];simp only [cQ,aH];simp
   obtain ⟨k,hk,ek⟩:=List.getElem_of_mem hb;exact (om (im tW.live) hk (by rw [ek])).2
  have hw:dN m0 (u.2.1*16)=true:=by
   unfold dN ny;rw [show u.2.1*16 / 16=u.2.1 by omega,Gx,decide_eq_true (by omega)]
   have:m0.ai.any (m6 u.2.1)=false:=by
    rw [List.any_eq_false];intro c hc;unfold m6;rw [k3.none c hc];simp
   rw [this]
   rfl
  have I1:=o6 (cpu:=0) (bH.2 tW) ⟨by omega,by omega⟩ Gx
  have eg:g=(td m0 (iF m0.Heap 0 u.2.1),0):=by
   cases hg with
   | range h=>exact absurd uH h
   | no _ h=>rw [show (qz u.2.1).At=u.2.1 from rfl,hw] at h;cases h
   | ok _ _ he=>simp only [qz];rw [I1]
   | fault _ _ he=>simp only [qz] at he;rw [I1] at he;exact absurd rfl he
  subst eg;simp only [tr,if_true] at bo iN ⊢;obtain ⟨x,hx,rfl⟩:=ld bo;have NI:=Ay hp.room ho hu u0 (by rw [← NH];exact nD) (by rw [← NH];exact hx);simp only [tr,if_pos NI.1] at iN;obtain ⟨y,NA,rfl⟩:=ld iN;exact ⟨y0,⟨0,0,[]⟩,⟨x.2.2,x.2.1,[]⟩,⟨y.2.2,y.2.1,[]⟩,by simp,by rw [Lh.len];simp,rfl,NI.1,NI.2 y NA⟩
theorem Az {a b c o:Int} {s:ak} (f:kx (CJ a b c) 6 s) : K4 o s:=by
 have ht:=Br (l:=runs (gB (rn a b c) (rp a b c)) 256) (lR a b c).1 256 (Nat.le_refl _);refine ⟨⟨by rw [f.heap];exact tN a b c,fun z hz => ?_,fun l hl => ?_⟩,fun q hq => ?_⟩
 ·rw [f.heap] at hz;simp only [CJ,kv,List.mem_cons,List.not_mem_nil,or_false] at hz;rcases hz with rfl|rfl
  ·exact ht.1
  ·exact ht.2
 ·rw [f.heap] at hl;simp [CJ,kv] at hl
 ·rw [f.ck] at hq;obtain ⟨i,_,rfl⟩:=List.mem_map.1 hq
  rfl
end Go.Proofs.YtbidkghlpijecaaGreatDoor
