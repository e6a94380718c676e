/-
  Texts of the claim TopProcessors, part 17: what its theorem leans on.
-/
import Derived.Test.YtbidkghlpijecaaGreatDoorPackTopProcessors16
import Derived.Test.YtbidkghlpijecaaGreatDoorPackTopProcessors15
import Derived.Test.YtbidkghlpijecaaGreatDoorPackTopProcessors13
import Derived.Test.YtbidkghlpijecaaGreatDoorPackTopProcessors2
import Derived.Test.YtbidkghlpijecaaGreatDoorPackTopProcessors11
set_option linter.unusedVariables false
set_option linter.unusedSimpArgs false
namespace Go.Proofs.YtbidkghlpijecaaGreatDoor
open Go.RowKit
theorem wu (r:gC) (l:List Block) (a:Int) (w:World) (hl:Sl w 3 aL r.Live.A r.Live.n l) (hu:l.Pairwise fun x y=>x.At<y.At) (hb:∀ b∈l,0≤b.At∧b.At≤255) (hn:r.Live.n≤1000000000000000000) (ha : 0≤a∧a<256) :
 bq Tryz.prog 107 [.agg (cV r).toArray,.int .i64 a] w fun v _=>v = .tuple #[.int .i64 (bi l a:Int),.bool (br l a)]:=by
 refine aG Tryz.func107 rfl Tryz.ntmps107 rfl ?_;refine CW.seq (CW.region (SW.box rfl rfl fun b1 w1 hw jh aI => ?_));refine Wz ?_
 refine SW.call rfl rfl (gn _ _ _ _ a _ (hl.ext hw) _ (fun x hx w' _=>by
  have:=oQ x a w'
  have h:=hb x hx;rwa [gf (by omega) (by omega)] at this) hu hn) fun v w2 bF hv => ?_
 subst hv;replace hw:=Ext.trans hw bF;refine Wz ?_;exact ah.cb rfl rfl rfl ⟨_,rfl,hw,rfl⟩
def lK (lo:Nat) (u:Heap×Int×Int) (v:Value) (w:World) : Prop := ∃ s:gC,v = .tuple #[.agg (cV s).toArray,.int .i64 u.2.1,.int .i64 u.2.2]∧gZ w lo s u.1
theorem lK.zero (e:Int) (lo:Nat) (w:World) : lK lo (.zero,0,e) (.tuple #[.agg (cV .zero).toArray,.int .i64 0,.int .i64 e]) w:=⟨.zero,rfl,gZ.zero w lo⟩
theorem HS.HT {wb w:World} {k:HK} {p:HP} {s:ao×ao} {L:List ay} {i:Nat} {cs:List Value} (h:HS wb w k p s L) (hB:aW w i 41 cs) (bW:i≠k.b) : ¬ iW k p i:=fun hm=>by
 rcases hm with e|e|e|⟨y,hy,e⟩
 ·exact bW e
 ·exact h.zs.row.dq hB rfl (by rw [h.zs.own,e])
 ·exact h.ls.row.dq hB rfl e
 ·obtain ⟨l,_,hl⟩:=h.CN hy;exact hl.bM.dq hB rfl e
theorem HU {h:Heap} (hm:bp h) : yq h.dk (jl h 0) (jl h 1):=by
 obtain ⟨m0,m1,e,h0,h1⟩:=hm.dA;unfold jl;rw [e];exact ⟨rfl,h0,h1⟩
set_option maxHeartbeats 8000000 in
theorem sZ (r:gC) (h:Heap) (cpu o f:Int) (w:World) (hr:DX w r h) (hs:h.small) (IU:∀ z∈h.bf,eU z) (hO:nq w) :
 bq Tryz.prog 67 [.agg (cV r).toArray,.int .i64 cpu,.int .i64 o,.int .i64 f] w fun v w' => ∃ u,ct h cpu o f u∧lK w.heap.size u v w':=by
 refine aG Tryz.func67 rfl Tryz.ntmps67 rfl ?_;refine CW.seq (CW.region (SW.box rfl rfl fun b4 w1 hw jF bd => ?_));have iN:=jF;refine SW.alloc rfl fun b8 w2 bF zM bA => ?_
 have kn:w.heap.size≤b8:=Nat.le_trans hw.size zM
 have wv:b4≠b8:=by have:=bd.lt;omega
 (replace hw:=Ext.trans hw bF;replace bd:=bd.ext bF);have eC:=hr.cpus;obtain ⟨q,hq⟩ : ∃ q,fX h=q:=⟨_,rfl⟩
 have c1:∀ w',Ext w w'→bq Tryz.prog 88 [.agg (cV r).toArray] w' fun v _=>v = .int .i64 (if q then 0 else 8):=fun w' hx=>by
  have:=nz r h w' (hr.ext hx) hs IU
  rwa [hq] at this
 cases q
 ·simp only [Bool.false_eq_true,if_false] at c1;repeat' (first|refine Wy ?_|refine SW.st (aB rfl rfl ((fun _ _=>bd.cell))) rfl ?_|(refine SW.call rfl rfl (c1 _ hw) ?_;intro v w1 ae hv;subst hv;replace hw:=Ext.trans hw ae;replace bd:=bd.ext ae;replace bA:=bA.ext ae;clear ae))
  refine SW.ak bA rfl rfl rfl rfl (dJ .zero) fun w5 bU hg => ?_
  replace hw:=hw.own kn hg;repeat' (first|refine Wy ?_|fail);exact ah.gK rfl rfl rfl rfl bU rfl ⟨_,rfl,hw,_,.bad hq,lK.zero 8 _ _⟩
 ·simp only [if_true] at c1;have hm:=cG.1 hq;obtain ⟨z0,z1,F⟩:=fO hm;by_cases hc:(0≤cpu∧cpu<h.bw)∧0≤o∧o≤4
  ·obtain ⟨q2,sr⟩ : ∃ q2,decide (0≤gu f)=q2:=⟨_,rfl⟩
   have c2:∀ w',bq Tryz.prog 152 [.int .i64 f] w' fun v _=>v = .tuple #[.int .i64 (if 0≤gu f then gu f else 0),.bool q2]:=fun w'=>by
    have:=Dd f w'
    rwa [sr] at this
   cases q2
   ·have ht:=of_decide_eq_false sr;repeat' (first|refine Wy ?_|(refine CW.dh rfl ?_)|refine SW.st (aB rfl rfl ((fun _ _=>bd.cell))) rfl ?_|refine SW.st (aq rfl (bd.cell (i:=2) (v := .int .i64 r.bw) rfl)) rfl ?_|((first|refine SW.call rfl rfl (c1 _ hw) ?_|refine SW.call rfl rfl (c2 _) ?_);intro v w1 ae hv;subst hv;replace hw:=Ext.trans hw ae;replace bd:=bd.ext ae;replace bA:=bA.ext ae;clear ae))
    all_goals try omega
    refine SW.ak bA rfl rfl rfl rfl (dJ .zero) fun w5 bU hg => ?_
    replace hw:=hw.own kn hg;repeat' (first|refine Wy ?_|fail);exact ah.gK rfl rfl rfl rfl bU rfl ⟨_,rfl,hw,_,.form hq hc (by omega),lK.zero 3 _ _⟩
   ·have ht:=of_decide_eq_true sr;obtain ⟨hf,si⟩:=o8 ht;obtain ⟨t,JN⟩ : ∃ t,gu f=t:=⟨_,rfl⟩;have og : 0≤t:=by rw [← JN];exact ht
    simp only [JN,if_pos og] at c2;repeat' (first|refine Wy ?_|(refine CW.di rfl ?_)|refine SW.st (aB rfl rfl ((fun _ _=>bd.cell))) rfl ?_|refine SW.st (aq rfl (bd.cell (i:=2) (v := .int .i64 r.bw) rfl)) rfl ?_|((first|refine SW.call rfl rfl (c1 _ hw) ?_|refine SW.call rfl rfl (c2 _) ?_);intro v w1 ae hv;subst hv;replace hw:=Ext.trans hw ae;replace bd:=bd.ext ae;replace bA:=bA.ext ae;clear ae))
    all_goals try omega
    clear c1 c2;refine SW.call rfl rfl (qx r h _ (hr.ext hw) hs) fun v w4 eM hv => ?_
    obtain ⟨s,rfl,KL⟩:=hv;have hM:=KL.own.dA.low hw.size;have hV:=KL.own.live.low hw.size;have Bl:=KL.own.cpus;obtain ⟨g,c,u0,u1,ls,eZ,hZ,hL,tY,IS⟩:=KL.split F.d.cj;have hZ:eV w4 w.heap.size g c u0 u1 (z0,z1):=⟨hZ.row.low hw.size,hZ.z0.low hw.size,hZ.z1.low hw.size,Nat.le_trans hw.size hZ.Ei,hZ.pos⟩
    replace hL:=hL.low hw.size;clear KL;(replace hw:=Ext.trans hw eM;replace bd:=bd.ext eM;replace bA:=bA.ext eM);obtain ⟨sz,m,cp,li,lv⟩:=s;simp only at eZ hM hV hL tY IS Bl;subst eZ;refine SW.ak bd rfl rfl rfl rfl (dJ ⟨⟨some ⟨g,0,none⟩,2,c⟩,m,cp,li,lv⟩) fun w5 dZ hg => ?_
    have hG:=bd.gr hg;replace hw:=hw.own iN hg;replace bA:=bA.grown hg (by simpa using Ne.symm wv);(replace hZ:=hZ.aw hG rfl;replace hM:=hM.aw hG rfl;replace hV:=hV.aw hG rfl;replace hL:=hL.aw hG rfl);have H:HS w w5 ⟨b4,g,c,m,lv,cp,h.dk,h.Live⟩ ⟨u0,u1,li,ls⟩ (z0,z1) h.au:=⟨dZ,hZ,hM,hV,hL,tY,IS,iN,hw⟩
    obtain ⟨k,hk⟩ : ∃ k:HK,k=⟨b4,g,c,m,lv,cp,h.dk,h.Live⟩:=⟨_,rfl⟩;obtain ⟨p0,sU⟩ : ∃ p:HP,p=⟨u0,u1,li,ls⟩:=⟨_,rfl⟩;rw [← hk,← sU] at H;have Ua:k.b=b4:=by rw [hk]
    have Pv:k.V=h.Live:=by rw [hk]
    have QR:k.M=h.dk:=by rw [hk]
    have Sd:k.cp=h.bw:=by rw [hk];exact Bl
    clear bd dZ hZ hM hV hL tY IS hG hg hk sU Bl;subst Ua;have Se:yq k.M (jl h 0) (jl h 1):=by rw [QR];exact HU hm
    have M9:=F.d.start.vs;have Oo:=H.HT bA (Ne.symm wv);have dL:=jO F.live
    have NC:∀ b∈h.Live,0≤b.At∧b.At≤255:=fun b hb=>by
     obtain ⟨j,hj,rfl⟩:=List.getElem_of_mem hb;have:=(F.next hj).at_
     omega
    have pp:=Bq F;repeat' (first|refine Wy ?_|fail);refine SW.dt rfl rfl (tO k p0 (z0,z1) h.au _ _ cpu o t f w _ H hO Se M9 F.mr F.lists F.count hc.2 hf) fun v w6 IZ => ?_
    obtain ⟨q1,Gh,rfl,p1,H1,K1⟩:=IZ;have HV:=K1.not Oo bA.lt;replace bA:=K1.dD bA Oo;clear H hw Oo;have hw:=H1.base;cases q1 with
    | none =>
      simp only [On,Mm] at H1;have Sf:=eJ F.d;repeat' (first|refine Wy ?_|(refine CW.dh rfl ?_))
      refine SW.dt rfl rfl (Df k p1 h z0 z1 F.d hs w _ H1) fun v w7 QO => ?_
      obtain ⟨p2,H2,K2⟩:=QO;have Mr:=K2.not HV bA.lt;replace bA:=K2.dD bA HV;clear H1 hw HV;have hw:=H2.base;repeat' (first|refine Wy ?_|fail);refine SW.dt rfl rfl (tO k p2 _ [] _ _ cpu o t f w _ H2 hO Se Sf.vs List.Pairwise.nil (fun l hl=>by simp at hl) (by simp) hc.2 hf) fun v w8 QL => ?_
      obtain ⟨q3,QS,rfl,p3,H3,K3⟩:=QL;have Ow:=K3.not Mr bA.lt;replace bA:=K3.dD bA Mr;clear H2 hw Mr;have hw:=H3.base;cases q3 with
      | none =>
        repeat' (first|refine Wy ?_|(refine CW.dh rfl ?_))
        refine SW.ak bA rfl rfl rfl rfl (dJ .zero) fun w5 bU hg => ?_
        replace hw:=hw.own kn hg;repeat' (first|refine Wy ?_|fail);exact ah.gK rfl rfl rfl rfl bU rfl ⟨_,rfl,hw,_,.room hq hc ht F.d.cj (by rw [JN];exact Gh) (by rw [JN];exact QS),lK.zero 6 _ _⟩
      | some q3 =>
        obtain ⟨s3,L3,a⟩:=q3;simp only [On,Mm] at H3;obtain ⟨i,Ox,L5,JO⟩:=nK F (QS.found Sf.vs).2;have Ox:a=(i:Int):=Ox
        have QT:ct h cpu o f (kT h s3 L3 (dK h a o t),a,0):=by
         have:=ct.fA hq hc ht F.d.cj (by rw [JN];exact Gh) (by rw [JN];exact QS)
         rw [JN] at this;exact this
        have M3:=H3.live.len;rw [Pv] at M3;obtain ⟨fd,QU⟩ : ∃ fd,br h.Live a=fd:=⟨_,rfl⟩
        have c3:∀ w',Sl w' 3 aL k.lv.A k.lv.n h.Live→bq Tryz.prog 107 [.agg (cV (k.h p3)).toArray,.int .i64 a] w' fun v _=>v = .tuple #[.int .i64 (bi h.Live a:Int),.bool fd]:=fun w' hh=>by
         have:=wu (k.h p3) h.Live a w' hh dL NC (by simp only;omega) ⟨by omega,by omega⟩
         rwa [QU] at this
        have hV:=H3.live;rw [Pv] at hV;have bd:=H3.dD;have hZ:=H3.zs;have hM:=H3.dA;have hL:=H3.ls;rw [QR] at hM;have Nb:=H3.sf;clear H3;have Kv:=hV.lt_size;repeat' (first|refine Wy ?_|(refine CW.di rfl ?_)|refine SW.st (aB rfl rfl ((fun _ _=>bd.cell))) rfl ?_|(refine SW.call rfl rfl (c3 _ hV.sl) ?_;intro v w1 ae hv;subst hv;replace hw:=Ext.trans hw ae;replace bd:=bd.ext ae;replace bA:=bA.ext ae;replace hV:=hV.ext ae;replace hZ:=hZ.ext ae;replace hM:=hM.ext ae;replace hL:=hL.ext ae;clear ae))
        repeat' (first|refine Wy ?_|refine SW.st (aq rfl (bd.cell (i:=4) (v := .slice k.lv.A k.lv.n k.lv.c) rfl)) rfl ?_)
        refine SW.dR rfl rfl rfl rfl rfl fun b w9 ap Qh hB => ?_
        have nt:aM k.lv.A k.lv.c≠some b:=fun e=>by have:=hV.lt_size _ e;omega
        (replace hw:=Ext.trans hw ap;replace bd:=bd.ext ap;replace bA:=bA.ext ap;replace hV:=hV.ext ap;replace hZ:=hZ.ext ap;replace hM:=hM.ext ap;replace hL:=hL.ext ap);skip;have vA:bi h.Live a≤h.Live.length:=List.findIdx_le_length
        refine SW.dt rfl rfl (gm k.lv.A k.lv.n k.lv.c w.heap.size h.Live _ hV (bi h.Live a) (by omega) ⟨a,o,t⟩ b hB nt (by omega) hw.size) fun v rN hv => ?_
        obtain ⟨A',c',rfl,zG,hg⟩:=hv;have hG:=hV.gr hg;replace hw:=aO hw hg (Nat.le_refl _) hV.bc;replace hZ:=hZ.CS Nb hg hG;(replace bd:=bd.aw hG rfl;replace bA:=bA.aw hG rfl;replace hM:=hM.aw hG rfl;replace hL:=hL.aw hG rfl);repeat' (first|refine Wy ?_|fail);refine SW.bz (i:=4) bd rfl rfl rfl rfl fun xA dZ hg => ?_
        have hG:=bd.gr hg;replace hw:=hw.own iN hg;replace bA:=bA.grown hg (by simpa using Ne.symm wv);(replace hZ:=hZ.aw hG rfl;replace hM:=hM.aw hG rfl;replace hL:=hL.aw hG rfl;replace zG:=zG.aw hG rfl);replace bd:aW xA k.b 41 (cV ⟨⟨some ⟨k.g,0,none⟩,2,k.c⟩,k.m,k.cp,p3.li,⟨A',k.lv.n+1,c'⟩⟩):=dZ;repeat' (first|refine Wy ?_|refine SW.st (aB rfl rfl ((fun _ _=>bd.cell))) rfl ?_)
        refine SW.ak bA rfl rfl rfl rfl (dJ ⟨⟨some ⟨k.g,0,none⟩,2,k.c⟩,k.m,k.cp,p3.li,⟨A',k.lv.n+1,c'⟩⟩) fun xh bU hg => ?_
        have hG:=bA.gr hg;replace hw:=hw.own kn hg;(replace hZ:=hZ.aw hG rfl;replace hM:=hM.aw hG rfl;replace hL:=hL.aw hG rfl;replace zG:=zG.aw hG rfl);repeat' (first|refine Wy ?_|fail);exact ah.gK rfl rfl rfl rfl bU rfl ⟨_,rfl,hw,_,QT,⟨⟨some ⟨k.g,0,none⟩,2,k.c⟩,k.m,k.cp,p3.li,⟨A',k.lv.n+1,c'⟩⟩,rfl,⟨Sd,hM,zG,⟨[p3.u0,p3.u1],⟨hZ.row,eK.two hZ.z0 hZ.z1⟩⟩,⟨p3.ls,hL⟩⟩⟩
    | some q3 =>
      obtain ⟨s3,L3,a⟩:=q3;simp only [On,Mm] at H1;obtain ⟨i,Ox,L5,JO⟩:=pH F (Gh.found M9).2;have Ox:a=(i:Int):=Ox
      have QT:ct h cpu o f (kT h s3 L3 (dK h a o t),a,0):=by
       have:=ct.once hq hc ht F.d.cj (by rw [JN];exact Gh)
       rw [JN] at this;exact this
      have H3:=H1;have Ow:=HV;obtain ⟨p3,Ub⟩ : ∃ p3,p1=p3:=⟨_,rfl⟩;rw [Ub] at H3 Ow;clear H1 HV;have M3:=H3.live.len;rw [Pv] at M3;obtain ⟨fd,QU⟩ : ∃ fd,br h.Live a=fd:=⟨_,rfl⟩
      have c3:∀ w',Sl w' 3 aL k.lv.A k.lv.n h.Live→bq Tryz.prog 107 [.agg (cV (k.h p3)).toArray,.int .i64 a] w' fun v _=>v = .tuple #[.int .i64 (bi h.Live a:Int),.bool fd]:=fun w' hh=>by
       have:=wu (k.h p3) h.Live a w' hh dL NC (by simp only;omega) ⟨by omega,by omega⟩
       rwa [QU] at this
      have hV:=H3.live;rw [Pv] at hV;have bd:=H3.dD;have hZ:=H3.zs;have hM:=H3.dA;have hL:=H3.ls;rw [QR] at hM;have Nb:=H3.sf;clear H3;have Kv:=hV.lt_size;repeat' (first|refine Wy ?_|(refine CW.di rfl ?_)|refine SW.st (aB rfl rfl ((fun _ _=>bd.cell))) rfl ?_|(refine SW.call rfl rfl (c3 _ hV.sl) ?_;intro v w1 ae hv;subst hv;replace hw:=Ext.trans hw ae;replace bd:=bd.ext ae;replace bA:=bA.ext ae;replace hV:=hV.ext ae;replace hZ:=hZ.ext ae;replace hM:=hM.ext ae;replace hL:=hL.ext ae;clear ae))
      repeat' (first|refine Wy ?_|refine SW.st (aq rfl (bd.cell (i:=4) (v := .slice k.lv.A k.lv.n k.lv.c) rfl)) rfl ?_)
      refine SW.dR rfl rfl rfl rfl rfl fun b w9 ap Qh hB => ?_
      have nt:aM k.lv.A k.lv.c≠some b:=fun e=>by have:=hV.lt_size _ e;omega
      (replace hw:=Ext.trans hw ap;replace bd:=bd.ext ap;replace bA:=bA.ext ap;replace hV:=hV.ext ap;replace hZ:=hZ.ext ap;replace hM:=hM.ext ap;replace hL:=hL.ext ap);skip;have vA:bi h.Live a≤h.Live.length:=List.findIdx_le_length
      refine SW.dt rfl rfl (gm k.lv.A k.lv.n k.lv.c w.heap.size h.Live _ hV (bi h.Live a) (by omega) ⟨a,o,t⟩ b hB nt (by omega) hw.size) fun v rN hv => ?_
      obtain ⟨A',c',rfl,zG,hg⟩:=hv;have hG:=hV.gr hg;replace hw:=aO hw hg (Nat.le_refl _) hV.bc;replace hZ:=hZ.CS Nb hg hG;(replace bd:=bd.aw hG rfl;replace bA:=bA.aw hG rfl;replace hM:=hM.aw hG rfl;replace hL:=hL.aw hG rfl);repeat' (first|refine Wy ?_|fail);refine SW.bz (i:=4) bd rfl rfl rfl rfl fun xA dZ hg => ?_
      have hG:=bd.gr hg;replace hw:=hw.own iN hg;replace bA:=bA.grown hg (by simpa using Ne.symm wv);(replace hZ:=hZ.aw hG rfl;replace hM:=hM.aw hG rfl;replace hL:=hL.aw hG rfl;replace zG:=zG.aw hG rfl);replace bd:aW xA k.b 41 (cV ⟨⟨some ⟨k.g,0,none⟩,2,k.c⟩,k.m,k.cp,p3.li,⟨A',k.lv.n+1,c'⟩⟩):=dZ;repeat' (first|refine Wy ?_|refine SW.st (aB rfl rfl ((fun _ _=>bd.cell))) rfl ?_)
      refine SW.ak bA rfl rfl rfl rfl (dJ ⟨⟨some ⟨k.g,0,none⟩,2,k.c⟩,k.m,k.cp,p3.li,⟨A',k.lv.n+1,c'⟩⟩) fun xh bU hg => ?_
      have hG:=bA.gr hg;replace hw:=hw.own kn hg;(replace hZ:=hZ.aw hG rfl;replace hM:=hM.aw hG rfl;replace hL:=hL.aw hG rfl;replace zG:=zG.aw hG rfl);repeat' (first|refine Wy ?_|fail);exact ah.gK rfl rfl rfl rfl bU rfl ⟨_,rfl,hw,_,QT,⟨⟨some ⟨k.g,0,none⟩,2,k.c⟩,k.m,k.cp,p3.li,⟨A',k.lv.n+1,c'⟩⟩,rfl,⟨Sd,hM,zG,⟨[p3.u0,p3.u1],⟨hZ.row,eK.two hZ.z0 hZ.z1⟩⟩,⟨p3.ls,hL⟩⟩⟩
  ·repeat' (first|refine Wy ?_|refine SW.cw rfl rfl rfl (fun h => ?_) (fun h => ?_)|refine SW.st (aB rfl rfl ((fun _ _=>bd.cell))) rfl ?_|refine SW.st (aq rfl (bd.cell (i:=2) (v := .int .i64 r.bw) rfl)) rfl ?_|(refine SW.call rfl rfl (c1 _ hw) ?_;intro v w1 ae hv;subst hv;replace hw:=Ext.trans hw ae;replace bd:=bd.ext ae;replace bA:=bA.ext ae;clear ae))
   all_goals try omega
   all_goals
    refine SW.ak bA rfl rfl rfl rfl (dJ .zero) fun w5 bU hg => ?_
    replace hw:=hw.own kn hg;repeat' (first|refine Wy ?_|fail);exact ah.gK rfl rfl rfl rfl bU rfl ⟨_,rfl,hw,_,.range hq hc,lK.zero 1 _ _⟩
open Go.RowKit
theorem SW.ko {P:Program} {n:Nat} {ops:Array Oper} {Q:Exit→Act→World→Prop} {rest:List Oper} {L:Env} {w:World} {T:TypeId} {pos:String} {af:Array Edge} {t:TypeId} {k:Nat} [G:fj P t k] {b:Nat} {tb:TypeId} {cs vs:List Value} {x y:Operand} (o:Nat)
 (hB:aW w b tb cs) (hx:cg L x=some (.pointer (some ((⟨b,0,none⟩ : Addr).add o)))) (hy:cg L y=some (.agg vs.toArray)) (hl:vs.length=k) (hc:o+k≤cs.length) (h1:∀ v∈vs,v.oneCell'=true) (cs':List Value) (m7:cs.take o++vs++cs.drop (o+k)=cs')
 (h:∀ w',aW w' b tb cs'→w.grownBy w' (some b)→SW P n ops (.gw Q) rest L w') : SW P n ops (.gw Q) (⟨none,.store t x y,T,pos,af,none⟩::rest) L w :=
 ⟨fun a ha=>by
  rw [ck] at hx;have xc:=run_storeCells_at P b o tb vs 0 cs.toArray w hB (by simp only [List.size_toArray];omega) h1;simp only [Nat.add_zero,hl,m7] at xc;simp only [swp,wpList,Region.wanted,if_true];refine .inl ?_;unfold Oper.wp
  have CQ:(execOp a.eval ⟨none,.store t x y,T,pos,af,none⟩).run P w = .ok .skip (w.setRow b cs'.toArray):=by
   simp [execOp,ha.eval hx,ha.eval hy,Instr.storeAt,Instr.sureAddr,storeVar,Value.cells,run_sizeOf G.size,hl,xc]
  rw [CQ,Oper.upon_skip];obtain ⟨tV,Gf⟩:=fq (cs:=cs') hB;exact (h _ tV Gf).out _ ha⟩
open Go.RowKit
section
variable {P:Program} {n:Nat} {ops:Array Oper} {Q:Exit→Act→World→Prop} {fin fR f:Nat} {S2:World→Prop} {listed:Array Bool} {L:Env} {w:World}
theorem SF.two (i k:Nat) {o o':Oper} (hi:ops[i]?=some o) (hk:ops[k]?=some o') (hr:Region.ready .any ops listed=[i,k]) (hw:(!Nat.beq i fR && !Nat.beq i fin)=true) (yS:(!Nat.beq k fR && !Nat.beq k fin)=true)
 (h:SW P n ops (.gw (Lp P n ops Q fin fR S2 f (listed.setIfInBounds i true) w)) [o] L w) (h':SW P n ops (.gw (Lp P n ops Q fin fR S2 f (listed.setIfInBounds k true) w)) [o'] L w) : SF P n ops Q fin fR S2 (f+1) listed L w :=
 ⟨fun a ha inv=>⟨by rw [hr];simp,fun j hj=>by
  have pX:=hj;rw [hr] at pX;simp only [List.mem_cons,List.not_mem_nil,or_false] at pX;rcases pX with rfl|rfl
  ·obtain ⟨n1,n2⟩:=Lq hw;have df:j<ops.size:=(Array.getElem?_eq_some_iff.1 hi).1
   refine ⟨df,vn (Q1:=Lp P n ops Q fin fR S2 f (listed.setIfInBounds j true) w) hi (fun e a w ne h=>by cases e<;>first|exact h|exact absurd rfl ne) (fun h=>h) (fun a' w' hh=>⟨fun e=>absurd e n1,fun _ e=>absurd e n2,fun _ _=>⟨hh.1,pr f (fun Li Ln=>Ext.trans hh.1 Ln) _ _ _ (hh.2 (inv.set hj df))⟩⟩) (h.out a ha)⟩
  ·obtain ⟨n1,n2⟩:=Lq yS;have df:j<ops.size:=(Array.getElem?_eq_some_iff.1 hk).1
   refine ⟨df,vn (Q1:=Lp P n ops Q fin fR S2 f (listed.setIfInBounds j true) w) hk (fun e a w ne h=>by cases e<;>first|exact h|exact absurd rfl ne) (fun h=>h) (fun a' w' hh=>⟨fun e=>absurd e n1,fun _ e=>absurd e n2,fun _ _=>⟨hh.1,pr f (fun Li Ln=>Ext.trans hh.1 Ln) _ _ _ (hh.2 (inv.set hj df))⟩⟩) (h'.out a ha)⟩⟩⟩
end
end Go.Proofs.YtbidkghlpijecaaGreatDoor
