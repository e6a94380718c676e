/- Part 15 of what topWords_holds leans on. -/
import Derived.Test.YtohigmjjbgpfmaaGreatDoorPackTopWords14
set_option linter.unusedVariables false
set_option linter.unusedSimpArgs false
set_option linter.defProp false
open Go.Proofs.Tryz
namespace Go.Proofs.YtohigmjjbgpfmaaGreatDoor
open Go.RowKit
variable {b:Nat} {w:World}
structure Pf (a:cJ) : Prop where
 kinds:a.Kind∈km∨a.Kind=13∨a.Kind=14
 at_ : -100000<=a.At∧a.At<=100000
 name:a.Name.size<=8
structure m6 (w:World) (lo b:Nat) (r:db) (p q z:ga) (rs:List p9) (s0:ah) (dq:List cJ) (xs:List kz) (l:List bT) (s:ah) (j:Nat) : Prop where
 low:lo<=b
 ot:aS w b 48 (oo r p q z)
 xu:Own w lo 35 7 eB p.A p.n p.c dq
 DF:iP w lo q.A q.n q.c rs xs
 ns:Own w lo 50 6 kU z.A z.n z.c l
 run:lC s0 dq xs s
 phase:Ph s0 j s l
 C6:∀ a∈dq,Pf a
 len:dq.length<=j
 many:z.n<=1000*j
structure RY where
 j:Nat
 r:db
 p:ga
 q:ga
 z:ga
 rs:List p9
 dq:List cJ
 xs:List kz
 l:List bT
 s:ah
theorem Uv {t:Nat} {r:db} {p q z:ga} (h:aS w b t (oo r p q z)) : ∀ j v,(aP r)[j]?=some v->w.cell? ((((⟨b,0,none⟩ : Addr)).add 0).add j)=some v:=fun j v hv=>by
 rw [PF]
 exact h.cell (by
  have hj:j<(aP r).length:=(ads.1 hv).1
  have:oo r p q z=aP r++[.slice p.A p.n p.c,.slice q.A q.n q.c,.slice z.A z.n z.c]:=rfl
  rw [this,adF hj];exact hv)
theorem CD {t:Nat} {x:uk} (h:aS w b t (rE x)) : ∀ j v,(eB x.act)[j]?=some v->w.cell? ((((⟨b,0,none⟩ : Addr)).add 0).add j)=some v:=fun j v hv=>by
 rw [PF]
 exact h.cell (by
  have hj:j<(eB x.act).length:=(ads.1 hv).1
  have:rE x=eB x.act++[.int .i64 x.Of]:=rfl
  rw [this,adF hj];exact hv)
def Pg (lo:Nat) (R:ah->Prop) (j:Nat) (v:Value) (w:World) : Prop := ∃ b r p q z rs s0 dq xs l s,R s0∧v = .tuple #[.pointer (some ⟨b,0,none⟩),.bool true]∧m6 w lo b r p q z rs s0 dq xs l s j
set_option maxHeartbeats 16000000 in
theorem Ny (cpus:Int) (A:Option Addr) (n c:Nat) (B:Option Addr) (m d:Nat) (x y:List Region) (split least cp:Int) (X:Option Addr) (k e:Nat) (l':List uk) (w:World) (hx:Sl w 2 iz A n x) (hy:Sl w 2 iz B m y) (hn:n<=9223372036854775807) (hm:m<=9223372036854775807) (KS : -9223372036854775808<=split∧split<=9223372036854775807) (hS:iv w) (eY:mD w)
 (hl:Sl w 8 rE X k ([oq,jr]++l')) (hk:k<=42) (hR:∀ x∈l',re cpus x) (hI:∀ u,iG (jq 256 x y) split least cp u->u.2=0∧Start u.1) :
 bI prog 14 [.agg (fi A n c B m d split least cp).toArray,.slice X k e] w fun v w'=>Pg w.heap.size (fun s=>iG (jq 256 x y) split least cp (s,0)) k v w':=by
 refine aE func14 rfl ntmps14 rfl ?_;refine CW.seq (CW.region (SW.box rfl rfl fun b2 w1 hw fk au => ?_));have mv:=hl.len;have YT:=hl.base;repeat' (first|refine Wy ?_|refine Wm ((fun _ _=>au.cell)) ?_)
 refine Wk (AA A n c B m d x y split least cp _ (hx.ext hw) (hy.ext hw) hn hm KS (hS.ext hw)) fun v w5 ox hv => ?_
 obtain ⟨u,hu,r1,rfl,hs⟩:=hv;replace hs:=hs.low hw.size;replace hw:=Ext.trans hw ox;clear ox au fk;obtain ⟨he,h0⟩:=hI _ hu;obtain ⟨s0,u2⟩:=u;simp only at hs h0 he ⊢;subst he;repeat' (first|refine Wy ?_|fail);refine SW.alloc rfl fun b6 w1 ai dt aq => ?_
 skip;refine SW.ag aq rfl rfl rfl rfl (aY r1) fun w2 bP hg => ?_
 have ar:=ai.own dt hg;have cG:w.heap.size<=b6:=ac2 hw.size dt
 replace hw:=Ext.trans hw ar;replace hs:=hs.ext ar;replace aq:=bP;clear bP ai hg ar;repeat' (first|refine Wy ?_|refine Wm ((fun _ _=>aq.cell)) ?_)
 refine SW.box rfl rfl fun b8 w2 bt oC bg => ?_
 replace bg:aS _ b8 48 (oo r1 ⟨none,0,0⟩ ⟨none,0,0⟩ ⟨none,0,0⟩):=bg;have gz:w.heap.size<=b8:=ac2 hw.size oC
 (replace hw:=Ext.trans hw bt;replace hs:=hs.ext bt);clear bt aq dt cG;repeat' (first|refine Wy ?_|fail)
 refine CW.loop (fun s:RY=>[(8,.pointer (some ⟨b8,0,none⟩)),(25,.slice X k e),(26,.int .i64 (k:Int)),(27,.int .i64 (s.j:Int))])
  (fun t w'=>t.j<=k∧Ext w w'∧iT w' w.heap.size t.r t.s∧t.z.n<=1000*t.j∧m6 w' w.heap.size b8 t.r t.p t.q t.z t.rs s0 t.dq t.xs t.l t.s t.j) (fun s=>k-s.j) ⟨0,r1,⟨none,0,0⟩,⟨none,0,0⟩,⟨none,0,0⟩,[],[],[],[],s0⟩
  ⟨rfl,rfl,rfl,rfl,trivial⟩ ⟨adO _,hw,hs,adO _,gz,bg,Own.fv _ _ _ _ _ _,iP.fv _ _ _,Own.fv _ _ _ _ _ _,.nil _,.p0,(fun a ha=>by cases ha),adO _,adO _⟩ ?_
 clear hw hs bg;rintro ⟨j,r,p,q,z,rs,dq,xs,l,s⟩ w' ⟨hj,hw,hs,hz,_,bg,hA,hT,hZ,sb,Sv,sd,hlen,_⟩
 simp only at hj hs hz bg hA hT hZ sb Sv sd hlen ⊢;have Uw:=Sv.sys h0;by_cases mO:j<k
 ·have pA:j<([oq,jr]++l').length:=by omega
  obtain ⟨x,ex⟩ : ∃ x,([oq,jr]++l')[j]=x:=⟨_,rfl⟩;have KG:=asked Sv h0 hR pA ex;have fe:=hl.all mO;rw [ex] at fe;repeat' (first|refine Wy ?_|refine Wo hw fe ?_)
  refine SW.alloc rfl fun oB w1 ai mG aC => ?_
  skip;refine SW.ag aC rfl rfl rfl rfl (Ui x) fun w2 bA hg => ?_
  have ar:=ai.own mG hg;have gK:w.heap.size<=oB:=ac2 hw.size mG
  replace hw:=Ext.trans hw ar;replace bg:=bg.ext ar;replace hs:=hs.ext ar;replace hA:=hA.ext ar;replace hT:=hT.ext ar;replace hZ:=hZ.ext ar;replace aC:=bA;clear bA ai hg ar;repeat' (first|refine Wy ?_|fail);refine Wl (aC.cell (i:=7) (v := .int .i64 x.Of) rfl) ?_;refine SW.pure rfl rfl (SW.nil (ae.seq ?_))
  obtain ⟨KK,AW⟩ : ∃ KK:Env->World->Prop,KK=fun L' w2 => ∃ a i,il L' [(8,.pointer (some ⟨b8,0,none⟩)),(10,.pointer (some ⟨oB,0,none⟩)),(11,.int .i64 i),(25,.slice X k e),(26,.int .i64 (k:Int)),(27,.int .i64 (j:Int))]∧Ext w w2∧aS w2 b8 48 (oo r p q z)∧aS w2 oB 84 (rE ⟨a,x.Of⟩) ∧
   iT w2 w.heap.size r s∧Own w2 w.heap.size 35 7 eB p.A p.n p.c dq∧iP w2 w.heap.size q.A q.n q.c rs xs∧Own w2 w.heap.size 50 6 kU z.A z.n z.c l∧pu s0 j s l a i:=⟨_,rfl⟩
  have Gs:=hZ.len;have Y8:=hZ.sl.base;refine CW.Qt KK ?_ ?_
  ·by_cases h0 : 0<x.Of
   ·repeat' (first|refine Wy ?_|refine Wm ((fun _ _=>aC.cell)) ?_)
    refine Wk (Nf b8 r p q z x l _ bg hZ.sl (by omega) ⟨h0,by have:=KG.top;omega⟩) fun v w5 ox hv => ?_
    obtain ⟨i,rfl,hi⟩:=hv;(replace hw:=Ext.trans hw ox;replace bg:=bg.ext ox;replace aC:=aC.ext ox;replace hs:=hs.ext ox;replace hA:=hA.ext ox;replace hT:=hT.ext ox;replace hZ:=hZ.ext ox);clear ox;rcases hi with rfl|⟨i0,XB,rfl,hp⟩
    ·repeat' (first|refine Wy ?_|fail);refine ae.Ll ?_;repeat' (first|refine Wy ?_|fail);exact ae.again ⟨j+1,r,p,q,z,rs,dq,xs,l,s⟩ ⟨rfl,rfl,rfl,rfl,trivial⟩ (by simp only;omega) ⟨by simp only;omega,hw,hs,by simp only;omega,gz,bg,hA,hT,hZ,sb,KG.pass h0,sd,by simp only;omega,by simp only;omega⟩
    ·have FO:=KG.pick h0 i0 XB hp;have kX:=KG.at_ i0 XB;obtain ⟨t,et⟩ : ∃ t,l[i0]=t:=⟨_,rfl⟩;have fat:=fun w2 (h:Own w2 w.heap.size 50 6 kU z.A z.n z.c l)=>h.sl.cell i0 XB 0 (.int .i64 t.At) (by rw [et];rfl)
     rw [et] at FO kX hp;have abt:i0<z.n:=by omega
     repeat' (first|refine Wy ?_|refine Wl (bg.cell (i:=9) (v := .slice z.A z.n z.c) rfl) ?_|refine Wl (fat _ hZ) ?_)
     refine Wb (i:=4) aC fun jb bA dA => ?_
     have dY:=aC.gr dA;replace hw:=hw.own gK dA;(replace bg:=bg.aN dY rfl;replace hs:=hs.aN dY rfl;replace hA:=hA.aN dY rfl;replace hT:=hT.aN dY rfl;replace hZ:=hZ.aN dY rfl);replace aC:aS _ oB 84 (rE ⟨dy x.act t.At,x.Of⟩):=bA;clear bA dY dA;by_cases h2:x.act.Kind=2
     ·repeat' (first|refine Wy ?_|refine Wl (CD aC 0 (.int .i64 x.act.Kind) rfl) ?_|refine Wl (CD aC 4 (.int .i64 t.At) rfl) ?_)
      refine Wb (i:=4) aC fun jb bA dA => ?_
      have dY:=aC.gr dA;replace hw:=hw.own gK dA;(replace bg:=bg.aN dY rfl;replace hs:=hs.aN dY rfl;replace hA:=hA.aN dY rfl;replace hT:=hT.aN dY rfl;replace hZ:=hZ.aN dY rfl);have ea:sC x.act t=t.At / 16:=if_pos h2
      replace aC:aS _ oB 84 (rE ⟨dy x.act (t.At / 16),x.Of⟩):=bA;clear bA dY dA;rw [ea] at FO;repeat' (first|refine Wy ?_|fail);exact ae.lW (K:=KK) (by rw [AW];exact ⟨_,_,⟨rfl,rfl,rfl,rfl,rfl,rfl,trivial⟩,hw,bg,aC,hs,hA,hT,hZ,FO⟩)
     ·repeat' (first|refine Wy ?_|refine Wl (CD aC 0 (.int .i64 x.act.Kind) rfl) ?_)
      have ea:sC x.act t=t.At:=if_neg h2
      rw [ea] at FO;exact ae.lW (K:=KK) (by rw [AW];exact ⟨_,_,⟨rfl,rfl,rfl,rfl,rfl,rfl,trivial⟩,hw,bg,aC,hs,hA,hT,hZ,FO⟩)
   ·repeat' (first|refine Wy ?_|fail);exact ae.lW (K:=KK) (by rw [AW];exact ⟨x.act,-1,⟨rfl,rfl,rfl,rfl,rfl,rfl,trivial⟩,hw,bg,aC,hs,hA,hT,hZ,KG.free h0⟩)
  ·clear hw bg aC hs hA hT hZ KG;subst AW;rintro L' w' ⟨a,i,jw,hw,bg,aC,hs,hA,hT,hZ,FO⟩
   refine ae.sub jw ?_;have lK:kf w' w':=⟨Ext.refl _⟩
   have l7:=hT.row.lt_size;have abu:=FO;have Gs:=hZ.len;repeat' (first|refine Wy ?_|fail)
   obtain ⟨K2,RR⟩ : ∃ K2:Env->World->Prop,K2=fun L' w2 => ∃ vq tz r2 x2 u,il L' [(8,.pointer (some ⟨b8,0,none⟩)),(10,.pointer (some ⟨oB,0,none⟩)),(11,.int .i64 i),(12,.pointer (some ⟨vq,0,none⟩)),(13,.pointer (some ⟨tz,0,none⟩)),(25,.slice X k e),(26,.int .i64 (k:Int)),(27,.int .i64 (j:Int))]∧Ext w w2∧aS w2 b8 48 (oo r p q z)∧aS w2 oB 84 (rE ⟨a,x.Of⟩) ∧
    aS w2 vq 44 (aP r2)∧aS w2 tz 55 (cb x2)∧cx s a u∧iT w2 w.heap.size r2 u.1∧kj w2 w.heap.size x2 u.2∧Own w2 w.heap.size 35 7 eB p.A p.n p.c dq∧iP w2 w.heap.size q.A q.n q.c rs xs∧Own w2 w.heap.size 50 6 kU z.A z.n z.c l ∧ ∀ k,aI q.A q.c=some k->k≠tz:=⟨_,rfl⟩
   refine CW.Qt K2 ?_ ?_
   focus
    refine CW.gl 12 13 (fun _=>True) mixed (by kernel_rfl) fun w1 ai aJ => ?_
    replace hw:=Ext.trans hw ai;replace bg:=bg.ext ai;replace aC:=aC.ext ai;replace hs:=hs.ext ai;replace hA:=hA.ext ai;replace hT:=hT.ext ai;replace hZ:=hZ.ext ai;replace lK:=lK.ext ai;clear ai;refine Wp 0 [] [] aJ rfl rfl ?_;refine Wt 1 [] [] aJ rfl (aG rfl) ?_;refine Wt 2 [] [] aJ rfl (az rfl) ?_;refine Wt 3 [] [] aJ rfl (aX rfl rfl (Uv bg)) ?_;refine Wt 4 [] [] aJ rfl (az rfl) ?_;refine Wt 5 [] [] aJ rfl (aX rfl rfl (CD aC)) ?_;refine SF.three 6 10 11 rfl rfl rfl (by kernel_rfl) rfl rfl rfl ?_ ?_ ?_
    focus
     refine Wk (qe FO r w.heap.size _ hs hw.size Uw (hS.ext hw) (eY.ext hw)) fun v w5 ar hv => ?_
     obtain ⟨u,hu,r2,x2,rfl,gH,nN⟩:=hv;(try replace bX:=bX.ext ar);(try replace cw:=cw.ext ar);(replace hw:=Ext.trans hw ar;replace bg:=bg.ext ar;replace aC:=aC.ext ar;replace hs:=hs.ext ar;replace hA:=hA.ext ar;replace hT:=hT.ext ar;replace hZ:=hZ.ext ar;replace lK:=lK.ext ar);refine SW.nil (ae.sf ar ?_);refine Wp 7 [] [] aJ rfl rfl ?_;refine Wp 8 [] [] aJ rfl rfl ?_;refine SF.cq 9 [] aJ rfl (by kernel_rfl) (by kernel_rfl) (by kernel_rfl) (bi rfl) (fun w2 hS=>bi rfl) rfl ?_;refine SF.two 10 11 rfl rfl (by kernel_rfl) rfl rfl ?_ ?_
     focus
      refine SW.alloc rfl fun vq w9 ar lB bX => ?_
      have mK:w.heap.size<=vq:=ac2 hw.size lB
      (try replace gH:=gH.ext ar);(try replace nN:=nN.ext ar);(try replace cw:=cw.ext ar);(replace hw:=Ext.trans hw ar;replace bg:=bg.ext ar;replace aC:=aC.ext ar;replace hs:=hs.ext ar;replace hA:=hA.ext ar;replace hT:=hT.ext ar;replace hZ:=hZ.ext ar;replace lK:=lK.ext ar);refine SW.nil (ae.sf ar ?_);refine SF.one 11 rfl (by kernel_rfl) rfl ?_;refine SW.alloc rfl fun tz w9 ar lH cw => ?_
      have tO:w.heap.size<=tz:=ac2 hw.size lH
      have FP:∀ k,aI q.A q.c=some k->k≠tz:=fun k e=>by have:=l7 k e;have:=lK.hx.size;omega
      (try replace gH:=gH.ext ar);(try replace nN:=nN.ext ar);(try replace bX:=bX.ext ar);(replace hw:=Ext.trans hw ar;replace bg:=bg.ext ar;replace aC:=aC.ext ar;replace hs:=hs.ext ar;replace hA:=hA.ext ar;replace hT:=hT.ext ar;replace hZ:=hZ.ext ar;replace lK:=lK.ext ar);refine SW.nil (ae.sf ar ?_);refine SF.turn rfl (by kernel_rfl) rfl ?_;refine SW.ag bX rfl rfl rfl rfl (aY r2) fun w8 k7 hg => ?_
      have hG:=bX.gr hg;replace hw:=hw.own mK hg;(replace bg:=bg.aN hG rfl;replace aC:=aC.aN hG rfl;replace hA:=hA.aN hG rfl;replace hT:=hT.aN hG rfl;replace hZ:=hZ.aN hG rfl;replace gH:=gH.aN hG rfl;replace nN:=nN.aN hG rfl;replace cw:=cw.aN hG rfl);have hS:=True.intro;refine SW.nil (ae.sg hS ?_)
     rotate_left
     focus
      refine SW.alloc rfl fun tz w9 ar lH cw => ?_
      have tO:w.heap.size<=tz:=ac2 hw.size lH
      have FP:∀ k,aI q.A q.c=some k->k≠tz:=fun k e=>by have:=l7 k e;have:=lK.hx.size;omega
      (try replace gH:=gH.ext ar);(try replace nN:=nN.ext ar);(try replace bX:=bX.ext ar);(replace hw:=Ext.trans hw ar;replace bg:=bg.ext ar;replace aC:=aC.ext ar;replace hs:=hs.ext ar;replace hA:=hA.ext ar;replace hT:=hT.ext ar;replace hZ:=hZ.ext ar;replace lK:=lK.ext ar);refine SW.nil (ae.sf ar ?_);refine SF.one 10 rfl (by kernel_rfl) rfl ?_;refine SW.alloc rfl fun vq w9 ar lB bX => ?_
      have mK:w.heap.size<=vq:=ac2 hw.size lB
      (try replace gH:=gH.ext ar);(try replace nN:=nN.ext ar);(try replace cw:=cw.ext ar);(replace hw:=Ext.trans hw ar;replace bg:=bg.ext ar;replace aC:=aC.ext ar;replace hs:=hs.ext ar;replace hA:=hA.ext ar;replace hT:=hT.ext ar;replace hZ:=hZ.ext ar;replace lK:=lK.ext ar);refine SW.nil (ae.sf ar ?_);refine SF.turn rfl (by kernel_rfl) rfl ?_;refine SW.ag bX rfl rfl rfl rfl (aY r2) fun w8 k7 hg => ?_
      have hG:=bX.gr hg;replace hw:=hw.own mK hg;(replace bg:=bg.aN hG rfl;replace aC:=aC.aN hG rfl;replace hA:=hA.aN hG rfl;replace hT:=hT.aN hG rfl;replace hZ:=hZ.aN hG rfl;replace gH:=gH.aN hG rfl;replace nN:=nN.aN hG rfl;replace cw:=cw.aN hG rfl);have hS:=True.intro;refine SW.nil (ae.sg hS ?_)
     rotate_left
    rotate_left 2
    focus
     refine SW.alloc rfl fun vq w9 ar lB bX => ?_
     have mK:w.heap.size<=vq:=ac2 hw.size lB
     (try replace gH:=gH.ext ar);(try replace nN:=nN.ext ar);(try replace cw:=cw.ext ar);(replace hw:=Ext.trans hw ar;replace bg:=bg.ext ar;replace aC:=aC.ext ar;replace hs:=hs.ext ar;replace hA:=hA.ext ar;replace hT:=hT.ext ar;replace hZ:=hZ.ext ar;replace lK:=lK.ext ar);refine SW.nil (ae.sf ar ?_);refine SF.two 6 11 rfl rfl (by kernel_rfl) rfl rfl ?_ ?_
     focus
      refine Wk (qe FO r w.heap.size _ hs hw.size Uw (hS.ext hw) (eY.ext hw)) fun v w5 ar hv => ?_
      obtain ⟨u,hu,r2,x2,rfl,gH,nN⟩:=hv;(try replace bX:=bX.ext ar);(try replace cw:=cw.ext ar);(replace hw:=Ext.trans hw ar;replace bg:=bg.ext ar;replace aC:=aC.ext ar;replace hs:=hs.ext ar;replace hA:=hA.ext ar;replace hT:=hT.ext ar;replace hZ:=hZ.ext ar;replace lK:=lK.ext ar);refine SW.nil (ae.sf ar ?_);refine Wp 7 [] [] aJ rfl rfl ?_;refine Wp 8 [] [] aJ rfl rfl ?_;refine SF.cq 9 [] aJ rfl (by kernel_rfl) (by kernel_rfl) (by kernel_rfl) (bi rfl) (fun w2 hS=>bi rfl) rfl ?_;refine SF.one 11 rfl (by kernel_rfl) rfl ?_;refine SW.alloc rfl fun tz w9 ar lH cw => ?_
      have tO:w.heap.size<=tz:=ac2 hw.size lH
      have FP:∀ k,aI q.A q.c=some k->k≠tz:=fun k e=>by have:=l7 k e;have:=lK.hx.size;omega
      (try replace gH:=gH.ext ar);(try replace nN:=nN.ext ar);(try replace bX:=bX.ext ar);(replace hw:=Ext.trans hw ar;replace bg:=bg.ext ar;replace aC:=aC.ext ar;replace hs:=hs.ext ar;replace hA:=hA.ext ar;replace hT:=hT.ext ar;replace hZ:=hZ.ext ar;replace lK:=lK.ext ar);refine SW.nil (ae.sf ar ?_);refine SF.turn rfl (by kernel_rfl) rfl ?_;refine SW.ag bX rfl rfl rfl rfl (aY r2) fun w8 k7 hg => ?_
      have hG:=bX.gr hg;replace hw:=hw.own mK hg;(replace bg:=bg.aN hG rfl;replace aC:=aC.aN hG rfl;replace hA:=hA.aN hG rfl;replace hT:=hT.aN hG rfl;replace hZ:=hZ.aN hG rfl;replace gH:=gH.aN hG rfl;replace nN:=nN.aN hG rfl;replace cw:=cw.aN hG rfl);have hS:=True.intro;refine SW.nil (ae.sg hS ?_)
     rotate_left
     focus
      refine SW.alloc rfl fun tz w9 ar lH cw => ?_
      have tO:w.heap.size<=tz:=ac2 hw.size lH
      have FP:∀ k,aI q.A q.c=some k->k≠tz:=fun k e=>by have:=l7 k e;have:=lK.hx.size;omega
      (try replace gH:=gH.ext ar);(try replace nN:=nN.ext ar);(try replace bX:=bX.ext ar);(replace hw:=Ext.trans hw ar;replace bg:=bg.ext ar;replace aC:=aC.ext ar;replace hs:=hs.ext ar;replace hA:=hA.ext ar;replace hT:=hT.ext ar;replace hZ:=hZ.ext ar;replace lK:=lK.ext ar);refine SW.nil (ae.sf ar ?_);refine SF.one 6 rfl (by kernel_rfl) rfl ?_;refine Wk (qe FO r w.heap.size _ hs hw.size Uw (hS.ext hw) (eY.ext hw)) fun v w5 ar hv => ?_
      obtain ⟨u,hu,r2,x2,rfl,gH,nN⟩:=hv;(try replace bX:=bX.ext ar);(try replace cw:=cw.ext ar);(replace hw:=Ext.trans hw ar;replace bg:=bg.ext ar;replace aC:=aC.ext ar;replace hs:=hs.ext ar;replace hA:=hA.ext ar;replace hT:=hT.ext ar;replace hZ:=hZ.ext ar;replace lK:=lK.ext ar);refine SW.nil (ae.sf ar ?_);refine Wp 7 [] [] aJ rfl rfl ?_;refine Wp 8 [] [] aJ rfl rfl ?_;refine SF.cq 9 [] aJ rfl (by kernel_rfl) (by kernel_rfl) (by kernel_rfl) (bi rfl) (fun w2 hS=>bi rfl) rfl ?_;refine SF.turn rfl (by kernel_rfl) rfl ?_;refine SW.ag bX rfl rfl rfl rfl (aY r2) fun w8 k7 hg => ?_
      have hG:=bX.gr hg;replace hw:=hw.own mK hg;(replace bg:=bg.aN hG rfl;replace aC:=aC.aN hG rfl;replace hA:=hA.aN hG rfl;replace hT:=hT.aN hG rfl;replace hZ:=hZ.aN hG rfl;replace gH:=gH.aN hG rfl;replace nN:=nN.aN hG rfl;replace cw:=cw.aN hG rfl);have hS:=True.intro;refine SW.nil (ae.sg hS ?_)
     rotate_left
    rotate_left 2
    focus
     refine SW.alloc rfl fun tz w9 ar lH cw => ?_
     have tO:w.heap.size<=tz:=ac2 hw.size lH
     have FP:∀ k,aI q.A q.c=some k->k≠tz:=fun k e=>by have:=l7 k e;have:=lK.hx.size;omega
     (try replace gH:=gH.ext ar);(try replace nN:=nN.ext ar);(try replace bX:=bX.ext ar);(replace hw:=Ext.trans hw ar;replace bg:=bg.ext ar;replace aC:=aC.ext ar;replace hs:=hs.ext ar;replace hA:=hA.ext ar;replace hT:=hT.ext ar;replace hZ:=hZ.ext ar;replace lK:=lK.ext ar);refine SW.nil (ae.sf ar ?_);refine SF.two 6 10 rfl rfl (by kernel_rfl) rfl rfl ?_ ?_
     focus
      refine Wk (qe FO r w.heap.size _ hs hw.size Uw (hS.ext hw) (eY.ext hw)) fun v w5 ar hv => ?_
      obtain ⟨u,hu,r2,x2,rfl,gH,nN⟩:=hv;(try replace bX:=bX.ext ar);(try replace cw:=cw.ext ar);(replace hw:=Ext.trans hw ar;replace bg:=bg.ext ar;replace aC:=aC.ext ar;replace hs:=hs.ext ar;replace hA:=hA.ext ar;replace hT:=hT.ext ar;replace hZ:=hZ.ext ar;replace lK:=lK.ext ar);refine SW.nil (ae.sf ar ?_);refine Wp 7 [] [] aJ rfl rfl ?_;refine Wp 8 [] [] aJ rfl rfl ?_;refine SF.cq 9 [] aJ rfl (by kernel_rfl) (by kernel_rfl) (by kernel_rfl) (bi rfl) (fun w2 hS=>bi rfl) rfl ?_;refine SF.one 10 rfl (by kernel_rfl) rfl ?_;refine SW.alloc rfl fun vq w9 ar lB bX => ?_
      have mK:w.heap.size<=vq:=ac2 hw.size lB
      (try replace gH:=gH.ext ar);(try replace nN:=nN.ext ar);(try replace cw:=cw.ext ar);(replace hw:=Ext.trans hw ar;replace bg:=bg.ext ar;replace aC:=aC.ext ar;replace hs:=hs.ext ar;replace hA:=hA.ext ar;replace hT:=hT.ext ar;replace hZ:=hZ.ext ar;replace lK:=lK.ext ar);refine SW.nil (ae.sf ar ?_);refine SF.turn rfl (by kernel_rfl) rfl ?_;refine SW.ag bX rfl rfl rfl rfl (aY r2) fun w8 k7 hg => ?_
      have hG:=bX.gr hg;replace hw:=hw.own mK hg;(replace bg:=bg.aN hG rfl;replace aC:=aC.aN hG rfl;replace hA:=hA.aN hG rfl;replace hT:=hT.aN hG rfl;replace hZ:=hZ.aN hG rfl;replace gH:=gH.aN hG rfl;replace nN:=nN.aN hG rfl;replace cw:=cw.aN hG rfl);have hS:=True.intro;refine SW.nil (ae.sg hS ?_)
     rotate_left
     focus
      refine SW.alloc rfl fun vq w9 ar lB bX => ?_
      have mK:w.heap.size<=vq:=ac2 hw.size lB
      (try replace gH:=gH.ext ar);(try replace nN:=nN.ext ar);(try replace cw:=cw.ext ar);(replace hw:=Ext.trans hw ar;replace bg:=bg.ext ar;replace aC:=aC.ext ar;replace hs:=hs.ext ar;replace hA:=hA.ext ar;replace hT:=hT.ext ar;replace hZ:=hZ.ext ar;replace lK:=lK.ext ar);refine SW.nil (ae.sf ar ?_);refine SF.one 6 rfl (by kernel_rfl) rfl ?_;refine Wk (qe FO r w.heap.size _ hs hw.size Uw (hS.ext hw) (eY.ext hw)) fun v w5 ar hv => ?_
      obtain ⟨u,hu,r2,x2,rfl,gH,nN⟩:=hv;(try replace bX:=bX.ext ar);(try replace cw:=cw.ext ar);(replace hw:=Ext.trans hw ar;replace bg:=bg.ext ar;replace aC:=aC.ext ar;replace hs:=hs.ext ar;replace hA:=hA.ext ar;replace hT:=hT.ext ar;replace hZ:=hZ.ext ar;replace lK:=lK.ext ar);refine SW.nil (ae.sf ar ?_);refine Wp 7 [] [] aJ rfl rfl ?_;refine Wp 8 [] [] aJ rfl rfl ?_;refine SF.cq 9 [] aJ rfl (by kernel_rfl) (by kernel_rfl) (by kernel_rfl) (bi rfl) (fun w2 hS=>bi rfl) rfl ?_;refine SF.turn rfl (by kernel_rfl) rfl ?_;refine SW.ag bX rfl rfl rfl rfl (aY r2) fun w8 k7 hg => ?_
      have hG:=bX.gr hg;replace hw:=hw.own mK hg;(replace bg:=bg.aN hG rfl;replace aC:=aC.aN hG rfl;replace hA:=hA.aN hG rfl;replace hT:=hT.aN hG rfl;replace hZ:=hZ.aN hG rfl;replace gH:=gH.aN hG rfl;replace nN:=nN.aN hG rfl;replace cw:=cw.aN hG rfl);have hS:=True.intro;refine SW.nil (ae.sg hS ?_)
     rotate_left
    rotate_left 2
    all_goals
     refine SG.last rfl (by kernel_rfl) (by kernel_rfl) ?_;refine SW.ag cw rfl rfl rfl rfl (fh x2) fun w8 lI hg => ?_
     have hG:=cw.gr hg;have Ux:iP w8 w.heap.size q.A q.n q.c rs xs:=⟨hT.row.grown hg (.inr fun e=>FP _ e rfl),hT.each.mono fun _ _ h=>h.aN hG rfl⟩
     replace hw:=hw.own tO hg;(replace bg:=bg.aN hG rfl;replace aC:=aC.aN hG rfl;replace hA:=hA.aN hG rfl;replace hZ:=hZ.aN hG rfl;replace gH:=gH.aN hG rfl;replace nN:=nN.aN hG rfl;replace k7:=k7.aN hG rfl);have bX:=k7;have cw:=lI;repeat' (first|refine Wy ?_|fail);exact ae.lW (K:=K2) (by rw [RR];exact ⟨vq,tz,r2,x2,u,⟨rfl,rfl,rfl,rfl,rfl,rfl,rfl,rfl,trivial⟩,hw,bg,aC,bX,cw,hu,gH,nN,hA,Ux,hZ,FP⟩)
   clear hw bg aC hs hA hT hZ lK l7;subst RR;rintro L2 w2 ⟨vq,tz,r2,x2,u,Uy,hw,bg,aC,bX,cw,hu,hs,hx,hA,hT,hZ,FP⟩
   refine ae.sub Uy ?_;have Gs:=hZ.len;have DP:=hA.len;have Tj:=hT.len;have Oi:=sb.len;repeat' (first|refine Wy ?_|refine Wm ((fun _ _=>bX.cell)) ?_)
   refine SW.gi 0 bg rfl rfl rfl (ady rfl) (aY r2) (oo r2 p q z) rfl fun rq tu hg => ?_
   have hG:=bg.gr hg;replace hw:=hw.own gz hg;(replace aC:=aC.aN hG rfl;replace bX:=bX.aN hG rfl;replace cw:=cw.aN hG rfl;replace hs:=hs.aN hG rfl;replace hx:=hx.aN hG rfl;replace hA:=hA.aN hG rfl;replace hT:=hT.aN hG rfl;replace hZ:=hZ.aN hG rfl);have bg:=tu;clear tu hG hg;repeat' (first|refine Wy ?_|fail);refine CW.gl 8 11 (fun _=>True) mixed (by kernel_rfl) fun w1 ai aJ => ?_
   replace hw:=Ext.trans hw ai;replace bg:=bg.ext ai;replace aC:=aC.ext ai;replace cw:=cw.ext ai;replace hs:=hs.ext ai;replace hx:=hx.ext ai;replace hA:=hA.ext ai;replace hT:=hT.ext ai;replace hZ:=hZ.ext ai;clear ai;refine SF.cq 0 [] aJ rfl (by kernel_rfl) (by kernel_rfl) (by kernel_rfl) (bi rfl) (fun w2 hS=>bi rfl) rfl ?_;refine Wp 1 [4,3,2] [] aJ rfl rfl ?_;refine Wt 2 [4,3] [] aJ rfl (aG rfl) ?_;refine Wt 3 [4] [] aJ rfl (az rfl) ?_;refine Wt 4 [] [] aJ rfl (aT rfl (bg.cell (i:=7) (v := .slice p.A p.n p.c) rfl)) ?_;refine Wt 5 [7,6] [] aJ rfl (az rfl) ?_;refine Wt 6 [7] [] aJ rfl (aX rfl rfl (CD aC)) ?_;refine SF.one 7 rfl (by kernel_rfl) rfl ?_;refine SW.dR rfl rfl rfl rfl rfl fun b80 w9 ar Y9 XC => ?_
   (replace hw:=Ext.trans hw ar;replace bg:=bg.ext ar;replace aC:=aC.ext ar;replace cw:=cw.ext ar;replace hs:=hs.ext ar;replace hx:=hx.ext ar;replace hA:=hA.ext ar;replace hT:=hT.ext ar;replace hZ:=hZ.ext ar);refine SW.nil (ae.sf ar ?_);refine SF.turn rfl (by kernel_rfl) rfl ?_;refine SW.append hA (aS.vF (enc:=eB) (x:=a) XC) hw.size rfl rfl rfl (by omega) (by omega) fun Y f qU oO hg => ?_
   have hG:=hA.gr hg;replace hw:=aF hw hg (ac3 _) hA.ba;(replace bg:=bg.aN hG rfl;replace aC:=aC.aN hG rfl;replace cw:=cw.aN hG rfl;replace hs:=hs.aN hG rfl;replace hx:=hx.aN hG rfl;replace hT:=hT.aN hG rfl;replace hZ:=hZ.aN hG rfl);have hS:=True.intro;refine SW.nil (ae.sg hS ?_);refine SG.one 9 rfl (by kernel_rfl) rfl ?_;repeat ((show SW _ _ _ _ (⟨_,Op.nilCheck _,_,_,_,none⟩::_) _ _;refine SW.st (aG rfl) rfl ?_))
   refine SW.nil (ae.sg hS ?_);refine SG.one 10 rfl (by kernel_rfl) rfl ?_;repeat ((show SW _ _ _ _ (⟨_,Op.fieldAddr _ _ _,_,_,_,none⟩::_) _ _;refine SW.st (az rfl) rfl ?_))
   refine SW.nil (ae.sg hS ?_);refine SG.last rfl (by kernel_rfl) (by kernel_rfl) ?_;refine Wb (i:=7) bg fun jb iq dA => ?_
   have dY:=bg.gr dA;replace hw:=hw.own gz dA;replace oO:=oO.aN dY rfl;(replace aC:=aC.aN dY rfl;replace cw:=cw.aN dY rfl;replace hs:=hs.aN dY rfl;replace hx:=hx.aN dY rfl;replace hT:=hT.aN dY rfl;replace hZ:=hZ.aN dY rfl);replace bg:aS _ b8 48 (oo r2 ⟨Y,p.n+1,f⟩ q z):=iq;clear iq dY dA;repeat' (first|refine Wy ?_|fail);refine CW.gl 7 10 (fun _=>True) mixed (by kernel_rfl) fun w1 ai aJ => ?_
   replace hw:=Ext.trans hw ai;replace bg:=bg.ext ai;replace aC:=aC.ext ai;replace cw:=cw.ext ai;replace hs:=hs.ext ai;replace hx:=hx.ext ai;replace oO:=oO.ext ai;replace hT:=hT.ext ai;replace hZ:=hZ.ext ai;clear ai;refine SF.cq 0 [] aJ rfl (by kernel_rfl) (by kernel_rfl) (by kernel_rfl) (bi rfl) (fun w2 hS=>bi rfl) rfl ?_;refine Wp 1 [4,3,2] [] aJ rfl rfl ?_;refine Wt 2 [4,3] [] aJ rfl (aG rfl) ?_;refine Wt 3 [4] [] aJ rfl (az rfl) ?_;refine Wt 4 [] [] aJ rfl (aT rfl (bg.cell (i:=8) (v := .slice q.A q.n q.c) rfl)) ?_;refine Wt 5 [6] [] aJ rfl (aX rfl rfl ((fun _ _=>cw.cell))) ?_;refine SF.one 6 rfl (by kernel_rfl) rfl ?_;refine SW.dR rfl rfl rfl rfl rfl fun b90 w9 ar Za XD => ?_
   (replace hw:=Ext.trans hw ar;replace bg:=bg.ext ar;replace aC:=aC.ext ar;replace cw:=cw.ext ar;replace hs:=hs.ext ar;replace hx:=hx.ext ar;replace oO:=oO.ext ar;replace hT:=hT.ext ar;replace hZ:=hZ.ext ar);refine SW.nil (ae.sf ar ?_);refine SF.turn rfl (by kernel_rfl) rfl ?_;refine SW.append hT.row (aS.vF (enc:=cb) (x:=x2) XD) hw.size rfl rfl rfl (by omega) (by omega) fun Y2 f2 qU hT1 hg => ?_
   have hG:=hT.row.gr hg;replace hw:=aF hw hg (ac3 _) hT.row.ba;have hTe:=hT.each.mono fun _ _ h=>h.aN (t:=55) hG rfl
   replace cw:=cw.grown hg (fun e=>FP _ e.symm rfl);(replace bg:=bg.aN hG rfl;replace aC:=aC.aN hG rfl;replace hs:=hs.aN hG rfl;replace hx:=hx.aN hG rfl;replace oO:=oO.aN hG rfl;replace hZ:=hZ.aN hG rfl);have hS:=True.intro;refine SW.nil (ae.sg hS ?_);refine SG.one 8 rfl (by kernel_rfl) rfl ?_;repeat ((show SW _ _ _ _ (⟨_,Op.nilCheck _,_,_,_,none⟩::_) _ _;refine SW.st (aG rfl) rfl ?_))
   refine SW.nil (ae.sg hS ?_);refine SG.one 9 rfl (by kernel_rfl) rfl ?_;repeat ((show SW _ _ _ _ (⟨_,Op.fieldAddr _ _ _,_,_,_,none⟩::_) _ _;refine SW.st (az rfl) rfl ?_))
   refine SW.nil (ae.sg hS ?_);refine SG.last rfl (by kernel_rfl) (by kernel_rfl) ?_;refine Wb (i:=8) bg fun jb iq dA => ?_
   have dY:=bg.gr dA;replace hw:=hw.own gz dA;have Ux:iP jb w.heap.size Y2 (q.n+1) f2 (rs++[x2]) (xs++[u.2]):=iP.aN ⟨hT1,hTe.snoc hx⟩ dY rfl
   (replace aC:=aC.aN dY rfl;replace cw:=cw.aN dY rfl;replace hs:=hs.aN dY rfl;replace hx:=hx.aN dY rfl;replace oO:=oO.aN dY rfl;replace hZ:=hZ.aN dY rfl);replace bg:aS _ b8 48 (oo r2 ⟨Y,p.n+1,f⟩ ⟨Y2,q.n+1,f2⟩ z):=iq;clear iq dY dA
   have Zb:∀ y∈dq++[a],Pf y:=fun y hy=>by
    rcases ac9.1 hy with h|h
    ·exact sd y h
    ·simp only [List.mem_singleton] at h;rw [h];exact ⟨FO.kinds,FO.at_,FO.name⟩
   have Uz:=lC.snoc sb hu;by_cases h0:x2.Code=0
   ·obtain ⟨l2,hN,hPh⟩:=FO.out u hu (by rw [<- hx.code];exact h0);have IE:=hN.len;repeat' (first|refine Wy ?_|refine Wl (cw.cell (i:=0) (v := .int .i64 x2.Code) rfl) ?_|refine Wm (CD aC) ?_|refine Wm ((fun _ _=>cw.cell)) ?_)
    refine SW.dT rfl rfl (KF hN w w.heap.size b8 r2 ⟨Y,p.n+1,f⟩ ⟨Y2,q.n+1,f2⟩ z x2 _ hx hw bg gz hZ (ac3 _) hw.size (by omega)) fun v w6 hv => ?_
    obtain ⟨rfl,z2,Zc,tu,bt,hK⟩:=hv
    have hM:=hK.move (P:=fun v=>iT v w.heap.size r2 u.1∧Own v w.heap.size 35 7 eB Y (p.n+1) f (dq++[a])∧iP v w.heap.size Y2 (q.n+1) f2 (rs++[x2]) (xs++[u.2])) (fun _ _ h hx=>⟨h.1.ext hx,h.2.1.ext hx,h.2.2.ext hx⟩)
     (fun _ _ h hG=>⟨h.1.aN hG rfl,h.2.1.aN hG rfl,h.2.2.aN hG rfl⟩) (fun _ _ h hG=>⟨h.1.aN hG rfl,h.2.1.aN hG rfl,h.2.2.aN hG rfl⟩) ⟨hs,oO,Ux⟩
    obtain ⟨gH,FW,hT3⟩:=hM;have abz:=Zc.len;clear hw bg aC cw hs hx oO Ux hZ hK;have hw:=bt;repeat' (first|refine Wy ?_|fail);exact ae.again ⟨j+1,r2,⟨Y,p.n+1,f⟩,⟨Y2,q.n+1,f2⟩,z2,rs++[x2],dq++[a],xs++[u.2],l2,u.1⟩ ⟨rfl,rfl,rfl,rfl,trivial⟩ (by simp only;omega) ⟨by simp only;omega,hw,gH,by simp only;omega,gz,tu,FW,hT3,Zc,Uz,hPh,Zb,by simp;omega,by simp only;omega⟩
   ·repeat' (first|refine Wy ?_|refine Wl (cw.cell (i:=0) (v := .int .i64 x2.Code) rfl) ?_)
    exact ae.again ⟨j+1,r2,⟨Y,p.n+1,f⟩,⟨Y2,q.n+1,f2⟩,z,rs++[x2],dq++[a],xs++[u.2],l,u.1⟩ ⟨rfl,rfl,rfl,rfl,trivial⟩ (by simp only;omega) ⟨by simp only;omega,hw,hs,by simp only;omega,gz,bg,oO,Ux,hZ,Uz,FO.fail u hu (by rw [<- hx.code];exact h0),Zb,by simp;omega,by simp only;omega⟩
 ·obtain rfl:j=k:=by omega
  repeat' (first|refine Wy ?_|fail);exact ae.dj rfl rfl rfl ⟨_,rfl,hw,b8,r,p,q,z,rs,s0,dq,xs,l,s,hu,rfl,gz,bg,hA,hT,hZ,sb,Sv,sd,hlen,hz⟩
set_option maxHeartbeats 4000000 in
theorem Nz (a:cJ) (hk:a.Kind=9) (Bj : -9223372036854775808<=a.At∧a.At<=9223372036854775807) : jn dI a:=by
 intro r s lo w hO dz hI hS eY;obtain ⟨k,cpu,n,m,At,fl,nm⟩:=a;simp only at hk Bj;subst hk;have hf:=hI.cV;have hs:=hf.small;have hM:=hI.may;refine aE func16 rfl ntmps16 rfl ?_;refine CW.seq (CW.region (SW.box rfl rfl fun b2 w1 hw fk au => ?_));have l2:=au.lt;refine SW.box rfl rfl fun b3 w2 bt cg ap => ?_
 have fW:=hw.up cg
 (obtain ⟨hw,au⟩:=cX bt hw au);clear bt;have l3:=ap.lt;refine SW.alloc rfl fun b4 w2 bt fJ aH => ?_
 have eu:=hw.up fJ
 (obtain ⟨hw,au,ap⟩:=cj bt hw au ap);clear bt;have l4:=aH.lt;refine SW.alloc rfl fun b5 w2 bt gm aL => ?_
 have jD:=hw.up gm
 (obtain ⟨hw,au,ap,aH⟩:=dG bt hw au ap aH);clear bt;have l5:=aL.lt;repeat' (first|refine Wy ?_|refine Wm ((fun _ _=>au.cell)) ?_)
 refine SW.alloc rfl fun b6 w1 ai dt aq => ?_
 skip;refine SW.ag aq rfl rfl rfl rfl (aY r) fun w2 bP hg => ?_
 have ar:=ai.own dt hg;have cG:=hw.up dt
 obtain ⟨hw,au,ap,aH,aL⟩:=fI ar hw au ap aH aL;have aq:=bP;clear bP ai hg ar;have l6:=aq.lt;repeat' (first|refine Wy ?_|fail);refine SW.alloc rfl fun b7 w1 ai iB bd => ?_
 skip;refine SW.ag bd rfl rfl rfl rfl (fh ⟨0,0,.nil⟩) fun w2 bq hg => ?_
 have ar:=ai.own iB hg;have fX:=hw.up iB
 obtain ⟨hw,au,ap,aH,aL,aq⟩:=iS ar hw au ap aH aL aq;have bd:=bq;clear bq ai hg ar;have xr:b2≠b6:=by omega
 have xt:b4≠b6:=by omega
 have Nl:b2≠b4:=by omega
 have rf:b5≠b7:=by omega
 clear l2 l3 l4 l5 l6;repeat' (first|refine Wy ?_|refine Wm ((fun _ _=>au.cell)) ?_|refine Wl (ap.cell (i:=1) (v := .int .i64 cpu) rfl) ?_|refine Wl (ap.cell (i:=4) (v := .int .i64 At) rfl) ?_|refine Wl (ap.cell (i:=0) (v := .int .i64 9) rfl) ?_)
 refine Wk (wN r s cpu At _ (hO.rd.ext hw) hf Bj (hS.ext hw)) fun v w7 je hv => ?_
 obtain ⟨u,hu,q,rfl,hH⟩:=hv;have hH:=hH.low (ac2 dz hw.size);(obtain ⟨hw,au,ap,aH,aL,aq,bd⟩:=ur je hw au ap aH aL aq bd);clear je;have bh:=hO.ext hw;have hA:=cx.kA (s:=s) (a:=⟨9,cpu,n,m,At,fl,nm⟩) rfl hu;obtain ⟨u1,e⟩:=u;simp only at hA hH ⊢;by_cases he:e=0
 ·rw [mW,if_pos he,he] at hA;rw [he];repeat' (first|refine Wy ?_|fail);refine SW.ag aq rfl rfl rfl rfl (aY q) fun rq bP hg => ?_
  have hG:=aq.gr hg;have au:=au.grown hg (by simpa using xr);have aH:=aH.grown hg (by simpa using xt);have hw:=hw.own cG hg;(obtain ⟨ap,aL,bd,bh,hH⟩:=fI hG ap aL bd bh hH);have aq:=bP;clear bP hG hg;repeat' (first|refine Wy ?_|fail);refine Wb (i:=0) bd fun jb bq hg => ?_
  have hG:=bd.gr hg;have aL:=aL.grown hg (by simpa using rf);have hw:=hw.own fX hg;(obtain ⟨au,ap,aH,aq,bh,hH⟩:=iS hG au ap aH aq bh hH);have bd:aS _ b7 55 (cb ⟨0,0,.nil⟩):=bq;clear bq hG hg;repeat' (first|refine Wy ?_|refine Wl (bd.cell (i:=0) (v := .int .i64 0) rfl) ?_)
  refine CW.gl 2 3 (fun w2=>aS w2 b7 55 (cb ⟨0,0,.nil⟩)) mixed (by kernel_rfl) fun w1 ai aJ => ?_
  obtain ⟨hw,au,aH,aL,aq,bd,bh,hH⟩:=DJ ai hw au aH aL aq bd bh hH;clear ai;refine Wt 0 [] [] aJ rfl (aX rfl rfl ((fun _ _=>aq.cell))) ?_;refine SF.cq 1 [] aJ rfl (by kernel_rfl) (by kernel_rfl) (by kernel_rfl) (aX rfl rfl ((fun _ _=>bd.cell))) (fun w2 hS=>aX rfl rfl ((fun _ _=>hS.cell))) rfl ?_;refine SF.turn rfl (by kernel_rfl) rfl ?_;refine SW.ag aH rfl rfl rfl rfl (aY q) fun w8 cW hg => ?_
  have hG:=aH.gr hg;have hw:=hw.own eu hg;(obtain ⟨aL,bd,bh,hH⟩:=dG hG aL bd bh hH);have hS:=bd;refine SW.nil (ae.sg hS ?_);refine SG.last rfl (by kernel_rfl) (by kernel_rfl) ?_;refine SW.ag aL rfl rfl rfl rfl (fh ⟨0,0,.nil⟩) fun w9 eJ hg => ?_
  have hG:=aL.gr hg;have hw:=hw.own jD hg;(obtain ⟨cW,bh,hH⟩:=cj hG cW bh hH);repeat' (first|refine Wy ?_|fail);exact ae.na rfl rfl rfl cW eJ rfl rfl ⟨_,rfl,hw,_,hA,q,⟨0,0,.nil⟩,rfl,hH,kj.plain _ _ _ _⟩
 ·rw [mW,if_neg he] at hA;repeat' (first|refine Wy ?_|fail);refine SW.ag aq rfl rfl rfl rfl (aY q) fun rq bP hg => ?_
  have hG:=aq.gr hg;have au:=au.grown hg (by simpa using xr);have aH:=aH.grown hg (by simpa using xt);have hw:=hw.own cG hg;(obtain ⟨ap,aL,bd,bh,hH⟩:=fI hG ap aL bd bh hH);have aq:=bP;clear bP hG hg;repeat' (first|refine Wy ?_|fail);refine Wb (i:=0) bd fun jb bq hg => ?_
  have hG:=bd.gr hg;have aL:=aL.grown hg (by simpa using rf);have hw:=hw.own fX hg;(obtain ⟨au,ap,aH,aq,bh,hH⟩:=iS hG au ap aH aq bh hH);have bd:aS _ b7 55 (cb ⟨e,0,.nil⟩):=bq;clear bq hG hg;repeat' (first|refine Wy ?_|refine Wl (bd.cell (i:=0) (v := .int .i64 e) rfl) ?_)
  refine CW.gl 2 3 (fun w2=>aS w2 b7 55 (cb ⟨e,0,.nil⟩)) mixed (by kernel_rfl) fun w1 ai aJ => ?_
  obtain ⟨hw,au,aH,aL,aq,bd,bh,hH⟩:=DJ ai hw au aH aL aq bd bh hH;clear ai;refine Wt 0 [] [] aJ rfl (aX rfl rfl ((fun _ _=>au.cell))) ?_;refine SF.cq 1 [] aJ rfl (by kernel_rfl) (by kernel_rfl) (by kernel_rfl) (aX rfl rfl ((fun _ _=>bd.cell))) (fun w2 hS=>aX rfl rfl ((fun _ _=>hS.cell))) rfl ?_;refine SF.turn rfl (by kernel_rfl) rfl ?_;refine SW.ag aH rfl rfl rfl rfl (aY r) fun w8 cW hg => ?_
  have hG:=aH.gr hg;have hw:=hw.own eu hg;(obtain ⟨aL,bd,bh,hH⟩:=dG hG aL bd bh hH);have hS:=bd;refine SW.nil (ae.sg hS ?_);refine SG.last rfl (by kernel_rfl) (by kernel_rfl) ?_;refine SW.ag aL rfl rfl rfl rfl (fh ⟨e,0,.nil⟩) fun w9 eJ hg => ?_
  have hG:=aL.gr hg;have hw:=hw.own jD hg;(obtain ⟨cW,bh,hH⟩:=cj hG cW bh hH);repeat' (first|refine Wy ?_|fail);exact ae.na rfl rfl rfl cW eJ rfl rfl ⟨_,rfl,hw,_,hA,r,⟨e,0,.nil⟩,rfl,bh,kj.plain _ _ _ _⟩
set_option maxHeartbeats 16000000 in
theorem sH (a:cJ) (hk:a.Kind=8∨a.Kind=11∨a.Kind=13∨a.Kind=14) (Bj : -9223372036854775808<=a.At∧a.At<=9223372036854775807) : jn dI a:=by
 intro r s lo w hO dz hI hS eY;have hf:=hI.cV;obtain ⟨k,cpu,n,m,At,fl,nm⟩:=a;simp only at hk Bj ⊢;refine aE func16 rfl ntmps16 rfl ?_;refine CW.seq (CW.region (SW.box rfl rfl fun b2 w1 hw fk au => ?_));have l2:=au.lt;refine SW.box rfl rfl fun b3 w2 bt cg ap => ?_
 have fW:=hw.up cg
 (obtain ⟨hw,au⟩:=cX bt hw au);clear bt;have l3:=ap.lt;refine SW.alloc rfl fun b4 w2 bt fJ aH => ?_
 have eu:=hw.up fJ
 (obtain ⟨hw,au,ap⟩:=cj bt hw au ap);clear bt;have l4:=aH.lt;refine SW.alloc rfl fun b5 w2 bt gm aL => ?_
 have jD:=hw.up gm
 (obtain ⟨hw,au,ap,aH⟩:=dG bt hw au ap aH);clear bt;have l5:=aL.lt;repeat' (first|refine Wy ?_|refine Wm ((fun _ _=>au.cell)) ?_)
 refine SW.alloc rfl fun b6 w1 ai dt aq => ?_
 skip;refine SW.ag aq rfl rfl rfl rfl (aY r) fun w2 bP hg => ?_
 have ar:=ai.own dt hg;have cG:=hw.up dt
 obtain ⟨hw,au,ap,aH,aL⟩:=fI ar hw au ap aH aL;have aq:=bP;clear bP ai hg ar;have l6:=aq.lt;repeat' (first|refine Wy ?_|fail);refine SW.alloc rfl fun b7 w1 ai iB bd => ?_
 skip;refine SW.ag bd rfl rfl rfl rfl (fh ⟨0,0,.nil⟩) fun w2 bq hg => ?_
 have ar:=ai.own iB hg;have fX:=hw.up iB
 obtain ⟨hw,au,ap,aH,aL,aq⟩:=iS ar hw au ap aH aL aq;have bd:=bq;clear bq ai hg ar;have xr:b2≠b6:=by omega
 have xt:b4≠b6:=by omega
 have Nl:b2≠b4:=by omega
 have rf:b5≠b7:=by omega
 clear l2 l3 l4 l5 l6;rcases hk with rfl|rfl|rfl|rfl
 all_goals repeat' (first|refine Wy ?_|refine Wm ((fun _ _=>au.cell)) ?_|refine Wm ((fun _ _=>ap.cell)) ?_|refine Wl (ap.cell (i:=0) (v := .int .i64 8) rfl) ?_|refine Wl (ap.cell (i:=0) (v := .int .i64 11) rfl) ?_|refine Wl (ap.cell (i:=0) (v := .int .i64 13) rfl) ?_|refine Wl (ap.cell (i:=0) (v := .int .i64 14) rfl) ?_|refine Wl (ap.cell (i:=1) (v := .int .i64 cpu) rfl) ?_|refine Wl (ap.cell (i:=2) (v := .int .i64 n) rfl) ?_|refine Wl (ap.cell (i:=4) (v := .int .i64 At) rfl) ?_)
 focus
  refine Wk (uq r s cpu n _ (hO.rd.ext hw) hf (hS.ext hw) (eY.ext hw)) fun v w7 je hv => ?_
  obtain ⟨u,hu,q,rfl,hH⟩:=hv;have hH:=hH.low (ac2 dz hw.size);have hA:=cx.fp (s:=s) (a:=⟨8,cpu,n,m,At,fl,nm⟩) rfl hu;clear hu
 rotate_left
 focus
  refine Wk (AD r s cpu At n _ (hO.rd.ext hw) hI Bj (hS.ext hw) (eY.ext hw)) fun v w7 je hv => ?_
  obtain ⟨u,hu,q,rfl,hH⟩:=hv;have hH:=hH.low (ac2 dz hw.size);have hA:=cx.dX (s:=s) (a:=⟨11,cpu,n,m,At,fl,nm⟩) rfl hu;clear hu
 rotate_left
 focus
  refine Wk (FF r s ⟨13,cpu,n,m,At,fl,nm⟩ lo _ (hO.ext hw) (ac2 dz hw.size) hI Bj) fun v w7 je hv => ?_
  obtain ⟨u,hu,q,rfl,hH⟩:=hv;have hA:=cx.word (s:=s) (a:=⟨13,cpu,n,m,At,fl,nm⟩) (by simp) hu;clear hu
 rotate_left
 focus
  refine Wk (FF r s ⟨14,cpu,n,m,At,fl,nm⟩ lo _ (hO.ext hw) (ac2 dz hw.size) hI Bj) fun v w7 je hv => ?_
  obtain ⟨u,hu,q,rfl,hH⟩:=hv;have hA:=cx.word (s:=s) (a:=⟨14,cpu,n,m,At,fl,nm⟩) (by simp) hu;clear hu
 rotate_left
 all_goals
  (obtain ⟨hw,au,aH,aL,aq,bd⟩:=iS je hw au aH aL aq bd);clear je ap;have bh:=hO.ext hw;obtain ⟨u1,N,e⟩:=u;simp only at hA hH ⊢;by_cases he:e=0
  ·rw [mW,if_pos he,he] at hA;rw [he];repeat' (first|refine Wy ?_|fail);refine SW.ag aq rfl rfl rfl rfl (aY q) fun rq bP hg => ?_
   have hG:=aq.gr hg;have au:=au.grown hg (by simpa using xr);have aH:=aH.grown hg (by simpa using xt);have hw:=hw.own cG hg;(obtain ⟨aL,bd,bh,hH⟩:=dG hG aL bd bh hH);have aq:=bP;clear bP hG hg;repeat' (first|refine Wy ?_|fail);refine Wb (i:=1) bd fun jb bq hg => ?_
   have hG:=bd.gr hg;have aL:=aL.grown hg (by simpa using rf);have hw:=hw.own fX hg;(obtain ⟨au,aH,aq,bh,hH⟩:=fI hG au aH aq bh hH);have bd:aS _ b7 55 (cb ⟨0,N,.nil⟩):=bq;clear bq hG hg;repeat' (first|refine Wy ?_|fail);refine Wb (i:=0) bd fun jb bq hg => ?_
   have hG:=bd.gr hg;have aL:=aL.grown hg (by simpa using rf);have hw:=hw.own fX hg;(obtain ⟨au,aH,aq,bh,hH⟩:=fI hG au aH aq bh hH);have bd:aS _ b7 55 (cb ⟨0,N,.nil⟩):=bq;clear bq hG hg;repeat' (first|refine Wy ?_|refine Wl (bd.cell (i:=0) (v := .int .i64 0) rfl) ?_)
   refine CW.gl 2 3 (fun w2=>aS w2 b7 55 (cb ⟨0,N,.nil⟩)) mixed (by kernel_rfl) fun w1 ai aJ => ?_
   obtain ⟨hw,au,aH,aL,aq,bd,bh,hH⟩:=DJ ai hw au aH aL aq bd bh hH;clear ai;refine Wt 0 [] [] aJ rfl (aX rfl rfl ((fun _ _=>aq.cell))) ?_;refine SF.cq 1 [] aJ rfl (by kernel_rfl) (by kernel_rfl) (by kernel_rfl) (aX rfl rfl ((fun _ _=>bd.cell))) (fun w2 hS=>aX rfl rfl ((fun _ _=>hS.cell))) rfl ?_;refine SF.turn rfl (by kernel_rfl) rfl ?_;refine SW.ag aH rfl rfl rfl rfl (aY q) fun w8 cW hg => ?_
   have hG:=aH.gr hg;have hw:=hw.own eu hg;(obtain ⟨aL,bd,bh,hH⟩:=dG hG aL bd bh hH);have hS:=bd;refine SW.nil (ae.sg hS ?_);refine SG.last rfl (by kernel_rfl) (by kernel_rfl) ?_;refine SW.ag aL rfl rfl rfl rfl (fh ⟨0,N,.nil⟩) fun w9 eJ hg => ?_
   have hG:=aL.gr hg;have hw:=hw.own jD hg;(obtain ⟨cW,bh,hH⟩:=cj hG cW bh hH);repeat' (first|refine Wy ?_|fail);exact ae.na rfl rfl rfl cW eJ rfl rfl ⟨_,rfl,hw,_,hA,q,⟨0,N,.nil⟩,rfl,hH,kj.plain _ _ _ _⟩
  ·rw [mW,if_neg he] at hA;repeat' (first|refine Wy ?_|fail);refine SW.ag aq rfl rfl rfl rfl (aY q) fun rq bP hg => ?_
   have hG:=aq.gr hg;have au:=au.grown hg (by simpa using xr);have aH:=aH.grown hg (by simpa using xt);have hw:=hw.own cG hg;(obtain ⟨aL,bd,bh,hH⟩:=dG hG aL bd bh hH);have aq:=bP;clear bP hG hg;repeat' (first|refine Wy ?_|fail);refine Wb (i:=1) bd fun jb bq hg => ?_
   have hG:=bd.gr hg;have aL:=aL.grown hg (by simpa using rf);have hw:=hw.own fX hg;(obtain ⟨au,aH,aq,bh,hH⟩:=fI hG au aH aq bh hH);have bd:aS _ b7 55 (cb ⟨0,N,.nil⟩):=bq;clear bq hG hg;repeat' (first|refine Wy ?_|fail);refine Wb (i:=0) bd fun jb bq hg => ?_
   have hG:=bd.gr hg;have aL:=aL.grown hg (by simpa using rf);have hw:=hw.own fX hg;(obtain ⟨au,aH,aq,bh,hH⟩:=fI hG au aH aq bh hH);have bd:aS _ b7 55 (cb ⟨e,N,.nil⟩):=bq;clear bq hG hg;repeat' (first|refine Wy ?_|refine Wl (bd.cell (i:=0) (v := .int .i64 e) rfl) ?_)
   refine CW.gl 2 3 (fun w2=>aS w2 b7 55 (cb ⟨e,N,.nil⟩)) mixed (by kernel_rfl) fun w1 ai aJ => ?_
   obtain ⟨hw,au,aH,aL,aq,bd,bh,hH⟩:=DJ ai hw au aH aL aq bd bh hH;clear ai;refine Wt 0 [] [] aJ rfl (aX rfl rfl ((fun _ _=>au.cell))) ?_;refine SF.cq 1 [] aJ rfl (by kernel_rfl) (by kernel_rfl) (by kernel_rfl) (aX rfl rfl ((fun _ _=>bd.cell))) (fun w2 hS=>aX rfl rfl ((fun _ _=>hS.cell))) rfl ?_;refine SF.turn rfl (by kernel_rfl) rfl ?_;refine SW.ag aH rfl rfl rfl rfl (aY r) fun w8 cW hg => ?_
   have hG:=aH.gr hg;have hw:=hw.own eu hg;(obtain ⟨aL,bd,bh,hH⟩:=dG hG aL bd bh hH);have hS:=bd;refine SW.nil (ae.sg hS ?_);refine SG.last rfl (by kernel_rfl) (by kernel_rfl) ?_;refine SW.ag aL rfl rfl rfl rfl (fh ⟨e,N,.nil⟩) fun w9 eJ hg => ?_
   have hG:=aL.gr hg;have hw:=hw.own jD hg;(obtain ⟨cW,bh,hH⟩:=cj hG cW bh hH);repeat' (first|refine Wy ?_|fail);exact ae.na rfl rfl rfl cW eJ rfl rfl ⟨_,rfl,hw,_,hA,r,⟨e,N,.nil⟩,rfl,bh,kj.plain _ _ _ _⟩
variable {cp:Int} {s s0:ah} {dq:List cJ} {xs:List kz} {j:Nat}
theorem Start.named (h:Start s) : rC s:=⟨h.sys,by
 have h6:∀ j,j<6 -> ∃ p∈lF,tq p.1 (gx (kP j))=true∧p.2=kP j:=by decide +kernel
 unfold mX;rw [h.shape];exact h6⟩
def tQ (t:bT) : cJ:=⟨14,0,0,0,t.At,0,⟨#[]⟩⟩
theorem KH {l:List bT} (h:Out cp s l) {x:bT} (hx:x∈l) {u:ah×kz} (hu:cx s (tQ x) u) : u.1=s∧u.2.Code=0∧(x.nb=true->u.2.N=x.Word):=by
 obtain ⟨q,hq⟩:=h.fits x hx;have hw:=xq h.sys.may hq.rD;obtain ⟨v,hv,rfl⟩:=hu.W6 (.inr rfl);cases hv with
 | no hf=>exact absurd (hf.dm h.sys.may hw) (by decide)
 | read _ hk=>exact ⟨rfl,rfl,fun hx=>by
    have e:=hq.word hx;show s.Words.getD x.At.toNat 0=x.Word
    rw [adM,e]
    rfl⟩
 | range _ hk _=>exact absurd rfl hk
 | write _ hk _=>exact absurd rfl hk
theorem KI {l:List bT} (h:Out cp s l) {t:ah} (hr:lC s dq xs t) : ∀ m:List bT,dq=m.map tQ->(∀ x∈m,x∈l)->t=s∧xs.length=m.length ∧ ∀ (i:Nat) (hi:i<m.length) (nO:i<xs.length),xs[i].Code=0∧(m[i].nb=true->xs[i].N=m[i].Word):=by
 induction hr with
 | nil =>
   intro m e _;have:m=[]:=List.map_eq_nil_iff.1 e.symm
   subst this;exact ⟨rfl,rfl,fun i hi=>absurd hi (Nat.not_lt_zero _)⟩
 | @snoc t a0 xs a u hr hu ih =>
   intro m e hm;obtain ⟨m1,m2,rfl,e1,e2⟩:=List.map_eq_append_iff.1 e.symm
   obtain ⟨x,rfl⟩ : ∃ x,m2=[x]:=by
    match m2,e2 with
    | [x],_=>exact ⟨x,rfl⟩
   simp only [List.map_cons,List.map_nil,List.cons.injEq,and_true] at e2;subst e2;obtain ⟨rfl,hl,hg⟩:=ih m1 e1.symm fun x hx=>hm x (adC _ hx)
   obtain ⟨g1,g2,g3⟩:=KH h (hm x (by simp)) hu;refine ⟨g1,by simp [hl],fun i hi nO => ?_⟩;by_cases rI:i<m1.length
   ·rw [adT rI,adT (by omega)];exact hg i rI (by omega)
   ·have e3:i=m1.length:=by simp at hi;omega
    subst e3;rw [aek (ac3 _),aek (by omega)];simp only [Nat.sub_self,hl,List.getElem_cons_zero];exact ⟨g2,g3⟩
theorem Ph.out {l:List bT} (h:Ph s0 j s l) (hj : 2<=j) : Out s0.Heap.bG s l:=by
 cases h with
 | p0=>omega
 | p1 _=>omega
 | go _ h=>exact h
theorem KJ {t:ah} {more:List cJ} {ys:List kz} (h0:Start s0) (hr:lC s0 dq xs s) (h4:∀ a∈dq,a.Kind≠4) (h2:lC s0 (dq++more) ys t) : ∃ zs,ys=xs++zs∧lC s more zs t:=by
 obtain ⟨y1,zs,u,r1,r2,rfl⟩:=h2.split;obtain ⟨rfl,rfl⟩:=r1.dm h0.named h4 hr;exact ⟨zs,rfl,r2⟩
theorem KL {t:ah} {l:List bT} {ys:List kz} (h0:Start s0) (hr:lC s0 dq xs s) (Sv:Ph s0 j s l) (hj : 2<=j) (h4:∀ a∈dq,a.Kind≠4) (h2:lC s0 (dq++l.map tQ) ys t) :
 ys.length=dq.length+l.length ∧ ∀ (i:Nat) (hi:i<l.length) (nO:dq.length+i<ys.length),ys[dq.length+i].Code=0∧(l[i].nb=true->ys[dq.length+i].N=l[i].Word):=by
 obtain ⟨zs,rfl,hz⟩:=KJ h0 hr h4 h2;have nF:=hr.len;obtain ⟨_,hl,hg⟩:=KI (Sv.out hj) hz l rfl fun x hx=>hx
 refine ⟨by simp [nF,hl],fun i hi nO => ?_⟩;rw [aek (by omega)];have e:dq.length+i-xs.length=i:=by omega
 simp only [e];exact hg i hi (by omega)
theorem Zd (s t:ah) : mW 0 s t=t:=rfl
variable {a:Int} {u:ah×Int} {rs:List p9} {bb lo ov:Nat} {w':World}
theorem DG (A:Option Addr) (n c:Nat) (l:List cJ) (w:World) (hl:Sl w 7 eB A n l) (hn:n*64<=140737488355328) : bI prog 7 [.slice A n c] w (yS w 35 7 eB n l):=by
 refine aE func7 rfl ntmps7 rfl ?_;have hw:=Ext.refl w;refine Wz ?_;refine SW.st (rO rfl rfl) rfl ?_;repeat' (first|refine Wz ?_|(refine CW.cond rfl (fun h => ?_) (fun h => ?_)))
 ·have F4:n=0:=by
   rcases adj n with h0|h0
   ·exact h0
   ·have:=hl.base h0;simp_all
  subst F4;have:l=[]:=adl hl.len
  subst this;exact ae.bj rfl rfl ⟨_,rfl,hw,none,0,rfl,Own.fv _ _ _ _ _ _⟩
 ·refine SW.yL rfl fun b w1 ai hb => ?_
  have hw:=hw.trans ai;refine Wz ?_;refine SW.uH (aet n) (adV l) (Own.fv w1 w.heap.size _ _ eB (some ⟨b,0,none⟩)) (hl.ext hw) hw.size rfl rfl rfl (by omega) (by omega) fun A2 c2 w2 hO hg => ?_
  have hw:=aF hw hg (ac3 _) (by simp [aI]);refine Wz ?_;exact ae.bj rfl rfl ⟨_,rfl,hw,A2,c2,rfl,hO⟩
theorem Pf.ok {a:cJ} (h:Pf a) : a.Kind≠4∧jn rC a:=by
 have h1:=h.at_;have h2:=h.name;have hk:=h.kinds;simp only [km,List.mem_cons,List.not_mem_nil,or_false] at hk;refine ⟨by omega,jn.named ?_⟩;rcases hk with (hk|hk|hk|hk|hk|hk|hk|hk|hk|hk|hk)|hk|hk
 ·exact sH a (.inl hk) (by omega)
 ·exact sH a (by omega) (by omega)
 ·exact sE a (by omega) (FK a hk (by omega))
 ·exact sE a (by omega) (FJ a hk (by omega))
 ·exact sE a (by omega) (FL a hk (by omega) (by omega))
 ·exact Nz a hk (by omega)
 ·exact sE a (by omega) (FM a hk (by omega))
 ·exact Nm a hk
 ·exact Nn a hk
 ·exact Cy a hk
 ·exact sE a (by omega) (DD a hk (by omega))
 ·exact sH a (by omega) (by omega)
 ·exact sH a (by omega) (by omega)
theorem KM (t:bT) (h : -9223372036854775808<=t.At∧t.At<=9223372036854775807) : jn rC (tQ t):=jn.named (sH _ (.inr (.inr (.inr rfl))) h)
theorem m6.ext {r:db} {p q z:ga} {l:List bT} (h:m6 w lo b r p q z rs s0 dq xs l s j) (hx:Ext w w') : m6 w' lo b r p q z rs s0 dq xs l s j :=
 ⟨h.low,h.ot.ext hx,h.xu.ext hx,h.DF.ext hx,h.ns.ext hx,h.run,h.phase,h.C6,h.len,h.many⟩
theorem m6.down {r:db} {p q z:ga} {l:List bT} (h:m6 w lo b r p q z rs s0 dq xs l s j) (hl:ov<=lo) : m6 w ov b r p q z rs s0 dq xs l s j :=
 ⟨ac2 hl h.low,h.ot,h.xu.low hl,h.DF.low hl,h.ns.low hl,h.run,h.phase,h.C6,h.len,h.many⟩
theorem m6.aN {t:Nat} {r:db} {p q z:ga} {l:List bT} (h:m6 w lo b r p q z rs s0 dq xs l s j) (hG:rF w w' t) (bL:(Nat.beq t 48 || (Nat.beq t 35 || (Nat.beq t 50 || (Nat.beq t 55 || Nat.beq t 3))))=false) : m6 w' lo b r p q z rs s0 dq xs l s j:=by
 simp only [Bool.or_eq_false_iff] at bL;exact ⟨h.low,h.ot.aN hG bL.1,h.xu.aN hG bL.2.1,h.DF.aN hG (by simp only [bL.2.2.2.1,bL.2.2.2.2,Bool.or_self]),h.ns.aN hG bL.2.2.1,h.run,h.phase,h.C6,h.len,h.many⟩
theorem AF {b c:Int} (h:iG (jq 256 (tv a b c) (tw a b c)) (16*bR a 9) (bR b 12) (1+bR c 4) u) : Start u.1 :=
 ⟨(jB h).2.2,Hz (jB h).2.1,Ko (jB h).2.1⟩
structure j8 (a b c:Int) (w:World) (lo bb:Nat) (r:db) (p q z:ga) (rs:List p9) (s0:ah) (dq:List cJ) (xs:List kz) (l:List bT) (s:ah) (j:Nat) : Prop where
 pl:m6 w lo bb r p q z rs s0 dq xs l s j
 fresh:mZ (Kn a b c) 6 s0
 start:Start s0
 two : 2<=j∧j<=42
theorem j8.ext {b c:Int} {r:db} {p q z:ga} {l:List bT} (h:j8 a b c w lo bb r p q z rs s0 dq xs l s j) (hx:Ext w w') : j8 a b c w' lo bb r p q z rs s0 dq xs l s j :=
 ⟨h.pl.ext hx,h.fresh,h.start,h.two⟩
def KN (a b c:Int) (lo:Nat) (v:Value) (w:World) : Prop := ∃ A B bb r p q z rs s0 dq xs l s j,v = .tuple #[.pointer (some ⟨bb,0,none⟩),.agg (fi A 2 2 B 2 2 (16*bR a 9) (bR b 12) (1+bR c 4)).toArray,.bool true]∧Own w lo 82 2 iz A 2 2 (tv a b c)∧Own w lo 82 2 iz B 2 2 (tw a b c)∧j8 a b c w lo bb r p q z rs s0 dq xs l s j
set_option maxHeartbeats 4000000 in
theorem HJ (X:Option Addr) (n e:Nat) (l:List HB) (a b c:Int) (w:World) (hl:Sl w 4 FE X n l) (hn:n<=9000000000000000000) (hr:∀ x∈l,IX x) (ha : -9223372036854775808<=a∧a<=9223372036854775807) (hb : -9223372036854775808<=b∧b<=9223372036854775807) (hc : -9223372036854775808<=c∧c<=9223372036854775807) (hS:iv w) (eY:mD w) :
 bI prog 6 [.slice X n e,.int .i64 a,.int .i64 b,.int .i64 c] w fun v w'=>KN a b c w.heap.size v w':=by
 refine aE func6 rfl ntmps6 rfl ?_;have hw:=Ext.refl w;have hp9:=di (n:=a) (m:=9) (by omega);have hp4:=di (n:=c) (m:=4) (by omega);refine Wz ?_;refine SW.alloc rfl fun b9 w2 bt nQ bD => ?_
 have rU:=hw.up nQ
 have hw:=hw.trans bt;clear bt;refine Wz ?_;refine Wk (AB a b c _ ha hb hc) fun v w2 bt hv => ?_
 obtain ⟨A,B,rfl,hA,hB⟩:=hv;have hA:=hA.low hw.size;have hB:=hB.low hw.size;(obtain ⟨hw,bD⟩:=cX bt hw bD);clear bt;have l9:=bD.lt;skip;refine SW.alloc rfl fun N9 w1 ai so gR => ?_
 skip;refine SW.ag gR rfl rfl rfl rfl (vB A 2 2 B 2 2 (16*bR a 9) (bR b 12) (1+bR c 4)) fun w2 oI hg => ?_
 have ar:=ai.own so hg;have L5:=hw.up so
 obtain ⟨hw,bD,hA,hB⟩:=dG ar hw bD hA hB;have gR:=oI;clear oI ai hg ar;have abB:b9≠N9:=by omega
 clear l9;refine Wz ?_;refine CW.any 10 mixed (dg (by kernel_rfl)) rfl fun w1 ai aJ => ?_
 obtain ⟨hw,bD,gR,hA,hB⟩:=fI ai hw bD gR hA hB;clear ai;refine Wa ?_;refine SA.one 4 rfl (by kernel_rfl) rfl ?_;refine Wk (Nq (1+bR c 4) X n e l _ (hl.ext hw) hn hr (by omega)) fun v w5 ar hv => ?_
 obtain ⟨z0,l',rfl,hK,hKR,hKl⟩:=hv;(obtain ⟨hw,bD,gR,hA,hB⟩:=fI ar hw bD gR hA hB);refine SW.nil (ae.sa ar ?_);refine SA.one 5 rfl (by kernel_rfl) rfl ?_;refine Wk (Ny (1+bR c 4) A 2 2 B 2 2 _ _ _ _ _ z0.A z0.n z0.c l' _ hA.sl hB.sl (by decide) (by decide) (by omega) (hS.ext hw) (eY.ext hw) hK.sl (by have:=hK.len;simp at this;omega) hKR (fun u h=>⟨(jB h).1,AF h⟩)) fun v w5 ar hv => ?_
 obtain ⟨bb,r,p,q,z,rs,s0,dq,xs,lt,s,T5,rfl,hP⟩:=hv;have hP:=hP.down hw.size;(obtain ⟨hw,bD,gR,hA,hB⟩:=fI ar hw bD gR hA hB);refine SW.nil (ae.sa ar ?_);refine Wa ?_;refine SA.done (by kernel_rfl) ?_;refine Wz ?_;refine CW.gl 4 5 (fun _=>True) mixed (by kernel_rfl) fun w1 ai aJ => ?_
 obtain ⟨hw,bD,gR,hA,hB,hP⟩:=iS ai hw bD gR hA hB hP;clear ai;refine Wf ?_;refine SF.cq 2 [] aJ rfl (by kernel_rfl) (by kernel_rfl) (by kernel_rfl) (bi rfl) (fun w2 hS=>bi rfl) rfl ?_;refine Wf ?_;refine SF.turn rfl (by kernel_rfl) rfl ?_;refine SW.ag bD rfl rfl rfl rfl (vB A 2 2 B 2 2 (16*bR a 9) (bR b 12) (1+bR c 4)) fun w3 jM hg => ?_
 have hG:=bD.gr hg;have hw:=hw.own rU hg;(obtain ⟨hA,hB,hP⟩:=cj hG hA hB hP);have hS:=True.intro;refine SW.nil (ae.sg hS ?_);refine SG.last rfl (by kernel_rfl) (by kernel_rfl) ?_;refine Wz ?_;have iw:=hK.len;simp only [List.length_append,List.length_cons,List.length_nil] at iw;exact ae.HA rfl rfl rfl rfl jM rfl ⟨_,rfl,hw,A,B,bb,r,p,q,z,rs,s0,dq,xs,lt,s,z0.n,rfl,hA,hB,hP,(jB T5).2.1,AF T5,by omega⟩
variable {α:Type} {m sz:Nat} {A:Option Addr} {e:TypeId} {enc:α -> List Value}
theorem Pj {n c:Nat} {l:List α} {o:Option Nat} (h:Own w lo e sz enc A n c l) (hk:∀ k,aI A c=some k->k<m) (hg:w.grownBy w' o) (hr:∀ k,o=some k->m<=k) : Own w' lo e sz enc A n c l:=by
 cases hc:aI A c with
 | none=>exact h.grown hg (.inl hc)
 | some k=>exact h.grown hg (.inr fun e=>by have:=hk k hc;have:=hr k (by rw [<- hc];exact e.symm);omega)
theorem j8.down {b c:Int} {r:db} {p q z:ga} {l:List bT} (h:j8 a b c w lo bb r p q z rs s0 dq xs l s j) (hl:ov<=lo) : j8 a b c w ov bb r p q z rs s0 dq xs l s j:=⟨h.pl.down hl,h.fresh,h.start,h.two⟩
theorem j8.act {b c:Int} {r:db} {p q z:ga} {l:List bT} (h:j8 a b c w lo bb r p q z rs s0 dq xs l s j) (hG:rF w w' 35) (hA:Own w' lo 35 7 eB p.A p.n p.c dq) : j8 a b c w' lo bb r p q z rs s0 dq xs l s j :=
 ⟨⟨h.pl.low,h.pl.ot.aN hG rfl,hA,h.pl.DF.aN hG rfl,h.pl.ns.aN hG rfl,h.pl.run,h.pl.phase,h.pl.C6,h.pl.len,h.pl.many⟩,h.fresh,h.start,h.two⟩
set_option maxHeartbeats 8000000 in
theorem DH (X:Option Addr) (n e:Nat) (l:List HB) (a b c:Int) (w:World) (hl:Sl w 4 FE X n l) (hn:n<=9000000000000000000) (hr:∀ x∈l,IX x) (ha : -9223372036854775808<=a∧a<=9223372036854775807) (hb : -9223372036854775808<=b∧b<=9223372036854775807) (hc : -9223372036854775808<=c∧c<=9223372036854775807) (hS:iv w) (eY:mD w) :
 bI prog 3 [.slice X n e,.int .i64 a,.int .i64 b,.int .i64 c] w fun v _=>v = .bool true:=by
 refine aE func3 rfl ntmps3 rfl ?_;have hw:=Ext.refl w;have hp9:=di (n:=a) (m:=9) (by omega);repeat' (first|refine Wy ?_|fail);refine Wk (Kt _ (hS.ext hw) (eY.ext hw)) fun v w2 bt hv => ?_
 subst hv;have hw:=hw.trans bt;clear bt;repeat' (first|refine Wy ?_|(refine CW.fU rfl ?_))
 refine Wk (HJ X n e l a b c _ (hl.ext hw) hn hr ha hb hc (hS.ext hw) (eY.ext hw)) fun v w2 bt hv => ?_
 obtain ⟨A,B,bb,r,p,q,z,rs,s0,dq,xs,lt,s,j0,rfl,hA,hB,hP⟩:=hv;have hP:=hP.down hw.size;have hA:=hA.low hw.size;have hB:=hB.low hw.size;have hw:=hw.trans bt;clear bt;have DP:=hP.pl.xu.len;have JS:=hP.pl.len;have h42:=hP.two;have Gs:=hP.pl.ns.len;have hzb:=hP.pl.many;repeat' (first|refine Wy ?_|fail);refine SW.alloc rfl fun oB w1 ai mG aC => ?_
 repeat' (first|refine Wy ?_|fail);refine SW.ag aC rfl rfl rfl rfl (vB A 2 2 B 2 2 (16*bR a 9) (bR b 12) (1+bR c 4)) fun w2 bA hg => ?_
 have ar:=ai.own mG hg;have gK:=hw.up mG
 obtain ⟨hw,hA,hB,hP⟩:=dG ar hw hA hB hP;have aC:=bA;clear bA ai hg ar;repeat' (first|refine Wy ?_|refine Wl (hP.pl.ot.cell (i:=7) (v := .slice p.A p.n p.c) rfl) ?_)
 obtain ⟨w3,ew3⟩ : ∃ w3,w2=w3:=⟨_,rfl⟩;rw [ew3] at hw aC hA hB hP ⊢;have UA:=hw.size;have QL:=hP.pl.xu.lt_size;have lK:kf w3 w3:=⟨Ext.refl _⟩
 refine Wk (DG p.A p.n p.c dq _ hP.pl.xu.sl (by omega)) fun v w2 bt hv => ?_
 obtain ⟨Y0,f0,rfl,hY⟩:=hv;(obtain ⟨hw,aC,hA,hB,hP,lK⟩:=iS bt hw aC hA hB hP lK);clear bt;have Y8:=hP.pl.ns.sl.base;repeat' (first|refine Wy ?_|refine Wl (hP.pl.ot.cell (i:=9) (v := .slice z.A z.n z.c) rfl) ?_)
 refine CW.I4 (fun L' w2 => ∃ Y f,il L' [(9,.pointer (some ⟨bb,0,none⟩)),(10,.pointer (some ⟨oB,0,none⟩)),(11,.bool true),(12,.slice Y (p.n+z.n) f)]∧Ext w w2∧aS w2 oB 29 (fi A 2 2 B 2 2 (16*bR a 9) (bR b 12) (1+bR c 4))∧Own w2 w.heap.size 82 2 iz A 2 2 (tv a b c)∧Own w2 w.heap.size 82 2 iz B 2 2 (tw a b c) ∧
  j8 a b c w2 w.heap.size bb r p q z rs s0 dq xs lt s j0∧Own w2 w.heap.size 35 7 eB Y (p.n+z.n) f (dq++lt.map tQ)) ?_ ?_
 ·refine CW.loop (fun s:Nat×Option Addr×Nat=>[(9,.pointer (some ⟨bb,0,none⟩)),(10,.pointer (some ⟨oB,0,none⟩)),(11,.bool true),(12,.slice s.2.1 (p.n+s.1) s.2.2),(40,.slice z.A z.n z.c),(41,.int .i64 (z.n:Int)),(42,.int .i64 (s.1:Int))])
   (fun u w2=>u.1<=z.n∧kf w3 w2∧Ext w w2∧aS w2 oB 29 (fi A 2 2 B 2 2 (16*bR a 9) (bR b 12) (1+bR c 4))∧Own w2 w.heap.size 82 2 iz A 2 2 (tv a b c)∧Own w2 w.heap.size 82 2 iz B 2 2 (tw a b c) ∧
     j8 a b c w2 w.heap.size bb r p q z rs s0 dq xs lt s j0∧Own w2 w3.heap.size 35 7 eB u.2.1 (p.n+u.1) u.2.2 (dq++(lt.take u.1).map tQ)) (fun s=>z.n-s.1) (0,Y0,f0)
   ⟨rfl,rfl,rfl,rfl,rfl,rfl,rfl,trivial⟩ ⟨adO _,lK,hw,aC,hA,hB,hP,by simpa using hY⟩ ?_
  clear hw aC hA hB hP hY lK;rintro ⟨j,Y,f⟩ w2 ⟨hj,lK,hw,aC,hA,hB,hP,hY⟩
  simp only at hj hY ⊢;by_cases mO:j<z.n
  ·have pA:j<lt.length:=by omega
   repeat' (first|refine Wy ?_|refine Wm ((hP.pl.ns.sl.all mO)) ?_)
   refine SW.alloc rfl fun Wj w1 ai vp rB => ?_
   skip;refine SW.ag rB rfl rfl rfl rfl (Nd lt[j]) fun w2 xh hg => ?_
   have ar:=ai.own vp hg;have PU:=hw.up vp
   obtain ⟨hw,aC,hA,hB,hP,hY,lK⟩:=ur ar hw aC hA hB hP hY lK;have rB:=xh;clear xh ai hg ar;repeat' (first|refine Wy ?_|refine Wl (rB.cell (i:=0) (v := .int .i64 lt[j].At) rfl) ?_)
   refine SW.dR rfl rfl rfl rfl rfl fun b50 w9 ar Ze XE => ?_
   (obtain ⟨hw,aC,hA,hB,hP,hY,lK⟩:=ur ar hw aC hA hB hP hY lK);refine SW.append hY (aS.vF (enc:=eB) (x:=tQ lt[j]) XE) lK.hx.size rfl rfl rfl (by omega) (by omega) fun Y2 f2 qU Ss hg => ?_
   have hG:=hY.gr hg;have NK:=Pj hP.pl.xu QL hg hY.ba;have hP:=hP.act hG NK;have hw:=aF hw hg UA hY.ba;(obtain ⟨aC,hA,hB⟩:=cj hG aC hA hB);rw [ac6,<- List.map_singleton,<- adr,<- ac5 pA] at Ss;repeat' (first|refine Wy ?_|fail);exact ae.again (j+1,Y2,f2) ⟨rfl,rfl,rfl,rfl,rfl,rfl,rfl,trivial⟩ (by simp only;omega) ⟨by simp only;omega,⟨aF lK.hx hg (ac3 _) hY.ba⟩,hw,aC,hA,hB,hP,Ss⟩
  ·obtain rfl:j=z.n:=by omega
   rw [adf (by omega)] at hY;repeat' (first|refine Wy ?_|fail);exact ae.lW (K:=_) ⟨Y,f,⟨rfl,rfl,rfl,rfl,trivial⟩,hw,aC,hA,hB,hP,hY.low UA⟩
 ·clear hw aC hA hB hP hY lK;rintro L' w2 ⟨Y,f,jw,hw,aC,hA,hB,hP,hY⟩
  refine ae.sub jw ?_;by_cases XF:p.n+z.n<=300
  ·have sd:∀ x∈dq++lt.map tQ,x.Kind≠4∧jn rC x:=fun x hx=>by
    rcases ac9.1 hx with hx|hx
    ·exact (hP.pl.C6 x hx).ok
    ·obtain ⟨t,ht,rfl⟩:=adk.1 hx;obtain ⟨r1,hr1⟩:=(hP.pl.phase.out hP.two.1).fits t ht;have:=fR (hP.pl.phase.out hP.two.1).sys.may hr1.rD
     exact ⟨by simp [tQ],KM t (by omega)⟩
   repeat' (first|refine Wy ?_|refine Wm ((fun _ _=>aC.cell)) ?_)
   refine Wk (IV rC A 2 2 B 2 2 _ _ _ _ _ Y (p.n+z.n) f (dq++lt.map tQ) _ hA.sl hB.sl (by decide) (by decide) (by omega) (hS.ext hw) (eY.ext hw) hY.sl XF (fun u h _=>(AF h).named) (fun s h=>h.sys.cV) (fun x hx=>(sd x hx).2) (fun x hx=>xp (sd x hx).1)) fun v w7 je hv => ?_
   obtain ⟨⟨e1,ys,t⟩,MJ,X2,nn,cc,XG,q2,rfl,hX,uu⟩:=hv;obtain ⟨Zf,s',hF,hI,hR⟩:=IW MJ;simp only at hX uu Zf hR ⊢;subst Zf;obtain rfl:=hP.fresh.eq hF;obtain ⟨hlen,hwd⟩:=KL hP.start hP.pl.run hP.pl.phase hP.two.1 (fun x hx=>(hP.pl.C6 x hx).ok.1) hR;have hXl:=hX.len;have hX:=hX.low hw.size;have uu:=uu.low hw.size;obtain ⟨hw,hP⟩:=cX je hw hP;clear je aC hA hB hY MJ;repeat' (first|refine Wy ?_|fail);refine SW.alloc rfl fun R8 w1 ai Qf uU => ?_
   repeat' (first|refine Wy ?_|fail);refine SW.ag uU rfl rfl rfl rfl (aY q2) fun w2 Eh hg => ?_
   have ar:=ai.own Qf hg;have Zg:=hw.up Qf
   obtain ⟨hw,hP,hX,uu⟩:=dG ar hw hP hX uu;have uU:=Eh;clear Eh ai hg ar;have Y8:=hP.pl.ns.sl.base;repeat' (first|refine Wy ?_|refine SW.want rfl rfl ?_|refine Wl (hP.pl.ot.cell (i:=9) (v := .slice z.A z.n z.c) rfl) ?_)
   refine CW.loop (fun s:Nat=>[(9,.pointer (some ⟨bb,0,none⟩)),(15,.slice X2 nn cc),(73,.slice z.A z.n z.c),(74,.int .i64 (z.n:Int)),(75,.int .i64 (s:Int))])
    (fun u w2=>u<=z.n∧Ext w w2∧j8 a b c w2 w.heap.size bb r p q z rs s0 dq xs lt s j0∧iP w2 w.heap.size X2 nn cc XG ys) (fun s=>z.n-s) 0
    ⟨rfl,rfl,rfl,rfl,rfl,trivial⟩ ⟨adO _,hw,hP,hX⟩ ?_
   clear hw hP hX uU uu;rintro j w2 ⟨hj,hw,hP,hX⟩
   by_cases mO:j<z.n
   ·have pA:j<lt.length:=by omega
    have hXA:=hX.row.sl.base;have KT:=hP.pl.xu.sl.base;have Oi:=hX.row.len;have hk:p.n+j<nn:=by omega
    have yb:p.n+j<XG.length:=by omega
    obtain ⟨x,ex⟩ : ∃ x,lt[j]=x:=⟨_,rfl⟩;obtain ⟨y,ey⟩ : ∃ y,XG[p.n+j]=y:=⟨_,rfl⟩;have ai:=hwd j pA (by omega);simp only [DP,ex] at ai;have hy:=hX.each.get (p.n+j) yb (by omega);have c1:y.Code=0:=by rw [<- ey,hy.code];exact ai.1
    have c2:x.nb=true->y.N=x.Word:=fun h=>by rw [<- ey,hy.n];exact ai.2 h
    have fe:=hP.pl.ns.sl.all mO;rw [ex] at fe;repeat' (first|refine Wy ?_|refine Wm fe ?_)
    refine SW.alloc rfl fun b19 w1 ai Qg HL => ?_
    repeat' (first|refine Wy ?_|fail);refine SW.ag HL rfl rfl rfl rfl (Nd x) fun w2 Qh hg => ?_
    have ar:=ai.own Qg hg;have Zh:=hw.up Qg
    obtain ⟨hw,hP,hX⟩:=cj ar hw hP hX;have HL:=Qh;clear Qh ai hg ar;have Qi:=hX.row.sl.all hk;rw [ey] at Qi;repeat' (first|refine Wy ?_|refine Wl (hP.pl.ot.cell (i:=7) (v := .slice p.A p.n p.c) rfl) ?_|refine Wm Qi ?_)
    refine SW.alloc rfl fun O8 w1 ai sD lO => ?_
    skip;refine SW.ag lO rfl rfl rfl rfl (fh y) fun w2 Az hg => ?_
    have ar:=ai.own sD hg;have Uk:=hw.up sD
    obtain ⟨hw,hP,hX,HL⟩:=dG ar hw hP hX HL;have lO:=Az;clear Az ai hg ar;have fy:(cb y)[0]?=some (.int .i64 0):=by rw [<- c1];rfl
    by_cases XH:x.nb=true
    ·have fn:(cb y)[1]?=some (.int .i64 x.Word):=by rw [<- c2 XH];rfl
     have fw:(kU x)[5]?=some (.bool true):=by rw [<- XH];rfl
     repeat' (first|refine Wy ?_|refine Wl (lO.cell (i:=0) fy) ?_|refine Wl (lO.cell (i:=1) fn) ?_|refine Wl (HL.cell (i:=5) fw) ?_|refine Wl (HL.cell (i:=4) (v := .int .i64 x.Word) rfl) ?_)
     exact ae.again (j+1) ⟨rfl,rfl,rfl,rfl,rfl,trivial⟩ (by omega) ⟨by omega,hw,hP,hX⟩
    ·have fw:(kU x)[5]?=some (.bool false):=by rw [<- (by simpa using XH:x.nb=false)];rfl
     repeat' (first|refine Wy ?_|refine Wl (lO.cell (i:=0) fy) ?_|refine Wl (HL.cell (i:=5) fw) ?_)
     exact ae.again (j+1) ⟨rfl,rfl,rfl,rfl,rfl,trivial⟩ (by omega) ⟨by omega,hw,hP,hX⟩
   ·repeat' (first|refine Wy ?_|fail);exact ae.bj rfl rfl ⟨_,rfl,hw,rfl⟩
  ·repeat' (first|refine Wy ?_|fail);exact ae.bj rfl rfl ⟨_,rfl,hw,rfl⟩
end Go.Proofs.YtohigmjjbgpfmaaGreatDoor
