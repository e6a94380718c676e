/- Part 14 of what topWords_holds leans on. -/
import Derived.Test.YtohigmjjbgpfmaaGreatDoorPackTopWords13
set_option linter.unusedVariables false
set_option linter.unusedSimpArgs false
set_option linter.defProp false
open Go.Proofs.Tryz
namespace Go.Proofs.YtohigmjjbgpfmaaGreatDoor
open Go.RowKit
variable {R:Ending->World->Prop} {fn:Func} {cs:List Value} {b m:Nat} {P:Program} {w:World}
theorem ae.FI {n:Nat} {L:Env} {t u q o ty tb:Nat} {x y z:Value} [c:fu P ty m] (hr:fn.results = #[.cell t ty,.tmp u,.tmp q,.tmp o]) (hv:get L t=some (.pointer (some ⟨b,0,none⟩))) (hx:get L u=some x) (hy:get L q=some y) (hz:get L o=some z) (hB:aS w b tb cs) (hl:Nat.beq cs.length m=true) (h:R (.returned (.tuple #[.agg cs.toArray,x,y,z])) w) : ae n (bodyPost P fn R) .ret L w :=
 ⟨fun a ha=>⟨ha.defers,_,by simpa using mw.results (rs:=[.cell t ty,.tmp u,.tmp q,.tmp o]) hr (.cell c hv hB (adv hl) (.tmp hx (.tmp hy (.tmp hz .nil)))) ha,h⟩⟩
def Us (lo:Nat) (u:ah×Int×List Int×Int) (v:Value) (w:World) : Prop := ∃ q A c,v = .tuple #[.agg (aP q).toArray,.int .i64 u.2.1,.slice A u.2.2.1.length c,.int .i64 u.2.2.2]∧iT w lo q u.1∧Own w lo 3 1 bw A u.2.2.1.length c u.2.2.1
def wO (a:cJ) : Prop := ∀ (r:db) (s:ah) (lo:Nat) (w:World),iT w lo r s->lo<=w.heap.size->dI s->mD w ->
 bI prog 30 [.agg (aP r).toArray,.agg (eB a).toArray] w fun v w' => ∃ u,eX s a u∧Us lo u v w'
set_option maxHeartbeats 4000000 in
theorem FJ (a:cJ) (hk:a.Kind=3) (se:a.Name.size<=140737488351232) : wO a:=by
 intro r s lo w hO dz hI eY;obtain ⟨k,cpu,n,m,At,fl,nm⟩:=a;simp only at hk se ⊢;subst hk;have hf:=hI.cV;refine aE func30 rfl ntmps30 rfl ?_;refine CW.seq (CW.region (SW.box rfl rfl fun b2 w1 hw fk au => ?_));have l2:=au.lt;refine SW.box rfl rfl fun b3 w2 bt cg ap => ?_
 (obtain ⟨hw,au⟩:=cX bt hw au);clear bt;have l3:=ap.lt;refine SW.alloc rfl fun b4 w2 bt fJ aH => ?_
 have eu:=hw.up fJ
 (obtain ⟨hw,au,ap⟩:=cj bt hw au ap);clear bt;have Nr:b4≠b2:=by omega
 repeat' (first|refine Wy ?_|refine Wm ((fun _ _=>au.cell)) ?_|refine Wl (ap.cell (i:=0) (v := .int .i64 3) rfl) ?_|refine Wl (ap.cell (i:=6) (v := .string nm) rfl) ?_|refine Wl (ap.cell (i:=2) (v := .int .i64 n) rfl) ?_|refine Wl (ap.cell (i:=3) (v := .int .i64 m) rfl) ?_)
 refine Wk (ul r s nm n m _ (hO.rd.ext hw) hf se) fun v w7 je hv => ?_
 obtain ⟨u,hu,q,rfl,hH⟩:=hv;have hA:=eX.og (s:=s) (a:=⟨3,cpu,n,m,At,fl,nm⟩) rfl hu;have hH:=hH.low (ac2 dz hw.size);(obtain ⟨hw,au,ap,aH⟩:=dG je hw au ap aH);clear je;obtain ⟨u1,e⟩:=u;simp only at hA hH ⊢;repeat' (first|refine Wy ?_|fail);refine SW.ag au rfl rfl rfl rfl (aY q) fun rq oe hg => ?_
 have hG:=au.gr hg;have aH:=aH.grown hg (by simpa using Nr);have hw:=hw.own fk hg;(have hH:=hH.aN hG rfl);have au:=oe;clear oe hG hg;repeat' (first|refine Wy ?_|refine Wm ((fun _ _=>au.cell)) ?_)
 refine SW.ag aH rfl rfl rfl rfl (aY q) fun jb jT hg => ?_
 have hG:=aH.gr hg;have hw:=hw.own eu hg;(have hH:=hH.aN hG rfl);repeat' (first|refine Wy ?_|fail);exact ae.FI rfl rfl rfl rfl rfl jT rfl ⟨_,rfl,hw,_,hA,q,none,0,rfl,hH,Own.fv _ _ _ _ _ _⟩
set_option maxHeartbeats 4000000 in
theorem FK (a:cJ) (hk:a.Kind=5) (se:a.Name.size<=140737488351232) : wO a:=by
 intro r s lo w hO dz hI eY;obtain ⟨k,cpu,n,m,At,fl,nm⟩:=a;simp only at hk se ⊢;subst hk;have hf:=hI.cV;refine aE func30 rfl ntmps30 rfl ?_;refine CW.seq (CW.region (SW.box rfl rfl fun b2 w1 hw fk au => ?_));have l2:=au.lt;refine SW.box rfl rfl fun b3 w2 bt cg ap => ?_
 (obtain ⟨hw,au⟩:=cX bt hw au);clear bt;have l3:=ap.lt;refine SW.alloc rfl fun b4 w2 bt fJ aH => ?_
 have eu:=hw.up fJ
 (obtain ⟨hw,au,ap⟩:=cj bt hw au ap);clear bt;have Nr:b4≠b2:=by omega
 repeat' (first|refine Wy ?_|refine Wm ((fun _ _=>au.cell)) ?_|refine Wl (ap.cell (i:=0) (v := .int .i64 5) rfl) ?_|refine Wl (ap.cell (i:=6) (v := .string nm) rfl) ?_|refine Wl (ap.cell (i:=1) (v := .int .i64 cpu) rfl) ?_)
 refine Wk (pp r s nm cpu _ (hO.rd.ext hw) hf se (eY.ext hw)) fun v w7 je hv => ?_
 obtain ⟨u,hu,q,rfl,hH⟩:=hv;have hA:=eX.new (s:=s) (a:=⟨5,cpu,n,m,At,fl,nm⟩) rfl hu;have hH:=hH.low (ac2 dz hw.size);(obtain ⟨hw,au,ap,aH⟩:=dG je hw au ap aH);clear je;obtain ⟨u1,N,e⟩:=u;simp only at hA hH ⊢;repeat' (first|refine Wy ?_|fail);refine SW.ag au rfl rfl rfl rfl (aY q) fun rq oe hg => ?_
 have hG:=au.gr hg;have aH:=aH.grown hg (by simpa using Nr);have hw:=hw.own fk hg;(have hH:=hH.aN hG rfl);have au:=oe;clear oe hG hg;repeat' (first|refine Wy ?_|refine Wm ((fun _ _=>au.cell)) ?_)
 refine SW.ag aH rfl rfl rfl rfl (aY q) fun jb jT hg => ?_
 have hG:=aH.gr hg;have hw:=hw.own eu hg;(have hH:=hH.aN hG rfl);repeat' (first|refine Wy ?_|fail);exact ae.FI rfl rfl rfl rfl rfl jT rfl ⟨_,rfl,hw,_,hA,q,none,0,rfl,hH,Own.fv _ _ _ _ _ _⟩
set_option maxHeartbeats 4000000 in
theorem FL (a:cJ) (hk:a.Kind=6) (se:a.Name.size<=140737488351232) (Bj : -9223372036854775808<=a.At∧a.At<=9223372036854775807) : wO a:=by
 intro r s lo w hO dz hI eY;obtain ⟨k,cpu,n,m,At,fl,nm⟩:=a;simp only at hk se Bj ⊢;subst hk;have hf:=hI.cV;refine aE func30 rfl ntmps30 rfl ?_;refine CW.seq (CW.region (SW.box rfl rfl fun b2 w1 hw fk au => ?_));have l2:=au.lt;refine SW.box rfl rfl fun b3 w2 bt cg ap => ?_
 (obtain ⟨hw,au⟩:=cX bt hw au);clear bt;have l3:=ap.lt;refine SW.alloc rfl fun b4 w2 bt fJ aH => ?_
 have eu:=hw.up fJ
 (obtain ⟨hw,au,ap⟩:=cj bt hw au ap);clear bt;have Nr:b4≠b2:=by omega
 repeat' (first|refine Wy ?_|refine Wm ((fun _ _=>au.cell)) ?_|refine Wl (ap.cell (i:=0) (v := .int .i64 6) rfl) ?_|refine Wl (ap.cell (i:=6) (v := .string nm) rfl) ?_|refine Wl (ap.cell (i:=1) (v := .int .i64 cpu) rfl) ?_|refine Wl (ap.cell (i:=4) (v := .int .i64 At) rfl) ?_)
 refine Wk (rh r s nm cpu At _ (hO.rd.ext hw) hf se Bj) fun v w7 je hv => ?_
 obtain ⟨u,hu,q,rfl,hH⟩:=hv;have hA:=eX.drop (s:=s) (a:=⟨6,cpu,n,m,At,fl,nm⟩) rfl hu;have hH:=hH.low (ac2 dz hw.size);(obtain ⟨hw,au,ap,aH⟩:=dG je hw au ap aH);clear je;obtain ⟨u1,e⟩:=u;simp only at hA hH ⊢;repeat' (first|refine Wy ?_|fail);refine SW.ag au rfl rfl rfl rfl (aY q) fun rq oe hg => ?_
 have hG:=au.gr hg;have aH:=aH.grown hg (by simpa using Nr);have hw:=hw.own fk hg;(have hH:=hH.aN hG rfl);have au:=oe;clear oe hG hg;repeat' (first|refine Wy ?_|refine Wm ((fun _ _=>au.cell)) ?_)
 refine SW.ag aH rfl rfl rfl rfl (aY q) fun jb jT hg => ?_
 have hG:=aH.gr hg;have hw:=hw.own eu hg;(have hH:=hH.aN hG rfl);repeat' (first|refine Wy ?_|fail);exact ae.FI rfl rfl rfl rfl rfl jT rfl ⟨_,rfl,hw,_,hA,q,none,0,rfl,hH,Own.fv _ _ _ _ _ _⟩
set_option maxHeartbeats 4000000 in
theorem FM (a:cJ) (hk:a.Kind=7) (se:a.Name.size<=140737488351232) : wO a:=by
 intro r s lo w hO dz hI eY;obtain ⟨k,cpu,n,m,At,fl,nm⟩:=a;simp only at hk se ⊢;subst hk;have hf:=hI.cV;refine aE func30 rfl ntmps30 rfl ?_;refine CW.seq (CW.region (SW.box rfl rfl fun b2 w1 hw fk au => ?_));have l2:=au.lt;refine SW.box rfl rfl fun b3 w2 bt cg ap => ?_
 (obtain ⟨hw,au⟩:=cX bt hw au);clear bt;have l3:=ap.lt;refine SW.alloc rfl fun b4 w2 bt fJ aH => ?_
 have eu:=hw.up fJ
 (obtain ⟨hw,au,ap⟩:=cj bt hw au ap);clear bt;have Nr:b4≠b2:=by omega
 repeat' (first|refine Wy ?_|refine Wm ((fun _ _=>au.cell)) ?_|refine Wl (ap.cell (i:=0) (v := .int .i64 7) rfl) ?_|refine Wl (ap.cell (i:=6) (v := .string nm) rfl) ?_)
 refine Wk (z7 r s nm _ (hO.rd.ext hw) hf se) fun v w7 je hv => ?_
 obtain ⟨q,rfl,hH⟩:=hv;have hA:=eX.shrink (s:=s) (a:=⟨7,cpu,n,m,At,fl,nm⟩) rfl;generalize iF s nm=u at hA hH ⊢
 have hH:=hH.low (ac2 dz hw.size);(obtain ⟨hw,au,ap,aH⟩:=dG je hw au ap aH);clear je;obtain ⟨u1,e⟩:=u;simp only at hA hH ⊢;repeat' (first|refine Wy ?_|fail);refine SW.ag au rfl rfl rfl rfl (aY q) fun rq oe hg => ?_
 have hG:=au.gr hg;have aH:=aH.grown hg (by simpa using Nr);have hw:=hw.own fk hg;(have hH:=hH.aN hG rfl);have au:=oe;clear oe hG hg;repeat' (first|refine Wy ?_|refine Wm ((fun _ _=>au.cell)) ?_)
 refine SW.ag aH rfl rfl rfl rfl (aY q) fun jb jT hg => ?_
 have hG:=aH.gr hg;have hw:=hw.own eu hg;(have hH:=hH.aN hG rfl);repeat' (first|refine Wy ?_|fail);exact ae.FI rfl rfl rfl rfl rfl jT rfl ⟨_,rfl,hw,_,hA,q,none,0,rfl,hH,Own.fv _ _ _ _ _ _⟩
set_option maxHeartbeats 4000000 in
theorem DD (a:cJ) (hk:a.Kind=15) (se:a.Name.size<=140737488351232) : wO a:=by
 intro r s lo w hO dz hI eY;obtain ⟨k,cpu,n,m,At,fl,nm⟩:=a;simp only at hk se ⊢;subst hk;have hf:=hI.cV;refine aE func30 rfl ntmps30 rfl ?_;refine CW.seq (CW.region (SW.box rfl rfl fun b2 w1 hw fk au => ?_));have l2:=au.lt;refine SW.box rfl rfl fun b3 w2 bt cg ap => ?_
 (obtain ⟨hw,au⟩:=cX bt hw au);clear bt;have l3:=ap.lt;refine SW.alloc rfl fun b4 w2 bt fJ aH => ?_
 have eu:=hw.up fJ
 (obtain ⟨hw,au,ap⟩:=cj bt hw au ap);clear bt;have Nr:b4≠b2:=by omega
 repeat' (first|refine Wy ?_|refine Wm ((fun _ _=>au.cell)) ?_|refine Wl (ap.cell (i:=0) (v := .int .i64 15) rfl) ?_|refine Wl (ap.cell (i:=6) (v := .string nm) rfl) ?_|refine Wl (ap.cell (i:=1) (v := .int .i64 cpu) rfl) ?_|refine Wl (ap.cell (i:=2) (v := .int .i64 n) rfl) ?_)
 refine Wk (vC r s nm cpu n _ (hO.rd.ext hw) hf se (eY.ext hw)) fun v w7 je hv => ?_
 obtain ⟨u,hu,q,A,c,rfl,hH,hL⟩:=hv;have hA:=eX.bulk (s:=s) (a:=⟨15,cpu,n,m,At,fl,nm⟩) rfl hu;have hH:=hH.low (ac2 dz hw.size);have hL:=hL.low (ac2 dz hw.size);(obtain ⟨hw,au,ap,aH⟩:=dG je hw au ap aH);clear je;obtain ⟨u1,N,e⟩:=u;simp only at hA hH hL ⊢;repeat' (first|refine Wy ?_|fail);refine SW.ag au rfl rfl rfl rfl (aY q) fun rq oe hg => ?_
 have hG:=au.gr hg;have aH:=aH.grown hg (by simpa using Nr);have hw:=hw.own fk hg;(obtain ⟨hH,hL⟩:=cX hG hH hL);have au:=oe;clear oe hG hg;repeat' (first|refine Wy ?_|refine Wm ((fun _ _=>au.cell)) ?_)
 refine SW.ag aH rfl rfl rfl rfl (aY q) fun jb jT hg => ?_
 have hG:=aH.gr hg;have hw:=hw.own eu hg;(obtain ⟨hH,hL⟩:=cX hG hH hL);repeat' (first|refine Wy ?_|fail);exact ae.FI rfl rfl rfl rfl rfl jT rfl ⟨_,rfl,hw,_,hA,q,A,c,rfl,hH,hL⟩
set_option maxHeartbeats 16000000 in
theorem sE (a:cJ) (hk:a.Kind=3∨a.Kind=4∨a.Kind=5∨a.Kind=6∨a.Kind=7∨a.Kind=15) (hC:wO a) : jn dI a:=by
 intro r s lo w hO dz hI hS eY;have Xw:=fun w' hx=>hC r s lo w' (hO.ext hx) (ac2 dz hx.size) hI (eY.ext hx)
 have Xx:=fun u hu=>cx.br (s:=s) (a:=a) (u:=u) (by omega) hu
 clear hC;obtain ⟨k,cpu,n,m,At,fl,nm⟩:=a;simp only at hk Xw Xx ⊢;refine aE func16 rfl ntmps16 rfl ?_;refine CW.seq (CW.region (SW.box rfl rfl fun b2 w1 hw fk au => ?_));have l2:=au.lt;refine SW.box rfl rfl fun b3 w2 bt cg ap => ?_
 have fW:=hw.up cg
 (obtain ⟨hw,au⟩:=cX bt hw au);clear bt;have l3:=ap.lt;refine SW.alloc rfl fun b4 w2 bt fJ aH => ?_
 have eu:=hw.up fJ
 (obtain ⟨hw,au,ap⟩:=cj bt hw au ap);clear bt;have l4:=aH.lt;refine SW.alloc rfl fun b5 w2 bt gm aL => ?_
 have jD:=hw.up gm
 (obtain ⟨hw,au,ap,aH⟩:=dG bt hw au ap aH);clear bt;have l5:=aL.lt;repeat' (first|refine Wy ?_|refine Wm ((fun _ _=>au.cell)) ?_)
 refine SW.alloc rfl fun b6 w1 ai dt aq => ?_
 skip;refine SW.ag aq rfl rfl rfl rfl (aY r) fun w2 bP hg => ?_
 have ar:=ai.own dt hg;have cG:=hw.up dt
 obtain ⟨hw,au,ap,aH,aL⟩:=fI ar hw au ap aH aL;have aq:=bP;clear bP ai hg ar;have l6:=aq.lt;repeat' (first|refine Wy ?_|fail);refine SW.alloc rfl fun b7 w1 ai iB bd => ?_
 skip;refine SW.ag bd rfl rfl rfl rfl (fh ⟨0,0,.nil⟩) fun w2 bq hg => ?_
 have ar:=ai.own iB hg;have fX:=hw.up iB
 obtain ⟨hw,au,ap,aH,aL,aq⟩:=iS ar hw au ap aH aL aq;have bd:=bq;clear bq ai hg ar;have xr:b2≠b6:=by omega
 have xt:b4≠b6:=by omega
 have Nl:b2≠b4:=by omega
 have rf:b5≠b7:=by omega
 clear l2 l3 l4 l5 l6;rcases hk with rfl|rfl|rfl|rfl|rfl|rfl
 all_goals repeat' (first|refine Wy ?_|refine Wm ((fun _ _=>au.cell)) ?_|refine Wm ((fun _ _=>ap.cell)) ?_|refine Wl (ap.cell (i:=0) (v := .int .i64 3) rfl) ?_|refine Wl (ap.cell (i:=0) (v := .int .i64 4) rfl) ?_|refine Wl (ap.cell (i:=0) (v := .int .i64 5) rfl) ?_|refine Wl (ap.cell (i:=0) (v := .int .i64 6) rfl) ?_|refine Wl (ap.cell (i:=0) (v := .int .i64 7) rfl) ?_|refine Wl (ap.cell (i:=0) (v := .int .i64 15) rfl) ?_)
 all_goals
  refine Wk (Xw _ hw) fun v w7 je hv => ?_
  obtain ⟨u,hu,q,A,c,rfl,hH,hL⟩:=hv;(obtain ⟨hw,au,aH,aL,aq,bd⟩:=iS je hw au aH aL aq bd);clear je ap;have bh:=hO.ext hw;have hA:=Xx u hu;clear Xw Xx hu;obtain ⟨u1,N,l,e⟩:=u;simp only at hA hH hL ⊢;by_cases he:e=0
  ·rw [mW,if_pos he,he] at hA;rw [he];repeat' (first|refine Wy ?_|fail);refine SW.ag aq rfl rfl rfl rfl (aY q) fun rq bP hg => ?_
   have hG:=aq.gr hg;have au:=au.grown hg (by simpa using xr);have aH:=aH.grown hg (by simpa using xt);have hw:=hw.own cG hg;(obtain ⟨aL,bd,bh,hH,hL⟩:=fI hG aL bd bh hH hL);have aq:=bP;clear bP hG hg;repeat' (first|refine Wy ?_|fail);refine Wb (i:=1) bd fun jb bq hg => ?_
   have hG:=bd.gr hg;have aL:=aL.grown hg (by simpa using rf);have hw:=hw.own fX hg;(obtain ⟨au,aH,aq,bh,hH,hL⟩:=iS hG au aH aq bh hH hL);have bd:aS _ b7 55 (cb ⟨0,N,.nil⟩):=bq;clear bq hG hg;repeat' (first|refine Wy ?_|fail);refine Wb (i:=2) bd fun jb bq hg => ?_
   have hG:=bd.gr hg;have aL:=aL.grown hg (by simpa using rf);have hw:=hw.own fX hg;(obtain ⟨au,aH,aq,bh,hH,hL⟩:=iS hG au aH aq bh hH hL);have bd:aS _ b7 55 (cb ⟨0,N,⟨A,l.length,c⟩⟩):=bq;clear bq hG hg;repeat' (first|refine Wy ?_|fail);refine Wb (i:=0) bd fun jb bq hg => ?_
   have hG:=bd.gr hg;have aL:=aL.grown hg (by simpa using rf);have hw:=hw.own fX hg;(obtain ⟨au,aH,aq,bh,hH,hL⟩:=iS hG au aH aq bh hH hL);have bd:aS _ b7 55 (cb ⟨0,N,⟨A,l.length,c⟩⟩):=bq;clear bq hG hg;repeat' (first|refine Wy ?_|refine Wl (bd.cell (i:=0) (v := .int .i64 0) rfl) ?_)
   refine CW.gl 2 3 (fun w2=>aS w2 b7 55 (cb ⟨0,N,⟨A,l.length,c⟩⟩)) mixed (by kernel_rfl) fun w1 ai aJ => ?_
   obtain ⟨hw,au,aH,aL,aq,bd,bh,hH,hL⟩:=Lj ai hw au aH aL aq bd bh hH hL;clear ai;refine Wt 0 [] [] aJ rfl (aX rfl rfl ((fun _ _=>aq.cell))) ?_;refine SF.cq 1 [] aJ rfl (by kernel_rfl) (by kernel_rfl) (by kernel_rfl) (aX rfl rfl ((fun _ _=>bd.cell))) (fun w2 hS=>aX rfl rfl ((fun _ _=>hS.cell))) rfl ?_;refine SF.turn rfl (by kernel_rfl) rfl ?_;refine SW.ag aH rfl rfl rfl rfl (aY q) fun w8 cW hg => ?_
   have hG:=aH.gr hg;have hw:=hw.own eu hg;(obtain ⟨aL,bd,bh,hH,hL⟩:=fI hG aL bd bh hH hL);have hS:=bd;refine SW.nil (ae.sg hS ?_);refine SG.last rfl (by kernel_rfl) (by kernel_rfl) ?_;refine SW.ag aL rfl rfl rfl rfl (fh ⟨0,N,⟨A,l.length,c⟩⟩) fun w9 eJ hg => ?_
   have hG:=aL.gr hg;have hw:=hw.own jD hg;(obtain ⟨cW,bh,hH,hL⟩:=dG hG cW bh hH hL);repeat' (first|refine Wy ?_|fail);exact ae.na rfl rfl rfl cW eJ rfl rfl ⟨_,rfl,hw,_,hA,q,⟨0,N,⟨A,l.length,c⟩⟩,rfl,hH,⟨rfl,rfl,hL⟩⟩
  ·rw [mW,if_neg he] at hA;repeat' (first|refine Wy ?_|fail);refine SW.ag aq rfl rfl rfl rfl (aY q) fun rq bP hg => ?_
   have hG:=aq.gr hg;have au:=au.grown hg (by simpa using xr);have aH:=aH.grown hg (by simpa using xt);have hw:=hw.own cG hg;(obtain ⟨aL,bd,bh,hH,hL⟩:=fI hG aL bd bh hH hL);have aq:=bP;clear bP hG hg;repeat' (first|refine Wy ?_|fail);refine Wb (i:=1) bd fun jb bq hg => ?_
   have hG:=bd.gr hg;have aL:=aL.grown hg (by simpa using rf);have hw:=hw.own fX hg;(obtain ⟨au,aH,aq,bh,hH,hL⟩:=iS hG au aH aq bh hH hL);have bd:aS _ b7 55 (cb ⟨0,N,.nil⟩):=bq;clear bq hG hg;repeat' (first|refine Wy ?_|fail);refine Wb (i:=2) bd fun jb bq hg => ?_
   have hG:=bd.gr hg;have aL:=aL.grown hg (by simpa using rf);have hw:=hw.own fX hg;(obtain ⟨au,aH,aq,bh,hH,hL⟩:=iS hG au aH aq bh hH hL);have bd:aS _ b7 55 (cb ⟨0,N,⟨A,l.length,c⟩⟩):=bq;clear bq hG hg;repeat' (first|refine Wy ?_|fail);refine Wb (i:=0) bd fun jb bq hg => ?_
   have hG:=bd.gr hg;have aL:=aL.grown hg (by simpa using rf);have hw:=hw.own fX hg;(obtain ⟨au,aH,aq,bh,hH,hL⟩:=iS hG au aH aq bh hH hL);have bd:aS _ b7 55 (cb ⟨e,N,⟨A,l.length,c⟩⟩):=bq;clear bq hG hg;repeat' (first|refine Wy ?_|refine Wl (bd.cell (i:=0) (v := .int .i64 e) rfl) ?_)
   refine CW.gl 2 3 (fun w2=>aS w2 b7 55 (cb ⟨e,N,⟨A,l.length,c⟩⟩)) mixed (by kernel_rfl) fun w1 ai aJ => ?_
   obtain ⟨hw,au,aH,aL,aq,bd,bh,hH,hL⟩:=Lj ai hw au aH aL aq bd bh hH hL;clear ai;refine Wt 0 [] [] aJ rfl (aX rfl rfl ((fun _ _=>au.cell))) ?_;refine SF.cq 1 [] aJ rfl (by kernel_rfl) (by kernel_rfl) (by kernel_rfl) (aX rfl rfl ((fun _ _=>bd.cell))) (fun w2 hS=>aX rfl rfl ((fun _ _=>hS.cell))) rfl ?_;refine SF.turn rfl (by kernel_rfl) rfl ?_;refine SW.ag aH rfl rfl rfl rfl (aY r) fun w8 cW hg => ?_
   have hG:=aH.gr hg;have hw:=hw.own eu hg;(obtain ⟨aL,bd,bh,hH,hL⟩:=fI hG aL bd bh hH hL);have hS:=bd;refine SW.nil (ae.sg hS ?_);refine SG.last rfl (by kernel_rfl) (by kernel_rfl) ?_;refine SW.ag aL rfl rfl rfl rfl (fh ⟨e,N,⟨A,l.length,c⟩⟩) fun w9 eJ hg => ?_
   have hG:=aL.gr hg;have hw:=hw.own jD hg;(obtain ⟨cW,bh,hH,hL⟩:=dG hG cW bh hH hL);repeat' (first|refine Wy ?_|fail);exact ae.na rfl rfl rfl cW eJ rfl rfl ⟨_,rfl,hw,_,hA,r,⟨e,N,⟨A,l.length,c⟩⟩,rfl,bh,⟨rfl,rfl,hL⟩⟩
variable {s:ah}
structure sG (w:World) (lo:Nat) (s:ah) (a:cJ) (b6 b7:Nat) (q:db) (t:ah) (x:p9) (y:kz) : Prop where
 b6:aS w b6 44 (aP q)
 b7:aS w b7 55 (cb x)
 own:iT w lo q t
 ans:kj w lo x y
 act:cx s a (mW y.Code s t,y)
def HE (s:ah) (a:cJ) : Prop:=(a.Kind=2->(0<=a.At∧a.At<256)∧df s (a.At*16)=true)∧(a.Kind=13∨a.Kind=14->gb s a.At true)∧(a.Kind=13->qW a.M)
theorem Ky {a:cJ} (hk:a.Kind=2) (h : 0<=a.At∧a.At<256) (hw:df s (a.At*16)=true) : cx s a (mW (fa s.Heap a.fV a.At).1 s (qT s (fa s.Heap a.fV a.At).2),⟨(fa s.Heap a.fV a.At).1,0,[]⟩):=by
 by_cases e:(fa s.Heap a.fV a.At).1=0
 ·have:=cx.nw hk (oU.ok h hw e)
  rw [e];exact this
 ·have:=cx.nw hk (oU.fault h hw e)
  simp only [mW,if_neg e] at this ⊢;exact this
set_option maxHeartbeats 40000000 in
theorem Nv (a:cJ) (hk:a.Kind∈[8,11,5,3,6,9,7,1,2,12,15]) (Bj : -9223372036854775808<=a.At∧a.At<=9223372036854775807) (se:a.Name.size<=140737488351232) (r:db) (s:ah) (lo:Nat) (w:World) (hO:iT w lo r s) (dz:lo<=w.heap.size) (hI:dI s) (hD:HE s a) (hS:iv w) (eY:mD w) :
 bI prog 26 [.agg (aP r).toArray,.agg (eB a).toArray] w fun v w' => ∃ u,cx s a u∧OY lo u v w':=by
 have hf:=hI.cV;have hs:=hf.small;have hwm:=hI.may.words;have wl:=hO.words.len;have Y1:=hO.words.sl.base;obtain ⟨k,cpu,n,m,At,fl,nm⟩:=a;simp only [List.mem_cons,List.not_mem_nil,or_false] at hk;simp only at Bj se;refine aE func26 rfl ntmps26 rfl ?_;refine CW.seq (CW.region (SW.box rfl rfl fun b2 w1 hw fk au => ?_));have l2:=au.lt;refine SW.box rfl rfl fun b3 w2 bt cg ap => ?_
 have fW:=hw.up cg
 (obtain ⟨hw,au⟩:=cX bt hw au);clear bt;have l3:=ap.lt;refine SW.alloc rfl fun b4 w2 bt fJ aH => ?_
 have eu:=hw.up fJ
 (obtain ⟨hw,au,ap⟩:=cj bt hw au ap);clear bt;have l4:=aH.lt;refine SW.alloc rfl fun b5 w2 bt gm aL => ?_
 have jD:=hw.up gm
 (obtain ⟨hw,au,ap,aH⟩:=dG bt hw au ap aH);clear bt;have l5:=aL.lt;repeat' (first|refine Wy ?_|refine Wm ((fun _ _=>au.cell)) ?_)
 refine SW.alloc rfl fun b6 w1 ai dt aq => ?_
 skip;refine SW.ag aq rfl rfl rfl rfl (aY r) fun w2 bP hg => ?_
 have ar:=ai.own dt hg;have cG:=hw.up dt
 obtain ⟨hw,au,ap,aH,aL⟩:=fI ar hw au ap aH aL;have aq:=bP;clear bP ai hg ar;have l6:=aq.lt;repeat' (first|refine Wy ?_|fail);refine SW.alloc rfl fun b7 w1 ai iB bd => ?_
 skip;refine SW.ag bd rfl rfl rfl rfl (fh ⟨0,0,.nil⟩) fun w2 bq hg => ?_
 have ar:=ai.own iB hg;have fX:=hw.up iB
 obtain ⟨hw,au,ap,aH,aL,aq⟩:=iS ar hw au ap aH aL aq;have bd:=bq;clear bq ai hg ar;have xr:b2≠b6:=by omega
 have xt:b4≠b6:=by omega
 have Nl:b2≠b4:=by omega
 have rf:b5≠b7:=by omega
 clear l2 l3 l4 l5 l6;rcases hk with rfl|rfl|rfl|rfl|rfl|rfl|rfl|rfl|rfl|rfl|rfl
 all_goals repeat' (first|refine Wy ?_|refine Wm ((fun _ _=>au.cell)) ?_|refine Wm ((me au)) ?_|refine Wl (ap.cell (i:=0) (v := .int .i64 8) rfl) ?_|refine Wl (ap.cell (i:=0) (v := .int .i64 11) rfl) ?_|refine Wl (ap.cell (i:=0) (v := .int .i64 5) rfl) ?_|refine Wl (ap.cell (i:=0) (v := .int .i64 3) rfl) ?_|refine Wl (ap.cell (i:=0) (v := .int .i64 6) rfl) ?_|refine Wl (ap.cell (i:=0) (v := .int .i64 9) rfl) ?_|refine Wl (ap.cell (i:=0) (v := .int .i64 7) rfl) ?_|refine Wl (ap.cell (i:=0) (v := .int .i64 1) rfl) ?_|refine Wl (ap.cell (i:=0) (v := .int .i64 2) rfl) ?_|refine Wl (ap.cell (i:=0) (v := .int .i64 12) rfl) ?_|refine Wl (ap.cell (i:=0) (v := .int .i64 15) rfl) ?_|refine Wl (ap.cell (i:=1) (v := .int .i64 cpu) rfl) ?_|refine Wl (ap.cell (i:=2) (v := .int .i64 n) rfl) ?_|refine Wl (ap.cell (i:=3) (v := .int .i64 m) rfl) ?_|refine Wl (ap.cell (i:=4) (v := .int .i64 At) rfl) ?_|refine Wl (ap.cell (i:=5) (v := .int .i64 fl) rfl) ?_|refine Wl (ap.cell (i:=6) (v := .string nm) rfl) ?_)
 focus
  refine Wk (uq r s cpu n _ (hO.rd.ext hw) hf (hS.ext hw) (eY.ext hw)) fun v w7 je hv => ?_
  obtain ⟨u,hu,q,rfl,hH⟩:=hv;have hH:=hH.low (ac2 dz hw.size);have hA:=cx.fp (s:=s) (a:=⟨8,cpu,n,m,At,fl,nm⟩) rfl hu;clear hu
 rotate_left
 focus
  refine Wk (AD r s cpu At n _ (hO.rd.ext hw) hI Bj (hS.ext hw) (eY.ext hw)) fun v w7 je hv => ?_
  obtain ⟨u,hu,q,rfl,hH⟩:=hv;have hH:=hH.low (ac2 dz hw.size);have hA:=cx.dX (s:=s) (a:=⟨11,cpu,n,m,At,fl,nm⟩) rfl hu;clear hu
 rotate_left
 focus
  refine Wk (pp r s nm cpu _ (hO.rd.ext hw) hf se (eY.ext hw)) fun v w7 je hv => ?_
  obtain ⟨u,hu,q,rfl,hH⟩:=hv;have hH:=hH.low (ac2 dz hw.size);have hA:=cx.br (s:=s) (a:=⟨5,cpu,n,m,At,fl,nm⟩) (by simp) (eX.new (a:=⟨5,cpu,n,m,At,fl,nm⟩) rfl hu);clear hu
 rotate_left
 focus
  refine Wk (ul r s nm n m _ (hO.rd.ext hw) hf se) fun v w7 je hv => ?_
  obtain ⟨u,hu,q,rfl,hH⟩:=hv;have hH:=hH.low (ac2 dz hw.size);have hA:=cx.br (s:=s) (a:=⟨3,cpu,n,m,At,fl,nm⟩) (by simp) (eX.og (a:=⟨3,cpu,n,m,At,fl,nm⟩) rfl hu);clear hu
 rotate_left
 focus
  refine Wk (rh r s nm cpu At _ (hO.rd.ext hw) hf se Bj) fun v w7 je hv => ?_
  obtain ⟨u,hu,q,rfl,hH⟩:=hv;have hH:=hH.low (ac2 dz hw.size);have hA:=cx.br (s:=s) (a:=⟨6,cpu,n,m,At,fl,nm⟩) (by simp) (eX.drop (a:=⟨6,cpu,n,m,At,fl,nm⟩) rfl hu);clear hu
 rotate_left
 focus
  refine Wk (wN r s cpu At _ (hO.rd.ext hw) hf Bj (hS.ext hw)) fun v w7 je hv => ?_
  obtain ⟨u,hu,q,rfl,hH⟩:=hv;have hH:=hH.low (ac2 dz hw.size);have hA:=cx.kA (s:=s) (a:=⟨9,cpu,n,m,At,fl,nm⟩) rfl hu;clear hu
 rotate_left
 focus
  refine Wk (z7 r s nm _ (hO.rd.ext hw) hf se) fun v w7 je hv => ?_
  obtain ⟨q,rfl,hH⟩:=hv;have hH:=hH.low (ac2 dz hw.size);have hA:=cx.br (s:=s) (a:=⟨7,cpu,n,m,At,fl,nm⟩) (by simp) (eX.shrink (a:=⟨7,cpu,n,m,At,fl,nm⟩) rfl);generalize iF s nm=u at hA hH ⊢
 rotate_left
 focus
  refine Wk (pZ r.Heap s.Heap cpu n fl _ (hO.rd.heap.ext hw) hs.heap hf.cr (eY.ext hw)) fun v w7 je hv => ?_
  obtain ⟨u,hu,H,rfl,hH⟩:=hv;have hH:=hH.low (ac2 dz hw.size);(obtain ⟨hw,au,aH,aL,aq,bd⟩:=iS je hw au aH aL aq bd);clear je;have bh:=hO.ext hw;have hA:=cx.bC (s:=s) (a:=⟨1,cpu,n,m,At,fl,nm⟩) rfl hu;clear hu;obtain ⟨u1,N,e⟩:=u;simp only at hA hH ⊢;repeat' (first|refine Wy ?_|fail);refine SW.gi 1 aq rfl rfl rfl (ady rfl) (dU H) (aP ⟨r.Words,H,r.aa⟩) rfl fun rq bP hg => ?_
  have hG:=aq.gr hg;have au:=au.grown hg (by simpa using xr);have aH:=aH.grown hg (by simpa using xt);have hw:=hw.own cG hg;(obtain ⟨aL,bd,bh,hH⟩:=dG hG aL bd bh hH);have aq:=bP;clear bP hG hg;repeat' (first|refine Wy ?_|fail);refine Wb (i:=1) bd fun jb bq hg => ?_
  have hG:=bd.gr hg;have aL:=aL.grown hg (by simpa using rf);have hw:=hw.own fX hg;(obtain ⟨au,aH,aq,bh,hH⟩:=fI hG au aH aq bh hH);have bd:aS _ b7 55 (cb ⟨0,N,.nil⟩):=bq;clear bq hG hg;repeat' (first|refine Wy ?_|fail);refine Wb (i:=0) bd fun jb bq hg => ?_
  have hG:=bd.gr hg;have aL:=aL.grown hg (by simpa using rf);have hw:=hw.own fX hg;(obtain ⟨au,aH,aq,bh,hH⟩:=fI hG au aH aq bh hH);have bd:aS _ b7 55 (cb ⟨e,N,.nil⟩):=bq;clear bq hG hg;have hP:∃ q t x y,sG _ lo s _ b6 b7 q t x y:=⟨⟨r.Words,H,r.aa⟩,qT s u1,⟨e,N,.nil⟩,⟨e,N,[]⟩,aq,bd,⟨bh.words,hH,bh.br⟩,kj.plain _ _ _ _,hA⟩
  clear hA hH aq bd
 rotate_left
 focus
  refine Wk (ve r.Heap s.Heap cpu At _ (hO.rd.heap.ext hw) hs.heap hf.cr (by have:=(hD.1 rfl).1;omega)) fun v w7 je hv => ?_
  obtain ⟨H,rfl,hH⟩:=hv;have hH:=hH.low (ac2 dz hw.size);(obtain ⟨hw,au,aH,aL,aq,bd⟩:=iS je hw au aH aL aq bd);clear je;have bh:=hO.ext hw;have hA:=Ky (s:=s) (a:=⟨2,cpu,n,m,At,fl,nm⟩) rfl (hD.1 rfl).1 (hD.1 rfl).2;simp only at hA;generalize fa s.Heap cpu At=u at hA hH ⊢
  obtain ⟨e,u1⟩:=u;simp only at hA hH ⊢;repeat' (first|refine Wy ?_|fail);refine SW.gi 1 aq rfl rfl rfl (ady rfl) (dU H) (aP ⟨r.Words,H,r.aa⟩) rfl fun rq bP hg => ?_
  have hG:=aq.gr hg;have au:=au.grown hg (by simpa using xr);have aH:=aH.grown hg (by simpa using xt);have hw:=hw.own cG hg;(obtain ⟨aL,bd,bh,hH⟩:=dG hG aL bd bh hH);have aq:=bP;clear bP hG hg;repeat' (first|refine Wy ?_|fail);refine Wb (i:=0) bd fun jb bq hg => ?_
  have hG:=bd.gr hg;have aL:=aL.grown hg (by simpa using rf);have hw:=hw.own fX hg;(obtain ⟨au,aH,aq,bh,hH⟩:=fI hG au aH aq bh hH);have bd:aS _ b7 55 (cb ⟨e,0,.nil⟩):=bq;clear bq hG hg;have hP:∃ q t x y,sG _ lo s _ b6 b7 q t x y:=⟨⟨r.Words,H,r.aa⟩,qT s u1,⟨e,0,.nil⟩,⟨e,0,[]⟩,aq,bd,⟨bh.words,hH,bh.br⟩,kj.plain _ _ _ _,hA⟩
  clear hA hH aq bd
 rotate_left
 focus
  refine Wk (BY r.Heap s.Heap _ (hO.rd.heap.ext hw) hs.heap hf.cr) fun v w7 je hv => ?_
  obtain ⟨H,rfl,hH⟩:=hv;have hH:=hH.low (ac2 dz hw.size);(obtain ⟨hw,au,aH,aL,aq,bd⟩:=iS je hw au aH aL aq bd);clear je;have bh:=hO.ext hw;have hA:=cx.drain (s:=s) (a:=⟨12,cpu,n,m,At,fl,nm⟩) rfl;generalize kO s.Heap=u at hA hH ⊢
  obtain ⟨e,u1⟩:=u;simp only at hA hH ⊢;repeat' (first|refine Wy ?_|fail);refine SW.gi 1 aq rfl rfl rfl (ady rfl) (dU H) (aP ⟨r.Words,H,r.aa⟩) rfl fun rq bP hg => ?_
  have hG:=aq.gr hg;have au:=au.grown hg (by simpa using xr);have aH:=aH.grown hg (by simpa using xt);have hw:=hw.own cG hg;(obtain ⟨aL,bd,bh,hH⟩:=dG hG aL bd bh hH);have aq:=bP;clear bP hG hg;repeat' (first|refine Wy ?_|fail);refine Wb (i:=0) bd fun jb bq hg => ?_
  have hG:=bd.gr hg;have aL:=aL.grown hg (by simpa using rf);have hw:=hw.own fX hg;(obtain ⟨au,aH,aq,bh,hH⟩:=fI hG au aH aq bh hH);have bd:aS _ b7 55 (cb ⟨e,0,.nil⟩):=bq;clear bq hG hg;have hP:∃ q t x y,sG _ lo s _ b6 b7 q t x y:=⟨⟨r.Words,H,r.aa⟩,qT s u1,⟨e,0,.nil⟩,⟨e,0,[]⟩,aq,bd,⟨bh.words,hH,bh.br⟩,kj.plain _ _ _ _,hA⟩
  clear hA hH aq bd
 rotate_left
 focus
  refine Wk (vC r s nm cpu n _ (hO.rd.ext hw) hf se (eY.ext hw)) fun v w7 je hv => ?_
  obtain ⟨u,hu,q,A,c,rfl,hH,hL⟩:=hv;have hH:=hH.low (ac2 dz hw.size);have hL:=hL.low (ac2 dz hw.size);have hA:=cx.br (s:=s) (a:=⟨15,cpu,n,m,At,fl,nm⟩) (by simp) (eX.bulk (a:=⟨15,cpu,n,m,At,fl,nm⟩) rfl hu);clear hu;(obtain ⟨hw,au,aH,aL,aq,bd⟩:=iS je hw au aH aL aq bd);clear je;have bh:=hO.ext hw;obtain ⟨t,l,e⟩:=u;simp only at hA hH hL ⊢;repeat' (first|refine Wy ?_|fail);refine SW.ag aq rfl rfl rfl rfl (aY q) fun rq bP hg => ?_
  have hG:=aq.gr hg;have au:=au.grown hg (by simpa using xr);have aH:=aH.grown hg (by simpa using xt);have hw:=hw.own cG hg;(obtain ⟨aL,bd,bh,hH,hL⟩:=fI hG aL bd bh hH hL);have aq:=bP;clear bP hG hg;repeat' (first|refine Wy ?_|fail);refine Wb (i:=2) bd fun jb bq hg => ?_
  have hG:=bd.gr hg;have aL:=aL.grown hg (by simpa using rf);have hw:=hw.own fX hg;(obtain ⟨au,aH,aq,bh,hH,hL⟩:=iS hG au aH aq bh hH hL);have bd:aS _ b7 55 (cb ⟨0,0,⟨A,l.length,c⟩⟩):=bq;clear bq hG hg;repeat' (first|refine Wy ?_|fail);refine Wb (i:=0) bd fun jb bq hg => ?_
  have hG:=bd.gr hg;have aL:=aL.grown hg (by simpa using rf);have hw:=hw.own fX hg;(obtain ⟨au,aH,aq,bh,hH,hL⟩:=iS hG au aH aq bh hH hL);have bd:aS _ b7 55 (cb ⟨e,0,⟨A,l.length,c⟩⟩):=bq;clear bq hG hg;have hP:∃ q t x y,sG _ lo s _ b6 b7 q t x y:=⟨q,t,⟨e,0,⟨A,l.length,c⟩⟩,⟨e,0,l⟩,aq,bd,hH,⟨rfl,rfl,hL⟩,hA⟩
  clear hA hH aq bd
 rotate_left
 iterate 3
  focus
   (obtain ⟨hw,au,aH,aL,aq,bd⟩:=iS je hw au aH aL aq bd);clear je;have bh:=hO.ext hw;obtain ⟨t,N,e⟩:=u;simp only at hA hH ⊢;repeat' (first|refine Wy ?_|fail);refine SW.ag aq rfl rfl rfl rfl (aY q) fun rq bP hg => ?_
   have hG:=aq.gr hg;have au:=au.grown hg (by simpa using xr);have aH:=aH.grown hg (by simpa using xt);have hw:=hw.own cG hg;(obtain ⟨aL,bd,bh,hH⟩:=dG hG aL bd bh hH);have aq:=bP;clear bP hG hg;repeat' (first|refine Wy ?_|fail);refine Wb (i:=1) bd fun jb bq hg => ?_
   have hG:=bd.gr hg;have aL:=aL.grown hg (by simpa using rf);have hw:=hw.own fX hg;(obtain ⟨au,aH,aq,bh,hH⟩:=fI hG au aH aq bh hH);have bd:aS _ b7 55 (cb ⟨0,N,.nil⟩):=bq;clear bq hG hg;repeat' (first|refine Wy ?_|fail);refine Wb (i:=0) bd fun jb bq hg => ?_
   have hG:=bd.gr hg;have aL:=aL.grown hg (by simpa using rf);have hw:=hw.own fX hg;(obtain ⟨au,aH,aq,bh,hH⟩:=fI hG au aH aq bh hH);have bd:aS _ b7 55 (cb ⟨e,N,.nil⟩):=bq;clear bq hG hg;have hP:∃ q t x y,sG _ lo s _ b6 b7 q t x y:=⟨q,t,⟨e,N,.nil⟩,⟨e,N,[]⟩,aq,bd,hH,kj.plain _ _ _ _,hA⟩
   clear hA hH aq bd
  rotate_left
 iterate 4
  focus
   (obtain ⟨hw,au,aH,aL,aq,bd⟩:=iS je hw au aH aL aq bd);clear je;have bh:=hO.ext hw;obtain ⟨t,e⟩:=u;simp only at hA hH ⊢;repeat' (first|refine Wy ?_|fail);refine SW.ag aq rfl rfl rfl rfl (aY q) fun rq bP hg => ?_
   have hG:=aq.gr hg;have au:=au.grown hg (by simpa using xr);have aH:=aH.grown hg (by simpa using xt);have hw:=hw.own cG hg;(obtain ⟨aL,bd,bh,hH⟩:=dG hG aL bd bh hH);have aq:=bP;clear bP hG hg;repeat' (first|refine Wy ?_|fail);refine Wb (i:=0) bd fun jb bq hg => ?_
   have hG:=bd.gr hg;have aL:=aL.grown hg (by simpa using rf);have hw:=hw.own fX hg;(obtain ⟨au,aH,aq,bh,hH⟩:=fI hG au aH aq bh hH);have bd:aS _ b7 55 (cb ⟨e,0,.nil⟩):=bq;clear bq hG hg;have hP:∃ q t x y,sG _ lo s _ b6 b7 q t x y:=⟨q,t,⟨e,0,.nil⟩,⟨e,0,[]⟩,aq,bd,hH,kj.plain _ _ _ _,hA⟩
   clear hA hH aq bd
  rotate_left
 iterate 5 rotate_left
 all_goals
  obtain ⟨q,t,x,y,aq,bd,hH,hY,hA⟩:=hP;by_cases he:y.Code=0
  ·rw [mW,if_pos he] at hA;rw [<- hY.code] at he;repeat' (first|refine Wy ?_|refine Wl (bd.cell (i:=0) (v := .int .i64 x.Code) rfl) ?_)
   refine CW.gl 2 3 (fun w2=>aS w2 b7 55 (cb x)) mixed (by kernel_rfl) fun w1 ai aJ => ?_
   obtain ⟨hw,au,aH,aL,aq,bd,bh,hH,hY⟩:=Lj ai hw au aH aL aq bd bh hH hY;clear ai;refine Wt 0 [] [] aJ rfl (aX rfl rfl ((fun _ _=>aq.cell))) ?_;refine SF.cq 1 [] aJ rfl (by kernel_rfl) (by kernel_rfl) (by kernel_rfl) (aX rfl rfl ((fun _ _=>bd.cell))) (fun w2 hS=>aX rfl rfl ((fun _ _=>hS.cell))) rfl ?_;refine SF.turn rfl (by kernel_rfl) rfl ?_;refine SW.ag aH rfl rfl rfl rfl (aY q) fun w8 cW hg => ?_
   have hG:=aH.gr hg;have hw:=hw.own eu hg;(obtain ⟨aL,bd,bh,hH,hY⟩:=fI hG aL bd bh hH hY);have hS:=bd;refine SW.nil (ae.sg hS ?_);refine SG.last rfl (by kernel_rfl) (by kernel_rfl) ?_;refine SW.ag aL rfl rfl rfl rfl (fh x) fun w9 eJ hg => ?_
   have hG:=aL.gr hg;have hw:=hw.own jD hg;(obtain ⟨cW,bh,hH,hY⟩:=dG hG cW bh hH hY);repeat' (first|refine Wy ?_|fail);exact ae.na rfl rfl rfl cW eJ rfl rfl ⟨_,rfl,hw,_,hA,q,x,rfl,hH,hY⟩
  ·rw [mW,if_neg he] at hA;rw [<- hY.code] at he;repeat' (first|refine Wy ?_|refine Wl (bd.cell (i:=0) (v := .int .i64 x.Code) rfl) ?_)
   refine CW.gl 2 3 (fun w2=>aS w2 b7 55 (cb x)) mixed (by kernel_rfl) fun w1 ai aJ => ?_
   obtain ⟨hw,au,aH,aL,aq,bd,bh,hH,hY⟩:=Lj ai hw au aH aL aq bd bh hH hY;clear ai;refine Wt 0 [] [] aJ rfl (aX rfl rfl ((fun _ _=>au.cell))) ?_;refine SF.cq 1 [] aJ rfl (by kernel_rfl) (by kernel_rfl) (by kernel_rfl) (aX rfl rfl ((fun _ _=>bd.cell))) (fun w2 hS=>aX rfl rfl ((fun _ _=>hS.cell))) rfl ?_;refine SF.turn rfl (by kernel_rfl) rfl ?_;refine SW.ag aH rfl rfl rfl rfl (aY r) fun w8 cW hg => ?_
   have hG:=aH.gr hg;have hw:=hw.own eu hg;(obtain ⟨aL,bd,bh,hH,hY⟩:=fI hG aL bd bh hH hY);have hS:=bd;refine SW.nil (ae.sg hS ?_);refine SG.last rfl (by kernel_rfl) (by kernel_rfl) ?_;refine SW.ag aL rfl rfl rfl rfl (fh x) fun w9 eJ hg => ?_
   have hG:=aL.gr hg;have hw:=hw.own jD hg;(obtain ⟨cW,bh,hH,hY⟩:=dG hG cW bh hH hY);repeat' (first|refine Wy ?_|fail);exact ae.na rfl rfl rfl cW eJ rfl rfl ⟨_,rfl,hw,_,hA,r,x,rfl,bh,hY⟩
set_option maxHeartbeats 8000000 in
theorem Kz (a:cJ) (hk:a.Kind=13∨a.Kind=14) (r:db) (s:ah) (lo:Nat) (w:World) (hO:iT w lo r s) (dz:lo<=w.heap.size) (hI:dI s) (hD:HE s a) :
 bI prog 26 [.agg (aP r).toArray,.agg (eB a).toArray] w fun v w' => ∃ u,cx s a u∧OY lo u v w':=by
 have hf:=hI.cV;have hs:=hf.small;have hwm:=hI.may.words;have wl:=hO.words.len;have Y1:=hO.words.sl.base;obtain ⟨k,cpu,n,m,At,fl,nm⟩:=a;simp only at hk;have hW:=hD.2.1 hk;have hM:=hD.2.2;simp only at hW hM
 have cQ : 0<=At∧At<4096:=by
  generalize e:true=b at hW
  cases hW with
  | out=>cases e
  | pi h=>omega
  | bC h=>omega
 obtain ⟨an,rfl⟩:=ada cQ.1;have MK:an<r.Words.n:=by omega
 have ML:an<s.Words.length:=by omega
 have Pn:=hO.words.sl.one MK (congrArg bw (rfl:s.Words[an]=s.Words[an]));have e1:s.Words.getD ((an:Nat) : Int).toNat 0=s.Words[an]:=by simp [List.getD,ML]
 refine aE func26 rfl ntmps26 rfl ?_;refine CW.seq (CW.region (SW.box rfl rfl fun b2 w1 hw fk au => ?_));have l2:=au.lt;refine SW.box rfl rfl fun b3 w2 bt cg ap => ?_
 have fW:=hw.up cg
 (obtain ⟨hw,au⟩:=cX bt hw au);clear bt;have l3:=ap.lt;refine SW.alloc rfl fun b4 w2 bt fJ aH => ?_
 have eu:=hw.up fJ
 (obtain ⟨hw,au,ap⟩:=cj bt hw au ap);clear bt;have l4:=aH.lt;refine SW.alloc rfl fun b5 w2 bt gm aL => ?_
 have jD:=hw.up gm
 (obtain ⟨hw,au,ap,aH⟩:=dG bt hw au ap aH);clear bt;have l5:=aL.lt;repeat' (first|refine Wy ?_|refine Wm ((fun _ _=>au.cell)) ?_)
 refine SW.alloc rfl fun b6 w1 ai dt aq => ?_
 skip;refine SW.ag aq rfl rfl rfl rfl (aY r) fun w2 bP hg => ?_
 have ar:=ai.own dt hg;have cG:=hw.up dt
 obtain ⟨hw,au,ap,aH,aL⟩:=fI ar hw au ap aH aL;have aq:=bP;clear bP ai hg ar;have l6:=aq.lt;repeat' (first|refine Wy ?_|fail);refine SW.alloc rfl fun b7 w1 ai iB bd => ?_
 skip;refine SW.ag bd rfl rfl rfl rfl (fh ⟨0,0,.nil⟩) fun w2 bq hg => ?_
 have ar:=ai.own iB hg;have fX:=hw.up iB
 obtain ⟨hw,au,ap,aH,aL,aq⟩:=iS ar hw au ap aH aL aq;have bd:=bq;clear bq ai hg ar;have xr:b2≠b6:=by omega
 have xt:b4≠b6:=by omega
 have Nl:b2≠b4:=by omega
 have rf:b5≠b7:=by omega
 clear l2 l3 l4 l5 l6;rcases hk with rfl|rfl
 focus
  have hA:=cx.word (s:=s) (a:=⟨13,cpu,n,m,an,fl,nm⟩) (.inl rfl) (lS.write hW (by simp) (hM rfl));repeat' (first|refine Wy ?_|refine Wm ((fun _ _=>au.cell)) ?_|refine Wl (ap.cell (i:=0) (v := .int .i64 13) rfl) ?_)
  have oy:=hw.size;refine Wk (mi r s _ (hO.rd.ext hw) hs) fun v w7 je hv => ?_
  obtain ⟨q,cs,rfl,hX,hJ⟩:=hv;(obtain ⟨hw,au,ap,aH,aL,aq,bd⟩:=ur je hw au ap aH aL aq bd);clear je;have bh:=hO.ext hw;skip;refine SW.ag aq rfl rfl rfl rfl (aY q) fun rq bP hg => ?_
  have hG:=aq.gr hg;have au:=au.grown hg (by simpa using xr);have aH:=aH.grown hg (by simpa using xt);have hw:=hw.own cG hg;(obtain ⟨aL,bd,bh,ap,hX,hJ⟩:=iS hG aL bd bh ap hX hJ);have aq:=bP;clear bP hG hg;have UT:=hX.words.len;have Yw:=hX.words.sl.base;repeat' (first|refine Wy ?_|refine Wl (aq.cell (i:=0) (v := .slice q.Words.A q.Words.n q.Words.c) rfl) ?_|refine Wl (ap.cell (i:=4) (v := .int .i64 (an:Int)) rfl) ?_|refine Wl (ap.cell (i:=3) (v := .int .i64 m) rfl) ?_)
  refine SW.qp an hX.words rfl rfl (by omega) fun jb MF hg => ?_
  have hG:=hX.words.gr hg;have Y7:=hX.ER hJ MF hg;have hw:=aF hw hg oy hX.words.ba;(obtain ⟨au,aH,aL,aq,bd⟩:=fI hG au aH aL aq bd);clear bh;have bh:=hO.ext hw;have hH:=Y7.xH.low (ac2 dz oy);clear hX hJ Y7 MF hg hG;repeat' (first|refine Wy ?_|fail);have hP:∃ q t x y,sG _ lo s _ b6 b7 q t x y:=⟨q,_,⟨0,0,.nil⟩,⟨0,0,[]⟩,aq,bd,hH,kj.plain _ _ _ _,hA⟩
  clear hA hH aq bd
 rotate_left
 focus
  have hA:=cx.word (s:=s) (a:=⟨14,cpu,n,m,an,fl,nm⟩) (.inr rfl) (lS.read hW rfl);simp only [Int.ofNat_eq_natCast] at hA;rw [e1] at hA;repeat' (first|refine Wy ?_|refine Wl (ap.cell (i:=0) (v := .int .i64 14) rfl) ?_|refine Wl (au.cell (i:=0) (v := .slice r.Words.A r.Words.n r.Words.c) rfl) ?_|refine Wl (ap.cell (i:=4) (v := .int .i64 (an:Int)) rfl) ?_|refine Wn hw Pn ?_)
  have bh:=hO.ext hw;refine Wb (i:=1) bd fun jb bq hg => ?_
  have hG:=bd.gr hg;have aL:=aL.grown hg (by simpa using rf);have hw:=hw.own fX hg;(obtain ⟨au,aH,aq,bh⟩:=dG hG au aH aq bh);have bd:aS _ b7 55 (cb ⟨0,s.Words[an],.nil⟩):=bq;clear bq hG hg;repeat' (first|refine Wy ?_|fail);have hP:∃ q t x y,sG _ lo s _ b6 b7 q t x y:=⟨r,s,⟨0,s.Words[an],.nil⟩,⟨0,s.Words[an],[]⟩,aq,bd,bh,kj.plain _ _ _ _,hA⟩
  clear hA aq bd
 rotate_left
 all_goals
  obtain ⟨q,t,x,y,aq,bd,hH,hY,hA⟩:=hP;by_cases he:y.Code=0
  ·rw [mW,if_pos he] at hA;rw [<- hY.code] at he;repeat' (first|refine Wy ?_|refine Wl (bd.cell (i:=0) (v := .int .i64 x.Code) rfl) ?_)
   refine CW.gl 2 3 (fun w2=>aS w2 b7 55 (cb x)) mixed (by kernel_rfl) fun w1 ai aJ => ?_
   obtain ⟨hw,au,aH,aL,aq,bd,bh,hH,hY⟩:=Lj ai hw au aH aL aq bd bh hH hY;clear ai;refine Wt 0 [] [] aJ rfl (aX rfl rfl ((fun _ _=>aq.cell))) ?_;refine SF.cq 1 [] aJ rfl (by kernel_rfl) (by kernel_rfl) (by kernel_rfl) (aX rfl rfl ((fun _ _=>bd.cell))) (fun w2 hS=>aX rfl rfl ((fun _ _=>hS.cell))) rfl ?_;refine SF.turn rfl (by kernel_rfl) rfl ?_;refine SW.ag aH rfl rfl rfl rfl (aY q) fun w8 cW hg => ?_
   have hG:=aH.gr hg;have hw:=hw.own eu hg;(obtain ⟨aL,bd,bh,hH,hY⟩:=fI hG aL bd bh hH hY);have hS:=bd;refine SW.nil (ae.sg hS ?_);refine SG.last rfl (by kernel_rfl) (by kernel_rfl) ?_;refine SW.ag aL rfl rfl rfl rfl (fh x) fun w9 eJ hg => ?_
   have hG:=aL.gr hg;have hw:=hw.own jD hg;(obtain ⟨cW,bh,hH,hY⟩:=dG hG cW bh hH hY);repeat' (first|refine Wy ?_|fail);exact ae.na rfl rfl rfl cW eJ rfl rfl ⟨_,rfl,hw,_,hA,q,x,rfl,hH,hY⟩
  ·rw [mW,if_neg he] at hA;rw [<- hY.code] at he;repeat' (first|refine Wy ?_|refine Wl (bd.cell (i:=0) (v := .int .i64 x.Code) rfl) ?_)
   refine CW.gl 2 3 (fun w2=>aS w2 b7 55 (cb x)) mixed (by kernel_rfl) fun w1 ai aJ => ?_
   obtain ⟨hw,au,aH,aL,aq,bd,bh,hH,hY⟩:=Lj ai hw au aH aL aq bd bh hH hY;clear ai;refine Wt 0 [] [] aJ rfl (aX rfl rfl ((fun _ _=>au.cell))) ?_;refine SF.cq 1 [] aJ rfl (by kernel_rfl) (by kernel_rfl) (by kernel_rfl) (aX rfl rfl ((fun _ _=>bd.cell))) (fun w2 hS=>aX rfl rfl ((fun _ _=>hS.cell))) rfl ?_;refine SF.turn rfl (by kernel_rfl) rfl ?_;refine SW.ag aH rfl rfl rfl rfl (aY r) fun w8 cW hg => ?_
   have hG:=aH.gr hg;have hw:=hw.own eu hg;(obtain ⟨aL,bd,bh,hH,hY⟩:=fI hG aL bd bh hH hY);have hS:=bd;refine SW.nil (ae.sg hS ?_);refine SG.last rfl (by kernel_rfl) (by kernel_rfl) ?_;refine SW.ag aL rfl rfl rfl rfl (fh x) fun w9 eJ hg => ?_
   have hG:=aL.gr hg;have hw:=hw.own jD hg;(obtain ⟨cW,bh,hH,hY⟩:=dG hG cW bh hH hY);repeat' (first|refine Wy ?_|fail);exact ae.na rfl rfl rfl cW eJ rfl rfl ⟨_,rfl,hw,_,hA,r,x,rfl,bh,hY⟩
variable {w' w0 w1 w2:World}
structure kf (w0 w:World) : Prop where
 hx:Ext w0 w
theorem kf.ext (h:kf w0 w) (hx:Ext w w') : kf w0 w':=⟨h.hx.trans hx⟩
inductive kB:World->World->Prop
 | refl (w:World) : kB w w
 | ext {w w1 w2:World} (h:kB w w1) (hx:Ext w1 w2) : kB w w2
 | tP {w w1 w2:World} (h:kB w w1) (hG:rF w1 w2 50) : kB w w2
 | ot {w w1 w2:World} (h:kB w w1) (hG:rF w1 w2 48) : kB w w2
theorem kB.since (h:kB w w1) (k:kf w1 w2) : kB w w2 := .ext h k.hx
theorem kB.move {P:World->Prop} (hE:∀ w w',P w->Ext w w'->P w') (hT:∀ w w',P w->rF w w' 50->P w') (hS:∀ w w',P w->rF w w' 48->P w') (h:kB w w') : P w->P w':=by
 induction h with
 | refl=>exact fun h=>h
 | ext _ hx ih=>exact fun h=>hE _ _ (ih h) hx
 | tP _ hG ih=>exact fun h=>hT _ _ (ih h) hG
 | ot _ hG ih=>exact fun h=>hS _ _ (ih h) hG
def nB (wb w:World) (lo b:Nat) (r:db) (p q:ga) (l:List bT) (v:Value) (w':World) : Prop:=v = .tuple #[] ∧ ∃ z:ga,Own w' lo 50 6 kU z.A z.n z.c l∧aS w' b 48 (oo r p q z)∧Ext wb w'∧kB w w'
set_option maxHeartbeats 8000000 in
theorem KA (wb:World) (lo b:Nat) (r:db) (p q z:ga) (a:cJ) (x:p9) (i:Int) (l:List bT) (w:World) (hk:a.Kind=8) (hw:Ext wb w) (hb:aS w b 48 (oo r p q z)) (qV:wb.heap.size<=b) (hO:Own w lo 50 6 kU z.A z.n z.c l) (dz:wb.heap.size<=lo) (sU:lo<=w.heap.size) (hn:z.n<=100000) :
 iI prog 27 [.pointer (some ⟨b,0,none⟩),.agg (eB a).toArray,.agg (cb x).toArray,.int .i64 i] w (nB wb w lo b r p q (l++[⟨x.N,a.N,8,⟨#[]⟩,0,false⟩])):=by
 obtain ⟨k,cpu,n,m,At,fl,nm⟩:=a;simp only at hk ⊢;refine dh func27 rfl ntmps27 rfl ?_;have hs:kf w w:=⟨Ext.refl w⟩
 have hA:=hO.sl.base;have mv:=hO.len;refine CW.seq (CW.region (SW.box rfl rfl fun b5 w2 bt gm aL => ?_));(obtain ⟨hw,hb,hO,hs⟩:=dG bt hw hb hO hs);clear bt;refine SW.box rfl rfl fun b6 w2 bt dt aq => ?_
 (obtain ⟨hw,hb,aL,hO,hs⟩:=fI bt hw hb aL hO hs);clear bt;subst hk;repeat' (first|refine Wy ?_|refine Wl (aL.cell (i:=0) (v := .int .i64 8) rfl) ?_)
 refine CW.gl 13 16 (fun _=>True) mixed (by kernel_rfl) fun w1 ai aJ => ?_
 obtain ⟨hw,hb,aL,aq,hO,hs⟩:=iS ai hw hb aL aq hO hs;clear ai;refine SF.cq 0 [] aJ rfl (by kernel_rfl) (by kernel_rfl) (by kernel_rfl) (bi rfl) (fun w2 hS=>bi rfl) rfl ?_;refine Wp 1 [4,3,2] [] aJ rfl rfl ?_;refine Wt 2 [4,3] [] aJ rfl (aG rfl) ?_;refine Wt 3 [4] [] aJ rfl (az rfl) ?_;refine Wt 4 [] [] aJ rfl (aT rfl (hb.cell (i:=9) (v := .slice z.A z.n z.c) rfl)) ?_;refine Wt 5 [12,11,6] [] aJ rfl (az rfl) ?_;refine Wt 6 [12,11] [] aJ rfl (aT rfl (aq.cell (i:=1) (v := .int .i64 x.N) rfl)) ?_;refine Wt 7 [12,11,8] [] aJ rfl (az rfl) ?_;refine Wt 8 [12,11] [] aJ rfl (aT rfl (aL.cell (i:=2) (v := .int .i64 n) rfl)) ?_;refine Wt 9 [12,11,10] [] aJ rfl (az rfl) ?_;refine Wt 10 [12,11] [] aJ rfl (aT rfl (aL.cell (i:=0) (v := .int .i64 8) rfl)) ?_;refine Wt 11 [12] [] aJ rfl (iH rfl rfl) ?_;refine SF.one 12 rfl (by kernel_rfl) rfl ?_;refine SW.dR rfl rfl rfl rfl rfl fun O8 w9 ar sD lO => ?_
 (obtain ⟨hw,hb,aL,aq,hO,hs⟩:=iS ar hw hb aL aq hO hs);refine SW.nil (ae.sf ar ?_);refine SF.turn rfl (by kernel_rfl) rfl ?_;refine SW.append hO (aS.vF (enc:=kU) (x:=⟨x.N,n,8,⟨#[]⟩,0,false⟩) lO) (ac2 sU hs.hx.size) rfl rfl rfl (by omega) (by omega) fun Y f qU lm hg => ?_
 have hG:=hO.gr hg;have hw:=aF hw hg dz hO.ba;(have hb:=hb.aN hG rfl);have hS:=True.intro;refine SW.nil (ae.sg hS ?_);refine SG.one 14 rfl (by kernel_rfl) rfl ?_;repeat ((show SW _ _ _ _ (⟨_,Op.nilCheck _,_,_,_,none⟩::_) _ _;refine SW.st (aG rfl) rfl ?_))
 refine SW.nil (ae.sg hS ?_);refine SG.one 15 rfl (by kernel_rfl) rfl ?_;repeat ((show SW _ _ _ _ (⟨_,Op.fieldAddr _ _ _,_,_,_,none⟩::_) _ _;refine SW.st (az rfl) rfl ?_))
 refine SW.nil (ae.sg hS ?_);refine SG.last rfl (by kernel_rfl) (by kernel_rfl) ?_;refine Wb (i:=9) hb fun jb iq dA => ?_
 have dY:=hb.gr dA;have hw:=hw.own qV dA;have bh:=lm.aN dY rfl;repeat' (first|refine Wy ?_|fail);exact ae.pI rfl ⟨_,rfl,rfl,⟨Y,z.n+1,f⟩,bh,iq,hw,.ot (.tP (.ext (.refl w) hs.hx) hG) dY⟩
set_option maxHeartbeats 8000000 in
theorem KB (wb:World) (lo b:Nat) (r:db) (p q z:ga) (a:cJ) (x:p9) (i:Int) (l:List bT) (w:World) (hk:a.Kind=1) (hN:(0<=x.N∧x.N<=100000)∧0<=a.N∧a.N<=4) (hw:Ext wb w) (hb:aS w b 48 (oo r p q z)) (qV:wb.heap.size<=b) (hO:Own w lo 50 6 kU z.A z.n z.c l) (dz:wb.heap.size<=lo) (sU:lo<=w.heap.size) (hn:z.n<=100000) :
 iI prog 27 [.pointer (some ⟨b,0,none⟩),.agg (eB a).toArray,.agg (cb x).toArray,.int .i64 i] w (nB wb w lo b r p q (l++[⟨x.N*16,16*pw a.N,1,⟨#[]⟩,0,false⟩])):=by
 obtain ⟨k,cpu,n,m,At,fl,nm⟩:=a;simp only at hk hN ⊢;refine dh func27 rfl ntmps27 rfl ?_;have hs:kf w w:=⟨Ext.refl w⟩
 have hA:=hO.sl.base;have mv:=hO.len;refine CW.seq (CW.region (SW.box rfl rfl fun b5 w2 bt gm aL => ?_));(obtain ⟨hw,hb,hO,hs⟩:=dG bt hw hb hO hs);clear bt;refine SW.box rfl rfl fun b6 w2 bt dt aq => ?_
 (obtain ⟨hw,hb,aL,hO,hs⟩:=fI bt hw hb aL hO hs);clear bt;subst hk;repeat' (first|refine Wy ?_|refine Wl (aL.cell (i:=0) (v := .int .i64 1) rfl) ?_)
 refine CW.gl 15 18 (fun _=>True) mixed (by kernel_rfl) fun w1 ai aJ => ?_
 obtain ⟨hw,hb,aL,aq,hO,hs⟩:=iS ai hw hb aL aq hO hs;clear ai;refine SF.cq 0 [] aJ rfl (by kernel_rfl) (by kernel_rfl) (by kernel_rfl) (bi rfl) (fun w2 hS=>bi rfl) rfl ?_;refine Wp 1 [4,3,2] [] aJ rfl rfl ?_;refine Wt 2 [4,3] [] aJ rfl (aG rfl) ?_;refine Wt 3 [4] [] aJ rfl (az rfl) ?_;refine Wt 4 [] [] aJ rfl (aT rfl (hb.cell (i:=9) (v := .slice z.A z.n z.c) rfl)) ?_;refine Wt 5 [14,13,7,6] [] aJ rfl (az rfl) ?_;refine Wt 6 [14,13,7] [] aJ rfl (aT rfl (aq.cell (i:=1) (v := .int .i64 x.N) rfl)) ?_;refine Wt 7 [14,13] [] aJ rfl (oX rfl rfl (by omega) (by omega)) ?_;refine Wt 8 [14,13,10,9] [] aJ rfl (az rfl) ?_;refine Wt 9 [14,13,10] [] aJ rfl (aT rfl (aL.cell (i:=2) (v := .int .i64 n) rfl)) ?_;refine Wt 10 [14,13] [] aJ rfl (fA (r:=16*pw n) rfl rfl (by omega) (by omega) (by simp [pw]) (by have:=cy hN.2.1 hN.2.2;omega) (by have:=cy hN.2.1 hN.2.2;omega)) ?_;refine Wt 11 [14,13,12] [] aJ rfl (az rfl) ?_;refine Wt 12 [14,13] [] aJ rfl (aT rfl (aL.cell (i:=0) (v := .int .i64 1) rfl)) ?_;refine Wt 13 [14] [] aJ rfl (iH rfl rfl) ?_;refine SF.one 14 rfl (by kernel_rfl) rfl ?_;refine SW.dR rfl rfl rfl rfl rfl fun O8 w9 ar sD lO => ?_
 (obtain ⟨hw,hb,aL,aq,hO,hs⟩:=iS ar hw hb aL aq hO hs);refine SW.nil (ae.sf ar ?_);refine SF.turn rfl (by kernel_rfl) rfl ?_;refine SW.append hO (aS.vF (enc:=kU) (x:=⟨x.N*16,16*pw n,1,⟨#[]⟩,0,false⟩) lO) (ac2 sU hs.hx.size) rfl rfl rfl (by omega) (by omega) fun Y f qU lm hg => ?_
 have hG:=hO.gr hg;have hw:=aF hw hg dz hO.ba;(have hb:=hb.aN hG rfl);have hS:=True.intro;refine SW.nil (ae.sg hS ?_);refine SG.one 16 rfl (by kernel_rfl) rfl ?_;repeat ((show SW _ _ _ _ (⟨_,Op.nilCheck _,_,_,_,none⟩::_) _ _;refine SW.st (aG rfl) rfl ?_))
 refine SW.nil (ae.sg hS ?_);refine SG.one 17 rfl (by kernel_rfl) rfl ?_;repeat ((show SW _ _ _ _ (⟨_,Op.fieldAddr _ _ _,_,_,_,none⟩::_) _ _;refine SW.st (az rfl) rfl ?_))
 refine SW.nil (ae.sg hS ?_);refine SG.last rfl (by kernel_rfl) (by kernel_rfl) ?_;refine Wb (i:=9) hb fun jb iq dA => ?_
 have dY:=hb.gr dA;have hw:=hw.own qV dA;have bh:=lm.aN dY rfl;repeat' (first|refine Wy ?_|fail);exact ae.pI rfl ⟨_,rfl,rfl,⟨Y,z.n+1,f⟩,bh,iq,hw,.ot (.tP (.ext (.refl w) hs.hx) hG) dY⟩
set_option maxHeartbeats 8000000 in
theorem KC (wb:World) (lo b:Nat) (r:db) (p q z:ga) (a:cJ) (x:p9) (i:Int) (l:List bT) (w:World) (hk:a.Kind=9∨a.Kind=2∨a.Kind=6) (j:Nat) (hi:i=(j:Int)) (hj:j<z.n) (hw:Ext wb w) (hb:aS w b 48 (oo r p q z)) (qV:wb.heap.size<=b) (hO:Own w lo 50 6 kU z.A z.n z.c l) (dz:wb.heap.size<=lo) (sU:lo<=w.heap.size) (hn:z.n<=100000) :
 iI prog 27 [.pointer (some ⟨b,0,none⟩),.agg (eB a).toArray,.agg (cb x).toArray,.int .i64 i] w (nB wb w lo b r p q (l.eraseIdx j)):=by
 obtain ⟨k,cpu,n,m,At,fl,nm⟩:=a;simp only at hk ⊢;refine dh func27 rfl ntmps27 rfl ?_;have hs:kf w w:=⟨Ext.refl w⟩
 have hA:=hO.sl.base;have mv:=hO.len;refine CW.seq (CW.region (SW.box rfl rfl fun b5 w2 bt gm aL => ?_));(obtain ⟨hw,hb,hO,hs⟩:=dG bt hw hb hO hs);clear bt;refine SW.box rfl rfl fun b6 w2 bt dt aq => ?_
 (obtain ⟨hw,hb,aL,hO,hs⟩:=fI bt hw hb aL hO hs);clear bt;subst hi;rcases hk with rfl|rfl|rfl
 all_goals repeat' (first|refine Wy ?_|refine Wl (hb.cell (i:=9) (v := .slice z.A z.n z.c) rfl) ?_|refine Wl (aL.cell (i:=0) (v := .int .i64 9) rfl) ?_|refine Wl (aL.cell (i:=0) (v := .int .i64 2) rfl) ?_|refine Wl (aL.cell (i:=0) (v := .int .i64 6) rfl) ?_)
 all_goals
  refine SW.dT rfl rfl (xN z.A z.n z.c lo l _ hO j hj (by omega) (ac2 sU hs.hx.size)) fun v w6 hv => ?_
  obtain ⟨rfl,lm,hg⟩:=hv;have hG:=hO.gr hg;have hw:=aF hw hg dz hO.ba;(have hb:=hb.aN hG rfl);repeat' (first|refine Wy ?_|fail);refine Wb (i:=9) hb fun jb iq dA => ?_
  have dY:=hb.gr dA;have hw:=hw.own qV dA;have bh:=lm.aN dY rfl;repeat' (first|refine Wy ?_|fail);exact ae.pI rfl ⟨_,rfl,rfl,⟨z.A,z.n-1,z.c⟩,bh,iq,hw,.ot (.tP (.ext (.refl w) hs.hx) hG) dY⟩
set_option maxHeartbeats 8000000 in
theorem KD (wb:World) (lo b:Nat) (r:db) (p q z:ga) (a:cJ) (x:p9) (i:Int) (l:List bT) (w:World) (hk:a.Kind=3∨a.Kind=7∨a.Kind=12∨a.Kind=14) (hw:Ext wb w) (hb:aS w b 48 (oo r p q z)) (qV:wb.heap.size<=b) (hO:Own w lo 50 6 kU z.A z.n z.c l) (dz:wb.heap.size<=lo) (sU:lo<=w.heap.size) (hn:z.n<=100000) :
 iI prog 27 [.pointer (some ⟨b,0,none⟩),.agg (eB a).toArray,.agg (cb x).toArray,.int .i64 i] w (nB wb w lo b r p q (l)):=by
 obtain ⟨k,cpu,n,m,At,fl,nm⟩:=a;simp only at hk ⊢;refine dh func27 rfl ntmps27 rfl ?_;have hs:kf w w:=⟨Ext.refl w⟩
 have hA:=hO.sl.base;have mv:=hO.len;refine CW.seq (CW.region (SW.box rfl rfl fun b5 w2 bt gm aL => ?_));(obtain ⟨hw,hb,hO,hs⟩:=dG bt hw hb hO hs);clear bt;refine SW.box rfl rfl fun b6 w2 bt dt aq => ?_
 (obtain ⟨hw,hb,aL,hO,hs⟩:=fI bt hw hb aL hO hs);clear bt;rcases hk with rfl|rfl|rfl|rfl
 all_goals repeat' (first|refine Wy ?_|refine Wl (aL.cell (i:=0) (v := .int .i64 3) rfl) ?_|refine Wl (aL.cell (i:=0) (v := .int .i64 7) rfl) ?_|refine Wl (aL.cell (i:=0) (v := .int .i64 12) rfl) ?_|refine Wl (aL.cell (i:=0) (v := .int .i64 14) rfl) ?_)
 all_goals exact ae.pI rfl ⟨_,rfl,rfl,z,hO,hb,hw,.ext (.refl w) hs.hx⟩
variable {o' o'':Oper}
section
variable {P:Program} {n:Nat} {ops:Array Oper} {Q:Exit->Act->World->Prop} {fin fr f:Nat} {S2:World->Prop} {listed:Array Bool} {L:Env} {w:World}
theorem SG.two (i k:Nat) {o:Oper} (hi:ops[i]?=some o) (hk:ops[k]?=some o') (hr:Region.ready .any ops listed=[i,k]) (hw:(!Nat.beq i fr && !Nat.beq i fin)=true) (nC:(!Nat.beq k fr && !Nat.beq k fin)=true)
 (h:SW P n ops (.gL (NV P n ops Q fin fr S2 f (listed.setIfInBounds i true))) [o] L w) (h':SW P n ops (.gL (NV P n ops Q fin fr S2 f (listed.setIfInBounds k true))) [o'] L w) : SG P n ops Q fin fr S2 (f+1) listed L w :=
 ⟨fun a ha inv=>⟨by rw [hr];simp,fun j hj=>by
  have o6:=hj;rw [hr] at o6;simp only [List.mem_cons,List.not_mem_nil,or_false] at o6;rcases o6 with rfl|rfl
  ·obtain ⟨n1,n2⟩:=KP hw;have cQ:j<ops.size:=(adh.1 hi).1
   exact ⟨cQ,rj (Q1:=NV P n ops Q fin fr S2 f (listed.setIfInBounds j true)) hi (fun e a w ne h=>by cases e<;>first|exact h|exact absurd rfl ne) (fun h=>h) (fun a' w' hh=>⟨fun e=>absurd e n1,fun _ e=>absurd e n2,fun _ _=>⟨hh.1,hh.2 (inv.set hj cQ)⟩⟩) (h.out a ha)⟩
  ·obtain ⟨n1,n2⟩:=KP nC;have cQ:j<ops.size:=(adh.1 hk).1
   exact ⟨cQ,rj (Q1:=NV P n ops Q fin fr S2 f (listed.setIfInBounds j true)) hk (fun e a w ne h=>by cases e<;>first|exact h|exact absurd rfl ne) (fun h=>h) (fun a' w' hh=>⟨fun e=>absurd e n1,fun _ e=>absurd e n2,fun _ _=>⟨hh.1,hh.2 (inv.set hj cQ)⟩⟩) (h'.out a ha)⟩⟩⟩
theorem SF.three (i k m:Nat) {o:Oper} (hi:ops[i]?=some o) (hk:ops[k]?=some o') (hm:ops[m]?=some o'') (hr:Region.ready .any ops listed=[i,k,m]) (hw:(!Nat.beq i fr && !Nat.beq i fin)=true) (nC:(!Nat.beq k fr && !Nat.beq k fin)=true) (Xy:(!Nat.beq m fr && !Nat.beq m fin)=true)
 (h:SW P n ops (.gL (I1 P n ops Q fin fr S2 f (listed.setIfInBounds i true) w)) [o] L w) (h':SW P n ops (.gL (I1 P n ops Q fin fr S2 f (listed.setIfInBounds k true) w)) [o'] L w) (F3:SW P n ops (.gL (I1 P n ops Q fin fr S2 f (listed.setIfInBounds m true) w)) [o''] L w) : SF P n ops Q fin fr S2 (f+1) listed L w :=
 ⟨fun a ha inv=>⟨by rw [hr];simp,fun j hj=>by
  have o6:=hj;rw [hr] at o6;simp only [List.mem_cons,List.not_mem_nil,or_false] at o6;rcases o6 with rfl|rfl|rfl
  ·obtain ⟨n1,n2⟩:=KP hw;have cQ:j<ops.size:=(adh.1 hi).1
   exact ⟨cQ,rj (Q1:=I1 P n ops Q fin fr S2 f (listed.setIfInBounds j true) w) hi (fun e a w ne h=>by cases e<;>first|exact h|exact absurd rfl ne) (fun h=>h) (fun a' w' hh=>⟨fun e=>absurd e n1,fun _ e=>absurd e n2,fun _ _=>⟨hh.1,lT f (fun NA F3=>Ext.trans hh.1 F3) _ _ _ (hh.2 (inv.set hj cQ))⟩⟩) (h.out a ha)⟩
  ·obtain ⟨n1,n2⟩:=KP nC;have cQ:j<ops.size:=(adh.1 hk).1
   exact ⟨cQ,rj (Q1:=I1 P n ops Q fin fr S2 f (listed.setIfInBounds j true) w) hk (fun e a w ne h=>by cases e<;>first|exact h|exact absurd rfl ne) (fun h=>h) (fun a' w' hh=>⟨fun e=>absurd e n1,fun _ e=>absurd e n2,fun _ _=>⟨hh.1,lT f (fun NA F3=>Ext.trans hh.1 F3) _ _ _ (hh.2 (inv.set hj cQ))⟩⟩) (h'.out a ha)⟩
  ·obtain ⟨n1,n2⟩:=KP Xy;have cQ:j<ops.size:=(adh.1 hm).1
   exact ⟨cQ,rj (Q1:=I1 P n ops Q fin fr S2 f (listed.setIfInBounds j true) w) hm (fun e a w ne h=>by cases e<;>first|exact h|exact absurd rfl ne) (fun h=>h) (fun a' w' hh=>⟨fun e=>absurd e n1,fun _ e=>absurd e n2,fun _ _=>⟨hh.1,lT f (fun NA F3=>Ext.trans hh.1 F3) _ _ _ (hh.2 (inv.set hj cQ))⟩⟩) (F3.out a ha)⟩⟩⟩
end
open Go.RowKit Go.Maps
variable {D:DataW Unit} {kl:Lit} {d:Nat} {y:Operand} {g:Option (Nat×Bool)} {e t:TypeId}
structure HF (w:World) (P:Program) (k e:TypeId) (b n:Nat) (D:DataW Unit) : Prop where
 own:w.ownsMap (H:=Unit) P k (plainElem P e) b n D
theorem HF.ext {k:TypeId} {n:Nat} (h:HF w P k e b n D) (hx:Ext w w') : HF w' P k e b n D:=⟨h.own.kept (row:=none) ⟨hx.os,hx.tape,hx.output,hx.size,fun i hi _=>hx.block i hi⟩ (by simp)⟩
section
variable {P:Program} {n:Nat} {ops:Array Oper} {Q:Exit->Act->World->Prop} {rest:List Oper} {L:Env} {w:World} {T:TypeId} {pos:String} {af:Array Edge}
theorem SW.Nw (k e:TypeId) (hn:Nat.blt d n=true) (h:∀ b w',Ext w w'->w.heap.size<=b->HF w' P k e b 0 (.map [])->SW P n ops (.gL Q) rest ((d,.map (some b))::L) w') :
 SW P n ops (.gL Q) (⟨some d,.makeMap t none,T,pos,af,none⟩::rest) L w :=
 ⟨fun a ha=>by
  simp only [swp,wpList,Region.wanted,if_true];refine .inl ?_;unfold Oper.wp
  have:(execOp a.eval ⟨some d,.makeMap t none,T,pos,af,none⟩).run P w = .ok (.value (.map (some w.heap.size))) (w.alloc (.map #[] 0)):=by
   simp [execOp,run_makeMap]
  rw [this,Oper.upon_value];exact (h _ _ (Ext.alloc w _) (ac3 _) ⟨World.ownsMap_made w P k _⟩).out _ (ha.put hn _)⟩
theorem SW.yw {k:TypeId} {i:Int} {x z:Operand} {key:Value} (hB:HF w P k e b m D) (K:Keyed P k) (ht:P.underlying t=some (.map k e)) (he:P.underlying e=some (.int .i64)) (kn:m<maxLen) (hi:(Lit.int .i64 i).wf=true)
 (hm:cK L z=some (.map (some b))) (hx:cK L x=some key) (hy:cK L y=some (.int .i64 i)) (qJ:Go.keyOf P k key=some kl)
 (h:∀ w',HF w' P k e b (m+1) (D.put kl (.lit (.int .i64 i)))->w.grownBy w' (some b)->SW P n ops (.gL Q) rest L w') : SW P n ops (.gL Q) (⟨none,.insert t z x y,T,pos,af,none⟩::rest) L w :=
 ⟨fun a ha=>by
  obtain ⟨w',sb,r1,r2⟩:=hB.own.update K ht kn qJ (plainElem_int he hi);simp only [swp,wpList,Region.wanted,if_true];refine .inl ?_;unfold Oper.wp
  have:(execOp a.eval ⟨none,.insert t z x y,T,pos,af,none⟩).run P w = .ok .skip w':=by
   simp [execOp,ha.eval hm,ha.eval hx,ha.eval hy,sb]
  rw [this,Oper.upon_skip];exact (h w' ⟨r1⟩ r2).out _ ha⟩
theorem AE {d:Option Nat} {k:TypeId} {c:Int} {z x:Operand} {key:Value} (hB:HF w P k e b m D) (K:Keyed P k) (ht:P.underlying t=some (.map k e)) (he:P.underlying e=some (.int .i64)) (hz:∀ w,(zeroValue e).run P w = .ok (.int .i64 0) w)
 (hm:cK L z=some (.map (some b))) (hx:cK L x=some key) (qJ:Go.keyOf P k key=some kl) (hc:D.atKey kl (.lit (.int .i64 0)) = .lit (.int .i64 c)) : St P ⟨d,.lookup t z x false,T,pos,af,g⟩ L w (.int .i64 c) :=
 ⟨fun n a ha w' VL=>by
  have vI:=hB.ext VL;obtain ⟨c',sb,hv,_⟩:=vI.own.lookup_int K ht he (hz w') qJ;rw [hc] at hv;injection hv with hv
  injection hv with _ hv
  subst hv;simp [execOp,ha.eval hm,ha.eval hx,sb]⟩
end
def Su:Lit:=nl pr
def CC:Lit:=nl gf
theorem Nx:Su≠CC:=fun e=>by
 injection (show Lit.string [111,98]=Lit.string [112,97,105,114] from e) with e
 exact absurd e (by decide)
theorem DE (n:ByteArray) (hn:n=pr∨n=gf) : (((DataW.map [] : DataW Unit).put Su (.lit (.int .i64 5))).put CC (.lit (.int .i64 2))).atKey (nl n) (.lit (.int .i64 0)) = .lit (.int .i64 (om n))∧(((DataW.map [] : DataW Unit).put CC (.lit (.int .i64 2))).put Su (.lit (.int .i64 5))).atKey (nl n) (.lit (.int .i64 0)) = .lit (.int .i64 (om n)):=by
 have h1:WideAt.IsKeyLit Su:=trivial
 have h2:WideAt.IsKeyLit CC:=trivial
 rcases hn with rfl|rfl
 ·have e:om pr=5:=by decide +kernel
  rw [e];exact ⟨by rw [show nl pr=Su from rfl,atKey_put_other Nx,atKey_put_same isMap_empty h1],by rw [show nl pr=Su from rfl,atKey_put_same (isMap_empty.put _ _) h1]⟩
 ·have e:om gf=2:=by decide +kernel
  rw [e];exact ⟨by rw [show nl gf=CC from rfl,atKey_put_same (isMap_empty.put _ _) h2],by rw [show nl gf=CC from rfl,atKey_put_other Nx.symm,atKey_put_same isMap_empty h2]⟩
set_option maxHeartbeats 8000000 in
theorem HG (wb:World) (lo b:Nat) (r:db) (p q z:ga) (a:cJ) (x:p9) (i:Int) (l:List bT) (w:World) (hk:a.Kind=11) (j:Nat) (hi:i=(j:Int)) (hj:j<l.length) (hw:Ext wb w) (hb:aS w b 48 (oo r p q z)) (qV:wb.heap.size<=b) (hO:Own w lo 50 6 kU z.A z.n z.c l) (dz:wb.heap.size<=lo) (sU:lo<=w.heap.size) (hn:z.n<=100000) :
 iI prog 27 [.pointer (some ⟨b,0,none⟩),.agg (eB a).toArray,.agg (cb x).toArray,.int .i64 i] w (nB wb w lo b r p q (l.set j ⟨x.N,a.N,l[j].Kind,l[j].Name,l[j].Word,l[j].nb⟩)):=by
 obtain ⟨k,cpu,n,m,At,fl,nm⟩:=a;simp only at hk ⊢;refine dh func27 rfl ntmps27 rfl ?_;have hs:kf w w:=⟨Ext.refl w⟩
 have hA:=hO.sl.base;have mv:=hO.len;refine CW.seq (CW.region (SW.box rfl rfl fun b5 w2 bt gm aL => ?_));(obtain ⟨hw,hb,hO,hs⟩:=dG bt hw hb hO hs);clear bt;refine SW.box rfl rfl fun b6 w2 bt dt aq => ?_
 (obtain ⟨hw,hb,aL,hO,hs⟩:=fI bt hw hb aL hO hs);clear bt;subst hi hk;have Ut:j<z.n:=by omega
 obtain ⟨t,ht⟩ : ∃ t,l[j]=t:=⟨_,rfl⟩;simp only [ht];repeat' (first|refine Wy ?_|refine Wl (aL.cell (i:=0) (v := .int .i64 11) rfl) ?_)
 refine CW.gl 9 9 (fun _=>True) mixed (by kernel_rfl) fun w1 ai aJ => ?_
 obtain ⟨hw,hb,aL,aq,hO,hs⟩:=iS ai hw hb aL aq hO hs;clear ai;refine Wp 0 [] [] aJ rfl rfl ?_;refine Wt 1 [] [] aJ rfl (aG rfl) ?_;refine Wt 2 [] [] aJ rfl (az rfl) ?_;refine Wt 3 [] [] aJ rfl (aT rfl (hb.cell (i:=9) (v := .slice z.A z.n z.c) rfl)) ?_;refine Wp 4 [] [] aJ rfl rfl ?_;refine Wt 5 [] [] aJ rfl (az rfl) ?_;refine Wt 6 [] [] aJ rfl (aT rfl (aq.cell (i:=1) (v := .int .i64 x.N) rfl)) ?_;refine Wt 7 [8] [8] aJ rfl (bZ rfl rfl (by assumption) (by omega)) ?_;refine Wt 8 [] [] aJ rfl (az rfl) ?_;refine SF.last rfl (by kernel_rfl) (by kernel_rfl) ?_;refine SW.gM j 0 ⟨x.N,t.aA,t.Kind,t.Name,t.Word,t.nb⟩ hO rfl rfl rfl Ut (by decide) rfl (by rw [ht];rfl) fun qU lm hg => ?_
 have hG:=hO.gr hg;have hw:=aF hw hg dz hO.ba;(obtain ⟨hb,aL,aq⟩:=cj hG hb aL aq);have hK:=kB.tP (kB.ext (.refl w) hs.hx) hG;have gH:kf qU qU:=⟨Ext.refl _⟩
 have oO:=lm.sl.base;repeat' (first|refine Wy ?_|fail);refine CW.gl 9 9 (fun _=>True) mixed (by kernel_rfl) fun w1 ai aJ => ?_
 obtain ⟨hw,hb,aL,aq,lm,gH⟩:=iS ai hw hb aL aq lm gH;clear ai;refine Wp 0 [] [] aJ rfl rfl ?_;refine Wt 1 [] [] aJ rfl (aG rfl) ?_;refine Wt 2 [] [] aJ rfl (az rfl) ?_;refine Wt 3 [] [] aJ rfl (aT rfl (hb.cell (i:=9) (v := .slice z.A z.n z.c) rfl)) ?_;refine Wp 4 [] [] aJ rfl rfl ?_;refine Wt 5 [] [] aJ rfl (az rfl) ?_;refine Wt 6 [] [] aJ rfl (aT rfl (aL.cell (i:=2) (v := .int .i64 n) rfl)) ?_;refine Wt 7 [8] [8] aJ rfl (bZ rfl rfl (by assumption) (by omega)) ?_;refine Wt 8 [] [] aJ rfl (az rfl) ?_;refine SF.last rfl (by kernel_rfl) (by kernel_rfl) ?_;refine SW.gM j 1 ⟨x.N,n,t.Kind,t.Name,t.Word,t.nb⟩ lm rfl rfl rfl Ut (by decide) rfl (by simp only [List.getElem_set_self];rfl) fun jb bh dA => ?_
 have dY:=lm.gr dA;have hw:=aF hw dA dz lm.ba;(have hb:=hb.aN dY rfl);rw [aeu] at bh;repeat' (first|refine Wy ?_|fail);exact ae.pI rfl ⟨_,rfl,rfl,z,bh,hb,hw,.tP (hK.since gH) dY⟩
set_option maxHeartbeats 8000000 in
theorem HH (wb:World) (lo b:Nat) (r:db) (p q z:ga) (a:cJ) (x:p9) (i:Int) (l:List bT) (w:World) (hk:a.Kind=13) (j:Nat) (hi:i=(j:Int)) (hj:j<l.length) (hw:Ext wb w) (hb:aS w b 48 (oo r p q z)) (qV:wb.heap.size<=b) (hO:Own w lo 50 6 kU z.A z.n z.c l) (dz:wb.heap.size<=lo) (sU:lo<=w.heap.size) (hn:z.n<=100000) :
 iI prog 27 [.pointer (some ⟨b,0,none⟩),.agg (eB a).toArray,.agg (cb x).toArray,.int .i64 i] w (nB wb w lo b r p q (l.set j ⟨l[j].At,l[j].aA,l[j].Kind,l[j].Name,a.M,true⟩)):=by
 obtain ⟨k,cpu,n,m,At,fl,nm⟩:=a;simp only at hk ⊢;refine dh func27 rfl ntmps27 rfl ?_;have hs:kf w w:=⟨Ext.refl w⟩
 have hA:=hO.sl.base;have mv:=hO.len;refine CW.seq (CW.region (SW.box rfl rfl fun b5 w2 bt gm aL => ?_));(obtain ⟨hw,hb,hO,hs⟩:=dG bt hw hb hO hs);clear bt;refine SW.box rfl rfl fun b6 w2 bt dt aq => ?_
 (obtain ⟨hw,hb,aL,hO,hs⟩:=fI bt hw hb aL hO hs);clear bt;subst hi hk;have Ut:j<z.n:=by omega
 obtain ⟨t,ht⟩ : ∃ t,l[j]=t:=⟨_,rfl⟩;simp only [ht];repeat' (first|refine Wy ?_|refine Wl (aL.cell (i:=0) (v := .int .i64 13) rfl) ?_)
 refine CW.gl 9 9 (fun _=>True) mixed (by kernel_rfl) fun w1 ai aJ => ?_
 obtain ⟨hw,hb,aL,aq,hO,hs⟩:=iS ai hw hb aL aq hO hs;clear ai;refine Wp 0 [] [] aJ rfl rfl ?_;refine Wt 1 [] [] aJ rfl (aG rfl) ?_;refine Wt 2 [] [] aJ rfl (az rfl) ?_;refine Wt 3 [] [] aJ rfl (aT rfl (hb.cell (i:=9) (v := .slice z.A z.n z.c) rfl)) ?_;refine Wp 4 [] [] aJ rfl rfl ?_;refine Wt 5 [] [] aJ rfl (az rfl) ?_;refine Wt 6 [] [] aJ rfl (aT rfl (aL.cell (i:=3) (v := .int .i64 m) rfl)) ?_;refine Wt 7 [8] [8] aJ rfl (bZ rfl rfl (by assumption) (by omega)) ?_;refine Wt 8 [] [] aJ rfl (az rfl) ?_;refine SF.last rfl (by kernel_rfl) (by kernel_rfl) ?_;refine SW.gM j 4 ⟨t.At,t.aA,t.Kind,t.Name,m,t.nb⟩ hO rfl rfl rfl Ut (by decide) rfl (by rw [ht];rfl) fun qU lm hg => ?_
 have hG:=hO.gr hg;have hw:=aF hw hg dz hO.ba;(obtain ⟨hb,aL,aq⟩:=cj hG hb aL aq);have hK:=kB.tP (kB.ext (.refl w) hs.hx) hG;have gH:kf qU qU:=⟨Ext.refl _⟩
 have oO:=lm.sl.base;repeat' (first|refine Wy ?_|refine Wl (hb.cell (i:=9) (v := .slice z.A z.n z.c) rfl) ?_)
 refine SW.gM j 5 ⟨t.At,t.aA,t.Kind,t.Name,m,true⟩ lm rfl rfl rfl Ut (by decide) rfl (by simp only [List.getElem_set_self];rfl) fun jb bh dA => ?_
 have dY:=lm.gr dA;have hw:=aF hw dA dz lm.ba;(have hb:=hb.aN dY rfl);rw [aeu] at bh;repeat' (first|refine Wy ?_|fail);exact ae.pI rfl ⟨_,rfl,rfl,z,bh,hb,hw,.tP (hK.since gH) dY⟩
set_option maxHeartbeats 8000000 in
theorem HI (wb:World) (lo b:Nat) (r:db) (p q z:ga) (a:cJ) (x:p9) (i:Int) (l:List bT) (w:World) (hk:a.Kind=15) (ps:List Int) (hL:Own w lo 3 1 bw x.L.A x.L.n x.L.c ps) (OT:x.L.n<=1000) (hw:Ext wb w) (hb:aS w b 48 (oo r p q z)) (qV:wb.heap.size<=b) (hO:Own w lo 50 6 kU z.A z.n z.c l) (dz:wb.heap.size<=lo) (sU:lo<=w.heap.size) (hn:z.n<=100000) :
 iI prog 27 [.pointer (some ⟨b,0,none⟩),.agg (eB a).toArray,.agg (cb x).toArray,.int .i64 i] w (nB wb w lo b r p q (l++ps.map fun p=>⟨p,5,5,a.Name,0,false⟩)):=by
 obtain ⟨k,cpu,n,m,At,fl,nm⟩:=a;simp only at hk ⊢;refine dh func27 rfl ntmps27 rfl ?_;have hs:kf w w:=⟨Ext.refl w⟩
 have hA:=hO.sl.base;have mv:=hO.len;refine CW.seq (CW.region (SW.box rfl rfl fun b5 w2 bt gm aL => ?_));(obtain ⟨hw,hb,hO,hs,hL⟩:=fI bt hw hb hO hs hL);clear bt;refine SW.box rfl rfl fun b6 w2 bt dt aq => ?_
 (obtain ⟨hw,hb,aL,hO,hs,hL⟩:=iS bt hw hb aL hO hs hL);clear bt;subst hk;have DP:=hL.len;have hK:=kB.ext (.refl w) hs.hx;repeat' (first|refine Wy ?_|refine Wl (aL.cell (i:=0) (v := .int .i64 15) rfl) ?_|refine Wl (aq.cell (i:=2) (v := .slice x.L.A x.L.n x.L.c) rfl) ?_)
 refine CW.loop (fun s:Nat×ga=>[(0,.pointer (some ⟨b,0,none⟩)),(5,.pointer (some ⟨b5,0,none⟩)),(6,.pointer (some ⟨b6,0,none⟩)),(76,.slice x.L.A x.L.n x.L.c),(77,.int .i64 (x.L.n:Int)),(78,.int .i64 (s.1:Int))])
  (fun s w'=>s.1<=x.L.n∧s.2.n=z.n+s.1∧Ext wb w'∧kB w w'∧w.heap.size<=w'.heap.size∧aS w' b 48 (oo r p q s.2)∧aS w' b5 35 (eB ⟨15,cpu,n,m,At,fl,nm⟩)∧aS w' b6 55 (cb x)∧Own w' lo 50 6 kU s.2.A s.2.n s.2.c (l++(ps.take s.1).map fun p=>⟨p,5,5,nm,0,false⟩)∧Own w' lo 3 1 bw x.L.A x.L.n x.L.c ps) (fun s=>x.L.n-s.1) (0,z)
  ⟨rfl,rfl,rfl,rfl,rfl,rfl,trivial⟩ ⟨adO _,rfl,hw,hK,hs.hx.size,hb,aL,aq,by rw [List.take_zero,List.map_nil,aeq];exact hO,hL⟩ ?_
 clear hw hK hb aL aq hO hL hs hA;rintro ⟨j,y⟩ w' ⟨hj,Sc,hw,hK,oy,hb,aL,aq,hO,hL⟩
 simp only at hj Sc hb hO ⊢;have hA:=hO.sl.base;have hLA:=hL.sl.base;by_cases mO:j<x.L.n
 ·have UM:j<ps.length:=by omega
  have hs:kf w' w':=⟨Ext.refl _⟩
  have Pn:=fun w2 (h:Own w2 lo 3 1 bw x.L.A x.L.n x.L.c ps)=>h.sl.one mO (congrArg bw (rfl:ps[j]=ps[j]))
  repeat' (first|refine Wy ?_|refine Wl (Pn _ hL) ?_)
  refine CW.gl 10 13 (fun _=>True) mixed (by kernel_rfl) fun w1 ai aJ => ?_
  obtain ⟨hw,hb,aL,aq,hO,hL,hs⟩:=ur ai hw hb aL aq hO hL hs;clear ai;refine SF.cq 0 [] aJ rfl (by kernel_rfl) (by kernel_rfl) (by kernel_rfl) (bi rfl) (fun w2 hS=>bi rfl) rfl ?_;refine Wp 1 [4,3,2] [] aJ rfl rfl ?_;refine Wt 2 [4,3] [] aJ rfl (aG rfl) ?_;refine Wt 3 [4] [] aJ rfl (az rfl) ?_;refine Wt 4 [] [] aJ rfl (aT rfl (hb.cell (i:=9) (v := .slice y.A y.n y.c) rfl)) ?_;refine Wp 5 [9,8] [] aJ rfl rfl ?_;refine Wt 6 [9,8,7] [] aJ rfl (az rfl) ?_;refine Wt 7 [9,8] [] aJ rfl (aT rfl (aL.cell (i:=6) (v := .string nm) rfl)) ?_;refine Wt 8 [9] [] aJ rfl (iH rfl rfl) ?_;refine SF.one 9 rfl (by kernel_rfl) rfl ?_;refine SW.dR rfl rfl rfl rfl rfl fun O8 w9 ar sD lO => ?_
  (obtain ⟨hw,hb,aL,aq,hO,hL,hs⟩:=ur ar hw hb aL aq hO hL hs);refine SW.nil (ae.sf ar ?_);refine SF.turn rfl (by kernel_rfl) rfl ?_;refine SW.append hO (aS.vF (enc:=kU) (x:=⟨ps[j],5,5,nm,0,false⟩) lO) (ac2 sU (ac2 oy hs.hx.size)) rfl rfl rfl (by omega) (by omega) fun Y f qU lm hg => ?_
  have hG:=hO.gr hg;have hw:=aF hw hg dz hO.ba;(obtain ⟨hb,aL,aq,hL⟩:=dG hG hb aL aq hL);have hS:=True.intro;refine SW.nil (ae.sg hS ?_);refine SG.one 11 rfl (by kernel_rfl) rfl ?_;repeat ((show SW _ _ _ _ (⟨_,Op.nilCheck _,_,_,_,none⟩::_) _ _;refine SW.st (aG rfl) rfl ?_))
  refine SW.nil (ae.sg hS ?_);refine SG.one 12 rfl (by kernel_rfl) rfl ?_;repeat ((show SW _ _ _ _ (⟨_,Op.fieldAddr _ _ _,_,_,_,none⟩::_) _ _;refine SW.st (az rfl) rfl ?_))
  refine SW.nil (ae.sg hS ?_);refine SG.last rfl (by kernel_rfl) (by kernel_rfl) ?_;refine Wb (i:=9) hb fun jb iq dA => ?_
  have dY:=hb.gr dA;have hw:=hw.own qV dA;have bh:=lm.aN dY rfl;(obtain ⟨aL,aq,hL⟩:=cj dY aL aq hL);have RR:=kB.ot (kB.tP (hK.since hs) hG) dY;have Xz:w.heap.size<=jb.heap.size:=ac2 oy (ac2 hs.hx.size (ac2 hg.size dA.size))
  rw [ac6] at bh;have e:((ps.take j).map fun p=>(⟨p,5,5,nm,0,false⟩ : bT))++[⟨ps[j],5,5,nm,0,false⟩]=(ps.take (j+1)).map fun p=>⟨p,5,5,nm,0,false⟩:=by rw [ac5 UM,adr];rfl
  rw [e] at bh;repeat' (first|refine Wy ?_|fail);exact ae.again (j+1,⟨Y,y.n+1,f⟩) ⟨rfl,rfl,rfl,rfl,rfl,rfl,trivial⟩ (by simp only;omega) ⟨by simp only;omega,by simp only;omega,hw,RR,Xz,iq,aL,aq,bh,hL⟩
 ·obtain rfl:j=x.L.n:=by omega
  rw [adf (by omega)] at hO;repeat' (first|refine Wy ?_|fail);exact ae.pI rfl ⟨_,rfl,rfl,y,hO,hb,hw,hK⟩
theorem nJ:prog.underlying 137=some (.map 9 3):=by kernel_rfl
theorem FN (w:World) : (zeroValue 3).run prog w = .ok (.int .i64 0) w:=by
 obtain ⟨inf,hi,hz,hs,xU⟩:=ee prog 3 (z := .int .i64 0) (sz:=1) (bytes:=8);simp [zeroValue,typeInfo,hi,hz]
set_option maxHeartbeats 8000000 in
theorem KE (wb:World) (lo b:Nat) (r:db) (p q z:ga) (a:cJ) (x:p9) (i:Int) (l:List bT) (w:World) (hk:a.Kind=5) (hN:a.Name=pr∨a.Name=gf) (hw:Ext wb w) (hb:aS w b 48 (oo r p q z)) (qV:wb.heap.size<=b) (hO:Own w lo 50 6 kU z.A z.n z.c l) (dz:wb.heap.size<=lo) (sU:lo<=w.heap.size) (hn:z.n<=100000) :
 iI prog 27 [.pointer (some ⟨b,0,none⟩),.agg (eB a).toArray,.agg (cb x).toArray,.int .i64 i] w (nB wb w lo b r p q (l++[⟨x.N,om a.Name,5,a.Name,0,false⟩])):=by
 obtain ⟨k,cpu,n,m,At,fl,nm⟩:=a;simp only at hk hN ⊢;refine dh func27 rfl ntmps27 rfl ?_;have hs:kf w w:=⟨Ext.refl w⟩
 have hA:=hO.sl.base;have mv:=hO.len;refine CW.seq (CW.region (SW.box rfl rfl fun b5 w2 bt gm aL => ?_));(obtain ⟨hw,hb,hO,hs⟩:=dG bt hw hb hO hs);clear bt;refine SW.box rfl rfl fun b6 w2 bt dt aq => ?_
 (obtain ⟨hw,hb,aL,hO,hs⟩:=fI bt hw hb aL hO hs);clear bt;subst hk;have se:nm.size<=140737488351232:=by rcases hN with h|h<;>(rw [h];decide)
 repeat' (first|refine Wy ?_|refine Wl (aL.cell (i:=0) (v := .int .i64 5) rfl) ?_)
 focus
  refine CW.gl 7 23 (fun w2=>aS w2 b 48 (oo r p q z)∧aS w2 b5 35 (eB ⟨5,cpu,n,m,At,fl,nm⟩)∧aS w2 b6 55 (cb x)) mixed (by kernel_rfl) fun w1 ai aJ => ?_
  obtain ⟨hw,hb,aL,aq,hO,hs⟩:=iS ai hw hb aL aq hO hs;clear ai;refine SF.cq 0 [] aJ rfl (by kernel_rfl) (by kernel_rfl) (by kernel_rfl) (bi rfl) (fun w2 hS=>bi rfl) rfl ?_;refine SF.cq 1 [] aJ rfl (by kernel_rfl) (by kernel_rfl) (by kernel_rfl) (bi rfl) (fun w2 hS=>bi rfl) rfl ?_;refine SF.cq 2 [] aJ rfl (by kernel_rfl) (by kernel_rfl) (by kernel_rfl) (aG rfl) (fun w2 hS=>aG rfl) rfl ?_;refine SF.cq 3 [] aJ rfl (by kernel_rfl) (by kernel_rfl) (by kernel_rfl) (az rfl) (fun w2 hS=>az rfl) rfl ?_;refine SF.cq 4 [] aJ rfl (by kernel_rfl) (by kernel_rfl) (by kernel_rfl) (aT rfl (hb.cell (i:=9) (v := .slice z.A z.n z.c) rfl)) (fun w2 hS=>aT rfl (hS.1.cell (i:=9) (v := .slice z.A z.n z.c) rfl)) rfl ?_;refine SF.cq 5 [] aJ rfl (by kernel_rfl) (by kernel_rfl) (by kernel_rfl) (az rfl) (fun w2 hS=>az rfl) rfl ?_;refine SF.cq 6 [] aJ rfl (by kernel_rfl) (by kernel_rfl) (by kernel_rfl) (aT rfl (aq.cell (i:=1) (v := .int .i64 x.N) rfl)) (fun w2 hS=>aT rfl (hS.2.2.cell (i:=1) (v := .int .i64 x.N) rfl)) rfl ?_;refine SF.cq 11 [] aJ rfl (by kernel_rfl) (by kernel_rfl) (by kernel_rfl) (az rfl) (fun w2 hS=>az rfl) rfl ?_;refine SF.cq 12 [] aJ rfl (by kernel_rfl) (by kernel_rfl) (by kernel_rfl) (aT rfl (aL.cell (i:=6) (v := .string nm) rfl)) (fun w2 hS=>aT rfl (hS.2.1.cell (i:=6) (v := .string nm) rfl)) rfl ?_;refine SF.cq 14 [] aJ rfl (by kernel_rfl) (by kernel_rfl) (by kernel_rfl) (az rfl) (fun w2 hS=>az rfl) rfl ?_;refine SF.cq 15 [] aJ rfl (by kernel_rfl) (by kernel_rfl) (by kernel_rfl) (aT rfl (aL.cell (i:=0) (v := .int .i64 5) rfl)) (fun w2 hS=>aT rfl (hS.2.1.cell (i:=0) (v := .int .i64 5) rfl)) rfl ?_;refine SF.cq 16 [] aJ rfl (by kernel_rfl) (by kernel_rfl) (by kernel_rfl) (az rfl) (fun w2 hS=>az rfl) rfl ?_;refine SF.cq 17 [] aJ rfl (by kernel_rfl) (by kernel_rfl) (by kernel_rfl) (aT rfl (aL.cell (i:=6) (v := .string nm) rfl)) (fun w2 hS=>aT rfl (hS.2.1.cell (i:=6) (v := .string nm) rfl)) rfl ?_;refine SF.turn rfl (by kernel_rfl) rfl ?_;refine SW.Nw 9 3 rfl fun Uu w9 ar Qe hM => ?_
  have n1:b≠Uu:=by have:=hb.lt;omega
  have n2:b5≠Uu:=by have:=aL.lt;omega
  have n3:b6≠Uu:=by have:=aq.lt;omega
  have n4:∀ k,aI z.A z.c=some k->k≠Uu:=fun k e=>by have:=hO.lt_size k e;omega
  have IY:=hw.up Qe
  have IZ:w.heap.size<=Uu:=ac2 hs.hx.size Qe
  (obtain ⟨hw,hb,aL,aq,hO,hs⟩:=iS ar hw hb aL aq hO hs);have hS:=And.intro hb (And.intro aL aq);refine SW.nil (ae.sg hS ?_);refine SG.two 8 9 rfl rfl (by kernel_rfl) rfl rfl ?_ ?_
  focus
   refine SW.yw (i:=5) hM (string_keyed nq) nJ nr (by unfold maxLen;omega) rfl rfl rfl rfl (jZ pr (by decide)) fun qU FX hg => ?_
   have hb:=hb.grown hg (by simpa using n1);have aL:=aL.grown hg (by simpa using n2);have aq:=aq.grown hg (by simpa using n3);have hO:=hO.grown hg (.inr fun e=>n4 _ e rfl);have hw:=hw.own IY hg;have hs:kf w _:=⟨hs.hx.own IZ hg⟩;have hM:=FX;clear FX hg;have hS:=And.intro hb (And.intro aL aq);refine SW.nil (ae.sg hS ?_);refine SG.one 9 rfl (by kernel_rfl) rfl ?_;refine SW.yw (i:=2) hM (string_keyed nq) nJ nr (by unfold maxLen;omega) rfl rfl rfl rfl (jZ gf (by decide)) fun qU FX hg => ?_
   have hb:=hb.grown hg (by simpa using n1);have aL:=aL.grown hg (by simpa using n2);have aq:=aq.grown hg (by simpa using n3);have hO:=hO.grown hg (.inr fun e=>n4 _ e rfl);have hw:=hw.own IY hg;have hs:kf w _:=⟨hs.hx.own IZ hg⟩;have hM:=FX;clear FX hg;have hS:=And.intro hb (And.intro aL aq);refine SW.nil (ae.sg hS ?_);refine SG.one 10 rfl (by kernel_rfl) rfl ?_;repeat (refine SW.pure rfl rfl ?_)
   refine SW.nil (ae.sg hS ?_);refine SG.one 13 rfl (by kernel_rfl) rfl ?_;refine SW.st (AE hM (string_keyed nq) nJ nr FN rfl rfl (jZ nm se) (by first|exact (DE nm hN).1|exact (DE nm hN).2)) rfl ?_;refine SW.nil (ae.sg hS ?_);refine SG.one 18 rfl (by kernel_rfl) rfl ?_;repeat ((show SW _ _ _ _ (⟨_,Op.build _ _,_,_,_,none⟩::_) _ _;refine SW.st (iH rfl rfl) rfl ?_))
   refine SW.nil (ae.sg hS ?_);refine SG.one 19 rfl (by kernel_rfl) rfl ?_;refine SW.dR rfl rfl rfl rfl rfl fun O8 w9 ar sD lO => ?_
   (obtain ⟨hw,hb,aL,aq,hO,hs⟩:=iS ar hw hb aL aq hO hs);have hS:=And.intro hb (And.intro aL aq);refine SW.nil (ae.sg hS ?_);refine SG.one 20 rfl (by kernel_rfl) rfl ?_;refine SW.append hO (aS.vF (enc:=kU) (x:=⟨x.N,om nm,5,nm,0,false⟩) lO) (ac2 sU hs.hx.size) rfl rfl rfl (by omega) (by omega) fun Y f qU lm hg => ?_
   have hG:=hO.gr hg;have hw:=aF hw hg dz hO.ba;(obtain ⟨hb,aL,aq⟩:=cj hG hb aL aq);have hS:=And.intro hb (And.intro aL aq);refine SW.nil (ae.sg hS ?_);refine SG.one 21 rfl (by kernel_rfl) rfl ?_;repeat ((show SW _ _ _ _ (⟨_,Op.nilCheck _,_,_,_,none⟩::_) _ _;refine SW.st (aG rfl) rfl ?_))
   refine SW.nil (ae.sg hS ?_);refine SG.one 22 rfl (by kernel_rfl) rfl ?_;repeat ((show SW _ _ _ _ (⟨_,Op.fieldAddr _ _ _,_,_,_,none⟩::_) _ _;refine SW.st (az rfl) rfl ?_))
   refine SW.nil (ae.sg hS ?_)
  rotate_left
  focus
   refine SW.yw (i:=2) hM (string_keyed nq) nJ nr (by unfold maxLen;omega) rfl rfl rfl rfl (jZ gf (by decide)) fun qU FX hg => ?_
   have hb:=hb.grown hg (by simpa using n1);have aL:=aL.grown hg (by simpa using n2);have aq:=aq.grown hg (by simpa using n3);have hO:=hO.grown hg (.inr fun e=>n4 _ e rfl);have hw:=hw.own IY hg;have hs:kf w _:=⟨hs.hx.own IZ hg⟩;have hM:=FX;clear FX hg;have hS:=And.intro hb (And.intro aL aq);refine SW.nil (ae.sg hS ?_);refine SG.one 8 rfl (by kernel_rfl) rfl ?_;refine SW.yw (i:=5) hM (string_keyed nq) nJ nr (by unfold maxLen;omega) rfl rfl rfl rfl (jZ pr (by decide)) fun qU FX hg => ?_
   have hb:=hb.grown hg (by simpa using n1);have aL:=aL.grown hg (by simpa using n2);have aq:=aq.grown hg (by simpa using n3);have hO:=hO.grown hg (.inr fun e=>n4 _ e rfl);have hw:=hw.own IY hg;have hs:kf w _:=⟨hs.hx.own IZ hg⟩;have hM:=FX;clear FX hg;have hS:=And.intro hb (And.intro aL aq);refine SW.nil (ae.sg hS ?_);refine SG.one 10 rfl (by kernel_rfl) rfl ?_;repeat (refine SW.pure rfl rfl ?_)
   refine SW.nil (ae.sg hS ?_);refine SG.one 13 rfl (by kernel_rfl) rfl ?_;refine SW.st (AE hM (string_keyed nq) nJ nr FN rfl rfl (jZ nm se) (by first|exact (DE nm hN).1|exact (DE nm hN).2)) rfl ?_;refine SW.nil (ae.sg hS ?_);refine SG.one 18 rfl (by kernel_rfl) rfl ?_;repeat ((show SW _ _ _ _ (⟨_,Op.build _ _,_,_,_,none⟩::_) _ _;refine SW.st (iH rfl rfl) rfl ?_))
   refine SW.nil (ae.sg hS ?_);refine SG.one 19 rfl (by kernel_rfl) rfl ?_;refine SW.dR rfl rfl rfl rfl rfl fun O8 w9 ar sD lO => ?_
   (obtain ⟨hw,hb,aL,aq,hO,hs⟩:=iS ar hw hb aL aq hO hs);have hS:=And.intro hb (And.intro aL aq);refine SW.nil (ae.sg hS ?_);refine SG.one 20 rfl (by kernel_rfl) rfl ?_;refine SW.append hO (aS.vF (enc:=kU) (x:=⟨x.N,om nm,5,nm,0,false⟩) lO) (ac2 sU hs.hx.size) rfl rfl rfl (by omega) (by omega) fun Y f qU lm hg => ?_
   have hG:=hO.gr hg;have hw:=aF hw hg dz hO.ba;(obtain ⟨hb,aL,aq⟩:=cj hG hb aL aq);have hS:=And.intro hb (And.intro aL aq);refine SW.nil (ae.sg hS ?_);refine SG.one 21 rfl (by kernel_rfl) rfl ?_;repeat ((show SW _ _ _ _ (⟨_,Op.nilCheck _,_,_,_,none⟩::_) _ _;refine SW.st (aG rfl) rfl ?_))
   refine SW.nil (ae.sg hS ?_);refine SG.one 22 rfl (by kernel_rfl) rfl ?_;repeat ((show SW _ _ _ _ (⟨_,Op.fieldAddr _ _ _,_,_,_,none⟩::_) _ _;refine SW.st (az rfl) rfl ?_))
   refine SW.nil (ae.sg hS ?_)
  rotate_left
  all_goals
   refine SG.last rfl (by kernel_rfl) (by kernel_rfl) ?_;refine Wb (i:=9) hb fun jb iq dA => ?_
   have dY:=hb.gr dA;have hw:=hw.own qV dA;have bh:=lm.aN dY rfl;repeat' (first|refine Wy ?_|fail);exact ae.pI rfl ⟨_,rfl,rfl,⟨Y,z.n+1,f⟩,bh,iq,hw,.ot (.tP (.ext (.refl w) hs.hx) hG) dY⟩
variable {s0:ah} {j:Nat}
theorem qe {l:List bT} {a:cJ} {i:Int} (h:pu s0 j s l a i) (r:db) (lo:Nat) (w:World) (hO:iT w lo r s) (dz:lo<=w.heap.size) (hI:dI s) (hS:iv w) (eY:mD w) :
 bI prog 26 [.agg (aP r).toArray,.agg (eB a).toArray] w fun v w' => ∃ u,cx s a u∧OY lo u v w':=by
 have hD:HE s a:=⟨h.nw,h.word,h.room⟩
 have h1:=h.at_;have h2:=h.name;rcases h.kinds with hk|hk
 ·exact Nv a hk (by omega) (by omega) r s lo w hO dz hI hD hS eY
 ·exact Kz a hk r s lo w hO dz hI hD
theorem KF {a:cJ} {y:kz} {i:Int} {l l':List bT} (h:qd a y i l l') (wb:World) (lo b:Nat) (r:db) (p q z:ga) (x:p9) (w:World) (hx:kj w lo x y) (hw:Ext wb w) (hb:aS w b 48 (oo r p q z)) (qV:wb.heap.size<=b)
 (hO:Own w lo 50 6 kU z.A z.n z.c l) (dz:wb.heap.size<=lo) (sU:lo<=w.heap.size) (hn:z.n<=100000) :
 iI prog 27 [.pointer (some ⟨b,0,none⟩),.agg (eB a).toArray,.agg (cb x).toArray,.int .i64 i] w (nB wb w lo b r p q l'):=by
 have hl:=hO.len;have e:=hx.n;cases h with
 | k8 hk=>rw [<- e];exact KA wb lo b r p q z a x i l w hk hw hb qV hO dz sU hn
 | k1 hk hN=>rw [<- e] at hN ⊢;exact KB wb lo b r p q z a x i l w hk hN hw hb qV hO dz sU hn
 | k5 hk hN=>rw [<- e];exact KE wb lo b r p q z a x i l w hk hN hw hb qV hO dz sU hn
 | Xb hk hN=>exact HI wb lo b r p q z a x i l w hk y.L hx.list (by rw [<- hx.list.len];exact hN) hw hb qV hO dz sU hn
 | back hk hi hj=>exact KC wb lo b r p q z a x i l w hk _ hi (by omega) hw hb qV hO dz sU hn
 | move hk hi hj=>rw [<- e];exact HG wb lo b r p q z a x i l w hk _ hi hj hw hb qV hO dz sU hn
 | write hk hi hj=>exact HH wb lo b r p q z a x i l w hk _ hi hj hw hb qV hO dz sU hn
 | none hk=>exact KD wb lo b r p q z a x i l w hk hw hb qV hO dz sU hn
end Go.Proofs.YtohigmjjbgpfmaaGreatDoor
