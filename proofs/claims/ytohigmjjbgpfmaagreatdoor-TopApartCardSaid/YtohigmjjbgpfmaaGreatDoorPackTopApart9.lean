/- Part 9 of what topApart_holds leans on. -/
import Derived.Test.YtohigmjjbgpfmaaGreatDoorPackTopApart8
set_option linter.unusedVariables false
set_option linter.unusedSimpArgs false
set_option linter.defProp false
open Go.Proofs.Tryz
namespace Go.Proofs.YtohigmjjbgpfmaaGreatDoor
open Go.RowKit
variable {a u2 u3:Int} {s:ah}
theorem Sa {u1:Int} (hu:iG s a (u1,u2,u3)) (hq:fW s=true) :
 (∃ i:Nat,u1=(i:Int)∧u3=0 ∧ ∃ hi:i<s.aa.length,oX s.aa[i]=true∧ri s a (some i)) ∨
 (ri s a none∧(u3=4 ∨ ∃ i:Nat,u1=(i:Int)∧u3=0 ∧ ∃ hi:i<s.aa.length,oX s.aa[i]=false)):=by
 by_cases h0:u3=0
 ·obtain ⟨i,hi,Rd⟩:=hu.MR h0;simp only at Rd;subst h0 Rd;cases Lq:oX s.aa[i]
  ·exact .inr ⟨.no hu fun i2 Rn _ e=>by
    have e:i=i2:=by simp only at e;omega
    subst e;exact Lq,.inr ⟨i,rfl,rfl,hi,Lq⟩⟩
  ·exact .inl ⟨i,rfl,rfl,hi,Lq,.yes hu hi Lq⟩
 ·exact .inr ⟨.no hu fun i hi h=>absurd h h0,.inl ((hu.code hq).resolve_left h0)⟩
set_option maxHeartbeats 4000000 in
theorem xh (r:da) (s:ah) (cpu a:Int) (w:World) (hr:Bh w r s) (hf:s.cK) (ha : -9223372036854775808<=a∧a<=9223372036854775807) (hS:iC w) :
 bF prog 32 [.agg (aP r).toArray,.int .i64 cpu,.int .i64 a] w fun v w' => ∃ u,k7 s cpu a u∧iT w.heap.size u v w':=by
 refine aC func32 rfl ntmps32 rfl ?_;refine CW.seq (CW.region (SW.box rfl rfl fun b3 w1 hw cg aq => ?_));refine SW.alloc rfl fun b6 w2 bt dw ar => ?_
 have cS:=hw.up dw
 have bJ:b6≠b3:=by have:=aq.lt;omega
 (obtain ⟨hw,aq⟩:=df bt hw aq);have hs:=hf.small;obtain ⟨q,hq⟩ : ∃ q,fW s=q:=⟨_,rfl⟩
 have c1:∀ w',Ext w w'->bF prog 46 [.agg (aP r).toArray] w' fun v _=>v = .int .i64 (if q then 0 else 8):=fun w' hx=>by
  have:=mr r s w' (hr.ext hx) hf
  rwa [hq] at this
 cases q
 ·simp only [Bool.false_eq_true,if_false] at c1;repeat' (first|refine Wz ?_|(refine Wk (c1 _ hw) ?_;intro v w1 ai hv;subst hv;obtain ⟨hw,aq,ar⟩:=cn ai hw aq ar;clear ai))
  refine SW.ag ar rfl rfl rfl rfl (aY .zero) fun w5 cX hg => ?_
  have hw:=hw.own cS hg;refine Wz ?_;exact ae.dA rfl rfl rfl cX rfl ⟨_,rfl,hw,_,.bad hq,iT.zero 8 _ _⟩
 simp only [if_true] at c1;have hM:=iS.1 hq;have eC:r.Heap.bG=s.Heap.bG:=hr.heap.cpus
 by_cases pL:me s cpu
 ·have Sb:=pL;unfold me at Sb;repeat' (first|refine Wz ?_|(refine Wk (c1 _ hw) ?_;intro v w1 ai hv;subst hv;obtain ⟨hw,aq,ar⟩:=cn ai hw aq ar;clear ai))
  refine Wk (vt r s a _ (hr.ext hw) hf ha) fun v w5 oC hv => ?_
  obtain ⟨u,hu,rfl⟩:=hv;(obtain ⟨hw,aq,ar⟩:=cn oC hw aq ar);clear c1;obtain ⟨cs,hc⟩:=hr.br;obtain ⟨z1,z2⟩:=hc.len;have hA:=hc.row.base;obtain ⟨u1,u2,u3⟩:=u;simp only [Cj];rcases Sa hu hq with ⟨i,rfl,rfl,hi,Lq,hO⟩|⟨hO,hN⟩
  ·have cy:i<r.aa.n:=by omega
   have Hx:i<cs.length:=by omega
   have j3:=hc.each.get i Hx hi;have q1:=j3.names.len;have q2:=(hs.each _ (adb hi)).names;have q3:=(hM.each i hi).may.names;have Gv : 0<cs[i].Names.n:=by omega
   have hAn:=j3.names.base
   have c2:∀ w',Ext w w'->bF prog 72 [.agg (fQ cs[i]).toArray] w' fun v _=>v = .bool true:=fun w' hx=>by
    have:=zY cs[i] _ w' (j3.ext hx) (by omega) (hS.ext hx)
    rwa [Lq] at this
   have gN:=j3.names.one Gv (congrArg encStr (rfl:s.aa[i].Names[0]=s.aa[i].Names[0]));have eN:s.aa[i].Names[0]=vC s.aa[i]:=by simp [vC,q3]
   rw [eN] at gN;repeat' (first|refine Wz ?_|refine Wo hw ((hc.row.all cy)) ?_|(refine Wk (c2 _ hw) ?_;intro v w1 ai hv;subst hv;obtain ⟨hw,aq,ar⟩:=cn ai hw aq ar;clear ai))
   refine CW.any 14 mixed (dk (by kernel_rfl)) rfl fun w1 ai aG => ?_
   obtain ⟨hw,aq,ar⟩:=cn ai hw aq ar;clear ai;refine Wa ?_;refine Wu 6 aG rfl (mG hw rfl (hc.row.jR cy (j:=0) (u := .slice cs[i].Names.A cs[i].Names.n cs[i].Names.c) rfl)) ?_;refine Wa ?_;refine Wu 8 aG rfl (mG hw rfl gN) ?_;refine Wa ?_;refine SA.one 11 rfl (by kernel_rfl) rfl ?_;refine Wk (rB r s _ cpu a _ (hr.ext hw) hf (MT hf hi) ha) fun v w4 ak hv => ?_
   obtain ⟨u,hP,s1,rfl,kn⟩:=hv;have kn:=kn.low hw.size;(obtain ⟨hw,aq,ar⟩:=cn ak hw aq ar);refine SW.nil (ae.sa ak ?_);refine Wa ?_;refine SA.done (by kernel_rfl) ?_;refine SW.ag ar rfl rfl rfl rfl (aY s1) fun w6 hR hg => ?_
   have hG:=ar.gr hg;have hw:=hw.own cS hg;(have kn:=kn.aK hG rfl);refine Wz ?_;exact ae.dA rfl rfl rfl hR rfl ⟨_,rfl,hw,_,.obj hq pL hi hO hP,_,rfl,kn⟩
  have DC:=fun hW=>Ko hM pL (a:=a) hW
  rcases hN with rfl|⟨i,rfl,rfl,hi,Lq⟩
  refine Wz ?_;rotate_left;have cy:i<r.aa.n:=by omega
  have Hx:i<cs.length:=by omega
  have j3:=hc.each.get i Hx hi;have q1:=j3.names.len;have q2:=(hs.each _ (adb hi)).names
  have c2:∀ w',Ext w w'->bF prog 72 [.agg (fQ cs[i]).toArray] w' fun v _=>v = .bool false:=fun w' hx=>by
   have:=zY cs[i] _ w' (j3.ext hx) (by omega) (hS.ext hx)
   rwa [Lq] at this
  repeat' (first|refine Wz ?_|refine Wo hw ((hc.row.all cy)) ?_|(refine Wk (c2 _ hw) ?_;intro v w1 ai hv;subst hv;obtain ⟨hw,aq,ar⟩:=cn ai hw aq ar;clear ai))
  all_goals
   refine Wk (tq r s a _ (hr.ext hw) hs hM ha) fun v w6 Fj hv => ?_
   obtain ⟨ix,rfl,rU⟩:=hv;(obtain ⟨hw,aq,ar⟩:=cn Fj hw aq ar);cases hW:dj s a
   ·repeat' (first|refine Wz ?_|(refine CW.gu rfl ?_))
    refine SW.ag ar rfl rfl rfl rfl (aY .zero) fun w7 cX hg => ?_
    have hw:=hw.own cS hg;refine Wz ?_;exact ae.dA rfl rfl rfl cX rfl ⟨_,rfl,hw,_,.no hq pL hO hW,iT.zero 4 _ _⟩
   ·obtain ⟨N1,ha0,_⟩:=fe hW;repeat' (first|refine Wz ?_|(refine CW.fY rfl ?_)|refine Wm ((mo aq)) ?_)
    refine Wk (vr r.Heap s.Heap cpu (a / 16) _ (hr.heap.ext hw) hs.heap hf.ct (by omega)) fun v w7 jF hv => ?_
    obtain ⟨H,rfl,hH⟩:=hv;rw [DC hW];have hH:=hH.low hw.size;(obtain ⟨hw,aq,ar⟩:=cn jF hw aq ar);refine Wz ?_;refine SW.alloc rfl fun U6 w1 ai vE bR => ?_
    skip;refine SW.ag bR rfl rfl rfl rfl (dY H) fun w2 xC hg => ?_
    have ak:=ai.own vE hg;have Qf:=hw.up vE
    obtain ⟨hw,aq,ar,hH⟩:=dv ak hw aq ar hH;have bR:=xC;clear xC ai hg ak;refine Wz ?_;refine Wk (mv r s _ (hr.ext hw) hs) fun v w9 tB hv => ?_
    obtain ⟨p,cs',rfl,NL,_⟩:=hv;have hP:=NL.x9.low hw.size;clear NL;(obtain ⟨hw,aq,ar,bR,hH⟩:=fD tB hw aq ar bR hH);refine SW.ag aq rfl rfl rfl rfl (aY p) fun pE ed hg => ?_
    have hG:=aq.gr hg;have ar:=ar.grown hg (by simpa using bJ);have hw:=hw.own cg hg;(obtain ⟨bR,hH,hP⟩:=cn hG bR hH hP);have aq:=ed;clear ed hG hg;refine Wz ?_;refine SW.gq 1 aq rfl rfl rfl (adJ rfl) (dY H) (aP ⟨p.Words,H,p.aa⟩) rfl fun rI ed hg => ?_
    have hG:=aq.gr hg;have ar:=ar.grown hg (by simpa using bJ);have hw:=hw.own cg hg;(obtain ⟨hH,hP⟩:=df hG hH hP);refine Wz ?_;refine SW.ag ar rfl rfl rfl rfl (aY ⟨p.Words,H,p.aa⟩) fun ji hR hg => ?_
    have hG:=ar.gr hg;have hw:=hw.own cS hg;(obtain ⟨hH,hP⟩:=df hG hH hP);refine Wz ?_;exact ae.dA rfl rfl rfl hR rfl ⟨_,rfl,hw,_,.whole hq pL hO hW,_,rfl,hP.words,hH,hP.br⟩
 ·have Sb:=pL;unfold me at Sb;have:cpu<0∨(0<=cpu∧s.Heap.bG<=cpu):=by omega
  rcases this with h1|h1
  all_goals repeat' (first|refine Wz ?_|(refine Wk (c1 _ hw) ?_;intro v w1 ai hv;subst hv;obtain ⟨hw,aq,ar⟩:=cn ai hw aq ar;clear ai))
  all_goals
   refine SW.ag ar rfl rfl rfl rfl (aY .zero) fun w5 cX hg => ?_
   have hw:=hw.own cS hg;refine Wz ?_;exact ae.dA rfl rfl rfl cX rfl ⟨_,rfl,hw,_,.range hq pL,iT.zero 1 _ _⟩
theorem Ih (n:Int) (w:World) (hS:iC w) : bF prog 70 [.int .i64 n] w fun v _=>v = .tuple #[.string (hU n),.bool (decide (n<=32))]:=by
 refine aC func70 rfl ntmps70 rfl ?_;have hw:=Ext.refl w;repeat' (first|refine Wz ?_|refine Wm ((Ct hS)) ?_)
 refine CW.loop (fun j:Nat=>[(0,.int .i64 n),(6,.agg (kL.map (Value.int .i64)).toArray),(7,.int .i64 (j:Int))]) (fun j w'=>j<=6∧Ext w w' ∧ ∀ m,m<j->kP m<n) (fun j=>6-j) 0
  ⟨rfl,rfl,rfl,trivial⟩ ⟨by omega,hw,fun m h=>by omega⟩ ?_
 clear hw;rintro j w' ⟨hj,hw,hI⟩
 by_cases Qu:j<6
 ·obtain ⟨k1,k2,k3,k4⟩:=MU Qu;have OT:=Na (n:=n) Qu hI;obtain ⟨z,hz⟩ : ∃ z,kP j=z:=⟨_,rfl⟩;rw [hz] at k1 k2 k3 k4 OT;have N7:(kL.map (Value.int .i64))[j]?=some (.int .i64 z):=by rw [aeM,k2];rfl
  by_cases hnz:n<=z
  ·obtain ⟨e1,e2⟩:=OT hnz;repeat' (first|refine Wz ?_|(refine Wk (wJ z k1 _) ?_;intro v w1 ai hv;subst hv;have hw:=hw.trans ai;clear ai)|(refine SW.st (qN j rfl rfl rfl Qu N7) rfl ?_))
   exact ae.dm rfl rfl rfl ⟨_,rfl,hw,by rw [e1,decide_eq_true e2]⟩
  ·repeat' (first|refine Wz ?_|(refine SW.st (qN j rfl rfl rfl Qu N7) rfl ?_))
   refine ae.again (j+1) ⟨rfl,rfl,rfl,trivial⟩ (by omega) ⟨by omega,hw,fun m h => ?_⟩;by_cases e:m=j
   ·subst e;omega
   ·exact hI m (by omega)
 ·obtain rfl:j=6:=by omega
  obtain ⟨e1,e2⟩:=Kw hI;refine Wz ?_;exact ae.dm rfl rfl rfl ⟨_,rfl,hw,by rw [e1,decide_eq_false (by omega)]⟩
def yh (lo:Nat) (u:ah×Int×Int) (v:Value) (w:World) : Prop := ∃ q,v = .tuple #[.agg (aP q).toArray,.int .i64 u.2.1,.int .i64 u.2.2]∧iY w lo q u.1
theorem yh.zero (e:Int) (lo:Nat) (w:World) : yh lo (.zero,0,e) (.tuple #[.agg (aP .zero).toArray,.int .i64 0,.int .i64 e]) w :=
 ⟨.zero,rfl,Own.fF _ _ _ _ _ _,jH.zero w lo,⟨[],fw.nil _ _⟩⟩
set_option maxHeartbeats 4000000 in
theorem uI (r:da) (s:ah) (cpu n:Int) (w:World) (hr:Bh w r s) (hf:s.cK) (hS:iC w) (eG:mN w) :
 bF prog 31 [.agg (aP r).toArray,.int .i64 cpu,.int .i64 n] w fun v w' => ∃ u,eR s cpu n u∧yh w.heap.size u v w':=by
 refine aC func31 rfl ntmps31 rfl ?_;refine CW.seq (CW.region (SW.box rfl rfl fun b3 w1 hw cg aq => ?_));refine SW.alloc rfl fun b6 w2 bt dw ar => ?_
 have cS:=hw.up dw
 have bJ:b6≠b3:=by have:=aq.lt;omega
 (obtain ⟨hw,aq⟩:=df bt hw aq);have hs:=hf.small;obtain ⟨q,hq⟩ : ∃ q,fW s=q:=⟨_,rfl⟩
 have c1:∀ w',Ext w w'->bF prog 46 [.agg (aP r).toArray] w' fun v _=>v = .int .i64 (if q then 0 else 8):=fun w' hx=>by
  have:=mr r s w' (hr.ext hx) hf
  rwa [hq] at this
 cases q
 ·simp only [Bool.false_eq_true,if_false] at c1;repeat' (first|refine Wz ?_|(refine Wk (c1 _ hw) ?_;intro v w1 ai hv;subst hv;obtain ⟨hw,aq,ar⟩:=cn ai hw aq ar;clear ai))
  refine SW.ag ar rfl rfl rfl rfl (aY .zero) fun w5 cX hg => ?_
  have hw:=hw.own cS hg;refine Wz ?_;exact ae.fg rfl rfl rfl rfl cX rfl ⟨_,rfl,hw,_,.bad hq,yh.zero 8 _ _⟩
 simp only [if_true] at c1;have hM:=iS.1 hq;by_cases Jp:n<1
 ·repeat' (first|refine Wz ?_|(refine Wk (c1 _ hw) ?_;intro v w1 ai hv;subst hv;obtain ⟨hw,aq,ar⟩:=cn ai hw aq ar;clear ai))
  refine SW.ag ar rfl rfl rfl rfl (aY .zero) fun w5 cX hg => ?_
  have hw:=hw.own cS hg;refine Wz ?_;exact ae.fg rfl rfl rfl rfl cX rfl ⟨_,rfl,hw,_,.range hq Jp,yh.zero 1 _ _⟩
 have c2:∀ w',Ext w w'->bF prog 70 [.int .i64 n] w' fun v _=>v = .tuple #[.string (hU n),.bool (decide (n<=32))]:=fun w' hx=>Ih n w' (hS.ext hx)
 have lT:=Fz n;by_cases PK:n<=32
 ·rw [decide_eq_true PK] at c2;obtain ⟨cs,XJ⟩ : ∃ cs,hU n=cs:=⟨_,rfl⟩;have hR:=fun u (h:pA s (hU n) cpu u)=>eR.obj (cpu:=cpu) (n:=n) hq ⟨by omega,PK⟩ h
  rw [XJ] at c2 lT hR;repeat' (first|refine Wz ?_|(refine CW.gu rfl ?_)|((first|refine Wk (c1 _ hw) ?_|refine Wk (c2 _ hw) ?_);intro v w1 ai hv;subst hv;obtain ⟨hw,aq,ar⟩:=cn ai hw aq ar;clear ai))
  refine Wk (pF r s cs cpu _ (hr.ext hw) hf lT (eG.ext hw)) fun v w5 oC hv => ?_
  obtain ⟨u,hu,q,rfl,hO⟩:=hv;have hO:=hO.low hw.size;(obtain ⟨hw,aq,ar⟩:=cn oC hw aq ar);refine Wz ?_;refine SW.ag ar rfl rfl rfl rfl (aY q) fun w6 cX hg => ?_
  have hG:=ar.gr hg;have hw:=hw.own cS hg;(have hO:=hO.aK hG rfl);refine Wz ?_;exact ae.fg rfl rfl rfl rfl cX rfl ⟨_,rfl,hw,_,hR u hu,q,rfl,hO⟩
 rw [decide_eq_false PK] at c2;repeat' (first|refine Wz ?_|(refine CW.fY rfl ?_)|((first|refine Wk (c1 _ hw) ?_|refine Wk (c2 _ hw) ?_);intro v w1 ai hv;subst hv;obtain ⟨hw,aq,ar⟩:=cn ai hw aq ar;clear ai))
 clear c1 c2
 refine CW.loop (fun j:Nat=>[(1,.int .i64 cpu),(2,.int .i64 n),(3,.pointer (some ⟨b3,0,none⟩)),(6,.pointer (some ⟨b6,0,none⟩)),(38,.int .i64 (j:Int))])
  (fun j w'=>j<=5∧Ext w w'∧aS w' b3 44 (aP r)∧aS w' b6 44 (aP .zero) ∧ ∀ m:Nat,m<j->16*pw (m:Int)<n) (fun j=>5-j) 0
  ⟨rfl,rfl,rfl,rfl,rfl,trivial⟩ ⟨by omega,hw,aq,ar,fun m h=>by omega⟩ ?_
 clear hw aq ar;rintro j w' ⟨hj,hw,aq,ar,hI⟩
 by_cases QV:j<5
 ·have UY:=cQ (o:=(j:Int)) (by omega) (by omega);have lg:=RJ (n:=n) QV hI;obtain ⟨p,hp⟩ : ∃ p,pw (j:Int)=p:=⟨_,rfl⟩;rw [hp] at UY lg;have Vh:(16:Int)*2 ^ ((j:Int)).toNat=16*p:=by rw [<- hp];rfl
  by_cases hn3:n<=16*p
  ·obtain ⟨e1,e2⟩:=lg hn3;have Gp:=fun u (h:cU s.Heap cpu (wT n) 0 u) he=>eR.fault hq ⟨by omega,e2⟩ h he
   have cX:=fun u (h:cU s.Heap cpu (wT n) 0 u) he=>eR.bC hq ⟨by omega,e2⟩ h he
   rw [e1] at Gp cX;repeat' (first|refine Wz ?_|refine Wm ((mo aq)) ?_|(refine SW.st (fG (r:=16*p) rfl rfl (by omega) (by omega) Vh (by omega) (by omega)) rfl ?_))
   refine Wk (qp r.Heap s.Heap cpu (j:Int) 0 _ (hr.heap.ext hw) hs.heap hf.ct (eG.ext hw)) fun v w7 jF hv => ?_
   obtain ⟨u,hu,H,rfl,hH⟩:=hv;have hH:=hH.low hw.size;(obtain ⟨hw,aq,ar⟩:=cn jF hw aq ar);by_cases he:u.2.2=0
   ·have hau:=hu.at_ he;rw [he];refine Wz ?_;refine SW.alloc rfl fun tL w1 ai lR cw => ?_
    skip;refine SW.ag cw rfl rfl rfl rfl (dY H) fun w2 lS hg => ?_
    have ak:=ai.own lR hg;have uc:=hw.up lR
    obtain ⟨hw,aq,ar,hH⟩:=dv ak hw aq ar hH;have cw:=lS;clear lS ai hg ak;refine Wz ?_;refine Wk (mv r s _ (hr.ext hw) hs) fun v w9 tB hv => ?_
    obtain ⟨p,cs',rfl,NL,_⟩:=hv;have hP:=NL.x9.low hw.size;clear NL;(obtain ⟨hw,aq,ar,cw,hH⟩:=fD tB hw aq ar cw hH);refine SW.ag aq rfl rfl rfl rfl (aY p) fun pE ed hg => ?_
    have hG:=aq.gr hg;have ar:=ar.grown hg (by simpa using bJ);have hw:=hw.own cg hg;(obtain ⟨cw,hH,hP⟩:=cn hG cw hH hP);have aq:=ed;clear ed hG hg;refine Wz ?_;refine SW.gq 1 aq rfl rfl rfl (adJ rfl) (dY H) (aP ⟨p.Words,H,p.aa⟩) rfl fun rI ed hg => ?_
    have hG:=aq.gr hg;have ar:=ar.grown hg (by simpa using bJ);have hw:=hw.own cg hg;(obtain ⟨hH,hP⟩:=df hG hH hP);refine Wz ?_;refine SW.ag ar rfl rfl rfl rfl (aY ⟨p.Words,H,p.aa⟩) fun ji hR hg => ?_
    have hG:=ar.gr hg;have hw:=hw.own cS hg;(obtain ⟨hH,hP⟩:=df hG hH hP);refine Wz ?_;exact ae.fg rfl rfl rfl rfl hR rfl ⟨_,rfl,hw,_,cX u hu he,⟨p.Words,H,p.aa⟩,by rw [aej],hP.words,hH,hP.br⟩
   ·have hv:=Gp u hu he;obtain ⟨e,ia⟩ : ∃ e,u.2.2=e:=⟨_,rfl⟩;rw [ia] at he hv ⊢;refine Wz ?_;refine SW.alloc rfl fun tL w1 ai lR cw => ?_
    skip;refine SW.ag cw rfl rfl rfl rfl (dY H) fun w2 lS hg => ?_
    have ak:=ai.own lR hg;have uc:=hw.up lR
    obtain ⟨hw,ar⟩:=df ak hw ar;have cw:=lS;clear lS ai hg ak;refine Wz ?_;refine SW.ag ar rfl rfl rfl rfl (aY .zero) fun ji hR hg => ?_
    have hw:=hw.own cS hg;refine Wz ?_;exact ae.fg rfl rfl rfl rfl hR rfl ⟨_,rfl,hw,_,hv,yh.zero _ _ _⟩
  ·repeat' (first|refine Wz ?_|(refine SW.st (fG (r:=16*p) rfl rfl (by omega) (by omega) Vh (by omega) (by omega)) rfl ?_))
   refine ae.again (j+1) ⟨rfl,rfl,rfl,rfl,rfl,trivial⟩ (by omega) ⟨by omega,hw,aq,ar,fun m h => ?_⟩;by_cases e:m=j
   ·subst e;rw [hp];omega
   ·exact hI m (by omega)
 ·obtain rfl:j=5:=by omega
  have hn:=Pm hI;refine Wz ?_;refine SW.ag ar rfl rfl rfl rfl (aY .zero) fun w5 cX hg => ?_
  have hw:=hw.own cS hg;refine Wz ?_;exact ae.fg rfl rfl rfl rfl cX rfl ⟨_,rfl,hw,_,.size hq hn,yh.zero 9 _ _⟩
theorem NQ (l:List Int) (t f k:Int) : (BI l t f k).length<=l.length:=by
 unfold BI;split
 ·rw [wV (by omega) (by omega)];exact adg _
 ·exact ad3 _
theorem KU (h:s.cK) (t f k:Int) : (FB s t f k).cK:=by
 have:=NQ s.Words t f k
 have h1:=h.small.words;exact ⟨⟨by simp only [FB];omega,h.small.heap,h.small.br,h.small.each⟩,h.ct,h.aE,h.names⟩
set_option maxHeartbeats 4000000 in
theorem AZ (r:da) (s:ah) (cpu a n:Int) (w:World) (hr:Bh w r s) (hI:dM s) (ha : -9223372036854775808<=a∧a<=9223372036854775807) (hS:iC w) (eG:mN w) :
 bF prog 34 [.agg (aP r).toArray,.int .i64 cpu,.int .i64 a,.int .i64 n] w fun v w' => ∃ u,nE s cpu a n u∧yh w.heap.size u v w':=by
 have hf:=hI.cK;have hs:=hf.small;have hM:=hI.may;have ec:=hr.heap.cpus;refine aC func34 rfl ntmps34 rfl ?_;refine CW.seq (CW.region (SW.box rfl rfl fun b4 w1 hw fP aI => ?_));have l4:=aI.lt;refine SW.alloc rfl fun b8 w2 bt oG bi => ?_
 have gG:w.heap.size<=b8:=adf hw.size oG
 (replace hw:=Ext.trans hw bt;replace aI:=aI.ext bt);clear bt;have l8:=bi.lt;refine Wz ?_;refine Wk (MS r s a _ (hr.ext hw) hf ha (hS.ext hw)) fun v w3 nT hv => ?_
 obtain ⟨u,hu,rfl⟩:=hv;(replace hw:=Ext.trans hw nT;replace aI:=aI.ext nT;replace bi:=bi.ext nT);clear nT;by_cases he:u.2=0
 rotate_left
 ·have hR:=nE.size (cpu:=cpu) (n:=n) hu he;obtain ⟨z,e⟩:=u;simp only at he hR ⊢;refine Wz ?_;refine SW.ag bi rfl rfl rfl rfl (aY .zero) fun w7 j1 hg => ?_
  replace hw:=hw.own gG hg;refine Wz ?_;exact ae.fg rfl rfl rfl rfl j1 rfl ⟨_,rfl,hw,_,hR,yh.zero _ _ _⟩
 by_cases hc:me s cpu∧1<=n
 rotate_left
 ·have hR:=nE.range hu he hc;obtain ⟨z,e⟩:=u;simp only at he hR ⊢;subst he;unfold me at hc;have lT:cpu<0∨(0<=cpu∧s.Heap.bG<=cpu)∨((0<=cpu∧cpu<s.Heap.bG)∧n<1):=by omega
  rw [<- ec] at lT;rcases lT with h|h|h
  all_goals refine Wz ?_
  all_goals
   refine SW.ag bi rfl rfl rfl rfl (aY .zero) fun w7 j1 hg => ?_
   replace hw:=hw.own gG hg;refine Wz ?_;exact ae.fg rfl rfl rfl rfl j1 rfl ⟨_,rfl,hw,_,hR,yh.zero _ _ _⟩
 have BS:=hc.1;have Qc:=hc.2;unfold me at BS;rw [<- ec] at BS;by_cases hn:n<=u.1
 ·have hR:=nE.stay hu he hc hn;obtain ⟨z,e⟩:=u;simp only at he hn ⊢;subst he;refine Wz ?_;refine Wk (mv r s _ (hr.ext hw) hs) fun v w9 tB hv => ?_
  obtain ⟨p,cs',rfl,NL,_⟩:=hv;have hP:=NL.x9.low hw.size;(replace hw:=Ext.trans hw tB;replace aI:=aI.ext tB;replace bi:=bi.ext tB);clear tB NL;refine Wz ?_;refine SW.ag bi rfl rfl rfl rfl (aY p) fun w7 j1 hg => ?_
  have hG:=bi.gr hg;replace hw:=hw.own gG hg;(replace hP:=hP.aK hG rfl);refine Wz ?_;exact ae.fg rfl rfl rfl rfl j1 rfl ⟨_,rfl,hw,_,hR,p,rfl,hP⟩
 have Gp:=fun v hv h0=>nE.fault (v:=v) hu he hc hn hv h0
 have cX:=fun v u hv h0 ur h1=>nE.free (v:=v) (u:=u) hu he hc hn hv h0 ur h1
 have Ls:=fun v u hv h0 ur h1=>nE.ok (v:=v) (u:=u) hu he hc hn hv h0 ur h1
 obtain ⟨z,e⟩:=u;simp only at he hn Gp cX Ls ⊢;subst he;refine Wz ?_;refine Wk (uI r s cpu n _ (hr.ext hw) hf (hS.ext hw) (eG.ext hw)) fun v w4 kz hv => ?_
 obtain ⟨v,hv,q,rfl,hq⟩:=hv;replace hq:=hq.low hw.size;(replace hw:=Ext.trans hw kz;replace aI:=aI.ext kz;replace bi:=bi.ext kz);clear kz;replace Gp:=Gp v hv;replace cX:=fun u=>cX v u hv
 replace Ls:=fun u=>Ls v u hv
 have Qw:=fun h0=>hv.step hI h0
 obtain ⟨t,to,e⟩:=v;simp only at Gp cX Ls Qw hq ⊢;refine Wz ?_;have l8:=bi.lt;have l4:=aI.lt;refine SW.alloc rfl fun tL w1 ai lR cw => ?_
 skip;refine SW.ag cw rfl rfl rfl rfl (aY q) fun w2 lS hg => ?_
 have ak:=ai.own lR hg;have uc:w.heap.size<=tL:=adf hw.size lR
 replace hw:=Ext.trans hw ak;replace aI:=aI.ext ak;replace bi:=bi.ext ak;replace hq:=hq.ext ak;replace cw:=lS;clear lS ai hg ak;have l13:=cw.lt;by_cases he:e=0
 rotate_left
 ·refine Wz ?_;refine SW.ag bi rfl rfl rfl rfl (aY .zero) fun w7 j1 hg => ?_
  replace hw:=hw.own gG hg;refine Wz ?_;exact ae.fg rfl rfl rfl rfl j1 rfl ⟨_,rfl,hw,_,Gp he,yh.zero _ _ _⟩
 obtain ⟨_,_,_,Qp,_,_⟩:=Qw he;replace cX:=fun u=>cX u he
 replace Ls:=fun u=>Ls u he
 subst he;have Zj:=Qp.cK;have m1:=Zj.small.words;have wl:=hq.words.len;have n8:b8≠tL:=by omega
 have n4:b4≠tL:=by omega
 refine Wz ?_;refine Wk (Nb q.Words.A q.Words.n q.Words.c t.Words to a z _ hq.words.sl (by omega) hq.words.L4) fun v w5 oC hv => ?_
 have key:∃ X m c e1,v = .tuple #[.slice X m c,.int .i64 e1]∧Own w5 w.heap.size 3 1 bw X m c (BI t.Words to a z):=by
  unfold yP at hv;unfold BI;by_cases h : 0<=to∧0<=a∧0<=z∧to+z<=t.Words.length∧a+z<=t.Words.length
  ·rw [if_pos (by omega)] at hv;obtain ⟨X,c,rfl,hX⟩:=hv;rw [if_pos h];exact ⟨X,_,c,0,rfl,hX.low hw.size⟩
  ·rw [if_neg (by omega)] at hv;rw [if_neg h];exact ⟨none,0,0,1,hv,Own.fF _ _ _ _ _ _⟩
 obtain ⟨X,m,c,e1,rfl,hX⟩:=key;(replace hw:=Ext.trans hw oC;replace aI:=aI.ext oC;replace bi:=bi.ext oC;replace cw:=cw.ext oC;replace hq:=hq.ext oC);clear oC;refine Wz ?_;refine Wb (i:=0) cw fun w5 lS hg => ?_
 have hG:=cw.gr hg;replace bi:=bi.grown hg (by simpa using n8);replace aI:=aI.grown hg (by simpa using n4);replace hw:=hw.own uc hg;(replace hq:=hq.aK hG rfl;replace hX:=hX.aK hG rfl);replace cw:aS w5 tL 44 (aP ⟨⟨X,m,c⟩,q.Heap,q.aa⟩):=lS;clear lS hG hg;have lA:iY w5 w.heap.size ⟨⟨X,m,c⟩,q.Heap,q.aa⟩ (FB t to a z):=⟨hX,hq.heap,hq.br⟩
 clear hq hX;refine Wz ?_;refine Wk (xh _ (FB t to a z) cpu a _ lA.rd (KU Zj to a z) ha (hS.ext hw)) fun v w6 Fj hv => ?_
 obtain ⟨u,Zk,p,rfl,hp⟩:=hv;replace hp:=hp.low hw.size;(replace hw:=Ext.trans hw Fj;replace aI:=aI.ext Fj;replace bi:=bi.ext Fj;replace cw:=cw.ext Fj);clear Fj lA;replace cX:=cX u Zk;replace Ls:=Ls u Zk;obtain ⟨t2,e2⟩:=u;simp only at cX Ls hp ⊢;refine Wz ?_;refine SW.ag cw rfl rfl rfl rfl (aY p) fun w7 lS hg => ?_
 have hG:=cw.gr hg;replace bi:=bi.grown hg (by simpa using n8);replace hw:=hw.own uc hg;(replace hp:=hp.aK hG rfl);replace cw:=lS;clear lS hG hg;by_cases he:e2=0
 ·replace Ls:=Ls he;subst he;refine Wz ?_;refine SW.ag bi rfl rfl rfl rfl (aY p) fun w7 j1 hg => ?_
  have hG:=bi.gr hg;replace hw:=hw.own gG hg;(replace hp:=hp.aK hG rfl);refine Wz ?_;exact ae.fg rfl rfl rfl rfl j1 rfl ⟨_,rfl,hw,_,Ls,p,rfl,hp⟩
 ·refine Wz ?_;refine SW.ag bi rfl rfl rfl rfl (aY .zero) fun w7 j1 hg => ?_
  replace hw:=hw.own gG hg;refine Wz ?_;exact ae.fg rfl rfl rfl rfl j1 rfl ⟨_,rfl,hw,_,cX he,yh.zero _ _ _⟩
variable {c2 lo:Nat} {G:Nat->Prop} {A A2:Option Addr} {w w':World}
theorem sD.aside {n c n2:Nat} {r:da} {cs:List dS} {l:List Int} (h:SX w lo r s cs) (hJ:SJ (fun g=>aJ A c=some g) w lo r s cs) (hO:Own w lo 3 1 bw A n c l) (hg:w.grownBy w' (aJ A c)) (Pg:∀ g,aJ A2 c2=some g->aJ A c=some g∨w.heap.size<=g) :
 SX w' lo r s cs∧SJ (fun g=>aJ A2 c2=some g) w' lo r s cs:=by
 obtain ⟨m1,m0,h1,h0,h3⟩:=hJ.ints;have hG:=hO.gr hg;have HB:=h.IY
 obtain ⟨m2,k1,k2,h2⟩ : ∃ m2,m2<=m0∧m2<=w.heap.size∧jM w m1 m2 r.Heap s.Heap:=by
  rcases Nat.le_total m0 w.heap.size with e|e
  ·exact ⟨m0,adg _,e,h0⟩
  ·exact ⟨w.heap.size,e,adg _,h0.own.vq⟩
 have hh:jM w' m1 m2 r.Heap s.Heap:=by
  cases e:aJ A c with
  | none=>rw [e] at hg;exact h2.aK (⟨none,hg,fun k hk=>by cases hk⟩ : rL w w' 44) rfl
  | some g =>
    rw [e] at hg;have:=(h3 g (.inr e)).1
    exact h2.IS hg hG (by omega)
 refine ⟨⟨h.words.apart hg fun g e e2=>(h3 g (.inr e2)).2 e,hh.own.low h1,h.row.aK hG rfl,⟨h.each.len,fun k a1 a2 => ?_⟩,h.pair⟩,⟨⟨m1,m2,h1,hh,fun g e => ?_⟩,fun u hu g e e2 => ?_⟩⟩
 ·have ho:=h.each.get k a1 a2;exact ⟨ho.size,ho.per,ho.order,ho.names.aK hG rfl,ho.aE.aK hG rfl,ho.ba.apart hg fun g e e2=>hJ.sep _ (adb a1) g e2 e⟩
 ·rcases e with e|e
  ·have:=h3 g (.inl e)
   exact ⟨by omega,this.2⟩
  ·rcases Pg g e with e2|e2
   ·have:=h3 g (.inr e2)
    exact ⟨by omega,this.2⟩
   ·exact ⟨.inr (by omega),fun e3=>by have:=h.words.lt_size g e3;omega⟩
 ·rcases Pg g e with e3|e3
  ·exact hJ.sep u hu g e3 e2
  ·have:=HB u hu g e2
   omega
theorem SJ.none {r:da} {cs:List dS} (h:SJ (fun _=>False) w lo r s cs) (hG:∀ g,¬ G g) : SJ G w lo r s cs:=by
 obtain ⟨m1,m2,h1,h2,h3⟩:=h.ints;exact ⟨⟨m1,m2,h1,h2,fun g e=>h3 g (e.imp id fun e=>hG g e)⟩,fun u hu g e=>(hG g e).elim⟩
theorem Own.same {n c:Nat} {l:List Int} (h:Own w lo 3 1 bw A n c l) (hk:∀ j x,aJ A c=some j->aS w j 3 x->aS w' j 3 x) : Own w' lo 3 1 bw A n c l:=by
 refine ⟨h.len,?_⟩;rcases h.row with e|⟨hc,g,jV,rfl,dD,h1,h2⟩
 ·exact .inl e
 ·have e:aJ (some ⟨g,0,none⟩) c=some g:=by unfold aJ;rw [if_neg (by omega)];rfl
  have:=hk g jV.toList e (by unfold aS;simpa using h1)
  unfold aS at this;exact .inr ⟨hc,g,jV,rfl,dD,by simpa using this,h2⟩
set_option maxHeartbeats 8000000 in
theorem vS (r:da) (s:ah) (n:ByteArray) (cpu many:Int) (w:World) (hr:Bh w r s) (hf:s.cK) (N8:n.size<=140737488351232) (eG:mN w) :
 bF prog 59 [.agg (aP r).toArray,.string n,.int .i64 cpu,.int .i64 many] w fun v w' => ∃ u,oo s n cpu many u ∧ ∃ q A c,v = .tuple #[.agg (aP q).toArray,.slice A u.2.1.length c,.int .i64 u.2.2]∧iY w' w.heap.size q u.1∧Own w' w.heap.size 3 1 bw A u.2.1.length c u.2.1:=by
 refine aC func59 rfl ntmps59 rfl ?_;refine CW.seq (CW.region (SW.box rfl rfl fun b3 w1 hw cg aq => ?_));refine SW.alloc rfl fun b6 w3 nT dw ar => ?_
 have cS:=hw.up dw
 have bJ:b6≠b3:=by have:=aq.lt;omega
 have hz:∀ w',iY w' w.heap.size da.zero ah.zero:=fun w'=>⟨Own.fF _ _ _ _ _ _,jH.zero w' _,⟨[],fw.nil _ _⟩⟩
 (obtain ⟨hw,aq⟩:=df nT hw aq);repeat' (first|refine Wz ?_|fail);refine Wk (yO r s n cpu _ (hr.ext hw) hf N8) fun v w4 ak hv => ?_
 have oD:=hw.size;(obtain ⟨hw,aq,ar⟩:=cn ak hw aq ar);rcases hv with ⟨he,rfl⟩|⟨he,q,cs,rfl,hO,hI⟩
 ·have hP:=oo.ask (many:=many) he;obtain ⟨e,hE⟩ : ∃ e,iU s n cpu=e:=⟨_,rfl⟩;rw [hE] at he hP;rw [hE];repeat' (first|refine Wz ?_|fail);refine SW.ag aq rfl rfl rfl rfl (aY .zero) fun w5 ed hg => ?_
  have ar:=ar.grown hg (by simpa using bJ);have hw:=hw.own cg hg;repeat' (first|refine Wz ?_|fail);all_goals try omega
  refine SW.ag ar rfl rfl rfl rfl (aY .zero) fun w6 cX hg => ?_
  have hw:=hw.own cS hg;repeat' (first|refine Wz ?_|fail);exact ae.fg rfl rfl rfl rfl cX rfl ⟨_,rfl,hw,_,hP,.zero,none,0,rfl,hz _,Own.fF _ _ _ _ _ _⟩
 ·have hO:=hO.low oD;have hI:=hI.low oD;obtain ⟨i,c,rU,rfl,hM,hB⟩:=O2 he hf;rw [rU];repeat' (first|refine Wz ?_|fail);refine SW.ag aq rfl rfl rfl rfl (aY q) fun w5 ed hg => ?_
  have hG:=aq.gr hg;have ar:=ar.grown hg (by simpa using bJ);have hw:=hw.own cg hg;(obtain ⟨hO,hI⟩:=df hG hO hI);have aq:=ed;clear ed hG hg;by_cases hm : 1<=many∧many<=256
  ·obtain ⟨m,rfl⟩:=adn (show 0<=many by omega);have hP:∀ u,om i c m s [] u->oo s n c m u:=fun u hu=>oo.Ed he hm rU hu
   have wS:m<=256:=by omega
   repeat' (first|refine Wz ?_|fail);all_goals try omega
   refine CW.loop (fun t:Nat×(Option Addr×Nat×List Int)×da×ah×List dS=>[(2,.int .i64 (c:Int)),(4,.pointer (some ⟨b3,0,none⟩)),(8,.pointer (some ⟨b6,0,none⟩)),(11,.int .i64 (i:Int)),(13,.slice t.2.1.1 t.1 t.2.1.2.1),(35,.int .i64 (m:Int)),(36,.int .i64 (t.1:Int))])
    (fun t w'=>t.1<=m∧Ext w w'∧aS w' b3 44 (aP t.2.2.1)∧aS w' b6 44 (aP .zero)∧SX w' w.heap.size t.2.2.1 t.2.2.2.1 t.2.2.2.2∧SJ (fun g=>aJ t.2.1.1 t.2.1.2.1=some g) w' w.heap.size t.2.2.1 t.2.2.2.1 t.2.2.2.2∧Own w' w.heap.size 3 1 bw t.2.1.1 t.1 t.2.1.2.1 t.2.1.2.2∧Bk t.2.2.2.1 i c ∧ ∀ u,om i c (m-t.1) t.2.2.2.1 t.2.1.2.2 u->om i c m s [] u)
    (fun t=>m-t.1) (0,(none,0,[]),q,s,cs) ⟨rfl,rfl,rfl,rfl,rfl,rfl,rfl,trivial⟩ ⟨ad3 _,hw,aq,ar,hO,hI.sj.none (fun g e=>by cases e),Own.fF _ _ _ _ _ _,hB,fun u hu=>hu⟩ ?_
   clear hw aq ar hO hI hB hM;rintro ⟨j,⟨A,ca,l⟩,q1,s1,cs1⟩ w6 ⟨hj,hw,aq,ar,hS,hJ,hO,hB,hR⟩
   simp only at hj aq hS hJ hO hB hR ⊢;by_cases X0:j<m
   ·have yC:=ti hB.inv;repeat' (first|refine Wz ?_|fail);all_goals try omega
    refine SW.dX rfl rfl (I4 (fun g=>aJ A ca=some g) w _ b3 q1 s1 cs1 i c hB.cK hB.hi hB.inv (eG.ext hw) hw aq cg hS hJ (fun g e=>hO.lt_size g e) hB.qj (by omega)) fun v w7 hv => ?_
    obtain ⟨M,ye,hx7,ux,Gt,hv⟩:=hv;have ar:=ux _ _ bJ ar;have hO:=hO.same Gt;have nk:m-j=(m-(j+1))+1:=by omega
    rw [nk] at hR;clear hw hS hJ;have hw:=hx7;rcases hv with ⟨hn,ia,rfl⟩|⟨M,rfl,rfl,X,H,Vb,hb,hS,hJ⟩
    ·have hQ:=hP _ (hR _ (.bad hB.hi ye hn));obtain ⟨m1,e⟩:=M;simp only at hn ia hQ;repeat' (first|refine Wz ?_|fail);all_goals try omega
     refine SW.ag ar rfl rfl rfl rfl (aY .zero) fun w8 cX hg => ?_
     have hw:=hw.own cS hg;repeat' (first|refine Wz ?_|fail);exact ae.fg rfl rfl rfl rfl cX rfl ⟨_,rfl,hw,_,hQ,.zero,none,0,rfl,hz _,Own.fF _ _ _ _ _ _⟩
    ·have qA:=hB.Ed ye;have cX:∀ u,om i c (m-(j+1)) (uv s1 i c M) (l++[(ir M.c M.k).ck]) u->om i c m s [] u:=fun u hu=>hR u (.more hB.hi ye hu)
     obtain ⟨a,ha⟩ : ∃ a,(ir M.c M.k).ck=a:=⟨_,rfl⟩;obtain ⟨s2,gR⟩ : ∃ s2,uv s1 i c M=s2:=⟨_,rfl⟩;rw [show bI (nb s1 M.ws) i (M.h,dL M.c c M.k (M.ws.getD (ir M.c M.k).ck.toNat 0))=s2 from gR] at hS hJ;rw [ha,gR] at cX;rw [gR] at qA;rw [ha];repeat' (first|refine Wz ?_|fail);all_goals try omega
     refine SW.dI rfl rfl rfl rfl rfl fun bn w9 ak T4 Pf => ?_
     (obtain ⟨hw,hb,ar,hS,hJ,hO⟩:=gw ak hw hb ar hS hJ hO);refine SW.DB hO (aS.ue (enc:=bw) (x:=a) Pf) hw.size (by omega) rfl rfl rfl (by omega) (by omega) fun A2 c2 pE bj hg Pg => ?_
     obtain ⟨yN,xo⟩:=hS.aside (n2:=0) hJ hO hg Pg;have hG:=hO.gr hg;have hw:=aD hw hg (adg _) hO.a9;(obtain ⟨hb,ar⟩:=df hG hb ar);repeat' (first|refine Wz ?_|fail);exact ae.again (j+1,(A2,c2,l++[a]),⟨X,H,q1.aa⟩,s2,Vb) ⟨rfl,rfl,rfl,rfl,rfl,rfl,rfl,trivial⟩ (by simp only;omega) ⟨by simp only;omega,hw,hb,ar,yN,xo,bj,qA,cX⟩
   ·obtain rfl:j=m:=by omega
    have hQ:=hP _ (hR (s1,l,0) (by rw [afh];exact .done));have mH:=hO.len;repeat' (first|refine Wz ?_|fail);all_goals try omega
    refine SW.ag ar rfl rfl rfl rfl (aY q1) fun w7 cX hg => ?_
    have hG:=ar.gr hg;have hw:=hw.own cS hg;(obtain ⟨hS,hO⟩:=df hG hS hO);repeat' (first|refine Wz ?_|fail);exact ae.fg rfl rfl rfl rfl cX rfl ⟨_,rfl,hw,_,hQ,_,A,ca,by rw [mH],hS.x9,by rw [mH];exact hO⟩
  ·have hP:=oo.range he hm;repeat' (first|refine Wz ?_|refine SW.gi rfl rfl rfl (fun h => ?_) (fun h => ?_))
   all_goals try omega
   all_goals refine SW.ag ar rfl rfl rfl rfl (aY .zero) fun w7 cX hg => ?_
   all_goals have hw:=hw.own cS hg
   repeat' (first|refine Wz ?_|fail);all_goals exact ae.fg rfl rfl rfl rfl cX rfl ⟨_,rfl,hw,_,hP,.zero,none,0,rfl,hz _,Own.fF _ _ _ _ _ _⟩
variable {R:Ending->World->Prop} {fn:Func} {cs:List Value} {b m:Nat} {P:Program}
theorem ae.F6 {n:Nat} {L:Env} {t u q o ty tb:Nat} {x y z:Value} [c:fE P ty m] (hr:fn.results = #[.cell t ty,.tmp u,.tmp q,.tmp o]) (hv:get L t=some (.pointer (some ⟨b,0,none⟩))) (hx:get L u=some x) (hy:get L q=some y) (hz:get L o=some z) (hB:aS w b tb cs) (hl:Nat.beq cs.length m=true) (h:R (.returned (.tuple #[.agg cs.toArray,x,y,z])) w) : ae n (bodyPost P fn R) .ret L w :=
 ⟨fun a ha=>⟨ha.defers,_,by simpa using mI.results (rs:=[.cell t ty,.tmp u,.tmp q,.tmp o]) hr (.cell c hv hB (adF hl) (.tmp hx (.tmp hy (.tmp hz .nil)))) ha,h⟩⟩
def UG (lo:Nat) (u:ah×Int×List Int×Int) (v:Value) (w:World) : Prop := ∃ q A c,v = .tuple #[.agg (aP q).toArray,.int .i64 u.2.1,.slice A u.2.2.1.length c,.int .i64 u.2.2.2]∧iY w lo q u.1∧Own w lo 3 1 bw A u.2.2.1.length c u.2.2.1
def xi (a:cJ) : Prop := ∀ (r:da) (s:ah) (lo:Nat) (w:World),iY w lo r s->lo<=w.heap.size->dM s->mN w ->
 bF prog 30 [.agg (aP r).toArray,.agg (ew a).toArray] w fun v w' => ∃ u,ff s a u∧UG lo u v w'
set_option maxHeartbeats 4000000 in
theorem F7 (a:cJ) (hk:a.Kind=3) (sA:a.Name.size<=140737488351232) : xi a:=by
 intro r s lo w hO dD hI eG;obtain ⟨k,cpu,n,m,At,fl,nm⟩:=a;simp only at hk sA ⊢;subst hk;have hf:=hI.cK;refine aC func30 rfl ntmps30 rfl ?_;refine CW.seq (CW.region (SW.box rfl rfl fun b2 w1 hw fA au => ?_));have l2:=au.lt;refine SW.box rfl rfl fun b3 w2 bt cg aq => ?_
 (obtain ⟨hw,au⟩:=df bt hw au);clear bt;have l3:=aq.lt;refine SW.alloc rfl fun b4 w2 bt fP aI => ?_
 have eH:=hw.up fP
 (obtain ⟨hw,au,aq⟩:=cn bt hw au aq);clear bt;have NN:b4≠b2:=by omega
 repeat' (first|refine Wy ?_|refine Wm ((fun _ _=>au.cell)) ?_|refine Wl (aq.cell (i:=0) (v := .int .i64 3) rfl) ?_|refine Wl (aq.cell (i:=6) (v := .string nm) rfl) ?_|refine Wl (aq.cell (i:=2) (v := .int .i64 n) rfl) ?_|refine Wl (aq.cell (i:=3) (v := .int .i64 m) rfl) ?_)
 refine Wk (uF r s nm n m _ (hO.rd.ext hw) hf sA) fun v w7 jF hv => ?_
 obtain ⟨u,hu,q,rfl,hH⟩:=hv;have hA:=ff.ou (s:=s) (a:=⟨3,cpu,n,m,At,fl,nm⟩) rfl hu;have hH:=hH.low (adf dD hw.size);(obtain ⟨hw,au,aq,aI⟩:=dv jF hw au aq aI);clear jF;obtain ⟨u1,e⟩:=u;simp only at hA hH ⊢;repeat' (first|refine Wy ?_|fail);refine SW.ag au rfl rfl rfl rfl (aY q) fun rI ot hg => ?_
 have hG:=au.gr hg;have aI:=aI.grown hg (by simpa using NN);have hw:=hw.own fA hg;(have hH:=hH.aK hG rfl);have au:=ot;clear ot hG hg;repeat' (first|refine Wy ?_|refine Wm ((fun _ _=>au.cell)) ?_)
 refine SW.ag aI rfl rfl rfl rfl (aY q) fun ji j1 hg => ?_
 have hG:=aI.gr hg;have hw:=hw.own eH hg;(have hH:=hH.aK hG rfl);repeat' (first|refine Wy ?_|fail);exact ae.F6 rfl rfl rfl rfl rfl j1 rfl ⟨_,rfl,hw,_,hA,q,none,0,rfl,hH,Own.fF _ _ _ _ _ _⟩
set_option maxHeartbeats 4000000 in
theorem F8 (a:cJ) (hk:a.Kind=5) (sA:a.Name.size<=140737488351232) : xi a:=by
 intro r s lo w hO dD hI eG;obtain ⟨k,cpu,n,m,At,fl,nm⟩:=a;simp only at hk sA ⊢;subst hk;have hf:=hI.cK;refine aC func30 rfl ntmps30 rfl ?_;refine CW.seq (CW.region (SW.box rfl rfl fun b2 w1 hw fA au => ?_));have l2:=au.lt;refine SW.box rfl rfl fun b3 w2 bt cg aq => ?_
 (obtain ⟨hw,au⟩:=df bt hw au);clear bt;have l3:=aq.lt;refine SW.alloc rfl fun b4 w2 bt fP aI => ?_
 have eH:=hw.up fP
 (obtain ⟨hw,au,aq⟩:=cn bt hw au aq);clear bt;have NN:b4≠b2:=by omega
 repeat' (first|refine Wy ?_|refine Wm ((fun _ _=>au.cell)) ?_|refine Wl (aq.cell (i:=0) (v := .int .i64 5) rfl) ?_|refine Wl (aq.cell (i:=6) (v := .string nm) rfl) ?_|refine Wl (aq.cell (i:=1) (v := .int .i64 cpu) rfl) ?_)
 refine Wk (pF r s nm cpu _ (hO.rd.ext hw) hf sA (eG.ext hw)) fun v w7 jF hv => ?_
 obtain ⟨u,hu,q,rfl,hH⟩:=hv;have hA:=ff.new (s:=s) (a:=⟨5,cpu,n,m,At,fl,nm⟩) rfl hu;have hH:=hH.low (adf dD hw.size);(obtain ⟨hw,au,aq,aI⟩:=dv jF hw au aq aI);clear jF;obtain ⟨u1,N,e⟩:=u;simp only at hA hH ⊢;repeat' (first|refine Wy ?_|fail);refine SW.ag au rfl rfl rfl rfl (aY q) fun rI ot hg => ?_
 have hG:=au.gr hg;have aI:=aI.grown hg (by simpa using NN);have hw:=hw.own fA hg;(have hH:=hH.aK hG rfl);have au:=ot;clear ot hG hg;repeat' (first|refine Wy ?_|refine Wm ((fun _ _=>au.cell)) ?_)
 refine SW.ag aI rfl rfl rfl rfl (aY q) fun ji j1 hg => ?_
 have hG:=aI.gr hg;have hw:=hw.own eH hg;(have hH:=hH.aK hG rfl);repeat' (first|refine Wy ?_|fail);exact ae.F6 rfl rfl rfl rfl rfl j1 rfl ⟨_,rfl,hw,_,hA,q,none,0,rfl,hH,Own.fF _ _ _ _ _ _⟩
set_option maxHeartbeats 4000000 in
theorem F9 (a:cJ) (hk:a.Kind=6) (sA:a.Name.size<=140737488351232) (BG : -9223372036854775808<=a.At∧a.At<=9223372036854775807) : xi a:=by
 intro r s lo w hO dD hI eG;obtain ⟨k,cpu,n,m,At,fl,nm⟩:=a;simp only at hk sA BG ⊢;subst hk;have hf:=hI.cK;refine aC func30 rfl ntmps30 rfl ?_;refine CW.seq (CW.region (SW.box rfl rfl fun b2 w1 hw fA au => ?_));have l2:=au.lt;refine SW.box rfl rfl fun b3 w2 bt cg aq => ?_
 (obtain ⟨hw,au⟩:=df bt hw au);clear bt;have l3:=aq.lt;refine SW.alloc rfl fun b4 w2 bt fP aI => ?_
 have eH:=hw.up fP
 (obtain ⟨hw,au,aq⟩:=cn bt hw au aq);clear bt;have NN:b4≠b2:=by omega
 repeat' (first|refine Wy ?_|refine Wm ((fun _ _=>au.cell)) ?_|refine Wl (aq.cell (i:=0) (v := .int .i64 6) rfl) ?_|refine Wl (aq.cell (i:=6) (v := .string nm) rfl) ?_|refine Wl (aq.cell (i:=1) (v := .int .i64 cpu) rfl) ?_|refine Wl (aq.cell (i:=4) (v := .int .i64 At) rfl) ?_)
 refine Wk (rB r s nm cpu At _ (hO.rd.ext hw) hf sA BG) fun v w7 jF hv => ?_
 obtain ⟨u,hu,q,rfl,hH⟩:=hv;have hA:=ff.drop (s:=s) (a:=⟨6,cpu,n,m,At,fl,nm⟩) rfl hu;have hH:=hH.low (adf dD hw.size);(obtain ⟨hw,au,aq,aI⟩:=dv jF hw au aq aI);clear jF;obtain ⟨u1,e⟩:=u;simp only at hA hH ⊢;repeat' (first|refine Wy ?_|fail);refine SW.ag au rfl rfl rfl rfl (aY q) fun rI ot hg => ?_
 have hG:=au.gr hg;have aI:=aI.grown hg (by simpa using NN);have hw:=hw.own fA hg;(have hH:=hH.aK hG rfl);have au:=ot;clear ot hG hg;repeat' (first|refine Wy ?_|refine Wm ((fun _ _=>au.cell)) ?_)
 refine SW.ag aI rfl rfl rfl rfl (aY q) fun ji j1 hg => ?_
 have hG:=aI.gr hg;have hw:=hw.own eH hg;(have hH:=hH.aK hG rfl);repeat' (first|refine Wy ?_|fail);exact ae.F6 rfl rfl rfl rfl rfl j1 rfl ⟨_,rfl,hw,_,hA,q,none,0,rfl,hH,Own.fF _ _ _ _ _ _⟩
set_option maxHeartbeats 4000000 in
theorem Ga (a:cJ) (hk:a.Kind=7) (sA:a.Name.size<=140737488351232) : xi a:=by
 intro r s lo w hO dD hI eG;obtain ⟨k,cpu,n,m,At,fl,nm⟩:=a;simp only at hk sA ⊢;subst hk;have hf:=hI.cK;refine aC func30 rfl ntmps30 rfl ?_;refine CW.seq (CW.region (SW.box rfl rfl fun b2 w1 hw fA au => ?_));have l2:=au.lt;refine SW.box rfl rfl fun b3 w2 bt cg aq => ?_
 (obtain ⟨hw,au⟩:=df bt hw au);clear bt;have l3:=aq.lt;refine SW.alloc rfl fun b4 w2 bt fP aI => ?_
 have eH:=hw.up fP
 (obtain ⟨hw,au,aq⟩:=cn bt hw au aq);clear bt;have NN:b4≠b2:=by omega
 repeat' (first|refine Wy ?_|refine Wm ((fun _ _=>au.cell)) ?_|refine Wl (aq.cell (i:=0) (v := .int .i64 7) rfl) ?_|refine Wl (aq.cell (i:=6) (v := .string nm) rfl) ?_)
 refine Wk (As r s nm _ (hO.rd.ext hw) hf sA) fun v w7 jF hv => ?_
 obtain ⟨q,rfl,hH⟩:=hv;have hA:=ff.shrink (s:=s) (a:=⟨7,cpu,n,m,At,fl,nm⟩) rfl;generalize iM s nm=u at hA hH ⊢
 have hH:=hH.low (adf dD hw.size);(obtain ⟨hw,au,aq,aI⟩:=dv jF hw au aq aI);clear jF;obtain ⟨u1,e⟩:=u;simp only at hA hH ⊢;repeat' (first|refine Wy ?_|fail);refine SW.ag au rfl rfl rfl rfl (aY q) fun rI ot hg => ?_
 have hG:=au.gr hg;have aI:=aI.grown hg (by simpa using NN);have hw:=hw.own fA hg;(have hH:=hH.aK hG rfl);have au:=ot;clear ot hG hg;repeat' (first|refine Wy ?_|refine Wm ((fun _ _=>au.cell)) ?_)
 refine SW.ag aI rfl rfl rfl rfl (aY q) fun ji j1 hg => ?_
 have hG:=aI.gr hg;have hw:=hw.own eH hg;(have hH:=hH.aK hG rfl);repeat' (first|refine Wy ?_|fail);exact ae.F6 rfl rfl rfl rfl rfl j1 rfl ⟨_,rfl,hw,_,hA,q,none,0,rfl,hH,Own.fF _ _ _ _ _ _⟩
set_option maxHeartbeats 4000000 in
theorem DX (a:cJ) (hk:a.Kind=15) (sA:a.Name.size<=140737488351232) : xi a:=by
 intro r s lo w hO dD hI eG;obtain ⟨k,cpu,n,m,At,fl,nm⟩:=a;simp only at hk sA ⊢;subst hk;have hf:=hI.cK;refine aC func30 rfl ntmps30 rfl ?_;refine CW.seq (CW.region (SW.box rfl rfl fun b2 w1 hw fA au => ?_));have l2:=au.lt;refine SW.box rfl rfl fun b3 w2 bt cg aq => ?_
 (obtain ⟨hw,au⟩:=df bt hw au);clear bt;have l3:=aq.lt;refine SW.alloc rfl fun b4 w2 bt fP aI => ?_
 have eH:=hw.up fP
 (obtain ⟨hw,au,aq⟩:=cn bt hw au aq);clear bt;have NN:b4≠b2:=by omega
 repeat' (first|refine Wy ?_|refine Wm ((fun _ _=>au.cell)) ?_|refine Wl (aq.cell (i:=0) (v := .int .i64 15) rfl) ?_|refine Wl (aq.cell (i:=6) (v := .string nm) rfl) ?_|refine Wl (aq.cell (i:=1) (v := .int .i64 cpu) rfl) ?_|refine Wl (aq.cell (i:=2) (v := .int .i64 n) rfl) ?_)
 refine Wk (vS r s nm cpu n _ (hO.rd.ext hw) hf sA (eG.ext hw)) fun v w7 jF hv => ?_
 obtain ⟨u,hu,q,A,c,rfl,hH,hL⟩:=hv;have hA:=ff.bulk (s:=s) (a:=⟨15,cpu,n,m,At,fl,nm⟩) rfl hu;have hH:=hH.low (adf dD hw.size);have hL:=hL.low (adf dD hw.size);(obtain ⟨hw,au,aq,aI⟩:=dv jF hw au aq aI);clear jF;obtain ⟨u1,N,e⟩:=u;simp only at hA hH hL ⊢;repeat' (first|refine Wy ?_|fail);refine SW.ag au rfl rfl rfl rfl (aY q) fun rI ot hg => ?_
 have hG:=au.gr hg;have aI:=aI.grown hg (by simpa using NN);have hw:=hw.own fA hg;(obtain ⟨hH,hL⟩:=df hG hH hL);have au:=ot;clear ot hG hg;repeat' (first|refine Wy ?_|refine Wm ((fun _ _=>au.cell)) ?_)
 refine SW.ag aI rfl rfl rfl rfl (aY q) fun ji j1 hg => ?_
 have hG:=aI.gr hg;have hw:=hw.own eH hg;(obtain ⟨hH,hL⟩:=df hG hH hL);repeat' (first|refine Wy ?_|fail);exact ae.F6 rfl rfl rfl rfl rfl j1 rfl ⟨_,rfl,hw,_,hA,q,A,c,rfl,hH,hL⟩
set_option maxHeartbeats 16000000 in
theorem sS (a:cJ) (hk:a.Kind=3∨a.Kind=4∨a.Kind=5∨a.Kind=6∨a.Kind=7∨a.Kind=15) (hC:xi a) : jQ dM a:=by
 intro r s lo w hO dD hI hS eG;have XK:=fun w' hx=>hC r s lo w' (hO.ext hx) (adf dD hx.size) hI (eG.ext hx)
 have XL:=fun u hu=>cx.br (s:=s) (a:=a) (u:=u) (by omega) hu
 clear hC;obtain ⟨k,cpu,n,m,At,fl,nm⟩:=a;simp only at hk XK XL ⊢;refine aC func16 rfl ntmps16 rfl ?_;refine CW.seq (CW.region (SW.box rfl rfl fun b2 w1 hw fA au => ?_));have l2:=au.lt;refine SW.box rfl rfl fun b3 w2 bt cg aq => ?_
 have gd:=hw.up cg
 (obtain ⟨hw,au⟩:=df bt hw au);clear bt;have l3:=aq.lt;refine SW.alloc rfl fun b4 w2 bt fP aI => ?_
 have eH:=hw.up fP
 (obtain ⟨hw,au,aq⟩:=cn bt hw au aq);clear bt;have l4:=aI.lt;refine SW.alloc rfl fun b5 w2 bt gx aM => ?_
 have jI:=hw.up gx
 (obtain ⟨hw,au,aq,aI⟩:=dv bt hw au aq aI);clear bt;have l5:=aM.lt;repeat' (first|refine Wy ?_|refine Wm ((fun _ _=>au.cell)) ?_)
 refine SW.alloc rfl fun b6 w1 ai dw ar => ?_
 skip;refine SW.ag ar rfl rfl rfl rfl (aY r) fun w2 bQ hg => ?_
 have ak:=ai.own dw hg;have cS:=hw.up dw
 obtain ⟨hw,au,aq,aI,aM⟩:=fD ak hw au aq aI aM;have ar:=bQ;clear bQ ai hg ak;have l6:=ar.lt;repeat' (first|refine Wy ?_|fail);refine SW.alloc rfl fun b7 w1 ai iI bf => ?_
 skip;refine SW.ag bf rfl rfl rfl rfl (fr ⟨0,0,.nil⟩) fun w2 bq hg => ?_
 have ak:=ai.own iI hg;have gf:=hw.up iI
 obtain ⟨hw,au,aq,aI,aM,ar⟩:=gw ak hw au aq aI aM ar;have bf:=bq;clear bq ai hg ak;have xL:b2≠b6:=by omega
 have xM:b4≠b6:=by omega
 have NH:b2≠b4:=by omega
 have ry:b5≠b7:=by omega
 clear l2 l3 l4 l5 l6;rcases hk with rfl|rfl|rfl|rfl|rfl|rfl
 all_goals repeat' (first|refine Wy ?_|refine Wm ((fun _ _=>au.cell)) ?_|refine Wm ((fun _ _=>aq.cell)) ?_|refine Wl (aq.cell (i:=0) (v := .int .i64 3) rfl) ?_|refine Wl (aq.cell (i:=0) (v := .int .i64 4) rfl) ?_|refine Wl (aq.cell (i:=0) (v := .int .i64 5) rfl) ?_|refine Wl (aq.cell (i:=0) (v := .int .i64 6) rfl) ?_|refine Wl (aq.cell (i:=0) (v := .int .i64 7) rfl) ?_|refine Wl (aq.cell (i:=0) (v := .int .i64 15) rfl) ?_)
 all_goals
  refine Wk (XK _ hw) fun v w7 jF hv => ?_
  obtain ⟨u,hu,q,A,c,rfl,hH,hL⟩:=hv;(obtain ⟨hw,au,aI,aM,ar,bf⟩:=gw jF hw au aI aM ar bf);clear jF aq;have bj:=hO.ext hw;have hA:=XL u hu;clear XK XL hu;obtain ⟨u1,N,l,e⟩:=u;simp only at hA hH hL ⊢;by_cases he:e=0
  ·rw [mZ,if_pos he,he] at hA;rw [he];repeat' (first|refine Wy ?_|fail);refine SW.ag ar rfl rfl rfl rfl (aY q) fun rI bQ hg => ?_
   have hG:=ar.gr hg;have au:=au.grown hg (by simpa using xL);have aI:=aI.grown hg (by simpa using xM);have hw:=hw.own cS hg;(obtain ⟨aM,bf,bj,hH,hL⟩:=fD hG aM bf bj hH hL);have ar:=bQ;clear bQ hG hg;repeat' (first|refine Wy ?_|fail);refine Wb (i:=1) bf fun ji bq hg => ?_
   have hG:=bf.gr hg;have aM:=aM.grown hg (by simpa using ry);have hw:=hw.own gf hg;(obtain ⟨au,aI,ar,bj,hH,hL⟩:=gw hG au aI ar bj hH hL);have bf:aS _ b7 55 (cb ⟨0,N,.nil⟩):=bq;clear bq hG hg;repeat' (first|refine Wy ?_|fail);refine Wb (i:=2) bf fun ji bq hg => ?_
   have hG:=bf.gr hg;have aM:=aM.grown hg (by simpa using ry);have hw:=hw.own gf hg;(obtain ⟨au,aI,ar,bj,hH,hL⟩:=gw hG au aI ar bj hH hL);have bf:aS _ b7 55 (cb ⟨0,N,⟨A,l.length,c⟩⟩):=bq;clear bq hG hg;repeat' (first|refine Wy ?_|fail);refine Wb (i:=0) bf fun ji bq hg => ?_
   have hG:=bf.gr hg;have aM:=aM.grown hg (by simpa using ry);have hw:=hw.own gf hg;(obtain ⟨au,aI,ar,bj,hH,hL⟩:=gw hG au aI ar bj hH hL);have bf:aS _ b7 55 (cb ⟨0,N,⟨A,l.length,c⟩⟩):=bq;clear bq hG hg;repeat' (first|refine Wy ?_|refine Wl (bf.cell (i:=0) (v := .int .i64 0) rfl) ?_)
   refine CW.gn 2 3 (fun w2=>aS w2 b7 55 (cb ⟨0,N,⟨A,l.length,c⟩⟩)) mixed (by kernel_rfl) fun w1 ai aG => ?_
   obtain ⟨hw,au,aI,aM,ar,bf,bj,hH,hL⟩:=LG ai hw au aI aM ar bf bj hH hL;clear ai;refine Wt 0 [] [] aG rfl (aX rfl rfl ((fun _ _=>ar.cell))) ?_;refine SF.cr 1 [] aG rfl (by kernel_rfl) (by kernel_rfl) (by kernel_rfl) (aX rfl rfl ((fun _ _=>bf.cell))) (fun w2 hS=>aX rfl rfl ((fun _ _=>hS.cell))) rfl ?_;refine SF.turn rfl (by kernel_rfl) rfl ?_;refine SW.ag aI rfl rfl rfl rfl (aY q) fun w8 de hg => ?_
   have hG:=aI.gr hg;have hw:=hw.own eH hg;(obtain ⟨aM,bf,bj,hH,hL⟩:=fD hG aM bf bj hH hL);have hS:=bf;refine SW.nil (ae.sg hS ?_);refine SG.last rfl (by kernel_rfl) (by kernel_rfl) ?_;refine SW.ag aM rfl rfl rfl rfl (fr ⟨0,N,⟨A,l.length,c⟩⟩) fun w9 eV hg => ?_
   have hG:=aM.gr hg;have hw:=hw.own jI hg;(obtain ⟨de,bj,hH,hL⟩:=dv hG de bj hH hL);repeat' (first|refine Wy ?_|fail);exact ae.nr rfl rfl rfl de eV rfl rfl ⟨_,rfl,hw,_,hA,q,⟨0,N,⟨A,l.length,c⟩⟩,rfl,hH,⟨rfl,rfl,hL⟩⟩
  ·rw [mZ,if_neg he] at hA;repeat' (first|refine Wy ?_|fail);refine SW.ag ar rfl rfl rfl rfl (aY q) fun rI bQ hg => ?_
   have hG:=ar.gr hg;have au:=au.grown hg (by simpa using xL);have aI:=aI.grown hg (by simpa using xM);have hw:=hw.own cS hg;(obtain ⟨aM,bf,bj,hH,hL⟩:=fD hG aM bf bj hH hL);have ar:=bQ;clear bQ hG hg;repeat' (first|refine Wy ?_|fail);refine Wb (i:=1) bf fun ji bq hg => ?_
   have hG:=bf.gr hg;have aM:=aM.grown hg (by simpa using ry);have hw:=hw.own gf hg;(obtain ⟨au,aI,ar,bj,hH,hL⟩:=gw hG au aI ar bj hH hL);have bf:aS _ b7 55 (cb ⟨0,N,.nil⟩):=bq;clear bq hG hg;repeat' (first|refine Wy ?_|fail);refine Wb (i:=2) bf fun ji bq hg => ?_
   have hG:=bf.gr hg;have aM:=aM.grown hg (by simpa using ry);have hw:=hw.own gf hg;(obtain ⟨au,aI,ar,bj,hH,hL⟩:=gw hG au aI ar bj hH hL);have bf:aS _ b7 55 (cb ⟨0,N,⟨A,l.length,c⟩⟩):=bq;clear bq hG hg;repeat' (first|refine Wy ?_|fail);refine Wb (i:=0) bf fun ji bq hg => ?_
   have hG:=bf.gr hg;have aM:=aM.grown hg (by simpa using ry);have hw:=hw.own gf hg;(obtain ⟨au,aI,ar,bj,hH,hL⟩:=gw hG au aI ar bj hH hL);have bf:aS _ b7 55 (cb ⟨e,N,⟨A,l.length,c⟩⟩):=bq;clear bq hG hg;repeat' (first|refine Wy ?_|refine Wl (bf.cell (i:=0) (v := .int .i64 e) rfl) ?_)
   refine CW.gn 2 3 (fun w2=>aS w2 b7 55 (cb ⟨e,N,⟨A,l.length,c⟩⟩)) mixed (by kernel_rfl) fun w1 ai aG => ?_
   obtain ⟨hw,au,aI,aM,ar,bf,bj,hH,hL⟩:=LG ai hw au aI aM ar bf bj hH hL;clear ai;refine Wt 0 [] [] aG rfl (aX rfl rfl ((fun _ _=>au.cell))) ?_;refine SF.cr 1 [] aG rfl (by kernel_rfl) (by kernel_rfl) (by kernel_rfl) (aX rfl rfl ((fun _ _=>bf.cell))) (fun w2 hS=>aX rfl rfl ((fun _ _=>hS.cell))) rfl ?_;refine SF.turn rfl (by kernel_rfl) rfl ?_;refine SW.ag aI rfl rfl rfl rfl (aY r) fun w8 de hg => ?_
   have hG:=aI.gr hg;have hw:=hw.own eH hg;(obtain ⟨aM,bf,bj,hH,hL⟩:=fD hG aM bf bj hH hL);have hS:=bf;refine SW.nil (ae.sg hS ?_);refine SG.last rfl (by kernel_rfl) (by kernel_rfl) ?_;refine SW.ag aM rfl rfl rfl rfl (fr ⟨e,N,⟨A,l.length,c⟩⟩) fun w9 eV hg => ?_
   have hG:=aM.gr hg;have hw:=hw.own jI hg;(obtain ⟨de,bj,hH,hL⟩:=dv hG de bj hH hL);repeat' (first|refine Wy ?_|fail);exact ae.nr rfl rfl rfl de eV rfl rfl ⟨_,rfl,hw,_,hA,r,⟨e,N,⟨A,l.length,c⟩⟩,rfl,bj,⟨rfl,rfl,hL⟩⟩
structure sU (w:World) (lo:Nat) (s:ah) (a:cJ) (b6 b7:Nat) (q:da) (t:ah) (x:pH) (y:kI) : Prop where
 b6:aS w b6 44 (aP q)
 b7:aS w b7 55 (cb x)
 own:iY w lo q t
 ans:kv w lo x y
 act:cx s a (mZ y.Code s t,y)
def Ii (s:ah) (a:cJ) : Prop:=(a.Kind=2->(0<=a.At∧a.At<256)∧dj s (a.At*16)=true)∧(a.Kind=13∨a.Kind=14->gj s a.At true)∧(a.Kind=13->rm a.M)
theorem KV {a:cJ} (hk:a.Kind=2) (h : 0<=a.At∧a.At<256) (hw:dj s (a.At*16)=true) : cx s a (mZ (fh s.Heap a.ga a.At).1 s (rj s (fh s.Heap a.ga a.At).2),⟨(fh s.Heap a.ga a.At).1,0,[]⟩):=by
 by_cases e:(fh s.Heap a.ga a.At).1=0
 ·have:=cx.nc hk (o6.ok h hw e)
  rw [e];exact this
 ·have:=cx.nc hk (o6.fault h hw e)
  simp only [mZ,if_neg e] at this ⊢;exact this
set_option maxHeartbeats 40000000 in
theorem NR (a:cJ) (hk:a.Kind∈[8,11,5,3,6,9,7,1,2,12,15]) (BG : -9223372036854775808<=a.At∧a.At<=9223372036854775807) (sA:a.Name.size<=140737488351232) (r:da) (s:ah) (lo:Nat) (w:World) (hO:iY w lo r s) (dD:lo<=w.heap.size) (hI:dM s) (hD:Ii s a) (hS:iC w) (eG:mN w) :
 bF prog 26 [.agg (aP r).toArray,.agg (ew a).toArray] w fun v w' => ∃ u,cx s a u∧Po lo u v w':=by
 have hf:=hI.cK;have hs:=hf.small;have hwm:=hI.may.words;have wl:=hO.words.len;have Zh:=hO.words.sl.base;obtain ⟨k,cpu,n,m,At,fl,nm⟩:=a;simp only [List.mem_cons,List.not_mem_nil,or_false] at hk;simp only at BG sA;refine aC func26 rfl ntmps26 rfl ?_;refine CW.seq (CW.region (SW.box rfl rfl fun b2 w1 hw fA au => ?_));have l2:=au.lt;refine SW.box rfl rfl fun b3 w2 bt cg aq => ?_
 have gd:=hw.up cg
 (obtain ⟨hw,au⟩:=df bt hw au);clear bt;have l3:=aq.lt;refine SW.alloc rfl fun b4 w2 bt fP aI => ?_
 have eH:=hw.up fP
 (obtain ⟨hw,au,aq⟩:=cn bt hw au aq);clear bt;have l4:=aI.lt;refine SW.alloc rfl fun b5 w2 bt gx aM => ?_
 have jI:=hw.up gx
 (obtain ⟨hw,au,aq,aI⟩:=dv bt hw au aq aI);clear bt;have l5:=aM.lt;repeat' (first|refine Wy ?_|refine Wm ((fun _ _=>au.cell)) ?_)
 refine SW.alloc rfl fun b6 w1 ai dw ar => ?_
 skip;refine SW.ag ar rfl rfl rfl rfl (aY r) fun w2 bQ hg => ?_
 have ak:=ai.own dw hg;have cS:=hw.up dw
 obtain ⟨hw,au,aq,aI,aM⟩:=fD ak hw au aq aI aM;have ar:=bQ;clear bQ ai hg ak;have l6:=ar.lt;repeat' (first|refine Wy ?_|fail);refine SW.alloc rfl fun b7 w1 ai iI bf => ?_
 skip;refine SW.ag bf rfl rfl rfl rfl (fr ⟨0,0,.nil⟩) fun w2 bq hg => ?_
 have ak:=ai.own iI hg;have gf:=hw.up iI
 obtain ⟨hw,au,aq,aI,aM,ar⟩:=gw ak hw au aq aI aM ar;have bf:=bq;clear bq ai hg ak;have xL:b2≠b6:=by omega
 have xM:b4≠b6:=by omega
 have NH:b2≠b4:=by omega
 have ry:b5≠b7:=by omega
 clear l2 l3 l4 l5 l6;rcases hk with rfl|rfl|rfl|rfl|rfl|rfl|rfl|rfl|rfl|rfl|rfl
 all_goals repeat' (first|refine Wy ?_|refine Wm ((fun _ _=>au.cell)) ?_|refine Wm ((mo au)) ?_|refine Wl (aq.cell (i:=0) (v := .int .i64 8) rfl) ?_|refine Wl (aq.cell (i:=0) (v := .int .i64 11) rfl) ?_|refine Wl (aq.cell (i:=0) (v := .int .i64 5) rfl) ?_|refine Wl (aq.cell (i:=0) (v := .int .i64 3) rfl) ?_|refine Wl (aq.cell (i:=0) (v := .int .i64 6) rfl) ?_|refine Wl (aq.cell (i:=0) (v := .int .i64 9) rfl) ?_|refine Wl (aq.cell (i:=0) (v := .int .i64 7) rfl) ?_|refine Wl (aq.cell (i:=0) (v := .int .i64 1) rfl) ?_|refine Wl (aq.cell (i:=0) (v := .int .i64 2) rfl) ?_|refine Wl (aq.cell (i:=0) (v := .int .i64 12) rfl) ?_|refine Wl (aq.cell (i:=0) (v := .int .i64 15) rfl) ?_|refine Wl (aq.cell (i:=1) (v := .int .i64 cpu) rfl) ?_|refine Wl (aq.cell (i:=2) (v := .int .i64 n) rfl) ?_|refine Wl (aq.cell (i:=3) (v := .int .i64 m) rfl) ?_|refine Wl (aq.cell (i:=4) (v := .int .i64 At) rfl) ?_|refine Wl (aq.cell (i:=5) (v := .int .i64 fl) rfl) ?_|refine Wl (aq.cell (i:=6) (v := .string nm) rfl) ?_)
 focus
  refine Wk (uI r s cpu n _ (hO.rd.ext hw) hf (hS.ext hw) (eG.ext hw)) fun v w7 jF hv => ?_
  obtain ⟨u,hu,q,rfl,hH⟩:=hv;have hH:=hH.low (adf dD hw.size);have hA:=cx.fj (s:=s) (a:=⟨8,cpu,n,m,At,fl,nm⟩) rfl hu;clear hu
 rotate_left
 focus
  refine Wk (AZ r s cpu At n _ (hO.rd.ext hw) hI BG (hS.ext hw) (eG.ext hw)) fun v w7 jF hv => ?_
  obtain ⟨u,hu,q,rfl,hH⟩:=hv;have hH:=hH.low (adf dD hw.size);have hA:=cx.dV (s:=s) (a:=⟨11,cpu,n,m,At,fl,nm⟩) rfl hu;clear hu
 rotate_left
 focus
  refine Wk (pF r s nm cpu _ (hO.rd.ext hw) hf sA (eG.ext hw)) fun v w7 jF hv => ?_
  obtain ⟨u,hu,q,rfl,hH⟩:=hv;have hH:=hH.low (adf dD hw.size);have hA:=cx.br (s:=s) (a:=⟨5,cpu,n,m,At,fl,nm⟩) (by simp) (ff.new (a:=⟨5,cpu,n,m,At,fl,nm⟩) rfl hu);clear hu
 rotate_left
 focus
  refine Wk (uF r s nm n m _ (hO.rd.ext hw) hf sA) fun v w7 jF hv => ?_
  obtain ⟨u,hu,q,rfl,hH⟩:=hv;have hH:=hH.low (adf dD hw.size);have hA:=cx.br (s:=s) (a:=⟨3,cpu,n,m,At,fl,nm⟩) (by simp) (ff.ou (a:=⟨3,cpu,n,m,At,fl,nm⟩) rfl hu);clear hu
 rotate_left
 focus
  refine Wk (rB r s nm cpu At _ (hO.rd.ext hw) hf sA BG) fun v w7 jF hv => ?_
  obtain ⟨u,hu,q,rfl,hH⟩:=hv;have hH:=hH.low (adf dD hw.size);have hA:=cx.br (s:=s) (a:=⟨6,cpu,n,m,At,fl,nm⟩) (by simp) (ff.drop (a:=⟨6,cpu,n,m,At,fl,nm⟩) rfl hu);clear hu
 rotate_left
 focus
  refine Wk (xh r s cpu At _ (hO.rd.ext hw) hf BG (hS.ext hw)) fun v w7 jF hv => ?_
  obtain ⟨u,hu,q,rfl,hH⟩:=hv;have hH:=hH.low (adf dD hw.size);have hA:=cx.ko (s:=s) (a:=⟨9,cpu,n,m,At,fl,nm⟩) rfl hu;clear hu
 rotate_left
 focus
  refine Wk (As r s nm _ (hO.rd.ext hw) hf sA) fun v w7 jF hv => ?_
  obtain ⟨q,rfl,hH⟩:=hv;have hH:=hH.low (adf dD hw.size);have hA:=cx.br (s:=s) (a:=⟨7,cpu,n,m,At,fl,nm⟩) (by simp) (ff.shrink (a:=⟨7,cpu,n,m,At,fl,nm⟩) rfl);generalize iM s nm=u at hA hH ⊢
 rotate_left
 focus
  refine Wk (qp r.Heap s.Heap cpu n fl _ (hO.rd.heap.ext hw) hs.heap hf.ct (eG.ext hw)) fun v w7 jF hv => ?_
  obtain ⟨u,hu,H,rfl,hH⟩:=hv;have hH:=hH.low (adf dD hw.size);(obtain ⟨hw,au,aI,aM,ar,bf⟩:=gw jF hw au aI aM ar bf);clear jF;have bj:=hO.ext hw;have hA:=cx.bC (s:=s) (a:=⟨1,cpu,n,m,At,fl,nm⟩) rfl hu;clear hu;obtain ⟨u1,N,e⟩:=u;simp only at hA hH ⊢;repeat' (first|refine Wy ?_|fail);refine SW.gq 1 ar rfl rfl rfl (adJ rfl) (dY H) (aP ⟨r.Words,H,r.aa⟩) rfl fun rI bQ hg => ?_
  have hG:=ar.gr hg;have au:=au.grown hg (by simpa using xL);have aI:=aI.grown hg (by simpa using xM);have hw:=hw.own cS hg;(obtain ⟨aM,bf,bj,hH⟩:=dv hG aM bf bj hH);have ar:=bQ;clear bQ hG hg;repeat' (first|refine Wy ?_|fail);refine Wb (i:=1) bf fun ji bq hg => ?_
  have hG:=bf.gr hg;have aM:=aM.grown hg (by simpa using ry);have hw:=hw.own gf hg;(obtain ⟨au,aI,ar,bj,hH⟩:=fD hG au aI ar bj hH);have bf:aS _ b7 55 (cb ⟨0,N,.nil⟩):=bq;clear bq hG hg;repeat' (first|refine Wy ?_|fail);refine Wb (i:=0) bf fun ji bq hg => ?_
  have hG:=bf.gr hg;have aM:=aM.grown hg (by simpa using ry);have hw:=hw.own gf hg;(obtain ⟨au,aI,ar,bj,hH⟩:=fD hG au aI ar bj hH);have bf:aS _ b7 55 (cb ⟨e,N,.nil⟩):=bq;clear bq hG hg;have hP:∃ q t x y,sU _ lo s _ b6 b7 q t x y:=⟨⟨r.Words,H,r.aa⟩,rj s u1,⟨e,N,.nil⟩,⟨e,N,[]⟩,ar,bf,⟨bj.words,hH,bj.br⟩,kv.plain _ _ _ _,hA⟩
  clear hA hH ar bf
 rotate_left
 focus
  refine Wk (vr r.Heap s.Heap cpu At _ (hO.rd.heap.ext hw) hs.heap hf.ct (by have:=(hD.1 rfl).1;omega)) fun v w7 jF hv => ?_
  obtain ⟨H,rfl,hH⟩:=hv;have hH:=hH.low (adf dD hw.size);(obtain ⟨hw,au,aI,aM,ar,bf⟩:=gw jF hw au aI aM ar bf);clear jF;have bj:=hO.ext hw;have hA:=KV (s:=s) (a:=⟨2,cpu,n,m,At,fl,nm⟩) rfl (hD.1 rfl).1 (hD.1 rfl).2;simp only at hA;generalize fh s.Heap cpu At=u at hA hH ⊢
  obtain ⟨e,u1⟩:=u;simp only at hA hH ⊢;repeat' (first|refine Wy ?_|fail);refine SW.gq 1 ar rfl rfl rfl (adJ rfl) (dY H) (aP ⟨r.Words,H,r.aa⟩) rfl fun rI bQ hg => ?_
  have hG:=ar.gr hg;have au:=au.grown hg (by simpa using xL);have aI:=aI.grown hg (by simpa using xM);have hw:=hw.own cS hg;(obtain ⟨aM,bf,bj,hH⟩:=dv hG aM bf bj hH);have ar:=bQ;clear bQ hG hg;repeat' (first|refine Wy ?_|fail);refine Wb (i:=0) bf fun ji bq hg => ?_
  have hG:=bf.gr hg;have aM:=aM.grown hg (by simpa using ry);have hw:=hw.own gf hg;(obtain ⟨au,aI,ar,bj,hH⟩:=fD hG au aI ar bj hH);have bf:aS _ b7 55 (cb ⟨e,0,.nil⟩):=bq;clear bq hG hg;have hP:∃ q t x y,sU _ lo s _ b6 b7 q t x y:=⟨⟨r.Words,H,r.aa⟩,rj s u1,⟨e,0,.nil⟩,⟨e,0,[]⟩,ar,bf,⟨bj.words,hH,bj.br⟩,kv.plain _ _ _ _,hA⟩
  clear hA hH ar bf
 rotate_left
 focus
  refine Wk (Cr r.Heap s.Heap _ (hO.rd.heap.ext hw) hs.heap hf.ct) fun v w7 jF hv => ?_
  obtain ⟨H,rfl,hH⟩:=hv;have hH:=hH.low (adf dD hw.size);(obtain ⟨hw,au,aI,aM,ar,bf⟩:=gw jF hw au aI aM ar bf);clear jF;have bj:=hO.ext hw;have hA:=cx.drain (s:=s) (a:=⟨12,cpu,n,m,At,fl,nm⟩) rfl;generalize k6 s.Heap=u at hA hH ⊢
  obtain ⟨e,u1⟩:=u;simp only at hA hH ⊢;repeat' (first|refine Wy ?_|fail);refine SW.gq 1 ar rfl rfl rfl (adJ rfl) (dY H) (aP ⟨r.Words,H,r.aa⟩) rfl fun rI bQ hg => ?_
  have hG:=ar.gr hg;have au:=au.grown hg (by simpa using xL);have aI:=aI.grown hg (by simpa using xM);have hw:=hw.own cS hg;(obtain ⟨aM,bf,bj,hH⟩:=dv hG aM bf bj hH);have ar:=bQ;clear bQ hG hg;repeat' (first|refine Wy ?_|fail);refine Wb (i:=0) bf fun ji bq hg => ?_
  have hG:=bf.gr hg;have aM:=aM.grown hg (by simpa using ry);have hw:=hw.own gf hg;(obtain ⟨au,aI,ar,bj,hH⟩:=fD hG au aI ar bj hH);have bf:aS _ b7 55 (cb ⟨e,0,.nil⟩):=bq;clear bq hG hg;have hP:∃ q t x y,sU _ lo s _ b6 b7 q t x y:=⟨⟨r.Words,H,r.aa⟩,rj s u1,⟨e,0,.nil⟩,⟨e,0,[]⟩,ar,bf,⟨bj.words,hH,bj.br⟩,kv.plain _ _ _ _,hA⟩
  clear hA hH ar bf
 rotate_left
 focus
  refine Wk (vS r s nm cpu n _ (hO.rd.ext hw) hf sA (eG.ext hw)) fun v w7 jF hv => ?_
  obtain ⟨u,hu,q,A,c,rfl,hH,hL⟩:=hv;have hH:=hH.low (adf dD hw.size);have hL:=hL.low (adf dD hw.size);have hA:=cx.br (s:=s) (a:=⟨15,cpu,n,m,At,fl,nm⟩) (by simp) (ff.bulk (a:=⟨15,cpu,n,m,At,fl,nm⟩) rfl hu);clear hu;(obtain ⟨hw,au,aI,aM,ar,bf⟩:=gw jF hw au aI aM ar bf);clear jF;have bj:=hO.ext hw;obtain ⟨t,l,e⟩:=u;simp only at hA hH hL ⊢;repeat' (first|refine Wy ?_|fail);refine SW.ag ar rfl rfl rfl rfl (aY q) fun rI bQ hg => ?_
  have hG:=ar.gr hg;have au:=au.grown hg (by simpa using xL);have aI:=aI.grown hg (by simpa using xM);have hw:=hw.own cS hg;(obtain ⟨aM,bf,bj,hH,hL⟩:=fD hG aM bf bj hH hL);have ar:=bQ;clear bQ hG hg;repeat' (first|refine Wy ?_|fail);refine Wb (i:=2) bf fun ji bq hg => ?_
  have hG:=bf.gr hg;have aM:=aM.grown hg (by simpa using ry);have hw:=hw.own gf hg;(obtain ⟨au,aI,ar,bj,hH,hL⟩:=gw hG au aI ar bj hH hL);have bf:aS _ b7 55 (cb ⟨0,0,⟨A,l.length,c⟩⟩):=bq;clear bq hG hg;repeat' (first|refine Wy ?_|fail);refine Wb (i:=0) bf fun ji bq hg => ?_
  have hG:=bf.gr hg;have aM:=aM.grown hg (by simpa using ry);have hw:=hw.own gf hg;(obtain ⟨au,aI,ar,bj,hH,hL⟩:=gw hG au aI ar bj hH hL);have bf:aS _ b7 55 (cb ⟨e,0,⟨A,l.length,c⟩⟩):=bq;clear bq hG hg;have hP:∃ q t x y,sU _ lo s _ b6 b7 q t x y:=⟨q,t,⟨e,0,⟨A,l.length,c⟩⟩,⟨e,0,l⟩,ar,bf,hH,⟨rfl,rfl,hL⟩,hA⟩
  clear hA hH ar bf
 rotate_left
 iterate 3
  focus
   (obtain ⟨hw,au,aI,aM,ar,bf⟩:=gw jF hw au aI aM ar bf);clear jF;have bj:=hO.ext hw;obtain ⟨t,N,e⟩:=u;simp only at hA hH ⊢;repeat' (first|refine Wy ?_|fail);refine SW.ag ar rfl rfl rfl rfl (aY q) fun rI bQ hg => ?_
   have hG:=ar.gr hg;have au:=au.grown hg (by simpa using xL);have aI:=aI.grown hg (by simpa using xM);have hw:=hw.own cS hg;(obtain ⟨aM,bf,bj,hH⟩:=dv hG aM bf bj hH);have ar:=bQ;clear bQ hG hg;repeat' (first|refine Wy ?_|fail);refine Wb (i:=1) bf fun ji bq hg => ?_
   have hG:=bf.gr hg;have aM:=aM.grown hg (by simpa using ry);have hw:=hw.own gf hg;(obtain ⟨au,aI,ar,bj,hH⟩:=fD hG au aI ar bj hH);have bf:aS _ b7 55 (cb ⟨0,N,.nil⟩):=bq;clear bq hG hg;repeat' (first|refine Wy ?_|fail);refine Wb (i:=0) bf fun ji bq hg => ?_
   have hG:=bf.gr hg;have aM:=aM.grown hg (by simpa using ry);have hw:=hw.own gf hg;(obtain ⟨au,aI,ar,bj,hH⟩:=fD hG au aI ar bj hH);have bf:aS _ b7 55 (cb ⟨e,N,.nil⟩):=bq;clear bq hG hg;have hP:∃ q t x y,sU _ lo s _ b6 b7 q t x y:=⟨q,t,⟨e,N,.nil⟩,⟨e,N,[]⟩,ar,bf,hH,kv.plain _ _ _ _,hA⟩
   clear hA hH ar bf
  rotate_left
 iterate 4
  focus
   (obtain ⟨hw,au,aI,aM,ar,bf⟩:=gw jF hw au aI aM ar bf);clear jF;have bj:=hO.ext hw;obtain ⟨t,e⟩:=u;simp only at hA hH ⊢;repeat' (first|refine Wy ?_|fail);refine SW.ag ar rfl rfl rfl rfl (aY q) fun rI bQ hg => ?_
   have hG:=ar.gr hg;have au:=au.grown hg (by simpa using xL);have aI:=aI.grown hg (by simpa using xM);have hw:=hw.own cS hg;(obtain ⟨aM,bf,bj,hH⟩:=dv hG aM bf bj hH);have ar:=bQ;clear bQ hG hg;repeat' (first|refine Wy ?_|fail);refine Wb (i:=0) bf fun ji bq hg => ?_
   have hG:=bf.gr hg;have aM:=aM.grown hg (by simpa using ry);have hw:=hw.own gf hg;(obtain ⟨au,aI,ar,bj,hH⟩:=fD hG au aI ar bj hH);have bf:aS _ b7 55 (cb ⟨e,0,.nil⟩):=bq;clear bq hG hg;have hP:∃ q t x y,sU _ lo s _ b6 b7 q t x y:=⟨q,t,⟨e,0,.nil⟩,⟨e,0,[]⟩,ar,bf,hH,kv.plain _ _ _ _,hA⟩
   clear hA hH ar bf
  rotate_left
 iterate 5 rotate_left
 all_goals
  obtain ⟨q,t,x,y,ar,bf,hH,hY,hA⟩:=hP;by_cases he:y.Code=0
  ·rw [mZ,if_pos he] at hA;rw [<- hY.code] at he;repeat' (first|refine Wy ?_|refine Wl (bf.cell (i:=0) (v := .int .i64 x.Code) rfl) ?_)
   refine CW.gn 2 3 (fun w2=>aS w2 b7 55 (cb x)) mixed (by kernel_rfl) fun w1 ai aG => ?_
   obtain ⟨hw,au,aI,aM,ar,bf,bj,hH,hY⟩:=LG ai hw au aI aM ar bf bj hH hY;clear ai;refine Wt 0 [] [] aG rfl (aX rfl rfl ((fun _ _=>ar.cell))) ?_;refine SF.cr 1 [] aG rfl (by kernel_rfl) (by kernel_rfl) (by kernel_rfl) (aX rfl rfl ((fun _ _=>bf.cell))) (fun w2 hS=>aX rfl rfl ((fun _ _=>hS.cell))) rfl ?_;refine SF.turn rfl (by kernel_rfl) rfl ?_;refine SW.ag aI rfl rfl rfl rfl (aY q) fun w8 de hg => ?_
   have hG:=aI.gr hg;have hw:=hw.own eH hg;(obtain ⟨aM,bf,bj,hH,hY⟩:=fD hG aM bf bj hH hY);have hS:=bf;refine SW.nil (ae.sg hS ?_);refine SG.last rfl (by kernel_rfl) (by kernel_rfl) ?_;refine SW.ag aM rfl rfl rfl rfl (fr x) fun w9 eV hg => ?_
   have hG:=aM.gr hg;have hw:=hw.own jI hg;(obtain ⟨de,bj,hH,hY⟩:=dv hG de bj hH hY);repeat' (first|refine Wy ?_|fail);exact ae.nr rfl rfl rfl de eV rfl rfl ⟨_,rfl,hw,_,hA,q,x,rfl,hH,hY⟩
  ·rw [mZ,if_neg he] at hA;rw [<- hY.code] at he;repeat' (first|refine Wy ?_|refine Wl (bf.cell (i:=0) (v := .int .i64 x.Code) rfl) ?_)
   refine CW.gn 2 3 (fun w2=>aS w2 b7 55 (cb x)) mixed (by kernel_rfl) fun w1 ai aG => ?_
   obtain ⟨hw,au,aI,aM,ar,bf,bj,hH,hY⟩:=LG ai hw au aI aM ar bf bj hH hY;clear ai;refine Wt 0 [] [] aG rfl (aX rfl rfl ((fun _ _=>au.cell))) ?_;refine SF.cr 1 [] aG rfl (by kernel_rfl) (by kernel_rfl) (by kernel_rfl) (aX rfl rfl ((fun _ _=>bf.cell))) (fun w2 hS=>aX rfl rfl ((fun _ _=>hS.cell))) rfl ?_;refine SF.turn rfl (by kernel_rfl) rfl ?_;refine SW.ag aI rfl rfl rfl rfl (aY r) fun w8 de hg => ?_
   have hG:=aI.gr hg;have hw:=hw.own eH hg;(obtain ⟨aM,bf,bj,hH,hY⟩:=fD hG aM bf bj hH hY);have hS:=bf;refine SW.nil (ae.sg hS ?_);refine SG.last rfl (by kernel_rfl) (by kernel_rfl) ?_;refine SW.ag aM rfl rfl rfl rfl (fr x) fun w9 eV hg => ?_
   have hG:=aM.gr hg;have hw:=hw.own jI hg;(obtain ⟨de,bj,hH,hY⟩:=dv hG de bj hH hY);repeat' (first|refine Wy ?_|fail);exact ae.nr rfl rfl rfl de eV rfl rfl ⟨_,rfl,hw,_,hA,r,x,rfl,bj,hY⟩
set_option maxHeartbeats 8000000 in
theorem KW (a:cJ) (hk:a.Kind=13∨a.Kind=14) (r:da) (s:ah) (lo:Nat) (w:World) (hO:iY w lo r s) (dD:lo<=w.heap.size) (hI:dM s) (hD:Ii s a) :
 bF prog 26 [.agg (aP r).toArray,.agg (ew a).toArray] w fun v w' => ∃ u,cx s a u∧Po lo u v w':=by
 have hf:=hI.cK;have hs:=hf.small;have hwm:=hI.may.words;have wl:=hO.words.len;have Zh:=hO.words.sl.base;obtain ⟨k,cpu,n,m,At,fl,nm⟩:=a;simp only at hk;have hW:=hD.2.1 hk;have hM:=hD.2.2;simp only at hW hM
 have cy : 0<=At∧At<4096:=by
  generalize e:true=b at hW
  cases hW with
  | out=>cases e
  | py h=>omega
  | bC h=>omega
 obtain ⟨an,rfl⟩:=adn cy.1;have M8:an<r.Words.n:=by omega
 have M9:an<s.Words.length:=by omega
 have PH:=hO.words.sl.one M8 (congrArg bw (rfl:s.Words[an]=s.Words[an]));have e1:s.Words.getD ((an:Nat) : Int).toNat 0=s.Words[an]:=by simp [List.getD,M9]
 refine aC func26 rfl ntmps26 rfl ?_;refine CW.seq (CW.region (SW.box rfl rfl fun b2 w1 hw fA au => ?_));have l2:=au.lt;refine SW.box rfl rfl fun b3 w2 bt cg aq => ?_
 have gd:=hw.up cg
 (obtain ⟨hw,au⟩:=df bt hw au);clear bt;have l3:=aq.lt;refine SW.alloc rfl fun b4 w2 bt fP aI => ?_
 have eH:=hw.up fP
 (obtain ⟨hw,au,aq⟩:=cn bt hw au aq);clear bt;have l4:=aI.lt;refine SW.alloc rfl fun b5 w2 bt gx aM => ?_
 have jI:=hw.up gx
 (obtain ⟨hw,au,aq,aI⟩:=dv bt hw au aq aI);clear bt;have l5:=aM.lt;repeat' (first|refine Wy ?_|refine Wm ((fun _ _=>au.cell)) ?_)
 refine SW.alloc rfl fun b6 w1 ai dw ar => ?_
 skip;refine SW.ag ar rfl rfl rfl rfl (aY r) fun w2 bQ hg => ?_
 have ak:=ai.own dw hg;have cS:=hw.up dw
 obtain ⟨hw,au,aq,aI,aM⟩:=fD ak hw au aq aI aM;have ar:=bQ;clear bQ ai hg ak;have l6:=ar.lt;repeat' (first|refine Wy ?_|fail);refine SW.alloc rfl fun b7 w1 ai iI bf => ?_
 skip;refine SW.ag bf rfl rfl rfl rfl (fr ⟨0,0,.nil⟩) fun w2 bq hg => ?_
 have ak:=ai.own iI hg;have gf:=hw.up iI
 obtain ⟨hw,au,aq,aI,aM,ar⟩:=gw ak hw au aq aI aM ar;have bf:=bq;clear bq ai hg ak;have xL:b2≠b6:=by omega
 have xM:b4≠b6:=by omega
 have NH:b2≠b4:=by omega
 have ry:b5≠b7:=by omega
 clear l2 l3 l4 l5 l6;rcases hk with rfl|rfl
 focus
  have hA:=cx.word (s:=s) (a:=⟨13,cpu,n,m,an,fl,nm⟩) (.inl rfl) (mf.write hW (by simp) (hM rfl));repeat' (first|refine Wy ?_|refine Wm ((fun _ _=>au.cell)) ?_|refine Wl (aq.cell (i:=0) (v := .int .i64 13) rfl) ?_)
  have oD:=hw.size;refine Wk (mv r s _ (hO.rd.ext hw) hs) fun v w7 jF hv => ?_
  obtain ⟨q,cs,rfl,hX,hJ⟩:=hv;(obtain ⟨hw,au,aq,aI,aM,ar,bf⟩:=uK jF hw au aq aI aM ar bf);clear jF;have bj:=hO.ext hw;skip;refine SW.ag ar rfl rfl rfl rfl (aY q) fun rI bQ hg => ?_
  have hG:=ar.gr hg;have au:=au.grown hg (by simpa using xL);have aI:=aI.grown hg (by simpa using xM);have hw:=hw.own cS hg;(obtain ⟨aM,bf,bj,aq,hX,hJ⟩:=gw hG aM bf bj aq hX hJ);have ar:=bQ;clear bQ hG hg;have U8:=hX.words.len;have YJ:=hX.words.sl.base;repeat' (first|refine Wy ?_|refine Wl (ar.cell (i:=0) (v := .slice q.Words.A q.Words.n q.Words.c) rfl) ?_|refine Wl (aq.cell (i:=4) (v := .int .i64 (an:Int)) rfl) ?_|refine Wl (aq.cell (i:=3) (v := .int .i64 m) rfl) ?_)
  refine SW.qF an hX.words rfl rfl (by omega) fun ji M4 hg => ?_
  have hG:=hX.words.gr hg;have Zl:=hX.Ff hJ M4 hg;have hw:=aD hw hg oD hX.words.a9;(obtain ⟨au,aI,aM,ar,bf⟩:=fD hG au aI aM ar bf);clear bj;have bj:=hO.ext hw;have hH:=Zl.x9.low (adf dD oD);clear hX hJ Zl M4 hg hG;repeat' (first|refine Wy ?_|fail);have hP:∃ q t x y,sU _ lo s _ b6 b7 q t x y:=⟨q,_,⟨0,0,.nil⟩,⟨0,0,[]⟩,ar,bf,hH,kv.plain _ _ _ _,hA⟩
  clear hA hH ar bf
 rotate_left
 focus
  have hA:=cx.word (s:=s) (a:=⟨14,cpu,n,m,an,fl,nm⟩) (.inr rfl) (mf.read hW rfl);simp only [Int.ofNat_eq_natCast] at hA;rw [e1] at hA;repeat' (first|refine Wy ?_|refine Wl (aq.cell (i:=0) (v := .int .i64 14) rfl) ?_|refine Wl (au.cell (i:=0) (v := .slice r.Words.A r.Words.n r.Words.c) rfl) ?_|refine Wl (aq.cell (i:=4) (v := .int .i64 (an:Int)) rfl) ?_|refine Wn hw PH ?_)
  have bj:=hO.ext hw;refine Wb (i:=1) bf fun ji bq hg => ?_
  have hG:=bf.gr hg;have aM:=aM.grown hg (by simpa using ry);have hw:=hw.own gf hg;(obtain ⟨au,aI,ar,bj⟩:=dv hG au aI ar bj);have bf:aS _ b7 55 (cb ⟨0,s.Words[an],.nil⟩):=bq;clear bq hG hg;repeat' (first|refine Wy ?_|fail);have hP:∃ q t x y,sU _ lo s _ b6 b7 q t x y:=⟨r,s,⟨0,s.Words[an],.nil⟩,⟨0,s.Words[an],[]⟩,ar,bf,bj,kv.plain _ _ _ _,hA⟩
  clear hA ar bf
 rotate_left
 all_goals
  obtain ⟨q,t,x,y,ar,bf,hH,hY,hA⟩:=hP;by_cases he:y.Code=0
  ·rw [mZ,if_pos he] at hA;rw [<- hY.code] at he;repeat' (first|refine Wy ?_|refine Wl (bf.cell (i:=0) (v := .int .i64 x.Code) rfl) ?_)
   refine CW.gn 2 3 (fun w2=>aS w2 b7 55 (cb x)) mixed (by kernel_rfl) fun w1 ai aG => ?_
   obtain ⟨hw,au,aI,aM,ar,bf,bj,hH,hY⟩:=LG ai hw au aI aM ar bf bj hH hY;clear ai;refine Wt 0 [] [] aG rfl (aX rfl rfl ((fun _ _=>ar.cell))) ?_;refine SF.cr 1 [] aG rfl (by kernel_rfl) (by kernel_rfl) (by kernel_rfl) (aX rfl rfl ((fun _ _=>bf.cell))) (fun w2 hS=>aX rfl rfl ((fun _ _=>hS.cell))) rfl ?_;refine SF.turn rfl (by kernel_rfl) rfl ?_;refine SW.ag aI rfl rfl rfl rfl (aY q) fun w8 de hg => ?_
   have hG:=aI.gr hg;have hw:=hw.own eH hg;(obtain ⟨aM,bf,bj,hH,hY⟩:=fD hG aM bf bj hH hY);have hS:=bf;refine SW.nil (ae.sg hS ?_);refine SG.last rfl (by kernel_rfl) (by kernel_rfl) ?_;refine SW.ag aM rfl rfl rfl rfl (fr x) fun w9 eV hg => ?_
   have hG:=aM.gr hg;have hw:=hw.own jI hg;(obtain ⟨de,bj,hH,hY⟩:=dv hG de bj hH hY);repeat' (first|refine Wy ?_|fail);exact ae.nr rfl rfl rfl de eV rfl rfl ⟨_,rfl,hw,_,hA,q,x,rfl,hH,hY⟩
  ·rw [mZ,if_neg he] at hA;rw [<- hY.code] at he;repeat' (first|refine Wy ?_|refine Wl (bf.cell (i:=0) (v := .int .i64 x.Code) rfl) ?_)
   refine CW.gn 2 3 (fun w2=>aS w2 b7 55 (cb x)) mixed (by kernel_rfl) fun w1 ai aG => ?_
   obtain ⟨hw,au,aI,aM,ar,bf,bj,hH,hY⟩:=LG ai hw au aI aM ar bf bj hH hY;clear ai;refine Wt 0 [] [] aG rfl (aX rfl rfl ((fun _ _=>au.cell))) ?_;refine SF.cr 1 [] aG rfl (by kernel_rfl) (by kernel_rfl) (by kernel_rfl) (aX rfl rfl ((fun _ _=>bf.cell))) (fun w2 hS=>aX rfl rfl ((fun _ _=>hS.cell))) rfl ?_;refine SF.turn rfl (by kernel_rfl) rfl ?_;refine SW.ag aI rfl rfl rfl rfl (aY r) fun w8 de hg => ?_
   have hG:=aI.gr hg;have hw:=hw.own eH hg;(obtain ⟨aM,bf,bj,hH,hY⟩:=fD hG aM bf bj hH hY);have hS:=bf;refine SW.nil (ae.sg hS ?_);refine SG.last rfl (by kernel_rfl) (by kernel_rfl) ?_;refine SW.ag aM rfl rfl rfl rfl (fr x) fun w9 eV hg => ?_
   have hG:=aM.gr hg;have hw:=hw.own jI hg;(obtain ⟨de,bj,hH,hY⟩:=dv hG de bj hH hY);repeat' (first|refine Wy ?_|fail);exact ae.nr rfl rfl rfl de eV rfl rfl ⟨_,rfl,hw,_,hA,r,x,rfl,bj,hY⟩
variable {w0 w1 w2:World}
structure kK (w0 w:World) : Prop where
 hx:Ext w0 w
theorem kK.ext (h:kK w0 w) (hx:Ext w w') : kK w0 w':=⟨h.hx.trans hx⟩
inductive kM:World->World->Prop
 | refl (w:World) : kM w w
 | ext {w w1 w2:World} (h:kM w w1) (hx:Ext w1 w2) : kM w w2
 | ud {w w1 w2:World} (h:kM w w1) (hG:rL w1 w2 50) : kM w w2
 | qw {w w1 w2:World} (h:kM w w1) (hG:rL w1 w2 48) : kM w w2
theorem kM.since (h:kM w w1) (k:kK w1 w2) : kM w w2 := .ext h k.hx
theorem kM.move {P:World->Prop} (hE:∀ w w',P w->Ext w w'->P w') (hT:∀ w w',P w->rL w w' 50->P w') (hS:∀ w w',P w->rL w w' 48->P w') (h:kM w w') : P w->P w':=by
 induction h with
 | refl=>exact fun h=>h
 | ext _ hx ih=>exact fun h=>hE _ _ (ih h) hx
 | ud _ hG ih=>exact fun h=>hT _ _ (ih h) hG
 | qw _ hG ih=>exact fun h=>hS _ _ (ih h) hG
def nK (wb w:World) (lo b:Nat) (r:da) (p q:gb) (l:List bT) (v:Value) (w':World) : Prop:=v = .tuple #[] ∧ ∃ z:gb,Own w' lo 50 6 kg z.A z.n z.c l∧aS w' b 48 (ox r p q z)∧Ext wb w'∧kM w w'
set_option maxHeartbeats 8000000 in
theorem KX (wb:World) (lo b:Nat) (r:da) (p q z:gb) (a:cJ) (x:pH) (i:Int) (l:List bT) (w:World) (hk:a.Kind=8) (hw:Ext wb w) (hb:aS w b 48 (ox r p q z)) (rl:wb.heap.size<=b) (hO:Own w lo 50 6 kg z.A z.n z.c l) (dD:wb.heap.size<=lo) (tf:lo<=w.heap.size) (hn:z.n<=100000) :
 iO prog 27 [.pointer (some ⟨b,0,none⟩),.agg (ew a).toArray,.agg (cb x).toArray,.int .i64 i] w (nK wb w lo b r p q (l++[⟨x.N,a.N,8,⟨#[]⟩,0,false⟩])):=by
 obtain ⟨k,cpu,n,m,At,fl,nm⟩:=a;simp only at hk ⊢;refine dl func27 rfl ntmps27 rfl ?_;have hs:kK w w:=⟨Ext.refl w⟩
 have hA:=hO.sl.base;have mH:=hO.len;refine CW.seq (CW.region (SW.box rfl rfl fun b5 w2 bt gx aM => ?_));(obtain ⟨hw,hb,hO,hs⟩:=dv bt hw hb hO hs);clear bt;refine SW.box rfl rfl fun b6 w2 bt dw ar => ?_
 (obtain ⟨hw,hb,aM,hO,hs⟩:=fD bt hw hb aM hO hs);clear bt;subst hk;repeat' (first|refine Wy ?_|refine Wl (aM.cell (i:=0) (v := .int .i64 8) rfl) ?_)
 refine CW.gn 13 16 (fun _=>True) mixed (by kernel_rfl) fun w1 ai aG => ?_
 obtain ⟨hw,hb,aM,ar,hO,hs⟩:=gw ai hw hb aM ar hO hs;clear ai;refine SF.cr 0 [] aG rfl (by kernel_rfl) (by kernel_rfl) (by kernel_rfl) (aR rfl) (fun w2 hS=>aR rfl) rfl ?_;refine Wp 1 [4,3,2] [] aG rfl rfl ?_;refine Wt 2 [4,3] [] aG rfl (aF rfl) ?_;refine Wt 3 [4] [] aG rfl (aA rfl) ?_;refine Wt 4 [] [] aG rfl (aU rfl (hb.cell (i:=9) (v := .slice z.A z.n z.c) rfl)) ?_;refine Wt 5 [12,11,6] [] aG rfl (aA rfl) ?_;refine Wt 6 [12,11] [] aG rfl (aU rfl (ar.cell (i:=1) (v := .int .i64 x.N) rfl)) ?_;refine Wt 7 [12,11,8] [] aG rfl (aA rfl) ?_;refine Wt 8 [12,11] [] aG rfl (aU rfl (aM.cell (i:=2) (v := .int .i64 n) rfl)) ?_;refine Wt 9 [12,11,10] [] aG rfl (aA rfl) ?_;refine Wt 10 [12,11] [] aG rfl (aU rfl (aM.cell (i:=0) (v := .int .i64 8) rfl)) ?_;refine Wt 11 [12] [] aG rfl (fZ rfl rfl) ?_;refine SF.one 12 rfl (by kernel_rfl) rfl ?_;refine SW.dI rfl rfl rfl rfl rfl fun Ib w9 ak sR lu => ?_
 (obtain ⟨hw,hb,aM,ar,hO,hs⟩:=gw ak hw hb aM ar hO hs);refine SW.nil (ae.sf ak ?_);refine SF.turn rfl (by kernel_rfl) rfl ?_;refine SW.append hO (aS.ue (enc:=kg) (x:=⟨x.N,n,8,⟨#[]⟩,0,false⟩) lu) (adf tf hs.hx.size) rfl rfl rfl (by omega) (by omega) fun Y f pE lD hg => ?_
 have hG:=hO.gr hg;have hw:=aD hw hg dD hO.a9;(have hb:=hb.aK hG rfl);have hS:=True.intro;refine SW.nil (ae.sg hS ?_);refine SG.one 14 rfl (by kernel_rfl) rfl ?_;repeat ((show SW _ _ _ _ (⟨_,Op.nilCheck _,_,_,_,none⟩::_) _ _;refine SW.st (aF rfl) rfl ?_))
 refine SW.nil (ae.sg hS ?_);refine SG.one 15 rfl (by kernel_rfl) rfl ?_;repeat ((show SW _ _ _ _ (⟨_,Op.fieldAddr _ _ _,_,_,_,none⟩::_) _ _;refine SW.st (aA rfl) rfl ?_))
 refine SW.nil (ae.sg hS ?_);refine SG.last rfl (by kernel_rfl) (by kernel_rfl) ?_;refine Wb (i:=9) hb fun ji iz dE => ?_
 have ee:=hb.gr dE;have hw:=hw.own rl dE;have bj:=lD.aK ee rfl;repeat' (first|refine Wy ?_|fail);exact ae.pV rfl ⟨_,rfl,rfl,⟨Y,z.n+1,f⟩,bj,iz,hw,.qw (.ud (.ext (.refl w) hs.hx) hG) ee⟩
set_option maxHeartbeats 8000000 in
theorem KY (wb:World) (lo b:Nat) (r:da) (p q z:gb) (a:cJ) (x:pH) (i:Int) (l:List bT) (w:World) (hk:a.Kind=1) (hN:(0<=x.N∧x.N<=100000)∧0<=a.N∧a.N<=4) (hw:Ext wb w) (hb:aS w b 48 (ox r p q z)) (rl:wb.heap.size<=b) (hO:Own w lo 50 6 kg z.A z.n z.c l) (dD:wb.heap.size<=lo) (tf:lo<=w.heap.size) (hn:z.n<=100000) :
 iO prog 27 [.pointer (some ⟨b,0,none⟩),.agg (ew a).toArray,.agg (cb x).toArray,.int .i64 i] w (nK wb w lo b r p q (l++[⟨x.N*16,16*pw a.N,1,⟨#[]⟩,0,false⟩])):=by
 obtain ⟨k,cpu,n,m,At,fl,nm⟩:=a;simp only at hk hN ⊢;refine dl func27 rfl ntmps27 rfl ?_;have hs:kK w w:=⟨Ext.refl w⟩
 have hA:=hO.sl.base;have mH:=hO.len;refine CW.seq (CW.region (SW.box rfl rfl fun b5 w2 bt gx aM => ?_));(obtain ⟨hw,hb,hO,hs⟩:=dv bt hw hb hO hs);clear bt;refine SW.box rfl rfl fun b6 w2 bt dw ar => ?_
 (obtain ⟨hw,hb,aM,hO,hs⟩:=fD bt hw hb aM hO hs);clear bt;subst hk;repeat' (first|refine Wy ?_|refine Wl (aM.cell (i:=0) (v := .int .i64 1) rfl) ?_)
 refine CW.gn 15 18 (fun _=>True) mixed (by kernel_rfl) fun w1 ai aG => ?_
 obtain ⟨hw,hb,aM,ar,hO,hs⟩:=gw ai hw hb aM ar hO hs;clear ai;refine SF.cr 0 [] aG rfl (by kernel_rfl) (by kernel_rfl) (by kernel_rfl) (aR rfl) (fun w2 hS=>aR rfl) rfl ?_;refine Wp 1 [4,3,2] [] aG rfl rfl ?_;refine Wt 2 [4,3] [] aG rfl (aF rfl) ?_;refine Wt 3 [4] [] aG rfl (aA rfl) ?_;refine Wt 4 [] [] aG rfl (aU rfl (hb.cell (i:=9) (v := .slice z.A z.n z.c) rfl)) ?_;refine Wt 5 [14,13,7,6] [] aG rfl (aA rfl) ?_;refine Wt 6 [14,13,7] [] aG rfl (aU rfl (ar.cell (i:=1) (v := .int .i64 x.N) rfl)) ?_;refine Wt 7 [14,13] [] aG rfl (pd rfl rfl (by omega) (by omega)) ?_;refine Wt 8 [14,13,10,9] [] aG rfl (aA rfl) ?_;refine Wt 9 [14,13,10] [] aG rfl (aU rfl (aM.cell (i:=2) (v := .int .i64 n) rfl)) ?_;refine Wt 10 [14,13] [] aG rfl (fG (r:=16*pw n) rfl rfl (by omega) (by omega) (by simp [pw]) (by have:=cQ hN.2.1 hN.2.2;omega) (by have:=cQ hN.2.1 hN.2.2;omega)) ?_;refine Wt 11 [14,13,12] [] aG rfl (aA rfl) ?_;refine Wt 12 [14,13] [] aG rfl (aU rfl (aM.cell (i:=0) (v := .int .i64 1) rfl)) ?_;refine Wt 13 [14] [] aG rfl (fZ rfl rfl) ?_;refine SF.one 14 rfl (by kernel_rfl) rfl ?_;refine SW.dI rfl rfl rfl rfl rfl fun Ib w9 ak sR lu => ?_
 (obtain ⟨hw,hb,aM,ar,hO,hs⟩:=gw ak hw hb aM ar hO hs);refine SW.nil (ae.sf ak ?_);refine SF.turn rfl (by kernel_rfl) rfl ?_;refine SW.append hO (aS.ue (enc:=kg) (x:=⟨x.N*16,16*pw n,1,⟨#[]⟩,0,false⟩) lu) (adf tf hs.hx.size) rfl rfl rfl (by omega) (by omega) fun Y f pE lD hg => ?_
 have hG:=hO.gr hg;have hw:=aD hw hg dD hO.a9;(have hb:=hb.aK hG rfl);have hS:=True.intro;refine SW.nil (ae.sg hS ?_);refine SG.one 16 rfl (by kernel_rfl) rfl ?_;repeat ((show SW _ _ _ _ (⟨_,Op.nilCheck _,_,_,_,none⟩::_) _ _;refine SW.st (aF rfl) rfl ?_))
 refine SW.nil (ae.sg hS ?_);refine SG.one 17 rfl (by kernel_rfl) rfl ?_;repeat ((show SW _ _ _ _ (⟨_,Op.fieldAddr _ _ _,_,_,_,none⟩::_) _ _;refine SW.st (aA rfl) rfl ?_))
 refine SW.nil (ae.sg hS ?_);refine SG.last rfl (by kernel_rfl) (by kernel_rfl) ?_;refine Wb (i:=9) hb fun ji iz dE => ?_
 have ee:=hb.gr dE;have hw:=hw.own rl dE;have bj:=lD.aK ee rfl;repeat' (first|refine Wy ?_|fail);exact ae.pV rfl ⟨_,rfl,rfl,⟨Y,z.n+1,f⟩,bj,iz,hw,.qw (.ud (.ext (.refl w) hs.hx) hG) ee⟩
set_option maxHeartbeats 8000000 in
theorem KZ (wb:World) (lo b:Nat) (r:da) (p q z:gb) (a:cJ) (x:pH) (i:Int) (l:List bT) (w:World) (hk:a.Kind=9∨a.Kind=2∨a.Kind=6) (j:Nat) (hi:i=(j:Int)) (hj:j<z.n) (hw:Ext wb w) (hb:aS w b 48 (ox r p q z)) (rl:wb.heap.size<=b) (hO:Own w lo 50 6 kg z.A z.n z.c l) (dD:wb.heap.size<=lo) (tf:lo<=w.heap.size) (hn:z.n<=100000) :
 iO prog 27 [.pointer (some ⟨b,0,none⟩),.agg (ew a).toArray,.agg (cb x).toArray,.int .i64 i] w (nK wb w lo b r p q (l.eraseIdx j)):=by
 obtain ⟨k,cpu,n,m,At,fl,nm⟩:=a;simp only at hk ⊢;refine dl func27 rfl ntmps27 rfl ?_;have hs:kK w w:=⟨Ext.refl w⟩
 have hA:=hO.sl.base;have mH:=hO.len;refine CW.seq (CW.region (SW.box rfl rfl fun b5 w2 bt gx aM => ?_));(obtain ⟨hw,hb,hO,hs⟩:=dv bt hw hb hO hs);clear bt;refine SW.box rfl rfl fun b6 w2 bt dw ar => ?_
 (obtain ⟨hw,hb,aM,hO,hs⟩:=fD bt hw hb aM hO hs);clear bt;subst hi;rcases hk with rfl|rfl|rfl
 all_goals repeat' (first|refine Wy ?_|refine Wl (hb.cell (i:=9) (v := .slice z.A z.n z.c) rfl) ?_|refine Wl (aM.cell (i:=0) (v := .int .i64 9) rfl) ?_|refine Wl (aM.cell (i:=0) (v := .int .i64 2) rfl) ?_|refine Wl (aM.cell (i:=0) (v := .int .i64 6) rfl) ?_)
 all_goals
  refine SW.dX rfl rfl (yg z.A z.n z.c lo l _ hO j hj (by omega) (adf tf hs.hx.size)) fun v w6 hv => ?_
  obtain ⟨rfl,lD,hg⟩:=hv;have hG:=hO.gr hg;have hw:=aD hw hg dD hO.a9;(have hb:=hb.aK hG rfl);repeat' (first|refine Wy ?_|fail);refine Wb (i:=9) hb fun ji iz dE => ?_
  have ee:=hb.gr dE;have hw:=hw.own rl dE;have bj:=lD.aK ee rfl;repeat' (first|refine Wy ?_|fail);exact ae.pV rfl ⟨_,rfl,rfl,⟨z.A,z.n-1,z.c⟩,bj,iz,hw,.qw (.ud (.ext (.refl w) hs.hx) hG) ee⟩
set_option maxHeartbeats 8000000 in
theorem K4 (wb:World) (lo b:Nat) (r:da) (p q z:gb) (a:cJ) (x:pH) (i:Int) (l:List bT) (w:World) (hk:a.Kind=3∨a.Kind=7∨a.Kind=12∨a.Kind=14) (hw:Ext wb w) (hb:aS w b 48 (ox r p q z)) (rl:wb.heap.size<=b) (hO:Own w lo 50 6 kg z.A z.n z.c l) (dD:wb.heap.size<=lo) (tf:lo<=w.heap.size) (hn:z.n<=100000) :
 iO prog 27 [.pointer (some ⟨b,0,none⟩),.agg (ew a).toArray,.agg (cb x).toArray,.int .i64 i] w (nK wb w lo b r p q (l)):=by
 obtain ⟨k,cpu,n,m,At,fl,nm⟩:=a;simp only at hk ⊢;refine dl func27 rfl ntmps27 rfl ?_;have hs:kK w w:=⟨Ext.refl w⟩
 have hA:=hO.sl.base;have mH:=hO.len;refine CW.seq (CW.region (SW.box rfl rfl fun b5 w2 bt gx aM => ?_));(obtain ⟨hw,hb,hO,hs⟩:=dv bt hw hb hO hs);clear bt;refine SW.box rfl rfl fun b6 w2 bt dw ar => ?_
 (obtain ⟨hw,hb,aM,hO,hs⟩:=fD bt hw hb aM hO hs);clear bt;rcases hk with rfl|rfl|rfl|rfl
 all_goals repeat' (first|refine Wy ?_|refine Wl (aM.cell (i:=0) (v := .int .i64 3) rfl) ?_|refine Wl (aM.cell (i:=0) (v := .int .i64 7) rfl) ?_|refine Wl (aM.cell (i:=0) (v := .int .i64 12) rfl) ?_|refine Wl (aM.cell (i:=0) (v := .int .i64 14) rfl) ?_)
 all_goals exact ae.pV rfl ⟨_,rfl,rfl,z,hO,hb,hw,.ext (.refl w) hs.hx⟩
variable {o' o'':Oper}
section
variable {P:Program} {n:Nat} {ops:Array Oper} {Q:Exit->Act->World->Prop} {fin e8 f:Nat} {S2:World->Prop} {listed:Array Bool} {L:Env} {w:World}
theorem SG.two (i k:Nat) {o:Oper} (hi:ops[i]?=some o) (hk:ops[k]?=some o') (hr:Region.ready .any ops listed=[i,k]) (hw:(!Nat.beq i e8 && !Nat.beq i fin)=true) (ni:(!Nat.beq k e8 && !Nat.beq k fin)=true)
 (h:SW P n ops (.gM (LF P n ops Q fin e8 S2 f (listed.setIfInBounds i true))) [o] L w) (h':SW P n ops (.gM (LF P n ops Q fin e8 S2 f (listed.setIfInBounds k true))) [o'] L w) : SG P n ops Q fin e8 S2 (f+1) listed L w :=
 ⟨fun a ha inv=>⟨by rw [hr];simp,fun j hj=>by
  have nR:=hj;rw [hr] at nR;simp only [List.mem_cons,List.not_mem_nil,or_false] at nR;rcases nR with rfl|rfl
  ·obtain ⟨n1,n2⟩:=Iu hw;have cy:j<ops.size:=(ado.1 hi).1
   exact ⟨cy,oJ (Q1:=LF P n ops Q fin e8 S2 f (listed.setIfInBounds j true)) hi (fun e a w ne h=>by cases e<;>first|exact h|exact absurd rfl ne) (fun h=>h) (fun a' w' hh=>⟨fun e=>absurd e n1,fun _ e=>absurd e n2,fun _ _=>⟨hh.1,hh.2 (inv.set hj cy)⟩⟩) (h.out a ha)⟩
  ·obtain ⟨n1,n2⟩:=Iu ni;have cy:j<ops.size:=(ado.1 hk).1
   exact ⟨cy,oJ (Q1:=LF P n ops Q fin e8 S2 f (listed.setIfInBounds j true)) hk (fun e a w ne h=>by cases e<;>first|exact h|exact absurd rfl ne) (fun h=>h) (fun a' w' hh=>⟨fun e=>absurd e n1,fun _ e=>absurd e n2,fun _ _=>⟨hh.1,hh.2 (inv.set hj cy)⟩⟩) (h'.out a ha)⟩⟩⟩
theorem SF.three (i k m:Nat) {o:Oper} (hi:ops[i]?=some o) (hk:ops[k]?=some o') (hm:ops[m]?=some o'') (hr:Region.ready .any ops listed=[i,k,m]) (hw:(!Nat.beq i e8 && !Nat.beq i fin)=true) (ni:(!Nat.beq k e8 && !Nat.beq k fin)=true) (XM:(!Nat.beq m e8 && !Nat.beq m fin)=true)
 (h:SW P n ops (.gM (Gu P n ops Q fin e8 S2 f (listed.setIfInBounds i true) w)) [o] L w) (h':SW P n ops (.gM (Gu P n ops Q fin e8 S2 f (listed.setIfInBounds k true) w)) [o'] L w) (El:SW P n ops (.gM (Gu P n ops Q fin e8 S2 f (listed.setIfInBounds m true) w)) [o''] L w) : SF P n ops Q fin e8 S2 (f+1) listed L w :=
 ⟨fun a ha inv=>⟨by rw [hr];simp,fun j hj=>by
  have nR:=hj;rw [hr] at nR;simp only [List.mem_cons,List.not_mem_nil,or_false] at nR;rcases nR with rfl|rfl|rfl
  ·obtain ⟨n1,n2⟩:=Iu hw;have cy:j<ops.size:=(ado.1 hi).1
   exact ⟨cy,oJ (Q1:=Gu P n ops Q fin e8 S2 f (listed.setIfInBounds j true) w) hi (fun e a w ne h=>by cases e<;>first|exact h|exact absurd rfl ne) (fun h=>h) (fun a' w' hh=>⟨fun e=>absurd e n1,fun _ e=>absurd e n2,fun _ _=>⟨hh.1,lc f (fun Lw El=>Ext.trans hh.1 El) _ _ _ (hh.2 (inv.set hj cy))⟩⟩) (h.out a ha)⟩
  ·obtain ⟨n1,n2⟩:=Iu ni;have cy:j<ops.size:=(ado.1 hk).1
   exact ⟨cy,oJ (Q1:=Gu P n ops Q fin e8 S2 f (listed.setIfInBounds j true) w) hk (fun e a w ne h=>by cases e<;>first|exact h|exact absurd rfl ne) (fun h=>h) (fun a' w' hh=>⟨fun e=>absurd e n1,fun _ e=>absurd e n2,fun _ _=>⟨hh.1,lc f (fun Lw El=>Ext.trans hh.1 El) _ _ _ (hh.2 (inv.set hj cy))⟩⟩) (h'.out a ha)⟩
  ·obtain ⟨n1,n2⟩:=Iu XM;have cy:j<ops.size:=(ado.1 hm).1
   exact ⟨cy,oJ (Q1:=Gu P n ops Q fin e8 S2 f (listed.setIfInBounds j true) w) hm (fun e a w ne h=>by cases e<;>first|exact h|exact absurd rfl ne) (fun h=>h) (fun a' w' hh=>⟨fun e=>absurd e n1,fun _ e=>absurd e n2,fun _ _=>⟨hh.1,lc f (fun Lw El=>Ext.trans hh.1 El) _ _ _ (hh.2 (inv.set hj cy))⟩⟩) (El.out a ha)⟩⟩⟩
end
open Go.RowKit Go.Maps
variable {D:DataW Unit} {kl:Lit} {d:Nat} {y:Operand} {g:Option (Nat×Bool)} {e t:TypeId}
structure Ij (w:World) (P:Program) (k e:TypeId) (b n:Nat) (D:DataW Unit) : Prop where
 own:w.ownsMap (H:=Unit) P k (plainElem P e) b n D
theorem Ij.ext {k:TypeId} {n:Nat} (h:Ij w P k e b n D) (hx:Ext w w') : Ij w' P k e b n D:=⟨h.own.kept (row:=none) ⟨hx.os,hx.tape,hx.output,hx.size,fun i hi _=>hx.block i hi⟩ (by simp)⟩
section
variable {P:Program} {n:Nat} {ops:Array Oper} {Q:Exit->Act->World->Prop} {rest:List Oper} {L:Env} {w:World} {T:TypeId} {pos:String} {af:Array Edge}
theorem SW.NS (k e:TypeId) (hn:Nat.blt d n=true) (h:∀ b w',Ext w w'->w.heap.size<=b->Ij w' P k e b 0 (.map [])->SW P n ops (.gM Q) rest ((d,.map (some b))::L) w') :
 SW P n ops (.gM Q) (⟨some d,.makeMap t none,T,pos,af,none⟩::rest) L w :=
 ⟨fun a ha=>by
  simp only [swp,wpList,Region.wanted,if_true];refine .inl ?_;unfold Oper.wp
  have:(execOp a.eval ⟨some d,.makeMap t none,T,pos,af,none⟩).run P w = .ok (.value (.map (some w.heap.size))) (w.alloc (.map #[] 0)):=by
   simp [execOp,run_makeMap]
  rw [this,Oper.upon_value];exact (h _ _ (Ext.alloc w _) (adg _) ⟨World.ownsMap_made w P k _⟩).out _ (ha.put hn _)⟩
theorem SW.yS {k:TypeId} {i:Int} {x z:Operand} {key:Value} (hB:Ij w P k e b m D) (K:Keyed P k) (ht:P.underlying t=some (.map k e)) (he:P.underlying e=some (.int .i64)) (ky:m<maxLen) (hi:(Lit.int .i64 i).wf=true)
 (hm:cT L z=some (.map (some b))) (hx:cT L x=some key) (hy:cT L y=some (.int .i64 i)) (qX:Go.keyOf P k key=some kl)
 (h:∀ w',Ij w' P k e b (m+1) (D.put kl (.lit (.int .i64 i)))->w.grownBy w' (some b)->SW P n ops (.gM Q) rest L w') : SW P n ops (.gM Q) (⟨none,.insert t z x y,T,pos,af,none⟩::rest) L w :=
 ⟨fun a ha=>by
  obtain ⟨w',sw,r1,r2⟩:=hB.own.update K ht ky qX (plainElem_int he hi);simp only [swp,wpList,Region.wanted,if_true];refine .inl ?_;unfold Oper.wp
  have:(execOp a.eval ⟨none,.insert t z x y,T,pos,af,none⟩).run P w = .ok .skip w':=by
   simp [execOp,ha.eval hm,ha.eval hx,ha.eval hy,sw]
  rw [this,Oper.upon_skip];exact (h w' ⟨r1⟩ r2).out _ ha⟩
theorem A9 {d:Option Nat} {k:TypeId} {c:Int} {z x:Operand} {key:Value} (hB:Ij w P k e b m D) (K:Keyed P k) (ht:P.underlying t=some (.map k e)) (he:P.underlying e=some (.int .i64)) (hz:∀ w,(zeroValue e).run P w = .ok (.int .i64 0) w)
 (hm:cT L z=some (.map (some b))) (hx:cT L x=some key) (qX:Go.keyOf P k key=some kl) (hc:D.atKey kl (.lit (.int .i64 0)) = .lit (.int .i64 c)) : St P ⟨d,.lookup t z x false,T,pos,af,g⟩ L w (.int .i64 c) :=
 ⟨fun n a ha w' V0=>by
  have v7:=hB.ext V0;obtain ⟨c',sw,hv,_⟩:=v7.own.lookup_int K ht he (hz w') qX;rw [hc] at hv;injection hv with hv
  injection hv with _ hv
  subst hv;simp [execOp,ha.eval hm,ha.eval hx,sw]⟩
end
def SM:Lit:=nA pI
def CY:Lit:=nA gh
theorem NT:SM≠CY:=fun e=>by
 injection (show Lit.string [111,98]=Lit.string [112,97,105,114] from e) with e
 exact absurd e (by decide)
theorem DY (n:ByteArray) (hn:n=pI∨n=gh) : (((DataW.map [] : DataW Unit).put SM (.lit (.int .i64 5))).put CY (.lit (.int .i64 2))).atKey (nA n) (.lit (.int .i64 0)) = .lit (.int .i64 (ow n))∧(((DataW.map [] : DataW Unit).put CY (.lit (.int .i64 2))).put SM (.lit (.int .i64 5))).atKey (nA n) (.lit (.int .i64 0)) = .lit (.int .i64 (ow n)):=by
 have h1:WideAt.IsKeyLit SM:=trivial
 have h2:WideAt.IsKeyLit CY:=trivial
 rcases hn with rfl|rfl
 ·have e:ow pI=5:=by decide +kernel
  rw [e];exact ⟨by rw [show nA pI=SM from rfl,atKey_put_other NT,atKey_put_same isMap_empty h1],by rw [show nA pI=SM from rfl,atKey_put_same (isMap_empty.put _ _) h1]⟩
 ·have e:ow gh=2:=by decide +kernel
  rw [e];exact ⟨by rw [show nA gh=CY from rfl,atKey_put_same (isMap_empty.put _ _) h2],by rw [show nA gh=CY from rfl,atKey_put_other NT.symm,atKey_put_same isMap_empty h2]⟩
set_option maxHeartbeats 8000000 in
theorem Ik (wb:World) (lo b:Nat) (r:da) (p q z:gb) (a:cJ) (x:pH) (i:Int) (l:List bT) (w:World) (hk:a.Kind=11) (j:Nat) (hi:i=(j:Int)) (hj:j<l.length) (hw:Ext wb w) (hb:aS w b 48 (ox r p q z)) (rl:wb.heap.size<=b) (hO:Own w lo 50 6 kg z.A z.n z.c l) (dD:wb.heap.size<=lo) (tf:lo<=w.heap.size) (hn:z.n<=100000) :
 iO prog 27 [.pointer (some ⟨b,0,none⟩),.agg (ew a).toArray,.agg (cb x).toArray,.int .i64 i] w (nK wb w lo b r p q (l.set j ⟨x.N,a.N,l[j].Kind,l[j].Name,l[j].Word,l[j].ua⟩)):=by
 obtain ⟨k,cpu,n,m,At,fl,nm⟩:=a;simp only at hk ⊢;refine dl func27 rfl ntmps27 rfl ?_;have hs:kK w w:=⟨Ext.refl w⟩
 have hA:=hO.sl.base;have mH:=hO.len;refine CW.seq (CW.region (SW.box rfl rfl fun b5 w2 bt gx aM => ?_));(obtain ⟨hw,hb,hO,hs⟩:=dv bt hw hb hO hs);clear bt;refine SW.box rfl rfl fun b6 w2 bt dw ar => ?_
 (obtain ⟨hw,hb,aM,hO,hs⟩:=fD bt hw hb aM hO hs);clear bt;subst hi hk;have UH:j<z.n:=by omega
 obtain ⟨t,ht⟩ : ∃ t,l[j]=t:=⟨_,rfl⟩;simp only [ht];repeat' (first|refine Wy ?_|refine Wl (aM.cell (i:=0) (v := .int .i64 11) rfl) ?_)
 refine CW.gn 9 9 (fun _=>True) mixed (by kernel_rfl) fun w1 ai aG => ?_
 obtain ⟨hw,hb,aM,ar,hO,hs⟩:=gw ai hw hb aM ar hO hs;clear ai;refine Wp 0 [] [] aG rfl rfl ?_;refine Wt 1 [] [] aG rfl (aF rfl) ?_;refine Wt 2 [] [] aG rfl (aA rfl) ?_;refine Wt 3 [] [] aG rfl (aU rfl (hb.cell (i:=9) (v := .slice z.A z.n z.c) rfl)) ?_;refine Wp 4 [] [] aG rfl rfl ?_;refine Wt 5 [] [] aG rfl (aA rfl) ?_;refine Wt 6 [] [] aG rfl (aU rfl (ar.cell (i:=1) (v := .int .i64 x.N) rfl)) ?_;refine Wt 7 [8] [8] aG rfl (cd rfl rfl (by assumption) (by omega)) ?_;refine Wt 8 [] [] aG rfl (aA rfl) ?_;refine SF.last rfl (by kernel_rfl) (by kernel_rfl) ?_;refine SW.gZ j 0 ⟨x.N,t.az,t.Kind,t.Name,t.Word,t.ua⟩ hO rfl rfl rfl UH (by decide) rfl (by rw [ht];rfl) fun pE lD hg => ?_
 have hG:=hO.gr hg;have hw:=aD hw hg dD hO.a9;(obtain ⟨hb,aM,ar⟩:=cn hG hb aM ar);have hK:=kM.ud (kM.ext (.refl w) hs.hx) hG;have gR:kK pE pE:=⟨Ext.refl _⟩
 have oT:=lD.sl.base;repeat' (first|refine Wy ?_|fail);refine CW.gn 9 9 (fun _=>True) mixed (by kernel_rfl) fun w1 ai aG => ?_
 obtain ⟨hw,hb,aM,ar,lD,gR⟩:=gw ai hw hb aM ar lD gR;clear ai;refine Wp 0 [] [] aG rfl rfl ?_;refine Wt 1 [] [] aG rfl (aF rfl) ?_;refine Wt 2 [] [] aG rfl (aA rfl) ?_;refine Wt 3 [] [] aG rfl (aU rfl (hb.cell (i:=9) (v := .slice z.A z.n z.c) rfl)) ?_;refine Wp 4 [] [] aG rfl rfl ?_;refine Wt 5 [] [] aG rfl (aA rfl) ?_;refine Wt 6 [] [] aG rfl (aU rfl (aM.cell (i:=2) (v := .int .i64 n) rfl)) ?_;refine Wt 7 [8] [8] aG rfl (cd rfl rfl (by assumption) (by omega)) ?_;refine Wt 8 [] [] aG rfl (aA rfl) ?_;refine SF.last rfl (by kernel_rfl) (by kernel_rfl) ?_;refine SW.gZ j 1 ⟨x.N,n,t.Kind,t.Name,t.Word,t.ua⟩ lD rfl rfl rfl UH (by decide) rfl (by simp only [List.getElem_set_self];rfl) fun ji bj dE => ?_
 have ee:=lD.gr dE;have hw:=aD hw dE dD lD.a9;(have hb:=hb.aK ee rfl);rw [aeE] at bj;repeat' (first|refine Wy ?_|fail);exact ae.pV rfl ⟨_,rfl,rfl,z,bj,hb,hw,.ud (hK.since gR) ee⟩
set_option maxHeartbeats 8000000 in
theorem Il (wb:World) (lo b:Nat) (r:da) (p q z:gb) (a:cJ) (x:pH) (i:Int) (l:List bT) (w:World) (hk:a.Kind=13) (j:Nat) (hi:i=(j:Int)) (hj:j<l.length) (hw:Ext wb w) (hb:aS w b 48 (ox r p q z)) (rl:wb.heap.size<=b) (hO:Own w lo 50 6 kg z.A z.n z.c l) (dD:wb.heap.size<=lo) (tf:lo<=w.heap.size) (hn:z.n<=100000) :
 iO prog 27 [.pointer (some ⟨b,0,none⟩),.agg (ew a).toArray,.agg (cb x).toArray,.int .i64 i] w (nK wb w lo b r p q (l.set j ⟨l[j].At,l[j].az,l[j].Kind,l[j].Name,a.M,true⟩)):=by
 obtain ⟨k,cpu,n,m,At,fl,nm⟩:=a;simp only at hk ⊢;refine dl func27 rfl ntmps27 rfl ?_;have hs:kK w w:=⟨Ext.refl w⟩
 have hA:=hO.sl.base;have mH:=hO.len;refine CW.seq (CW.region (SW.box rfl rfl fun b5 w2 bt gx aM => ?_));(obtain ⟨hw,hb,hO,hs⟩:=dv bt hw hb hO hs);clear bt;refine SW.box rfl rfl fun b6 w2 bt dw ar => ?_
 (obtain ⟨hw,hb,aM,hO,hs⟩:=fD bt hw hb aM hO hs);clear bt;subst hi hk;have UH:j<z.n:=by omega
 obtain ⟨t,ht⟩ : ∃ t,l[j]=t:=⟨_,rfl⟩;simp only [ht];repeat' (first|refine Wy ?_|refine Wl (aM.cell (i:=0) (v := .int .i64 13) rfl) ?_)
 refine CW.gn 9 9 (fun _=>True) mixed (by kernel_rfl) fun w1 ai aG => ?_
 obtain ⟨hw,hb,aM,ar,hO,hs⟩:=gw ai hw hb aM ar hO hs;clear ai;refine Wp 0 [] [] aG rfl rfl ?_;refine Wt 1 [] [] aG rfl (aF rfl) ?_;refine Wt 2 [] [] aG rfl (aA rfl) ?_;refine Wt 3 [] [] aG rfl (aU rfl (hb.cell (i:=9) (v := .slice z.A z.n z.c) rfl)) ?_;refine Wp 4 [] [] aG rfl rfl ?_;refine Wt 5 [] [] aG rfl (aA rfl) ?_;refine Wt 6 [] [] aG rfl (aU rfl (aM.cell (i:=3) (v := .int .i64 m) rfl)) ?_;refine Wt 7 [8] [8] aG rfl (cd rfl rfl (by assumption) (by omega)) ?_;refine Wt 8 [] [] aG rfl (aA rfl) ?_;refine SF.last rfl (by kernel_rfl) (by kernel_rfl) ?_;refine SW.gZ j 4 ⟨t.At,t.az,t.Kind,t.Name,m,t.ua⟩ hO rfl rfl rfl UH (by decide) rfl (by rw [ht];rfl) fun pE lD hg => ?_
 have hG:=hO.gr hg;have hw:=aD hw hg dD hO.a9;(obtain ⟨hb,aM,ar⟩:=cn hG hb aM ar);have hK:=kM.ud (kM.ext (.refl w) hs.hx) hG;have gR:kK pE pE:=⟨Ext.refl _⟩
 have oT:=lD.sl.base;repeat' (first|refine Wy ?_|refine Wl (hb.cell (i:=9) (v := .slice z.A z.n z.c) rfl) ?_)
 refine SW.gZ j 5 ⟨t.At,t.az,t.Kind,t.Name,m,true⟩ lD rfl rfl rfl UH (by decide) rfl (by simp only [List.getElem_set_self];rfl) fun ji bj dE => ?_
 have ee:=lD.gr dE;have hw:=aD hw dE dD lD.a9;(have hb:=hb.aK ee rfl);rw [aeE] at bj;repeat' (first|refine Wy ?_|fail);exact ae.pV rfl ⟨_,rfl,rfl,z,bj,hb,hw,.ud (hK.since gR) ee⟩
set_option maxHeartbeats 8000000 in
theorem Im (wb:World) (lo b:Nat) (r:da) (p q z:gb) (a:cJ) (x:pH) (i:Int) (l:List bT) (w:World) (hk:a.Kind=15) (ps:List Int) (hL:Own w lo 3 1 bw x.L.A x.L.n x.L.c ps) (Pg:x.L.n<=1000) (hw:Ext wb w) (hb:aS w b 48 (ox r p q z)) (rl:wb.heap.size<=b) (hO:Own w lo 50 6 kg z.A z.n z.c l) (dD:wb.heap.size<=lo) (tf:lo<=w.heap.size) (hn:z.n<=100000) :
 iO prog 27 [.pointer (some ⟨b,0,none⟩),.agg (ew a).toArray,.agg (cb x).toArray,.int .i64 i] w (nK wb w lo b r p q (l++ps.map fun p=>⟨p,5,5,a.Name,0,false⟩)):=by
 obtain ⟨k,cpu,n,m,At,fl,nm⟩:=a;simp only at hk ⊢;refine dl func27 rfl ntmps27 rfl ?_;have hs:kK w w:=⟨Ext.refl w⟩
 have hA:=hO.sl.base;have mH:=hO.len;refine CW.seq (CW.region (SW.box rfl rfl fun b5 w2 bt gx aM => ?_));(obtain ⟨hw,hb,hO,hs,hL⟩:=fD bt hw hb hO hs hL);clear bt;refine SW.box rfl rfl fun b6 w2 bt dw ar => ?_
 (obtain ⟨hw,hb,aM,hO,hs,hL⟩:=gw bt hw hb aM hO hs hL);clear bt;subst hk;have E6:=hL.len;have hK:=kM.ext (.refl w) hs.hx;repeat' (first|refine Wy ?_|refine Wl (aM.cell (i:=0) (v := .int .i64 15) rfl) ?_|refine Wl (ar.cell (i:=2) (v := .slice x.L.A x.L.n x.L.c) rfl) ?_)
 refine CW.loop (fun s:Nat×gb=>[(0,.pointer (some ⟨b,0,none⟩)),(5,.pointer (some ⟨b5,0,none⟩)),(6,.pointer (some ⟨b6,0,none⟩)),(76,.slice x.L.A x.L.n x.L.c),(77,.int .i64 (x.L.n:Int)),(78,.int .i64 (s.1:Int))])
  (fun s w'=>s.1<=x.L.n∧s.2.n=z.n+s.1∧Ext wb w'∧kM w w'∧w.heap.size<=w'.heap.size∧aS w' b 48 (ox r p q s.2)∧aS w' b5 35 (ew ⟨15,cpu,n,m,At,fl,nm⟩)∧aS w' b6 55 (cb x)∧Own w' lo 50 6 kg s.2.A s.2.n s.2.c (l++(ps.take s.1).map fun p=>⟨p,5,5,nm,0,false⟩)∧Own w' lo 3 1 bw x.L.A x.L.n x.L.c ps) (fun s=>x.L.n-s.1) (0,z)
  ⟨rfl,rfl,rfl,rfl,rfl,rfl,trivial⟩ ⟨ad3 _,rfl,hw,hK,hs.hx.size,hb,aM,ar,by rw [List.take_zero,List.map_nil,aeA];exact hO,hL⟩ ?_
 clear hw hK hb aM ar hO hL hs hA;rintro ⟨j,y⟩ w' ⟨hj,Sr,hw,hK,oD,hb,aM,ar,hO,hL⟩
 simp only at hj Sr hb hO ⊢;have hA:=hO.sl.base;have hLA:=hL.sl.base;by_cases nk:j<x.L.n
 ·have U0:j<ps.length:=by omega
  have hs:kK w' w':=⟨Ext.refl _⟩
  have PH:=fun w2 (h:Own w2 lo 3 1 bw x.L.A x.L.n x.L.c ps)=>h.sl.one nk (congrArg bw (rfl:ps[j]=ps[j]))
  repeat' (first|refine Wy ?_|refine Wl (PH _ hL) ?_)
  refine CW.gn 10 13 (fun _=>True) mixed (by kernel_rfl) fun w1 ai aG => ?_
  obtain ⟨hw,hb,aM,ar,hO,hL,hs⟩:=uK ai hw hb aM ar hO hL hs;clear ai;refine SF.cr 0 [] aG rfl (by kernel_rfl) (by kernel_rfl) (by kernel_rfl) (aR rfl) (fun w2 hS=>aR rfl) rfl ?_;refine Wp 1 [4,3,2] [] aG rfl rfl ?_;refine Wt 2 [4,3] [] aG rfl (aF rfl) ?_;refine Wt 3 [4] [] aG rfl (aA rfl) ?_;refine Wt 4 [] [] aG rfl (aU rfl (hb.cell (i:=9) (v := .slice y.A y.n y.c) rfl)) ?_;refine Wp 5 [9,8] [] aG rfl rfl ?_;refine Wt 6 [9,8,7] [] aG rfl (aA rfl) ?_;refine Wt 7 [9,8] [] aG rfl (aU rfl (aM.cell (i:=6) (v := .string nm) rfl)) ?_;refine Wt 8 [9] [] aG rfl (fZ rfl rfl) ?_;refine SF.one 9 rfl (by kernel_rfl) rfl ?_;refine SW.dI rfl rfl rfl rfl rfl fun Ib w9 ak sR lu => ?_
  (obtain ⟨hw,hb,aM,ar,hO,hL,hs⟩:=uK ak hw hb aM ar hO hL hs);refine SW.nil (ae.sf ak ?_);refine SF.turn rfl (by kernel_rfl) rfl ?_;refine SW.append hO (aS.ue (enc:=kg) (x:=⟨ps[j],5,5,nm,0,false⟩) lu) (adf tf (adf oD hs.hx.size)) rfl rfl rfl (by omega) (by omega) fun Y f pE lD hg => ?_
  have hG:=hO.gr hg;have hw:=aD hw hg dD hO.a9;(obtain ⟨hb,aM,ar,hL⟩:=dv hG hb aM ar hL);have hS:=True.intro;refine SW.nil (ae.sg hS ?_);refine SG.one 11 rfl (by kernel_rfl) rfl ?_;repeat ((show SW _ _ _ _ (⟨_,Op.nilCheck _,_,_,_,none⟩::_) _ _;refine SW.st (aF rfl) rfl ?_))
  refine SW.nil (ae.sg hS ?_);refine SG.one 12 rfl (by kernel_rfl) rfl ?_;repeat ((show SW _ _ _ _ (⟨_,Op.fieldAddr _ _ _,_,_,_,none⟩::_) _ _;refine SW.st (aA rfl) rfl ?_))
  refine SW.nil (ae.sg hS ?_);refine SG.last rfl (by kernel_rfl) (by kernel_rfl) ?_;refine Wb (i:=9) hb fun ji iz dE => ?_
  have ee:=hb.gr dE;have hw:=hw.own rl dE;have bj:=lD.aK ee rfl;(obtain ⟨aM,ar,hL⟩:=cn ee aM ar hL);have R5:=kM.qw (kM.ud (hK.since hs) hG) ee;have XN:w.heap.size<=ji.heap.size:=adf oD (adf hs.hx.size (adf hg.size dE.size))
  rw [adj] at bj;have e:((ps.take j).map fun p=>(⟨p,5,5,nm,0,false⟩ : bT))++[⟨ps[j],5,5,nm,0,false⟩]=(ps.take (j+1)).map fun p=>⟨p,5,5,nm,0,false⟩:=by rw [adk U0,adG];rfl
  rw [e] at bj;repeat' (first|refine Wy ?_|fail);exact ae.again (j+1,⟨Y,y.n+1,f⟩) ⟨rfl,rfl,rfl,rfl,rfl,rfl,trivial⟩ (by simp only;omega) ⟨by simp only;omega,by simp only;omega,hw,R5,XN,iz,aM,ar,bj,hL⟩
 ·obtain rfl:j=x.L.n:=by omega
  rw [adr (by omega)] at hO;repeat' (first|refine Wy ?_|fail);exact ae.pV rfl ⟨_,rfl,rfl,y,hO,hb,hw,hK⟩
theorem nP:prog.underlying 137=some (.map 9 3):=by kernel_rfl
theorem Gb (w:World) : (zeroValue 3).run prog w = .ok (.int .i64 0) w:=by
 obtain ⟨inf,hi,hz,hs,yo⟩:=eB prog 3 (z := .int .i64 0) (sz:=1) (bytes:=8);simp [zeroValue,typeInfo,hi,hz]
set_option maxHeartbeats 8000000 in
theorem K9 (wb:World) (lo b:Nat) (r:da) (p q z:gb) (a:cJ) (x:pH) (i:Int) (l:List bT) (w:World) (hk:a.Kind=5) (hN:a.Name=pI∨a.Name=gh) (hw:Ext wb w) (hb:aS w b 48 (ox r p q z)) (rl:wb.heap.size<=b) (hO:Own w lo 50 6 kg z.A z.n z.c l) (dD:wb.heap.size<=lo) (tf:lo<=w.heap.size) (hn:z.n<=100000) :
 iO prog 27 [.pointer (some ⟨b,0,none⟩),.agg (ew a).toArray,.agg (cb x).toArray,.int .i64 i] w (nK wb w lo b r p q (l++[⟨x.N,ow a.Name,5,a.Name,0,false⟩])):=by
 obtain ⟨k,cpu,n,m,At,fl,nm⟩:=a;simp only at hk hN ⊢;refine dl func27 rfl ntmps27 rfl ?_;have hs:kK w w:=⟨Ext.refl w⟩
 have hA:=hO.sl.base;have mH:=hO.len;refine CW.seq (CW.region (SW.box rfl rfl fun b5 w2 bt gx aM => ?_));(obtain ⟨hw,hb,hO,hs⟩:=dv bt hw hb hO hs);clear bt;refine SW.box rfl rfl fun b6 w2 bt dw ar => ?_
 (obtain ⟨hw,hb,aM,hO,hs⟩:=fD bt hw hb aM hO hs);clear bt;subst hk;have sA:nm.size<=140737488351232:=by rcases hN with h|h<;>(rw [h];decide)
 repeat' (first|refine Wy ?_|refine Wl (aM.cell (i:=0) (v := .int .i64 5) rfl) ?_)
 focus
  refine CW.gn 7 23 (fun w2=>aS w2 b 48 (ox r p q z)∧aS w2 b5 35 (ew ⟨5,cpu,n,m,At,fl,nm⟩)∧aS w2 b6 55 (cb x)) mixed (by kernel_rfl) fun w1 ai aG => ?_
  obtain ⟨hw,hb,aM,ar,hO,hs⟩:=gw ai hw hb aM ar hO hs;clear ai;refine SF.cr 0 [] aG rfl (by kernel_rfl) (by kernel_rfl) (by kernel_rfl) (aR rfl) (fun w2 hS=>aR rfl) rfl ?_;refine SF.cr 1 [] aG rfl (by kernel_rfl) (by kernel_rfl) (by kernel_rfl) (aR rfl) (fun w2 hS=>aR rfl) rfl ?_;refine SF.cr 2 [] aG rfl (by kernel_rfl) (by kernel_rfl) (by kernel_rfl) (aF rfl) (fun w2 hS=>aF rfl) rfl ?_;refine SF.cr 3 [] aG rfl (by kernel_rfl) (by kernel_rfl) (by kernel_rfl) (aA rfl) (fun w2 hS=>aA rfl) rfl ?_;refine SF.cr 4 [] aG rfl (by kernel_rfl) (by kernel_rfl) (by kernel_rfl) (aU rfl (hb.cell (i:=9) (v := .slice z.A z.n z.c) rfl)) (fun w2 hS=>aU rfl (hS.1.cell (i:=9) (v := .slice z.A z.n z.c) rfl)) rfl ?_;refine SF.cr 5 [] aG rfl (by kernel_rfl) (by kernel_rfl) (by kernel_rfl) (aA rfl) (fun w2 hS=>aA rfl) rfl ?_;refine SF.cr 6 [] aG rfl (by kernel_rfl) (by kernel_rfl) (by kernel_rfl) (aU rfl (ar.cell (i:=1) (v := .int .i64 x.N) rfl)) (fun w2 hS=>aU rfl (hS.2.2.cell (i:=1) (v := .int .i64 x.N) rfl)) rfl ?_;refine SF.cr 11 [] aG rfl (by kernel_rfl) (by kernel_rfl) (by kernel_rfl) (aA rfl) (fun w2 hS=>aA rfl) rfl ?_;refine SF.cr 12 [] aG rfl (by kernel_rfl) (by kernel_rfl) (by kernel_rfl) (aU rfl (aM.cell (i:=6) (v := .string nm) rfl)) (fun w2 hS=>aU rfl (hS.2.1.cell (i:=6) (v := .string nm) rfl)) rfl ?_;refine SF.cr 14 [] aG rfl (by kernel_rfl) (by kernel_rfl) (by kernel_rfl) (aA rfl) (fun w2 hS=>aA rfl) rfl ?_;refine SF.cr 15 [] aG rfl (by kernel_rfl) (by kernel_rfl) (by kernel_rfl) (aU rfl (aM.cell (i:=0) (v := .int .i64 5) rfl)) (fun w2 hS=>aU rfl (hS.2.1.cell (i:=0) (v := .int .i64 5) rfl)) rfl ?_;refine SF.cr 16 [] aG rfl (by kernel_rfl) (by kernel_rfl) (by kernel_rfl) (aA rfl) (fun w2 hS=>aA rfl) rfl ?_;refine SF.cr 17 [] aG rfl (by kernel_rfl) (by kernel_rfl) (by kernel_rfl) (aU rfl (aM.cell (i:=6) (v := .string nm) rfl)) (fun w2 hS=>aU rfl (hS.2.1.cell (i:=6) (v := .string nm) rfl)) rfl ?_;refine SF.turn rfl (by kernel_rfl) rfl ?_;refine SW.NS 9 3 rfl fun UI w9 ak Qx hM => ?_
  have n1:b≠UI:=by have:=hb.lt;omega
  have n2:b5≠UI:=by have:=aM.lt;omega
  have n3:b6≠UI:=by have:=ar.lt;omega
  have n4:∀ k,aJ z.A z.c=some k->k≠UI:=fun k e=>by have:=hO.lt_size k e;omega
  have Jn:=hw.up Qx
  have Jo:w.heap.size<=UI:=adf hs.hx.size Qx
  (obtain ⟨hw,hb,aM,ar,hO,hs⟩:=gw ak hw hb aM ar hO hs);have hS:=And.intro hb (And.intro aM ar);refine SW.nil (ae.sg hS ?_);refine SG.two 8 9 rfl rfl (by kernel_rfl) rfl rfl ?_ ?_
  focus
   refine SW.yS (i:=5) hM (string_keyed nB) nP nC (by unfold maxLen;omega) rfl rfl rfl rfl (j9 pI (by decide)) fun pE Gm hg => ?_
   have hb:=hb.grown hg (by simpa using n1);have aM:=aM.grown hg (by simpa using n2);have ar:=ar.grown hg (by simpa using n3);have hO:=hO.grown hg (.inr fun e=>n4 _ e rfl);have hw:=hw.own Jn hg;have hs:kK w _:=⟨hs.hx.own Jo hg⟩;have hM:=Gm;clear Gm hg;have hS:=And.intro hb (And.intro aM ar);refine SW.nil (ae.sg hS ?_);refine SG.one 9 rfl (by kernel_rfl) rfl ?_;refine SW.yS (i:=2) hM (string_keyed nB) nP nC (by unfold maxLen;omega) rfl rfl rfl rfl (j9 gh (by decide)) fun pE Gm hg => ?_
   have hb:=hb.grown hg (by simpa using n1);have aM:=aM.grown hg (by simpa using n2);have ar:=ar.grown hg (by simpa using n3);have hO:=hO.grown hg (.inr fun e=>n4 _ e rfl);have hw:=hw.own Jn hg;have hs:kK w _:=⟨hs.hx.own Jo hg⟩;have hM:=Gm;clear Gm hg;have hS:=And.intro hb (And.intro aM ar);refine SW.nil (ae.sg hS ?_);refine SG.one 10 rfl (by kernel_rfl) rfl ?_;repeat (refine SW.pure rfl rfl ?_)
   refine SW.nil (ae.sg hS ?_);refine SG.one 13 rfl (by kernel_rfl) rfl ?_;refine SW.st (A9 hM (string_keyed nB) nP nC Gb rfl rfl (j9 nm sA) (by first|exact (DY nm hN).1|exact (DY nm hN).2)) rfl ?_;refine SW.nil (ae.sg hS ?_);refine SG.one 18 rfl (by kernel_rfl) rfl ?_;repeat ((show SW _ _ _ _ (⟨_,Op.build _ _,_,_,_,none⟩::_) _ _;refine SW.st (fZ rfl rfl) rfl ?_))
   refine SW.nil (ae.sg hS ?_);refine SG.one 19 rfl (by kernel_rfl) rfl ?_;refine SW.dI rfl rfl rfl rfl rfl fun Ib w9 ak sR lu => ?_
   (obtain ⟨hw,hb,aM,ar,hO,hs⟩:=gw ak hw hb aM ar hO hs);have hS:=And.intro hb (And.intro aM ar);refine SW.nil (ae.sg hS ?_);refine SG.one 20 rfl (by kernel_rfl) rfl ?_;refine SW.append hO (aS.ue (enc:=kg) (x:=⟨x.N,ow nm,5,nm,0,false⟩) lu) (adf tf hs.hx.size) rfl rfl rfl (by omega) (by omega) fun Y f pE lD hg => ?_
   have hG:=hO.gr hg;have hw:=aD hw hg dD hO.a9;(obtain ⟨hb,aM,ar⟩:=cn hG hb aM ar);have hS:=And.intro hb (And.intro aM ar);refine SW.nil (ae.sg hS ?_);refine SG.one 21 rfl (by kernel_rfl) rfl ?_;repeat ((show SW _ _ _ _ (⟨_,Op.nilCheck _,_,_,_,none⟩::_) _ _;refine SW.st (aF rfl) rfl ?_))
   refine SW.nil (ae.sg hS ?_);refine SG.one 22 rfl (by kernel_rfl) rfl ?_;repeat ((show SW _ _ _ _ (⟨_,Op.fieldAddr _ _ _,_,_,_,none⟩::_) _ _;refine SW.st (aA rfl) rfl ?_))
   refine SW.nil (ae.sg hS ?_)
  rotate_left
  focus
   refine SW.yS (i:=2) hM (string_keyed nB) nP nC (by unfold maxLen;omega) rfl rfl rfl rfl (j9 gh (by decide)) fun pE Gm hg => ?_
   have hb:=hb.grown hg (by simpa using n1);have aM:=aM.grown hg (by simpa using n2);have ar:=ar.grown hg (by simpa using n3);have hO:=hO.grown hg (.inr fun e=>n4 _ e rfl);have hw:=hw.own Jn hg;have hs:kK w _:=⟨hs.hx.own Jo hg⟩;have hM:=Gm;clear Gm hg;have hS:=And.intro hb (And.intro aM ar);refine SW.nil (ae.sg hS ?_);refine SG.one 8 rfl (by kernel_rfl) rfl ?_;refine SW.yS (i:=5) hM (string_keyed nB) nP nC (by unfold maxLen;omega) rfl rfl rfl rfl (j9 pI (by decide)) fun pE Gm hg => ?_
   have hb:=hb.grown hg (by simpa using n1);have aM:=aM.grown hg (by simpa using n2);have ar:=ar.grown hg (by simpa using n3);have hO:=hO.grown hg (.inr fun e=>n4 _ e rfl);have hw:=hw.own Jn hg;have hs:kK w _:=⟨hs.hx.own Jo hg⟩;have hM:=Gm;clear Gm hg;have hS:=And.intro hb (And.intro aM ar);refine SW.nil (ae.sg hS ?_);refine SG.one 10 rfl (by kernel_rfl) rfl ?_;repeat (refine SW.pure rfl rfl ?_)
   refine SW.nil (ae.sg hS ?_);refine SG.one 13 rfl (by kernel_rfl) rfl ?_;refine SW.st (A9 hM (string_keyed nB) nP nC Gb rfl rfl (j9 nm sA) (by first|exact (DY nm hN).1|exact (DY nm hN).2)) rfl ?_;refine SW.nil (ae.sg hS ?_);refine SG.one 18 rfl (by kernel_rfl) rfl ?_;repeat ((show SW _ _ _ _ (⟨_,Op.build _ _,_,_,_,none⟩::_) _ _;refine SW.st (fZ rfl rfl) rfl ?_))
   refine SW.nil (ae.sg hS ?_);refine SG.one 19 rfl (by kernel_rfl) rfl ?_;refine SW.dI rfl rfl rfl rfl rfl fun Ib w9 ak sR lu => ?_
   (obtain ⟨hw,hb,aM,ar,hO,hs⟩:=gw ak hw hb aM ar hO hs);have hS:=And.intro hb (And.intro aM ar);refine SW.nil (ae.sg hS ?_);refine SG.one 20 rfl (by kernel_rfl) rfl ?_;refine SW.append hO (aS.ue (enc:=kg) (x:=⟨x.N,ow nm,5,nm,0,false⟩) lu) (adf tf hs.hx.size) rfl rfl rfl (by omega) (by omega) fun Y f pE lD hg => ?_
   have hG:=hO.gr hg;have hw:=aD hw hg dD hO.a9;(obtain ⟨hb,aM,ar⟩:=cn hG hb aM ar);have hS:=And.intro hb (And.intro aM ar);refine SW.nil (ae.sg hS ?_);refine SG.one 21 rfl (by kernel_rfl) rfl ?_;repeat ((show SW _ _ _ _ (⟨_,Op.nilCheck _,_,_,_,none⟩::_) _ _;refine SW.st (aF rfl) rfl ?_))
   refine SW.nil (ae.sg hS ?_);refine SG.one 22 rfl (by kernel_rfl) rfl ?_;repeat ((show SW _ _ _ _ (⟨_,Op.fieldAddr _ _ _,_,_,_,none⟩::_) _ _;refine SW.st (aA rfl) rfl ?_))
   refine SW.nil (ae.sg hS ?_)
  rotate_left
  all_goals
   refine SG.last rfl (by kernel_rfl) (by kernel_rfl) ?_;refine Wb (i:=9) hb fun ji iz dE => ?_
   have ee:=hb.gr dE;have hw:=hw.own rl dE;have bj:=lD.aK ee rfl;repeat' (first|refine Wy ?_|fail);exact ae.pV rfl ⟨_,rfl,rfl,⟨Y,z.n+1,f⟩,bj,iz,hw,.qw (.ud (.ext (.refl w) hs.hx) hG) ee⟩
variable {s0:ah} {j:Nat}
theorem qx {l:List bT} {a:cJ} {i:Int} (h:pK s0 j s l a i) (r:da) (lo:Nat) (w:World) (hO:iY w lo r s) (dD:lo<=w.heap.size) (hI:dM s) (hS:iC w) (eG:mN w) :
 bF prog 26 [.agg (aP r).toArray,.agg (ew a).toArray] w fun v w' => ∃ u,cx s a u∧Po lo u v w':=by
 have hD:Ii s a:=⟨h.nc,h.word,h.room⟩
 have h1:=h.at_;have h2:=h.name;rcases h.kinds with hk|hk
 ·exact NR a hk (by omega) (by omega) r s lo w hO dD hI hD hS eG
 ·exact KW a hk r s lo w hO dD hI hD
theorem La {a:cJ} {y:kI} {i:Int} {l l':List bT} (h:qv a y i l l') (wb:World) (lo b:Nat) (r:da) (p q z:gb) (x:pH) (w:World) (hx:kv w lo x y) (hw:Ext wb w) (hb:aS w b 48 (ox r p q z)) (rl:wb.heap.size<=b)
 (hO:Own w lo 50 6 kg z.A z.n z.c l) (dD:wb.heap.size<=lo) (tf:lo<=w.heap.size) (hn:z.n<=100000) :
 iO prog 27 [.pointer (some ⟨b,0,none⟩),.agg (ew a).toArray,.agg (cb x).toArray,.int .i64 i] w (nK wb w lo b r p q l'):=by
 have hl:=hO.len;have e:=hx.n;cases h with
 | k8 hk=>rw [<- e];exact KX wb lo b r p q z a x i l w hk hw hb rl hO dD tf hn
 | k1 hk hN=>rw [<- e] at hN ⊢;exact KY wb lo b r p q z a x i l w hk hN hw hb rl hO dD tf hn
 | k5 hk hN=>rw [<- e];exact K9 wb lo b r p q z a x i l w hk hN hw hb rl hO dD tf hn
 | Xp hk hN=>exact Im wb lo b r p q z a x i l w hk y.L hx.list (by rw [<- hx.list.len];exact hN) hw hb rl hO dD tf hn
 | back hk hi hj=>exact KZ wb lo b r p q z a x i l w hk _ hi (by omega) hw hb rl hO dD tf hn
 | move hk hi hj=>rw [<- e];exact Ik wb lo b r p q z a x i l w hk _ hi hj hw hb rl hO dD tf hn
 | write hk hi hj=>exact Il wb lo b r p q z a x i l w hk _ hi hj hw hb rl hO dD tf hn
 | none hk=>exact K4 wb lo b r p q z a x i l w hk hw hb rl hO dD tf hn
structure PC (a:cJ) : Prop where
 kinds:a.Kind∈kx∨a.Kind=13∨a.Kind=14
 at_ : -100000<=a.At∧a.At<=100000
 name:a.Name.size<=8
structure ng (w:World) (lo b:Nat) (r:da) (p q z:gb) (rs:List pH) (s0:ah) (dz:List cJ) (xs:List kI) (l:List bT) (s:ah) (j:Nat) : Prop where
 low:lo<=b
 qw:aS w b 48 (ox r p q z)
 qy:Own w lo 35 7 ew p.A p.n p.c dz
 DZ:iV w lo q.A q.n q.c rs xs
 px:Own w lo 50 6 kg z.A z.n z.c l
 run:kJ s0 dz xs s
 phase:Ph s0 j s l
 Ds:∀ a∈dz,PC a
 len:dz.length<=j
 many:z.n<=1000*j
structure Sc where
 j:Nat
 r:da
 p:gb
 q:gb
 z:gb
 rs:List pH
 dz:List cJ
 xs:List kI
 l:List bT
 s:ah
theorem UJ {t:Nat} {r:da} {p q z:gb} (h:aS w b t (ox r p q z)) : ∀ j v,(aP r)[j]?=some v->w.cell? ((((⟨b,0,none⟩ : Addr)).add 0).add j)=some v:=fun j v hv=>by
 rw [Ma]
 exact h.cell (by
  have hj:j<(aP r).length:=(adC.1 hv).1
  have:ox r p q z=aP r++[.slice p.A p.n p.c,.slice q.A q.n q.c,.slice z.A z.n z.c]:=rfl
  rw [this,adQ hj];exact hv)
theorem CZ {t:Nat} {x:uE} (h:aS w b t (rS x)) : ∀ j v,(ew x.act)[j]?=some v->w.cell? ((((⟨b,0,none⟩ : Addr)).add 0).add j)=some v:=fun j v hv=>by
 rw [Ma]
 exact h.cell (by
  have hj:j<(ew x.act).length:=(adC.1 hv).1
  have:rS x=ew x.act++[.int .i64 x.Of]:=rfl
  rw [this,adQ hj];exact hv)
def PD (lo:Nat) (R:ah->Prop) (j:Nat) (v:Value) (w:World) : Prop := ∃ b r p q z rs s0 dz xs l s,R s0∧v = .tuple #[.pointer (some ⟨b,0,none⟩),.bool true]∧ng w lo b r p q z rs s0 dz xs l s j
set_option maxHeartbeats 16000000 in
theorem NU (cpus:Int) (A:Option Addr) (n c:Nat) (B:Option Addr) (m d:Nat) (x y:List Region) (split least cp:Int) (X:Option Addr) (k e:Nat) (l':List uE) (w:World) (hx:Sl w 2 jw A n x) (hy:Sl w 2 jw B m y) (hn:n<=9223372036854775807) (hm:m<=9223372036854775807) (Ln : -9223372036854775808<=split∧split<=9223372036854775807) (hS:iC w) (eG:mN w)
 (hl:Sl w 8 rS X k ([oy,ju]++l')) (hk:k<=42) (hR:∀ x∈l',rv cpus x) (hI:∀ u,iN (jt 256 x y) split least cp u->u.2=0∧Start u.1) :
 bF prog 14 [.agg (fX A n c B m d split least cp).toArray,.slice X k e] w fun v w'=>PD w.heap.size (fun s=>iN (jt 256 x y) split least cp (s,0)) k v w':=by
 refine aC func14 rfl ntmps14 rfl ?_;refine CW.seq (CW.region (SW.box rfl rfl fun b2 w1 hw fA au => ?_));have mH:=hl.len;have Za:=hl.base;repeat' (first|refine Wy ?_|refine Wm ((fun _ _=>au.cell)) ?_)
 refine Wk (AW A n c B m d x y split least cp _ (hx.ext hw) (hy.ext hw) hn hm Ln (hS.ext hw)) fun v w5 oC hv => ?_
 obtain ⟨u,hu,r1,rfl,hs⟩:=hv;replace hs:=hs.low hw.size;replace hw:=Ext.trans hw oC;clear oC au fA;obtain ⟨he,h0⟩:=hI _ hu;obtain ⟨s0,u2⟩:=u;simp only at hs h0 he ⊢;subst he;repeat' (first|refine Wy ?_|fail);refine SW.alloc rfl fun b6 w1 ai dw ar => ?_
 skip;refine SW.ag ar rfl rfl rfl rfl (aY r1) fun w2 bQ hg => ?_
 have ak:=ai.own dw hg;have cS:w.heap.size<=b6:=adf hw.size dw
 replace hw:=Ext.trans hw ak;replace hs:=hs.ext ak;replace ar:=bQ;clear bQ ai hg ak;repeat' (first|refine Wy ?_|refine Wm ((fun _ _=>ar.cell)) ?_)
 refine SW.box rfl rfl fun b8 w2 bt oG bi => ?_
 replace bi:aS _ b8 48 (ox r1 ⟨none,0,0⟩ ⟨none,0,0⟩ ⟨none,0,0⟩):=bi;have gG:w.heap.size<=b8:=adf hw.size oG
 (replace hw:=Ext.trans hw bt;replace hs:=hs.ext bt);clear bt ar dw cS;repeat' (first|refine Wy ?_|fail)
 refine CW.loop (fun s:Sc=>[(8,.pointer (some ⟨b8,0,none⟩)),(25,.slice X k e),(26,.int .i64 (k:Int)),(27,.int .i64 (s.j:Int))])
  (fun t w'=>t.j<=k∧Ext w w'∧iY w' w.heap.size t.r t.s∧t.z.n<=1000*t.j∧ng w' w.heap.size b8 t.r t.p t.q t.z t.rs s0 t.dz t.xs t.l t.s t.j) (fun s=>k-s.j) ⟨0,r1,⟨none,0,0⟩,⟨none,0,0⟩,⟨none,0,0⟩,[],[],[],[],s0⟩
  ⟨rfl,rfl,rfl,rfl,trivial⟩ ⟨ad3 _,hw,hs,ad3 _,gG,bi,Own.fF _ _ _ _ _ _,iV.fF _ _ _,Own.fF _ _ _ _ _ _,.nil _,.p0,(fun a ha=>by cases ha),ad3 _,ad3 _⟩ ?_
 clear hw hs bi;rintro ⟨j,r,p,q,z,rs,dz,xs,l,s⟩ w' ⟨hj,hw,hs,hz,_,bi,hA,hT,hZ,sw,SN,kF,hlen,_⟩
 simp only at hj hs hz bi hA hT hZ sw SN kF hlen ⊢;have UK:=SN.sys h0;by_cases nk:j<k
 ·have rK:j<([oy,ju]++l').length:=by omega
  obtain ⟨x,ex⟩ : ∃ x,([oy,ju]++l')[j]=x:=⟨_,rfl⟩;have Lb:=asked SN h0 hR rK ex;have fk:=hl.all nk;rw [ex] at fk;repeat' (first|refine Wy ?_|refine Wo hw fk ?_)
  refine SW.alloc rfl fun qC w1 ai oU aH => ?_
  skip;refine SW.ag aH rfl rfl rfl rfl (Uw x) fun w2 bB hg => ?_
  have ak:=ai.own oU hg;have im:w.heap.size<=qC:=adf hw.size oU
  replace hw:=Ext.trans hw ak;replace bi:=bi.ext ak;replace hs:=hs.ext ak;replace hA:=hA.ext ak;replace hT:=hT.ext ak;replace hZ:=hZ.ext ak;replace aH:=bB;clear bB ai hg ak;repeat' (first|refine Wy ?_|fail);refine Wl (aH.cell (i:=7) (v := .int .i64 x.Of) rfl) ?_;refine SW.pure rfl rfl (SW.nil (ae.seq ?_))
  obtain ⟨KK,yy⟩ : ∃ KK:Env->World->Prop,KK=fun L' w2 => ∃ a i,iw L' [(8,.pointer (some ⟨b8,0,none⟩)),(10,.pointer (some ⟨qC,0,none⟩)),(11,.int .i64 i),(25,.slice X k e),(26,.int .i64 (k:Int)),(27,.int .i64 (j:Int))]∧Ext w w2∧aS w2 b8 48 (ox r p q z)∧aS w2 qC 84 (rS ⟨a,x.Of⟩) ∧
   iY w2 w.heap.size r s∧Own w2 w.heap.size 35 7 ew p.A p.n p.c dz∧iV w2 w.heap.size q.A q.n q.c rs xs∧Own w2 w.heap.size 50 6 kg z.A z.n z.c l∧pK s0 j s l a i:=⟨_,rfl⟩
  have GV:=hZ.len;have hzA:=hZ.sl.base;refine CW.Oq KK ?_ ?_
  ·by_cases h0 : 0<x.Of
   ·repeat' (first|refine Wy ?_|refine Wm ((fun _ _=>aH.cell)) ?_)
    refine Wk (NB b8 r p q z x l _ bi hZ.sl (by omega) ⟨h0,by have:=Lb.top;omega⟩) fun v w5 oC hv => ?_
    obtain ⟨i,rfl,hi⟩:=hv;(replace hw:=Ext.trans hw oC;replace bi:=bi.ext oC;replace aH:=aH.ext oC;replace hs:=hs.ext oC;replace hA:=hA.ext oC;replace hT:=hT.ext oC;replace hZ:=hZ.ext oC);clear oC;rcases hi with rfl|⟨i0,XO,rfl,hp⟩
    ·repeat' (first|refine Wy ?_|fail);refine ae.LJ ?_;repeat' (first|refine Wy ?_|fail);exact ae.again ⟨j+1,r,p,q,z,rs,dz,xs,l,s⟩ ⟨rfl,rfl,rfl,rfl,trivial⟩ (by simp only;omega) ⟨by simp only;omega,hw,hs,by simp only;omega,gG,bi,hA,hT,hZ,sw,Lb.pass h0,kF,by simp only;omega,by simp only;omega⟩
    ·have Gc:=Lb.pick h0 i0 XO hp;have lg:=Lb.at_ i0 XO;obtain ⟨t,et⟩ : ∃ t,l[i0]=t:=⟨_,rfl⟩;have fat:=fun w2 (h:Own w2 w.heap.size 50 6 kg z.A z.n z.c l)=>h.sl.cell i0 XO 0 (.int .i64 t.At) (by rw [et];rfl)
     rw [et] at Gc lg hp;have abD:i0<z.n:=by omega
     repeat' (first|refine Wy ?_|refine Wl (bi.cell (i:=9) (v := .slice z.A z.n z.c) rfl) ?_|refine Wl (fat _ hZ) ?_)
     refine Wb (i:=4) aH fun ji bB dE => ?_
     have ee:=aH.gr dE;replace hw:=hw.own im dE;(replace bi:=bi.aK ee rfl;replace hs:=hs.aK ee rfl;replace hA:=hA.aK ee rfl;replace hT:=hT.aK ee rfl;replace hZ:=hZ.aK ee rfl);replace aH:aS _ qC 84 (rS ⟨dC x.act t.At,x.Of⟩):=bB;clear bB ee dE;by_cases h2:x.act.Kind=2
     ·repeat' (first|refine Wy ?_|refine Wl (CZ aH 0 (.int .i64 x.act.Kind) rfl) ?_|refine Wl (CZ aH 4 (.int .i64 t.At) rfl) ?_)
      refine Wb (i:=4) aH fun ji bB dE => ?_
      have ee:=aH.gr dE;replace hw:=hw.own im dE;(replace bi:=bi.aK ee rfl;replace hs:=hs.aK ee rfl;replace hA:=hA.aK ee rfl;replace hT:=hT.aK ee rfl;replace hZ:=hZ.aK ee rfl);have ea:sQ x.act t=t.At / 16:=if_pos h2
      replace aH:aS _ qC 84 (rS ⟨dC x.act (t.At / 16),x.Of⟩):=bB;clear bB ee dE;rw [ea] at Gc;repeat' (first|refine Wy ?_|fail);exact ae.mj (K:=KK) (by rw [yy];exact ⟨_,_,⟨rfl,rfl,rfl,rfl,rfl,rfl,trivial⟩,hw,bi,aH,hs,hA,hT,hZ,Gc⟩)
     ·repeat' (first|refine Wy ?_|refine Wl (CZ aH 0 (.int .i64 x.act.Kind) rfl) ?_)
      have ea:sQ x.act t=t.At:=if_neg h2
      rw [ea] at Gc;exact ae.mj (K:=KK) (by rw [yy];exact ⟨_,_,⟨rfl,rfl,rfl,rfl,rfl,rfl,trivial⟩,hw,bi,aH,hs,hA,hT,hZ,Gc⟩)
   ·repeat' (first|refine Wy ?_|fail);exact ae.mj (K:=KK) (by rw [yy];exact ⟨x.act,-1,⟨rfl,rfl,rfl,rfl,rfl,rfl,trivial⟩,hw,bi,aH,hs,hA,hT,hZ,Lb.free h0⟩)
  ·clear hw bi aH hs hA hT hZ Lb;subst yy;rintro L' w' ⟨a,i,jA,hw,bi,aH,hs,hA,hT,hZ,Gc⟩
   refine ae.sub jA ?_;have iF:kK w' w':=⟨Ext.refl _⟩
   have l7:=hT.row.lt_size;have abE:=Gc;have GV:=hZ.len;repeat' (first|refine Wy ?_|fail)
   obtain ⟨K2,R5⟩ : ∃ K2:Env->World->Prop,K2=fun L' w2 => ∃ vF tL r2 x2 u,iw L' [(8,.pointer (some ⟨b8,0,none⟩)),(10,.pointer (some ⟨qC,0,none⟩)),(11,.int .i64 i),(12,.pointer (some ⟨vF,0,none⟩)),(13,.pointer (some ⟨tL,0,none⟩)),(25,.slice X k e),(26,.int .i64 (k:Int)),(27,.int .i64 (j:Int))]∧Ext w w2∧aS w2 b8 48 (ox r p q z)∧aS w2 qC 84 (rS ⟨a,x.Of⟩) ∧
    aS w2 vF 44 (aP r2)∧aS w2 tL 55 (cb x2)∧cx s a u∧iY w2 w.heap.size r2 u.1∧kv w2 w.heap.size x2 u.2∧Own w2 w.heap.size 35 7 ew p.A p.n p.c dz∧iV w2 w.heap.size q.A q.n q.c rs xs∧Own w2 w.heap.size 50 6 kg z.A z.n z.c l ∧ ∀ k,aJ q.A q.c=some k->k≠tL:=⟨_,rfl⟩
   refine CW.Oq K2 ?_ ?_
   focus
    refine CW.gn 12 13 (fun _=>True) mixed (by kernel_rfl) fun w1 ai aG => ?_
    replace hw:=Ext.trans hw ai;replace bi:=bi.ext ai;replace aH:=aH.ext ai;replace hs:=hs.ext ai;replace hA:=hA.ext ai;replace hT:=hT.ext ai;replace hZ:=hZ.ext ai;replace iF:=iF.ext ai;clear ai;refine Wp 0 [] [] aG rfl rfl ?_;refine Wt 1 [] [] aG rfl (aF rfl) ?_;refine Wt 2 [] [] aG rfl (aA rfl) ?_;refine Wt 3 [] [] aG rfl (aX rfl rfl (UJ bi)) ?_;refine Wt 4 [] [] aG rfl (aA rfl) ?_;refine Wt 5 [] [] aG rfl (aX rfl rfl (CZ aH)) ?_;refine SF.three 6 10 11 rfl rfl rfl (by kernel_rfl) rfl rfl rfl ?_ ?_ ?_
    focus
     refine Wk (qx Gc r w.heap.size _ hs hw.size UK (hS.ext hw) (eG.ext hw)) fun v w5 ak hv => ?_
     obtain ⟨u,hu,r2,x2,rfl,gR,nV⟩:=hv;(try replace bZ:=bZ.ext ak);(try replace cw:=cw.ext ak);(replace hw:=Ext.trans hw ak;replace bi:=bi.ext ak;replace aH:=aH.ext ak;replace hs:=hs.ext ak;replace hA:=hA.ext ak;replace hT:=hT.ext ak;replace hZ:=hZ.ext ak;replace iF:=iF.ext ak);refine SW.nil (ae.sf ak ?_);refine Wp 7 [] [] aG rfl rfl ?_;refine Wp 8 [] [] aG rfl rfl ?_;refine SF.cr 9 [] aG rfl (by kernel_rfl) (by kernel_rfl) (by kernel_rfl) (aR rfl) (fun w2 hS=>aR rfl) rfl ?_;refine SF.two 10 11 rfl rfl (by kernel_rfl) rfl rfl ?_ ?_
     focus
      refine SW.alloc rfl fun vF w9 ak lM bZ => ?_
      have mT:w.heap.size<=vF:=adf hw.size lM
      (try replace gR:=gR.ext ak);(try replace nV:=nV.ext ak);(try replace cw:=cw.ext ak);(replace hw:=Ext.trans hw ak;replace bi:=bi.ext ak;replace aH:=aH.ext ak;replace hs:=hs.ext ak;replace hA:=hA.ext ak;replace hT:=hT.ext ak;replace hZ:=hZ.ext ak;replace iF:=iF.ext ak);refine SW.nil (ae.sf ak ?_);refine SF.one 11 rfl (by kernel_rfl) rfl ?_;refine SW.alloc rfl fun tL w9 ak lR cw => ?_
      have uc:w.heap.size<=tL:=adf hw.size lR
      have Gd:∀ k,aJ q.A q.c=some k->k≠tL:=fun k e=>by have:=l7 k e;have:=iF.hx.size;omega
      (try replace gR:=gR.ext ak);(try replace nV:=nV.ext ak);(try replace bZ:=bZ.ext ak);(replace hw:=Ext.trans hw ak;replace bi:=bi.ext ak;replace aH:=aH.ext ak;replace hs:=hs.ext ak;replace hA:=hA.ext ak;replace hT:=hT.ext ak;replace hZ:=hZ.ext ak;replace iF:=iF.ext ak);refine SW.nil (ae.sf ak ?_);refine SF.turn rfl (by kernel_rfl) rfl ?_;refine SW.ag bZ rfl rfl rfl rfl (aY r2) fun w8 lm hg => ?_
      have hG:=bZ.gr hg;replace hw:=hw.own mT hg;(replace bi:=bi.aK hG rfl;replace aH:=aH.aK hG rfl;replace hA:=hA.aK hG rfl;replace hT:=hT.aK hG rfl;replace hZ:=hZ.aK hG rfl;replace gR:=gR.aK hG rfl;replace nV:=nV.aK hG rfl;replace cw:=cw.aK hG rfl);have hS:=True.intro;refine SW.nil (ae.sg hS ?_)
     rotate_left
     focus
      refine SW.alloc rfl fun tL w9 ak lR cw => ?_
      have uc:w.heap.size<=tL:=adf hw.size lR
      have Gd:∀ k,aJ q.A q.c=some k->k≠tL:=fun k e=>by have:=l7 k e;have:=iF.hx.size;omega
      (try replace gR:=gR.ext ak);(try replace nV:=nV.ext ak);(try replace bZ:=bZ.ext ak);(replace hw:=Ext.trans hw ak;replace bi:=bi.ext ak;replace aH:=aH.ext ak;replace hs:=hs.ext ak;replace hA:=hA.ext ak;replace hT:=hT.ext ak;replace hZ:=hZ.ext ak;replace iF:=iF.ext ak);refine SW.nil (ae.sf ak ?_);refine SF.one 10 rfl (by kernel_rfl) rfl ?_;refine SW.alloc rfl fun vF w9 ak lM bZ => ?_
      have mT:w.heap.size<=vF:=adf hw.size lM
      (try replace gR:=gR.ext ak);(try replace nV:=nV.ext ak);(try replace cw:=cw.ext ak);(replace hw:=Ext.trans hw ak;replace bi:=bi.ext ak;replace aH:=aH.ext ak;replace hs:=hs.ext ak;replace hA:=hA.ext ak;replace hT:=hT.ext ak;replace hZ:=hZ.ext ak;replace iF:=iF.ext ak);refine SW.nil (ae.sf ak ?_);refine SF.turn rfl (by kernel_rfl) rfl ?_;refine SW.ag bZ rfl rfl rfl rfl (aY r2) fun w8 lm hg => ?_
      have hG:=bZ.gr hg;replace hw:=hw.own mT hg;(replace bi:=bi.aK hG rfl;replace aH:=aH.aK hG rfl;replace hA:=hA.aK hG rfl;replace hT:=hT.aK hG rfl;replace hZ:=hZ.aK hG rfl;replace gR:=gR.aK hG rfl;replace nV:=nV.aK hG rfl;replace cw:=cw.aK hG rfl);have hS:=True.intro;refine SW.nil (ae.sg hS ?_)
     rotate_left
    rotate_left 2
    focus
     refine SW.alloc rfl fun vF w9 ak lM bZ => ?_
     have mT:w.heap.size<=vF:=adf hw.size lM
     (try replace gR:=gR.ext ak);(try replace nV:=nV.ext ak);(try replace cw:=cw.ext ak);(replace hw:=Ext.trans hw ak;replace bi:=bi.ext ak;replace aH:=aH.ext ak;replace hs:=hs.ext ak;replace hA:=hA.ext ak;replace hT:=hT.ext ak;replace hZ:=hZ.ext ak;replace iF:=iF.ext ak);refine SW.nil (ae.sf ak ?_);refine SF.two 6 11 rfl rfl (by kernel_rfl) rfl rfl ?_ ?_
     focus
      refine Wk (qx Gc r w.heap.size _ hs hw.size UK (hS.ext hw) (eG.ext hw)) fun v w5 ak hv => ?_
      obtain ⟨u,hu,r2,x2,rfl,gR,nV⟩:=hv;(try replace bZ:=bZ.ext ak);(try replace cw:=cw.ext ak);(replace hw:=Ext.trans hw ak;replace bi:=bi.ext ak;replace aH:=aH.ext ak;replace hs:=hs.ext ak;replace hA:=hA.ext ak;replace hT:=hT.ext ak;replace hZ:=hZ.ext ak;replace iF:=iF.ext ak);refine SW.nil (ae.sf ak ?_);refine Wp 7 [] [] aG rfl rfl ?_;refine Wp 8 [] [] aG rfl rfl ?_;refine SF.cr 9 [] aG rfl (by kernel_rfl) (by kernel_rfl) (by kernel_rfl) (aR rfl) (fun w2 hS=>aR rfl) rfl ?_;refine SF.one 11 rfl (by kernel_rfl) rfl ?_;refine SW.alloc rfl fun tL w9 ak lR cw => ?_
      have uc:w.heap.size<=tL:=adf hw.size lR
      have Gd:∀ k,aJ q.A q.c=some k->k≠tL:=fun k e=>by have:=l7 k e;have:=iF.hx.size;omega
      (try replace gR:=gR.ext ak);(try replace nV:=nV.ext ak);(try replace bZ:=bZ.ext ak);(replace hw:=Ext.trans hw ak;replace bi:=bi.ext ak;replace aH:=aH.ext ak;replace hs:=hs.ext ak;replace hA:=hA.ext ak;replace hT:=hT.ext ak;replace hZ:=hZ.ext ak;replace iF:=iF.ext ak);refine SW.nil (ae.sf ak ?_);refine SF.turn rfl (by kernel_rfl) rfl ?_;refine SW.ag bZ rfl rfl rfl rfl (aY r2) fun w8 lm hg => ?_
      have hG:=bZ.gr hg;replace hw:=hw.own mT hg;(replace bi:=bi.aK hG rfl;replace aH:=aH.aK hG rfl;replace hA:=hA.aK hG rfl;replace hT:=hT.aK hG rfl;replace hZ:=hZ.aK hG rfl;replace gR:=gR.aK hG rfl;replace nV:=nV.aK hG rfl;replace cw:=cw.aK hG rfl);have hS:=True.intro;refine SW.nil (ae.sg hS ?_)
     rotate_left
     focus
      refine SW.alloc rfl fun tL w9 ak lR cw => ?_
      have uc:w.heap.size<=tL:=adf hw.size lR
      have Gd:∀ k,aJ q.A q.c=some k->k≠tL:=fun k e=>by have:=l7 k e;have:=iF.hx.size;omega
      (try replace gR:=gR.ext ak);(try replace nV:=nV.ext ak);(try replace bZ:=bZ.ext ak);(replace hw:=Ext.trans hw ak;replace bi:=bi.ext ak;replace aH:=aH.ext ak;replace hs:=hs.ext ak;replace hA:=hA.ext ak;replace hT:=hT.ext ak;replace hZ:=hZ.ext ak;replace iF:=iF.ext ak);refine SW.nil (ae.sf ak ?_);refine SF.one 6 rfl (by kernel_rfl) rfl ?_;refine Wk (qx Gc r w.heap.size _ hs hw.size UK (hS.ext hw) (eG.ext hw)) fun v w5 ak hv => ?_
      obtain ⟨u,hu,r2,x2,rfl,gR,nV⟩:=hv;(try replace bZ:=bZ.ext ak);(try replace cw:=cw.ext ak);(replace hw:=Ext.trans hw ak;replace bi:=bi.ext ak;replace aH:=aH.ext ak;replace hs:=hs.ext ak;replace hA:=hA.ext ak;replace hT:=hT.ext ak;replace hZ:=hZ.ext ak;replace iF:=iF.ext ak);refine SW.nil (ae.sf ak ?_);refine Wp 7 [] [] aG rfl rfl ?_;refine Wp 8 [] [] aG rfl rfl ?_;refine SF.cr 9 [] aG rfl (by kernel_rfl) (by kernel_rfl) (by kernel_rfl) (aR rfl) (fun w2 hS=>aR rfl) rfl ?_;refine SF.turn rfl (by kernel_rfl) rfl ?_;refine SW.ag bZ rfl rfl rfl rfl (aY r2) fun w8 lm hg => ?_
      have hG:=bZ.gr hg;replace hw:=hw.own mT hg;(replace bi:=bi.aK hG rfl;replace aH:=aH.aK hG rfl;replace hA:=hA.aK hG rfl;replace hT:=hT.aK hG rfl;replace hZ:=hZ.aK hG rfl;replace gR:=gR.aK hG rfl;replace nV:=nV.aK hG rfl;replace cw:=cw.aK hG rfl);have hS:=True.intro;refine SW.nil (ae.sg hS ?_)
     rotate_left
    rotate_left 2
    focus
     refine SW.alloc rfl fun tL w9 ak lR cw => ?_
     have uc:w.heap.size<=tL:=adf hw.size lR
     have Gd:∀ k,aJ q.A q.c=some k->k≠tL:=fun k e=>by have:=l7 k e;have:=iF.hx.size;omega
     (try replace gR:=gR.ext ak);(try replace nV:=nV.ext ak);(try replace bZ:=bZ.ext ak);(replace hw:=Ext.trans hw ak;replace bi:=bi.ext ak;replace aH:=aH.ext ak;replace hs:=hs.ext ak;replace hA:=hA.ext ak;replace hT:=hT.ext ak;replace hZ:=hZ.ext ak;replace iF:=iF.ext ak);refine SW.nil (ae.sf ak ?_);refine SF.two 6 10 rfl rfl (by kernel_rfl) rfl rfl ?_ ?_
     focus
      refine Wk (qx Gc r w.heap.size _ hs hw.size UK (hS.ext hw) (eG.ext hw)) fun v w5 ak hv => ?_
      obtain ⟨u,hu,r2,x2,rfl,gR,nV⟩:=hv;(try replace bZ:=bZ.ext ak);(try replace cw:=cw.ext ak);(replace hw:=Ext.trans hw ak;replace bi:=bi.ext ak;replace aH:=aH.ext ak;replace hs:=hs.ext ak;replace hA:=hA.ext ak;replace hT:=hT.ext ak;replace hZ:=hZ.ext ak;replace iF:=iF.ext ak);refine SW.nil (ae.sf ak ?_);refine Wp 7 [] [] aG rfl rfl ?_;refine Wp 8 [] [] aG rfl rfl ?_;refine SF.cr 9 [] aG rfl (by kernel_rfl) (by kernel_rfl) (by kernel_rfl) (aR rfl) (fun w2 hS=>aR rfl) rfl ?_;refine SF.one 10 rfl (by kernel_rfl) rfl ?_;refine SW.alloc rfl fun vF w9 ak lM bZ => ?_
      have mT:w.heap.size<=vF:=adf hw.size lM
      (try replace gR:=gR.ext ak);(try replace nV:=nV.ext ak);(try replace cw:=cw.ext ak);(replace hw:=Ext.trans hw ak;replace bi:=bi.ext ak;replace aH:=aH.ext ak;replace hs:=hs.ext ak;replace hA:=hA.ext ak;replace hT:=hT.ext ak;replace hZ:=hZ.ext ak;replace iF:=iF.ext ak);refine SW.nil (ae.sf ak ?_);refine SF.turn rfl (by kernel_rfl) rfl ?_;refine SW.ag bZ rfl rfl rfl rfl (aY r2) fun w8 lm hg => ?_
      have hG:=bZ.gr hg;replace hw:=hw.own mT hg;(replace bi:=bi.aK hG rfl;replace aH:=aH.aK hG rfl;replace hA:=hA.aK hG rfl;replace hT:=hT.aK hG rfl;replace hZ:=hZ.aK hG rfl;replace gR:=gR.aK hG rfl;replace nV:=nV.aK hG rfl;replace cw:=cw.aK hG rfl);have hS:=True.intro;refine SW.nil (ae.sg hS ?_)
     rotate_left
     focus
      refine SW.alloc rfl fun vF w9 ak lM bZ => ?_
      have mT:w.heap.size<=vF:=adf hw.size lM
      (try replace gR:=gR.ext ak);(try replace nV:=nV.ext ak);(try replace cw:=cw.ext ak);(replace hw:=Ext.trans hw ak;replace bi:=bi.ext ak;replace aH:=aH.ext ak;replace hs:=hs.ext ak;replace hA:=hA.ext ak;replace hT:=hT.ext ak;replace hZ:=hZ.ext ak;replace iF:=iF.ext ak);refine SW.nil (ae.sf ak ?_);refine SF.one 6 rfl (by kernel_rfl) rfl ?_;refine Wk (qx Gc r w.heap.size _ hs hw.size UK (hS.ext hw) (eG.ext hw)) fun v w5 ak hv => ?_
      obtain ⟨u,hu,r2,x2,rfl,gR,nV⟩:=hv;(try replace bZ:=bZ.ext ak);(try replace cw:=cw.ext ak);(replace hw:=Ext.trans hw ak;replace bi:=bi.ext ak;replace aH:=aH.ext ak;replace hs:=hs.ext ak;replace hA:=hA.ext ak;replace hT:=hT.ext ak;replace hZ:=hZ.ext ak;replace iF:=iF.ext ak);refine SW.nil (ae.sf ak ?_);refine Wp 7 [] [] aG rfl rfl ?_;refine Wp 8 [] [] aG rfl rfl ?_;refine SF.cr 9 [] aG rfl (by kernel_rfl) (by kernel_rfl) (by kernel_rfl) (aR rfl) (fun w2 hS=>aR rfl) rfl ?_;refine SF.turn rfl (by kernel_rfl) rfl ?_;refine SW.ag bZ rfl rfl rfl rfl (aY r2) fun w8 lm hg => ?_
      have hG:=bZ.gr hg;replace hw:=hw.own mT hg;(replace bi:=bi.aK hG rfl;replace aH:=aH.aK hG rfl;replace hA:=hA.aK hG rfl;replace hT:=hT.aK hG rfl;replace hZ:=hZ.aK hG rfl;replace gR:=gR.aK hG rfl;replace nV:=nV.aK hG rfl;replace cw:=cw.aK hG rfl);have hS:=True.intro;refine SW.nil (ae.sg hS ?_)
     rotate_left
    rotate_left 2
    all_goals
     refine SG.last rfl (by kernel_rfl) (by kernel_rfl) ?_;refine SW.ag cw rfl rfl rfl rfl (fr x2) fun w8 lS hg => ?_
     have hG:=cw.gr hg;have UL:iV w8 w.heap.size q.A q.n q.c rs xs:=⟨hT.row.grown hg (.inr fun e=>Gd _ e rfl),hT.each.mono fun _ _ h=>h.aK hG rfl⟩
     replace hw:=hw.own uc hg;(replace bi:=bi.aK hG rfl;replace aH:=aH.aK hG rfl;replace hA:=hA.aK hG rfl;replace hZ:=hZ.aK hG rfl;replace gR:=gR.aK hG rfl;replace nV:=nV.aK hG rfl;replace lm:=lm.aK hG rfl);have bZ:=lm;have cw:=lS;repeat' (first|refine Wy ?_|fail);exact ae.mj (K:=K2) (by rw [R5];exact ⟨vF,tL,r2,x2,u,⟨rfl,rfl,rfl,rfl,rfl,rfl,rfl,rfl,trivial⟩,hw,bi,aH,bZ,cw,hu,gR,nV,hA,UL,hZ,Gd⟩)
   clear hw bi aH hs hA hT hZ iF l7;subst R5;rintro L2 w2 ⟨vF,tL,r2,x2,u,UM,hw,bi,aH,bZ,cw,hu,hs,hx,hA,hT,hZ,Gd⟩
   refine ae.sub UM ?_;have GV:=hZ.len;have E6:=hA.len;have Tx:=hT.len;have PV:=sw.len;repeat' (first|refine Wy ?_|refine Wm ((fun _ _=>bZ.cell)) ?_)
   refine SW.gq 0 bi rfl rfl rfl (adJ rfl) (aY r2) (ox r2 p q z) rfl fun rI tJ hg => ?_
   have hG:=bi.gr hg;replace hw:=hw.own gG hg;(replace aH:=aH.aK hG rfl;replace bZ:=bZ.aK hG rfl;replace cw:=cw.aK hG rfl;replace hs:=hs.aK hG rfl;replace hx:=hx.aK hG rfl;replace hA:=hA.aK hG rfl;replace hT:=hT.aK hG rfl;replace hZ:=hZ.aK hG rfl);have bi:=tJ;clear tJ hG hg;repeat' (first|refine Wy ?_|fail);refine CW.gn 8 11 (fun _=>True) mixed (by kernel_rfl) fun w1 ai aG => ?_
   replace hw:=Ext.trans hw ai;replace bi:=bi.ext ai;replace aH:=aH.ext ai;replace cw:=cw.ext ai;replace hs:=hs.ext ai;replace hx:=hx.ext ai;replace hA:=hA.ext ai;replace hT:=hT.ext ai;replace hZ:=hZ.ext ai;clear ai;refine SF.cr 0 [] aG rfl (by kernel_rfl) (by kernel_rfl) (by kernel_rfl) (aR rfl) (fun w2 hS=>aR rfl) rfl ?_;refine Wp 1 [4,3,2] [] aG rfl rfl ?_;refine Wt 2 [4,3] [] aG rfl (aF rfl) ?_;refine Wt 3 [4] [] aG rfl (aA rfl) ?_;refine Wt 4 [] [] aG rfl (aU rfl (bi.cell (i:=7) (v := .slice p.A p.n p.c) rfl)) ?_;refine Wt 5 [7,6] [] aG rfl (aA rfl) ?_;refine Wt 6 [7] [] aG rfl (aX rfl rfl (CZ aH)) ?_;refine SF.one 7 rfl (by kernel_rfl) rfl ?_;refine SW.dI rfl rfl rfl rfl rfl fun b80 w9 ak Zm XP => ?_
   (replace hw:=Ext.trans hw ak;replace bi:=bi.ext ak;replace aH:=aH.ext ak;replace cw:=cw.ext ak;replace hs:=hs.ext ak;replace hx:=hx.ext ak;replace hA:=hA.ext ak;replace hT:=hT.ext ak;replace hZ:=hZ.ext ak);refine SW.nil (ae.sf ak ?_);refine SF.turn rfl (by kernel_rfl) rfl ?_;refine SW.append hA (aS.ue (enc:=ew) (x:=a) XP) hw.size rfl rfl rfl (by omega) (by omega) fun Y f pE oT hg => ?_
   have hG:=hA.gr hg;replace hw:=aD hw hg (adg _) hA.a9;(replace bi:=bi.aK hG rfl;replace aH:=aH.aK hG rfl;replace cw:=cw.aK hG rfl;replace hs:=hs.aK hG rfl;replace hx:=hx.aK hG rfl;replace hT:=hT.aK hG rfl;replace hZ:=hZ.aK hG rfl);have hS:=True.intro;refine SW.nil (ae.sg hS ?_);refine SG.one 9 rfl (by kernel_rfl) rfl ?_;repeat ((show SW _ _ _ _ (⟨_,Op.nilCheck _,_,_,_,none⟩::_) _ _;refine SW.st (aF rfl) rfl ?_))
   refine SW.nil (ae.sg hS ?_);refine SG.one 10 rfl (by kernel_rfl) rfl ?_;repeat ((show SW _ _ _ _ (⟨_,Op.fieldAddr _ _ _,_,_,_,none⟩::_) _ _;refine SW.st (aA rfl) rfl ?_))
   refine SW.nil (ae.sg hS ?_);refine SG.last rfl (by kernel_rfl) (by kernel_rfl) ?_;refine Wb (i:=7) bi fun ji iz dE => ?_
   have ee:=bi.gr dE;replace hw:=hw.own gG dE;replace oT:=oT.aK ee rfl;(replace aH:=aH.aK ee rfl;replace cw:=cw.aK ee rfl;replace hs:=hs.aK ee rfl;replace hx:=hx.aK ee rfl;replace hT:=hT.aK ee rfl;replace hZ:=hZ.aK ee rfl);replace bi:aS _ b8 48 (ox r2 ⟨Y,p.n+1,f⟩ q z):=iz;clear iz ee dE;repeat' (first|refine Wy ?_|fail);refine CW.gn 7 10 (fun _=>True) mixed (by kernel_rfl) fun w1 ai aG => ?_
   replace hw:=Ext.trans hw ai;replace bi:=bi.ext ai;replace aH:=aH.ext ai;replace cw:=cw.ext ai;replace hs:=hs.ext ai;replace hx:=hx.ext ai;replace oT:=oT.ext ai;replace hT:=hT.ext ai;replace hZ:=hZ.ext ai;clear ai;refine SF.cr 0 [] aG rfl (by kernel_rfl) (by kernel_rfl) (by kernel_rfl) (aR rfl) (fun w2 hS=>aR rfl) rfl ?_;refine Wp 1 [4,3,2] [] aG rfl rfl ?_;refine Wt 2 [4,3] [] aG rfl (aF rfl) ?_;refine Wt 3 [4] [] aG rfl (aA rfl) ?_;refine Wt 4 [] [] aG rfl (aU rfl (bi.cell (i:=8) (v := .slice q.A q.n q.c) rfl)) ?_;refine Wt 5 [6] [] aG rfl (aX rfl rfl ((fun _ _=>cw.cell))) ?_;refine SF.one 6 rfl (by kernel_rfl) rfl ?_;refine SW.dI rfl rfl rfl rfl rfl fun b90 w9 ak Zn XQ => ?_
   (replace hw:=Ext.trans hw ak;replace bi:=bi.ext ak;replace aH:=aH.ext ak;replace cw:=cw.ext ak;replace hs:=hs.ext ak;replace hx:=hx.ext ak;replace oT:=oT.ext ak;replace hT:=hT.ext ak;replace hZ:=hZ.ext ak);refine SW.nil (ae.sf ak ?_);refine SF.turn rfl (by kernel_rfl) rfl ?_;refine SW.append hT.row (aS.ue (enc:=cb) (x:=x2) XQ) hw.size rfl rfl rfl (by omega) (by omega) fun Y2 f2 pE hT1 hg => ?_
   have hG:=hT.row.gr hg;replace hw:=aD hw hg (adg _) hT.row.a9;have hTe:=hT.each.mono fun _ _ h=>h.aK (t:=55) hG rfl
   replace cw:=cw.grown hg (fun e=>Gd _ e.symm rfl);(replace bi:=bi.aK hG rfl;replace aH:=aH.aK hG rfl;replace hs:=hs.aK hG rfl;replace hx:=hx.aK hG rfl;replace oT:=oT.aK hG rfl;replace hZ:=hZ.aK hG rfl);have hS:=True.intro;refine SW.nil (ae.sg hS ?_);refine SG.one 8 rfl (by kernel_rfl) rfl ?_;repeat ((show SW _ _ _ _ (⟨_,Op.nilCheck _,_,_,_,none⟩::_) _ _;refine SW.st (aF rfl) rfl ?_))
   refine SW.nil (ae.sg hS ?_);refine SG.one 9 rfl (by kernel_rfl) rfl ?_;repeat ((show SW _ _ _ _ (⟨_,Op.fieldAddr _ _ _,_,_,_,none⟩::_) _ _;refine SW.st (aA rfl) rfl ?_))
   refine SW.nil (ae.sg hS ?_);refine SG.last rfl (by kernel_rfl) (by kernel_rfl) ?_;refine Wb (i:=8) bi fun ji iz dE => ?_
   have ee:=bi.gr dE;replace hw:=hw.own gG dE;have UL:iV ji w.heap.size Y2 (q.n+1) f2 (rs++[x2]) (xs++[u.2]):=iV.aK ⟨hT1,hTe.snoc hx⟩ ee rfl
   (replace aH:=aH.aK ee rfl;replace cw:=cw.aK ee rfl;replace hs:=hs.aK ee rfl;replace hx:=hx.aK ee rfl;replace oT:=oT.aK ee rfl;replace hZ:=hZ.aK ee rfl);replace bi:aS _ b8 48 (ox r2 ⟨Y,p.n+1,f⟩ ⟨Y2,q.n+1,f2⟩ z):=iz;clear iz ee dE
   have Zo:∀ y∈dz++[a],PC y:=fun y hy=>by
    rcases adm.1 hy with h|h
    ·exact kF y h
    ·simp only [List.mem_singleton] at h;rw [h];exact ⟨Gc.kinds,Gc.at_,Gc.name⟩
   have UN:=kJ.snoc sw hu;by_cases h0:x2.Code=0
   ·obtain ⟨l2,hN,hPh⟩:=Gc.out u hu (by rw [<- hx.code];exact h0);have I6:=hN.len;repeat' (first|refine Wy ?_|refine Wl (cw.cell (i:=0) (v := .int .i64 x2.Code) rfl) ?_|refine Wm (CZ aH) ?_|refine Wm ((fun _ _=>cw.cell)) ?_)
    refine SW.dX rfl rfl (La hN w w.heap.size b8 r2 ⟨Y,p.n+1,f⟩ ⟨Y2,q.n+1,f2⟩ z x2 _ hx hw bi gG hZ (adg _) hw.size (by omega)) fun v w6 hv => ?_
    obtain ⟨rfl,z2,Zp,tJ,bt,hK⟩:=hv
    have hM:=hK.move (P:=fun v=>iY v w.heap.size r2 u.1∧Own v w.heap.size 35 7 ew Y (p.n+1) f (dz++[a])∧iV v w.heap.size Y2 (q.n+1) f2 (rs++[x2]) (xs++[u.2])) (fun _ _ h hx=>⟨h.1.ext hx,h.2.1.ext hx,h.2.2.ext hx⟩)
     (fun _ _ h hG=>⟨h.1.aK hG rfl,h.2.1.aK hG rfl,h.2.2.aK hG rfl⟩) (fun _ _ h hG=>⟨h.1.aK hG rfl,h.2.1.aK hG rfl,h.2.2.aK hG rfl⟩) ⟨hs,oT,UL⟩
    obtain ⟨gR,Gl,hT3⟩:=hM;have abJ:=Zp.len;clear hw bi aH cw hs hx oT UL hZ hK;have hw:=bt;repeat' (first|refine Wy ?_|fail);exact ae.again ⟨j+1,r2,⟨Y,p.n+1,f⟩,⟨Y2,q.n+1,f2⟩,z2,rs++[x2],dz++[a],xs++[u.2],l2,u.1⟩ ⟨rfl,rfl,rfl,rfl,trivial⟩ (by simp only;omega) ⟨by simp only;omega,hw,gR,by simp only;omega,gG,tJ,Gl,hT3,Zp,UN,hPh,Zo,by simp;omega,by simp only;omega⟩
   ·repeat' (first|refine Wy ?_|refine Wl (cw.cell (i:=0) (v := .int .i64 x2.Code) rfl) ?_)
    exact ae.again ⟨j+1,r2,⟨Y,p.n+1,f⟩,⟨Y2,q.n+1,f2⟩,z,rs++[x2],dz++[a],xs++[u.2],l,u.1⟩ ⟨rfl,rfl,rfl,rfl,trivial⟩ (by simp only;omega) ⟨by simp only;omega,hw,hs,by simp only;omega,gG,bi,oT,UL,hZ,UN,Gc.fail u hu (by rw [<- hx.code];exact h0),Zo,by simp;omega,by simp only;omega⟩
 ·obtain rfl:j=k:=by omega
  repeat' (first|refine Wy ?_|fail);exact ae.dm rfl rfl rfl ⟨_,rfl,hw,b8,r,p,q,z,rs,s0,dz,xs,l,s,hu,rfl,gG,bi,hA,hT,hZ,sw,SN,kF,hlen,hz⟩
set_option maxHeartbeats 4000000 in
theorem NV (a:cJ) (hk:a.Kind=9) (BG : -9223372036854775808<=a.At∧a.At<=9223372036854775807) : jQ dM a:=by
 intro r s lo w hO dD hI hS eG;obtain ⟨k,cpu,n,m,At,fl,nm⟩:=a;simp only at hk BG;subst hk;have hf:=hI.cK;have hs:=hf.small;have hM:=hI.may;refine aC func16 rfl ntmps16 rfl ?_;refine CW.seq (CW.region (SW.box rfl rfl fun b2 w1 hw fA au => ?_));have l2:=au.lt;refine SW.box rfl rfl fun b3 w2 bt cg aq => ?_
 have gd:=hw.up cg
 (obtain ⟨hw,au⟩:=df bt hw au);clear bt;have l3:=aq.lt;refine SW.alloc rfl fun b4 w2 bt fP aI => ?_
 have eH:=hw.up fP
 (obtain ⟨hw,au,aq⟩:=cn bt hw au aq);clear bt;have l4:=aI.lt;refine SW.alloc rfl fun b5 w2 bt gx aM => ?_
 have jI:=hw.up gx
 (obtain ⟨hw,au,aq,aI⟩:=dv bt hw au aq aI);clear bt;have l5:=aM.lt;repeat' (first|refine Wy ?_|refine Wm ((fun _ _=>au.cell)) ?_)
 refine SW.alloc rfl fun b6 w1 ai dw ar => ?_
 skip;refine SW.ag ar rfl rfl rfl rfl (aY r) fun w2 bQ hg => ?_
 have ak:=ai.own dw hg;have cS:=hw.up dw
 obtain ⟨hw,au,aq,aI,aM⟩:=fD ak hw au aq aI aM;have ar:=bQ;clear bQ ai hg ak;have l6:=ar.lt;repeat' (first|refine Wy ?_|fail);refine SW.alloc rfl fun b7 w1 ai iI bf => ?_
 skip;refine SW.ag bf rfl rfl rfl rfl (fr ⟨0,0,.nil⟩) fun w2 bq hg => ?_
 have ak:=ai.own iI hg;have gf:=hw.up iI
 obtain ⟨hw,au,aq,aI,aM,ar⟩:=gw ak hw au aq aI aM ar;have bf:=bq;clear bq ai hg ak;have xL:b2≠b6:=by omega
 have xM:b4≠b6:=by omega
 have NH:b2≠b4:=by omega
 have ry:b5≠b7:=by omega
 clear l2 l3 l4 l5 l6;repeat' (first|refine Wy ?_|refine Wm ((fun _ _=>au.cell)) ?_|refine Wl (aq.cell (i:=1) (v := .int .i64 cpu) rfl) ?_|refine Wl (aq.cell (i:=4) (v := .int .i64 At) rfl) ?_|refine Wl (aq.cell (i:=0) (v := .int .i64 9) rfl) ?_)
 refine Wk (xh r s cpu At _ (hO.rd.ext hw) hf BG (hS.ext hw)) fun v w7 jF hv => ?_
 obtain ⟨u,hu,q,rfl,hH⟩:=hv;have hH:=hH.low (adf dD hw.size);(obtain ⟨hw,au,aq,aI,aM,ar,bf⟩:=uK jF hw au aq aI aM ar bf);clear jF;have bj:=hO.ext hw;have hA:=cx.ko (s:=s) (a:=⟨9,cpu,n,m,At,fl,nm⟩) rfl hu;obtain ⟨u1,e⟩:=u;simp only at hA hH ⊢;by_cases he:e=0
 ·rw [mZ,if_pos he,he] at hA;rw [he];repeat' (first|refine Wy ?_|fail);refine SW.ag ar rfl rfl rfl rfl (aY q) fun rI bQ hg => ?_
  have hG:=ar.gr hg;have au:=au.grown hg (by simpa using xL);have aI:=aI.grown hg (by simpa using xM);have hw:=hw.own cS hg;(obtain ⟨aq,aM,bf,bj,hH⟩:=fD hG aq aM bf bj hH);have ar:=bQ;clear bQ hG hg;repeat' (first|refine Wy ?_|fail);refine Wb (i:=0) bf fun ji bq hg => ?_
  have hG:=bf.gr hg;have aM:=aM.grown hg (by simpa using ry);have hw:=hw.own gf hg;(obtain ⟨au,aq,aI,ar,bj,hH⟩:=gw hG au aq aI ar bj hH);have bf:aS _ b7 55 (cb ⟨0,0,.nil⟩):=bq;clear bq hG hg;repeat' (first|refine Wy ?_|refine Wl (bf.cell (i:=0) (v := .int .i64 0) rfl) ?_)
  refine CW.gn 2 3 (fun w2=>aS w2 b7 55 (cb ⟨0,0,.nil⟩)) mixed (by kernel_rfl) fun w1 ai aG => ?_
  obtain ⟨hw,au,aI,aM,ar,bf,bj,hH⟩:=xQ ai hw au aI aM ar bf bj hH;clear ai;refine Wt 0 [] [] aG rfl (aX rfl rfl ((fun _ _=>ar.cell))) ?_;refine SF.cr 1 [] aG rfl (by kernel_rfl) (by kernel_rfl) (by kernel_rfl) (aX rfl rfl ((fun _ _=>bf.cell))) (fun w2 hS=>aX rfl rfl ((fun _ _=>hS.cell))) rfl ?_;refine SF.turn rfl (by kernel_rfl) rfl ?_;refine SW.ag aI rfl rfl rfl rfl (aY q) fun w8 de hg => ?_
  have hG:=aI.gr hg;have hw:=hw.own eH hg;(obtain ⟨aM,bf,bj,hH⟩:=dv hG aM bf bj hH);have hS:=bf;refine SW.nil (ae.sg hS ?_);refine SG.last rfl (by kernel_rfl) (by kernel_rfl) ?_;refine SW.ag aM rfl rfl rfl rfl (fr ⟨0,0,.nil⟩) fun w9 eV hg => ?_
  have hG:=aM.gr hg;have hw:=hw.own jI hg;(obtain ⟨de,bj,hH⟩:=cn hG de bj hH);repeat' (first|refine Wy ?_|fail);exact ae.nr rfl rfl rfl de eV rfl rfl ⟨_,rfl,hw,_,hA,q,⟨0,0,.nil⟩,rfl,hH,kv.plain _ _ _ _⟩
 ·rw [mZ,if_neg he] at hA;repeat' (first|refine Wy ?_|fail);refine SW.ag ar rfl rfl rfl rfl (aY q) fun rI bQ hg => ?_
  have hG:=ar.gr hg;have au:=au.grown hg (by simpa using xL);have aI:=aI.grown hg (by simpa using xM);have hw:=hw.own cS hg;(obtain ⟨aq,aM,bf,bj,hH⟩:=fD hG aq aM bf bj hH);have ar:=bQ;clear bQ hG hg;repeat' (first|refine Wy ?_|fail);refine Wb (i:=0) bf fun ji bq hg => ?_
  have hG:=bf.gr hg;have aM:=aM.grown hg (by simpa using ry);have hw:=hw.own gf hg;(obtain ⟨au,aq,aI,ar,bj,hH⟩:=gw hG au aq aI ar bj hH);have bf:aS _ b7 55 (cb ⟨e,0,.nil⟩):=bq;clear bq hG hg;repeat' (first|refine Wy ?_|refine Wl (bf.cell (i:=0) (v := .int .i64 e) rfl) ?_)
  refine CW.gn 2 3 (fun w2=>aS w2 b7 55 (cb ⟨e,0,.nil⟩)) mixed (by kernel_rfl) fun w1 ai aG => ?_
  obtain ⟨hw,au,aI,aM,ar,bf,bj,hH⟩:=xQ ai hw au aI aM ar bf bj hH;clear ai;refine Wt 0 [] [] aG rfl (aX rfl rfl ((fun _ _=>au.cell))) ?_;refine SF.cr 1 [] aG rfl (by kernel_rfl) (by kernel_rfl) (by kernel_rfl) (aX rfl rfl ((fun _ _=>bf.cell))) (fun w2 hS=>aX rfl rfl ((fun _ _=>hS.cell))) rfl ?_;refine SF.turn rfl (by kernel_rfl) rfl ?_;refine SW.ag aI rfl rfl rfl rfl (aY r) fun w8 de hg => ?_
  have hG:=aI.gr hg;have hw:=hw.own eH hg;(obtain ⟨aM,bf,bj,hH⟩:=dv hG aM bf bj hH);have hS:=bf;refine SW.nil (ae.sg hS ?_);refine SG.last rfl (by kernel_rfl) (by kernel_rfl) ?_;refine SW.ag aM rfl rfl rfl rfl (fr ⟨e,0,.nil⟩) fun w9 eV hg => ?_
  have hG:=aM.gr hg;have hw:=hw.own jI hg;(obtain ⟨de,bj,hH⟩:=cn hG de bj hH);repeat' (first|refine Wy ?_|fail);exact ae.nr rfl rfl rfl de eV rfl rfl ⟨_,rfl,hw,_,hA,r,⟨e,0,.nil⟩,rfl,bj,kv.plain _ _ _ _⟩
set_option maxHeartbeats 16000000 in
theorem sV (a:cJ) (hk:a.Kind=8∨a.Kind=11∨a.Kind=13∨a.Kind=14) (BG : -9223372036854775808<=a.At∧a.At<=9223372036854775807) : jQ dM a:=by
 intro r s lo w hO dD hI hS eG;have hf:=hI.cK;obtain ⟨k,cpu,n,m,At,fl,nm⟩:=a;simp only at hk BG ⊢;refine aC func16 rfl ntmps16 rfl ?_;refine CW.seq (CW.region (SW.box rfl rfl fun b2 w1 hw fA au => ?_));have l2:=au.lt;refine SW.box rfl rfl fun b3 w2 bt cg aq => ?_
 have gd:=hw.up cg
 (obtain ⟨hw,au⟩:=df bt hw au);clear bt;have l3:=aq.lt;refine SW.alloc rfl fun b4 w2 bt fP aI => ?_
 have eH:=hw.up fP
 (obtain ⟨hw,au,aq⟩:=cn bt hw au aq);clear bt;have l4:=aI.lt;refine SW.alloc rfl fun b5 w2 bt gx aM => ?_
 have jI:=hw.up gx
 (obtain ⟨hw,au,aq,aI⟩:=dv bt hw au aq aI);clear bt;have l5:=aM.lt;repeat' (first|refine Wy ?_|refine Wm ((fun _ _=>au.cell)) ?_)
 refine SW.alloc rfl fun b6 w1 ai dw ar => ?_
 skip;refine SW.ag ar rfl rfl rfl rfl (aY r) fun w2 bQ hg => ?_
 have ak:=ai.own dw hg;have cS:=hw.up dw
 obtain ⟨hw,au,aq,aI,aM⟩:=fD ak hw au aq aI aM;have ar:=bQ;clear bQ ai hg ak;have l6:=ar.lt;repeat' (first|refine Wy ?_|fail);refine SW.alloc rfl fun b7 w1 ai iI bf => ?_
 skip;refine SW.ag bf rfl rfl rfl rfl (fr ⟨0,0,.nil⟩) fun w2 bq hg => ?_
 have ak:=ai.own iI hg;have gf:=hw.up iI
 obtain ⟨hw,au,aq,aI,aM,ar⟩:=gw ak hw au aq aI aM ar;have bf:=bq;clear bq ai hg ak;have xL:b2≠b6:=by omega
 have xM:b4≠b6:=by omega
 have NH:b2≠b4:=by omega
 have ry:b5≠b7:=by omega
 clear l2 l3 l4 l5 l6;rcases hk with rfl|rfl|rfl|rfl
 all_goals repeat' (first|refine Wy ?_|refine Wm ((fun _ _=>au.cell)) ?_|refine Wm ((fun _ _=>aq.cell)) ?_|refine Wl (aq.cell (i:=0) (v := .int .i64 8) rfl) ?_|refine Wl (aq.cell (i:=0) (v := .int .i64 11) rfl) ?_|refine Wl (aq.cell (i:=0) (v := .int .i64 13) rfl) ?_|refine Wl (aq.cell (i:=0) (v := .int .i64 14) rfl) ?_|refine Wl (aq.cell (i:=1) (v := .int .i64 cpu) rfl) ?_|refine Wl (aq.cell (i:=2) (v := .int .i64 n) rfl) ?_|refine Wl (aq.cell (i:=4) (v := .int .i64 At) rfl) ?_)
 focus
  refine Wk (uI r s cpu n _ (hO.rd.ext hw) hf (hS.ext hw) (eG.ext hw)) fun v w7 jF hv => ?_
  obtain ⟨u,hu,q,rfl,hH⟩:=hv;have hH:=hH.low (adf dD hw.size);have hA:=cx.fj (s:=s) (a:=⟨8,cpu,n,m,At,fl,nm⟩) rfl hu;clear hu
 rotate_left
 focus
  refine Wk (AZ r s cpu At n _ (hO.rd.ext hw) hI BG (hS.ext hw) (eG.ext hw)) fun v w7 jF hv => ?_
  obtain ⟨u,hu,q,rfl,hH⟩:=hv;have hH:=hH.low (adf dD hw.size);have hA:=cx.dV (s:=s) (a:=⟨11,cpu,n,m,At,fl,nm⟩) rfl hu;clear hu
 rotate_left
 focus
  refine Wk (F3 r s ⟨13,cpu,n,m,At,fl,nm⟩ lo _ (hO.ext hw) (adf dD hw.size) hI BG) fun v w7 jF hv => ?_
  obtain ⟨u,hu,q,rfl,hH⟩:=hv;have hA:=cx.word (s:=s) (a:=⟨13,cpu,n,m,At,fl,nm⟩) (by simp) hu;clear hu
 rotate_left
 focus
  refine Wk (F3 r s ⟨14,cpu,n,m,At,fl,nm⟩ lo _ (hO.ext hw) (adf dD hw.size) hI BG) fun v w7 jF hv => ?_
  obtain ⟨u,hu,q,rfl,hH⟩:=hv;have hA:=cx.word (s:=s) (a:=⟨14,cpu,n,m,At,fl,nm⟩) (by simp) hu;clear hu
 rotate_left
 all_goals
  (obtain ⟨hw,au,aI,aM,ar,bf⟩:=gw jF hw au aI aM ar bf);clear jF aq;have bj:=hO.ext hw;obtain ⟨u1,N,e⟩:=u;simp only at hA hH ⊢;by_cases he:e=0
  ·rw [mZ,if_pos he,he] at hA;rw [he];repeat' (first|refine Wy ?_|fail);refine SW.ag ar rfl rfl rfl rfl (aY q) fun rI bQ hg => ?_
   have hG:=ar.gr hg;have au:=au.grown hg (by simpa using xL);have aI:=aI.grown hg (by simpa using xM);have hw:=hw.own cS hg;(obtain ⟨aM,bf,bj,hH⟩:=dv hG aM bf bj hH);have ar:=bQ;clear bQ hG hg;repeat' (first|refine Wy ?_|fail);refine Wb (i:=1) bf fun ji bq hg => ?_
   have hG:=bf.gr hg;have aM:=aM.grown hg (by simpa using ry);have hw:=hw.own gf hg;(obtain ⟨au,aI,ar,bj,hH⟩:=fD hG au aI ar bj hH);have bf:aS _ b7 55 (cb ⟨0,N,.nil⟩):=bq;clear bq hG hg;repeat' (first|refine Wy ?_|fail);refine Wb (i:=0) bf fun ji bq hg => ?_
   have hG:=bf.gr hg;have aM:=aM.grown hg (by simpa using ry);have hw:=hw.own gf hg;(obtain ⟨au,aI,ar,bj,hH⟩:=fD hG au aI ar bj hH);have bf:aS _ b7 55 (cb ⟨0,N,.nil⟩):=bq;clear bq hG hg;repeat' (first|refine Wy ?_|refine Wl (bf.cell (i:=0) (v := .int .i64 0) rfl) ?_)
   refine CW.gn 2 3 (fun w2=>aS w2 b7 55 (cb ⟨0,N,.nil⟩)) mixed (by kernel_rfl) fun w1 ai aG => ?_
   obtain ⟨hw,au,aI,aM,ar,bf,bj,hH⟩:=xQ ai hw au aI aM ar bf bj hH;clear ai;refine Wt 0 [] [] aG rfl (aX rfl rfl ((fun _ _=>ar.cell))) ?_;refine SF.cr 1 [] aG rfl (by kernel_rfl) (by kernel_rfl) (by kernel_rfl) (aX rfl rfl ((fun _ _=>bf.cell))) (fun w2 hS=>aX rfl rfl ((fun _ _=>hS.cell))) rfl ?_;refine SF.turn rfl (by kernel_rfl) rfl ?_;refine SW.ag aI rfl rfl rfl rfl (aY q) fun w8 de hg => ?_
   have hG:=aI.gr hg;have hw:=hw.own eH hg;(obtain ⟨aM,bf,bj,hH⟩:=dv hG aM bf bj hH);have hS:=bf;refine SW.nil (ae.sg hS ?_);refine SG.last rfl (by kernel_rfl) (by kernel_rfl) ?_;refine SW.ag aM rfl rfl rfl rfl (fr ⟨0,N,.nil⟩) fun w9 eV hg => ?_
   have hG:=aM.gr hg;have hw:=hw.own jI hg;(obtain ⟨de,bj,hH⟩:=cn hG de bj hH);repeat' (first|refine Wy ?_|fail);exact ae.nr rfl rfl rfl de eV rfl rfl ⟨_,rfl,hw,_,hA,q,⟨0,N,.nil⟩,rfl,hH,kv.plain _ _ _ _⟩
  ·rw [mZ,if_neg he] at hA;repeat' (first|refine Wy ?_|fail);refine SW.ag ar rfl rfl rfl rfl (aY q) fun rI bQ hg => ?_
   have hG:=ar.gr hg;have au:=au.grown hg (by simpa using xL);have aI:=aI.grown hg (by simpa using xM);have hw:=hw.own cS hg;(obtain ⟨aM,bf,bj,hH⟩:=dv hG aM bf bj hH);have ar:=bQ;clear bQ hG hg;repeat' (first|refine Wy ?_|fail);refine Wb (i:=1) bf fun ji bq hg => ?_
   have hG:=bf.gr hg;have aM:=aM.grown hg (by simpa using ry);have hw:=hw.own gf hg;(obtain ⟨au,aI,ar,bj,hH⟩:=fD hG au aI ar bj hH);have bf:aS _ b7 55 (cb ⟨0,N,.nil⟩):=bq;clear bq hG hg;repeat' (first|refine Wy ?_|fail);refine Wb (i:=0) bf fun ji bq hg => ?_
   have hG:=bf.gr hg;have aM:=aM.grown hg (by simpa using ry);have hw:=hw.own gf hg;(obtain ⟨au,aI,ar,bj,hH⟩:=fD hG au aI ar bj hH);have bf:aS _ b7 55 (cb ⟨e,N,.nil⟩):=bq;clear bq hG hg;repeat' (first|refine Wy ?_|refine Wl (bf.cell (i:=0) (v := .int .i64 e) rfl) ?_)
   refine CW.gn 2 3 (fun w2=>aS w2 b7 55 (cb ⟨e,N,.nil⟩)) mixed (by kernel_rfl) fun w1 ai aG => ?_
   obtain ⟨hw,au,aI,aM,ar,bf,bj,hH⟩:=xQ ai hw au aI aM ar bf bj hH;clear ai;refine Wt 0 [] [] aG rfl (aX rfl rfl ((fun _ _=>au.cell))) ?_;refine SF.cr 1 [] aG rfl (by kernel_rfl) (by kernel_rfl) (by kernel_rfl) (aX rfl rfl ((fun _ _=>bf.cell))) (fun w2 hS=>aX rfl rfl ((fun _ _=>hS.cell))) rfl ?_;refine SF.turn rfl (by kernel_rfl) rfl ?_;refine SW.ag aI rfl rfl rfl rfl (aY r) fun w8 de hg => ?_
   have hG:=aI.gr hg;have hw:=hw.own eH hg;(obtain ⟨aM,bf,bj,hH⟩:=dv hG aM bf bj hH);have hS:=bf;refine SW.nil (ae.sg hS ?_);refine SG.last rfl (by kernel_rfl) (by kernel_rfl) ?_;refine SW.ag aM rfl rfl rfl rfl (fr ⟨e,N,.nil⟩) fun w9 eV hg => ?_
   have hG:=aM.gr hg;have hw:=hw.own jI hg;(obtain ⟨de,bj,hH⟩:=cn hG de bj hH);repeat' (first|refine Wy ?_|fail);exact ae.nr rfl rfl rfl de eV rfl rfl ⟨_,rfl,hw,_,hA,r,⟨e,N,.nil⟩,rfl,bj,kv.plain _ _ _ _⟩
variable {dz:List cJ} {xs:List kI}
theorem Start.named (h:Start s) : nJ s:=⟨h.sys,by
 have h6:∀ j,j<6 -> ∃ p∈lP,tH p.1 (fB (kP j))=true∧p.2=kP j:=by decide +kernel
 unfold mx;rw [h.shape];exact h6⟩
theorem Ph.out {l:List bT} (h:Ph s0 j s l) (hj : 2<=j) : Out s0.Heap.bG s l:=by
 cases h with
 | p0=>omega
 | p1 _=>omega
 | go _ h=>exact h
theorem Lc {t:ah} {more:List cJ} {ys:List kI} (h0:Start s0) (hr:kJ s0 dz xs s) (h4:∀ a∈dz,a.Kind≠4) (h2:kJ s0 (dz++more) ys t) : ∃ zs,ys=xs++zs∧kJ s more zs t:=by
 obtain ⟨y1,zs,u,r1,r2,rfl⟩:=h2.split;obtain ⟨rfl,rfl⟩:=r1.dq h0.named h4 hr;exact ⟨zs,rfl,r2⟩
theorem NW {n:Int} (h:n<=32) : ∃ j,j<6∧hU n=fB (kP j):=by
 unfold hU;split
 ·exact ⟨0,by omega,rfl⟩
 split
 ·exact ⟨1,by omega,rfl⟩
 split
 ·exact ⟨2,by omega,rfl⟩
 split
 ·exact ⟨3,by omega,rfl⟩
 split
 ·exact ⟨4,by omega,rfl⟩
 exact ⟨5,by omega,rfl⟩
theorem PE (n:Int) : 0<=wT n∧wT n<=4:=by
 unfold wT;repeat' split
 all_goals omega
end Go.Proofs.YtohigmjjbgpfmaaGreatDoor
