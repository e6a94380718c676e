/- Part 10 of what topApart_holds leans on. -/
import Derived.Test.YtohigmjjbgpfmaaGreatDoorPackTopApart9
set_option linter.unusedVariables false
set_option linter.unusedSimpArgs false
set_option linter.defProp false
open Go.Proofs.Tryz
namespace Go.Proofs.YtohigmjjbgpfmaaGreatDoor
open Go.RowKit
variable {s:ah} {xs:List kI}
def rC (p n:Int) : cJ:=⟨8,p,n,0,0,0,⟨#[]⟩⟩
theorem Ld {p n:Int} {w:ah×kI} (h:cx s (rC p n) w) : ∃ u,eR s p n u∧w=(mZ u.2.2 s u.1,⟨u.2.2,u.2.1,[]⟩):=by
 cases h with
 | fj hk h=>exact ⟨_,h,rfl⟩
 | bC hk|nc hk|drain hk|ko hk|nq hk|br hk|dV hk|word hk|Gn hk=>exact absurd hk (by simp [rC])
theorem kJ.one {t:ah} {a:cJ} (h:kJ s [a] xs t) : ∃ u,cx s a u∧xs=[u.2]∧t=u.1:=by
 obtain ⟨ys,m,u,h1,h2,rfl,rfl⟩:=kJ.Qm (l:=[]) h;generalize e:([] : List cJ)=l at h1
 cases h1 with
 | nil=>exact ⟨u,h2,rfl,rfl⟩
 | snoc=>simp at e
theorem Zq (s t:ah) : mZ 0 s t=t:=rfl
variable {s0:ah} {dz:List cJ} {j:Nat}
theorem Ge (hN:nJ s) {n p:Int} (hn : 1<=n∧n<=100) (hp:me s p) {u:ah×Int×Int} (hu:eR s p n u) : u.2.2=0∨u.2.2=6:=by
 have hI:=hN.sys;cases hu with
 | bad h=>rw [mq hI.may] at h;cases h
 | range _ h=>omega
 | size _ h=>omega
 | fault _ h ha he=>exact Aw hI.may.heap hp (PE n) ha
 | bC _ h ha he=>exact .inl rfl
 | obj _ h ho =>
   obtain ⟨j,hj,ej⟩:=NW h.2
   have gQ:s.aa.any (dQ (hU n))=true:=by
    rw [DT,adq];obtain ⟨q,hq,h1,_⟩:=hN.named j hj;exact ⟨q,hq,by rw [ej];exact h1⟩
   rcases ho.jT hI (Hq (mq hI.may) gQ hp) with ⟨h0,_⟩|h6
   ·exact .inl h0
   ·exact .inr h6
theorem Le {t:ah} {l:List bT} {ys:List kI} {n p:Int} (h0:Start s0) (hr:kJ s0 dz xs s) (SN:Ph s0 j s l) (hj : 2<=j) (h4:∀ a∈dz,a.Kind≠4) (hn : 1<=n∧n<=100) (hp : 0<=p∧p<s0.Heap.bG) (h2:kJ s0 (dz++[rC p n]) ys t) :
 ∃ x,ys=xs++[x]∧(x.Code=0∨x.Code=6)∧(x.Code=0->(0<=x.N∧x.N<=100000) ∧ ∀ z∈l,(0<=z.At∧z.At<=100000∧0<=z.az∧z.az<=100000) ∧ ¬ (z.At<x.N+n∧x.N<z.At+z.az)):=by
 obtain ⟨zs,rfl,hz⟩:=Lc h0 hr h4 h2;obtain ⟨u,hu,rfl,rfl⟩:=hz.one;have hO:=SN.out hj;obtain ⟨v,hv,e⟩:=Ld hu;have hc:=Ge hO.named hn (by unfold me;rw [hO.cpus];exact hp) hv;have ec:u.2.Code=v.2.2:=by rw [e]
 refine ⟨u.2,rfl,by rw [ec];exact hc,fun hx => ?_⟩;have hM:=vM hO rfl hu hx;obtain ⟨q,hq⟩:=hM.fits ⟨u.2.N,n,8,⟨#[]⟩,0,false⟩ (by simp [rC]);have r1:=fu hM.sys.may hq.qs;have r2:=hq.size;simp only at r1 r2;refine ⟨by omega,fun z hz => ?_⟩;obtain ⟨r,hr⟩:=hM.fits z (adN _ hz);have r3:=fu hM.sys.may hr.qs;have r4:=hr.size
 have bJ:z.At≠u.2.N:=fun e=>by
  have:=adT.1 (by simpa using hM.apart:(l.map (fun t=>t.At)++[u.2.N]).Nodup)
  exact this.2.2 z.At (adv.2 ⟨z,hz,rfl⟩) u.2.N (by simp) e
 have:=uA hM.sys.may hr.qs hq.qs bJ
 simp only at this;omega
variable {a:Int} {u:ah×Int} {rs:List pH} {b bb lo oA:Nat} {w w':World}
theorem vT (A:Option Addr) (n c:Nat) (l:List cJ) (w:World) (hl:Sl w 7 ew A n l) (hn:n*64<=140737488355328) : bF prog 7 [.slice A n c] w (zj w 35 7 ew n l):=by
 refine aC func7 rfl ntmps7 rfl ?_;have hw:=Ext.refl w;refine Wz ?_;refine SW.st (r7 rfl rfl) rfl ?_;repeat' (first|refine Wz ?_|(refine CW.cond rfl (fun h => ?_) (fun h => ?_)))
 ·have Gv:n=0:=by
   rcases adu n with h0|h0
   ·exact h0
   ·have:=hl.base h0;simp_all
  subst Gv;have:l=[]:=adw hl.len
  subst this;exact ae.bg rfl rfl ⟨_,rfl,hw,none,0,rfl,Own.fF _ _ _ _ _ _⟩
 ·refine SW.za rfl fun b w1 ai hb => ?_
  have hw:=hw.trans ai;refine Wz ?_;refine SW.uW (aeD n) (ad5 l) (Own.fF w1 w.heap.size _ _ ew (some ⟨b,0,none⟩)) (hl.ext hw) hw.size rfl rfl rfl (by omega) (by omega) fun A2 c2 w2 hO hg => ?_
  have hw:=aD hw hg (adg _) (by simp [aJ]);refine Wz ?_;exact ae.bg rfl rfl ⟨_,rfl,hw,A2,c2,rfl,hO⟩
theorem PC.ok {a:cJ} (h:PC a) : a.Kind≠4∧jQ nJ a:=by
 have h1:=h.at_;have h2:=h.name;have hk:=h.kinds;simp only [kx,List.mem_cons,List.not_mem_nil,or_false] at hk;refine ⟨by omega,jQ.named ?_⟩;rcases hk with (hk|hk|hk|hk|hk|hk|hk|hk|hk|hk|hk)|hk|hk
 ·exact sV a (.inl hk) (by omega)
 ·exact sV a (by omega) (by omega)
 ·exact sS a (by omega) (F8 a hk (by omega))
 ·exact sS a (by omega) (F7 a hk (by omega))
 ·exact sS a (by omega) (F9 a hk (by omega) (by omega))
 ·exact NV a hk (by omega)
 ·exact sS a (by omega) (Ga a hk (by omega))
 ·exact NI a hk
 ·exact NJ a hk
 ·exact CT a hk
 ·exact sS a (by omega) (DX a hk (by omega))
 ·exact sV a (by omega) (by omega)
 ·exact sV a (by omega) (by omega)
theorem ng.ext {r:da} {p q z:gb} {l:List bT} (h:ng w lo b r p q z rs s0 dz xs l s j) (hx:Ext w w') : ng w' lo b r p q z rs s0 dz xs l s j :=
 ⟨h.low,h.qw.ext hx,h.qy.ext hx,h.DZ.ext hx,h.px.ext hx,h.run,h.phase,h.Ds,h.len,h.many⟩
theorem ng.down {r:da} {p q z:gb} {l:List bT} (h:ng w lo b r p q z rs s0 dz xs l s j) (hl:oA<=lo) : ng w oA b r p q z rs s0 dz xs l s j :=
 ⟨adf hl h.low,h.qw,h.qy.low hl,h.DZ.low hl,h.px.low hl,h.run,h.phase,h.Ds,h.len,h.many⟩
theorem ng.aK {t:Nat} {r:da} {p q z:gb} {l:List bT} (h:ng w lo b r p q z rs s0 dz xs l s j) (hG:rL w w' t) (bJ:(Nat.beq t 48 || (Nat.beq t 35 || (Nat.beq t 50 || (Nat.beq t 55 || Nat.beq t 3))))=false) : ng w' lo b r p q z rs s0 dz xs l s j:=by
 simp only [Bool.or_eq_false_iff] at bJ;exact ⟨h.low,h.qw.aK hG bJ.1,h.qy.aK hG bJ.2.1,h.DZ.aK hG (by simp only [bJ.2.2.2.1,bJ.2.2.2.2,Bool.or_self]),h.px.aK hG bJ.2.2.1,h.run,h.phase,h.Ds,h.len,h.many⟩
theorem mX {b c:Int} (h:iN (jt 256 (vO a b c) (vP a b c)) (16*bM a 9) (bM b 12) (1+bM c 4) u) : Start u.1 :=
 ⟨(jG h).2.2,Ia (jG h).2.1,KM (jG h).2.1⟩
structure jv (a b c:Int) (w:World) (lo bb:Nat) (r:da) (p q z:gb) (rs:List pH) (s0:ah) (dz:List cJ) (xs:List kI) (l:List bT) (s:ah) (j:Nat) : Prop where
 pl:ng w lo bb r p q z rs s0 dz xs l s j
 fresh:nf (H9 a b c) 6 s0
 start:Start s0
 two : 2<=j∧j<=42
theorem jv.ext {b c:Int} {r:da} {p q z:gb} {l:List bT} (h:jv a b c w lo bb r p q z rs s0 dz xs l s j) (hx:Ext w w') : jv a b c w' lo bb r p q z rs s0 dz xs l s j :=
 ⟨h.pl.ext hx,h.fresh,h.start,h.two⟩
def Lg (a b c:Int) (lo:Nat) (v:Value) (w:World) : Prop := ∃ A B bb r p q z rs s0 dz xs l s j,v = .tuple #[.pointer (some ⟨bb,0,none⟩),.agg (fX A 2 2 B 2 2 (16*bM a 9) (bM b 12) (1+bM c 4)).toArray,.bool true]∧Own w lo 82 2 jw A 2 2 (vO a b c)∧Own w lo 82 2 jw B 2 2 (vP a b c)∧jv a b c w lo bb r p q z rs s0 dz xs l s j
set_option maxHeartbeats 4000000 in
theorem Io (X:Option Addr) (n e:Nat) (l:List Ie) (a b c:Int) (w:World) (hl:Sl w 4 F2 X n l) (hn:n<=9000000000000000000) (hr:∀ x∈l,Jm x) (ha : -9223372036854775808<=a∧a<=9223372036854775807) (hb : -9223372036854775808<=b∧b<=9223372036854775807) (hc : -9223372036854775808<=c∧c<=9223372036854775807) (hS:iC w) (eG:mN w) :
 bF prog 6 [.slice X n e,.int .i64 a,.int .i64 b,.int .i64 c] w fun v w'=>Lg a b c w.heap.size v w':=by
 refine aC func6 rfl ntmps6 rfl ?_;have hw:=Ext.refl w;have hp9:=cV (n:=a) (m:=9) (by omega);have hp4:=cV (n:=c) (m:=4) (by omega);refine Wz ?_;refine SW.alloc rfl fun b9 w2 bt nY bD => ?_
 have se:=hw.up nY
 have hw:=hw.trans bt;clear bt;refine Wz ?_;refine Wk (AY a b c _ ha hb hc) fun v w2 bt hv => ?_
 obtain ⟨A,B,rfl,hA,hB⟩:=hv;have hA:=hA.low hw.size;have hB:=hB.low hw.size;(obtain ⟨hw,bD⟩:=df bt hw bD);clear bt;have l9:=bD.lt;skip;refine SW.alloc rfl fun OB w1 ai sG g9 => ?_
 skip;refine SW.ag g9 rfl rfl rfl rfl (vR A 2 2 B 2 2 (16*bM a 9) (bM b 12) (1+bM c 4)) fun w2 oN hg => ?_
 have ak:=ai.own sG hg;have Mv:=hw.up sG
 obtain ⟨hw,bD,hA,hB⟩:=dv ak hw bD hA hB;have g9:=oN;clear oN ai hg ak;have abM:b9≠OB:=by omega
 clear l9;refine Wz ?_;refine CW.any 10 mixed (dk (by kernel_rfl)) rfl fun w1 ai aG => ?_
 obtain ⟨hw,bD,g9,hA,hB⟩:=fD ai hw bD g9 hA hB;clear ai;refine Wa ?_;refine SA.one 4 rfl (by kernel_rfl) rfl ?_;refine Wk (NM (1+bM c 4) X n e l _ (hl.ext hw) hn hr (by omega)) fun v w5 ak hv => ?_
 obtain ⟨z0,l',rfl,hK,hKR,hKl⟩:=hv;(obtain ⟨hw,bD,g9,hA,hB⟩:=fD ak hw bD g9 hA hB);refine SW.nil (ae.sa ak ?_);refine SA.one 5 rfl (by kernel_rfl) rfl ?_;refine Wk (NU (1+bM c 4) A 2 2 B 2 2 _ _ _ _ _ z0.A z0.n z0.c l' _ hA.sl hB.sl (by decide) (by decide) (by omega) (hS.ext hw) (eG.ext hw) hK.sl (by have:=hK.len;simp at this;omega) hKR (fun u h=>⟨(jG h).1,mX h⟩)) fun v w5 ak hv => ?_
 obtain ⟨bb,r,p,q,z,rs,s0,dz,xs,lt,s,Ui,rfl,hP⟩:=hv;have hP:=hP.down hw.size;(obtain ⟨hw,bD,g9,hA,hB⟩:=fD ak hw bD g9 hA hB);refine SW.nil (ae.sa ak ?_);refine Wa ?_;refine SA.done (by kernel_rfl) ?_;refine Wz ?_;refine CW.gn 4 5 (fun _=>True) mixed (by kernel_rfl) fun w1 ai aG => ?_
 obtain ⟨hw,bD,g9,hA,hB,hP⟩:=gw ai hw bD g9 hA hB hP;clear ai;refine Wf ?_;refine SF.cr 2 [] aG rfl (by kernel_rfl) (by kernel_rfl) (by kernel_rfl) (aR rfl) (fun w2 hS=>aR rfl) rfl ?_;refine Wf ?_;refine SF.turn rfl (by kernel_rfl) rfl ?_;refine SW.ag bD rfl rfl rfl rfl (vR A 2 2 B 2 2 (16*bM a 9) (bM b 12) (1+bM c 4)) fun w3 jS hg => ?_
 have hG:=bD.gr hg;have hw:=hw.own se hg;(obtain ⟨hA,hB,hP⟩:=cn hG hA hB hP);have hS:=True.intro;refine SW.nil (ae.sg hS ?_);refine SG.last rfl (by kernel_rfl) (by kernel_rfl) ?_;refine Wz ?_;have iE:=hK.len;simp only [List.length_append,List.length_cons,List.length_nil] at iE;exact ae.Ic rfl rfl rfl rfl jS rfl ⟨_,rfl,hw,A,B,bb,r,p,q,z,rs,s0,dz,xs,lt,s,z0.n,rfl,hA,hB,hP,(jG Ui).2.1,mX Ui,by omega⟩
variable {α:Type} {m sz:Nat} {A:Option Addr} {e:TypeId} {enc:α -> List Value}
theorem vU {n c:Nat} {l:List α} {o:Option Nat} (h:Own w lo e sz enc A n c l) (hk:∀ k,aJ A c=some k->k<m) (hg:w.grownBy w' o) (hr:∀ k,o=some k->m<=k) : Own w' lo e sz enc A n c l:=by
 cases hc:aJ A c with
 | none=>exact h.grown hg (.inl hc)
 | some k=>exact h.grown hg (.inr fun e=>by have:=hk k hc;have:=hr k (by rw [<- hc];exact e.symm);omega)
theorem jv.down {b c:Int} {r:da} {p q z:gb} {l:List bT} (h:jv a b c w lo bb r p q z rs s0 dz xs l s j) (hl:oA<=lo) : jv a b c w oA bb r p q z rs s0 dz xs l s j:=⟨h.pl.down hl,h.fresh,h.start,h.two⟩
theorem jv.act {b c:Int} {r:da} {p q z:gb} {l:List bT} (h:jv a b c w lo bb r p q z rs s0 dz xs l s j) (hG:rL w w' 35) (hA:Own w' lo 35 7 ew p.A p.n p.c dz) : jv a b c w' lo bb r p q z rs s0 dz xs l s j :=
 ⟨⟨h.pl.low,h.pl.qw.aK hG rfl,hA,h.pl.DZ.aK hG rfl,h.pl.px.aK hG rfl,h.pl.run,h.pl.phase,h.pl.Ds,h.pl.len,h.pl.many⟩,h.fresh,h.start,h.two⟩
theorem uJ (A:Option Addr) (n c:Nat) (l:List bT) (w:World) (hl:Sl w 6 kg A n l) (f:FuncId) (cap:List Value) [Body prog f] (p:bT->Bool)
 (hf:∀ x∈l,∀ w',Ext w w'->bF prog f ([.agg (kg x).toArray]++cap) w' fun v _=>v = .bool (p x)) (hn:n<=9223372036854775807) :
 bF prog 19 [.slice A n c,.func (.func f) #[] cap.toArray] w fun v _=>v = .int .i64 (idxOf p l):=by
 refine aC func19 rfl ntmps19 rfl ?_;have hw:=Ext.refl w;have hA:=hl.base;refine Wz ?_;refine CW.loop (fun k:Nat=>[(0,.slice A n c),(1,.func (.func f) #[] cap.toArray),(7,.int .i64 (n:Int)),(8,.int .i64 (k:Int))]) (fun k w'=>k<=n∧Ext w w' ∧ ∀ j (hj:j<l.length),j<k->p l[j]=false) (fun k=>n-k) 0 ⟨rfl,rfl,rfl,rfl,trivial⟩ ⟨by omega,hw,fun j _ h=>by omega⟩ ?_;clear hw;rintro k w' ⟨bW,hw,hI⟩
 by_cases hk:k<n
 ·have vV:=hf (l[k]'(hl.lt hk)) (adb _);repeat' (first|refine Wz ?_|refine Wo hw ((hl.all hk)) ?_)
  refine SW.tP rfl rfl rfl (vV _ hw) fun v w1 ai hv => ?_
  subst hv;have hw:=hw.trans ai;cases hp:p (l[k]'(hl.lt hk))
  ·refine Wz ?_;refine ae.again (k+1) ⟨rfl,rfl,rfl,rfl,trivial⟩ (by omega) ⟨by omega,hw,fun j hj h => ?_⟩;by_cases nk:j=k
   ·subst nk;exact hp
   ·exact hI j hj (by omega)
  ·refine Wz ?_;exact ae.bg rfl rfl ⟨_,rfl,hw,by rw [mi (hl.lt hk) hp hI]⟩
 ·refine Wz ?_;exact ae.bg rfl rfl ⟨_,rfl,hw,by rw [(jW (fun j hj=>hI j hj (by have:=hl.len;omega))).1]⟩
theorem rT (A:Option Addr) (n c:Nat) (l:List bT) (w:World) (hl:Sl w 6 kg A n l) (f:FuncId) (cap:List Value) [Body prog f] (p:bT->Bool)
 (hf:∀ x∈l,∀ w',Ext w w'->bF prog f ([.agg (kg x).toArray]++cap) w' fun v _=>v = .bool (p x)) (hn:n<=9223372036854775807) :
 bF prog 10 [.slice A n c,.func (.func f) #[] cap.toArray] w fun v _=>v = .bool (l.any p):=by
 refine aC func10 rfl ntmps10 rfl ?_;have hw:=Ext.refl w;repeat' (first|refine Wz ?_|(refine Wk (uJ _ _ _ _ _ (hl.ext hw) f cap p (fun x hx w1 h1=>hf x hx w1 (hw.trans h1)) hn) ?_;intro v w1 ai hv;subst hv;have hw:=hw.trans ai;clear ai))
 exact ae.bg rfl rfl ⟨_,rfl,hw,by rw [ly]⟩
def Gf (N n:Int) (z:bT) : Bool:=decide (z.At<N+n) && decide (N<z.At+z.az)
theorem Lh (y:pH) (n:Int) (Ib GW:Nat) (z:bT) (w:World) (h1:aS w Ib 55 (cb y)) (h2:aS w GW 3 [.int .i64 n]) (hn : 1<=n∧n<=100) (hN : 0<=y.N∧y.N<=100000) (hz : 0<=z.At∧z.At<=100000∧0<=z.az∧z.az<=100000) :
 bF prog 11 ([.agg (kg z).toArray]++[.pointer (some ⟨Ib,0,none⟩),.pointer (some ⟨GW,0,none⟩)]) w fun v _=>v = .bool (Gf y.N n z):=by
 refine aC func11 rfl ntmps11 rfl ?_;refine CW.seq (CW.region (SW.box rfl rfl fun b3 w1 hw cg aq => ?_));obtain ⟨h1,h2⟩:=df hw h1 h2;unfold Gf;by_cases c1:z.At<y.N+n
 ·by_cases c2:y.N<z.At+z.az
  ·rw [decide_eq_true c1,decide_eq_true c2];repeat' (first|refine Wz ?_|refine Wl (h2.cell0 (v := .int .i64 n) rfl) ?_)
   exact ae.bg rfl rfl ⟨_,rfl,hw,by first|rfl|simp [*]⟩
  ·rw [decide_eq_true c1,decide_eq_false c2];repeat' (first|refine Wz ?_|refine Wl (h2.cell0 (v := .int .i64 n) rfl) ?_)
   exact ae.bg rfl rfl ⟨_,rfl,hw,by first|rfl|simp [*]⟩
 ·rw [decide_eq_false c1,Bool.false_and];repeat' (first|refine Wz ?_|refine Wl (h2.cell0 (v := .int .i64 n) rfl) ?_)
  exact ae.bg rfl rfl ⟨_,rfl,hw,by first|rfl|simp [*]⟩
theorem Ba {b c:Int} {r:da} {p q z:gb} {l:List bT} (h:jv a b c w lo bb r p q z rs s0 dz xs l s j) : kK w w:=⟨Ext.refl _⟩
theorem jv.aK {b c:Int} {t:Nat} {r:da} {p q z:gb} {l:List bT} (h:jv a b c w lo bb r p q z rs s0 dz xs l s j) (hG:rL w w' t) (bJ:(Nat.beq t 48 || (Nat.beq t 35 || (Nat.beq t 50 || (Nat.beq t 55 || Nat.beq t 3))))=false) : jv a b c w' lo bb r p q z rs s0 dz xs l s j:=⟨h.pl.aK hG bJ,h.fresh,h.start,h.two⟩
set_option maxHeartbeats 8000000 in
theorem D0 (X:Option Addr) (n e:Nat) (l:List Ie) (a b c m cpu:Int) (w:World) (hl:Sl w 4 F2 X n l) (hn:n<=9000000000000000000) (hr:∀ x∈l,Jm x) (ha : -9223372036854775808<=a∧a<=9223372036854775807) (hb : -9223372036854775808<=b∧b<=9223372036854775807) (hc : -9223372036854775808<=c∧c<=9223372036854775807) (hm : -9223372036854775808<=m∧m<=9223372036854775807) (pL : -9223372036854775808<=cpu∧cpu<=9223372036854775807) (hS:iC w) (eG:mN w) :
 bF prog 4 [.slice X n e,.int .i64 a,.int .i64 b,.int .i64 c,.int .i64 m,.int .i64 cpu] w fun v _=>v = .bool true:=by
 refine aC func4 rfl ntmps4 rfl ?_;have hw:=Ext.refl w;have hp9:=cV (n:=a) (m:=9) (by omega);have hp4:=cV (n:=c) (m:=4) (by omega);have hk:=cV (n:=m) (m:=100) (by omega);have hp:=cV (n:=cpu) (m:=1+bM c 4) (by omega);have cM:∀ w',bF prog 9 [.int .i64 m,.int .i64 100] w' fun v _=>v = .int .i64 (bM m 100):=fun w'=>AX m 100 w' hm (by decide)
 have cP:∀ w',bF prog 9 [.int .i64 cpu,.int .i64 (1+bM c 4)] w' fun v _=>v = .int .i64 (bM cpu (1+bM c 4)):=fun w'=>AX cpu (1+bM c 4) w' pL (by omega)
 obtain ⟨k,ek⟩ : ∃ k,1+bM m 100=k:=⟨_,rfl⟩;obtain ⟨pp,ep⟩ : ∃ p,bM cpu (1+bM c 4)=p:=⟨_,rfl⟩;have xW : 1<=k∧k<=100:=by omega
 rw [ep] at cP hp;repeat' (first|refine Wy ?_|fail);refine Wk (KR _ (hS.ext hw) (eG.ext hw)) fun v w2 bt hv => ?_
 subst hv;have hw:=hw.trans bt;clear bt;repeat' (first|refine Wy ?_|(refine CW.fY rfl ?_))
 refine Wk (Io X n e l a b c _ (hl.ext hw) hn hr ha hb hc (hS.ext hw) (eG.ext hw)) fun v w2 bt hv => ?_
 obtain ⟨A,B,bb,r,p,q,z,rs,s0,dz,xs,lt,s,j0,rfl,hA,hB,hP⟩:=hv;have hP:=hP.down hw.size;have hA:=hA.low hw.size;have hB:=hB.low hw.size;have hw:=hw.trans bt;clear bt;have E6:=hP.pl.qy.len;have Kg:=hP.pl.len;have h42:=hP.two;have GV:=hP.pl.px.len;have hzb:=hP.pl.many;have yM:=hS
 have kF:∀ x∈dz++[rC pp k],x.Kind≠4∧jQ nJ x:=fun x hx=>by
  rcases adm.1 hx with hx|hx
  ·exact (hP.pl.Ds x hx).ok
  ·simp only [List.mem_singleton] at hx;subst hx;exact ⟨by simp [rC],jQ.named (sV _ (.inl rfl) (by simp only [rC];omega))⟩
 repeat' (first|refine Wy ?_|fail);refine SW.alloc rfl fun U6 w1 ai vE bR => ?_
 repeat' (first|refine Wy ?_|fail);refine SW.ag bR rfl rfl rfl rfl (vR A 2 2 B 2 2 (16*bM a 9) (bM b 12) (1+bM c 4)) fun w2 xC hg => ?_
 have ak:=ai.own vE hg;have Qf:=hw.up vE
 obtain ⟨hw,hA,hB,hP⟩:=dv ak hw hA hB hP;have bR:=xC;clear xC ai hg ak;repeat' (first|refine Wy ?_|(refine Wk (cM _) ?_;intro v w1 ai hv;subst hv;obtain ⟨hw,bR,hA,hB,hP⟩:=fD ai hw bR hA hB hP;clear ai))
 rw [ek];refine SW.alloc rfl fun GW w1 ai Qy cW => ?_
 skip;refine Wb (i:=0) cW fun w2 ED hg => ?_
 have ak:=ai.own Qy hg;obtain ⟨hw,bR,hA,hB,hP⟩:=fD ak hw bR hA hB hP;have cW:aS _ GW 3 [.int .i64 k]:=ED;clear ED ai hg ak Qy;repeat' (first|refine Wy ?_|fail);obtain ⟨KK,yy⟩ : ∃ KK:Env->World->Prop,KK=fun L' w2 => ∃ X2 nn cc NX ys t,iw L' [(13,.pointer (some ⟨bb,0,none⟩)),(15,.bool true),(16,.pointer (some ⟨GW,0,none⟩)),(17,.slice X2 nn cc),(19,.int .i64 0)]∧Ext w w2∧aS w2 GW 3 [.int .i64 k]∧jv a b c w2 w.heap.size bb r p q z rs s0 dz xs lt s j0∧iV w2 w.heap.size X2 nn cc NX ys∧kJ s0 (dz++[rC pp k]) ys t:=⟨_,rfl⟩
 refine CW.Oq KK ?_ ?_
 ·focus
   refine CW.gn 13 22 (fun w2=>aS w2 U6 29 (fX A 2 2 B 2 2 (16*bM a 9) (bM b 12) (1+bM c 4))) mixed (by kernel_rfl) fun w1 ai aG => ?_
   obtain ⟨hw,bR,cW,hA,hB,hP⟩:=gw ai hw bR cW hA hB hP;clear ai;refine SF.cr 0 [] aG rfl (by kernel_rfl) (by kernel_rfl) (by kernel_rfl) (aX rfl rfl ((fun _ _=>bR.cell))) (fun w2 hS=>aX rfl rfl ((fun _ _=>hS.cell))) rfl ?_;refine Wp 1 [5,4,3,2] [] aG rfl rfl ?_;refine Wt 2 [5,4,3] [] aG rfl (aF rfl) ?_;refine Wt 3 [5,4] [] aG rfl (aA rfl) ?_;refine Wt 4 [5] [] aG rfl (aU rfl (hP.pl.qw.cell (i:=7) (v := .slice p.A p.n p.c) rfl)) ?_;refine Wp 6 [9] [] aG rfl rfl ?_;refine Wt 7 [9,8] [] aG rfl (aA rfl) ?_;refine Wt 8 [9] [] aG rfl (aU rfl (bR.cell (i:=4) (v := .int .i64 (1+bM c 4)) rfl)) ?_;refine Wt 10 [12,11] [] aG rfl (aU rfl (cW.cell0 (v := .int .i64 k) rfl)) ?_;refine SF.two 5 19 rfl rfl (by kernel_rfl) rfl rfl ?_ ?_
   focus
    have Ll:=hP.pl.qy.lt_size;have Li:=hw.size;have iF:=Ba hP;refine Wk (vT p.A p.n p.c dz _ hP.pl.qy.sl (by omega)) fun v w5 ak hv => ?_
    obtain ⟨Y0,f0,rfl,hY⟩:=hv;(try have eA:=eA.ext ak);(obtain ⟨hw,bR,cW,hA,hB,hP,iF⟩:=uK ak hw bR cW hA hB hP iF);refine SW.nil (ae.sf ak ?_);refine SF.two 9 19 rfl rfl (by kernel_rfl) rfl rfl ?_ ?_
    focus
     refine Wk (cP _) fun v w5 ak hv => ?_
     subst hv;(try have eA:=eA.ext ak);(obtain ⟨hw,bR,cW,hA,hB,hP,iF,hY⟩:=xQ ak hw bR cW hA hB hP iF hY);refine SW.nil (ae.sf ak ?_);refine Wt 11 [12] [] aG rfl (fZ rfl rfl) ?_;refine SF.two 12 19 rfl rfl (by kernel_rfl) rfl rfl ?_ ?_
     focus
      refine SW.dI rfl rfl rfl rfl rfl fun XR w9 ak NY qz => ?_
      (try have eA:=eA.ext ak);(obtain ⟨hw,bR,cW,hA,hB,hP,iF,hY⟩:=xQ ak hw bR cW hA hB hP iF hY);refine SW.nil (ae.sf ak ?_);refine SF.T1 19 rfl rfl (by kernel_rfl) rfl rfl ?_ ?_
      focus
       refine SW.append hY (aS.ue (enc:=ew) (x:=rC pp k) qz) iF.hx.size rfl rfl rfl (by omega) (by omega) fun Y2 f2 pE xK hg => ?_
       have hG:=hY.gr hg;have Ee:=vU hP.pl.qy Ll hg hY.a9;have hP:=hP.act hG Ee;have hw:=aD hw hg Li hY.a9;(try have eA:=eA.aK hG rfl);(obtain ⟨bR,cW,hA,hB⟩:=dv hG bR cW hA hB);have hS:=bR;refine SW.nil (ae.sg hS ?_);refine SG.two 14 19 rfl rfl (by kernel_rfl) rfl rfl ?_ ?_
       focus
        refine Wk (rz nJ A 2 2 B 2 2 _ _ _ _ _ Y2 (p.n+1) f2 (dz++[rC pp k]) _ hA.sl hB.sl (by decide) (by decide) (by omega) (yM.ext hw) (eG.ext hw) xK.sl (by omega) (fun u h _=>(mX h).named) (fun s h=>h.sys.cK) (fun x hx=>(kF x hx).2) (fun x hx=>j5 (kF x hx).1)) fun v w7 ak hv => ?_
        obtain ⟨⟨e1,ys,t⟩,Cy,X2,nn,cc,NX,q2,rfl,hX,lA⟩:=hv;obtain ⟨Gg,s',hF,hI,hR⟩:=rA Cy;simp only at hX lA Gg hR;subst Gg;have hX:=hX.low hw.size;have lA:=lA.low hw.size;(try have eA:=eA.ext ak);(obtain ⟨hw,bR,cW,hA,hB,hP⟩:=gw ak hw bR cW hA hB hP);have hS:=bR;refine SW.nil (ae.sg hS ?_);refine SG.jb 15 aG rfl (by kernel_rfl) (by kernel_rfl) rfl hS (fun _=>aR rfl) rfl ?_;refine SG.jb 16 aG rfl (by kernel_rfl) (by kernel_rfl) rfl hS (fun _=>aR rfl) rfl ?_;refine SG.jb 17 aG rfl (by kernel_rfl) (by kernel_rfl) rfl hS (fun _=>aR rfl) rfl ?_;refine SG.jb 18 aG rfl (by kernel_rfl) (by kernel_rfl) rfl hS (fun _=>aR rfl) rfl ?_;refine SG.one 19 rfl (by kernel_rfl) rfl ?_;refine SW.alloc rfl fun SL w9 ak o9 eA => ?_
        have rJ:=hw.up o9
        (try have iF:=iF.ext ak);(try have hY:=hY.ext ak);(try have qz:=qz.ext ak);(try have xK:=xK.ext ak);(try have hX:=hX.ext ak);(try have lA:=lA.ext ak);(obtain ⟨hw,bR,cW,hA,hB,hP⟩:=gw ak hw bR cW hA hB hP);have hS:=bR;refine SW.nil (ae.sg hS ?_);refine SG.one 20 rfl (by kernel_rfl) rfl ?_;repeat (refine SW.pure rfl rfl ?_)
        refine SW.nil (ae.sg hS ?_);refine SG.one 21 rfl (by kernel_rfl) rfl ?_;refine SW.ag eA rfl rfl rfl rfl (aY q2) fun w8 xN hg => ?_
        have hG:=eA.gr hg;have hw:=hw.own rJ hg;(obtain ⟨bR,cW,hP,hX⟩:=dv hG bR cW hP hX);have hS:=bR;refine SW.nil (ae.sg hS ?_)
       rotate_left
       focus
        refine SW.alloc rfl fun SL w9 ak o9 eA => ?_
        have rJ:=hw.up o9
        (try have iF:=iF.ext ak);(try have hY:=hY.ext ak);(try have qz:=qz.ext ak);(try have xK:=xK.ext ak);(try have hX:=hX.ext ak);(try have lA:=lA.ext ak);(obtain ⟨hw,bR,cW,hA,hB,hP⟩:=gw ak hw bR cW hA hB hP);have hS:=bR;refine SW.nil (ae.sg hS ?_);refine SG.one 14 rfl (by kernel_rfl) rfl ?_;refine Wk (rz nJ A 2 2 B 2 2 _ _ _ _ _ Y2 (p.n+1) f2 (dz++[rC pp k]) _ hA.sl hB.sl (by decide) (by decide) (by omega) (yM.ext hw) (eG.ext hw) xK.sl (by omega) (fun u h _=>(mX h).named) (fun s h=>h.sys.cK) (fun x hx=>(kF x hx).2) (fun x hx=>j5 (kF x hx).1)) fun v w7 ak hv => ?_
        obtain ⟨⟨e1,ys,t⟩,Cy,X2,nn,cc,NX,q2,rfl,hX,lA⟩:=hv;obtain ⟨Gg,s',hF,hI,hR⟩:=rA Cy;simp only at hX lA Gg hR;subst Gg;have hX:=hX.low hw.size;have lA:=lA.low hw.size;(try have eA:=eA.ext ak);(obtain ⟨hw,bR,cW,hA,hB,hP⟩:=gw ak hw bR cW hA hB hP);have hS:=bR;refine SW.nil (ae.sg hS ?_);refine SG.one 15 rfl (by kernel_rfl) rfl ?_;repeat (refine SW.pure rfl rfl ?_)
        refine SW.nil (ae.sg hS ?_);refine SG.jb 16 aG rfl (by kernel_rfl) (by kernel_rfl) rfl hS (fun _=>aR rfl) rfl ?_;refine SG.jb 17 aG rfl (by kernel_rfl) (by kernel_rfl) rfl hS (fun _=>aR rfl) rfl ?_;refine SG.jb 18 aG rfl (by kernel_rfl) (by kernel_rfl) rfl hS (fun _=>aR rfl) rfl ?_;refine SG.one 20 rfl (by kernel_rfl) rfl ?_;repeat (refine SW.pure rfl rfl ?_)
        refine SW.nil (ae.sg hS ?_);refine SG.one 21 rfl (by kernel_rfl) rfl ?_;refine SW.ag eA rfl rfl rfl rfl (aY q2) fun w8 xN hg => ?_
        have hG:=eA.gr hg;have hw:=hw.own rJ hg;(obtain ⟨bR,cW,hP,hX⟩:=dv hG bR cW hP hX);have hS:=bR;refine SW.nil (ae.sg hS ?_)
       rotate_left
      rotate_left 2
      focus
       refine SW.alloc rfl fun SL w9 ak o9 eA => ?_
       have rJ:=hw.up o9
       (try have iF:=iF.ext ak);(try have hY:=hY.ext ak);(try have qz:=qz.ext ak);(try have xK:=xK.ext ak);(try have hX:=hX.ext ak);(try have lA:=lA.ext ak);(obtain ⟨hw,bR,cW,hA,hB,hP⟩:=gw ak hw bR cW hA hB hP);have hS:=bR;refine SW.nil (ae.sf ak ?_);refine SF.turn rfl (by kernel_rfl) rfl ?_;refine SW.append hY (aS.ue (enc:=ew) (x:=rC pp k) qz) iF.hx.size rfl rfl rfl (by omega) (by omega) fun Y2 f2 pE xK hg => ?_
       have hG:=hY.gr hg;have Ee:=vU hP.pl.qy Ll hg hY.a9;have hP:=hP.act hG Ee;have hw:=aD hw hg Li hY.a9;(try have eA:=eA.aK hG rfl);(obtain ⟨bR,cW,hA,hB⟩:=dv hG bR cW hA hB);have hS:=bR;refine SW.nil (ae.sg hS ?_);refine SG.one 14 rfl (by kernel_rfl) rfl ?_;refine Wk (rz nJ A 2 2 B 2 2 _ _ _ _ _ Y2 (p.n+1) f2 (dz++[rC pp k]) _ hA.sl hB.sl (by decide) (by decide) (by omega) (yM.ext hw) (eG.ext hw) xK.sl (by omega) (fun u h _=>(mX h).named) (fun s h=>h.sys.cK) (fun x hx=>(kF x hx).2) (fun x hx=>j5 (kF x hx).1)) fun v w7 ak hv => ?_
       obtain ⟨⟨e1,ys,t⟩,Cy,X2,nn,cc,NX,q2,rfl,hX,lA⟩:=hv;obtain ⟨Gg,s',hF,hI,hR⟩:=rA Cy;simp only at hX lA Gg hR;subst Gg;have hX:=hX.low hw.size;have lA:=lA.low hw.size;(try have eA:=eA.ext ak);(obtain ⟨hw,bR,cW,hA,hB,hP⟩:=gw ak hw bR cW hA hB hP);have hS:=bR;refine SW.nil (ae.sg hS ?_);refine SG.one 15 rfl (by kernel_rfl) rfl ?_;repeat (refine SW.pure rfl rfl ?_)
       refine SW.nil (ae.sg hS ?_);refine SG.jb 16 aG rfl (by kernel_rfl) (by kernel_rfl) rfl hS (fun _=>aR rfl) rfl ?_;refine SG.jb 17 aG rfl (by kernel_rfl) (by kernel_rfl) rfl hS (fun _=>aR rfl) rfl ?_;refine SG.jb 18 aG rfl (by kernel_rfl) (by kernel_rfl) rfl hS (fun _=>aR rfl) rfl ?_;refine SG.one 20 rfl (by kernel_rfl) rfl ?_;repeat (refine SW.pure rfl rfl ?_)
       refine SW.nil (ae.sg hS ?_);refine SG.one 21 rfl (by kernel_rfl) rfl ?_;refine SW.ag eA rfl rfl rfl rfl (aY q2) fun w8 xN hg => ?_
       have hG:=eA.gr hg;have hw:=hw.own rJ hg;(obtain ⟨bR,cW,hP,hX⟩:=dv hG bR cW hP hX);have hS:=bR;refine SW.nil (ae.sg hS ?_)
      rotate_left
     rotate_left 3
     focus
      refine SW.alloc rfl fun SL w9 ak o9 eA => ?_
      have rJ:=hw.up o9
      (try have iF:=iF.ext ak);(try have hY:=hY.ext ak);(try have qz:=qz.ext ak);(try have xK:=xK.ext ak);(try have hX:=hX.ext ak);(try have lA:=lA.ext ak);(obtain ⟨hw,bR,cW,hA,hB,hP⟩:=gw ak hw bR cW hA hB hP);have hS:=bR;refine SW.nil (ae.sf ak ?_);refine SF.one 12 rfl (by kernel_rfl) rfl ?_;refine SW.dI rfl rfl rfl rfl rfl fun XR w9 ak NY qz => ?_
      (try have eA:=eA.ext ak);(obtain ⟨hw,bR,cW,hA,hB,hP,iF,hY⟩:=xQ ak hw bR cW hA hB hP iF hY);refine SW.nil (ae.sf ak ?_);refine SF.turn rfl (by kernel_rfl) rfl ?_;refine SW.append hY (aS.ue (enc:=ew) (x:=rC pp k) qz) iF.hx.size rfl rfl rfl (by omega) (by omega) fun Y2 f2 pE xK hg => ?_
      have hG:=hY.gr hg;have Ee:=vU hP.pl.qy Ll hg hY.a9;have hP:=hP.act hG Ee;have hw:=aD hw hg Li hY.a9;(try have eA:=eA.aK hG rfl);(obtain ⟨bR,cW,hA,hB⟩:=dv hG bR cW hA hB);have hS:=bR;refine SW.nil (ae.sg hS ?_);refine SG.one 14 rfl (by kernel_rfl) rfl ?_;refine Wk (rz nJ A 2 2 B 2 2 _ _ _ _ _ Y2 (p.n+1) f2 (dz++[rC pp k]) _ hA.sl hB.sl (by decide) (by decide) (by omega) (yM.ext hw) (eG.ext hw) xK.sl (by omega) (fun u h _=>(mX h).named) (fun s h=>h.sys.cK) (fun x hx=>(kF x hx).2) (fun x hx=>j5 (kF x hx).1)) fun v w7 ak hv => ?_
      obtain ⟨⟨e1,ys,t⟩,Cy,X2,nn,cc,NX,q2,rfl,hX,lA⟩:=hv;obtain ⟨Gg,s',hF,hI,hR⟩:=rA Cy;simp only at hX lA Gg hR;subst Gg;have hX:=hX.low hw.size;have lA:=lA.low hw.size;(try have eA:=eA.ext ak);(obtain ⟨hw,bR,cW,hA,hB,hP⟩:=gw ak hw bR cW hA hB hP);have hS:=bR;refine SW.nil (ae.sg hS ?_);refine SG.one 15 rfl (by kernel_rfl) rfl ?_;repeat (refine SW.pure rfl rfl ?_)
      refine SW.nil (ae.sg hS ?_);refine SG.jb 16 aG rfl (by kernel_rfl) (by kernel_rfl) rfl hS (fun _=>aR rfl) rfl ?_;refine SG.jb 17 aG rfl (by kernel_rfl) (by kernel_rfl) rfl hS (fun _=>aR rfl) rfl ?_;refine SG.jb 18 aG rfl (by kernel_rfl) (by kernel_rfl) rfl hS (fun _=>aR rfl) rfl ?_;refine SG.one 20 rfl (by kernel_rfl) rfl ?_;repeat (refine SW.pure rfl rfl ?_)
      refine SW.nil (ae.sg hS ?_);refine SG.one 21 rfl (by kernel_rfl) rfl ?_;refine SW.ag eA rfl rfl rfl rfl (aY q2) fun w8 xN hg => ?_
      have hG:=eA.gr hg;have hw:=hw.own rJ hg;(obtain ⟨bR,cW,hP,hX⟩:=dv hG bR cW hP hX);have hS:=bR;refine SW.nil (ae.sg hS ?_)
     rotate_left
    rotate_left 4
    focus
     refine SW.alloc rfl fun SL w9 ak o9 eA => ?_
     have rJ:=hw.up o9
     (try have iF:=iF.ext ak);(try have hY:=hY.ext ak);(try have qz:=qz.ext ak);(try have xK:=xK.ext ak);(try have hX:=hX.ext ak);(try have lA:=lA.ext ak);(obtain ⟨hw,bR,cW,hA,hB,hP⟩:=gw ak hw bR cW hA hB hP);have hS:=bR;refine SW.nil (ae.sf ak ?_);refine SF.one 9 rfl (by kernel_rfl) rfl ?_;refine Wk (cP _) fun v w5 ak hv => ?_
     subst hv;(try have eA:=eA.ext ak);(obtain ⟨hw,bR,cW,hA,hB,hP,iF,hY⟩:=xQ ak hw bR cW hA hB hP iF hY);refine SW.nil (ae.sf ak ?_);refine Wt 11 [12] [] aG rfl (fZ rfl rfl) ?_;refine SF.one 12 rfl (by kernel_rfl) rfl ?_;refine SW.dI rfl rfl rfl rfl rfl fun XR w9 ak NY qz => ?_
     (try have eA:=eA.ext ak);(obtain ⟨hw,bR,cW,hA,hB,hP,iF,hY⟩:=xQ ak hw bR cW hA hB hP iF hY);refine SW.nil (ae.sf ak ?_);refine SF.turn rfl (by kernel_rfl) rfl ?_;refine SW.append hY (aS.ue (enc:=ew) (x:=rC pp k) qz) iF.hx.size rfl rfl rfl (by omega) (by omega) fun Y2 f2 pE xK hg => ?_
     have hG:=hY.gr hg;have Ee:=vU hP.pl.qy Ll hg hY.a9;have hP:=hP.act hG Ee;have hw:=aD hw hg Li hY.a9;(try have eA:=eA.aK hG rfl);(obtain ⟨bR,cW,hA,hB⟩:=dv hG bR cW hA hB);have hS:=bR;refine SW.nil (ae.sg hS ?_);refine SG.one 14 rfl (by kernel_rfl) rfl ?_;refine Wk (rz nJ A 2 2 B 2 2 _ _ _ _ _ Y2 (p.n+1) f2 (dz++[rC pp k]) _ hA.sl hB.sl (by decide) (by decide) (by omega) (yM.ext hw) (eG.ext hw) xK.sl (by omega) (fun u h _=>(mX h).named) (fun s h=>h.sys.cK) (fun x hx=>(kF x hx).2) (fun x hx=>j5 (kF x hx).1)) fun v w7 ak hv => ?_
     obtain ⟨⟨e1,ys,t⟩,Cy,X2,nn,cc,NX,q2,rfl,hX,lA⟩:=hv;obtain ⟨Gg,s',hF,hI,hR⟩:=rA Cy;simp only at hX lA Gg hR;subst Gg;have hX:=hX.low hw.size;have lA:=lA.low hw.size;(try have eA:=eA.ext ak);(obtain ⟨hw,bR,cW,hA,hB,hP⟩:=gw ak hw bR cW hA hB hP);have hS:=bR;refine SW.nil (ae.sg hS ?_);refine SG.one 15 rfl (by kernel_rfl) rfl ?_;repeat (refine SW.pure rfl rfl ?_)
     refine SW.nil (ae.sg hS ?_);refine SG.jb 16 aG rfl (by kernel_rfl) (by kernel_rfl) rfl hS (fun _=>aR rfl) rfl ?_;refine SG.jb 17 aG rfl (by kernel_rfl) (by kernel_rfl) rfl hS (fun _=>aR rfl) rfl ?_;refine SG.jb 18 aG rfl (by kernel_rfl) (by kernel_rfl) rfl hS (fun _=>aR rfl) rfl ?_;refine SG.one 20 rfl (by kernel_rfl) rfl ?_;repeat (refine SW.pure rfl rfl ?_)
     refine SW.nil (ae.sg hS ?_);refine SG.one 21 rfl (by kernel_rfl) rfl ?_;refine SW.ag eA rfl rfl rfl rfl (aY q2) fun w8 xN hg => ?_
     have hG:=eA.gr hg;have hw:=hw.own rJ hg;(obtain ⟨bR,cW,hP,hX⟩:=dv hG bR cW hP hX);have hS:=bR;refine SW.nil (ae.sg hS ?_)
    rotate_left
   rotate_left 5
   focus
    refine SW.alloc rfl fun SL w9 ak o9 eA => ?_
    have rJ:=hw.up o9
    (try have iF:=iF.ext ak);(try have hY:=hY.ext ak);(try have qz:=qz.ext ak);(try have xK:=xK.ext ak);(try have hX:=hX.ext ak);(try have lA:=lA.ext ak);(obtain ⟨hw,bR,cW,hA,hB,hP⟩:=gw ak hw bR cW hA hB hP);have hS:=bR;refine SW.nil (ae.sf ak ?_);refine SF.one 5 rfl (by kernel_rfl) rfl ?_;have Ll:=hP.pl.qy.lt_size;have Li:=hw.size;have iF:=Ba hP;refine Wk (vT p.A p.n p.c dz _ hP.pl.qy.sl (by omega)) fun v w5 ak hv => ?_
    obtain ⟨Y0,f0,rfl,hY⟩:=hv;(try have eA:=eA.ext ak);(obtain ⟨hw,bR,cW,hA,hB,hP,iF⟩:=uK ak hw bR cW hA hB hP iF);refine SW.nil (ae.sf ak ?_);refine SF.one 9 rfl (by kernel_rfl) rfl ?_;refine Wk (cP _) fun v w5 ak hv => ?_
    subst hv;(try have eA:=eA.ext ak);(obtain ⟨hw,bR,cW,hA,hB,hP,iF,hY⟩:=xQ ak hw bR cW hA hB hP iF hY);refine SW.nil (ae.sf ak ?_);refine Wt 11 [12] [] aG rfl (fZ rfl rfl) ?_;refine SF.one 12 rfl (by kernel_rfl) rfl ?_;refine SW.dI rfl rfl rfl rfl rfl fun XR w9 ak NY qz => ?_
    (try have eA:=eA.ext ak);(obtain ⟨hw,bR,cW,hA,hB,hP,iF,hY⟩:=xQ ak hw bR cW hA hB hP iF hY);refine SW.nil (ae.sf ak ?_);refine SF.turn rfl (by kernel_rfl) rfl ?_;refine SW.append hY (aS.ue (enc:=ew) (x:=rC pp k) qz) iF.hx.size rfl rfl rfl (by omega) (by omega) fun Y2 f2 pE xK hg => ?_
    have hG:=hY.gr hg;have Ee:=vU hP.pl.qy Ll hg hY.a9;have hP:=hP.act hG Ee;have hw:=aD hw hg Li hY.a9;(try have eA:=eA.aK hG rfl);(obtain ⟨bR,cW,hA,hB⟩:=dv hG bR cW hA hB);have hS:=bR;refine SW.nil (ae.sg hS ?_);refine SG.one 14 rfl (by kernel_rfl) rfl ?_;refine Wk (rz nJ A 2 2 B 2 2 _ _ _ _ _ Y2 (p.n+1) f2 (dz++[rC pp k]) _ hA.sl hB.sl (by decide) (by decide) (by omega) (yM.ext hw) (eG.ext hw) xK.sl (by omega) (fun u h _=>(mX h).named) (fun s h=>h.sys.cK) (fun x hx=>(kF x hx).2) (fun x hx=>j5 (kF x hx).1)) fun v w7 ak hv => ?_
    obtain ⟨⟨e1,ys,t⟩,Cy,X2,nn,cc,NX,q2,rfl,hX,lA⟩:=hv;obtain ⟨Gg,s',hF,hI,hR⟩:=rA Cy;simp only at hX lA Gg hR;subst Gg;have hX:=hX.low hw.size;have lA:=lA.low hw.size;(try have eA:=eA.ext ak);(obtain ⟨hw,bR,cW,hA,hB,hP⟩:=gw ak hw bR cW hA hB hP);have hS:=bR;refine SW.nil (ae.sg hS ?_);refine SG.one 15 rfl (by kernel_rfl) rfl ?_;repeat (refine SW.pure rfl rfl ?_)
    refine SW.nil (ae.sg hS ?_);refine SG.jb 16 aG rfl (by kernel_rfl) (by kernel_rfl) rfl hS (fun _=>aR rfl) rfl ?_;refine SG.jb 17 aG rfl (by kernel_rfl) (by kernel_rfl) rfl hS (fun _=>aR rfl) rfl ?_;refine SG.jb 18 aG rfl (by kernel_rfl) (by kernel_rfl) rfl hS (fun _=>aR rfl) rfl ?_;refine SG.one 20 rfl (by kernel_rfl) rfl ?_;repeat (refine SW.pure rfl rfl ?_)
    refine SW.nil (ae.sg hS ?_);refine SG.one 21 rfl (by kernel_rfl) rfl ?_;refine SW.ag eA rfl rfl rfl rfl (aY q2) fun w8 xN hg => ?_
    have hG:=eA.gr hg;have hw:=hw.own rJ hg;(obtain ⟨bR,cW,hP,hX⟩:=dv hG bR cW hP hX);have hS:=bR;refine SW.nil (ae.sg hS ?_)
   rotate_left
   all_goals
    refine SG.last rfl (by kernel_rfl) (by kernel_rfl) ?_;repeat' (first|refine Wy ?_|fail);have e0:=hP.fresh.eq hF;subst e0;exact ae.mj (K:=KK) (by rw [yy];exact ⟨X2,nn,cc,NX,ys,t,⟨rfl,rfl,rfl,rfl,rfl,trivial⟩,hw,cW,hP,hX,hR⟩)
 ·clear hw bR cW hA hB hP;subst yy;rintro L' w2 ⟨X2,nn,cc,NX,ys,t,jA,hw,cW,hP,hX,hR⟩
  refine ae.sub jA ?_;have XS:s0.Heap.bG=1+bM c 4:=by rw [hP.fresh.heap];simp only [H9,pJ]
  obtain ⟨x,ey,Zr,XT⟩:=Le hP.start hP.pl.run hP.pl.phase hP.two.1 (fun x hx=>(hP.pl.Ds x hx).ok.1) xW (by rw [XS];exact hp) hR;have nW:=hP.pl.run.len;have hXl:=hX.len;have hXr:=hX.row.len;have EF:=hX.each.len;rw [ey,adp,List.length_singleton] at hXl;have hXA:=hX.row.sl.base;have YW:nn=p.n+1:=by omega
  have Bx:p.n<nn:=by omega
  have hk3:p.n<NX.length:=by omega
  have Oc:(nn:Int)-1=(p.n:Int):=by omega
  obtain ⟨y,XU⟩ : ∃ y,NX[p.n]=y:=⟨_,rfl⟩;have hy:=hX.each.get p.n hk3 (by rw [ey];simp;omega)
  have Zs:ys[p.n]'(by rw [ey];simp;omega)=x:=by
   subst ey;rw [afe (by omega)];simp [show p.n-xs.length=0 by omega]
  have c1:y.Code=x.Code:=by rw [<- XU,hy.code,Zs]
  have c2:y.N=x.N:=by rw [<- XU,hy.n,Zs]
  have fk:=hX.row.sl.all Bx;rw [XU] at fk;repeat' (first|refine Wy ?_|refine SW.st (cf (p.n) rfl rfl (by assumption) (by omega) (by omega)) rfl ?_|refine Wm fk ?_)
  refine SW.alloc rfl fun Ib w1 ai sR lu => ?_
  skip;refine SW.ag lu rfl rfl rfl rfl (fr y) fun w2 AV hg => ?_
  have ak:=ai.own sR hg;have Uy:=hw.up sR
  obtain ⟨hw,cW,hP,hX⟩:=dv ak hw cW hP hX;have lu:=AV;clear AV ai hg ak;by_cases h0:x.Code=0
  ·have fy:(cb y)[0]?=some (.int .i64 0):=by rw [<- h0,<- c1];rfl
   obtain ⟨hN,hz⟩:=XT h0;rw [<- c2] at hN hz
   have cC:∀ w',Ext _ w'->_:=fun w' hx=>rT z.A z.n z.c lt w' (hP.pl.px.sl.ext hx) 11 [.pointer (some ⟨Ib,0,none⟩),.pointer (some ⟨GW,0,none⟩)] (Gf y.N k)
    (fun u hu w1 kW=>Lh y k Ib GW u w1 (lu.ext (hx.trans kW)) (cW.ext (hx.trans kW)) xW hN (hz u hu).1) (by omega)
   have gQ:lt.any (Gf y.N k)=false:=by
    rw [ady];intro u hu;have:=(hz u hu).2
    unfold Gf;simp only [Bool.and_eq_true,decide_eq_true_eq];exact this
   rw [gQ] at cC;have iF:=Ba hP;repeat' (first|refine Wy ?_|refine SW.want rfl rfl ?_|refine Wl (lu.cell (i:=0) fy) ?_|refine Wl (hP.pl.qw.cell (i:=9) (v := .slice z.A z.n z.c) rfl) ?_|(refine Wk (cC _ iF.hx) ?_;intro v w1 ai hv;subst hv;obtain ⟨hw,cW,hP,hX,lu,iF⟩:=gw ai hw cW hP hX lu iF;clear ai)|(refine SW.st (iK (vs:=[.pointer (some ⟨Ib,0,none⟩),.pointer (some ⟨GW,0,none⟩)]) rfl) rfl ?_))
   exact ae.bg rfl rfl ⟨_,rfl,hw,rfl⟩
  ·have h6:x.Code=6:=by omega
   have fy:(cb y)[0]?=some (.int .i64 6):=by rw [<- h6,<- c1];rfl
   repeat' (first|refine Wy ?_|refine SW.want rfl rfl ?_|refine Wl (lu.cell (i:=0) fy) ?_)
   exact ae.bg rfl rfl ⟨_,rfl,hw,rfl⟩
end Go.Proofs.YtohigmjjbgpfmaaGreatDoor
