/- Part 8 of what topWords_holds leans on. -/
import Derived.Test.YtohigmjjbgpfmaaGreatDoorPackTopWords7
set_option linter.unusedVariables false
set_option linter.unusedSimpArgs false
set_option linter.defProp false
open Go.Proofs.Tryz
namespace Go.Proofs.YtohigmjjbgpfmaaGreatDoor
open Go.RowKit
variable {a:Int} {s:ah}
inductive qS (s:ah) (a:Int) : Option Nat->Prop where
 | no {u:Int×Int×Int} (hF:iy s a u) (hn:∀ (i:Nat) (hi:i<s.aa.length),u.2.2=0->u.1=(i:Int)->oR s.aa[i]=false) : qS s a none
 | yes {i:Nat} {k:Int} (hF:iy s a ((i:Int),k,0)) (hi:i<s.aa.length) (hm:oR s.aa[i]=true) : qS s a (some i)
theorem qS.dm {u v:Option Nat} (h:qS s a u) (hv:qS s a v) : u=v:=by
 cases h with
 | no hF hn=>cases hv with
   | no=>rfl
   | @yes i k AN hi hm =>
     have e:=hF.dm AN;subst e;rw [hn i hi rfl rfl] at hm;cases hm
 | @yes i k hF hi hm=>cases hv with
   | no AN hn =>
     have e:=hF.dm AN;subst e;rw [hn i hi rfl rfl] at hm;cases hm
   | @yes i' k' AN nO mP =>
     have e:=hF.dm AN;simp only [Prod.mk.injEq] at e;have:i=i':=by omega
     rw [this]
theorem iy.Mt {u:Int×Int×Int} (h:iy s a u) (h0:u.2.2=0) : ∃ (i:Nat) (hi:i<s.aa.length),u.1=(i:Int):=by
 cases h with
 | bad=>simp at h0
 | none=>simp at h0
 | free=>simp at h0
 | @hit i k out h hF hC hm=>exact ⟨i,hF.hi,rfl⟩
theorem iy.code {u:Int×Int×Int} (h:iy s a u) (hq:fQ s=true) : u.2.2=0∨u.2.2=4:=by
 cases h with
 | bad h=>rw [h] at hq;cases hq
 | none=>exact .inr rfl
 | free=>exact .inr rfl
 | hit=>exact .inl rfl
inductive jE (s:ah) (a:Int) : Int×Int->Prop where
 | bad (h:fQ s=false) : jE s a (0,8)
 | obj {i:Nat} (h:fQ s=true) (hi:i<s.aa.length) (ho:qS s a (some i)) : jE s a (s.aa[i].aA,0)
 | whole (h:fQ s=true) (ho:qS s a none) (hw:df s a=true) : jE s a (16*pw (pn s a),0)
 | no (h:fQ s=true) (ho:qS s a none) (hw:df s a=false) : jE s a (0,4)
theorem jE.dm {u v:Int×Int} (h:jE s a u) (k:jE s a v) : u=v:=by
 cases h with
 | bad h=>cases k with
   | bad=>rfl
   | obj h'|whole h'|no h'=>rw [h] at h';cases h'
 | obj h hi ho=>cases k with
   | bad h'=>rw [h] at h';cases h'
   | obj h' nO nK=>cases ho.dm nK;rfl
   | whole _ nK|no _ nK=>cases ho.dm nK
 | whole h ho hw=>cases k with
   | bad h'=>rw [h] at h';cases h'
   | obj h' nO nK=>cases ho.dm nK
   | whole=>rfl
   | no _ _ nC=>rw [hw] at nC;cases nC
 | no h ho hw=>cases k with
   | bad h'=>rw [h] at h';cases h'
   | obj h' nO nK=>cases ho.dm nK
   | whole _ _ nC=>rw [hw] at nC;cases nC
   | no=>rfl
theorem BZ (hM:aB s) (h:df s a=true) : ∃ hk:bE s.Heap.Live (a / 16)<s.Heap.Live.length,pn s a=s.Heap.Live[bE s.Heap.Live (a / 16)].Order∧0<=pn s a∧pn s a<=4:=by
 have hf:bO s.Heap.Live (a / 16)=true:=by
  unfold df at h;simp only [Bool.and_eq_true] at h;exact h.2.2
 obtain ⟨hk,_⟩:=jx hf;have e:=zp hf hk;obtain ⟨l1,l2,l3,l4⟩:=hM.heap.live.each _ hk;unfold pn;rw [if_pos h,e];exact ⟨hk,rfl,by omega,by omega⟩
theorem Mu (r:db) (s:ah) (a:Int) (w:World) (hr:AM w r s) (hf:s.cV) (ha : -9223372036854775808<=a∧a<=9223372036854775807) (hS:iv w) :
 bI prog 33 [.agg (aP r).toArray,.int .i64 a] w fun v _ => ∃ u,jE s a u∧v = .tuple #[.int .i64 u.1,.int .i64 u.2]:=by
 refine aE func33 rfl ntmps33 rfl ?_;refine CW.seq (CW.region (SW.box rfl rfl fun b2 w1 hw fk au => ?_));have hs:=hf.small;obtain ⟨q,hq⟩ : ∃ q,fQ s=q:=⟨_,rfl⟩
 have c1:∀ w',Ext w w'->bI prog 46 [.agg (aP r).toArray] w' fun v _=>v = .int .i64 (if q then 0 else 8):=fun w' hx=>by
  have:=mf r s w' (hr.ext hx) hf
  rwa [hq] at this
 cases q
 ·simp only [Bool.false_eq_true,if_false] at c1;repeat' (first|refine Wz ?_|(refine Wk (c1 _ hw) ?_;intro v w1 ai hv;subst hv;obtain ⟨hw,au⟩:=cX ai hw au;clear ai))
  exact ae.dj rfl rfl rfl ⟨_,rfl,hw,_,.bad hq,rfl⟩
 ·simp only [if_true] at c1;have hM:=iM.1 hq;obtain ⟨cs,hc⟩:=hr.br;obtain ⟨z1,z2⟩:=hc.len;have hA:=hc.row.base;repeat' (first|refine Wz ?_|(refine Wk (c1 _ hw) ?_;intro v w1 ai hv;subst hv;obtain ⟨hw,au⟩:=cX ai hw au;clear ai))
  refine Wk (vf r s a _ (hr.ext hw) hf ha) fun v w5 ox hv => ?_
  obtain ⟨u,hu,rfl⟩:=hv;(obtain ⟨hw,au⟩:=cX ox hw au);clear c1;by_cases h0:u.2.2=0
  ·obtain ⟨i,hi,QX⟩:=hu.Mt h0;obtain ⟨i',k,e⟩:=u;simp only at h0 QX;subst h0 QX;simp only [BP];have cQ:i<r.aa.n:=by omega
   have G5:i<cs.length:=by omega
   have jU:=hc.each.get i G5 hi;have q1:=jU.names.len;have q2:=(hs.each _ (ac0 hi)).names;have eS:=jU.size;obtain ⟨bm,KW⟩ : ∃ bm,oR s.aa[i]=bm:=⟨_,rfl⟩
   have c2:∀ w',Ext w w'->bI prog 72 [.agg (fK cs[i]).toArray] w' fun v _=>v = .bool bm:=fun w' hx=>by
    have:=zD cs[i] _ w' (jU.ext hx) (by omega) (hS.ext hx)
    rwa [KW] at this
   cases bm
   ·have hO:qS s a none := .no hu fun i2 Q9 _ e=>by
     have e:i=i2:=by simp only at e;omega
     subst e;exact KW
    repeat' (first|refine Wz ?_|refine Wo hw ((hc.row.all cQ)) ?_|(refine Wk (c2 _ hw) ?_;intro v w1 ai hv;subst hv;obtain ⟨hw,au⟩:=cX ai hw au;clear ai))
    refine Wk (s8 r s a _ (hr.ext hw) hs hM ha) fun v w6 EV hv => ?_
    obtain ⟨ix,rfl,rG⟩:=hv;(obtain ⟨hw,au⟩:=cX EV hw au);cases hW:df s a
    ·repeat' (first|refine Wz ?_|(refine CW.fU rfl ?_))
     exact ae.dj rfl rfl rfl ⟨_,rfl,hw,_,.no hq hO hW,rfl⟩
    ·obtain ⟨hk,e1,e2,e3⟩:=BZ hM hW;obtain rfl:=rG hW;have Ji:=hr.heap.live.len;have XZ:=hr.heap.live.base;have gh:bE s.Heap.Live (a / 16)<r.Heap.Live.n:=by omega
     have g1:=hr.heap.live.jL gh (j:=1) (u := .int .i64 (pn s a)) (by rw [e1];rfl);have hp:=cy e2 e3;repeat' (first|refine Wz ?_|(refine CW.gj rfl ?_)|refine Wn hw g1 ?_|(refine SW.st (fA (r:=16*pw (pn s a)) rfl rfl (by omega) (by omega) (by simp [pw]) (by omega) (by omega)) rfl ?_))
     exact ae.dj rfl rfl rfl ⟨_,rfl,hw,_,.whole hq hO hW,rfl⟩
   ·have hO:qS s a (some i) := .yes hu hi KW
    repeat' (first|refine Wz ?_|refine Wo hw ((hc.row.all cQ)) ?_|refine Wn hw (hc.row.jL cQ (j:=1) (u := .int .i64 cs[i].aA) rfl) ?_|(refine Wk (c2 _ hw) ?_;intro v w1 ai hv;subst hv;obtain ⟨hw,au⟩:=cX ai hw au;clear ai))
    exact ae.dj rfl rfl rfl ⟨_,rfl,hw,_,.obj hq hi hO,by rw [eS]⟩
  ·obtain ⟨i',k,e⟩:=u;simp only at h0;simp only [BP];have hO:qS s a none := .no hu fun i hi h=>absurd h h0
   obtain rfl:e=4:=(hu.code hq).resolve_left h0;refine Wz ?_;refine Wk (s8 r s a _ (hr.ext hw) hs hM ha) fun v w6 EV hv => ?_
   obtain ⟨ix,rfl,rG⟩:=hv;(obtain ⟨hw,au⟩:=cX EV hw au);cases hW:df s a
   ·refine Wz ?_;exact ae.dj rfl rfl rfl ⟨_,rfl,hw,_,.no hq hO hW,rfl⟩
   ·obtain ⟨hk,e1,e2,e3⟩:=BZ hM hW;obtain rfl:=rG hW;have Ji:=hr.heap.live.len;have XZ:=hr.heap.live.base;have gh:bE s.Heap.Live (a / 16)<r.Heap.Live.n:=by omega
    have g1:=hr.heap.live.jL gh (j:=1) (u := .int .i64 (pn s a)) (by rw [e1];rfl);have hp:=cy e2 e3;repeat' (first|refine Wz ?_|refine Wn hw g1 ?_|(refine SW.st (fA (r:=16*pw (pn s a)) rfl rfl (by omega) (by omega) (by simp [pw]) (by omega) (by omega)) rfl ?_))
    exact ae.dj rfl rfl rfl ⟨_,rfl,hw,_,.whole hq hO hW,rfl⟩
variable {cpu:Int} {u:ah×Int} {i:Nat}
def vn (c:aQ) : ByteArray:=c.Names.getD 0 ⟨#[]⟩
def qT (s:ah) (h:Heap) : ah:=⟨s.Words,h,s.aa⟩
def m9 (s:ah) (cpu:Int) : Prop:=0<=cpu∧cpu<s.Heap.bG
inductive kQ (s:ah) (cpu a:Int) : ah×Int->Prop where
 | bad (h:fQ s=false) : kQ s cpu a (.zero,8)
 | range (h:fQ s=true) (hc : ¬ m9 s cpu) : kQ s cpu a (.zero,1)
 | obj {i:Nat} {u:ah×Int} (h:fQ s=true) (hc:m9 s cpu) (hi:i<s.aa.length) (ho:qS s a (some i)) (hp:qN s (vn s.aa[i]) cpu a u) : kQ s cpu a u
 | no (h:fQ s=true) (hc:m9 s cpu) (ho:qS s a none) (hw:df s a=false) : kQ s cpu a (.zero,4)
 | whole (h:fQ s=true) (hc:m9 s cpu) (ho:qS s a none) (hw:df s a=true) : kQ s cpu a (qT s (fa s.Heap cpu (a / 16)).2,0)
theorem kQ.dm {v:ah×Int} (x:kQ s cpu a u) (y:kQ s cpu a v) : u=v:=by
 cases x with
 | bad h=>cases y with
   | bad=>rfl
   | range h'|obj h'|no h'|whole h'=>rw [h] at h';cases h'
 | range h hc=>cases y with
   | bad h'=>rw [h] at h';cases h'
   | range=>rfl
   | obj _ gQ|no _ gQ|whole _ gQ=>exact absurd gQ hc
 | obj h hc hi ho hp=>cases y with
   | bad h'=>rw [h] at h';cases h'
   | range _ gQ=>exact absurd hc gQ
   | obj _ _ _ nK Gg=>cases ho.dm nK;exact hp.dm Gg
   | no _ _ nK|whole _ _ nK=>cases ho.dm nK
 | no h hc ho hw=>cases y with
   | bad h'=>rw [h] at h';cases h'
   | range _ gQ=>exact absurd hc gQ
   | obj _ _ _ nK=>cases ho.dm nK
   | no=>rfl
   | whole _ _ _ nC=>rw [hw] at nC;cases nC
 | whole h hc ho hw=>cases y with
   | bad h'=>rw [h] at h';cases h'
   | range _ gQ=>exact absurd hc gQ
   | obj _ _ _ nK=>cases ho.dm nK
   | no _ _ _ nC=>rw [hw] at nC;cases nC
   | whole=>rfl
theorem eW (h:df s a=true) : bO s.Heap.Live (a / 16)=true∧0<=a∧a % 16=0:=by
 unfold df at h;simp only [Bool.and_eq_true,decide_eq_true_eq] at h;exact ⟨h.2.2,h.1.1,h.1.2⟩
theorem J0 (hM:aB s) (hc:m9 s cpu) (hw:df s a=true) : (fa s.Heap cpu (a / 16)).1=0:=by
 rw [nk (cn.2 hM.heap) hc (eW hw).1]
theorem Mv (hf:s.cV) (hi:i<s.aa.length) : (vn s.aa[i]).size<=140737488351232:=by
 unfold vn;rcases adj s.aa[i].Names.length with h|h
 ·rw [List.length_eq_zero_iff.1 h];decide
 ·have:=hf.names _ (ac0 hi) _ (ac0 h)
  simpa [h] using this
variable {j:Nat} {w:World}
theorem B9 (h:iv w) : ∀ j v,(kL.map (Value.int .i64))[j]?=some v->w.cell? ((⟨0,0,none⟩ : Addr).add j)=some v:=fun j v hv=>by
 rcases adA j 6 with hj|hj
 ·have:=h.sl.one (i:=j) (u:=v) hj (by
   rcases (show j=0∨j=1∨j=2∨j=3∨j=4∨j=5 by omega) with rfl|rfl|rfl|rfl|rfl|rfl<;>simpa [kL,bw] using hv)
  simpa using this
 ·rw [adP (by simp [kL];omega)] at hv;cases hv
def kP (j:Nat) : Int:=(2:Int) ^ j
theorem Mw (h:j<6) : kP j∈kL∧kL[j]?=some (kP j)∧1<=kP j∧kP j<=32:=by
 unfold kP;rcases (show j=0∨j=1∨j=2∨j=3∨j=4∨j=5 by omega) with rfl|rfl|rfl|rfl|rfl|rfl<;>decide
theorem ON (j:Nat) : kP (j+1)=2*kP j:=by unfold kP;rw [Int.pow_succ,ad8]
theorem Ca (h:j<6) : (gx (kP j)).size<=140737488351232:=by
 unfold kP;rcases (show j=0∨j=1∨j=2∨j=3∨j=4∨j=5 by omega) with rfl|rfl|rfl|rfl|rfl|rfl<;>decide
variable {s':ah} {cs':List dN} {l':List Slab} {m n':Nat} {A':Option Addr}
structure SJ (G:Nat->Prop) (w:World) (lo:Nat) (r:db) (s:ah) (cs:List dN) : Prop where
 ints:∃ m1 m2,lo<=m1∧jH w m1 m2 r.Heap s.Heap ∧ ∀ g,((∃ u∈cs,aI u.ao.A u.ao.c=some g)∨G g)->(g<m1∨m2<=g)∧aI r.Words.A r.Words.c≠some g
 sep:∀ u∈cs,∀ g,G g->aI u.ao.A u.ao.c≠some g
section
variable {w w':World} {lo t:Nat} {r:db} {s:ah} {cs:List dN} {i:Nat} {p:Heap×aQ} {G:Nat->Prop}
theorem SJ.rows (h:SJ G w lo r s cs) (hh:s'.Heap=s.Heap) (hc:∀ u∈cs',∃ v∈cs,aI u.ao.A u.ao.c=aI v.ao.A v.ao.c) : SJ G w lo r s' cs':=by
 obtain ⟨m1,m2,h1,h2,h3⟩:=h.ints;refine ⟨⟨m1,m2,h1,by rw [hh];exact h2,fun g e=>h3 g ?_⟩,fun u hu => ?_⟩
 ·rcases e with ⟨u,hu,e⟩|e
  ·obtain ⟨v,hv,e2⟩:=hc u hu;exact .inl ⟨v,hv,e2 ▸ e⟩
  ·exact .inr e
 ·obtain ⟨v,hv,e2⟩:=hc u hu;rw [e2];exact h.sep v hv
theorem SI.sj (h:SI w lo r s cs) : SJ (fun _=>False) w lo r s cs:=by
 obtain ⟨m1,m2,h1,h2,h3,h4,h5⟩:=h.ints;refine ⟨⟨m1,m2,h1,h4,fun g e => ?_⟩,fun u hu g e=>e.elim⟩;rcases e with ⟨u,hu,e⟩|e
 ·obtain ⟨j,hj,rfl⟩:=ac1 hu;have:=(h5.get j hj (by rw [<- h5.len];exact hj)).aZ.ba g e
  exact ⟨.inr this,fun e2=>by have:=h3 g e2;omega⟩
 ·exact e.elim
theorem SJ.ext (h:SJ G w lo r s cs) (hx:Ext w w') : SJ G w' lo r s cs:=by
 obtain ⟨m1,m2,h1,h2,h3⟩:=h.ints;exact ⟨⟨m1,m2,h1,h2.ext hx,h3⟩,h.sep⟩
theorem SJ.aN (h:SJ G w lo r s cs) (hG:rF w w' t) (bL:(Nat.beq t 3 || (Nat.beq t 147 || (Nat.beq t 117 || Nat.beq t 159)))=false) : SJ G w' lo r s cs:=by
 obtain ⟨m1,m2,h1,h2,h3⟩:=h.ints;exact ⟨⟨m1,m2,h1,h2.aN hG bL,h3⟩,h.sep⟩
theorem SJ.ne (h:SJ G w lo r s cs) {g:Nat} (hg:G g) (hi:i<cs.length) : some g≠aI cs[i].ao.A cs[i].ao.c:=fun e=>h.sep _ (ac0 hi) g hg e.symm
theorem sk.act {l':List Int} (h:SX w lo r (bH s i p) cs) (hJ:SJ G w lo r (bH s i p) cs) (hi:i<cs.length) (nO:i<s.aa.length) (hO:Own w' lo 3 1 bw cs[i].ao.A cs[i].ao.n cs[i].ao.c l') (hg:w.grownBy w' (aI cs[i].ao.A cs[i].ao.c)) :
 SX w' lo r (bH s i (p.1,⟨p.2.Names,p.2.aA,p.2.bK,p.2.Order,p.2.ab,l'⟩)) cs∧SJ G w' lo r (bH s i (p.1,⟨p.2.Names,p.2.aA,p.2.bK,p.2.Order,p.2.ab,l'⟩)) cs:=by
 obtain ⟨m1,m2,h1,h2,h3⟩:=hJ.ints;have hc:=h.get hi nO;have hG:=hc.aZ.gr hg;have Ir:cs.set i cs[i]=cs:=adK hi
 have hh:jH w' m1 m2 r.Heap p.1:=by
  cases e:aI cs[i].ao.A cs[i].ao.c with
  | none=>rw [e] at hg;exact h2.aN (⟨none,hg,fun k hk=>by cases hk⟩ : rF w w' 44) rfl
  | some g=>rw [e] at hg;exact h2.Iq hg hG (h3 g (.inl ⟨_,ac0 hi,e⟩)).1
 have Ts:Own w' lo 3 1 bw r.Words.A r.Words.n r.Words.c s.Words:=h.words.apart hg fun g e e2=>(h3 g (.inl ⟨_,ac0 hi,e2⟩)).2 e
 refine ⟨⟨Ts,hh.own.low h1,h.row.aN hG rfl,?_,h.pair⟩,⟨⟨m1,m2,h1,hh,h3⟩,hJ.sep⟩⟩;have:=fY.setAt (x:=cs[i]) (R':=oz w' lo) h.each (i:=i) (y:=⟨p.2.Names,p.2.aA,p.2.bK,p.2.Order,p.2.ab,l'⟩) ⟨hc.size,hc.per,hc.order,hc.names.aN hG rfl,hc.aD.aN hG rfl,hO⟩ fun j h1 h2 js ho=>⟨ho.size,ho.per,ho.order,ho.names.aN hG rfl,ho.aD.aN hG rfl,ho.aZ.grown hg (pQ (.inl (nZ h.pair hi h1 js).aZ))⟩
 rw [Ir] at this;simpa [bH] using this
theorem sk.fresh {X:ga} {l':List Int} {H:ju} {h':Heap} (h:SX w lo r (bH s i p) cs) (dz:lo<=m) (hm:∀ u∈cs,∀ g,aI u.ao.A u.ao.c=some g->g<m) (Yg:∀ g,G g->g<m ∧ ∀ u∈cs,aI u.ao.A u.ao.c≠some g) (hX:Own w m 3 1 bw X.A X.n X.c l') (hH:jC w m H h') :
 SX w lo ⟨X,H,r.aa⟩ (bH ⟨l',s.Heap,s.aa⟩ i (h',p.2)) cs∧SJ G w lo ⟨X,H,r.aa⟩ (bH ⟨l',s.Heap,s.aa⟩ i (h',p.2)) cs:=by
 have key:∀ g,((∃ u∈cs,aI u.ao.A u.ao.c=some g)∨G g)->g<m:=fun g e=>by
  rcases e with ⟨u,hu,e⟩|e
  ·exact hm u hu g e
  ·exact (Yg g e).1
 refine ⟨⟨hX.low dz,hH.low dz,h.row,h.each,h.pair⟩,⟨m,w.heap.size,dz,hH.vd,fun g e=>⟨.inl (key g e),fun e2 => ?_⟩⟩,fun u hu g e=>(Yg g e).2 u hu⟩;have:=key g e
 have:=hX.ba g e2
 omega
theorem sk.Cb {c':Nat} (h:SX w lo r (bH s i p) cs) (hi:i<cs.length) (nO:i<s.aa.length) (hO:Own w' lo 111 3 bf A' n' c' l') (hg:w.grownBy w' (aI cs[i].ab.A cs[i].ab.c)) (kg:∀ k,aI A' c'=some k->aI cs[i].ab.A cs[i].ab.c=some k∨w.heap.size<=k) :
 sk w' lo r (bH s i (p.1,⟨p.2.Names,p.2.aA,p.2.bK,p.2.Order,l',p.2.ao⟩)) cs (cs.set i ⟨cs[i].Names,cs[i].aA,cs[i].bK,cs[i].Order,⟨A',n',c'⟩,cs[i].ao⟩):=by
 have hc:=h.get hi nO;have hG:=hc.aD.gr hg;refine ⟨h.words.aN hG rfl,h.heap.aN hG rfl,h.row.aN hG rfl,?_,?_⟩
 ·have:=fY.setAt (R':=oz w' lo) (i:=i) (x:=⟨cs[i].Names,cs[i].aA,cs[i].bK,cs[i].Order,⟨A',n',c'⟩,cs[i].ao⟩) (y:=⟨p.2.Names,p.2.aA,p.2.bK,p.2.Order,l',p.2.ao⟩) h.each ⟨hc.size,hc.per,hc.order,hc.names.aN hG rfl,hO,hc.aZ.aN hG rfl⟩ fun j h1 h2 js ho=>⟨ho.size,ho.per,ho.order,ho.names.aN hG rfl,ho.aD.grown hg (pQ (.inl (nZ h.pair hi h1 js).aD)),ho.aZ.aN hG rfl⟩
  simpa [bH] using this
 ·refine EQ h.pair fun j hj js => ?_
  have hp:=nZ h.pair hi hj js;have eQ:=(h.each.get j hj (by rw [<- h.each.len];exact hj)).aD.lt_size
  have ha:apart ⟨A',n',c'⟩ cs[j].ab:=fun k e e2=>by
   rcases kg k e with e3|e3
   ·exact hp.aD k e3 e2
   ·have:=eQ k e2;omega
  exact ⟨⟨hp.names,ha,hp.aZ⟩,⟨jj hp.names,jj ha,jj hp.aZ⟩⟩
theorem sk.Iw (h:SX w lo r s cs) : ∀ u∈cs,∀ g,aI u.ao.A u.ao.c=some g->g<w.heap.size:=fun u hu g e=>by
 obtain ⟨j,hj,rfl⟩:=ac1 hu;exact (h.each.get j hj (by rw [<- h.each.len];exact hj)).aZ.lt_size g e
end
set_option maxHeartbeats 4000000 in
theorem sv (A:Option Addr) (n c lo:Nat) (l:List Slab) (w:World) (hO:Own w lo 111 3 bf A n c l) (i:Nat) (hi:i<=n) (x:Slab) (b:Nat) (hB:aS w b 111 (bf x)) (bL:aI A c≠some b) (hn:(n+1)*24<=140737488355328) (dz:lo<=w.heap.size) :
 iI prog 179 [.slice A n c,.int .i64 (i:Int),.slice (some ⟨b,0,none⟩) 1 1] w fun v w' => ∃ A' c',v = .slice A' (n+1) c'∧Own w' lo 111 3 bf A' (n+1) c' (aM l i x)∧w.grownBy w' (aI A c) ∧ ∀ k,aI A' c'=some k->aI A c=some k∨w.heap.size<=k:=by
 refine dh func179 rfl ntmps179 rfl ?_;have hle:=hO.le;have mv:=hO.len;have hA:=hO.sl.base;have hw:=Ext.refl w;have lf:Sl w 3 bf (some ⟨b,0,none⟩) 1 [x]:=aS.vF hB
 have nF:(bf x).length=3:=rfl
 have oZ:∀ q:List Slab,(q.flatMap bf).length=q.length*3:=fun q=>aV q
 have oY:∀ (q:List Slab) (v:Value),v∈q.flatMap bf->v.oneCell'=true:=fun q v hv=>by
  obtain ⟨u,_,hu⟩:=adm.1 hv;exact im.one (enc:=bf) u v hu
 by_cases cQ:i=n
 ·subst cQ;repeat' (first|refine Wz ?_|(refine SW.st (bc (k:=i) rfl rfl (by omega) (by omega)) rfl ?_))
  all_goals try omega
  refine SW.yg hO lf dz (by omega) rfl rfl rfl (by omega) (by omega) fun A2 c2 w2 wX => ?_
  have jT:Own w2 lo 111 3 bf A2 (i+1) c2 (l++[x])∧w.grownBy w2 (aI A c) ∧ ∀ k,aI A2 c2=some k->aI A c=some k∨w.heap.size<=k:=by
   rcases wX with ⟨rfl,rfl,h1,h2⟩|⟨h1,h2⟩
   ·exact ⟨h1,h2,fun k e => .inl e⟩
   ·exact ⟨h1.low dz,(aF (Ext.refl w) h2 (ac3 _) (fun k e=>by cases e)).gr _,fun k e => .inr (h1.ba k e)⟩
  obtain ⟨bh,hg,kg⟩:=jT;refine Wz ?_;refine ae.bj rfl rfl ⟨_,rfl,A2,c2,rfl,?_,hg,kg⟩;have e:aM l i x=l++[x]:=by unfold aM;rw [adf (by omega),aec (by omega)];simp
  rw [e];exact bh
 ·by_cases kn:n+1<=c
  ·obtain ⟨g,rest,rfl,h1,h2,h3,h4,h5,h6⟩:=hO.opened (by omega);have DL:g≠b:=fun e=>bL (by rw [h6,e])
   have es:l.flatMap bf++rest=(l.take i).flatMap bf++((l.drop i).flatMap bf++rest):=by rw [<- ac6,<- adi,ac4]
   have e1:((l.take i).flatMap bf).length=i*3:=by rw [oZ];simp;omega
   have e2:((l.drop i).flatMap bf).length=(n-i)*3:=by rw [oZ];simp [mv]
   have lL:=hO.sl.drop i c (by omega) (by omega);rw [if_neg (by omega)] at lL;rw [es] at h2
   have I5:∀ w',Ext w w'->(Extern.SlicesOverlaps.overlaps #[105,105] #[4] #[.slice (some ⟨b,0,none⟩) 1 1,.slice (if c=i+1 then (some ⟨g,0,none⟩) else (some (⟨g,0,none⟩ : Addr)).map (·.add ((i+1)*3))) (n+1-(i+1)) (c-(i+1))]).run prog w' = .ok (.bool false) w':=fun w' hx=>by
    rw [if_neg (by omega),aeL,cU];have b1:=hB.ext hx;have b2:=h2.ext hx;unfold aS at b1 b2
    exact Lib.run_overlaps_apart w' 105 4 111 (bz.ou (t:=105)) 3 (fun w0=>run_sizeOf (bz.size (t:=105)) w0) ⟨b,0,none⟩ ⟨g,(i+1)*3,none⟩ 1 1 _ _ (fun e=>DL e.symm) 111 111 (bf x).toArray.size ((l.take i).flatMap bf++((l.drop i).flatMap bf++rest)).toArray.size
     (by simp only [World.shape?,b1]) (by simp only [World.shape?,b2]) (by simp [e1,e2];omega) (by simp [World.frozen?,b1]) (by simp [World.frozen?,b1])
   repeat' (first|refine Wz ?_|(refine CW.gj rfl ?_)|(refine SW.st (bc (k:=i) rfl rfl (by omega) (by omega)) rfl ?_)|(refine SW.st (dk (k:=n+1) rfl rfl (by omega)) rfl ?_)|(refine SW.st (bc (k:=i+1) rfl rfl (by omega) (by omega)) rfl ?_)|(refine SW.entry func184 (by kernel_rfl) (by kernel_rfl) (by kernel_rfl) (e:=Extern.SlicesOverlaps.overlaps #[105,105] #[4]) (by kernel_rfl) rfl rfl (I5 _ hw) ?_))
   all_goals try omega
   have oy:((n-i)+1)*3<=((l.drop i).flatMap bf++rest).length:=by rw [adb,e2];omega
   have e4:(l.drop i).flatMap bf++rest=((l.drop i).flatMap bf++rest).take 3++(((l.drop i).flatMap bf++rest).drop 3).take ((n-i)*3)++((l.drop i).flatMap bf++rest).drop (3+(n-i)*3):=by
    rw [ac6,<- ad6,ac4,ac4]
   generalize Gd:((l.drop i).flatMap bf++rest).take 3=D1 at e4
   generalize Ge:(((l.drop i).flatMap bf++rest).drop 3).take ((n-i)*3)=D2 at e4
   generalize Gf:((l.drop i).flatMap bf++rest).drop (3+(n-i)*3)=D3 at e4
   have f1:D1.length=3:=by rw [<- Gd];simp only [List.length_take];omega
   have f2:D2.length=(n-i)*3:=by rw [<- Ge];simp only [List.length_take,List.length_drop];omega
   have f3:D3.length+3=rest.length:=by rw [<- Gf];simp only [List.length_drop,List.length_append,e2];omega
   rw [e4] at h2;refine CW.any 8 mixed (dg (by kernel_rfl)) rfl fun w1 ai aJ => ?_
   obtain ⟨hw,hO,hB,h2⟩:=dG ai hw hO hB h2;clear ai;refine Wa ?_;refine Wu 4 aJ rfl (bc (k:=i+1) rfl rfl (by omega) (by omega)) ?_;refine Wa ?_;refine Wu 7 aJ rfl (bc (k:=i) rfl rfl (by omega) (by omega)) ?_;refine SA.done (by kernel_rfl) ?_;refine SW.copy (k:=n-i) ((i+1)*3) ((l.drop i).flatMap bf) h2 rfl rfl rfl (by omega) e2 (by simp only [List.length_append,e1,e2,f1,f2];omega) (fun h0=>⟨by rw [if_neg (by omega)];simp [cU],(⟨g,0,none⟩ : Addr).add (i*3),by rw [if_neg (by omega)];rfl,fun j v hv=>dr (by omega) (lL.ext hw) j v hv⟩) (oY _) fun w3 nc qo => ?_
   have g1:=eU ((l.take i).flatMap bf++D1) D2 D3 ((l.drop i).flatMap bf) (by rw [e2,f2]) (o:=(i+1)*3) (by rw [adb,e1,f1];omega);have g0:(l.take i).flatMap bf++(D1++D2++D3)=(l.take i).flatMap bf++D1++D2++D3:=by simp only [List.append_assoc]
   rw [g0,g1] at nc;have Gc:=bQ (hw.gr (aI (some ⟨g,0,none⟩) c)) qo (.inl h6.symm);have Qw:=hB.grown qo (by simpa using fun e=>DL e.symm);repeat' (first|refine Wz ?_|(refine SW.st (bc (k:=i) rfl rfl (by omega) (by omega)) rfl ?_))
   refine SW.copy (k:=1) (i*3) (bf x) nc rfl rfl rfl (by omega) nF (by simp only [List.length_append,e1,e2,f1,nF];omega) (fun h0=>⟨by rw [if_neg (by omega)];simp [cU],⟨b,0,none⟩,rfl,fun j v hv=>Qw.cell hv⟩) (im.one (enc:=bf) x) fun w4 nP xv => ?_
   have g2:=eU ((l.take i).flatMap bf) D1 ((l.drop i).flatMap bf++D3) (bf x) (by rw [nF,f1]) (o:=i*3) e1.symm;have g3:(l.take i).flatMap bf++D1++(l.drop i).flatMap bf++D3=(l.take i).flatMap bf++D1++((l.drop i).flatMap bf++D3):=by simp only [List.append_assoc]
   have g4:(l.take i).flatMap bf++bf x++((l.drop i).flatMap bf++D3)=(aM l i x).flatMap bf++D3:=by unfold aM;simp only [List.flatMap_append,List.flatMap_cons,List.flatMap_nil,List.append_nil,List.append_assoc]
   rw [g3,g2,g4] at nP;have D8:=Own.closed (n:=n+1) (c:=c) (l:=aM l i x) (by unfold aM;simp;omega) nP (by omega) kn (by omega) h5 h1;have dY:=bQ Gc xv (.inl h6.symm);refine Wz ?_;exact ae.bj rfl rfl ⟨_,rfl,_,_,rfl,D8,dY,fun k e => .inl e⟩
  ·have R3:c=n:=by omega
   have lL:=hO.sl.drop i c (by omega) (by omega);have AU:=hO.sl.pre (i:=i) (by omega);repeat' (first|refine Wz ?_|(refine SW.st (bc (k:=i) rfl rfl (by omega) (by omega)) rfl ?_)|(refine SW.st (dk (k:=i) rfl rfl (by omega)) rfl ?_))
   all_goals try omega
   refine SW.xX (k:=n+1-i) AU Tryz.underlying3 rfl rfl (by omega) rfl (by omega) (by omega) (by omega) (by omega) fun g rest c2 w2 bt dA h2 h3 h4 h5 => ?_
   have e1:((l.take i).flatMap bf).length=i*3:=by rw [oZ];simp;omega
   have e2:((l.drop i).flatMap bf).length=(n-i)*3:=by rw [oZ];simp [mv]
   have oy:((n-i)+1)*3<=rest.length:=by omega
   have e4:rest=rest.take 3++(rest.drop 3).take ((n-i)*3)++rest.drop (3+(n-i)*3):=by
    rw [ac6,<- ad6,ac4,ac4]
   generalize Gd:rest.take 3=D1 at e4
   generalize Ge:(rest.drop 3).take ((n-i)*3)=D2 at e4
   generalize Gf:rest.drop (3+(n-i)*3)=D3 at e4
   have f1:D1.length=3:=by rw [<- Gd];simp only [List.length_take];omega
   have f2:D2.length=(n-i)*3:=by rw [<- Ge];simp only [List.length_take,List.length_drop];omega
   have f3:D3.length+((n-i)+1)*3=rest.length:=by rw [<- Gf];simp only [List.length_drop];omega
   rw [e4] at h2;have gg:aI A c≠some g:=fun e=>by have:=hO.lt_size _ e;omega
   have DL:b≠g:=by have:=hB.lt;omega
   obtain ⟨lL,hB,hw⟩:=cj bt lL hB hw;repeat' (first|refine Wz ?_|(refine SW.st (bc (k:=i) rfl rfl (by omega) (by omega)) rfl ?_))
   refine SW.copy (k:=1) (i*3) (bf x) h2 rfl rfl rfl (by omega) nF (by simp only [List.length_append,e1,f1,f2,nF];omega) (fun h0=>⟨by rw [if_neg (by omega)];simp [cU],⟨b,0,none⟩,rfl,fun j v hv=>hB.cell hv⟩) (im.one (enc:=bf) x) fun w3 nc qo => ?_
   have g2:=eU ((l.take i).flatMap bf) D1 (D2++D3) (bf x) (by rw [nF,f1]) (o:=i*3) e1.symm;have g3:(l.take i).flatMap bf++(D1++D2++D3)=(l.take i).flatMap bf++D1++(D2++D3):=by simp only [List.append_assoc]
   rw [g3,g2] at nc;have Lm:Ext w w3:=hw.own dA qo
   have lh:Sl w3 3 bf (if c=i then A else A.map (·.add (i*3))) (n-i) (l.drop i):=(hO.sl.drop i c (by omega) (by omega)).ext Lm
   have hw:=Lm;refine Wz ?_;refine CW.any 8 mixed (dg (by kernel_rfl)) rfl fun w1 ai aJ => ?_
   obtain ⟨hw,nc,lh⟩:=cj ai hw nc lh;clear ai;refine Wa ?_;refine Wu 4 aJ rfl (bc (k:=i+1) rfl rfl (by omega) (by omega)) ?_;refine Wa ?_;refine Wu 7 aJ rfl (bc (k:=i) rfl rfl (by omega) (by omega)) ?_;refine SA.done (by kernel_rfl) ?_;refine SW.copy (k:=n-i) ((i+1)*3) ((l.drop i).flatMap bf) nc rfl rfl rfl (by omega) e2 (by simp only [List.length_append,e1,e2,f2,nF];omega) (fun h0=>⟨by rw [if_neg (by omega)];simp [cU],(if c=i then A else A.map (·.add (i*3))).getD default,?_,fun j v hv=>dr (by omega) lh j v hv⟩) (oY _) fun w4 nP xv => ?_
   ·obtain ⟨a,ha⟩:=adw.1 (lh.base h0);rw [ha];rfl
   ·have g4:=eU ((l.take i).flatMap bf++bf x) D2 D3 ((l.drop i).flatMap bf) (by rw [e2,f2]) (o:=(i+1)*3) (by rw [adb,e1,nF];omega);have g5:(l.take i).flatMap bf++bf x++(D2++D3)=(l.take i).flatMap bf++bf x++D2++D3:=by simp only [List.append_assoc]
    have g6:(l.take i).flatMap bf++bf x++(l.drop i).flatMap bf++D3=(aM l i x).flatMap bf++D3:=by unfold aM;simp only [List.flatMap_append,List.flatMap_cons,List.flatMap_nil,List.append_nil,List.append_assoc]
    rw [g5,g4,g6] at nP;have D8:=Own.closed (n:=n+1) (c:=c2) (lo:=lo) (l:=aM l i x) (by unfold aM;simp;omega) nP (by omega) (by omega) (by omega) h5 (by omega);have ko:Ext w w4:=hw.own dA xv
    have e9:i+(n+1-i)=n+1:=by omega
    refine Wz ?_;rw [e9]
    exact ae.bj rfl rfl ⟨_,rfl,_,_,rfl,D8,ko.gr _,fun k e => .inr (by
     have:k=g:=by
      unfold aI at e;split at e
      ·cases e
      ·simpa using e.symm
     omega)⟩
variable {α β:Type} {Jz:List du} {L:List aR} {args:List Value} {ys:List β} {lo:Nat} {P:Program} {li:ga} {R':Value->World->Prop} {w' w0 w1 wb:World} {z:ak}
theorem iI.mono {f:FuncId} {R:Value->World->Prop} (h:iI P f args w R) (hr:∀ v w',R v w'->R' v w') : iI P f args w R' :=
 ⟨Calls.mono h.out fun e w' ⟨v,he,hv⟩=>⟨v,he,hr v w' hv⟩⟩
structure HK where
 b:Nat
 g:Nat
 c:Nat
 m:ga
 lv:ga
 cp:Int
 M:List Int
 V:List Block
structure HP where
 u0:dZ
 u1:dZ
 li:ga
 ls:List du
abbrev HK.h (k:HK) (p:HP) : ju:=⟨⟨some ⟨k.g,0,none⟩,2,k.c⟩,k.m,k.cp,p.li,k.lv⟩
structure HS (wb w:World) (k:HK) (p:HP) (s:ak×ak) (L:List aR) : Prop where
 eG:aS w k.b 41 (dC (k.h p))
 zs:gu w wb.heap.size k.g k.c p.u0 p.u1 s
 ef:Own w wb.heap.size 3 1 bw k.m.A k.m.n k.m.c k.M
 live:Own w wb.heap.size 147 3 aO k.lv.A k.lv.n k.lv.c k.V
 ls:gd w wb.heap.size p.li p.ls L
 sm:uV k.m [p.u0,p.u1] p.ls
 sf:xA k.lv [p.u0,p.u1]
 Mx:wb.heap.size<=k.b
 base:Ext wb w
def ky (k:HK) (p:HP) (i:Nat) : Prop:=i=k.b∨i=k.g∨ob p.li=some i ∨ ∃ y∈p.ls,ob y.ax=some i
section
variable {w w' w0 w1 w2 wb:World} {i t:Nat} {k:HK} {p p' p0 p1 p2:HP} {s:ak×ak} {L:List aR} {cs:List Value} {row:Option Nat}
theorem HS.ext (h:HS wb w k p s L) (hx:Ext w w') : HS wb w' k p s L:=⟨h.eG.ext hx,h.zs.ext hx,h.ef.ext hx,h.live.ext hx,h.ls.ext hx,h.sm,h.sf,h.Mx,h.base.trans hx⟩
theorem HS.GF (h:HS wb w k p s L) {y:du} (hy:y∈p.ls) : ∃ l∈L,rr w wb.heap.size y l:=by
 obtain ⟨j,hj,rfl⟩:=ac1 hy;have o6:j<L.length:=by rw [<- h.ls.each.len];exact hj
 exact ⟨_,ac0 o6,h.ls.each.get j hj o6⟩
theorem HS.lt (h:HS wb w k p s L) (hi:ky k p i) : i<w.heap.size:=by
 rcases hi with rfl|rfl|hi|⟨y,hy,hi⟩
 ·exact h.eG.lt
 ·exact h.zs.row.lt_size _ h.zs.own
 ·exact h.ls.row.lt_size i hi
 ·obtain ⟨l,_,hl⟩:=h.GF hy;exact hl.bC.lt_size i hi
theorem HS.not (h:HS wb w k p s L) (hi:w.heap.size<=i) : ¬ ky k p i:=fun hm=>by have:=h.lt hm;omega
theorem HS.low (h:HS wb w k p s L) : wb.heap.size<=w.heap.size:=aef (Nat.lt_of_le_of_lt h.Mx h.eG.lt)
structure po (w0:World) (k:HK) (p0:HP) (w:World) (p:HP) : Prop where
 os:w.os=w0.os
 tape:w.tape=w0.tape
 output:w.output=w0.output
 size:w0.heap.size<=w.heap.size
 block:∀ i,i<w0.heap.size -> ¬ ky k p0 i->w.heap[i]?=w0.heap[i]?
 J1:∀ i,ky k p i->ky k p0 i∨w0.heap.size<=i
theorem po.refl (w:World) (k:HK) (p:HP) : po w k p w p:=⟨rfl,rfl,rfl,ac3 _,fun _ _ _=>rfl,fun _ h => .inl h⟩
theorem po.step (h:po w0 k p0 w p) (hg:w.grownBy w' row) (hr:∀ i,row=some i->ky k p i∨w0.heap.size<=i) (hp:∀ i,ky k p' i->ky k p i∨w0.heap.size<=i) : po w0 k p0 w' p' :=
 ⟨hg.os.trans h.os,hg.tape.trans h.tape,hg.output.trans h.output,ac2 h.size hg.size,fun i hi hm=>by
  rw [hg.block i (adX hi h.size) (fun e=>by
   rcases hr i e.symm with e|e
   ·rcases h.J1 i e with e|e
    ·exact hm e
    ·omega
   ·omega)]
  exact h.block i hi hm,fun i hi=>by
  rcases hp i hi with e|e
  ·exact h.J1 i e
  ·exact .inr e⟩
theorem po.ext (h:po w0 k p0 w p) (hx:Ext w w') : po w0 k p0 w' p:=h.step (hx.gr none) (fun i e=>by cases e) (fun i e => .inl e)
theorem po.trans (h:po w0 k p0 w1 p1) (h':po w1 k p1 w2 p2) : po w0 k p0 w2 p2 :=
 ⟨h'.os.trans h.os,h'.tape.trans h.tape,h'.output.trans h.output,ac2 h.size h'.size,fun i hi hm=>by
  rw [h'.block i (adX hi h.size) (fun e=>by rcases h.J1 i e with e|e;exact hm e;omega)];exact h.block i hi hm,fun i hi=>by
  rcases h'.J1 i hi with e|e
  ·exact h.J1 i e
  ·exact .inr (ac2 h.size e)⟩
theorem po.eG (h:po w0 k p0 w p) (hB:aS w0 i t cs) (hn : ¬ ky k p0 i) : aS w i t cs:=(h.block i hB.lt hn).trans hB
theorem po.not (h:po w0 k p0 w p) (hn : ¬ ky k p0 i) (hi:i<w0.heap.size) : ¬ ky k p i:=fun e=>by rcases h.J1 i e with e|e;exact hn e;omega
end
def zT (p:HP) (zi:Nat) (u:dZ) : HP:=if zi=0 then ⟨u,p.u1,p.li,p.ls⟩ else ⟨p.u0,u,p.li,p.ls⟩
theorem s9 {p:HP} {zi:Nat} {u:dZ}:(zT p zi u).li=p.li∧(zT p zi u).ls=p.ls:=by unfold zT;split<;>exact ⟨rfl,rfl⟩
theorem wv {k:HK} {p:HP} {zi:Nat} {u:dZ}:ky k (zT p zi u) i↔ky k p i:=by unfold ky;rw [s9.1,s9.2]
theorem HS.Rc {k:HK} {p:HP} {s:ak×ak} {zi:Nat} {u:dZ} (h0:HS wb w0 k p s L) (h:HS wb w k p s L) (hz:zi<2)
 (hO:Own w' wb.heap.size 117 4 dp (some ⟨k.g,0,none⟩) 2 k.c ([p.u0,p.u1].set zi u)) (hg:w.grownBy w' (some k.g)) (hn:iA w w0.heap.size u z) : HS wb w' k (zT p zi u) (ss s (zi:Int) z) L:=by
 have hG:=h.zs.gr hg;have hx:Ext wb w':=h.base.own h.zs.Ij hg
 have kb:=(hn.low h0.low).aN hG rfl;have hf:∀ g,aI u.Types.A u.Types.c=some g->w0.heap.size<=g:=fun g e=>hn.types.ba g e
 have Z8:∀ g,aI u.aj.A u.aj.c=some g->w0.heap.size<=g:=fun g e=>hn.free.ba g e
 have DP:∀ (j:Nat) (hj:j<p.ls.length) (g:Nat),aI p.ls[j].ax.A p.ls[j].ax.c=some g->g<w0.heap.size:=fun j hj g e=>h0.lt (.inr (.inr (.inr ⟨_,ac0 hj,e⟩)))
 have rH:∀ us:List dZ,(∀ v∈us,v∈[p.u0,p.u1]∨v=u)->uV k.m us p.ls:=fun us hu=>⟨h.sm.ef,fun j hj g e v hv=>by
  rcases hu v hv with h1|rfl
  ·exact h.sm.types j hj g e v h1
  ·intro e2;have:=hf g e2;have:=DP j hj g e;omega,h.sm.sep⟩
 have Sj:∀ us:List dZ,(∀ v∈us,v∈[p.u0,p.u1]∨v=u)->xA k.lv us:=fun us hu v hv g e=>by
  rcases hu v hv with h1|rfl
  ·exact h.sf v h1 g e
  ·intro e2;have:=Z8 g e;have:=h0.live.lt_size g e2;omega
 unfold zT ss;by_cases sQ:zi=0
 ·subst sQ;simp only [if_true,Int.ofNat_eq_natCast,Int.natCast_zero] at *;exact ⟨h.eG.aN hG rfl,⟨hO,kb,h.zs.z1.aN hG rfl,h.zs.Ij,h.zs.pos⟩,h.ef.aN hG rfl,h.live.aN hG rfl,h.ls.aN hG rfl,rH _ (by simp),Sj _ (by simp),h.Mx,hx⟩
 ·obtain rfl:zi=1:=by omega
  have e1 : ¬ ((1:Nat)=0):=by omega
  have e2 : ¬ (((1:Nat) : Int)=0):=by omega
  simp only [if_neg e1,if_neg e2] at *;exact ⟨h.eG.aN hG rfl,⟨hO,h.zs.z0.aN hG rfl,kb,h.zs.Ij,h.zs.pos⟩,h.ef.aN hG rfl,h.live.aN hG rfl,h.ls.aN hG rfl,rH _ (by simp),Sj _ (by simp),h.Mx,hx⟩
theorem gd.G6 {ls:List du} (h:gd w lo li ls L) (hg:w.grownBy w' (ob li)) : rF w w' 159:=h.row.gr hg
theorem Ix {m:ga} {us:List dZ} {ls:List du} (h:uV m us ls) (hs:Gt Jz) (ho:∀ y∈Jz,∃ x∈ls,ob y.ax=ob x.ax) : uV m us Jz:=by
 refine ⟨fun j hj g e => ?_,fun j hj g e v hv => ?_,hs⟩
 ·obtain ⟨x,hx,e2⟩:=ho _ (ac0 hj);obtain ⟨i,hi,rfl⟩:=ac1 hx;exact h.ef i hi g (e2.symm.trans e)
 ·obtain ⟨x,hx,e2⟩:=ho _ (ac0 hj);obtain ⟨i,hi,rfl⟩:=ac1 hx;exact h.types i hi g (e2.symm.trans e) v hv
theorem HS.setRow {k:HK} {p:HP} {s:ak×ak} {y:du} {l:aR} (h:HS wb w k p s L) (hi:i<p.ls.length) (hO:Own w' wb.heap.size 159 4 ck p.li.A p.li.n p.li.c (p.ls.set i y)) (hg:w.grownBy w' (ob p.li)) (hy:rr w wb.heap.size y l)
 (ho:ob y.ax=ob p.ls[i].ax) : HS wb w' k ⟨p.u0,p.u1,p.li,p.ls.set i y⟩ s (L.set i l):=by
 have hG:=h.ls.G6 hg;have hx:Ext wb w':=aF h.base hg (ac3 _) h.ls.row.ba
 have hm:∀ z∈p.ls.set i y,∃ x∈p.ls,ob z.ax=ob x.ax:=fun z hz=>by
  rcases adg hz with h1|rfl
  ·exact ⟨z,h1,rfl⟩
  ·exact ⟨_,ac0 hi,ho⟩
 have eQ:∀ x∈p.ls,∀ g,ob x.ax=some g->g<w.heap.size:=fun x hx g e=>h.lt (.inr (.inr (.inr ⟨x,hx,e⟩)))
 refine ⟨h.eG.aN hG rfl,h.zs.aN hG rfl,h.ef.aN hG rfl,h.live.aN hG rfl,⟨hO,?_⟩,Ix h.sm (Bc.tr (li:=p.li) h.sm.sep eQ hi (fun g e => .inl (ho ▸ e))).sep hm,h.sf,h.Mx,hx⟩;exact fY.setAt (R:=rr w wb.heap.size) h.ls.each (hy.aN hG rfl) (fun j h1 h2 _ hh=>hh.aN hG rfl)
theorem fY.erase {R : α -> β -> Prop} {xs:List α} (h:fY R xs ys) (i:Nat) : fY R (xs.eraseIdx i) (ys.eraseIdx i):=by
 refine ⟨by rw [aeP,aeP,h.len],fun j h1 h2 => ?_⟩;have hl:=h.len;rw [aeP] at h1 h2;rw [aeI,aeI];split
 ·exact h.get j _ _
 ·exact h.get (j+1) _ _
theorem HS.Rd {k:HK} {p:HP} {s:ak×ak} (h:HS wb w k p s L) (hO:Own w1 wb.heap.size 159 4 ck p.li.A (p.li.n-1) p.li.c (p.ls.eraseIdx i)) (hg:w.grownBy w1 (ob p.li))
 (hb:aS w' k.b 41 (dC (k.h ⟨p.u0,p.u1,⟨p.li.A,p.li.n-1,p.li.c⟩,p.ls.eraseIdx i⟩))) (dA:w1.grownBy w' (some k.b)) : HS wb w' k ⟨p.u0,p.u1,⟨p.li.A,p.li.n-1,p.li.c⟩,p.ls.eraseIdx i⟩ s (L.eraseIdx i):=by
 have hG:=h.ls.G6 hg;have dY:=(h.eG.aN hG rfl).gr dA;have hx:Ext wb w':=(aF h.base hg (ac3 _) h.ls.row.ba).own h.Mx dA
 refine ⟨hb,(h.zs.aN hG rfl).aN dY rfl,(h.ef.aN hG rfl).aN dY rfl,(h.live.aN hG rfl).aN dY rfl,⟨hO.aN dY rfl,(h.ls.each.erase i).mono fun _ _ hh=>(hh.aN hG rfl).aN dY rfl⟩,Ix h.sm ?_ (fun y hy=>⟨y,adJ hy,rfl⟩),h.sf,h.Mx,hx⟩;exact u7.2 ((u7.1 h.sm.sep).sublist (adU _ _))
set_option maxHeartbeats 1000000 in
theorem J2 (k:HK) (p:HP) (s:ak×ak) (L:List aR) (x:aR) (y:du) (a:Int) (wb w0:World) (H:HS wb w0 k p s L) (hk:v7 y x) (Sc:y.ax = .nil) (UH:x.ax=[])
 (hs:Er L) (hn:(p.li.n+1)*48<=140737488355328) (LS:∀ l∈L,l.ax.length<=1000) :
 iI prog 98 [.pointer (some ⟨k.b,0,none⟩),.agg (ck y).toArray,.int .i64 a] w0 fun v w' => ∃ p',HS wb w' k p' s (iU L ⟨x.fV,x.ak,x.Ty,dc L x++[a]⟩)∧po w0 k p w' p':=by
 obtain ⟨F,hF⟩ : ∃ F:World->Prop,F=fun v=>gu v wb.heap.size k.g k.c p.u0 p.u1 s∧Own v wb.heap.size 3 1 bw k.m.A k.m.n k.m.c k.M∧Own v wb.heap.size 147 3 aO k.lv.A k.lv.n k.lv.c k.V∧po w0 k p v p:=⟨_,rfl⟩
 have hZ:=H.zs;have hM:=H.ef;have hV:=H.live;have hL:=H.ls;have hb:=H.eG
 have sh:Oq F w0:=by
  rw [hF];exact ⟨⟨hZ,hM,hV,po.refl _ _ _⟩,fun v v' hx hP=>⟨hP.1.ext hx,hP.2.1.ext hx,hP.2.2.1.ext hx,hP.2.2.2.ext hx⟩⟩
 have NI:∀ (v v':World) (row:Option Nat),v.grownBy v' row->(∀ i,row=some i->i=k.b∨aI p.li.A p.li.c=some i∨w0.heap.size<=i)->F v->F v':=fun v v' row hg yi hP=>by
  rw [hF] at hP ⊢;refine ⟨hP.1.parts hg ((hZ.row.ns hL hb rfl rfl).ne yi) ((hZ.z0.free.ns hL hb rfl rfl).ne yi) ((hZ.z0.types.ns hL hb rfl rfl).ne yi) ((hZ.z1.free.ns hL hb rfl rfl).ne yi) ((hZ.z1.types.ns hL hb rfl rfl).ne yi),hP.2.1.apart hg ((hM.ns hL hb rfl rfl).ne yi),hP.2.2.1.apart hg ((hV.ns hL hb rfl rfl).ne yi),hP.2.2.2.step hg (fun i e => ?_) (fun i e => .inl e)⟩;rcases yi i e with h|h|h
  ·exact .inl (.inl h)
  ·exact .inl (.inr (.inr (.inl h)))
  ·exact .inr h
 have Sd:∀ (i:Nat) (hi:i<p.ls.length) (v v':World),v.grownBy v' (aI p.ls[i].ax.A p.ls[i].ax.c)->F v->F v':=fun i hi v v' hg hP=>by
  rw [hF] at hP ⊢;have L6:=(hL.each.get i hi (by rw [<- hL.each.len];exact hi)).bC;exact ⟨hP.1.parts hg (hZ.row.oQ L6 rfl) (hZ.z0.free.oQ L6 rfl) (fun j e e2=>H.sm.types i hi j e2 p.u0 (by simp) e) (hZ.z1.free.oQ L6 rfl) (fun j e e2=>H.sm.types i hi j e2 p.u1 (by simp) e),hP.2.1.apart hg (fun j e e2=>H.sm.ef i hi j e2 e),hP.2.2.1.apart hg (hV.oQ L6 rfl),hP.2.2.2.step hg (fun j e => .inl (.inr (.inr (.inr ⟨_,ac0 hi,e⟩)))) (fun i e => .inl e)⟩
 refine (EI ⟨some ⟨k.g,0,none⟩,2,k.c⟩ k.m k.cp p.li k.lv L p.ls x y a F k.b wb w0 H.base H.Mx hb hL hk Sc UH H.sm.sep hs hn LS sh NI Sd).mono fun v w' hv => ?_
 obtain ⟨hx,AN,Oo,Jz,iq,UL,hP⟩:=hv;rw [hF] at AN;obtain ⟨FV,FX,Dj,hK⟩:=AN
 have hold:∀ j (hj:j<Jz.length) (g:Nat),aI Jz[j].ax.A Jz[j].ax.c=some g->(∃ i,∃ hi:i<p.ls.length,aI p.ls[i].ax.A p.ls[i].ax.c=some g)∨w0.heap.size<=g:=fun j hj g e=>by
  rcases hP.of _ (ac0 hj) g e with ⟨z,hz,e2⟩|h
  ·obtain ⟨i,hi,rfl⟩:=ac1 hz;exact .inl ⟨i,hi,e2⟩
  ·exact .inr h
 refine ⟨⟨p.u0,p.u1,Oo,Jz⟩,⟨iq,FV,FX,Dj,UL,⟨fun j hj g e => ?_,fun j hj g e v hv => ?_,hP.sep⟩,H.sf,H.Mx,hx⟩,hK.step (World.grownBy.refl _ none) (fun i e=>by cases e) (fun i hi => ?_)⟩
 ·rcases hold j hj g e with ⟨i,hi,e2⟩|h
  ·exact H.sm.ef i hi g e2
  ·intro e2;have:=hM.lt_size g e2;omega
 ·rcases hold j hj g e with ⟨i,hi,e2⟩|h
  ·exact H.sm.types i hi g e2 v hv
  ·intro e2;simp only [List.mem_cons,List.not_mem_nil,or_false] at hv;rcases hv with rfl|rfl
   ·have:=hZ.z0.types.lt_size g e2;omega
   ·have:=hZ.z1.types.lt_size g e2;omega
 ·rcases hi with h|h|h|⟨z,hz,h⟩
  ·exact .inl (.inl h)
  ·exact .inl (.inr (.inl h))
  ·exact (hP.row i h).imp (fun e => .inr (.inr (.inl e))) id
  ·exact (hP.of z hz i h).imp (fun e => .inr (.inr (.inr e))) id
variable {y:Operand} {t ty:TypeId}
section
variable {P:Program} {L:Env} {w:World} {d:Option Nat} {T:TypeId} {pos:String} {af:Array Edge} {g:Option (Nat×Bool)}
theorem Iy {x:Operand} {i j:Int} (a b:Nat) (hx:cK L x=some (.int .i64 i)) (hy:cK L y=some (.int .i64 j)) (ha:i=(a:Int)) (hb:j=(b:Int)) (mm:a<9223372036854775808) (iq:b<9223372036854775808) :
 St P ⟨d,.binOp .and t x y ty,T,pos,af,g⟩ L w (.int .i64 ((a &&& b:Nat) : Int)) :=
 ⟨fun n A hA w' _=>by
  have e1:=hA.eval hx;have e2:=hA.eval hy;subst ha hb;generalize A.eval = ρ at *
  have eQ:a &&& b<2 ^ 63:=Nat.and_lt_two_pow _ (by omega)
  have e:(BitVec.ofInt 64 (a:Int) &&& BitVec.ofInt 64 (b:Int)).toNat=a &&& b:=by
   rw [BitVec.toNat_and,BitVec.ofInt_natCast,BitVec.ofInt_natCast,BitVec.toNat_ofNat,BitVec.toNat_ofNat,aeE (by omega),aeE (by omega)]
  have aW:(Op.intBits .and .i64 (a:Int) (b:Int)).run P w' = .ok (.int .i64 ((a &&& b:Nat) : Int)) w':=by
   have:Op.intBits .and .i64 (a:Int) (b:Int)=(pure (.int .i64 (IntKind.i64.wrap ((BitVec.ofInt 64 (a:Int) &&& BitVec.ofInt 64 (b:Int)).toNat:Nat))) : Sem Value):=rfl
   rw [this,e,jf (by omega) (by omega)]
   rfl
  have au:(binOp .and t (.int .i64 (a:Int)) (.int .i64 (b:Int))).run P w' = .ok (.int .i64 ((a &&& b:Nat) : Int)) w':=by
   have:binOp .and t (.int .i64 (a:Int)) (.int .i64 (b:Int))=Op.intBits .and .i64 (a:Int) (b:Int):=by simp [binOp]
   rw [this,aW]
  simp [execOp,e1,e2,eqGuard,au]⟩
end
variable {af:Array Edge} {f:Int} {g:Option (Nat×Bool)} {T:TypeId}
def Cc (f j:Int) : Int:=((f.toNat &&& j.toNat:Nat) : Int)
theorem J3:∀ f:Nat,f<16->(f &&& 1=f % 2)∧(f &&& 2=f / 2 % 2*2)∧(f &&& 4=f / 4 % 2*4)∧(f &&& 8=f / 8*8):=by decide
theorem wx (h : 0<=f∧f<=15) : Cc f 1=f % 2∧Cc f 2=f / 2 % 2*2∧Cc f 4=f / 4 % 2*4∧Cc f 8=f / 8*8:=by
 obtain ⟨n,rfl⟩ : ∃ n:Nat,f=n:=⟨f.toNat,by omega⟩;obtain ⟨h1,h2,h3,h4⟩:=J3 n (by omega);unfold Cc;simp only [Int.toNat_natCast,show (1:Int).toNat=1 from rfl,show (2:Int).toNat=2 from rfl,show (4:Int).toNat=4 from rfl,show (8:Int).toNat=8 from rfl,h1,h2,h3,h4];omega
theorem ym {L:Env} {d:Option Nat} {pos:String} {x:Operand} {j:Int} (hx:cK L x=some (.int .i64 f)) (hy:cK L y=some (.int .i64 j)) (hf : 0<=f∧f<=15) (hj : 0<=j∧j<=15) :
 St P ⟨d,.binOp .and t x y ty,T,pos,af,g⟩ L w (.int .i64 (Cc f j)):=Iy f.toNat j.toNat hx hy (by omega) (by omega) (by omega) (by omega)
theorem G7 (f:Int) (w:World) : bI prog 62 [.int .i64 f] w fun v _=>v = .tuple #[.int .i64 (if 0<=jA f then jA f else 0),.bool (decide (0<=jA f))]:=by
 refine aE func62 rfl ntmps62 rfl ?_;have hw:=Ext.refl w;by_cases hf : 0<=f∧f<=15
 ·obtain ⟨q1,q2,q4,q8⟩:=wx hf;obtain ⟨t,ht⟩ : ∃ t,jA f=t:=⟨_,rfl⟩
  have hc:(f / 2 % 4=0∧t=0)∨(f / 2 % 4=1∧t=1)∨(f / 2 % 4=2∧t=2)∨(f / 2 % 4=3∧t = -1):=by
   unfold jA at ht;rw [if_pos hf] at ht;split at ht
   ·omega
   ·split at ht
    ·omega
    ·split at ht
     ·omega
     ·omega
  rw [ht];rcases hc with ⟨h1,rfl⟩|⟨h1,rfl⟩|⟨h1,rfl⟩|⟨h1,rfl⟩
  all_goals
   repeat' (first|refine Wz ?_|(refine SW.st (ym rfl rfl (by omega) (by decide)) rfl ?_))
   all_goals try omega
   all_goals exact ae.dj rfl rfl rfl ⟨_,rfl,hw,rfl⟩
 ·have e:jA f = -1:=by unfold jA;rw [if_neg hf]
  rw [e];repeat' (first|refine Wz ?_|refine SW.fZ rfl rfl rfl (fun h => ?_) (fun h => ?_))
  all_goals try omega
  all_goals exact ae.dj rfl rfl rfl ⟨_,rfl,hw,rfl⟩
structure Cd (M:List Int) (m0 m1:Int) : Prop where
 eq:M=[m0,m1]
 b0 : 0<=m0∧m0<=256
 b1 : 0<=m1∧m1<=256
theorem Re.My (r:ju) (u0 u1:dZ) (s:ak×ak) (M:List Int) (m0 m1:Int) (zi:Nat) (f:Int) (w:World) (hm:Sl w 1 bw r.dK.A r.dK.n M) (hz:Sl w 4 dp r.bp.A r.bp.n [u0,u1]) (hM:Cd M m0 m1) (h1:u1.aU=s.2.aU) (h2:u1.To=s.2.To) (hF : 0<=s.2.aU∧s.2.aU<=256) (hT:s.2.aU<=s.2.To∧s.2.To<=256) (sQ:zi<2) (hf : 0<=f∧f<=15) :
 bI prog 150 [.agg (dC r).toArray,.int .i64 (zi:Int),.int .i64 f] w fun v _=>v = .int .i64 (BR m0 m1 s zi f):=by
 refine aE func150 rfl ntmps150 rfl ?_;refine CW.seq (CW.region (SW.box rfl rfl fun b1 w1 hw lc aW => ?_));obtain ⟨rfl,C5,tm⟩:=hM;obtain ⟨q1,q2,q4,q8⟩:=wx hf;have hA:=hz.base;have hB:=hm.base;have hn : 2=r.bp.n:=hz.len
 have XY : 2=r.dK.n:=hm.len
 have k0 : 1<r.bp.n:=by omega
 have k1:zi<r.dK.n:=by omega
 have f0:=hz.jL k0 (j:=0) (u := .int .i64 u1.aU) rfl;have f1:=hz.jL k0 (j:=1) (u := .int .i64 u1.To) rfl;obtain ⟨mz,QY⟩ : ∃ mz,(if (zi:Int)=0 then m0 else m1)=mz:=⟨_,rfl⟩
 have Z9 : [m0,m1][zi]'(by simpa using sQ)=mz:=by
  rcases adA zi 1 with h|h
  ·obtain rfl:zi=0:=by omega
   rw [<- QY];rfl
  ·obtain rfl:zi=1:=by omega
   rw [<- QY];rfl
 have fm:=hm.one k1 (congrArg bw Z9);have hmb : 0<=mz∧mz<=256:=by rw [<- QY];split<;>omega
 obtain ⟨v,hv⟩ : ∃ v,BR m0 m1 s zi f=v:=⟨_,rfl⟩;have tp:=hv;unfold BR at tp;rw [QY] at tp;rw [hv];have htm:f.tmod 2=f % 2:=adE (by omega)
 have hc:(8<=f∨f<8)∧((zi=0∧f % 2=0)∨(zi=0∧f % 2=1)∨zi=1):=by omega
 obtain ⟨By,PR⟩:=hc;rcases By with By|By<;>rcases PR with ⟨PR,Yh⟩|⟨PR,Yh⟩|PR
 all_goals
  repeat' (first|refine Wz ?_|((apply CW.bF mixed;(· kernel_rfl);rotate_left;intro w1 ai;obtain ⟨hw,aW⟩:=cX ai hw aW;clear ai;rotate_right))|refine Wn hw f0 ?_|refine Wn hw f1 ?_|refine Wn hw fm ?_|(refine SW.st (ym rfl rfl (by omega) (by decide)) rfl ?_)|exact SW.eI rfl)
  all_goals try omega
  refine ae.bj rfl rfl ⟨_,rfl,hw,?_⟩;congr 1
  omega
variable {m0 m1 o zi:Int}
inductive PT (m0 m1:Int) (s:ak×ak) (zi o t f:Int) : Option ((ak×ak)×Int)->Prop
 | mT (he : ¬ jJ m0 m1 s zi o f) : PT m0 m1 s zi o t f none
 | none {u:ak×Int×Int} (he:jJ m0 m1 s zi o f) (ht:ib (xJ s zi) o t u) (hu:u.2.2≠0) : PT m0 m1 s zi o t f none
 | ok {u:ak×Int×Int} (he:jJ m0 m1 s zi o f) (ht:ib (xJ s zi) o t u) (hu:u.2.2=0) : PT m0 m1 s zi o t f (some (ss s zi u.1,u.2.1))
def tkV:Option ((ak×ak)×Int)->Value
 | Option.none => .tuple #[.int .i64 0,.bool false]
 | some q => .tuple #[.int .i64 q.2,.bool true]
def UR (s:ak×ak) : Option ((ak×ak)×Int)->ak×ak
 | Option.none=>s
 | some q=>q.1
theorem PT.vs {s:ak×ak} {t:Int} {q:Option ((ak×ak)×Int)} (h:PT m0 m1 s zi o t f q) (hv:VS s) : VS (UR s q):=by
 cases h with
 | mT|none=>exact hv
 | ok he ht hu=>exact hv.tr (ht.jS hu).1
theorem HS.kh {k:HK} {p:HP} {s:ak×ak} (h:HS wb w k p s L) (hv:VS s) {zi:Nat} (hz:zi<2) : ∃ u,[p.u0,p.u1][zi]'hz=u∧iA w wb.heap.size u (xJ s zi):=by
 rcases adA zi 1 with h1|h1
 ·obtain rfl:zi=0:=by omega
  exact ⟨p.u0,rfl,h.zs.z0⟩
 ·obtain rfl:zi=1:=by omega
  exact ⟨p.u1,rfl,h.zs.z1⟩
set_option maxHeartbeats 2000000 in
theorem vo (k:HK) (p:HP) (s:ak×ak) (L:List aR) (m0 m1:Int) (zi:Nat) (o t f:Int) (wb w:World) (H:HS wb w k p s L) (hO:mD w) (hM:Cd k.M m0 m1) (hv:VS s) (sQ:zi<2) (ho : 0<=o∧o<=4) (hf : 0<=f∧f<=15) :
 iI prog 110 [.pointer (some ⟨k.b,0,none⟩),.int .i64 (zi:Int),.int .i64 o,.int .i64 t,.int .i64 f] w fun v w' => ∃ q,PT m0 m1 s zi o t f q∧v=tkV q ∧ ∃ p',HS wb w' k p' (UR s q) L∧po w k p w' p':=by
 refine dh func110 rfl ntmps110 rfl ?_;have hw:=Ext.refl w;have H0:=H;obtain ⟨uz,huz,DR⟩:=H.kh hv sQ;have TG:=hv.xJ (zi:Int);obtain ⟨z,hz⟩ : ∃ z,xJ s (zi:Int)=z:=⟨_,rfl⟩;rw [hz] at DR TG;obtain ⟨q1,q2,q3,q4⟩:=sR DR TG;have hA:=H.zs.row.sl.base;have fz:=H.zs.row.sl.all sQ;rw [huz] at fz;have hqB:=fg.2 TG
 have cP:∀ w',Ext w w'->bI prog 149 [.agg (dp uz).toArray] w' fun v _=>v = .tuple #[.int .i64 (jW z.aj),.int .i64 0]:=fun w' hx=>by
  have:=GW uz z w' (DR.ext hx).rd (by omega) (by omega) ⟨by omega,by omega⟩ ⟨by omega,by omega⟩
  rwa [show sn z=(jW z.aj,0) by simp [sn,hqB]] at this
 obtain ⟨hd,PB⟩ : ∃ hd,BR m0 m1 s zi f=hd:=⟨_,rfl⟩;have o1:=hv.lq.ok;obtain ⟨a1,a2,a3,a4,a5⟩:=o1
 have cH:∀ w',Ext w w'->bI prog 150 [.agg (dC (k.h p)).toArray,.int .i64 (zi:Int),.int .i64 f] w' fun v _=>v = .int .i64 hd:=fun w' hx=>by
  have:=Re.My (k.h p) p.u0 p.u1 s k.M m0 m1 zi f w' (H0.ef.ext hx).sl (H0.zs.row.ext hx).sl hM H0.zs.z1.from_ H0.zs.z1.o8 ⟨by omega,by omega⟩ ⟨by omega,by omega⟩ sQ hf
  rwa [PB] at this
 have hhb : 0<=hd∧hd<=512:=by
  rw [<- PB];have h1:=hM.b0;have h2:=hM.b1;unfold BR;(repeat' split)<;>omega
 have Gs:=kq TG;have hpb:=o7 TG z.aj.length (ac3 _);rw [adS] at hpb;have UK:=cy ho.1 ho.2;by_cases he:hd<=jW z.aj-pw o
 ·have hE:jJ m0 m1 s zi o f:=by unfold jJ;rw [PB,hz];exact he
  repeat' (first|refine Wz ?_|((apply CW.bF mixed;(· kernel_rfl);rotate_left;intro w1 ai;obtain ⟨hw,H,DR⟩:=cj ai hw H DR;clear ai;rotate_right))|refine Wl (H.eG.cell (i:=0) (v := .slice (some ⟨k.g,0,none⟩) 2 k.c) rfl) ?_|refine Wm fz ?_|refine Wo hw fz ?_|refine Wm ((fun _ _=>H.eG.cell)) ?_|(refine Wk (cP _ hw) ?_;intro v w1 ai hv;subst hv;obtain ⟨hw,H,DR⟩:=cj ai hw H DR;clear ai)|refine SW.dF rfl rfl (fun w1 ai=>(cH _ (hw.trans ai))) ?_|(refine SW.st (fA (r:=pw o) rfl rfl (by omega) (by omega) (by simp [pw]) (by omega) (by omega)) rfl ?_)|exact SW.eI rfl)
  refine Wk (Ly uz z o t _ DR.rd q1 q2 ⟨by omega,by omega⟩ ⟨by omega,by omega⟩ (hO.ext hw)) fun v w4 ar hv => ?_
  obtain ⟨u,hT,r',rfl,Rf⟩:=hv;have Rf:=Rf.low hw.size;(obtain ⟨hw,H⟩:=cX ar hw H);refine Wz ?_;refine SW.alloc rfl fun Wj w1 ai vp rB => ?_
  skip;refine SW.ag rB rfl rfl rfl rfl (fE r') fun w2 xh hg => ?_
  have ar:=ai.own vp hg;have PU:=hw.up vp
  obtain ⟨hw,H,Rf⟩:=cj ar hw H Rf;have rB:=xh;clear xh ai hg ar;rw [<- hz] at hT;by_cases hu:u.2.2=0
  ·refine Wz ?_;refine CW.gl 7 7 (fun _=>True) mixed (by kernel_rfl) fun w1 ai aJ => ?_
   obtain ⟨hw,H,Rf,rB⟩:=dG ai hw H Rf rB;clear ai;refine Wf ?_;refine Wt 3 [] [] aJ rfl (aT rfl (H.eG.cell (i:=0) (v := .slice (some ⟨k.g,0,none⟩) 2 k.c) rfl)) ?_;refine Wf ?_;refine SF.last rfl (by kernel_rfl) (by kernel_rfl) ?_;refine SW.pN (enc:=dp) zi r' H.zs.row rfl rfl sQ fun w5 Oy hg => ?_
   rw [H.zs.own] at hg;have H5:=HS.Rc H0 H sQ Oy hg Rf;have hK:po w k p w5 (zT p zi r'):=((po.refl w k p).ext hw).step hg (fun i e=>by cases e;exact .inl (.inr (.inl rfl))) (fun i e => .inl (wv.1 e))
   refine Wz ?_;exact ae.dj rfl rfl rfl ⟨_,rfl,_,.ok hE hT hu,rfl,_,H5,hK⟩
  ·refine Wz ?_;exact ae.dj rfl rfl rfl ⟨_,rfl,_,.none hE hT hu,rfl,_,H,(po.refl w k p).ext hw⟩
 ·have hE : ¬ jJ m0 m1 s zi o f:=by unfold jJ;rw [PB,hz];exact he
  repeat' (first|refine Wz ?_|((apply CW.bF mixed;(· kernel_rfl);rotate_left;intro w1 ai;obtain ⟨hw,H,DR⟩:=cj ai hw H DR;clear ai;rotate_right))|refine Wl (H.eG.cell (i:=0) (v := .slice (some ⟨k.g,0,none⟩) 2 k.c) rfl) ?_|refine Wm fz ?_|refine Wm ((fun _ _=>H.eG.cell)) ?_|(refine Wk (cP _ hw) ?_;intro v w1 ai hv;subst hv;obtain ⟨hw,H,DR⟩:=cj ai hw H DR;clear ai)|refine SW.dF rfl rfl (fun w1 ai=>(cH _ (hw.trans ai))) ?_|(refine SW.st (fA (r:=pw o) rfl rfl (by omega) (by omega) (by simp [pw]) (by omega) (by omega)) rfl ?_)|exact SW.eI rfl)
  exact ae.dj rfl rfl rfl ⟨_,rfl,_,.mT hE,rfl,_,H,(po.refl w k p).ext hw⟩
set_option maxHeartbeats 4000000 in
theorem zU (A:Option Addr) (n c lo:Nat) (l:List du) (w:World) (hO:Own w lo 159 4 ck A n c l) (i:Nat) (hi:i<n) (hn:n<=1000000000000000000) (dz:lo<=w.heap.size) :
 iI prog 148 [.slice A n c,.int .i64 (i:Int),.int .i64 ((i+1:Nat) : Int)] w fun v w'=>v = .slice A (n-1) c∧Own w' lo 159 4 ck A (n-1) c (l.eraseIdx i)∧w.grownBy w' (aI A c):=by
 refine dh func148 rfl ntmps148 rfl ?_;have hle:=hO.le;have mv:=hO.len;have hA:=hO.sl.base;have Gb:w.grownBy w (aI A c):=World.grownBy.refl _ _
 repeat' (first|refine Wz ?_|(refine SW.st (sN (i:=i) (j:=i+1) (k:=n) rfl rfl rfl rfl (by omega) (by omega) (by omega)) rfl ?_))
 all_goals try omega
 have hw:=Ext.refl w;have e0:i+(n-(i+1))=n-1:=by omega
 have el:l.take i++l.drop (i+1)=l.eraseIdx i:=by rw [adB]
 refine CW.any 6 mixed (dg (by kernel_rfl)) rfl fun w1 ai aJ => ?_
 obtain ⟨hw,hO⟩:=cX ai hw hO;clear ai;refine Wa ?_;refine Wu 2 aJ rfl (dk (k:=i) rfl rfl (by omega)) ?_;refine Wa ?_;refine Wu 5 aJ rfl (bc (k:=i+1) rfl rfl (by omega) (by omega)) ?_;refine SA.done (by kernel_rfl) ?_;refine SW.uN (hO.pre (i:=i) (by omega)) (hO.sl.drop (i+1) c (by omega) (by omega)) (by omega) rfl rfl rfl fun w2 bh hg => ?_
 rw [e0,el] at bh;rw [e0];have Gc:=(hw.gr (aI A c));repeat' (first|refine Wz ?_|(refine SW.st (jP (i:=n-1) (j:=n) rfl rfl rfl (by omega) (by omega)) rfl ?_))
 obtain ⟨g,rest,rfl,h1,h2,h3,h4,h5,h6⟩:=bh.opened (by omega);have oZ:((l.eraseIdx i).flatMap ck).length=(n-1)*4:=by rw [aV,bh.len]
 refine SW.clear ((n-1)*4) h2 rfl (by rw [adb,oZ];omega) (fun h0 => ?_) (by decide) fun w3 cs lJ hB qo => ?_
 ·rw [if_neg (by omega)];simp [cU]
 ·have e7:=eU ((l.eraseIdx i).flatMap ck) (rest.take ((n-(n-1))*4)) (rest.drop ((n-(n-1))*4)) cs (by rw [lJ];simp;omega) (o:=(n-1)*4) oZ.symm;rw [ac6 (List.flatMap _ _),ac4] at e7;rw [e7,ac6] at hB;have D4:=Own.closed (l:=l.eraseIdx i) bh.len hB (by rw [adb,lJ];simp;omega) h4 (by omega) h5 h1;rw [<- h6] at qo;have AK:=bQ (bQ Gc hg (.inl rfl)) qo (.inl rfl);refine Wz ?_;exact ae.bj rfl rfl ⟨_,rfl,rfl,D4,AK⟩
def Yi:Option ((ak×ak)×List aR×Int)->Value
 | Option.none => .tuple #[.int .i64 0,.bool false]
 | some q => .tuple #[.int .i64 q.2.2,.bool true]
def TH (s:ak×ak) : Option ((ak×ak)×List aR×Int)->ak×ak
 | Option.none=>s
 | some q=>q.1
def Rg (L:List aR) : Option ((ak×ak)×List aR×Int)->List aR
 | Option.none=>L
 | some q=>q.2.1
theorem Mz {k:HK} {p:HP} {y:du} (hi:i<p.ls.length) (ho:ob y.ax=ob p.ls[i].ax) (h:ky k ⟨p.u0,p.u1,p.li,p.ls.set i y⟩ j) : ky k p j:=by
 rcases h with h|h|h|⟨z,hz,h⟩
 ·exact .inl h
 ·exact .inr (.inl h)
 ·exact .inr (.inr (.inl h))
 ·rcases adg hz with h1|rfl
  ·exact .inr (.inr (.inr ⟨z,h1,h⟩))
  ·exact .inr (.inr (.inr ⟨_,ac0 hi,ho ▸ h⟩))
theorem MA {k:HK} {p:HP} (h:ky k ⟨p.u0,p.u1,⟨p.li.A,p.li.n-1,p.li.c⟩,p.ls.eraseIdx i⟩ j) : ky k p j:=by
 rcases h with h|h|h|⟨z,hz,h⟩
 ·exact .inl h
 ·exact .inr (.inl h)
 ·exact .inr (.inr (.inl h))
 ·exact .inr (.inr (.inr ⟨z,adJ hz,h⟩))
set_option maxHeartbeats 4000000 in
theorem zV (k:HK) (p:HP) (s:ak×ak) (L:List aR) (m0 m1 cpu:Int) (zi:Nat) (t f:Int) (wb w:World) (H:HS wb w k p s L) (hO:mD wb) (hM:Cd k.M m0 m1) (hv:VS s) (hs:Er L) (vZ:∀ l∈L,1<=l.ax.length∧l.ax.length<=8) (OA:L.length<=256) (sQ:zi<2) (hf : 0<=f∧f<=15) :
 iI prog 109 [.pointer (some ⟨k.b,0,none⟩),.int .i64 cpu,.int .i64 (zi:Int),.int .i64 t,.int .i64 f] w fun v w' => ∃ q,jN m0 m1 cpu zi 0 t f s L q∧v=Yi q ∧ ∃ p',HS wb w' k p' (TH s q) (Rg L q)∧po w k p w' p':=by
 refine dh func109 rfl ntmps109 rfl ?_;have hw:=Ext.refl w;repeat' (first|refine Wy ?_|fail);have E4:∀ i,w.heap.size<=i -> ¬ ky k p i:=fun i hi=>H.not hi
 have K0:=po.refl w k p;refine SW.alloc rfl fun vq w1 ai lB bX => ?_
 skip;refine SW.ag bX rfl rfl rfl rfl (LA ⟨cpu,zi,t,.nil⟩) fun w2 k7 hg => ?_
 have ar:=ai.own lB hg;have mK:=hw.up lB
 obtain ⟨hw,H,K0⟩:=cj ar hw H K0;have bX:=k7;clear k7 ai hg ar;obtain ⟨x,hx⟩ : ∃ x:aR,x=⟨cpu,zi,t,[]⟩:=⟨_,rfl⟩;have L7:v7 ⟨cpu,zi,t,.nil⟩ x:=by subst hx;exact ⟨rfl,rfl,rfl⟩
 have UH:x.ax=[]:=by subst hx;rfl
 obtain ⟨l1,l2⟩:=H.ls.rd.len;have hA:=H.ls.row.sl.base;obtain ⟨q,hq⟩ : ∃ q,dx L x=q:=⟨_,rfl⟩;obtain ⟨kp,ue⟩ : ∃ kp,bu L x=kp:=⟨_,rfl⟩
 have cL:∀ w',y5 w' p.li p.ls L->bI prog 99 [.agg (dC (k.h p)).toArray,.agg (ck ⟨cpu,zi,t,.nil⟩).toArray] w' fun v _=>v = .tuple #[.int .i64 (kp:Int),.bool q]:=fun w' h=>by
  have:=v8 (k.h p) L p.ls x ⟨cpu,zi,t,.nil⟩ w' h L7 (by simp only;omega)
  rwa [hq,ue] at this
 cases q
 ·repeat' (first|refine Wy ?_|fail);(apply CW.bF mixed;(· kernel_rfl);rotate_left;intro w1 ai;obtain ⟨hw,H,bX,K0⟩:=dG ai hw H bX K0;clear ai;rotate_right);repeat' (first|refine Wy ?_|(refine CW.fU rfl ?_)|refine Wm ((fun _ _=>H.eG.cell)) ?_|refine Wm ((fun _ _=>bX.cell)) ?_|refine SW.dF rfl rfl (fun w1 ai=>(cL _ (H.ls.rd.ext ai))) ?_|exact SW.eI rfl)
  clear cL;skip;refine SW.dT rfl rfl (vo k p s L m0 m1 zi 0 t f wb _ H (hO.ext H.base) hM hv sQ (by decide) hf) fun v w5 EA => ?_
  obtain ⟨q5,hT,rfl,p5,H5,K5⟩:=EA;have J4:=K5.not (E4 vq mK) bX.lt;have bX:=K5.eG bX (E4 vq mK);have K5:=K0.trans K5;clear K0 H hw E4;have hw:=Ext.refl w5
  have oD : ¬ ((0:Int)=0∧dx L ⟨cpu,(zi:Int),t,[]⟩=true):=fun h=>by
   have:=h.2
   rw [<- hx,hq] at this;cases this
  have Wg:dx L ⟨cpu,(zi:Int),t,[]⟩=false:=by rw [<- hx];exact hq
  have Sk:=hT.vs hv;cases q5 with
  | none =>
    have E5:jN m0 m1 cpu zi 0 t f s L none:=by
     cases hT with
     | mT he=>exact .mT oD he
     | none he ht hu=>exact .none oD he ht hu
    repeat' (first|refine Wy ?_|fail);refine CW.loop (fun _:Unit=>[(17,.int .i64 0),(18,.bool false),(19,.int .i64 1)]) (fun _ w'=>w'=w5) (fun _=>0) () ⟨rfl,rfl,rfl,trivial⟩ rfl ?_;rintro _ w' rfl;repeat' (first|refine Wy ?_|fail);exact ae.dj rfl rfl rfl ⟨_,rfl,_,E5,rfl,p5,H5,K5⟩
  | some q5 =>
    obtain ⟨s1,a⟩:=q5
    have PV:∀ r,jK m0 m1 zi t f s1 [] r->jN m0 m1 cpu zi 0 t f s L (some (r.1,kd L x r.2,a)):=fun r hr=>by
     rw [hx];cases hT with
     | ok he ht hu=>exact .fill rfl Wg he ht hu hr
    simp only [UR] at H5 Sk;have Yj:HS wb w5 k p5 s1 (kd L x []):=by rw [mh];exact H5
    clear H5;repeat' (first|refine Wy ?_|fail)
    refine CW.loop (fun u:HP×(ak×ak)×List Int=>[(0,.pointer (some ⟨k.b,0,none⟩)),(2,.int .i64 (zi:Int)),(3,.int .i64 t),(4,.int .i64 f),(12,.pointer (some ⟨vq,0,none⟩)),(17,.int .i64 a),(18,.bool true),(19,.int .i64 ((u.2.2.length+1:Nat) : Int))])
     (fun u w'=>u.2.2.length<=3∧HS wb w' k u.1 u.2.1 (kd L x u.2.2)∧VS u.2.1∧aS w' vq 159 (ck ⟨cpu,zi,t,.nil⟩) ∧ ¬ ky k u.1 vq∧po w k p w' u.1 ∧ ∀ r,jK m0 m1 zi t f u.2.1 u.2.2 r->jK m0 m1 zi t f s1 [] r) (fun u=>3-u.2.2.length) (p5,s1,[])
     ⟨rfl,rfl,rfl,rfl,rfl,rfl,rfl,rfl,trivial⟩ ⟨by simp,Yj,Sk,bX,J4,K5,fun r h=>h⟩ ?_
    clear hw bX K5 J4 Yj Sk hT;rintro ⟨p6,s6,pg⟩ w' ⟨Wr,H,NJ,bX,E4,K0,Iz⟩
    simp only at Wr H NJ E4 K0 Iz ⊢;have hw:=Ext.refl w';by_cases eQ:pg.length<3
    ·repeat' (first|refine Wy ?_|fail);refine SW.dT rfl rfl (vo k p6 s6 (kd L x pg) m0 m1 zi 0 t f wb _ H (hO.ext H.base) hM NJ sQ (by decide) hf) fun v w5 EA => ?_
     obtain ⟨q5,hT,rfl,p5,H5,K5⟩:=EA;have J4:=K5.not E4 bX.lt;have bX:=K5.eG bX E4;have K5:=K0.trans K5;clear K0 H hw E4;have hw:=Ext.refl w5;have Sk:=hT.vs NJ;cases q5 with
     | none =>
       have E5:jK m0 m1 zi t f s6 pg (s6,pg):=by
        cases hT with
        | mT he=>exact .mT eQ he
        | none he ht hu=>exact .none eQ he ht hu
       repeat' (first|refine Wy ?_|(refine CW.gj rfl ?_))
       exact ae.dj rfl rfl rfl ⟨_,rfl,_,PV _ (Iz _ E5),rfl,p5,H5,K5⟩
     | some q5 =>
       obtain ⟨s7,b⟩:=q5;simp only [UR] at H5 Sk
       have Rh:∀ r,jK m0 m1 zi t f s7 (pg++[b]) r->jK m0 m1 zi t f s1 [] r:=fun r hr=>by
        cases hT with
        | ok he ht hu=>exact Iz _ (.more eQ he ht hu hr)
       repeat' (first|refine Wy ?_|(refine CW.fU rfl ?_))
       repeat' (first|refine Wy ?_|refine Wm ((fun _ _=>bX.cell)) ?_)
       obtain ⟨l3,l4⟩:=H5.ls.rd.len;have S8:=BU (pg:=pg) hq
       refine SW.dT rfl rfl (J2 k p5 s7 (kd L x pg) x ⟨cpu,zi,t,.nil⟩ b wb _ H5 L7 rfl UH (Dl hs hq) (by omega) (fun l hl=>by
        rcases BS hq l hl with h|rfl
        ·have:=vZ l h;omega
        ·simp only [fG];omega)) fun v w8 Wv => ?_
       obtain ⟨p8,H8,K8⟩:=Wv;have TI:=K8.not J4 bX.lt;have bX:=K8.eG bX J4;have K8:=K5.trans K8;rw [GY hq] at H8;clear hw;have hw:=Ext.refl w8;repeat' (first|refine Wy ?_|fail);exact ae.again (p8,s7,pg++[b]) ⟨rfl,rfl,rfl,rfl,rfl,rfl,rfl,congrArg (fun z=>some (Value.int .i64 z)) (by simp),trivial⟩ (by simp;omega) ⟨by simp;omega,H8,Sk,bX,TI,K8,Rh⟩
    ·have E5:jK m0 m1 zi t f s6 pg (s6,pg) := .full (by omega)
     repeat' (first|refine Wy ?_|fail);exact ae.dj rfl rfl rfl ⟨_,rfl,_,PV _ (Iz _ E5),rfl,p6,H,K0⟩
 ·repeat' (first|refine Wy ?_|fail);(apply CW.bF mixed;(· kernel_rfl);rotate_left;intro w1 ai;obtain ⟨hw,H,bX,K0⟩:=dG ai hw H bX K0;clear ai;rotate_right);repeat' (first|refine Wy ?_|(refine CW.gj rfl ?_)|refine Wm ((fun _ _=>H.eG.cell)) ?_|refine Wm ((fun _ _=>bX.cell)) ?_|refine SW.dF rfl rfl (fun w1 ai=>(cL _ (H.ls.rd.ext ai))) ?_|exact SW.eI rfl)
  clear cL;obtain ⟨iw,qJ⟩:=jY hq;simp only [ue] at iw qJ;have gh:kp<p.li.n:=by omega
  have px:kp<p.ls.length:=by omega
  have P0:=H.ls.each.get kp px iw;have Ww:=vZ _ (ac0 iw);obtain ⟨y,hy⟩ : ∃ y,p.ls[kp]'px=y:=⟨_,rfl⟩;obtain ⟨yn,TJ⟩ : ∃ yn,L[kp].ax=yn:=⟨_,rfl⟩;rw [hy] at P0;have hP:=P0.bC;have pc:=P0.cpu;have pz:=P0.kh;have pt:=P0.ty;rw [TJ] at hP Ww;clear P0;have DP:=hP.len;have QS:=hP.sl.base;have vi:y.ax.n-1<y.ax.n:=by omega
  have TK:dc L ⟨cpu,(zi:Int),t,[]⟩=yn:=by
   rw [<- hx,iK hq (by omega)];simp only [ue,TJ]
  have Se:dc L x=yn:=by rw [hx];exact TK
  have aae:=hP.le;have e3:(ck (p.ls[kp]'px))[3]?=some (Value.slice y.ax.A y.ax.n y.ax.c):=by rw [hy];rfl
  have LS:yn≠[]:=fun e=>by rw [e] at Ww;simp at Ww
  have DM:=G0 LS (i:=y.ax.n-1) (by omega) (by omega);obtain ⟨a,ha⟩ : ∃ a,yn.getLast LS=a:=⟨_,rfl⟩;rw [ha] at DM
  have E5:jN m0 m1 cpu zi 0 t f s L (some (s,wk L x yn,a)):=by
   have:=jN.list (m0:=m0) (m1:=m1) (fl:=f) (s:=s) (o:=0) rfl (show dx L ⟨cpu,(zi:Int),t,[]⟩=true by rw [<- hx];exact hq) (by rw [TK];exact LS)
   simp only [<- hx,Se,ha] at this;exact this
  repeat' (first|refine Wy ?_|refine SW.st (cm (y.ax.n-1) rfl rfl (by assumption) (by omega) (by omega)) rfl ?_|refine Wl (H.eG.cell (i:=3) (v := .slice p.li.A p.li.n p.li.c) rfl) ?_|refine Wl (H.ls.row.sl.jL gh (j:=3) e3) ?_|refine Wl (hP.sl.one vi (congrArg bw DM.symm)) ?_)
  refine CW.gl 17 17 (fun _=>True) mixed (by kernel_rfl) fun w1 ai aJ => ?_
  obtain ⟨hw,H,hP,K0⟩:=dG ai hw H hP K0;clear ai;refine Wp 0 [] [] aJ rfl rfl ?_;refine Wt 1 [] [] aJ rfl (aG rfl) ?_;refine Wt 2 [] [] aJ rfl (az rfl) ?_;refine Wt 3 [] [] aJ rfl (aT rfl (H.eG.cell (i:=3) (v := .slice p.li.A p.li.n p.li.c) rfl)) ?_;refine Wp 4 [] [] aJ rfl rfl ?_;refine Wp 5 [] [] aJ rfl rfl ?_;refine Wt 6 [] [] aJ rfl (aG rfl) ?_;refine Wt 7 [] [] aJ rfl (az rfl) ?_;refine Wt 8 [] [] aJ rfl (aT rfl (H.eG.cell (i:=3) (v := .slice p.li.A p.li.n p.li.c) rfl)) ?_;refine Wp 9 [] [] aJ rfl rfl ?_;refine Wt 10 [] [] aJ rfl (bZ rfl rfl (by assumption) (by omega)) ?_;refine Wt 11 [] [] aJ rfl (az rfl) ?_;refine Wt 12 [] [] aJ rfl (aT rfl (H.ls.row.sl.jL gh (j:=3) e3)) ?_;refine Wp 13 [] [] aJ rfl rfl ?_;refine Wt 14 [] [] aJ rfl (dk (k:=y.ax.n-1) rfl (congrArg (fun z=>some (Value.int .i64 z)) (by omega)) (by omega)) ?_;refine Wt 15 [16] [16] aJ rfl (bZ rfl rfl (by assumption) (by omega)) ?_;refine Wt 16 [] [] aJ rfl (az rfl) ?_;refine SF.last rfl (by kernel_rfl) (by kernel_rfl) ?_;refine SW.gM kp 3 ⟨y.fV,y.ak,y.Ty,⟨y.ax.A,y.ax.n-1,y.ax.c⟩⟩ H.ls.row rfl rfl rfl gh (by decide) rfl (by rw [hy];rfl) fun w6 kv tR => ?_
  have Yk:ob (⟨y.fV,y.ak,y.Ty,⟨y.ax.A,y.ax.n-1,y.ax.c⟩⟩ : du).ax=ob (p.ls[kp]'px).ax:=by rw [hy];rfl
  have AU:=hP.pre (i:=y.ax.n-1) (by omega);have edl:yn.take (y.ax.n-1)=yn.dropLast:=by rw [List.dropLast_eq_take,DP]
  rw [edl] at AU;have H6:=HS.setRow (y:=⟨y.fV,y.ak,y.Ty,⟨y.ax.A,y.ax.n-1,y.ax.c⟩⟩) (l:=fG x yn.dropLast) H px kv tR ⟨pc.trans qJ.1,pz.trans qJ.2.1,pt.trans qJ.2.2,AU⟩ Yk;have K6:po w k p w6 ⟨p.u0,p.u1,p.li,p.ls.set kp ⟨y.fV,y.ak,y.Ty,⟨y.ax.A,y.ax.n-1,y.ax.c⟩⟩⟩:=K0.step tR (fun i e => .inl (.inr (.inr (.inl e)))) (fun i e => .inl (Mz px Yk e))
  by_cases h1:y.ax.n=1
  ·have eL:wk L x yn=(L.set kp (fG x yn.dropLast)).eraseIdx kp:=by rw [GZ (by omega),ue,List.eraseIdx_set_eq]
   obtain ⟨p6,Yl⟩ : ∃ p6:HP,p6=⟨p.u0,p.u1,p.li,p.ls.set kp ⟨y.fV,y.ak,y.Ty,⟨y.ax.A,y.ax.n-1,y.ax.c⟩⟩⟩:=⟨_,rfl⟩;have Ym:p6.li=p.li:=by rw [Yl]
   rw [<- Yl] at H6 K6;have Wx:kp<p6.li.n:=by rw [Ym];exact gh
   clear hw;have hw:=Ext.refl w6;repeat' (first|refine Wy ?_|refine Wl (H6.eG.cell (i:=3) (v := .slice p6.li.A p6.li.n p6.li.c) rfl) ?_)
   refine SW.dT rfl rfl (zU p6.li.A p6.li.n p6.li.c wb.heap.size p6.ls _ H6.ls.row kp Wx (by rw [Ym];omega) H6.low) fun v w7 WA => ?_
   obtain ⟨rfl,hO7,Ri⟩:=WA;have bd:=H6.eG.aN (H6.ls.G6 Ri) rfl;repeat' (first|refine Wy ?_|fail);refine Wb (i:=3) bd fun w8 bg Rj => ?_
   have H8:=HS.Rd H6 hO7 Ri bg Rj;have K7:=K6.step (p':=p6) Ri (fun i e => .inl (.inr (.inr (.inl e)))) (fun i e => .inl e);have K8:=K7.step Rj (fun i e=>by cases e;exact .inl (.inl rfl)) (fun i e => .inl (MA (i:=kp) e));repeat' (first|refine Wy ?_|fail);exact ae.dj rfl rfl rfl ⟨_,rfl,_,E5,rfl,_,by simp only [Rg,eL];exact H8,K8⟩
  ·have eL:wk L x yn=L.set kp (fG x yn.dropLast):=by rw [Mj (by omega),ue]
   repeat' (first|refine Wy ?_|fail);exact ae.dj rfl rfl rfl ⟨_,rfl,_,E5,rfl,_,by simp only [Rg,eL];exact H6,K6⟩
variable {r:(ak×ak)×List aR×Int} {p0:HP} {zl:List Int} {sz:Nat} {A:Option Addr} {e:TypeId} {enc:α -> List Value}
theorem po.OO {k:HK} {p:HP} (h:po w0 k p0 w p) {n c:Nat} {l:List α} (hO:Own w0 lo e sz enc A n c l) (hn:∀ g,aI A c=some g -> ¬ ky k p0 g) : Own w lo e sz enc A n c l:=by
 have eQ:=hO.lt_size;refine ⟨hO.len,?_⟩;rcases hO.row with h1|⟨hc,g,jO,rfl,h1,h2,h3⟩
 ·exact .inl h1
 ·have hg:aI (some (⟨g,0,none⟩ : Addr)) c=some g:=by simp [aI,Nat.pos_iff_ne_zero.1 hc]
  exact .inr ⟨hc,g,jO,rfl,h1,by rw [h.block g (eQ g hg) (hn g hg)];exact h2,h3⟩
def tkT (L:List aR) : Option ((ak×ak)×Int)->Option ((ak×ak)×List aR×Int)
 | none=>none
 | some q=>some (q.1,L,q.2)
theorem PT.uv {s:ak×ak} {t:Int} {q:Option ((ak×ak)×Int)} (h:PT m0 m1 s zi o t f q) (ho : 0<o) : jN m0 m1 cpu zi o t f s L (tkT L q):=by
 have oD : ¬ (o=0∧dx L ⟨cpu,zi,t,[]⟩=true):=fun h=>by omega
 cases h with
 | mT he=>exact .mT oD he
 | none he ht hu=>exact .none oD he ht hu
 | ok he ht hu=>exact .uv ho he ht hu
theorem vr {t:Int} {s:ak×ak} (hz:(zl=[1,0]∧f % 2=0)∨(zl=[0]∧f % 2=1)) (hj:j<zl.length) (hb:∀ (i:Nat) (h:i<zl.length),i<j->jN m0 m1 cpu zl[i] o t f s L none) (h:jN m0 m1 cpu zl[j] o t f s L (some r)) : mg m0 m1 cpu o t f s L (some r):=by
 rcases hz with ⟨rfl,hf⟩|⟨rfl,hf⟩
 ·have o6:j<2:=hj
  rcases adA j 1 with h1|h1
  ·obtain rfl:j=0:=by omega
   exact .vU hf h
  ·obtain rfl:j=1:=by omega
   exact .low (fun _=>hb 0 (by simp) (by omega)) h
 ·have o6:j<1:=hj
  obtain rfl:j=0:=by omega
  exact .low (fun e=>by omega) h
theorem E6 {t:Int} {s:ak×ak} (hz:(zl=[1,0]∧f % 2=0)∨(zl=[0]∧f % 2=1)) (hb:∀ (i:Nat) (h:i<zl.length),jN m0 m1 cpu zl[i] o t f s L none) : mg m0 m1 cpu o t f s L none:=by
 rcases hz with ⟨rfl,hf⟩|⟨rfl,hf⟩
 ·exact .low (fun _=>hb 0 (by simp)) (hb 1 (by simp))
 ·exact .low (fun e=>by omega) (hb 0 (by simp))
abbrev zA0 (g:Nat) : Option Addr:=some ⟨g,0,none⟩
abbrev zA1 (g:Nat) : Option Addr:=if 2=1 then some ⟨g,0,none⟩ else (some (⟨g,0,none⟩ : Addr)).map (·.add (1*1))
set_option maxHeartbeats 4000000 in
theorem xi (k:HK) (p:HP) (s:ak×ak) (L:List aR) (m0 m1 cpu o t f:Int) (wb w:World) (H:HS wb w k p s L) (hO:mD wb) (hM:Cd k.M m0 m1) (hv:VS s) (hs:Er L) (vZ:∀ l∈L,1<=l.ax.length∧l.ax.length<=8) (OA:L.length<=256) (ho : 0<=o∧o<=4) (hf : 0<=f∧f<=15) :
 iI prog 63 [.pointer (some ⟨k.b,0,none⟩),.int .i64 cpu,.int .i64 o,.int .i64 t,.int .i64 f] w fun v w' => ∃ q,mg m0 m1 cpu o t f s L q∧v=Yi q ∧ ∃ p',HS wb w' k p' (TH s q) (Rg L q)∧po w k p w' p':=by
 refine dh func63 rfl ntmps63 rfl ?_;have hw:=Ext.refl w;obtain ⟨q1,q2,q4,q8⟩:=wx hf;have TL:∀ i,w.heap.size<=i -> ¬ ky k p i:=fun i hi=>H.not hi
 have K0:=po.refl w k p;refine Wz ?_;refine SW.wh (enc:=bw) 1 0 rfl rfl rfl rfl rfl rfl fun g w2 dA V3 hZ => ?_
 (obtain ⟨hw,H,K0⟩:=cj dA hw H K0);have hn:∀ j,aI (some (⟨g,0,none⟩ : Addr)) 2=some j -> ¬ ky k p j:=fun j e=>TL j (by simp [aI] at e;omega)
 obtain ⟨lo,dz⟩ : ∃ lo,w.heap.size=lo:=⟨_,rfl⟩;rw [dz] at hZ;clear TL dz;rcases (show f % 2=0∨f % 2=1 by omega) with WB|WB
 ·obtain ⟨zl,Gs⟩ : ∃ zl:List Int,zl=[1,0]:=⟨_,rfl⟩;have OP:(zl=[1,0]∧f % 2=0)∨(zl=[0]∧f % 2=1):=by rw [Gs];exact .inl ⟨rfl,WB⟩
  obtain ⟨A,hA⟩ : ∃ A:Option Addr,A=(zA0 g):=⟨_,rfl⟩
  have WC:∀ w',Own w' lo 3 1 bw (some ⟨g,0,none⟩) 2 2 [1,0]->Sl w' 1 bw A 2 zl:=fun w' h=>by
   rw [Gs,hA]
   first|exact h.sl|exact h.sl.drop 1 2 (by decide) (by decide)
  have NF:zl.length=2:=by rw [Gs];rfl
  have Ba:∀ (j:Nat) (hj:j<zl.length),∃ zi:Nat,zl[j]=(zi:Int)∧zi<2:=fun j hj=>by
   rcases OP with ⟨rfl,_⟩|⟨rfl,_⟩
   ·have o6:j<2:=hj
    rcases adA j 1 with h1|h1
    ·obtain rfl:j=0:=by omega
     exact ⟨1,rfl,by omega⟩
    ·obtain rfl:j=1:=by omega
     exact ⟨0,rfl,by omega⟩
   ·have o6:j<1:=hj
    obtain rfl:j=0:=by omega
    exact ⟨0,rfl,by omega⟩
  repeat' (first|refine Wz ?_|(refine SW.st (ym rfl rfl (by omega) (by decide)) rfl ?_))
  all_goals try omega
  refine CW.loop (fun u:Nat×HP=>[(0,.pointer (some ⟨k.b,0,none⟩)),(1,.int .i64 cpu),(2,.int .i64 o),(3,.int .i64 t),(4,.int .i64 f),(23,.slice A 2 2),(24,.int .i64 ((2:Nat) : Int)),(25,.int .i64 (u.1:Int))])
   (fun u w'=>u.1<=zl.length∧HS wb w' k u.2 s L∧po w k p w' u.2∧Own w' lo 3 1 bw (some ⟨g,0,none⟩) 2 2 [1,0]∧(∀ j,aI (some (⟨g,0,none⟩ : Addr)) 2=some j -> ¬ ky k u.2 j) ∧ ∀ (i:Nat) (h:i<zl.length),i<u.1->jN m0 m1 cpu zl[i] o t f s L none) (fun u=>zl.length-u.1) (0,p)
   ⟨rfl,rfl,rfl,rfl,rfl,by rw [hA];rfl,rfl,rfl,trivial⟩ ⟨by simp,H,K0,hZ,hn,fun i h h'=>by simp at h'⟩ ?_
  clear hw hZ H K0 hn;rintro ⟨j,p6⟩ w' ⟨hj,H,K0,hZ,hn,hb⟩
  simp only at hj H K0 hn hb ⊢;have hw:=Ext.refl w';have hS:=WC _ hZ;have hSA:=hS.base;by_cases eQ:j<zl.length
  ·obtain ⟨zi,sQ,MB⟩:=Ba j eQ;have WD:j<2:=by omega
   have fz:=hS.one WD (congrArg bw sQ);by_cases Oz:o=0
   ·repeat' (first|refine Wz ?_|refine Wl fz ?_)
    subst Oz;refine SW.dT rfl rfl (zV k p6 s L m0 m1 cpu zi t f wb _ H hO hM hv hs vZ OA MB hf) fun v w5 EA => ?_
    obtain ⟨q5,hT,rfl,p5,H5,K5⟩:=EA;have Rk:=K5.OO hZ hn;have J4:∀ i,aI (some (⟨g,0,none⟩ : Addr)) 2=some i -> ¬ ky k p5 i:=fun i e=>K5.not (hn i e) (hZ.lt_size i e)
    have K5:=K0.trans K5;clear hw;have hw:=Ext.refl w5;rw [<- sQ] at hT;cases q5 with
    | none =>
      repeat' (first|refine Wz ?_|(refine CW.fU rfl ?_))
      exact ae.again (j+1,p5) ⟨rfl,rfl,rfl,rfl,rfl,rfl,rfl,rfl,trivial⟩ (by simp only;omega) ⟨by simp only;omega,H5,K5,Rk,J4,fun i h h'=>by
       by_cases e:i=j
       ·subst e;exact hT
       ·exact hb i h (by simp only at h';omega)⟩
    | some q5 =>
      repeat' (first|refine Wz ?_|(refine CW.gj rfl ?_))
      exact ae.dj rfl rfl rfl ⟨_,rfl,_,vr OP eQ hb hT,rfl,p5,H5,K5⟩
   ·repeat' (first|refine Wz ?_|refine Wl fz ?_)
    refine SW.dT rfl rfl (vo k p6 s L m0 m1 zi o t f wb _ H (hO.ext H.base) hM hv MB ho hf) fun v w5 EA => ?_
    obtain ⟨q5,hT,rfl,p5,H5,K5⟩:=EA;have Rk:=K5.OO hZ hn;have J4:∀ i,aI (some (⟨g,0,none⟩ : Addr)) 2=some i -> ¬ ky k p5 i:=fun i e=>K5.not (hn i e) (hZ.lt_size i e)
    have K5:=K0.trans K5;clear hw;have hw:=Ext.refl w5;have hT:=hT.uv (cpu:=cpu) (L:=L) (by omega);rw [<- sQ] at hT;cases q5 with
    | none =>
      repeat' (first|refine Wz ?_|(refine CW.fU rfl ?_))
      exact ae.again (j+1,p5) ⟨rfl,rfl,rfl,rfl,rfl,rfl,rfl,rfl,trivial⟩ (by simp only;omega) ⟨by simp only;omega,H5,K5,Rk,J4,fun i h h'=>by
       by_cases e:i=j
       ·subst e;exact hT
       ·exact hb i h (by simp only at h';omega)⟩
    | some q5 =>
      repeat' (first|refine Wz ?_|(refine CW.gj rfl ?_))
      exact ae.dj rfl rfl rfl ⟨_,rfl,_,vr OP eQ hb hT,rfl,p5,H5,K5⟩
  ·refine Wz ?_;exact ae.dj rfl rfl rfl ⟨_,rfl,none,E6 OP (fun i h=>hb i h (by omega)),rfl,p6,H,K0⟩
 ·obtain ⟨zl,Gs⟩ : ∃ zl:List Int,zl=[0]:=⟨_,rfl⟩;have OP:(zl=[1,0]∧f % 2=0)∨(zl=[0]∧f % 2=1):=by rw [Gs];exact .inr ⟨rfl,WB⟩
  obtain ⟨A,hA⟩ : ∃ A:Option Addr,A=(zA1 g):=⟨_,rfl⟩
  have WC:∀ w',Own w' lo 3 1 bw (some ⟨g,0,none⟩) 2 2 [1,0]->Sl w' 1 bw A (2-1) zl:=fun w' h=>by
   rw [Gs,hA]
   first|exact h.sl|exact h.sl.drop 1 2 (by decide) (by decide)
  have NF:zl.length=(2-1):=by rw [Gs];rfl
  have Ba:∀ (j:Nat) (hj:j<zl.length),∃ zi:Nat,zl[j]=(zi:Int)∧zi<2:=fun j hj=>by
   rcases OP with ⟨rfl,_⟩|⟨rfl,_⟩
   ·have o6:j<2:=hj
    rcases adA j 1 with h1|h1
    ·obtain rfl:j=0:=by omega
     exact ⟨1,rfl,by omega⟩
    ·obtain rfl:j=1:=by omega
     exact ⟨0,rfl,by omega⟩
   ·have o6:j<1:=hj
    obtain rfl:j=0:=by omega
    exact ⟨0,rfl,by omega⟩
  repeat' (first|refine Wz ?_|(refine SW.st (ym rfl rfl (by omega) (by decide)) rfl ?_)|(refine SW.st (bc (k:=1) rfl rfl (by omega) (by omega)) rfl ?_))
  all_goals try omega
  refine CW.loop (fun u:Nat×HP=>[(0,.pointer (some ⟨k.b,0,none⟩)),(1,.int .i64 cpu),(2,.int .i64 o),(3,.int .i64 t),(4,.int .i64 f),(23,.slice A (2-1) (2-1)),(24,.int .i64 (((2-1) : Nat) : Int)),(25,.int .i64 (u.1:Int))])
   (fun u w'=>u.1<=zl.length∧HS wb w' k u.2 s L∧po w k p w' u.2∧Own w' lo 3 1 bw (some ⟨g,0,none⟩) 2 2 [1,0]∧(∀ j,aI (some (⟨g,0,none⟩ : Addr)) 2=some j -> ¬ ky k u.2 j) ∧ ∀ (i:Nat) (h:i<zl.length),i<u.1->jN m0 m1 cpu zl[i] o t f s L none) (fun u=>zl.length-u.1) (0,p)
   ⟨rfl,rfl,rfl,rfl,rfl,by rw [hA];rfl,rfl,rfl,trivial⟩ ⟨by simp,H,K0,hZ,hn,fun i h h'=>by simp at h'⟩ ?_
  clear hw hZ H K0 hn;rintro ⟨j,p6⟩ w' ⟨hj,H,K0,hZ,hn,hb⟩
  simp only at hj H K0 hn hb ⊢;have hw:=Ext.refl w';have hS:=WC _ hZ;have hSA:=hS.base;by_cases eQ:j<zl.length
  ·obtain ⟨zi,sQ,MB⟩:=Ba j eQ;have WD:j<(2-1):=by omega
   have fz:=hS.one WD (congrArg bw sQ);by_cases Oz:o=0
   ·repeat' (first|refine Wz ?_|refine Wl fz ?_)
    subst Oz;refine SW.dT rfl rfl (zV k p6 s L m0 m1 cpu zi t f wb _ H hO hM hv hs vZ OA MB hf) fun v w5 EA => ?_
    obtain ⟨q5,hT,rfl,p5,H5,K5⟩:=EA;have Rk:=K5.OO hZ hn;have J4:∀ i,aI (some (⟨g,0,none⟩ : Addr)) 2=some i -> ¬ ky k p5 i:=fun i e=>K5.not (hn i e) (hZ.lt_size i e)
    have K5:=K0.trans K5;clear hw;have hw:=Ext.refl w5;rw [<- sQ] at hT;cases q5 with
    | none =>
      repeat' (first|refine Wz ?_|(refine CW.fU rfl ?_))
      exact ae.again (j+1,p5) ⟨rfl,rfl,rfl,rfl,rfl,rfl,rfl,rfl,trivial⟩ (by simp only;omega) ⟨by simp only;omega,H5,K5,Rk,J4,fun i h h'=>by
       by_cases e:i=j
       ·subst e;exact hT
       ·exact hb i h (by simp only at h';omega)⟩
    | some q5 =>
      repeat' (first|refine Wz ?_|(refine CW.gj rfl ?_))
      exact ae.dj rfl rfl rfl ⟨_,rfl,_,vr OP eQ hb hT,rfl,p5,H5,K5⟩
   ·repeat' (first|refine Wz ?_|refine Wl fz ?_)
    refine SW.dT rfl rfl (vo k p6 s L m0 m1 zi o t f wb _ H (hO.ext H.base) hM hv MB ho hf) fun v w5 EA => ?_
    obtain ⟨q5,hT,rfl,p5,H5,K5⟩:=EA;have Rk:=K5.OO hZ hn;have J4:∀ i,aI (some (⟨g,0,none⟩ : Addr)) 2=some i -> ¬ ky k p5 i:=fun i e=>K5.not (hn i e) (hZ.lt_size i e)
    have K5:=K0.trans K5;clear hw;have hw:=Ext.refl w5;have hT:=hT.uv (cpu:=cpu) (L:=L) (by omega);rw [<- sQ] at hT;cases q5 with
    | none =>
      repeat' (first|refine Wz ?_|(refine CW.fU rfl ?_))
      exact ae.again (j+1,p5) ⟨rfl,rfl,rfl,rfl,rfl,rfl,rfl,rfl,trivial⟩ (by simp only;omega) ⟨by simp only;omega,H5,K5,Rk,J4,fun i h h'=>by
       by_cases e:i=j
       ·subst e;exact hT
       ·exact hb i h (by simp only at h';omega)⟩
    | some q5 =>
      repeat' (first|refine Wz ?_|(refine CW.gj rfl ?_))
      exact ae.dj rfl rfl rfl ⟨_,rfl,_,vr OP eQ hb hT,rfl,p5,H5,K5⟩
  ·refine Wz ?_;exact ae.dj rfl rfl rfl ⟨_,rfl,none,E6 OP (fun i h=>hb i h (by omega)),rfl,p6,H,K0⟩
theorem J5 (k:HK) (p:HP) (s:ak×ak) (L:List aR) (bs:List Block) (b:Block) (wb w:World) (H:HS wb w k p s L) (hD:qC s bs) (hN:pL bs b) :
 iI prog 95 [.pointer (some ⟨k.b,0,none⟩),.int .i64 b.At,.int .i64 b.Order] w fun v w' => ∃ p',p'.li=p.li∧p'.ls=p.ls∧HS wb w' k p' (gp s b) L∧po w k p w' p':=by
 refine dh func95 rfl ntmps95 rfl ?_;have hw:=Ext.refl w;have H0:=H;have eT:=H.zs.z0.o8;obtain ⟨q1,q2,q3,q4⟩:=sR H.zs.z0 hD.lN;obtain ⟨p1,p2,p3,p4⟩:=sR H.zs.z1 hD.lq;have hA:=H.zs.row.sl.base;have cz:∀ w',Sl w' 4 dp (some ⟨k.g,0,none⟩) 2 [p.u0,p.u1]->bI prog 96 [.agg (dC (k.h p)).toArray,.int .i64 b.At] w' fun v _=>v = .int .i64 (if b.At<p.u0.To then 0 else 1):=fun w' h=>we (k.h p) p.u0 p.u1 b.At w' h
 by_cases hx:b.At<p.u0.To
 ·have eP:gp s b=ss s ((0:Nat) : Int) (fM s.1 b.At b.Order).2:=by unfold gp;rw [if_pos (by omega)];simp [ss]
  simp only [if_pos hx] at cz;have k0 : 0<2:=by omega
  repeat' (first|refine Wz ?_|refine Wm ((fun _ _=>H.eG.cell)) ?_|(refine Wk (cz _ H.zs.row.sl) ?_;intro v w1 ai hv;subst hv;obtain ⟨hw,H⟩:=cX ai hw H;clear ai))
  refine CW.gl 19 19 (fun _=>True) mixed (by kernel_rfl) fun w1 ai aJ => ?_
  obtain ⟨hw,H⟩:=cX ai hw H;clear ai;refine Wp 0 [] [] aJ rfl rfl ?_;refine Wt 1 [] [] aJ rfl (aG rfl) ?_;refine Wt 2 [] [] aJ rfl (az rfl) ?_;refine Wt 3 [] [] aJ rfl (aT rfl (H.eG.cell rfl)) ?_;refine Wp 4 [] [] aJ rfl rfl ?_;refine Wp 5 [] [] aJ rfl rfl ?_;refine Wt 6 [] [] aJ rfl (aG rfl) ?_;refine Wt 7 [] [] aJ rfl (az rfl) ?_;refine Wt 8 [] [] aJ rfl (aT rfl (H.eG.cell rfl)) ?_;refine Wp 9 [] [] aJ rfl rfl ?_;refine Wt 10 [] [] aJ rfl (bZ rfl rfl (by assumption) (by omega)) ?_;refine Wt 11 [] [] aJ rfl (aX rfl rfl ((H.zs.row.sl.all k0))) ?_;refine Wp 12 [] [] aJ rfl rfl ?_;refine Wp 13 [] [] aJ rfl rfl ?_;refine SF.one 14 rfl (by kernel_rfl) rfl ?_;refine Wk (pG p.u0 s.1 b.At b.Order _ H.zs.z0.rd q1 q2 ⟨by omega,by omega⟩ ⟨by omega,by omega⟩) fun v w4 ar hv => ?_
  obtain ⟨u',rfl,nd⟩:=hv;have nd:=nd.low hw.size;(obtain ⟨hw,H⟩:=cX ar hw H);refine SW.nil (ae.sf ar ?_);refine Wp 15 [] [] aJ rfl rfl ?_;refine Wp 16 [] [] aJ rfl rfl ?_;refine SF.Br 17 aJ rfl (by kernel_rfl) (by kernel_rfl) rfl (fun _=>bi rfl) rfl ?_;refine Wt 18 [] [] aJ rfl (bZ rfl rfl (by assumption) (by omega)) ?_;refine SF.last rfl (by kernel_rfl) (by kernel_rfl) ?_;refine SW.pN (enc:=dp) 0 u' H.zs.row rfl rfl k0 fun w5 Oy hg => ?_
  rw [H.zs.own] at hg;have H5:=HS.Rc H0 H k0 Oy hg nd;have hK:po w k p w5 (zT p 0 u'):=((po.refl w k p).ext hw).step hg (fun i e=>by cases e;exact .inl (.inr (.inl rfl))) (fun i e => .inl (wv.1 e))
  refine Wz ?_;exact ae.pI rfl ⟨_,rfl,zT p 0 u',s9.1,s9.2,by rw [eP];exact H5,hK⟩
 ·have eP:gp s b=ss s ((1:Nat) : Int) (fM s.2 b.At b.Order).2:=by unfold gp;rw [if_neg (by omega)];simp [ss]
  simp only [if_neg hx] at cz;have k0 : 1<2:=by omega
  repeat' (first|refine Wz ?_|refine Wm ((fun _ _=>H.eG.cell)) ?_|(refine Wk (cz _ H.zs.row.sl) ?_;intro v w1 ai hv;subst hv;obtain ⟨hw,H⟩:=cX ai hw H;clear ai))
  refine CW.gl 19 19 (fun _=>True) mixed (by kernel_rfl) fun w1 ai aJ => ?_
  obtain ⟨hw,H⟩:=cX ai hw H;clear ai;refine Wp 0 [] [] aJ rfl rfl ?_;refine Wt 1 [] [] aJ rfl (aG rfl) ?_;refine Wt 2 [] [] aJ rfl (az rfl) ?_;refine Wt 3 [] [] aJ rfl (aT rfl (H.eG.cell rfl)) ?_;refine Wp 4 [] [] aJ rfl rfl ?_;refine Wp 5 [] [] aJ rfl rfl ?_;refine Wt 6 [] [] aJ rfl (aG rfl) ?_;refine Wt 7 [] [] aJ rfl (az rfl) ?_;refine Wt 8 [] [] aJ rfl (aT rfl (H.eG.cell rfl)) ?_;refine Wp 9 [] [] aJ rfl rfl ?_;refine Wt 10 [] [] aJ rfl (bZ rfl rfl (by assumption) (by omega)) ?_;refine Wt 11 [] [] aJ rfl (aX rfl rfl ((H.zs.row.sl.all k0))) ?_;refine Wp 12 [] [] aJ rfl rfl ?_;refine Wp 13 [] [] aJ rfl rfl ?_;refine SF.one 14 rfl (by kernel_rfl) rfl ?_;refine Wk (pG p.u1 s.2 b.At b.Order _ H.zs.z1.rd p1 p2 ⟨by omega,by omega⟩ ⟨by omega,by omega⟩) fun v w4 ar hv => ?_
  obtain ⟨u',rfl,nd⟩:=hv;have nd:=nd.low hw.size;(obtain ⟨hw,H⟩:=cX ar hw H);refine SW.nil (ae.sf ar ?_);refine Wp 15 [] [] aJ rfl rfl ?_;refine Wp 16 [] [] aJ rfl rfl ?_;refine SF.Br 17 aJ rfl (by kernel_rfl) (by kernel_rfl) rfl (fun _=>bi rfl) rfl ?_;refine Wt 18 [] [] aJ rfl (bZ rfl rfl (by assumption) (by omega)) ?_;refine SF.last rfl (by kernel_rfl) (by kernel_rfl) ?_;refine SW.pN (enc:=dp) 1 u' H.zs.row rfl rfl k0 fun w5 Oy hg => ?_
  rw [H.zs.own] at hg;have H5:=HS.Rc H0 H k0 Oy hg nd;have hK:po w k p w5 (zT p 1 u'):=((po.refl w k p).ext hw).step hg (fun i e=>by cases e;exact .inl (.inr (.inl rfl))) (fun i e => .inl (wv.1 e))
  refine Wz ?_;exact ae.pI rfl ⟨_,rfl,zT p 1 u',s9.1,s9.2,by rw [eP];exact H5,hK⟩
theorem HS.drop {k:HK} {p:HP} {s:ak×ak} (h:HS wb w k p s L) (hb:aS w' k.b 41 (dC (k.h ⟨p.u0,p.u1,.nil,[]⟩))) (hg:w.grownBy w' (some k.b)) : HS wb w' k ⟨p.u0,p.u1,.nil,[]⟩ s []:=by
 have hG:=h.eG.gr hg;exact ⟨hb,h.zs.aN hG rfl,h.ef.aN hG rfl,h.live.aN hG rfl,gd.nil _ _,uV.nil _ _,h.sf,h.Mx,h.base.own h.Mx hg⟩
theorem J6 {k:HK} {p:HP} (h:ky k ⟨p.u0,p.u1,.nil,[]⟩ i) : ky k p i:=by
 rcases h with h|h|h|⟨z,hz,h⟩
 ·exact .inl h
 ·exact .inr (.inl h)
 ·cases h
 ·simp at hz
set_option maxHeartbeats 2000000 in
theorem G8 (k:HK) (p:HP) (h:Heap) (z0 z1:ak) (hd:nU h z0 z1) (hs:h.small) (wb w:World) (H:HS wb w k p (z0,z1) h.av) :
 iI prog 64 [.pointer (some ⟨k.b,0,none⟩)] w fun v w' => ∃ p',HS wb w' k p' (bV (z0,z1) (a9 h.av)) []∧po w k p w' p':=by
 refine dh func64 rfl ntmps64 rfl ?_;have hw:=Ext.refl w;have mv:=H.ls.rd.len;have s4:=hs.lists;have QS:=H.ls.row.sl.base;repeat' (first|refine Wz ?_|refine Wl (H.eG.cell rfl) ?_)
 refine CW.loop (fun t:Nat×HP=>[(0,.pointer (some ⟨k.b,0,none⟩)),(9,.slice p.li.A p.li.n p.li.c),(10,.int .i64 (p.li.n:Int)),(11,.int .i64 (t.1:Int))])
  (fun t w'=>t.1<=p.li.n∧t.2.li=p.li∧t.2.ls=p.ls∧HS wb w' k t.2 (lz h z0 z1 (ki h.av t.1)) h.av∧po w k p w' t.2) (fun t=>p.li.n-t.1) (0,p)
  ⟨rfl,rfl,rfl,rfl,trivial⟩ ⟨by omega,rfl,rfl,by simpa [lz,ki,a9,bV] using H,po.refl _ _ _⟩ ?_
 clear hw H QS;rintro ⟨i,p1⟩ w ⟨hi,e1,e2,H,K0⟩
 simp only at hi e1 e2 H K0 ⊢;have hw:=Ext.refl w;have gg:Sl w 4 ck p.li.A p.li.n p.ls:=by have:=H.ls.row.sl;rwa [e1,e2] at this
 have hA:=gg.base;by_cases cQ:i<p.li.n
 ·have rI:i<h.av.length:=by omega
  have Bb:i<p.ls.length:=by omega
  have DP:h.av[i].ax.length=(p.ls[i]'Bb).ax.n:=by
   have:=(H.ls.each.get i (by rw [e2];exact Bb) rI).bC.len
   simpa only [e2] using this
  have KS:=hs.bC _ (ac0 rI);obtain ⟨y,hy⟩ : ∃ y,p.ls[i]'Bb=y:=⟨_,rfl⟩;have MC:=gg.all cQ;rw [hy] at MC DP;repeat' (first|refine Wz ?_|refine Wm MC ?_)
  refine SW.alloc rfl fun b3 w1 ai cg ap => ?_
  skip;refine SW.ag ap rfl rfl rfl rfl (im.one (enc:=ck) _) fun w2 dW hg => ?_
  have ar:=ai.own cg hg;have fW:w.heap.size<=b3:=ac2 hw.size cg
  replace hw:=Ext.trans hw ar;replace H:=H.ext ar;replace K0:=K0.ext ar;replace ap:=dW;clear dW ai hg ar
  have Ik:∀ (w':World) (q:HP) (s:ak×ak),q.ls=p.ls->HS wb w' k q s h.av->Own w' wb.heap.size 3 1 bw y.ax.A y.ax.n y.ax.c h.av[i].ax:=fun w' q s eq hh=>by
   have:=(hh.ls.each.get i (by rw [eq];exact Bb) rI).bC
   simpa only [eq,hy] using this
  have hP:=Ik _ p1 _ e2 H;have KT:=hP.sl.base;repeat' (first|refine Wz ?_|fail)
  refine CW.loop (fun t:Nat×HP=>[(0,.pointer (some ⟨k.b,0,none⟩)),(9,.slice p.li.A p.li.n p.li.c),(10,.int .i64 (p.li.n:Int)),(11,.int .i64 (i:Int)),(16,.slice y.ax.A y.ax.n y.ax.c),(17,.int .i64 (y.ax.n:Int)),(18,.int .i64 (t.1:Int))])
   (fun t w'=>t.1<=y.ax.n∧t.2.li=p.li∧t.2.ls=p.ls∧HS wb w' k t.2 (lz h z0 z1 (ki h.av i+t.1)) h.av∧po _ k p w' t.2) (fun t=>y.ax.n-t.1) (0,p1)
   ⟨rfl,rfl,rfl,rfl,rfl,rfl,rfl,trivial⟩ ⟨by omega,e1,e2,H,K0⟩ ?_
  clear hw H K0 ap hP KT gg MC cg fW e1 e2 p1;rintro ⟨j,p1⟩ w' ⟨hj,e1,e2,H,K0⟩
  simp only at hj e1 e2 H K0 ⊢;have hw:=Ext.refl w';have hP:=Ik _ p1 _ e2 H;have KT:=hP.sl.base;by_cases pB:j<y.ax.n
  ·have pA:j<h.av[i].ax.length:=by omega
   obtain ⟨hK,Tc⟩:=ya rI pA;have hN:=hd.next hK;have hD:=hd.inv (ki h.av i+j) (by omega);have hT:=ni (z0,z1) (a9 h.av) _ hK;rw [Tc] at hN hT;have R6:lz h z0 z1 (ki h.av i+(j+1))=gp (lz h z0 z1 (ki h.av i+j)) (ct h.av[i].ax[j]):=hT
   repeat' (first|refine Wz ?_|refine Wl (hP.sl.one pB rfl) ?_)
   refine SW.dT rfl rfl (J5 k p1 _ h.av _ (ct h.av[i].ax[j]) wb _ H hD hN) fun v w5 hv => ?_
   obtain ⟨p2,e3,e4,H5,K5⟩:=hv;repeat' (first|refine Wz ?_|fail);refine ae.again (j+1,p2) ⟨rfl,rfl,rfl,rfl,rfl,rfl,rfl,trivial⟩ (by simp only;omega) ⟨by simp only;omega,e3.trans e1,e4.trans e2,?_,K0.trans K5⟩;simp only;rw [R6];exact H5
  ·have ej:ki h.av i+j=ki h.av (i+1):=by rw [zd rI];omega
   rw [ej] at H;repeat' (first|refine Wz ?_|fail);exact ae.again (i+1,p1) ⟨rfl,rfl,rfl,rfl,trivial⟩ (by simp only;omega) ⟨by simp only;omega,e1,e2,H,K0⟩
 ·have ei:i=h.av.length:=by omega
  have QV:lz h z0 z1 (ki h.av i)=bV (z0,z1) (a9 h.av):=by
   rw [ei,C7,lz,adf (ac3 _)]
  rw [QV] at H;repeat' (first|refine Wz ?_|fail);refine SW.rR (i:=3) H.eG rfl rfl rfl rfl fun w6 tm hg => ?_
  have H6:=H.drop tm hg;have K6:=K0.step hg (fun i e=>by cases e;exact .inl (.inl rfl)) (fun i e => .inl (J6 e));repeat' (first|refine Wz ?_|fail);exact ae.pI rfl ⟨_,rfl,_,H6,K6⟩
variable {cs:List Value}
theorem zW (r:ju) (l:List Block) (a:Int) (w:World) (hl:Sl w 3 aO r.Live.A r.Live.n l) (hu:l.Pairwise fun x y=>x.At<y.At) (hb:∀ b∈l,0<=b.At∧b.At<=255) (hn:r.Live.n<=1000000000000000000) (ha : 0<=a∧a<256) :
 bI prog 65 [.agg (dC r).toArray,.int .i64 a] w fun v _=>v = .tuple #[.int .i64 (bE l a:Int),.bool (bO l a)]:=by
 refine aE func65 rfl ntmps65 rfl ?_;refine CW.seq (CW.region (SW.box rfl rfl fun b1 w1 hw lc aW => ?_));refine Wz ?_
 refine Wk (jv _ _ _ _ a _ (hl.ext hw) _ (fun x hx w' _=>by
  have:=r9 x a w'
  have h:=hb x hx;rwa [jf (by omega) (by omega)] at this) hu hn) fun v w2 bt hv => ?_
 subst hv;have hw:=hw.trans bt;refine Wz ?_;exact ae.dj rfl rfl rfl ⟨_,rfl,hw,rfl⟩
def od (lo:Nat) (u:Heap×Int×Int) (v:Value) (w:World) : Prop := ∃ s:ju,v = .tuple #[.agg (dC s).toArray,.int .i64 u.2.1,.int .i64 u.2.2]∧jC w lo s u.1
theorem od.zero (e:Int) (lo:Nat) (w:World) : od lo (.zero,0,e) (.tuple #[.agg (dC .zero).toArray,.int .i64 0,.int .i64 e]) w:=⟨.zero,rfl,jC.zero w lo⟩
theorem HS.MD {k:HK} {p:HP} {s:ak×ak} (h:HS wb w k p s L) (hB:aS w i 41 cs) (bL:i≠k.b) : ¬ ky k p i:=fun hm=>by
 rcases hm with e|e|e|⟨y,hy,e⟩
 ·exact bL e
 ·exact h.zs.row.fb hB rfl (by rw [h.zs.own,e])
 ·exact h.ls.row.fb hB rfl e
 ·obtain ⟨l,_,hl⟩:=h.GF hy;exact hl.bC.fb hB rfl e
theorem ME {h:Heap} (hm:bJ h) : Cd h.dK (kM h 0) (kM h 1):=by
 obtain ⟨m0,m1,e,h0,h1⟩:=hm.ef;unfold kM;rw [e];exact ⟨rfl,h0,h1⟩
set_option maxHeartbeats 8000000 in
theorem pZ (r:ju) (h:Heap) (cpu o f:Int) (w:World) (hr:HY w r h) (hs:h.small) (NF:∀ z∈h.bp,fF z) (hO:mD w) :
 bI prog 28 [.agg (dC r).toArray,.int .i64 cpu,.int .i64 o,.int .i64 f] w fun v w' => ∃ u,cM h cpu o f u∧od w.heap.size u v w':=by
 refine aE func28 rfl ntmps28 rfl ?_;refine CW.seq (CW.region (SW.box rfl rfl fun b4 w1 hw fJ aH => ?_));have eu:=fJ;refine SW.alloc rfl fun b8 w2 bt oC bg => ?_
 have gz:w.heap.size<=b8:=ac2 hw.size oC
 have zX:b4≠b8:=by have:=aH.lt;omega
 (replace hw:=Ext.trans hw bt;replace aH:=aH.ext bt);have eC:=hr.cpus;obtain ⟨q,hq⟩ : ∃ q,iX h=q:=⟨_,rfl⟩
 have c1:∀ w',Ext w w'->bI prog 61 [.agg (dC r).toArray] w' fun v _=>v = .int .i64 (if q then 0 else 8):=fun w' hx=>by
  have:=qF r h w' (hr.ext hx) hs NF
  rwa [hq] at this
 cases q
 ·simp only [Bool.false_eq_true,if_false] at c1;repeat' (first|refine Wy ?_|refine Wm ((fun _ _=>aH.cell)) ?_|(refine Wk (c1 _ hw) ?_;intro v w1 ai hv;subst hv;replace hw:=Ext.trans hw ai;replace aH:=aH.ext ai;replace bg:=bg.ext ai;clear ai))
  refine SW.ag bg rfl rfl rfl rfl (dU .zero) fun w5 cS hg => ?_
  replace hw:=hw.own gz hg;repeat' (first|refine Wy ?_|fail);exact ae.e8 rfl rfl rfl rfl cS rfl ⟨_,rfl,hw,_,.bad hq,od.zero 8 _ _⟩
 ·simp only [if_true] at c1;have hm:=cn.1 hq;obtain ⟨z0,z1,F⟩:=gq hm;by_cases hc:(0<=cpu∧cpu<h.bG)∧0<=o∧o<=4
  ·obtain ⟨q2,uu⟩ : ∃ q2,decide (0<=jA f)=q2:=⟨_,rfl⟩
   have c2:∀ w',bI prog 62 [.int .i64 f] w' fun v _=>v = .tuple #[.int .i64 (if 0<=jA f then jA f else 0),.bool q2]:=fun w'=>by
    have:=G7 f w'
    rwa [uu] at this
   cases q2
   ·have ht:=of_decide_eq_false uu;repeat' (first|refine Wy ?_|(refine CW.gj rfl ?_)|refine Wm ((fun _ _=>aH.cell)) ?_|refine Wl (aH.cell (i:=2) (v := .int .i64 r.bG) rfl) ?_|((first|refine Wk (c1 _ hw) ?_|refine Wk (c2 _) ?_);intro v w1 ai hv;subst hv;replace hw:=Ext.trans hw ai;replace aH:=aH.ext ai;replace bg:=bg.ext ai;clear ai))
    all_goals try omega
    refine SW.ag bg rfl rfl rfl rfl (dU .zero) fun w5 cS hg => ?_
    replace hw:=hw.own gz hg;repeat' (first|refine Wy ?_|fail);exact ae.e8 rfl rfl rfl rfl cS rfl ⟨_,rfl,hw,_,.form hq hc (by omega),od.zero 3 _ _⟩
   ·have ht:=of_decide_eq_true uu;obtain ⟨hf,yY⟩:=sr ht;obtain ⟨t,OQ⟩ : ∃ t,jA f=t:=⟨_,rfl⟩;have ru : 0<=t:=by rw [<- OQ];exact ht
    simp only [OQ,if_pos ru] at c2;repeat' (first|refine Wy ?_|(refine CW.fU rfl ?_)|refine Wm ((fun _ _=>aH.cell)) ?_|refine Wl (aH.cell (i:=2) (v := .int .i64 r.bG) rfl) ?_|((first|refine Wk (c1 _ hw) ?_|refine Wk (c2 _) ?_);intro v w1 ai hv;subst hv;replace hw:=Ext.trans hw ai;replace aH:=aH.ext ai;replace bg:=bg.ext ai;clear ai))
    all_goals try omega
    clear c1 c2;refine Wk (tW r h _ (hr.ext hw) hs) fun v w4 ko hv => ?_
    obtain ⟨s,rfl,MF⟩:=hv;have hM:=MF.own.ef.low hw.size;have hV:=MF.own.live.low hw.size;have Be:=MF.own.cpus;obtain ⟨g,c,u0,u1,ls,eZ,hZ,hL,xB,NE⟩:=MF.split F.d.cr;have hZ:gu w4 w.heap.size g c u0 u1 (z0,z1):=⟨hZ.row.low hw.size,hZ.z0.low hw.size,hZ.z1.low hw.size,ac2 hw.size hZ.Ij,hZ.pos⟩
    replace hL:=hL.low hw.size;clear MF;(replace hw:=Ext.trans hw ko;replace aH:=aH.ext ko;replace bg:=bg.ext ko);obtain ⟨sz,m,cp,li,lv⟩:=s;simp only at eZ hM hV hL xB NE Be;subst eZ;refine SW.ag aH rfl rfl rfl rfl (dU ⟨⟨some ⟨g,0,none⟩,2,c⟩,m,cp,li,lv⟩) fun w5 cW hg => ?_
    have hG:=aH.gr hg;replace hw:=hw.own eu hg;replace bg:=bg.grown hg (by simpa using Ne.symm zX);(replace hZ:=hZ.aN hG rfl;replace hM:=hM.aN hG rfl;replace hV:=hV.aN hG rfl;replace hL:=hL.aN hG rfl);have H:HS w w5 ⟨b4,g,c,m,lv,cp,h.dK,h.Live⟩ ⟨u0,u1,li,ls⟩ (z0,z1) h.av:=⟨cW,hZ,hM,hV,hL,xB,NE,eu,hw⟩
    obtain ⟨k,hk⟩ : ∃ k:HK,k=⟨b4,g,c,m,lv,cp,h.dK,h.Live⟩:=⟨_,rfl⟩;obtain ⟨p0,Bf⟩ : ∃ p:HP,p=⟨u0,u1,li,ls⟩:=⟨_,rfl⟩;rw [<- hk,<- Bf] at H;have ekb:k.b=b4:=by rw [hk]
    have US:k.V=h.Live:=by rw [hk]
    have WE:k.M=h.dK:=by rw [hk]
    have Yn:k.cp=h.bG:=by rw [hk];exact Be
    clear aH cW hZ hM hV hL xB NE hG hg hk Bf Be;subst ekb;have Yo:Cd k.M (kM h 0) (kM h 1):=by rw [WE];exact ME hm
    have DQ:=F.d.start.vs;have TI:=H.MD bg (Ne.symm zX);have eQ:=kE F.live
    have SR:∀ b∈h.Live,0<=b.At∧b.At<=255:=fun b hb=>by
     obtain ⟨j,hj,rfl⟩:=ac1 hb;have:=(F.next hj).at_
     omega
    have mv:=EX F;repeat' (first|refine Wy ?_|fail);refine SW.dT rfl rfl (xi k p0 (z0,z1) h.av _ _ cpu o t f w _ H hO Yo DQ F.nV F.lists F.count hc.2 hf) fun v w6 NJ => ?_
    obtain ⟨q1,oO,rfl,p1,H1,K1⟩:=NJ;have MG:=K1.not TI bg.lt;replace bg:=K1.eG bg TI;clear H hw TI;have hw:=H1.base;cases q1 with
    | none =>
      simp only [TH,Rg] at H1;have Yp:=fH F.d;repeat' (first|refine Wy ?_|(refine CW.gj rfl ?_))
      refine SW.dT rfl rfl (G8 k p1 h z0 z1 F.d hs w _ H1) fun v w7 WA => ?_
      obtain ⟨p2,H2,K2⟩:=WA;have Rl:=K2.not MG bg.lt;replace bg:=K2.eG bg MG;clear H1 hw MG;have hw:=H2.base;repeat' (first|refine Wy ?_|fail);refine SW.dT rfl rfl (xi k p2 _ [] _ _ cpu o t f w _ H2 hO Yo Yp.vs List.Pairwise.nil (fun l hl=>by simp at hl) (by simp) hc.2 hf) fun v w8 Wv => ?_
      obtain ⟨q3,WG,rfl,p3,H3,K3⟩:=Wv;have TM:=K3.not Rl bg.lt;replace bg:=K3.eG bg Rl;clear H2 hw Rl;have hw:=H3.base;cases q3 with
      | none =>
        repeat' (first|refine Wy ?_|(refine CW.gj rfl ?_))
        refine SW.ag bg rfl rfl rfl rfl (dU .zero) fun w5 cS hg => ?_
        replace hw:=hw.own gz hg;repeat' (first|refine Wy ?_|fail);exact ae.e8 rfl rfl rfl rfl cS rfl ⟨_,rfl,hw,_,.room hq hc ht F.d.cr (by rw [OQ];exact oO) (by rw [OQ];exact WG),od.zero 6 _ _⟩
      | some q3 =>
        obtain ⟨s3,L3,a⟩:=q3;simp only [TH,Rg] at H3;obtain ⟨i,TN,Q9,OK⟩:=n9 F (WG.found Yp.vs).2;have TN:a=(i:Int):=TN
        have WH:cM h cpu o f (mU h s3 L3 (dQ h a o t),a,0):=by
         have:=cM.gw hq hc ht F.d.cr (by rw [OQ];exact oO) (by rw [OQ];exact WG)
         rw [OQ] at this;exact this
        have R9:=H3.live.len;rw [US] at R9;obtain ⟨fd,WI⟩ : ∃ fd,bO h.Live a=fd:=⟨_,rfl⟩
        have c3:∀ w',Sl w' 3 aO k.lv.A k.lv.n h.Live->bI prog 65 [.agg (dC (k.h p3)).toArray,.int .i64 a] w' fun v _=>v = .tuple #[.int .i64 (bE h.Live a:Int),.bool fd]:=fun w' hh=>by
         have:=zW (k.h p3) h.Live a w' hh eQ SR (by simp only;omega) ⟨by omega,by omega⟩
         rwa [WI] at this
        have hV:=H3.live;rw [US] at hV;have aH:=H3.eG;have hZ:=H3.zs;have hM:=H3.ef;have hL:=H3.ls;rw [WE] at hM;have Sj:=H3.sf;clear H3;have PD:=hV.lt_size;repeat' (first|refine Wy ?_|(refine CW.fU rfl ?_)|refine Wm ((fun _ _=>aH.cell)) ?_|(refine Wk (c3 _ hV.sl) ?_;intro v w1 ai hv;subst hv;replace hw:=Ext.trans hw ai;replace aH:=aH.ext ai;replace bg:=bg.ext ai;replace hV:=hV.ext ai;replace hZ:=hZ.ext ai;replace hM:=hM.ext ai;replace hL:=hL.ext ai;clear ai))
        repeat' (first|refine Wy ?_|refine Wl (aH.cell (i:=4) (v := .slice k.lv.A k.lv.n k.lv.c) rfl) ?_)
        refine SW.dR rfl rfl rfl rfl rfl fun b w9 ar VH hB => ?_
        have vQ:aI k.lv.A k.lv.c≠some b:=fun e=>by have:=hV.lt_size _ e;omega
        (replace hw:=Ext.trans hw ar;replace aH:=aH.ext ar;replace bg:=bg.ext ar;replace hV:=hV.ext ar;replace hZ:=hZ.ext ar;replace hM:=hM.ext ar;replace hL:=hL.ext ar);skip;have AL:bE h.Live a<=h.Live.length:=List.findIdx_le_length
        refine SW.dT rfl rfl (kC k.lv.A k.lv.n k.lv.c w.heap.size h.Live _ hV (bE h.Live a) (by omega) ⟨a,o,t⟩ b hB vQ (by omega) hw.size) fun v qU hv => ?_
        obtain ⟨A',c',rfl,Dj,hg⟩:=hv;have hG:=hV.gr hg;replace hw:=aF hw hg (ac3 _) hV.ba;replace hZ:=hZ.GJ Sj hg hG;(replace aH:=aH.aN hG rfl;replace bg:=bg.aN hG rfl;replace hM:=hM.aN hG rfl;replace hL:=hL.aN hG rfl);repeat' (first|refine Wy ?_|fail);refine Wb (i:=4) aH fun rq cW hg => ?_
        have hG:=aH.gr hg;replace hw:=hw.own eu hg;replace bg:=bg.grown hg (by simpa using Ne.symm zX);(replace hZ:=hZ.aN hG rfl;replace hM:=hM.aN hG rfl;replace hL:=hL.aN hG rfl;replace Dj:=Dj.aN hG rfl);replace aH:aS rq k.b 41 (dC ⟨⟨some ⟨k.g,0,none⟩,2,k.c⟩,k.m,k.cp,p3.li,⟨A',k.lv.n+1,c'⟩⟩):=cW;repeat' (first|refine Wy ?_|refine Wm ((fun _ _=>aH.cell)) ?_)
        refine SW.ag bg rfl rfl rfl rfl (dU ⟨⟨some ⟨k.g,0,none⟩,2,k.c⟩,k.m,k.cp,p3.li,⟨A',k.lv.n+1,c'⟩⟩) fun jb cS hg => ?_
        have hG:=bg.gr hg;replace hw:=hw.own gz hg;(replace hZ:=hZ.aN hG rfl;replace hM:=hM.aN hG rfl;replace hL:=hL.aN hG rfl;replace Dj:=Dj.aN hG rfl);repeat' (first|refine Wy ?_|fail);exact ae.e8 rfl rfl rfl rfl cS rfl ⟨_,rfl,hw,_,WH,⟨⟨some ⟨k.g,0,none⟩,2,k.c⟩,k.m,k.cp,p3.li,⟨A',k.lv.n+1,c'⟩⟩,rfl,⟨Yn,hM,Dj,⟨[p3.u0,p3.u1],⟨hZ.row,fY.two hZ.z0 hZ.z1⟩⟩,⟨p3.ls,hL⟩⟩⟩
    | some q3 =>
      obtain ⟨s3,L3,a⟩:=q3;simp only [TH,Rg] at H1;obtain ⟨i,TN,Q9,OK⟩:=pU F (oO.found DQ).2;have TN:a=(i:Int):=TN
      have WH:cM h cpu o f (mU h s3 L3 (dQ h a o t),a,0):=by
       have:=cM.once hq hc ht F.d.cr (by rw [OQ];exact oO)
       rw [OQ] at this;exact this
      have H3:=H1;have TM:=MG;obtain ⟨p3,hp3⟩ : ∃ p3,p1=p3:=⟨_,rfl⟩;rw [hp3] at H3 TM;clear H1 MG;have R9:=H3.live.len;rw [US] at R9;obtain ⟨fd,WI⟩ : ∃ fd,bO h.Live a=fd:=⟨_,rfl⟩
      have c3:∀ w',Sl w' 3 aO k.lv.A k.lv.n h.Live->bI prog 65 [.agg (dC (k.h p3)).toArray,.int .i64 a] w' fun v _=>v = .tuple #[.int .i64 (bE h.Live a:Int),.bool fd]:=fun w' hh=>by
       have:=zW (k.h p3) h.Live a w' hh eQ SR (by simp only;omega) ⟨by omega,by omega⟩
       rwa [WI] at this
      have hV:=H3.live;rw [US] at hV;have aH:=H3.eG;have hZ:=H3.zs;have hM:=H3.ef;have hL:=H3.ls;rw [WE] at hM;have Sj:=H3.sf;clear H3;have PD:=hV.lt_size;repeat' (first|refine Wy ?_|(refine CW.fU rfl ?_)|refine Wm ((fun _ _=>aH.cell)) ?_|(refine Wk (c3 _ hV.sl) ?_;intro v w1 ai hv;subst hv;replace hw:=Ext.trans hw ai;replace aH:=aH.ext ai;replace bg:=bg.ext ai;replace hV:=hV.ext ai;replace hZ:=hZ.ext ai;replace hM:=hM.ext ai;replace hL:=hL.ext ai;clear ai))
      repeat' (first|refine Wy ?_|refine Wl (aH.cell (i:=4) (v := .slice k.lv.A k.lv.n k.lv.c) rfl) ?_)
      refine SW.dR rfl rfl rfl rfl rfl fun b w9 ar VH hB => ?_
      have vQ:aI k.lv.A k.lv.c≠some b:=fun e=>by have:=hV.lt_size _ e;omega
      (replace hw:=Ext.trans hw ar;replace aH:=aH.ext ar;replace bg:=bg.ext ar;replace hV:=hV.ext ar;replace hZ:=hZ.ext ar;replace hM:=hM.ext ar;replace hL:=hL.ext ar);skip;have AL:bE h.Live a<=h.Live.length:=List.findIdx_le_length
      refine SW.dT rfl rfl (kC k.lv.A k.lv.n k.lv.c w.heap.size h.Live _ hV (bE h.Live a) (by omega) ⟨a,o,t⟩ b hB vQ (by omega) hw.size) fun v qU hv => ?_
      obtain ⟨A',c',rfl,Dj,hg⟩:=hv;have hG:=hV.gr hg;replace hw:=aF hw hg (ac3 _) hV.ba;replace hZ:=hZ.GJ Sj hg hG;(replace aH:=aH.aN hG rfl;replace bg:=bg.aN hG rfl;replace hM:=hM.aN hG rfl;replace hL:=hL.aN hG rfl);repeat' (first|refine Wy ?_|fail);refine Wb (i:=4) aH fun rq cW hg => ?_
      have hG:=aH.gr hg;replace hw:=hw.own eu hg;replace bg:=bg.grown hg (by simpa using Ne.symm zX);(replace hZ:=hZ.aN hG rfl;replace hM:=hM.aN hG rfl;replace hL:=hL.aN hG rfl;replace Dj:=Dj.aN hG rfl);replace aH:aS rq k.b 41 (dC ⟨⟨some ⟨k.g,0,none⟩,2,k.c⟩,k.m,k.cp,p3.li,⟨A',k.lv.n+1,c'⟩⟩):=cW;repeat' (first|refine Wy ?_|refine Wm ((fun _ _=>aH.cell)) ?_)
      refine SW.ag bg rfl rfl rfl rfl (dU ⟨⟨some ⟨k.g,0,none⟩,2,k.c⟩,k.m,k.cp,p3.li,⟨A',k.lv.n+1,c'⟩⟩) fun jb cS hg => ?_
      have hG:=bg.gr hg;replace hw:=hw.own gz hg;(replace hZ:=hZ.aN hG rfl;replace hM:=hM.aN hG rfl;replace hL:=hL.aN hG rfl;replace Dj:=Dj.aN hG rfl);repeat' (first|refine Wy ?_|fail);exact ae.e8 rfl rfl rfl rfl cS rfl ⟨_,rfl,hw,_,WH,⟨⟨some ⟨k.g,0,none⟩,2,k.c⟩,k.m,k.cp,p3.li,⟨A',k.lv.n+1,c'⟩⟩,rfl,⟨Yn,hM,Dj,⟨[p3.u0,p3.u1],⟨hZ.row,fY.two hZ.z0 hZ.z1⟩⟩,⟨p3.ls,hL⟩⟩⟩
  ·repeat' (first|refine Wy ?_|refine SW.fZ rfl rfl rfl (fun h => ?_) (fun h => ?_)|refine Wm ((fun _ _=>aH.cell)) ?_|refine Wl (aH.cell (i:=2) (v := .int .i64 r.bG) rfl) ?_|(refine Wk (c1 _ hw) ?_;intro v w1 ai hv;subst hv;replace hw:=Ext.trans hw ai;replace aH:=aH.ext ai;replace bg:=bg.ext ai;clear ai))
   all_goals try omega
   all_goals
    refine SW.ag bg rfl rfl rfl rfl (dU .zero) fun w5 cS hg => ?_
    replace hw:=hw.own gz hg;repeat' (first|refine Wy ?_|fail);exact ae.e8 rfl rfl rfl rfl cS rfl ⟨_,rfl,hw,_,.range hq hc,od.zero 1 _ _⟩
variable {ops:Array Oper} {Q:Exit->Act->World->Prop} {b k:Nat} {tb:TypeId}
theorem SW.gi {n:Nat} {rest:List Oper} {L:Env} {pos:String} [G:fu P t k] {vs:List Value} {x:Operand} (o:Nat)
 (hB:aS w b tb cs) (hx:cK L x=some (.pointer (some ((⟨b,0,none⟩ : Addr).add o)))) (hy:cK L y=some (.agg vs.toArray)) (hl:vs.length=k) (hc:o+k<=cs.length) (h1:∀ v∈vs,v.oneCell'=true) (cs':List Value) (lJ:cs.take o++vs++cs.drop (o+k)=cs')
 (h:∀ w',aS w' b tb cs'->w.grownBy w' (some b)->SW P n ops (.gL Q) rest L w') : SW P n ops (.gL Q) (⟨none,.store t x y,T,pos,af,none⟩::rest) L w :=
 ⟨fun a ha=>by
  rw [cU] at hx;have AH:=run_storeCells_at P b o tb vs 0 cs.toArray w hB (by simp only [List.size_toArray];omega) h1;simp only [Nat.add_zero,hl,lJ] at AH;simp only [swp,wpList,Region.wanted,if_true];refine .inl ?_;unfold Oper.wp
  have sb:(execOp a.eval ⟨none,.store t x y,T,pos,af,none⟩).run P w = .ok .skip (w.setRow b cs'.toArray):=by
   simp [execOp,ha.eval hx,ha.eval hy,Instr.storeAt,Instr.sureAddr,storeVar,Value.cells,run_sizeOf G.size,hl,AH]
  rw [sb,Oper.upon_skip];obtain ⟨vI,KQ⟩:=ia (cs:=cs') hB;exact (h _ vI KQ).out _ ha⟩
end Go.Proofs.YtohigmjjbgpfmaaGreatDoor
