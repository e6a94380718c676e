/- Part 7 of what topWords_holds leans on. -/
import Derived.Test.YtohigmjjbgpfmaaGreatDoorPackTopWords6
set_option linter.unusedVariables false
set_option linter.unusedSimpArgs false
set_option linter.defProp false
open Go.Proofs.Tryz
namespace Go.Proofs.YtohigmjjbgpfmaaGreatDoor
variable {r:(ak×ak)×List aR×Int} {cpu fl m0 m1 o zi:Int} {bs:List Block} {L:List aR} {r':Option ((ak×ak)×List aR×Int)} {z':ak}
def jA (fl:Int) : Int:=if 0<=fl∧fl<=15 then (if fl / 2 % 4=0 then 0 else if fl / 2 % 4=1 then 1 else if fl / 2 % 4=2 then 2 else -1) else -1
theorem sr (h : 0<=jA fl) : (0<=fl∧fl<=15)∧kH (jA fl):=by
 unfold jA kH at *;split at h
 ·rename_i hf;rw [if_pos hf];refine ⟨hf,?_⟩;repeat' split
  all_goals omega
 ·omega
def xJ (s:ak×ak) (zi:Int) : ak:=if zi=0 then s.1 else s.2
def ss (s:ak×ak) (zi:Int) (z:ak) : ak×ak:=if zi=0 then (z,s.2) else (s.1,z)
def BR (m0 m1:Int) (s:ak×ak) (zi fl:Int) : Int:=(if 8<=fl then (if zi=0 then m0 else m1) / 2 else (if zi=0 then m0 else m1))+(if zi=0∧fl % 2=0 then (s.2.To-s.2.aU) / 32 else 0)
def jJ (m0 m1:Int) (s:ak×ak) (zi o fl:Int) : Prop:=BR m0 m1 s zi fl<=jW (xJ s zi).aj-pw o
inductive jK (m0 m1 zi t fl:Int) : ak×ak->List Int->(ak×ak)×List Int->Prop
 | full {s:ak×ak} {l:List Int} (h:l.length=3) : jK m0 m1 zi t fl s l (s,l)
 | mT {s:ak×ak} {l:List Int} (h:l.length<3) (he : ¬ jJ m0 m1 s zi 0 fl) : jK m0 m1 zi t fl s l (s,l)
 | none {s:ak×ak} {l:List Int} {u:ak×Int×Int} (h:l.length<3) (he:jJ m0 m1 s zi 0 fl) (ht:ib (xJ s zi) 0 t u) (hu:u.2.2≠0) : jK m0 m1 zi t fl s l (s,l)
 | more {s:ak×ak} {l:List Int} {u:ak×Int×Int} {r:(ak×ak)×List Int} (h:l.length<3) (he:jJ m0 m1 s zi 0 fl) (ht:ib (xJ s zi) 0 t u) (hu:u.2.2=0) (hr:jK m0 m1 zi t fl (ss s zi u.1) (l++[u.2.1]) r) : jK m0 m1 zi t fl s l r
theorem jK.dm {t:Int} {s:ak×ak} {l:List Int} {r r':(ak×ak)×List Int} (h:jK m0 m1 zi t fl s l r) : jK m0 m1 zi t fl s l r'->r=r':=by
 induction h with
 | full h=>intro k;cases k with
   | full=>rfl
   | mT h'|none h'|more h'=>omega
 | mT h he=>intro k;cases k with
   | full h'=>omega
   | mT=>rfl
   | none _ gV|more _ gV=>exact absurd gV he
 | none h he ht hu=>intro k;cases k with
   | full h'=>omega
   | mT _ gV=>exact absurd he gV
   | none=>rfl
   | more _ _ ru ua=>rw [ht.dm ru] at hu;exact absurd ua hu
 | more h he ht hu hr ih=>intro k;cases k with
   | full h'=>omega
   | mT _ gV=>exact absurd he gV
   | none _ _ ru ua=>rw [ht.dm ru] at hu;exact absurd hu ua
   | more _ _ ru ua qf =>
     have e:=ht.dm ru;subst e;exact ih qf
def fG (x:aR) (pg:List Int) : aR:=⟨x.fV,x.ak,x.Ty,pg⟩
def wk (L:List aR) (x:aR) (pg:List Int) : List aR:=if pg.length<=1 then L.eraseIdx (bu L x) else L.set (bu L x) (fG x pg.dropLast)
def kd (L:List aR) (x:aR) (pg:List Int) : List aR:=if pg=[] then L else iU L (fG x pg)
inductive jN (m0 m1 cpu zi o t fl:Int) (s:ak×ak) (L:List aR) : Option ((ak×ak)×List aR×Int)->Prop
 | list (ho:o=0) (hk:dx L ⟨cpu,zi,t,[]⟩=true) (hp:dc L ⟨cpu,zi,t,[]⟩≠[]) : jN m0 m1 cpu zi o t fl s L (some (s,wk L ⟨cpu,zi,t,[]⟩ (dc L ⟨cpu,zi,t,[]⟩),(dc L ⟨cpu,zi,t,[]⟩).getLast hp))
 | mT (hn : ¬ (o=0∧dx L ⟨cpu,zi,t,[]⟩=true)) (he : ¬ jJ m0 m1 s zi o fl) : jN m0 m1 cpu zi o t fl s L none
 | none {u:ak×Int×Int} (hn : ¬ (o=0∧dx L ⟨cpu,zi,t,[]⟩=true)) (he:jJ m0 m1 s zi o fl) (ht:ib (xJ s zi) o t u) (hu:u.2.2≠0) : jN m0 m1 cpu zi o t fl s L none
 | uv {u:ak×Int×Int} (ho : 0<o) (he:jJ m0 m1 s zi o fl) (ht:ib (xJ s zi) o t u) (hu:u.2.2=0) : jN m0 m1 cpu zi o t fl s L (some (ss s zi u.1,L,u.2.1))
 | fill {u:ak×Int×Int} {r:(ak×ak)×List Int} (ho:o=0) (hk:dx L ⟨cpu,zi,t,[]⟩=false) (he:jJ m0 m1 s zi o fl) (ht:ib (xJ s zi) o t u) (hu:u.2.2=0) (hr:jK m0 m1 zi t fl (ss s zi u.1) [] r) : jN m0 m1 cpu zi o t fl s L (some (r.1,kd L ⟨cpu,zi,t,[]⟩ r.2,u.2.1))
theorem jN.dm {t:Int} {s:ak×ak} {r:Option ((ak×ak)×List aR×Int)} (h:jN m0 m1 cpu zi o t fl s L r) (k:jN m0 m1 cpu zi o t fl s L r') : r=r':=by
 cases h with
 | list ho hk hp=>cases k with
   | list=>rfl
   | mT hn|none hn=>exact absurd ⟨ho,hk⟩ hn
   | uv nK=>omega
   | fill _ bW=>rw [hk] at bW;cases bW
 | mT hn he=>cases k with
   | list ho hk=>exact absurd ⟨ho,hk⟩ hn
   | mT=>rfl
   | none _ gV|uv _ gV|fill _ _ gV=>exact absurd gV he
 | none hn he ht hu=>cases k with
   | list ho hk=>exact absurd ⟨ho,hk⟩ hn
   | mT _ gV=>exact absurd he gV
   | none=>rfl
   | uv _ _ ru ua|fill _ _ _ ru ua=>rw [ht.dm ru] at hu;exact absurd ua hu
 | uv ho he ht hu=>cases k with
   | list nK=>omega
   | mT _ gV=>exact absurd he gV
   | none _ _ ru ua=>rw [ht.dm ru] at hu;exact absurd hu ua
   | uv _ _ ru=>rw [ht.dm ru]
   | fill nK=>omega
 | fill ho hk he ht hu hr=>cases k with
   | list _ bW=>rw [hk] at bW;cases bW
   | mT _ gV=>exact absurd he gV
   | none _ _ ru ua=>rw [ht.dm ru] at hu;exact absurd hu ua
   | uv nK=>omega
   | fill _ _ _ ru _ qf =>
     have e:=ht.dm ru;subst e;rw [hr.dm qf]
inductive mg (m0 m1 cpu o t fl:Int) (s:ak×ak) (L:List aR) : Option ((ak×ak)×List aR×Int)->Prop
 | vU {r:(ak×ak)×List aR×Int} (hf:fl % 2=0) (h:jN m0 m1 cpu 1 o t fl s L (some r)) : mg m0 m1 cpu o t fl s L (some r)
 | low {r:Option ((ak×ak)×List aR×Int)} (hf:fl % 2=0->jN m0 m1 cpu 1 o t fl s L none) (h:jN m0 m1 cpu 0 o t fl s L r) : mg m0 m1 cpu o t fl s L r
theorem mg.dm {t:Int} {s:ak×ak} {r:Option ((ak×ak)×List aR×Int)} (h:mg m0 m1 cpu o t fl s L r) (k:mg m0 m1 cpu o t fl s L r') : r=r':=by
 cases h with
 | vU hf h=>cases k with
   | vU _ h'=>exact h.dm h'
   | low FR=>cases h.dm (FR hf)
 | low hf h=>cases k with
   | vU FR h'=>cases h'.dm (hf FR)
   | low _ h'=>exact h.dm h'
def kM (h:Heap) (i:Nat) : Int:=h.dK.getD i 0
def mU (h:Heap) (s:ak×ak) (L:List aR) (lv:List Block) : Heap:=⟨[s.1,s.2],h.dK,h.bG,L,lv⟩
def dQ (h:Heap) (at_ o t:Int) : List Block:=aM h.Live (bE h.Live at_) ⟨at_,o,t⟩
inductive cM (h:Heap) (cpu o fl:Int) : Heap×Int×Int->Prop
 | bad (hb:iX h=false) : cM h cpu o fl (.zero,0,8)
 | range (hb:iX h=true) (hr : ¬ ((0<=cpu∧cpu<h.bG)∧0<=o∧o<=4)) : cM h cpu o fl (.zero,0,1)
 | form (hb:iX h=true) (hr:(0<=cpu∧cpu<h.bG)∧0<=o∧o<=4) (ht:jA fl<0) : cM h cpu o fl (.zero,0,3)
 | once {z0 z1:ak} {r:(ak×ak)×List aR×Int} (hb:iX h=true) (hr:(0<=cpu∧cpu<h.bG)∧0<=o∧o<=4) (ht : 0<=jA fl) (hz:h.bp=[z0,z1]) (ha:mg (kM h 0) (kM h 1) cpu o (jA fl) fl (z0,z1) h.av (some r)) :
    cM h cpu o fl (mU h r.1 r.2.1 (dQ h r.2.2 o (jA fl)),r.2.2,0)
 | gw {z0 z1:ak} {r:(ak×ak)×List aR×Int} (hb:iX h=true) (hr:(0<=cpu∧cpu<h.bG)∧0<=o∧o<=4) (ht : 0<=jA fl) (hz:h.bp=[z0,z1]) (ha:mg (kM h 0) (kM h 1) cpu o (jA fl) fl (z0,z1) h.av none)
    (h2:mg (kM h 0) (kM h 1) cpu o (jA fl) fl (bV (z0,z1) (a9 h.av)) [] (some r)) : cM h cpu o fl (mU h r.1 r.2.1 (dQ h r.2.2 o (jA fl)),r.2.2,0)
 | room {z0 z1:ak} (hb:iX h=true) (hr:(0<=cpu∧cpu<h.bG)∧0<=o∧o<=4) (ht : 0<=jA fl) (hz:h.bp=[z0,z1]) (ha:mg (kM h 0) (kM h 1) cpu o (jA fl) fl (z0,z1) h.av none)
    (h2:mg (kM h 0) (kM h 1) cpu o (jA fl) fl (bV (z0,z1) (a9 h.av)) [] none) : cM h cpu o fl (.zero,0,6)
theorem cM.dm {h:Heap} {u v:Heap×Int×Int} (a:cM h cpu o fl u) (b:cM h cpu o fl v) : u=v:=by
 cases a with
 | bad hb=>cases b with
   | bad=>rfl
   | range iq|form iq|once iq|gw iq|room iq=>rw [hb] at iq;cases iq
 | range hb hr=>cases b with
   | bad iq=>rw [hb] at iq;cases iq
   | range=>rfl
   | form _ qf|once _ qf|gw _ qf|room _ qf=>exact absurd qf hr
 | form hb hr ht=>cases b with
   | bad iq=>rw [hb] at iq;cases iq
   | range _ qf=>exact absurd hr qf
   | form=>rfl
   | once _ _ ru|gw _ _ ru|room _ _ ru=>omega
 | once hb hr ht hz ha=>cases b with
   | bad iq=>rw [hb] at iq;cases iq
   | range _ qf=>exact absurd hr qf
   | form _ _ ru=>omega
   | once _ _ _ ow mm=>rw [hz] at ow;simp only [List.cons.injEq,and_true] at ow;obtain ⟨rfl,rfl⟩:=ow;cases ha.dm mm;rfl
   | gw _ _ _ ow mm|room _ _ _ ow mm=>rw [hz] at ow;simp only [List.cons.injEq,and_true] at ow;obtain ⟨rfl,rfl⟩:=ow;cases ha.dm mm
 | gw hb hr ht hz ha h2=>cases b with
   | bad iq=>rw [hb] at iq;cases iq
   | range _ qf=>exact absurd hr qf
   | form _ _ ru=>omega
   | once _ _ _ ow mm=>rw [hz] at ow;simp only [List.cons.injEq,and_true] at ow;obtain ⟨rfl,rfl⟩:=ow;cases ha.dm mm
   | gw _ _ _ ow mm nc=>rw [hz] at ow;simp only [List.cons.injEq,and_true] at ow;obtain ⟨rfl,rfl⟩:=ow;cases h2.dm nc;rfl
   | room _ _ _ ow mm nc=>rw [hz] at ow;simp only [List.cons.injEq,and_true] at ow;obtain ⟨rfl,rfl⟩:=ow;cases h2.dm nc
 | room hb hr ht hz ha h2=>cases b with
   | bad iq=>rw [hb] at iq;cases iq
   | range _ qf=>exact absurd hr qf
   | form _ _ ru=>omega
   | once _ _ _ ow mm=>rw [hz] at ow;simp only [List.cons.injEq,and_true] at ow;obtain ⟨rfl,rfl⟩:=ow;cases ha.dm mm
   | gw _ _ _ ow mm nc=>rw [hz] at ow;simp only [List.cons.injEq,and_true] at ow;obtain ⟨rfl,rfl⟩:=ow;cases h2.dm nc
   | room=>rfl
structure VS (s:ak×ak) : Prop where
 lN:bU s.1
 lq:bU s.2
 pK:s.1.aU=0
 DO:s.1.To=s.2.aU
 Jn:s.2.To=256
theorem VS.xJ {s:ak×ak} (h:VS s) (zi:Int) : bU (xJ s zi):=by unfold Go.Proofs.YtohigmjjbgpfmaaGreatDoor.xJ;split;exact h.lN;exact h.lq
theorem VS.tr {s:ak×ak} (h:VS s) (hk:PQ (Go.Proofs.YtohigmjjbgpfmaaGreatDoor.xJ s zi) z') : VS (ss s zi z'):=by
 obtain ⟨k1,k2,k3⟩:=hk;unfold Go.Proofs.YtohigmjjbgpfmaaGreatDoor.xJ at k2 k3;unfold ss;split
 ·rename_i e;rw [if_pos e] at k2 k3;exact ⟨k1,h.lq,by rw [k2];exact h.pK,by rw [k3];exact h.DO,h.Jn⟩
 ·rename_i e;rw [if_neg e] at k2 k3;exact ⟨h.lN,k1,h.pK,by rw [k2];exact h.DO,by rw [k3];exact h.Jn⟩
theorem jK.vs {t:Int} {s:ak×ak} {l:List Int} {r:(ak×ak)×List Int} (h:jK m0 m1 zi t fl s l r) : VS s->VS r.1∧r.2.length<=3:=by
 induction h with
 | full h=>exact fun k=>⟨k,by simp only;omega⟩
 | mT h he=>exact fun k=>⟨k,by simp only;omega⟩
 | none h=>exact fun k=>⟨k,by simp only;omega⟩
 | more h he ht hu hr ih=>exact fun k=>ih (k.tr (ht.jS hu).1)
theorem qC.vs {s:ak×ak} (h:qC s bs) : VS s:=⟨h.lN,h.lq,h.pK,h.DO,h.Jn⟩
def zE (s:ak×ak) (L:List aR) (a:Int) : Prop:=(∃ x∈s.1.aj,x.At=a)∨(∃ x∈s.2.aj,x.At=a) ∨ ∃ l∈L,a∈l.ax
theorem jN.found {t:Int} {s:ak×ak} (h:jN m0 m1 cpu zi o t fl s L (some r)) (hv:VS s) : VS r.1∧zE s L r.2.2:=by
 have fz:∀ {u:ak×Int×Int},ib (xJ s zi) o t u->u.2.2=0->VS (ss s zi u.1)∧zE s L u.2.1:=fun {u} ht hu=>by
  obtain ⟨k1,⟨x,hx,e⟩,_⟩:=ht.jS hu;refine ⟨hv.tr k1,?_⟩;unfold xJ at hx;split at hx
  ·exact .inl ⟨x,hx,e⟩
  ·exact .inr (.inl ⟨x,hx,e⟩)
 cases h with
 | list ho hk hp =>
   refine ⟨hv,.inr (.inr ?_)⟩;obtain ⟨hl,_⟩:=jY hk;refine ⟨_,ac0 hl,?_⟩;have e:=iK hk hl;have hm:∀ a,a∈dc L ⟨cpu,zi,t,[]⟩->a∈L[bu L ⟨cpu,zi,t,[]⟩].ax:=fun a ha=>by rw [e] at ha;exact ha
   exact hm _ (List.getLast_mem hp)
 | uv ho he ht hu=>exact fz ht hu
 | fill ho hk he ht hu hr=>exact ⟨(hr.vs (fz ht hu).1).1,(fz ht hu).2⟩
theorem mg.found {t:Int} {s:ak×ak} (h:mg m0 m1 cpu o t fl s L (some r)) (hv:VS s) : VS r.1∧zE s L r.2.2:=by
 cases h with
 | vU _ h=>exact h.found hv
 | low _ h=>exact h.found hv
variable {pg:List Int} {i:Nat}
theorem zF {y:aR} (hs:Er L) (hk:dx L y=false) : Er (aM L (bu L y) y):=by
 have h0:=hs;unfold Er at h0 ⊢;rw [<- ac4 (bu L y) L,adp] at h0;obtain ⟨h1,h2,h3⟩:=h0
 have hT:∀ z∈L.take (bu L y),da z y:=fun z hz=>by
  obtain ⟨j,hj,rfl⟩:=ac1 hz;rw [aeG] at hj;rw [adH];exact ze (by omega)
 have hD:∀ z∈L.drop (bu L y),da y z:=fun z hz=>by
  obtain ⟨j,hj,rfl⟩:=ac1 hz;rw [List.length_drop] at hj;rw [adZ];have h:=Og hk (by omega);rcases adj j with rfl|N7
  ·exact h
  ·exact wW h (hs.get (show bu L y+j<L.length by omega) (by omega))
 unfold aM;rw [ac6,adp];refine ⟨h1,?_,fun a ha b hb => ?_⟩
 ·rw [adn,adY];exact ⟨hD,h2⟩
 ·rw [adn,ad4] at hb;rcases hb with rfl|hb
  ·exact hT a ha
  ·exact h3 a ha b hb
section
variable {L:List aR} {x:aR} {pg:List Int}
theorem qO:iZ x (fG x pg):=⟨rfl,rfl,rfl⟩
theorem mh:kd L x []=L:=by simp [kd]
theorem pT (hk:dx L x=false) (hp:pg≠[]) : kd L x pg=aM L (bu L (fG x pg)) (fG x pg):=by
 rw [kd,if_neg hp,r6 (by rw [<- (ku (L:=L) (qO (x:=x) (pg:=pg))).2];exact hk)]
theorem Dl (hs:Er L) (hk:dx L x=false) : Er (kd L x pg):=by
 by_cases hp:pg=[]
 ·subst hp;rw [mh];exact hs
 ·rw [pT hk hp];exact zF hs (by rw [<- (ku (L:=L) (qO (x:=x) (pg:=pg))).2];exact hk)
theorem BS (hk:dx L x=false) : ∀ l∈kd L x pg,l∈L∨l=fG x pg:=fun l hl=>by
 by_cases hp:pg=[]
 ·subst hp;rw [mh] at hl;exact .inl hl
 ·rw [pT hk hp] at hl;unfold aM at hl;rw [ac9,ac9,aeT] at hl;rcases hl with (hl|hl)|hl
  ·exact .inl (adu hl)
  ·exact .inr hl
  ·exact .inl (adI hl)
theorem BU (hk:dx L x=false) : (kd L x pg).length<=L.length+1:=by
 by_cases hp:pg=[]
 ·subst hp;rw [mh];omega
 ·rw [pT hk hp,de _ (nj _ _)];omega
theorem GY (hk:dx L x=false) (a:Int) : iU (kd L x pg) ⟨x.fV,x.ak,x.Ty,dc (kd L x pg) x++[a]⟩=kd L x (pg++[a]):=by
 have bL:pg++[a]≠[]:=by simp
 by_cases hp:pg=[]
 ·subst hp;rw [mh,nG hk,kd,if_neg bL];rfl
 ·have e:kd L x pg=iU L (fG x pg):=by rw [kd,if_neg hp]
  obtain ⟨e1,e2⟩:=ku (L:=iU L (fG x pg)) (qO (x:=x) (pg:=pg));obtain ⟨e3,e4⟩:=Es (L:=L) (x:=fG x pg);obtain ⟨eQ,iu⟩:=ads.1 (zg (L:=L) (x:=fG x pg))
  have Z4:dc (iU L (fG x pg)) x=pg:=by
   rw [iK (by rw [e2];exact e4) (by rw [e1,e3];exact eQ)];simp only [e1,e3,iu]
   rfl
  rw [e,Z4,kd,if_neg bL];have qJ:iZ (fG x pg) (⟨x.fV,x.ak,x.Ty,pg++[a]⟩ : aR):=⟨rfl,rfl,rfl⟩
  obtain ⟨e5,e6⟩:=ku (L:=iU L (fG x pg)) qJ;rw [r5 (by rw [<- e6];exact e4),<- e5,e3];exact Et qJ
end
theorem Mj {x:aR} (h : 1<pg.length) : wk L x pg=L.set (bu L x) (fG x pg.dropLast):=by rw [wk,if_neg (by omega)]
theorem GZ {x:aR} (h:pg.length=1) : wk L x pg=L.eraseIdx (bu L x):=by rw [wk,if_pos (by omega)]
theorem G0 {l:List Int} (h:l≠[]) (hi:i<l.length) (e:i=l.length-1) : l.getLast h=l[i]:=by
 subst e;rw [List.getLast_eq_getElem]
variable {a:Int} {z z0 z1:ak}
theorem jy.sW {h:Heap} (f:jy h z0 z1) (ha:a=(i:Int)) (hc:ed (z0.aj++z1.aj++a9 h.av) i=true) : ∀ b∈h.Live,b.At≠a:=fun b hb e=>by
 obtain ⟨l,m,e1⟩:=List.append_of_mem hb;have fe:=f.all;rw [e1,<- ac6] at fe;have hf:=qD fe;obtain ⟨j,hj,rfl⟩:=ac1 hb;have Wc:=(f.live.each j hj).1;have hp:=cy Wc.1 Wc.2;obtain ⟨_,_,ho⟩:=hf;unfold ed at hc;rw [ade] at hc;obtain ⟨y,hy,TB⟩:=hc;unfold qi at TB;rw [adG,decide_eq_true_eq,decide_eq_true_eq] at TB
 have:ka (z0.aj++z1.aj++a9 h.av++l) h.Live[j].At h.Live[j].Order=true:=by
  unfold ka;rw [ade];refine ⟨y,adC _ hy,?_⟩;rw [adG,decide_eq_true_eq,decide_eq_true_eq];omega
 rw [ho] at this;cases this
theorem vh (hz:bU z) {x:Block} (hx:x∈z.aj) : ∃ i:Nat,x.At=(i:Int)∧i<256∧ed z.aj i=true:=by
 obtain ⟨j,hj,rfl⟩:=ac1 hx;have h1:=(hz.eG j hj).1;have h2:=hz.ok;obtain ⟨o1,o2,o3,o4,o5⟩:=h2;have hp:=cy h1.1 h1.2.1;obtain ⟨b1,b2,b3,b4,b5⟩:=h1;refine ⟨z.aj[j].At.toNat,by omega,by omega,?_⟩;unfold ed;rw [ade];refine ⟨_,hx,?_⟩;unfold qi;rw [adG,decide_eq_true_eq,decide_eq_true_eq];omega
theorem pU {h:Heap} (f:jy h z0 z1) (ha:zE (z0,z1) h.av a) : ∃ i:Nat,a=(i:Int)∧i<256∧ed (z0.aj++z1.aj++a9 h.av) i=true:=by
 rcases ha with ⟨x,hx,rfl⟩|⟨x,hx,rfl⟩|⟨l,hl,hp⟩
 ·obtain ⟨i,h1,h2,h3⟩:=vh f.d.lN hx;exact ⟨i,h1,h2,by rw [iY,iY,h3];rfl⟩
 ·obtain ⟨i,h1,h2,h3⟩:=vh f.d.lq hx;exact ⟨i,h1,h2,by rw [iY,iY,h3];simp⟩
 ·have hm:ct a∈a9 h.av:=by
   unfold a9;rw [adm];exact ⟨l,hl,List.mem_map_of_mem hp⟩
  obtain ⟨j,hj,e⟩:=ac1 hm;have hN:=f.d.next hj;rw [e] at hN;have h1:=hN.at_;simp only [ct] at h1;refine ⟨a.toNat,by omega,by omega,?_⟩;rw [iY]
  have:ed (a9 h.av) a.toNat=true:=by
   unfold ed;rw [ade];refine ⟨_,hm,?_⟩;unfold qi;rw [adG,decide_eq_true_eq,decide_eq_true_eq];have:pw 0=1:=by decide
   change a<=_∧_<a+pw 0
   omega
  rw [this];simp
theorem fH {h:Heap} (d:nU h z0 z1) : qC (bV (z0,z1) (a9 h.av)) (z0.aj++z1.aj++a9 h.av):=by
 have:=d.inv (a9 h.av).length (ac3 _)
 rwa [adS] at this
theorem n9 {h:Heap} (f:jy h z0 z1) (ha:zE (bV (z0,z1) (a9 h.av)) [] a) : ∃ i:Nat,a=(i:Int)∧i<256∧ed (z0.aj++z1.aj++a9 h.av) i=true:=by
 have hD:=fH f.d;rcases ha with ⟨x,hx,rfl⟩|⟨x,hx,rfl⟩|⟨l,hl,hp⟩
 ·obtain ⟨i,h1,h2,h3⟩:=vh hD.lN hx;exact ⟨i,h1,h2,by rw [<- hD.Ic,h3];rfl⟩
 ·obtain ⟨i,h1,h2,h3⟩:=vh hD.lq hx;exact ⟨i,h1,h2,by rw [<- hD.Ic,h3];simp⟩
 ·simp at hl
theorem EX {h:Heap} (f:jy h z0 z1) : h.Live.length<=256:=by
 have hu:=kE f.live;rw [ac8] at hu
 have key:∀ (i:Nat) (hi:i<h.Live.length),(i:Int)<=h.Live[i].At:=by
  intro i;induction i with
  | zero=>intro hi;have:=(f.next hi).at_;exact this.1
  | succ i ih=>intro hi;have h1:=ih (by omega);have h2:=hu i (i+1) (by omega) hi (by omega);omega
 rcases adA 256 h.Live.length with h1|h1
 ·have h2:=key 256 h1;have h3:=(f.next h1).at_;omega
 ·exact h1
open Go.RowKit
variable {f:Int}
theorem jN.lists {t:Int} {s:ak×ak} (h:jN m0 m1 cpu zi o t f s L (some r)) (hv:VS s) (hL:∀ l∈L,l.ax.length<=8) : r.2.1.length<=L.length+1 ∧ ∀ l∈r.2.1,l.ax.length<=8:=by
 cases h with
 | list ho hk hp =>
   obtain ⟨hl,_⟩:=jY hk;have e:=iK hk hl;have h8:=hL _ (ac0 hl);rw [<- e] at h8;simp only;unfold wk;split
   ·exact ⟨by have:=aep L (bu L ⟨cpu,zi,t,[]⟩);omega,fun l hl=>hL l (adJ hl)⟩
   ·refine ⟨by rw [adz];omega,fun l hl => ?_⟩;rcases adg hl with h1|rfl
    ·exact hL l h1
    ·simp only [fG,List.length_dropLast];omega
 | uv ho he ht hu=>exact ⟨by simp only;omega,hL⟩
 | @fill u r' ho hk he ht hu hr =>
   have h3:=(hr.vs (hv.tr (ht.jS hu).1)).2
   exact ⟨BU hk,fun l hl=>by
    rcases BS hk l hl with h1|rfl
    ·exact hL l h1
    ·simp only [fG];omega⟩
theorem mg.lists {t:Int} {s:ak×ak} (h:mg m0 m1 cpu o t f s L (some r)) (hv:VS s) (hL:∀ l∈L,l.ax.length<=8) : r.2.1.length<=L.length+1 ∧ ∀ l∈r.2.1,l.ax.length<=8:=by
 cases h with
 | vU _ h=>exact h.lists hv hL
 | low _ h=>exact h.lists hv hL
theorem cM.small {h:Heap} {u:Heap×Int×Int} (a:cM h cpu o f u) (hs:h.small) : u.1.small:=by
 have hz:(Heap.zero).small:=by constructor<;>simp [Heap.zero]
 have key:∀ (z0 z1:ak) (F:jy h z0 z1) (s:ak×ak) (L:List aR) (x:Int) (t:Int),VS s->L.length<=257->(∀ l∈L,l.ax.length<=8)->(mU h s L (dQ h x o t)).small:=fun z0 z1 F s L x t hv h1 h2=>by
  have Sf:=kq hv.lN;have AV:=kq hv.lq;have mv:=EX F
  have PD:(dQ h x o t).length<=257:=by
   unfold dQ;have AL:bE h.Live x<=h.Live.length:=List.findIdx_le_length
   rw [de _ AL];omega
  refine ⟨by simp [mU],hs.ef,?_,?_,fun z hz => ?_,fun l hl => ?_⟩
  ·simp only [mU];omega
  ·simp only [mU];omega
  ·simp only [mU,List.mem_cons,List.not_mem_nil,or_false] at hz;rcases hz with rfl|rfl
   ·omega
   ·omega
  ·have:=h2 l hl;omega
 cases a with
 | bad|range|form|room=>exact hz
 | once hb hr ht hz ha =>
   obtain ⟨z0,z1,F⟩:=gq (cn.1 hb);rw [F.d.cr] at hz;simp only [List.cons.injEq,and_true] at hz;obtain ⟨rfl,rfl⟩:=hz;have hv:=F.d.start.vs;obtain ⟨g1,g2⟩:=ha.lists hv (fun l hl=>(F.lists l hl).2);have:=F.count
   exact key _ _ F _ _ _ _ (ha.found hv).1 (by omega) g2
 | gw hb hr ht hz ha h2 =>
   obtain ⟨z0,z1,F⟩:=gq (cn.1 hb);rw [F.d.cr] at hz;simp only [List.cons.injEq,and_true] at hz;obtain ⟨rfl,rfl⟩:=hz;have hv:=(fH F.d).vs;obtain ⟨g1,g2⟩:=h2.lists hv (fun l hl=>by simp at hl);simp only [List.length_nil] at g1;exact key _ _ F _ _ _ _ (h2.found hv).1 (by omega) g2
theorem cM.at_ {h:Heap} {u:Heap×Int×Int} (a:cM h cpu o f u) (he:u.2.2=0) : 0<=u.2.1∧u.2.1<256:=by
 cases a with
 | bad|range|form|room=>simp at he
 | once hb hr ht hz ha =>
   obtain ⟨z0,z1,F⟩:=gq (cn.1 hb);rw [F.d.cr] at hz;simp only [List.cons.injEq,and_true] at hz;obtain ⟨rfl,rfl⟩:=hz;obtain ⟨i,e,h1,_⟩:=pU F (ha.found F.d.start.vs).2;simp only at e ⊢;omega
 | gw hb hr ht hz ha h2 =>
   obtain ⟨z0,z1,F⟩:=gq (cn.1 hb);rw [F.d.cr] at hz;simp only [List.cons.injEq,and_true] at hz;obtain ⟨rfl,rfl⟩:=hz;obtain ⟨i,e,h1,_⟩:=n9 F (h2.found (fH F.d).vs).2;simp only at e ⊢;omega
variable {k m:Nat}
def kN (a s m:Nat) (l:List Int) : Nat->List Int
 | 0=>l
 | k+1=>(kN a s m l k).set (a+k*s) (if k+1<m then (a:Int)+((k:Int)+1)*s else -1)
def ub (lo n:Nat) (l:List Int) (x s m:Int) (v:Value) (w:World) : Prop :=
 if 1<=s∧s<=64∧1<=m∧m<=n∧0<=x∧x+s*m<=n then ∃ A c,v = .tuple #[.slice A n c,.int .i64 0]∧Own w lo 3 1 bw A n c (kN x.toNat s.toNat m.toNat l m.toNat)
 else v = .tuple #[.slice none 0 0,.int .i64 1]
theorem G1 {s n:Nat} (hs:s<=64) (hm:m<=n) : 0<=(s:Int)*m∧(s:Int)*m<=64*n:=by
 have h:s*m<=64*n:=Nat.mul_le_mul hs hm
 exact ⟨by omega,by omega⟩
theorem Dm {s:Nat} (hk:k<m) : 0<=(k:Int)*s∧((k:Int)+1)*s=(k:Int)*s+s∧(k:Int)*s+s<=(s:Int)*m∧(s:Int)*k=(k:Int)*s:=by
 have h:(k+1)*s<=m*s:=adt _ hk
 have e:((k:Int)+1)*s=(k:Int)*s+s:=by rw [aff,afg]
 have e2:(s:Int)*m=(m:Int)*s:=ad8 _ _
 rw [adQ,Nat.one_mul] at h;refine ⟨by omega,e,by rw [e2];omega,ad8 _ _⟩
theorem BV (A:Option Addr) (n c:Nat) (l:List Int) (x s m:Int) (w:World) (hl:Sl w 1 bw A n l) (hn:n*8<=140737488355328) :
 bI prog 178 [.slice A n c,.int .i64 x,.int .i64 s,.int .i64 m] w (ub w.heap.size n l x s m):=by
 refine aE func178 rfl ntmps178 rfl ?_;have hw:=Ext.refl w;have kb:n<=2305843009213693952:=by omega
 by_cases h1 : 1<=s∧s<=64
 ·by_cases h2 : 1<=m∧m<=n
  ·obtain ⟨s,rfl⟩:=ada (a:=s) (by omega);obtain ⟨m,rfl⟩:=ada (a:=m) (by omega);have hb:=G1 (s:=s) (m:=m) (n:=n) (by omega) (by omega);by_cases h3 : 0<=x∧x+(s:Int)*m<=n
   ·obtain ⟨a,rfl⟩:=ada h3.1;repeat' (first|refine Wz ?_|(refine Wk (qt _ _ _ _ _ _ kb) ?_;intro v w1 ai hv;subst hv;have hw:=hw.trans ai;clear ai))
    refine Wk (dB _ _ _ _ _ (hl.ext hw) hn) fun v w1 ai hv => ?_
    obtain ⟨A1,c1,rfl,hO⟩:=hv;have dz:=hw.size;have hw:=hw.trans ai;have hO:=Own.low hO dz;have oO:=hO.sl.base;refine Wz ?_
    refine CW.loop (fun k:Nat=>[(0,.slice A n c),(1,.int .i64 (a:Int)),(2,.int .i64 (s:Int)),(3,.int .i64 (m:Int)),(10,.slice A1 n c1),(40,.int .i64 (m:Int)),(41,.int .i64 (k:Int))])
     (fun k w'=>k<=m∧Ext w w'∧Own w' w.heap.size 3 1 bw A1 n c1 (kN a s m l k)) (fun k=>m-k) 0 ⟨rfl,rfl,rfl,rfl,rfl,rfl,rfl,trivial⟩ ⟨by omega,hw,hO⟩ ?_
    clear hw hO;rintro k w' ⟨hk,hw,hO⟩
    by_cases Bg:k<m
    ·have hr:=Dm (s:=s) Bg;have hp:a+k*s<n:=by omega
     by_cases vi:k+1<m
     all_goals
      refine Wz ?_;refine SW.qp (a+k*s) hO rfl rfl hp fun w2 bh hg => ?_
      have hw:=aF hw hg (ac3 _) hO.ba;refine Wz ?_;refine ae.again (k+1) ⟨rfl,rfl,rfl,rfl,rfl,rfl,rfl,trivial⟩ (by omega) ⟨by omega,hw,?_⟩;simp only [kN]
     ·rw [if_pos vi];exact bh
     ·rw [if_neg vi];exact bh
    ·refine Wz ?_;obtain rfl:k=m:=by omega
     refine ae.dj rfl rfl rfl ⟨_,rfl,hw,?_⟩;unfold ub;rw [if_pos (by omega)];exact ⟨A1,c1,rfl,hO⟩
   ·repeat' (first|refine Wz ?_|(refine Wk (qt _ _ _ _ _ _ kb) ?_;intro v w1 ai hv;subst hv;have hw:=hw.trans ai;clear ai))
    all_goals refine ae.dj rfl rfl rfl ⟨_,rfl,hw,?_⟩
    all_goals unfold ub
    all_goals rw [if_neg (by omega)]
  ·repeat' (first|refine Wz ?_|refine SW.fZ rfl rfl rfl (fun h => ?_) (fun h => ?_))
   all_goals refine ae.dj rfl rfl rfl ⟨_,rfl,hw,?_⟩
   all_goals unfold ub
   all_goals rw [if_neg (by omega)]
 ·repeat' (first|refine Wz ?_|refine SW.fZ rfl rfl rfl (fun h => ?_) (fun h => ?_))
  all_goals refine ae.dj rfl rfl rfl ⟨_,rfl,hw,?_⟩
  all_goals unfold ub
  all_goals rw [if_neg (by omega)]
variable {most per size:Int} {s:ah} {acc ws Q8:List Int}
inductive jV (ws:List Int) (size per t:Int) : Int->Nat->Prop where
 | zero (x:Int) : jV ws size per t x 0
 | succ {k n:Nat} (hk:k<ws.length) (ho:ic size per t k=true) (h:jV ws size per t ws[k] n) : jV ws size per t k (n+1)
theorem jV.JP {t x:Int} {r:Option (List Int)} (h:fO ws most x acc r) : ∀ out,r=some out->(∀ a∈out,ic size per t a=true)->jV ws size per t x (out.length-acc.length):=by
 induction h with
 | done out =>
   intro o e _;cases e
   rw [ae6];exact .zero _
 | bad=>intro o e;cases e
 | @step k acc r h1 hk h3 h ih =>
   intro o e ho;have h2:=ih o e ho
   have hm:∀ {x':Int} {OD:List Int} {r':Option (List Int)},fO ws most x' OD r' -> ∀ o',r'=some o'->(∀ a∈OD,a∈o')∧OD.length<=o'.length:=by
    intro x' OD r' hf;induction hf with
    | done out=>intro o' e';cases e';exact ⟨fun a h=>h,ac3 _⟩
    | bad=>intro o' e';cases e'
    | step _ _ _ _ UB =>
      intro o' e';obtain ⟨a1,a2⟩:=UB o' e';rw [adb] at a2;exact ⟨fun a h=>a1 a (adC _ h),by omega⟩
   obtain ⟨a1,a2⟩:=hm h o e;rw [adb,List.length_singleton] at a2 h2;have e2:o.length-acc.length=(o.length-(acc.length+1))+1:=by omega
   rw [e2];exact .succ hk (ho _ (a1 _ (by simp))) h2
theorem jV.OE {x:Slab} {out:List Int} (h:bM ws size per x out) : jV ws size per x.At x.cf x.aj.toNat:=by
 have h1:=jV.JP (t:=x.At) h.1 out rfl h.2.2;have h2:=h.2.1;have e:out.length-([] : List Int).length=x.aj.toNat:=by simp;omega
 rw [e] at h1;exact h1
theorem jV.head {t x:Int} {n:Nat} (h:jV ws size per t x (n+1)) : (0<=x∧x<(ws.length:Int))∧jV ws size per t (ws.getD x.toNat 0) n:=by
 cases h with
 | @succ k n hk ho h =>
   refine ⟨by omega,?_⟩;have e:ws.getD ((k:Int)).toNat 0=ws[k]:=by simp [hk]
   rw [e];exact h
theorem jV.jS {t x:Int} {n:Nat} (h:jV ws size per t x n) (hl:Q8.length=ws.length) (he:∀ (k:Nat) (hk:k<ws.length),ic size per t k=true->Q8[k]'(by omega)=ws[k]) : jV Q8 size per t x n:=by
 induction h with
 | zero=>exact .zero _
 | @succ k n hk ho h ih =>
   refine .succ (by omega) ho ?_;rw [he k hk ho];exact ih
theorem jk (a s m:Nat) (l:List Int) : ∀ k,(kN a s m l k).length=l.length
 | 0=>rfl
 | k+1=>by simp only [kN,List.length_set];exact jk a s m l k
theorem qP (a s m:Nat) (l:List Int) (j:Nat) : ∀ (k:Nat),(∀ i,i<k->j≠a+i*s)->(kN a s m l k)[j]?=l[j]?
 | 0,_=>rfl
 | k+1,h=>by
   simp only [kN];rw [List.getElem?_set,if_neg (fun e=>h k (by omega) e.symm)];exact qP a s m l j k (fun i hi=>h i (by omega))
theorem wm (a s m:Nat) (hs : 0<s) (l:List Int) (i:Nat) (hl:a+i*s<l.length) : ∀ (k:Nat),i<k->(kN a s m l k)[a+i*s]?=some (if i+1<m then (a:Int)+((i:Int)+1)*s else -1)
 | 0,h=>by omega
 | k+1,h=>by
   simp only [kN];rw [List.getElem?_set];by_cases e:k=i
   ·subst e;rw [if_pos rfl,if_pos (by rw [jk];exact hl)]
   ·have bL:a+k*s≠a+i*s:=fun h0=>by
     have:=Nat.eq_of_mul_eq_mul_right hs (Nat.add_left_cancel h0)
     exact e this
    rw [if_neg bL];exact wm a s m hs l i hl k (by omega)
structure Z5 (ws:List Int) (lv:List Block) (c:aQ) (x:Slab) : Prop where
 at_ : 0<=x.At∧x.At<=255
 al:x.At % pw c.Order=0
 live:∃ b∈lv,b.At=x.At
 free : 0<=x.aj∧x.aj<=64
 walk:jV ws c.aA c.bK x.At x.cf x.aj.toNat
structure qQ (s:ah) (c:aQ) : Prop where
 words:s.Words.length=4096
 most:s.aa.length<=20
 lay:dl c.aA=(c.Order,c.bK,0)
 dq:∀ (k:Nat) (h:k<c.ao.length),c.ao[k] = -1∨c.ab.any (xD c.ao[k])=true
 next:c.ab.Pairwise fun x y=>x.At<y.At
 pi:∀ x∈c.ab,Z5 s.Words s.Heap.Live c x
theorem qQ.of (hM:aB s) (hi:i<s.aa.length) : qQ s s.aa[i]:=by
 have hc:=(hM.each i hi).may;have hl:=cd hc.lay;refine ⟨hM.words,hM.most,hc.lay,fun k h => ?_,?_,fun x hx => ?_⟩
 ·rcases hc.dq k h with g|⟨_,g⟩
  ·exact .inl g
  ·exact .inr g
 ·rw [ac8]
  have key:∀ (a b:Nat) (ha:a<s.aa[i].ab.length) (hb:b<s.aa[i].ab.length),a<b->s.aa[i].ab[a].At<s.aa[i].ab[b].At:=by
   intro a b;induction b with
   | zero=>intro _ _ h;omega
   | succ b ih =>
     intro ha hb h;have h2:=(hc.aD (b+1) hb).next (by omega);simp only [Nat.add_sub_cancel] at h2;by_cases e:a=b
     ·subst e;exact h2
     ·have:=ih ha (by omega) (by omega);omega
  exact key
 ·obtain ⟨k,hk,rfl⟩:=ac1 hx;have hs:=hc.aD k hk;obtain ⟨out,h⟩:=hs.chain;obtain ⟨hf,h3⟩:=hs.at_ hM.heap hl.2.1.1;obtain ⟨bW,e⟩:=jx hf;obtain ⟨g1,g2,g3,_⟩:=hM.heap.live.each _ bW;have tJ:=hs.live;rw [zp hf bW] at tJ;rw [e,tJ] at g3;have h4:=h.1.PP (by simp;omega) out rfl;have h5:=h.2.1;exact ⟨h3,g3,⟨_,ac0 bW,e⟩,by omega,.OE h⟩
variable {α:Type} {n:ByteArray} {c:aQ} {j:Nat} {p:α -> Bool}
def BW (c:aQ) (x:Slab) : Bool:=decide (0<x.aj) && !decide (x.At∈c.ao)
def Dn (c:aQ) (cpu:Nat) : Int:=idxOf (xD (c.ao.getD cpu 0)) c.ab
def ig (c:aQ) (k:Nat) : Slab:=c.ab.getD k ⟨0,0,0⟩
theorem ff (h:k<c.ab.length) : ig c k=c.ab[k]:=by simp [ig,h]
def pV (c:aQ) (cpu:Nat) : Int:=if 0<=Dn c cpu∧0<(ig c (Dn c cpu).toNat).aj then Dn c cpu else idxOf (BW c) c.ab
def dH (c:aQ) (cpu k:Nat) (v:Int) : aQ:=⟨c.Names,c.aA,c.bK,c.Order,c.ab.set k ⟨(ig c k).At,(ig c k).aj-1,v⟩,c.ao.set cpu (ig c k).At⟩
def eM (c:aQ) (a:Int) : Nat:=(c.ab.takeWhile fun x=>decide (x.At<a)).length
theorem oT (c:aQ) (a:Int) : eM c a<=c.ab.length:=(List.takeWhile_sublist _).length_le
def dV (c:aQ) (a:Int) : aQ:=⟨c.Names,c.aA,c.bK,c.Order,aM c.ab (eM c a) ⟨a,c.bK,16*a⟩,c.ao⟩
def mV (s:ah) (l:List Int) : ah:=⟨l,s.Heap,s.aa⟩
def jl (n:Nat) (x s m:Int) : Prop:=1<=s∧s<=64∧1<=m∧m<=n∧0<=x∧x+s*m<=n
def dE (l:List Int) (x s m:Int) : List Int:=kN x.toNat s.toNat m.toNat l m.toNat
structure Mk where
 ws:List Int
 h:Heap
 c:aQ
 k:Nat
inductive rA (s:ah) (c:aQ) (cpu:Nat) : Option Mk×Int->Prop where
 | uw {k:Nat} (h:pV c cpu=k) : rA s c cpu (some ⟨s.Words,s.Heap,c,k⟩,0)
 | room {u:Heap×Int×Int} (h:pV c cpu<0) (ha:cM s.Heap (cpu:Int) c.Order 0 u) (he:u.2.2≠0) : rA s c cpu (none,u.2.2)
 | chain {u:Heap×Int×Int} (h:pV c cpu<0) (ha:cM s.Heap (cpu:Int) c.Order 0 u) (he:u.2.2=0) (hc : ¬ jl s.Words.length (16*u.2.1) c.aA c.bK) : rA s c cpu (none,1)
 | new {u:Heap×Int×Int} (h:pV c cpu<0) (ha:cM s.Heap (cpu:Int) c.Order 0 u) (he:u.2.2=0) (hc:jl s.Words.length (16*u.2.1) c.aA c.bK) : rA s c cpu (some ⟨dE s.Words (16*u.2.1) c.aA c.bK,u.1,dV c u.2.1,eM c u.2.1⟩,0)
theorem rA.dm {cpu:Nat} {u v:Option Mk×Int} (x:rA s c cpu u) (y:rA s c cpu v) : u=v:=by
 cases x with
 | @uw k h=>cases y with
   | @uw j h' =>
     obtain rfl:k=j:=by omega
     rfl
   | room h'|chain h'|new h'=>omega
 | room h ha he=>cases y with
   | uw h'=>omega
   | room h' mm gV=>rw [ha.dm mm]
   | chain h' mm gV|new h' mm gV=>exact absurd (by rw [ha.dm mm];exact gV) he
 | chain h ha he hc=>cases y with
   | uw h'=>omega
   | room h' mm gV=>exact absurd (by rw [mm.dm ha];exact he) gV
   | chain h' mm gV gQ=>rfl
   | new h' mm gV gQ=>exact absurd (by rw [ha.dm mm];exact gQ) hc
 | new h ha he hc=>cases y with
   | uw h'=>omega
   | room h' mm gV=>exact absurd (by rw [mm.dm ha];exact he) gV
   | chain h' mm gV gQ=>exact absurd (by rw [mm.dm ha];exact hc) gQ
   | new h' mm gV gQ=>rw [ha.dm mm]
def lR (s:ah) (i cpu:Nat) : Option Mk×Int->ah×Int×Int
 | (some m,_)=>(bH (mV s m.ws) i (m.h,dH m.c cpu m.k (m.ws.getD (ig m.c m.k).cf.toNat 0)),(ig m.c m.k).cf,0)
 | (none,e)=>(.zero,0,e)
theorem xf {cpu:Nat} {m:Option Mk×Int} (hi:i<s.aa.length) (x:rA s s.aa[i] cpu m) (hf:s.cV) (hn:(s.aa[i].ab.length+1)*24<=140737488355328) : (lR s i cpu m).1.small:=by
 have hc:=hf.Sg hi;have hs:=hf.small;have h1:=hc.small;cases x with
 | room|chain=>exact ah.kK
 | uw h =>
   refine ⟨hs.words,hs.heap,by simp only [lR,bH,mV,List.length_set];exact hs.br,fun c gQ => ?_⟩;rcases adg gQ with gQ|rfl
   ·exact hs.each c gQ
   ·exact ⟨h1.names,by simp only [dH,List.length_set];exact h1.aD,by simp only [dH,List.length_set];exact h1.aZ⟩
 | new h ha he Wd =>
   refine ⟨by simp only [lR,bH,mV,dE,jk];exact hs.words,ha.small hs.heap,by simp only [lR,bH,mV,List.length_set];exact hs.br,fun c gQ => ?_⟩;rcases adg gQ with gQ|rfl
   ·exact hs.each c gQ
   ·refine ⟨h1.names,?_,by simp only [dH,dV,List.length_set];exact h1.aZ⟩;simp only [dH,dV,List.length_set];rw [de _ (oT _ _)];exact hn
inductive pj (s:ah) (n:ByteArray) (cpu:Int) : ah×Int×Int->Prop where
 | ask (h:iO s n cpu≠0) : pj s n cpu (.zero,0,iO s n cpu)
 | DS {i:Nat} {m:Option Mk×Int} (h:iO s n cpu=0) (e:idxOf (dO n) s.aa=i) (hi:i<s.aa.length) (hm:rA s s.aa[i] cpu.toNat m) : pj s n cpu (lR s i cpu.toNat m)
theorem pj.dm {u v:ah×Int×Int} (x:pj s n cpu u) (y:pj s n cpu v) : u=v:=by
 cases x with
 | ask h=>cases y with
   | ask=>rfl
   | DS h'=>exact absurd h' h
 | @DS i _ h e hi hm=>cases y with
   | ask h'=>exact absurd h h'
   | @DS j _ h' e' hj mP =>
     obtain rfl:i=j:=by omega
     rw [hm.dm mP]
theorem Dp (h:j<eM c a) (hj:j<c.ab.length) : c.ab[j].At<a:=by
 unfold eM at h;have h1:(c.ab.takeWhile fun x=>decide (x.At<a))[j]=c.ab[j]:=List.IsPrefix.getElem (List.takeWhile_prefix _) h
 have:=List.all_takeWhile (p:=fun x:Slab=>decide (x.At<a)) (l:=c.ab)
 rw [List.all_eq_true] at this;have:=this _ (ac0 h)
 rw [h1] at this;exact of_decide_eq_true this
theorem Is:∀ (l:List α) (x : α),l[(l.takeWhile p).length]?=some x->p x=false
 | [],x,h=>by simp at h
 | a::r,x,h=>by
   rw [List.takeWhile_cons] at h;cases e:p a with
   | false =>
     rw [e] at h;simp at h;subst h;exact e
   | true =>
     rw [e] at h;simp at h;exact Is r x h
theorem It (hk:k<=c.ab.length) (h1:∀ (j:Nat) (hj:j<c.ab.length),j<k->c.ab[j].At<a) (h2:∀ h:k<c.ab.length,¬ c.ab[k].At<a) : eM c a=k:=by
 rcases adD (eM c a) k with h|h|h
 ·exfalso;have h3:eM c a<c.ab.length:=by omega
  have h4:=Is (p:=fun x:Slab=>decide (x.At<a)) c.ab c.ab[eM c a] (ac7 h3);exact of_decide_eq_false h4 (h1 _ h3 h)
 ·exact h
 ·exact absurd (Dp h (by have:=oT c a;omega)) (h2 _)
theorem sX (hM:qQ s c) : c.ab.length<=256:=by
 have hn:=hM.next;rw [ac8] at hn
 have key:∀ (k:Nat) (hk:k<c.ab.length),(k:Int)<=c.ab[k].At:=by
  intro k;induction k with
  | zero=>intro hk;have:=(hM.pi _ (ac0 hk)).at_;omega
  | succ k ih =>
    intro hk;have h1:=ih (by omega);have h2:=hn k (k+1) (by omega) hk (by omega);omega
 rcases adA 256 c.ab.length with h|h
 ·have h1:=key 256 h;have h2:=(hM.pi _ (ac0 h)).at_;omega
 ·exact h
theorem JQ (hM:qQ s c) {cpu:Nat} (hc:cpu<c.ao.length) :
 (c.ao[cpu] = -1∧Dn c cpu = -1)∨(0<=c.ao[cpu] ∧ ∃ (k:Nat) (hk:k<c.ab.length),Dn c cpu=k∧c.ab[k].At=c.ao[cpu]):=by
 have ha:=hM.dq cpu hc;have e:c.ao.getD cpu 0=c.ao[cpu]:=by simp [hc]
 unfold Dn;rw [e];rcases ha with h|h
 ·left;refine ⟨h,(kI fun j hj => ?_).1⟩;rw [h];have:=(hM.pi _ (ac0 hj)).at_
  unfold xD;exact decide_eq_false (by omega)
 ·right;obtain ⟨k,hk,h1,_,h2⟩:=j1 h;have h3:=of_decide_eq_true h1;have:=(hM.pi _ (ac0 hk)).at_
  exact ⟨by omega,k,hk,h2,h3⟩
theorem qQ.first (hM:qQ s c) {x:Slab} (hx:x∈c.ab) (hf : 0<x.aj) : (0<=x.cf∧x.cf<4096)∧jV s.Words c.aA c.bK x.At (s.Words.getD x.cf.toNat 0) (x.aj-1).toNat:=by
 have h:=(hM.pi x hx).walk;rw [show x.aj.toNat=(x.aj-1).toNat+1 by omega] at h;have h2:=h.head;rw [hM.words] at h2;exact h2
structure TC (s:ah) (m:Mk) : Prop where
 hk:m.k<m.c.ab.length
 len:m.ws.length=4096
 first : 0<=m.c.ab[m.k].cf∧m.c.ab[m.k].cf<4096
 free : 1<=m.c.ab[m.k].aj∧m.c.ab[m.k].aj<=64
theorem EY {l:List α} {p:Nat} {x : α} (hp:p<=l.length) (h:p<(aM l p x).length) : (aM l p x)[p]=x:=by
 have:=lu (x:=x) hp
 rw [ac7 h] at this;exact Option.some.inj this
theorem Iu {cpu:Nat} (h:pV c cpu=k) : ∃ hk:k<c.ab.length,0<c.ab[k].aj:=by
 unfold pV at h;split at h
 ·rename_i h1;rw [h] at h1;have e:((k:Int)).toNat=k:=by omega
  rw [e] at h1
  have hk:k<c.ab.length:=by
   rcases adA k c.ab.length with h2|h2
   ·exact h2
   ·have:ig c k=⟨0,0,0⟩:=by simp [ig,List.getElem?_eq_none h2]
    rw [this] at h1;simp at h1
  rw [ff hk] at h1;exact ⟨hk,h1.2⟩
 ·have hg:=mx (BW c) c.ab;rw [h,decide_eq_true (by omega)] at hg;obtain ⟨j,hj,h1,_,h2⟩:=j1 hg.symm;rw [h] at h2;obtain rfl:k=j:=by omega
  refine ⟨hj,?_⟩;unfold BW at h1;simp only [Bool.and_eq_true,decide_eq_true_eq] at h1;exact h1.1
theorem rA.QC (hM:qQ s c) {cpu:Nat} {u:Option Mk×Int} (x:rA s c cpu u) : ∀ m,u.1=some m->TC s m:=by
 intro m e;cases x with
 | room|chain=>cases e
 | uw h =>
   simp only [Option.some.injEq] at e;subst e;obtain ⟨hk,hf⟩:=Iu h;have:=(hM.pi _ (ac0 hk)).free
   exact ⟨hk,hM.words,(hM.first (ac0 hk) hf).1,by simp only;omega⟩
 | @new u h ha he hc =>
   simp only [Option.some.injEq] at e;subst e;have kX:=ha.at_ he;have hl:=cd hM.lay;have hp:=oT c u.2.1
   have hk:eM c u.2.1<(dV c u.2.1).ab.length:=by
    simp only [dV];rw [de _ hp];omega
   have e:(dV c u.2.1).ab[eM c u.2.1]=⟨u.2.1,c.bK,16*u.2.1⟩:=EY hp hk
   refine ⟨hk,by simp only [dE,jk];exact hM.words,?_,?_⟩
   ·simp only [e];omega
   ·simp only [e];omega
inductive vj (l:List Int) : Int->List Int->Prop
 | nil:vj l (-1) []
 | cons {k:Nat} {out:List Int} (hk:k<l.length) (h:vj l l[k] out) : vj l k ((k:Int)::out)
theorem fO.link {l:List Int} {x:Int} {r:Option (List Int)} (h:fO l most x acc r) : ∀ o,r=some o -> ∃ out,o=acc++out∧vj l x out∧(acc.Nodup->o.Nodup)∧((acc.length:Int)<=most->(o.length:Int)<=most):=by
 induction h with
 | done out=>intro o e;cases e;exact ⟨[],by simp,.nil,fun h=>h,fun h=>h⟩
 | bad=>intro o e;cases e
 | @step k acc r h1 hk h3 h ih =>
   intro o e;obtain ⟨out,rfl,e2,e3,e4⟩:=ih o e;refine ⟨(k:Int)::out,by simp,.cons hk e2,fun hn=>e3 ?_,fun _=>e4 ?_⟩
   ·rw [adN];exact ⟨hn,by simp,fun a ha b hb=>by simp only [List.mem_singleton] at hb;subst hb;exact fun e=>h3 (e ▸ ha)⟩
   ·simp only [List.length_append,List.length_singleton];omega
theorem vj.follows {l:List Int} {x:Int} {out:List Int} (h:vj l x out) : ∀ acc:List Int,(acc++out).Nodup->((acc++out).length:Int)<=most->fO l most x acc (some (acc++out)):=by
 induction h with
 | nil=>intro acc _ _;rw [aeq];exact .done acc
 | @cons k out hk h ih =>
   intro acc hn hl;have e:acc++(k:Int)::out=(acc++[(k:Int)])++out:=by simp
   refine .step ?_ hk ?_ ?_
   ·simp only [List.length_append,List.length_cons] at hl;omega
   ·intro hm;rw [adN] at hn;exact hn.2.2 _ hm _ (by simp) rfl
   ·rw [e] at hn hl ⊢;exact ih _ hn hl
theorem g9 {x:Slab} {out:List Int} (hp : 0<=per) : bM ws size per x out↔vj ws x.cf out∧out.Nodup∧(out.length:Int)<=per∧(out.length:Int)=x.aj ∧ ∀ a∈out,ic size per x.At a=true:=by
 constructor
 ·rintro ⟨h1,h2,h3⟩
  obtain ⟨o,e,k1,k2,k3⟩:=h1.link _ rfl;rw [adV] at e;subst e;exact ⟨k1,k2 (by simp),k3 (by simpa using hp),h2,h3⟩
 ·rintro ⟨h1,h2,h3,h4,h5⟩
  exact ⟨h1.follows [] (by simpa using h2) (by simpa using h3),h4,h5⟩
theorem vj.congr {l l':List Int} {x:Int} {out:List Int} (h:vj l x out) : (∀ a∈out,0<=a->l'[a.toNat]?=l[a.toNat]?)->vj l' x out:=by
 induction h with
 | nil=>exact fun _ => .nil
 | @cons k out hk h ih =>
   intro he;have h1:=he k (by simp) (by omega);simp only [Int.toNat_natCast] at h1;rw [ac7 hk] at h1;obtain ⟨bW,e⟩:=ads.1 h1;refine .cons bW ?_;rw [e];exact ih fun a ha=>he a (by simp [ha])
theorem vj.head {l:List Int} {x:Int} {out:List Int} (h:vj l x out) (h0:out≠[]) : ∃ k rest,x=((k:Nat) : Int)∧out=x::rest ∧ ∃ hk:k<l.length,vj l l[k] rest:=by
 cases h with
 | nil=>exact absurd rfl h0
 | @cons k out hk h=>exact ⟨k,out,rfl,rfl,hk,h⟩
def wo (x s:Nat) : Nat->Nat->List Int
 | 0,_=>[]
 | n+1,i=>((x+i*s:Nat) : Int)::wo x s n (i+1)
theorem zG {x s:Nat}:∀ {n i:Nat} {a:Int},a∈wo x s n i ↔ ∃ j,i<=j∧j<i+n∧a=((x+j*s:Nat) : Int)
 | 0,i,a=>by simp [wo];intro j h1 h2;omega
 | n+1,i,a=>by
   simp only [wo,List.mem_cons,zG (n:=n)];constructor
   ·rintro (rfl|⟨j,h1,h2,rfl⟩)
    ·exact ⟨i,ac3 _,by omega,rfl⟩
    ·exact ⟨j,by omega,by omega,rfl⟩
   ·rintro ⟨j,h1,h2,rfl⟩
    by_cases e:j=i
    ·subst e;exact .inl rfl
    ·exact .inr ⟨j,by omega,by omega,rfl⟩
theorem zH {x s:Nat}:∀ (n i:Nat),(wo x s n i).length=n
 | 0,_=>rfl
 | n+1,i=>by simp [wo,zH n]
theorem zI {x s:Nat} (hs : 0<s) : ∀ (n i:Nat),(wo x s n i).Nodup
 | 0,_=>by simp [wo]
 | n+1,i=>by
   simp only [wo,List.nodup_cons];refine ⟨fun h => ?_,zI hs n (i+1)⟩;obtain ⟨j,h1,h2,e⟩:=zG.1 h;have h3:i*s<j*s:=Nat.mul_lt_mul_of_pos_right (by omega) hs
   omega
theorem BX {x s:Nat} (hs : 0<s) {l:List Int} (hl:∀ i,i<m->x+i*s<l.length) : ∀ (n i:Nat),i+n=m->0<n->vj (kN x s m l m) ((x+i*s:Nat) : Int) (wo x s n i)
 | 0,_,_,h=>by omega
 | n+1,i,e,_=>by
   have hb:=hl i (by omega);have hlen:(kN x s m l m).length=l.length:=jk x s m l m
   have kX:=wm x s m hs l i hb m (by omega);have hk:x+i*s<(kN x s m l m).length:=by omega
   rw [ac7 hk] at kX;injection kX with kX
   simp only [wo];refine .cons hk ?_;rw [kX];by_cases h0:n=0
   ·subst h0;rw [if_neg (by omega)];exact .nil
   ·rw [if_pos (by omega)];have:=BX hs hl n (i+1) (by omega) (by omega)
    have e2:((x+(i+1)*s:Nat) : Int)=(x:Int)+((i:Int)+1)*(s:Int):=by
     simp only [Int.natCast_add,Int.natCast_mul];rfl
    rwa [e2] at this
variable {M:Mk}
theorem VS.uv {s:ak×ak} (h:VS s) : ∀ z∈[s.1,s.2],fF z:=fun z hz=>by
 obtain ⟨a1,a2,a3,_⟩:=h.lN.ok;obtain ⟨b1,b2,b3,_⟩:=h.lq.ok;simp only [List.mem_cons,List.not_mem_nil,or_false] at hz;unfold fF;rcases hz with rfl|rfl<;>omega
theorem ib.align {t:Int} {u:ak×Int×Int} (h:ib z o t u) (h0:u.2.2=0) : u.2.1 % pw o=0:=by
 cases h with
 | bad|range|kind|room=>simp at h0
 | @ok k st hq ho ht hk hp =>
   have hz:=fg.1 hq;obtain ⟨_,p1,p2⟩:=hp.ord;obtain ⟨⟨f1,f2,f3,f4,f5⟩,_⟩:=hz.eG k hk;simp only;rcases fB ho.1 ho.2 with ⟨e1,e2⟩|⟨e1,e2⟩|⟨e1,e2⟩|⟨e1,e2⟩|⟨e1,e2⟩<;>rcases fB f1 f2 with ⟨g1,g2⟩|⟨g1,g2⟩|⟨g1,g2⟩|⟨g1,g2⟩|⟨g1,g2⟩<;>rw [g2] at f5<;>rw [e2]<;>omega
theorem jN.align {t:Int} {s:ak×ak} (h:jN m0 m1 cpu zi o t f s L (some r)) : r.2.2 % pw o=0:=by
 cases h with
 | list ho hk hp =>
   rw [ho,jh];exact Int.emod_one _
 | uv ho he ht hu=>exact ht.align hu
 | fill ho hk he ht hu hr=>exact ht.align hu
theorem mg.align {t:Int} {s:ak×ak} (h:mg m0 m1 cpu o t f s L (some r)) : r.2.2 % pw o=0:=by
 cases h with
 | vU _ h=>exact h.align
 | low _ h=>exact h.align
theorem nt {h:Heap} {t:Int} {y:Block}:y∈dQ h a o t↔y=⟨a,o,t⟩∨y∈h.Live:=kr
structure TD (h:Heap) (o:Int) (u:Heap×Int×Int) : Prop where
 at_ : 0<=u.2.1∧u.2.1<256
 al:u.2.1 % pw o=0
 ne:∀ b∈h.Live,b.At≠u.2.1
 uw:∀ b∈h.Live,b∈u.1.Live
 new:∃ b∈u.1.Live,b.At=u.2.1
 uv:∀ z∈u.1.bp,fF z
theorem cM.new {h:Heap} {u:Heap×Int×Int} (a:cM h cpu o f u) (he:u.2.2=0) : TD h o u:=by
 have kX:=a.at_ he;cases a with
 | bad|range|form|room=>simp at he
 | once hb hr ht hz ha =>
   obtain ⟨z0,z1,F⟩:=gq (cn.1 hb);rw [F.d.cr] at hz;simp only [List.cons.injEq,and_true] at hz;obtain ⟨rfl,rfl⟩:=hz;have hf:=ha.found F.d.start.vs;obtain ⟨i,e,h1,hc⟩:=pU F hf.2;exact ⟨kX,ha.align,F.sW e hc,fun b hb=>nt.2 (.inr hb),⟨_,nt.2 (.inl rfl),rfl⟩,hf.1.uv⟩
 | gw hb hr ht hz ha h2 =>
   obtain ⟨z0,z1,F⟩:=gq (cn.1 hb);rw [F.d.cr] at hz;simp only [List.cons.injEq,and_true] at hz;obtain ⟨rfl,rfl⟩:=hz;have hf:=h2.found (fH F.d).vs;obtain ⟨i,e,h1,hc⟩:=n9 F hf.2;exact ⟨kX,h2.align,F.sW e hc,fun b hb=>nt.2 (.inr hb),⟨_,nt.2 (.inl rfl),rfl⟩,hf.1.uv⟩
theorem JR {t:Int} (hl:dl size=(o,per,0)) (ha:a % pw o=0) (ht:t % pw o=0) (bL:t≠a) {k:Int} (hk:ic size per t k=true) (j:Nat) (hj:(j:Int)<per) : k≠16*a+j*size:=by
 obtain ⟨l1,l2,l3⟩:=cd hl;unfold ic at hk;simp only [Bool.and_eq_true,decide_eq_true_eq] at hk
 have h1:(j:Int)*size+size<=per*size:=by
  have:=aer (show (j:Int)+1<=per by omega) (show 0<=size by omega)
  rwa [aff,afg] at this
 have h2 : 0<=(j:Int)*size:=aeB (by omega) (by omega)
 obtain ⟨q,hq⟩ : ∃ q,(j:Int)*size=q:=⟨_,rfl⟩;obtain ⟨m,hm⟩ : ∃ m,per*size=m:=⟨_,rfl⟩;have hp:=j3 hl;rw [hq] at h1 h2 ⊢;rw [hm] at h1 hk hp;rcases hp with ⟨rfl,hp⟩|⟨rfl,hp⟩|⟨rfl,hp⟩
 ·omega
 ·rw [show pw 1=2 from rfl] at ha ht;omega
 ·rw [show pw 2=4 from rfl] at ha ht;omega
theorem zJ (hl:dl size=(o,per,0)) (hc:jl ws.length (16*a) size per) : ∀ (j m:Nat),(m:Int)+j=per->jV (dE ws (16*a) size per) size per a (16*a+m*size) j
 | 0,m,_ => .zero _
 | j+1,m,h=>by
   obtain ⟨c1,c2,c3,c4,c5,c6⟩:=hc
   have h1:(m:Int)*size+size<=per*size:=by
    have:=aer (show (m:Int)+1<=per by omega) (show 0<=size by omega)
    rwa [aff,afg] at this
   have h2 : 0<=(m:Int)*size:=aeB (by omega) (by omega)
   rw [ad8 size per] at c6
   have e1 : 16*a+(m:Int)*size=(((16*a).toNat+m*size.toNat:Nat) : Int):=by
    rw [afd,aeO,adx (by omega),adx (by omega)]
   have eQ:(16*a).toNat+m*size.toNat<ws.length:=by omega
   have Ow:(dE ws (16*a) size per).length=ws.length:=by unfold dE;exact jk _ _ _ _ _
   have kX:=wm (16*a).toNat size.toNat per.toNat (by omega) ws m eQ per.toNat (by omega);rw [e1];refine .succ (by omega) ?_ ?_
   ·rw [<- e1];exact Ex c1 (by omega) rfl
   ·have e2:(dE ws (16*a) size per)[(16*a).toNat+m*size.toNat]'(by omega)=if m+1<per.toNat then (((16*a).toNat:Nat) : Int)+((m:Int)+1)*(size.toNat:Nat) else -1:=by
     have:=ac7 (l:=dE ws (16*a) size per) (i:=(16*a).toNat+m*size.toNat) (by omega)
     unfold dE at this;rw [kX] at this;exact (Option.some.inj this).symm
    rw [e2];split
    ·have:=zJ hl ⟨c1,c2,c3,c4,c5,by rw [ad8 size per];exact c6⟩ j (m+1) (by omega)
     rw [adx (show 0<=16*a by omega),adx (show 0<=size by omega)];exact this
    ·obtain rfl:j=0:=by omega
     exact .zero _
theorem qQ.grow (hM:qQ s c) {u:Heap×Int×Int} (hn:TD s.Heap c.Order u) (hc:jl s.Words.length (16*u.2.1) c.aA c.bK) {cs:List aQ} (lJ:cs.length=s.aa.length) : qQ ⟨dE s.Words (16*u.2.1) c.aA c.bK,u.1,cs⟩ (dV c u.2.1):=by
 have hl:=cd hM.lay;have Ow:(dE s.Words (16*u.2.1) c.aA c.bK).length=s.Words.length:=by unfold dE;exact jk _ _ _ _ _
 have DP:=oT c u.2.1
 have bL:∀ x∈c.ab,x.At≠u.2.1:=fun x hx=>by
  obtain ⟨b,hb,e⟩:=(hM.pi x hx).live;rw [<- e];exact hn.ne b hb
 have jw:∀ x∈c.ab,x∈(dV c u.2.1).ab:=fun x hx=>by
  simp only [dV];exact kr.2 (.inr hx)
 have NH:=hM.next;have TE:=NH;rw [ac8] at TE;refine ⟨by simp only;rw [Ow];exact hM.words,by simp only;rw [lJ];exact hM.most,hM.lay,fun k h => ?_,?_,fun x hx => ?_⟩
 ·rcases hM.dq k h with g|g
  ·exact .inl g
  ·right;rw [ade] at g ⊢;obtain ⟨y,hy,g⟩:=g;exact ⟨y,jw y hy,g⟩
 ·have e:c.ab=c.ab.take (eM c u.2.1)++c.ab.drop (eM c u.2.1):=(ac4 _ _).symm
  have h0:=NH;rw [e,adp] at h0;obtain ⟨h1,h2,h3⟩:=h0
  have hA:∀ x∈c.ab.take (eM c u.2.1),x.At<u.2.1:=fun x hx=>by
   obtain ⟨j,hj,rfl⟩:=ac1 hx;simp only [List.length_take] at hj;rw [adH];exact Dp (by omega) (by omega)
  have hB:∀ x∈c.ab.drop (eM c u.2.1),u.2.1<x.At:=fun x hx=>by
   obtain ⟨j,hj,rfl⟩:=ac1 hx;have hjd:j<c.ab.length-eM c u.2.1:=by rw [<- List.length_drop];exact hj
   rw [adZ];have QL:eM c u.2.1<c.ab.length:=by omega
   have h5:=Is (p:=fun x:Slab=>decide (x.At<u.2.1)) c.ab c.ab[eM c u.2.1] (ac7 QL);have h6:=of_decide_eq_false h5;have h7:=bL _ (ac0 (show eM c u.2.1+j<c.ab.length by omega));rcases adj j with rfl|N7
   ·simp only [Nat.add_zero] at h7 ⊢;omega
   ·have:=TE (eM c u.2.1) (eM c u.2.1+j) (by omega) (by omega) (by omega)
    omega
  simp only [dV];unfold aM;rw [ac6,adp];refine ⟨h1,?_,fun a ha b hb => ?_⟩
  ·rw [adn,adY];exact ⟨hB,h2⟩
  ·rw [adn,ad4] at hb;rcases hb with rfl|hb
   ·exact hA a ha
   ·exact h3 a ha b hb
 ·simp only [dV] at hx ⊢;have py:=kr.1 hx;have kX:=hn.at_;rcases py with rfl|py
  ·refine ⟨by simp only;omega,hn.al,hn.new,by simp only;omega,?_⟩;have:=zJ hM.lay hc c.bK.toNat 0 (by omega)
   simpa using this
  ·have hs:=hM.pi x py;obtain ⟨b,hb,e⟩:=hs.live;refine ⟨hs.at_,hs.al,⟨b,hn.uw b hb,e⟩,hs.free,hs.walk.jS Ow fun k hk ho => ?_⟩
   have h1:(kN (16*u.2.1).toNat c.aA.toNat c.bK.toNat s.Words c.bK.toNat)[k]?=s.Words[k]?:=qP _ _ _ _ _ _ fun j hj e2=>by
    have h2:=JR hM.lay hn.al hs.al (bL x py) ho j (by omega);apply h2;rw [e2,afd,aeO,adx (by omega),adx (by omega)]
   rw [ac7 hk,ac7 (by rw [jk];exact hk)] at h1;exact Option.some.inj h1
theorem qQ.take (hM:qQ s c) {cpu:Nat} (hk:k<c.ab.length) (hf : 0<c.ab[k].aj) {cs:List aQ} (lJ:cs.length=s.aa.length) : qQ ⟨s.Words,s.Heap,cs⟩ (dH c cpu k (s.Words.getD (ig c k).cf.toNat 0)):=by
 have hm:=ac0 hk;have hs:=hM.pi _ hm;have hw:=(hM.first hm hf).2;have hD:=ff hk
 have iC:∀ t,c.ab.any (xD t)=true->(c.ab.set k ⟨c.ab[k].At,c.ab[k].aj-1,s.Words.getD c.ab[k].cf.toNat 0⟩).any (xD t)=true:=fun t g=>by
  rw [ade] at g ⊢;obtain ⟨y,hy,g⟩:=g;obtain ⟨j,hj,rfl⟩:=ac1 hy;by_cases e:k=j
  ·subst e;exact ⟨_,List.mem_set hk _,g⟩
  ·refine ⟨_,ac0 (show j<_ by rw [adz];exact hj),?_⟩;rwa [List.getElem_set_ne e]
 unfold dH;rw [hD];refine ⟨hM.words,by simp only;rw [lJ];exact hM.most,hM.lay,fun j h => ?_,?_,fun x hx => ?_⟩
 ·simp only at h ⊢;rw [adz] at h;rw [adq];split
  ·right;refine iC _ ?_;rw [ade];exact ⟨_,hm,by unfold xD;exact decide_eq_true rfl⟩
  ·rcases hM.dq j h with g|g
   ·exact .inl g
   ·exact .inr (iC _ g)
 ·have NH:=hM.next;have e:∀ l:List Slab,(l.Pairwise fun x y=>x.At<y.At)↔(l.map fun x=>x.At).Pairwise (· < ·):=fun l=>by rw [ae0]
  rw [e] at NH;simp only;rw [e,aem]
  have e3:(c.ab.map fun x=>x.At).set k c.ab[k].At=c.ab.map fun x=>x.At:=by
   have Bg:k<(c.ab.map fun x=>x.At).length:=by rw [List.length_map];exact hk
   have e4:(c.ab.map fun x=>x.At)[k]=c.ab[k].At:=aen ..
   rw [<- e4];exact adK Bg
  rw [e3];exact NH
 ·simp only at hx;rcases adg hx with hx|rfl
  ·have h:=hM.pi x hx;exact ⟨h.at_,h.al,h.live,h.free,h.walk⟩
  ·have:=hs.free
   exact ⟨hs.at_,hs.al,hs.live,by simp only;omega,hw⟩
structure Bk (s:ah) (i cpu:Nat) : Prop where
 cV:s.cV
 hi:i<s.aa.length
 inv:qQ s s.aa[i]
 pW:cpu<s.aa[i].ao.length
def uc (s:ah) (i cpu:Nat) (M:Mk) : ah:=bH (mV s M.ws) i (M.h,dH M.c cpu M.k (M.ws.getD (ig M.c M.k).cf.toNat 0))
theorem Bk.DS {cpu:Nat} (h:Bk s i cpu) (x:rA s (s.aa[i]'h.hi) cpu (some M,0)) : Bk (uc s i cpu M) i cpu:=by
 have hi:=h.hi;have lP:=x.QC h.inv M rfl;have yd:=sX h.inv;have rH:=xf hi x h.cV (by omega);have hlen:(s.aa.set i (dH M.c cpu M.k (M.ws.getD (ig M.c M.k).cf.toNat 0))).length=s.aa.length:=adz ..
 have hinv:qQ ⟨M.ws,M.h,s.aa⟩ M.c∧(∀ z∈M.h.bp,fF z)∧M.c.Names=s.aa[i].Names∧M.c.ao.length=s.aa[i].ao.length:=by
  cases x with
  | uw hp=>exact ⟨h.inv,h.cV.cr,rfl,rfl⟩
  | new hp ha he hc =>
    have hn:=ha.new he;exact ⟨h.inv.grow hn hc rfl,hn.uv,rfl,rfl⟩
 obtain ⟨hb,hz,se,JS⟩:=hinv;have m7:=lP.free;have UN:=hb.take (cpu:=cpu) lP.hk (by omega) hlen
 have Q9:i<(uc s i cpu M).aa.length:=by
  simp only [uc,bH,mV];rw [hlen];exact hi
 have kX:(uc s i cpu M).aa[i]=dH M.c cpu M.k (M.ws.getD (ig M.c M.k).cf.toNat 0):=by simp only [uc,bH,mV,List.getElem_set_self]
 refine ⟨⟨rH,hz,fun c' gQ x' py => ?_,fun c' gQ n hn => ?_⟩,Q9,?_,?_⟩
 ·simp only [uc,bH,mV] at gQ;rcases adg gQ with gQ|rfl
  ·exact h.cV.aD c' gQ x' py
  ·have:=(UN.pi x' py).at_
   omega
 ·simp only [uc,bH,mV] at gQ;rcases adg gQ with gQ|rfl
  ·exact h.cV.names c' gQ n hn
  ·simp only [dH] at hn;rw [se] at hn;exact h.cV.names _ (ac0 hi) n hn
 ·rw [kX];exact UN
 ·rw [kX];simp only [dH,List.length_set];rw [JS];exact h.pW
inductive oa (i cpu:Nat) : Nat->ah->List Int->ah×List Int×Int->Prop where
 | done {s:ah} {l:List Int}:oa i cpu 0 s l (s,l,0)
 | bad {k:Nat} {s:ah} {l:List Int} {m:Option Mk×Int} (hi:i<s.aa.length) (hm:rA s s.aa[i] cpu m) (h:m.1=none) : oa i cpu (k+1) s l (.zero,[],m.2)
 | more {k:Nat} {s:ah} {l:List Int} {M:Mk} {u:ah×List Int×Int} (hi:i<s.aa.length) (hm:rA s s.aa[i] cpu (some M,0)) (h:oa i cpu k (uc s i cpu M) (l++[(ig M.c M.k).cf]) u) : oa i cpu (k+1) s l u
theorem oa.dm {cpu:Nat} {l:List Int} {u v:ah×List Int×Int} (x:oa i cpu k s l u) : oa i cpu k s l v->u=v:=by
 induction x with
 | done=>intro y;cases y;rfl
 | bad hi hm h=>intro y;cases y with
   | bad nO mP h'=>rw [hm.dm mP]
   | more nO mP _=>rw [hm.dm mP] at h;cases h
 | more hi hm h ih=>intro y;cases y with
   | bad nO mP h'=>rw [<- hm.dm mP] at h';cases h'
   | more nO mP h' =>
     have e:=hm.dm mP;simp only [Prod.mk.injEq,Option.some.injEq,and_true] at e;subst e;exact ih h'
inductive oc (s:ah) (n:ByteArray) (cpu many:Int) : ah×List Int×Int->Prop where
 | ask (h:iO s n cpu≠0) : oc s n cpu many (.zero,[],iO s n cpu)
 | range (h:iO s n cpu=0) (hm : ¬ (1<=many∧many<=256)) : oc s n cpu many (.zero,[],1)
 | DS {i:Nat} {u:ah×List Int×Int} (h:iO s n cpu=0) (hm : 1<=many∧many<=256) (e:idxOf (dO n) s.aa=i) (hr:oa i cpu.toNat many.toNat s [] u) : oc s n cpu many u
theorem oc.dm {many:Int} {u v:ah×List Int×Int} (x:oc s n cpu many u) (y:oc s n cpu many v) : u=v:=by
 cases x with
 | ask h=>cases y with
   | ask=>rfl
   | range h'|DS h'=>exact absurd h' h
 | range h hm=>cases y with
   | ask h'=>exact absurd h h'
   | range=>rfl
   | DS _ mP=>exact absurd mP hm
 | @DS i _ h hm e hr=>cases y with
   | ask h'=>exact absurd h h'
   | range _ mP=>exact absurd hm mP
   | @DS j _ _ _ e' qf =>
     obtain rfl:i=j:=by omega
     exact hr.dm qf
theorem OF (h:iO s n cpu=0) (hf:s.cV) : ∃ i c:Nat,idxOf (dO n) s.aa=i∧cpu=(c:Int)∧aB s∧Bk s i c:=by
 obtain ⟨hq,ht,UP,By⟩:=mo h;obtain ⟨i,hi,_,_,rG⟩:=j1 ht;have hM:=iM.1 hq;obtain ⟨c,rfl⟩:=ada UP;have JS:=(hM.each i hi).may.aZ;exact ⟨i,c,rG,rfl,hM,hf,hi,.of hM hi,by omega⟩
variable {l:List Block}
def j4 (l:List Block) (i:Nat) : Nat:=l.countP fun b=>qi b i
def xK (a o:Int) (i:Nat) : Nat:=(qi ⟨a,o,0⟩ i).toNat
theorem yl (i:Nat) : j4 [] i=0:=rfl
theorem dS (l m:List Block) (i:Nat) : j4 (l++m) i=j4 l i+j4 m i:=List.countP_append
theorem vk (b:Block) (i:Nat) : j4 [b] i=xK b.At b.Order i:=by
 unfold j4 xK;have:qi ⟨b.At,b.Order,0⟩ i=qi b i:=rfl
 rw [List.countP_singleton,this];cases qi b i<;>rfl
theorem zK (b:Block) (l:List Block) (i:Nat) : j4 (b::l) i=xK b.At b.Order i+j4 l i:=by
 rw [<- adn,dS,vk]
theorem mq:ed l i=true↔0<j4 l i:=by
 unfold ed j4;rw [List.countP_pos_iff,ade]
theorem Dq (h:j4 l i<=1) : j4 l i=(ed l i).toNat:=by
 cases e:ed l i with
 | true=>have:=mq.1 e;simp;omega
 | false =>
   have : ¬ 0<j4 l i:=fun h=>by rw [mq.2 h] at e;cases e
   simp;omega
theorem sY (hk:k<l.length) (i:Nat) : j4 l i=j4 (l.eraseIdx k) i+xK l[k].At l[k].Order i:=by
 have e:l=l.take k++l[k]::l.drop (k+1):=by simp
 rw [adB]
 conv=>lhs;rw [e]
 rw [dS,dS,zK];omega
theorem wq (l:List Block) (p:Nat) (x:Block) (i:Nat) : j4 (aM l p x) i=j4 l i+xK x.At x.Order i:=by
 unfold aM;have e:j4 l i=j4 (l.take p) i+j4 (l.drop p) i:=by rw [<- dS,ac4]
 rw [dS,dS,vk];omega
theorem OG {f:Block->Block} (h:∀ b,(f b).At=b.At∧(f b).Order=b.Order) (l:List Block) (i:Nat) : j4 (l.map f) i=j4 l i:=by
 unfold j4;rw [List.countP_map];congr 1
 funext b
 simp only [Function.comp_apply,qi,(h b).1,(h b).2]
theorem zL (a o:Int) (i:Nat) : xK a o i<=1:=by unfold xK;cases qi ⟨a,o,0⟩ i<;>simp
theorem qR : 0<xK a o i↔a<=(i:Int)∧(i:Int)<a+pw o:=by
 unfold xK;cases e:qi ⟨a,o,0⟩ i with
 | true=>simpa [qi] using e
 | false =>
   simp only [Bool.toNat_false,Nat.lt_irrefl,false_iff];intro h;unfold qi at e;simp only [h.1,h.2,decide_true,Bool.and_self,Bool.true_eq_false] at e
theorem OH {b:Block} (hb:b∈l) (h:b.At<=(i:Int)∧(i:Int)<b.At+pw b.Order) : 0<j4 l i:=by
 refine mq.1 (ade.2 ⟨b,hb,?_⟩);simp [qi,h.1,h.2]
theorem zM {t:Int}:∀ {l:List Block},rT l->(∀ b∈l,kV f t b) -> ∀ i,j4 l i<=1
 | [],_,_,i=>by simp [j4]
 | b::l,hu,hb,i=>by
   unfold rT at hu;rw [adY] at hu;have ih:=zM (l:=l) hu.2 (fun x hx=>hb x (by simp [hx])) i;rw [zK];have h1:=zL b.At b.Order i;rcases adj (xK b.At b.Order i) with h0|h0
   ·omega
   ·have hi:=qR.1 h0
    have:j4 l i=0:=by
     rcases adj (j4 l i) with h2|h2
     ·exact h2
     ·obtain ⟨x,hx,UQ⟩:=ade.1 (mq.2 h2);have:=hu.1 x hx
      simp only [qi,Bool.and_eq_true,decide_eq_true_eq] at UQ;omega
    omega
theorem pX (hz:bU z) : ∀ b∈z.aj,kV z.aU z.To b:=fun b hb=>by
 obtain ⟨i,hi,rfl⟩:=ac1 hb;exact hz.eG i hi
theorem EZ (hz:bU z) (i:Nat) : j4 z.aj i<=1:=zM (pD hz) (pX hz) i
theorem OI {q:Int} (h1 : 1<=q) (h4:q<=4) : pw q=2*pw (q-1):=by
 have:=qv (o:=q-1) (by omega) (by omega)
 rwa [aey] at this
theorem Ml {q:Int} (h1 : 1<=q) (h4:q<=4) (i:Nat) : xK a q i=xK a (q-1) i+xK (a+pw (q-1)) (q-1) i:=by
 have hp:=OI h1 h4;have UD:=(cy (o:=q-1) (by omega) (by omega)).1;have e0:=qR (a:=a) (o:=q) (i:=i);have e1:=qR (a:=a) (o:=q-1) (i:=i);have e2:=qR (a:=a+pw (q-1)) (o:=q-1) (i:=i);have l0:=zL a q i;have l1:=zL a (q-1) i;have l2:=zL (a+pw (q-1)) (q-1) i;omega
theorem zN {ty a:Int} (i:Nat) : ∀ (k:Nat) (q:Int) (l:List Block),(k:Int)<=q->q<=4->j4 (lY ty a k q l) i+xK a (q-k) i=j4 l i+xK a q i
 | 0,q,l,_,_=>by simp [lY]
 | k+1,q,l,h,h4=>by
   have ih:=zN (ty:=ty) (a:=a) i k (q-1) (tF ty a q l) (by omega) (by omega);have e:j4 (tF ty a q l) i=j4 l i+xK (a+pw (q-1)) (q-1) i:=wq _ _ _ _
   have hh:=Ml (a:=a) (q:=q) (by omega) h4 i;simp only [lY];rw [show q-((k+1:Nat) : Int)=q-1-(k:Int) by omega];omega
theorem JT (z:ak) (b:Block) (t:Int) (st:Bool) (i:Nat) : j4 (kc z b t st) i=j4 z.aj i:=by
 unfold kc jR;split
 ·split
  ·rfl
  ·exact OG (pe _ _ _) _ _
 ·rfl
theorem ib.j4 {t:Int} {u:ak×Int×Int} (h:ib z o t u) (h0:u.2.2=0) (i:Nat) : Go.Proofs.YtohigmjjbgpfmaaGreatDoor.j4 z.aj i=Go.Proofs.YtohigmjjbgpfmaaGreatDoor.j4 u.1.aj i+xK u.2.1 o i:=by
 cases h with
 | bad|range|kind|room=>simp at h0
 | @ok k st hq ho ht hk hp =>
   have hz:=fg.1 hq;obtain ⟨_,p1,p2⟩:=hp.ord;have bW:k<(kc z z.aj[k] t st).length:=by rw [(uT hz ht st).1];exact hk
   have e1:=sY bW i;rw [JT,vO hz ht st hk] at e1;have e2:=zN (ty:=xz z t st z.aj[k]) (a:=z.aj[k].At) i (z.aj[k].Order-o).toNat z.aj[k].Order ((kc z z.aj[k] t st).eraseIdx k) (by omega) p2;rw [show z.aj[k].Order-((z.aj[k].Order-o).toNat:Int)=o by omega] at e2;have e3:(tV z o t z.aj[k] k st).aj=lY (xz z t st z.aj[k]) z.aj[k].At (z.aj[k].Order-o).toNat z.aj[k].Order ((kc z z.aj[k] t st).eraseIdx k):=rfl
   simp only [e3];simp only at e1;omega
def pk (s:ak×ak) (i:Nat) : Nat:=j4 s.1.aj i+j4 s.2.aj i
def ld (l:List Int) (i:Nat) : Nat:=j4 (l.map ct) i
def jm (L:List aR) (i:Nat) : Nat:=j4 (a9 L) i
theorem vl (p:Int) (i:Nat) : ld [p] i=xK p 0 i:=vk _ _
theorem mJ (l m:List Int) (i:Nat) : ld (l++m) i=ld l i+ld m i:=by unfold ld;rw [adr,dS]
theorem ja (L M:List aR) (i:Nat) : jm (L++M) i=jm L i+jm M i:=by unfold jm a9;rw [adi,dS]
theorem E0 (x:aR) (i:Nat) : jm [x] i=ld x.ax i:=by unfold jm a9 ld;simp
theorem wu (x:aR) (L:List aR) (i:Nat) : jm (x::L) i=ld x.ax i+jm L i:=by rw [<- adn,ja,E0]
theorem zO (L:List aR) (p:Nat) (x:aR) (i:Nat) : jm (aM L p x) i=jm L i+ld x.ax i:=by
 unfold aM;have e:jm L i=jm (L.take p) i+jm (L.drop p) i:=by rw [<- ja,ac4]
 rw [ja,ja,E0];omega
theorem G3 (hk:k<L.length) (i:Nat) : jm L i=jm (L.eraseIdx k) i+ld L[k].ax i:=by
 have e:L=L.take k++L[k]::L.drop (k+1):=by simp
 rw [adB]
 conv=>lhs;rw [e]
 rw [ja,ja,wu];omega
theorem E1 (hk:k<L.length) (x:aR) (i:Nat) : jm (L.set k x) i+ld L[k].ax i=jm L i+ld x.ax i:=by
 have e:L=L.take k++L[k]::L.drop (k+1):=by simp
 have e2:L.set k x=L.take k++x::L.drop (k+1):=by rw [adW,if_pos hk]
 rw [e2]
 conv=>rhs;rw [e]
 rw [ja,ja,wu,wu];omega
theorem zP {s:ak×ak} {t:Int} {u:ak×Int×Int} (h:ib (xJ s zi) o t u) (h0:u.2.2=0) (i:Nat) : pk s i=pk (ss s zi u.1) i+xK u.2.1 o i:=by
 have:=h.j4 h0 i
 unfold xJ at this;unfold pk ss;split at this
 ·rename_i e;rw [if_pos e];simp only;omega
 ·rename_i e;rw [if_neg e];simp only;omega
theorem sZ {s:ak×ak} {t:Int} {u:ak×Int×Int} (h:ib (xJ s zi) o t u) (h0:u.2.2=0) : (ss s zi u.1).1.To=s.1.To:=by
 have hk:=(h.jS h0).1.o8;unfold xJ at hk;unfold ss;split at hk
 ·rename_i e;rw [if_pos e];exact hk
 ·rename_i e;rw [if_neg e]
theorem jK.to {t:Int} {s:ak×ak} {l:List Int} {r:(ak×ak)×List Int} (h:jK m0 m1 zi t fl s l r) : r.1.1.To=s.1.To:=by
 induction h with
 | full|mT|none=>rfl
 | more h he ht hu hr ih=>rw [ih,sZ ht hu]
theorem jN.to {t:Int} {s:ak×ak} (h:jN m0 m1 cpu zi o t fl s L (some r)) : r.1.1.To=s.1.To:=by
 cases h with
 | list=>rfl
 | uv ho he ht hu=>exact sZ ht hu
 | fill ho hk he ht hu hr=>simp only;rw [hr.to,sZ ht hu]
theorem mg.to {t:Int} {s:ak×ak} (h:mg m0 m1 cpu o t fl s L (some r)) : r.1.1.To=s.1.To:=by
 cases h with
 | vU _ h=>exact h.to
 | low _ h=>exact h.to
theorem jK.j4 {t:Int} {s:ak×ak} {l:List Int} {r:(ak×ak)×List Int} (h:jK m0 m1 zi t fl s l r) (i:Nat) : pk s i+ld l i=pk r.1 i+ld r.2 i:=by
 induction h with
 | full|mT|none=>rfl
 | more h he ht hu hr ih =>
   have:=zP ht hu i
   rw [mJ,vl] at ih;omega
theorem Mm {x:aR} (hk:dx L x=true) (hp:dc L x≠[]) (i:Nat) : jm L i=jm (wk L x (dc L x)) i+xK ((dc L x).getLast hp) 0 i:=by
 obtain ⟨hl,_⟩:=jY hk
 have e:=iK hk hl
 obtain ⟨pg,vZ⟩ : ∃ pg,dc L x=pg:=⟨_,rfl⟩
 simp only [vZ] at hp ⊢
 rw [vZ] at e
 have e2:pg=pg.dropLast++[pg.getLast hp]:=(List.dropLast_concat_getLast hp).symm
 have e3:ld pg i=ld pg.dropLast i+xK (pg.getLast hp) 0 i:=by
  conv=>lhs;rw [e2]
  rw [mJ,vl]
 unfold wk
 split
 ·rename_i h1
  have:=G3 hl i
  rw [<- e] at this
  have h0:pg.dropLast=[]:=adl (by rw [List.length_dropLast];omega)
  rw [h0] at e3
  simp only [ld,List.map_nil,yl] at e3
  simp only [ld] at this
  omega
 ·have:=E1 hl (fG x pg.dropLast) i
  rw [<- e] at this
  simp only [fG] at this ⊢
  omega
theorem JU {x:aR} (hk:dx L x=false) (pg:List Int) (i:Nat) : jm (kd L x pg) i=jm L i+ld pg i:=by
 by_cases h:pg=[]
 ·subst h;rw [mh];rfl
 ·rw [pT hk h,zO];rfl
theorem jN.j4 {t:Int} {s:ak×ak} (h:jN m0 m1 cpu zi o t fl s L (some r)) (i:Nat) : pk s i+jm L i=pk r.1 i+jm r.2.1 i+xK r.2.2 o i:=by
 cases h with
 | list ho hk hp=>subst ho;have:=Mm hk hp i;simp only;omega
 | uv ho he ht hu=>have:=zP ht hu i;simp only;omega
 | fill ho hk he ht hu hr =>
   have h1:=zP ht hu i
   have h2:=hr.j4 i
   have h3:=fun pg=>JU hk pg i
   simp only [h3]
   simp only [ld,List.map_nil,yl] at h2
   simp only [ld]
   omega
theorem mg.j4 {t:Int} {s:ak×ak} (h:mg m0 m1 cpu o t fl s L (some r)) (i:Nat) : pk s i+jm L i=pk r.1 i+jm r.2.1 i+xK r.2.2 o i:=by
 cases h with
 | vU _ h=>exact h.j4 i
 | low _ h=>exact h.j4 i
theorem tK:∀ {l bs:List Block},(∀ b∈bs++l,0<=b.At∧1<=pw b.Order)->(∀ i,j4 bs i<=1)->(bB (some bs) l).isSome=true -> ∀ i,j4 (bs++l) i<=1
 | [],bs,_,hc,_,i=>by simpa using hc i
 | b::l,bs,hg,hc,h,i=>by
   have e:bB (some bs) (b::l)=bB (lM (some bs) b) l:=rfl
   rw [e] at h;by_cases hf:wT bs b
   ·have e2:lM (some bs) b=some (bs++[b]):=by simp only [lM,if_pos hf]
    rw [e2] at h
    have PR:∀ i,j4 (bs++[b]) i<=1:=fun i=>by
     rw [dS,vk];have h1:=hc i;have h2:=zL b.At b.Order i;rcases adj (xK b.At b.Order i) with h0|h0
     ·omega
     ·have hi:=qR.1 h0;have hm:=(sO (fun x hx=>hg x (by simp [hx])) (hg b (by simp)).2).2 hf;have hq:=hm.2.2.2 i hi.1 hi.2;have : ¬ 0<j4 bs i:=fun h=>by rw [mq.2 h] at hq;cases hq
      omega
    have:=tK (l:=l) (bs:=bs++[b]) (by simpa using hg) PR h i
    simpa using this
   ·have e2:lM (some bs) b=none:=by simp only [lM,if_neg hf]
    rw [e2,iW] at h;cases h
theorem tL:∀ {l bs:List Block},(∀ b∈bs++l,0<=b.At∧1<=pw b.Order)->(∀ b∈l,b.At+pw b.Order<=256)->(∀ i,j4 (bs++l) i<=1)->(bB (some bs) l).isSome=true
 | [],bs,_,_,_=>rfl
 | b::l,bs,hg,hr,hc=>by
   have DL:=hg b (by simp);have hrb:=hr b (by simp)
   have hf:wT bs b:=by
    refine (sO (fun x hx=>hg x (by simp [hx])) DL.2).1 ⟨DL.1,by omega,by omega,fun i h1 h2 => ?_⟩;cases e:ed bs i with
    | false=>rfl
    | true =>
      have h3:=mq.1 e;have h4:=hc i;have h5:=qR.2 (⟨h1,h2⟩ : b.At<=(i:Int)∧(i:Int)<b.At+pw b.Order);rw [dS,zK] at h4;omega
   have e:bB (some bs) (b::l)=bB (lM (some bs) b) l:=rfl
   have e2:lM (some bs) b=some (bs++[b]):=by simp only [lM,if_pos hf]
   rw [e,e2];exact tL (by simpa using hg) (fun x hx=>hr x (by simp [hx])) (by simpa using hc)
def ud (s:ak×ak) (L:List aR) (lv:List Block) (i:Nat) : Nat:=pk s i+jm L i+j4 lv i
theorem Mn {h:Heap} (f:jy h z0 z1) : ∀ b∈z0.aj++z1.aj++a9 h.av++h.Live,0<=b.At∧1<=pw b.Order:=fun b hb=>by
 obtain ⟨bs,SS⟩:=adw.1 f.all;have pd:=wY f.all b hb;refine ⟨pd.1,?_⟩;simp only [List.mem_append] at hb;rcases hb with ((hb|hb)|hb)|hb
 ·exact (k6 f.d.lN b hb).2
 ·exact (k6 f.d.lq b hb).2
 ·unfold a9 at hb;obtain ⟨x,_,hx⟩:=adm.1 hb;obtain ⟨p,_,rfl⟩:=adk.1 hx;simp only [ct,jh];omega
 ·obtain ⟨j,hj,rfl⟩:=ac1 hb;have:=(f.live.each j hj).1
  exact (cy this.1 this.2).1
theorem jy.Ra {h:Heap} (f:jy h z0 z1) (i:Nat) : ud (z0,z1) h.av h.Live i<=1:=by
 have:=tK (bs:=[]) (l:=z0.aj++z1.aj++a9 h.av++h.Live) (by simpa using Mn f) (fun i=>by simp [j4]) f.all i
 simp only [List.nil_append,dS] at this;unfold ud pk jm;simp only;omega
theorem zQ (hz:bU z) (h : 0<j4 z.aj i) : z.aU<=(i:Int)∧(i:Int)<z.To:=by
 obtain ⟨x,hx,UQ⟩:=ade.1 (mq.2 h);simp only [qi,Bool.and_eq_true,decide_eq_true_eq] at UQ;obtain ⟨⟨f1,f2,f3,f4,f5⟩,_⟩:=pX hz x hx;obtain ⟨k1,k2,k3,k4,k5⟩:=hz.ok;refine ⟨by omega,?_⟩;rcases fB f1 f2 with ⟨e1,e2⟩|⟨e1,e2⟩|⟨e1,e2⟩|⟨e1,e2⟩|⟨e1,e2⟩<;>rw [e2] at f5 UQ<;>omega
theorem zR {s:ak×ak} (h:VS s) (i:Nat) : pk s i=(ed s.1.aj i || ed s.2.aj i).toNat:=by
 have h0:=EZ h.lN i;have h1:=EZ h.lq i;have e0:=Dq h0;have e1:=Dq h1;unfold pk;rcases adj (j4 s.1.aj i) with g0|g0
 ·have c0:ed s.1.aj i=false:=by
   cases e:ed s.1.aj i with
   | false=>rfl
   | true=>have:=mq.1 e;omega
  rw [g0,e1,c0];simp
 ·have r0:=zQ h.lN g0
  have:j4 s.2.aj i=0:=by
   rcases adj (j4 s.2.aj i) with g1|g1
   ·exact g1
   ·have:=zQ h.lq g1
    have:=h.DO
    omega
  rw [this,e0,mq.2 g0];simp
theorem xg {h:Heap} (f:jy h z0 z1) (i:Nat) : pk (bV (z0,z1) (a9 h.av)) i=pk (z0,z1) i+jm h.av i:=by
 have hd:=fH f.d;have ht:=f.Ra i;unfold ud at ht;have hc:j4 (z0.aj++z1.aj++a9 h.av) i=pk (z0,z1) i+jm h.av i:=by rw [dS,dS];rfl
 rw [zR hd.vs i,hd.Ic i,<- Dq (by rw [hc];omega),hc]
theorem zS {h:Heap} (d:nU h z0 z1) : (bV (z0,z1) (a9 h.av)).1.To=z0.To:=by
 have key:∀ k,k<=(a9 h.av).length->(bV (z0,z1) ((a9 h.av).take k)).1.To=z0.To:=by
  intro k;induction k with
  | zero=>intro _;simp [bV]
  | succ k ih =>
    intro hk;rw [ni _ _ _ hk];exact ((d.inv k (by omega)).back (d.next hk)).2.trans (ih (by omega))
 have:=key _ (ac3 _)
 rwa [adS] at this
theorem cM.j4 {h:Heap} {u:Heap×Int×Int} (a:cM h cpu o fl u) (h0:u.2.2=0) : ∃ z0 z1 s,h.bp=[z0,z1]∧jy h z0 z1∧VS s∧u.1.bp=[s.1,s.2]∧(∃ t,kH t∧u.1.Live=dQ h u.2.1 o t)∧u.1.dK=h.dK∧u.1.bG=h.bG∧s.1.To=z0.To ∧
 ∀ i,ud (z0,z1) h.av h.Live i=ud s u.1.av u.1.Live i∧pk (z0,z1) i+jm h.av i=pk s i+jm u.1.av i+xK u.2.1 o i:=by
 cases a with
 | bad|range|form|room=>simp at h0
 | @once z0 z1 r hb hr ht hz ha =>
   obtain ⟨y0,y1,F⟩:=gq (cn.1 hb);have ow:=F.d.cr;rw [hz] at ow;simp only [List.cons.injEq,and_true] at ow;obtain ⟨rfl,rfl⟩:=ow;have hv:=(ha.found F.d.start.vs).1;refine ⟨z0,z1,r.1,hz,F,hv,rfl,⟨_,(sr ht).2,rfl⟩,rfl,rfl,?_,fun i => ?_⟩
   ·exact ha.to
   ·have e:=ha.j4 i;refine ⟨?_,e⟩;unfold ud mU dQ;simp only [wq];omega
 | @gw z0 z1 r hb hr ht hz ha h2 =>
   obtain ⟨y0,y1,F⟩:=gq (cn.1 hb);have ow:=F.d.cr;rw [hz] at ow;simp only [List.cons.injEq,and_true] at ow;obtain ⟨rfl,rfl⟩:=ow;have hv:=(h2.found (fH F.d).vs).1;refine ⟨z0,z1,r.1,hz,F,hv,rfl,⟨_,(sr ht).2,rfl⟩,rfl,rfl,?_,fun i => ?_⟩
   ·rw [h2.to];exact zS F.d
   ·have e:=h2.j4 i;have e2:=xg F i;have e3:jm [] i=0:=rfl
    refine ⟨?_,by simp only [mU];omega⟩;unfold ud mU dQ;simp only [wq];omega
noncomputable def kO (h:Heap) : Int×Heap:=if iX h then (match h.bp with | [z0,z1]=>(0,oN h z0 z1)|_=>(8,⟨[],[],0,[],[]⟩)) else (8,⟨[],[],0,[],[]⟩)
theorem E2 {h:Heap} (hb:iX h=false) : kO h=(8,⟨[],[],0,[],[]⟩):=by simp [kO,hb]
theorem vm {h:Heap} (hb:iX h=true) (hz:h.bp=[z0,z1]) : kO h=(0,oN h z0 z1):=by simp [kO,hb,hz]
set_option maxHeartbeats 2000000 in
theorem BY (r:ju) (h:Heap) (w:World) (hr:HY w r h) (hs:h.small) (NF:∀ z∈h.bp,fF z) :
 bI prog 35 [.agg (dC r).toArray] w (kF w.heap.size (kO h)):=by
 refine aE func35 rfl ntmps35 rfl ?_;refine CW.seq (CW.region (SW.box rfl rfl fun b1 w1 hw lc aW => ?_));have L0:=lc;refine SW.alloc rfl fun b2 w2 bt fk au => ?_
 have uM:=hw.up fk
 have bL:b1≠b2:=by have:=aW.lt;omega
 (obtain ⟨hw,aW⟩:=cX bt hw aW);obtain ⟨q,hq⟩ : ∃ q,iX h=q:=⟨_,rfl⟩
 have c1:∀ w',Ext w w'->bI prog 61 [.agg (dC r).toArray] w' fun v _=>v = .int .i64 (if q then 0 else 8):=fun w' hx=>by
  have:=qF r h w' (hr.ext hx) hs NF
  rwa [hq] at this
 cases q
 ·simp only [Bool.false_eq_true,if_false] at c1;rw [E2 hq];repeat' (first|refine Wz ?_|(refine Wk (c1 _ hw) ?_;intro v w1 ai hv;subst hv;obtain ⟨hw,aW,au⟩:=cj ai hw aW au;clear ai))
  refine SW.ag au rfl rfl rfl rfl (dU .zero) fun w5 cS hg => ?_
  have hw:=hw.own uM hg;refine Wz ?_;exact ae.dw rfl rfl rfl cS rfl ⟨_,rfl,hw,kF.zero 8 _ _⟩
 ·simp only [if_true] at c1;have hm:=cn.1 hq;obtain ⟨z0,z1,hd⟩:=Ep hm;rw [vm hq hd.cr];repeat' (first|refine Wz ?_|(refine Wk (c1 _ hw) ?_;intro v w1 ai hv;subst hv;obtain ⟨hw,aW,au⟩:=cj ai hw aW au;clear ai))
  refine Wk (lZ r h _ (hr.ext hw) hs) fun v w4 ko hv => ?_
  obtain ⟨s,rfl,hO⟩:=hv;have hO:=hO.low hw.size;(obtain ⟨hw,aW,au⟩:=cj ko hw aW au);clear c1;obtain ⟨g,c,u0,u1,ls,eZ,hZ,hR⟩:=hO.split hd.cr;have Be:=hO.cpus;clear hO;obtain ⟨sz,m,cp,li,lv⟩:=s;simp only at eZ hR Be;subst eZ;refine SW.ag aW rfl rfl rfl rfl (dU ⟨⟨some ⟨g,0,none⟩,2,c⟩,m,cp,li,lv⟩) fun w5 tm hg => ?_
  have hG:=aW.gr hg;have hw:=hw.own L0 hg;have au:=au.grown hg (by simpa using Ne.symm bL);obtain ⟨hZ,hR⟩:=cX hG hZ hR;have aW:=tm;clear tm hg hG;refine Wz ?_;have dA:b2≠g:=fun e=>hZ.row.fb au rfl (by rw [hZ.own,e])
  refine SW.dT rfl rfl (JK h z0 z1 hd hs m cp li lv ls u0 u1 g c b1 w.heap.size w _ hw (ac3 _) hw.size L0 aW hZ hR) fun v w6 hv => ?_
  obtain ⟨nC,hE,tm,Z6,u2,u3,FV⟩:=hv;have au:=hE.eG au dA (Ne.symm bL);clear hw aW hR hZ hE;have hw:=nC;clear nC;refine Wz ?_;refine SW.ag au rfl rfl rfl rfl (dU ⟨⟨some ⟨g,0,none⟩,2,c⟩,m,cp,.nil,lv⟩) fun w7 cS hg => ?_
  have hG:=au.gr hg;have hw:=hw.own uM hg;refine Wz ?_;exact ae.dw rfl rfl rfl cS rfl ⟨_,rfl,hw,⟨⟨some ⟨g,0,none⟩,2,c⟩,m,cp,.nil,lv⟩,rfl,(Z6.aN hG rfl).join (FV.aN hG rfl) Be⟩
theorem Iv (h:bU z) : z.aj.length*24<=140737488355328∧z.Types.length*8<=140737488355328:=by
 have:=kq h
 exact ⟨ac2 (adt 24 this.1) (by decide),by omega⟩
theorem Dr (h:Heap) (hs:h.small) : (kO h).2.small:=by
 cases hq:iX h
 ·rw [E2 hq];constructor<;>simp
 ·obtain ⟨z0,z1,hd⟩:=Ep (cn.1 hq);rw [vm hq hd.cr];have hI:=hd.inv _ (ac3 _);rw [adS] at hI;refine ⟨by simp [oN],hs.ef,by simp [oN],hs.live,fun z hz => ?_,fun l hl=>by simp [oN] at hl⟩;simp only [oN,List.mem_cons,List.not_mem_nil,or_false] at hz;rcases hz with rfl|rfl
  ·exact Iv hI.lN
  ·exact Iv hI.lq
def JV (to zi p:Int) : Prop:=(0<=p∧p<256)∧(p<to↔zi=0)
structure kx (c to:Int) (L:List aR) : Prop where
 head:∀ l∈L,lj c l
 nV:Er L
 kh:∀ l∈L,∀ p∈l.ax,JV to l.ak p
theorem kx.nil (c to:Int) : kx c to []:=⟨by simp,List.Pairwise.nil,by simp⟩
theorem kx.ok {c to:Int} (h:kx c to L) : nf c to L:=by
 refine ⟨fun i hi=>h.head _ (ac0 hi),fun i hi=>h.nV.get hi (by omega),fun i hi p hp=>(h.kh _ (ac0 hi) p hp).2⟩
theorem jy.ls {h:Heap} (f:jy h z0 z1) (hm:bJ h) : kx h.bG z0.To h.av:=by
 obtain ⟨y0,y1,h1,_,_,_,_,_,h7,_⟩:=hm.cr;have hz:=f.d.cr;rw [h1] at hz;simp only [List.cons.injEq,and_true] at hz;obtain ⟨rfl,rfl⟩:=hz;refine ⟨fun l hl => ?_,f.nV,fun l hl p hp => ?_⟩
 ·obtain ⟨i,hi,rfl⟩:=ac1 hl;exact h7.head i hi
 ·obtain ⟨i,hi,rfl⟩:=ac1 hl;refine ⟨?_,h7.kh i hi p hp⟩;obtain ⟨j,hj,rfl⟩:=ac1 hp;exact (f.GF hi hj).at_
theorem kx.erase {c to:Int} (h:kx c to L) (k:Nat) : kx c to (L.eraseIdx k) :=
 ⟨fun l hl=>h.head l (adJ hl),List.Pairwise.sublist (adU L k) h.nV,fun l hl=>h.kh l (adJ hl)⟩
theorem kx.tr {c to:Int} (h:kx c to L) (hk:k<L.length) {y:aR} (he:iZ L[k] y) (hy:lj c y) (hz:∀ p∈y.ax,JV to y.ak p) : kx c to (L.set k y):=by
 refine ⟨fun l hl => ?_,?_,fun l hl => ?_⟩
 ·rcases adg hl with h1|rfl
  ·exact h.head l h1
  ·exact hy
 ·unfold Er;rw [ac8];intro i j hi hj o9;simp only [List.length_set] at hi hj;have h0:=h.nV.get hj o9;rw [adq,adq];unfold da iZ at *;split
  ·rename_i e;subst e
   rw [if_neg (by omega)];omega
  ·split
   ·rename_i e;subst e;omega
   ·exact h0
 ·rcases adg hl with h1|rfl
  ·exact h.kh l h1
  ·exact hz
theorem kx.ins {c to:Int} (h:kx c to L) {y:aR} (hk:dx L y=false) (hy:lj c y) (hz:∀ p∈y.ax,JV to y.ak p) : kx c to (aM L (bu L y) y):=by
 have mS:∀ l∈aM L (bu L y) y,l∈L∨l=y:=fun l hl=>by
  unfold aM at hl;simp only [List.mem_append,List.mem_singleton] at hl;rcases hl with (hl|rfl)|hl
  ·exact .inl (adu hl)
  ·exact .inr rfl
  ·exact .inl (adI hl)
 refine ⟨fun l hl => ?_,zF h.nV hk,fun l hl => ?_⟩
 ·rcases mS l hl with h1|rfl
  ·exact h.head l h1
  ·exact hy
 ·rcases mS l hl with h1|rfl
  ·exact h.kh l h1
  ·exact hz
theorem kx.PS {c to:Int} (h:kx c to L) {y:aR} (hy:lj c y) (hz:∀ p∈y.ax,JV to y.ak p) : kx c to (iU L y):=by
 cases hk:dx L y
 ·rw [r6 hk];exact h.ins hk hy hz
 ·obtain ⟨hl,he⟩:=jY hk;rw [r5 hk];exact h.tr hl he hy hz
theorem kx.pop {c to:Int} (h:kx c to L) {x:aR} (hk:dx L x=true) : kx c to (wk L x (dc L x)):=by
 obtain ⟨hl,he⟩:=jY hk;have e:=iK hk hl;unfold wk;split
 ·exact h.erase _
 ·rename_i h1;have h2:=h.head _ (ac0 hl);have h3:=h.kh _ (ac0 hl);rw [e] at h1 ⊢;refine h.tr hl (by unfold iZ fG at *;simpa using he) ?_ fun p hp => ?_
  ·unfold lj fG at *;unfold iZ at he;simp only [List.length_dropLast];omega
  ·have:=h3 p ((List.dropLast_sublist _).subset hp)
   unfold iZ at he;simp only [fG] at this ⊢;rwa [<- he.2.1]
theorem kx.more {c to:Int} (h:kx c to L) {x:aR} (hk:dx L x=false) (h1:(0<=x.fV∧x.fV<c)∧(0<=x.ak∧x.ak<=1)∧(0<=x.Ty∧x.Ty<=2)) (h2:pg.length<=8) (hz:∀ p∈pg,JV to x.ak p) : kx c to (kd L x pg):=by
 by_cases e:pg=[]
 ·subst e;rw [mh];exact h
 ·rw [pT hk e];obtain ⟨k1,k2⟩:=ku (L:=L) (qO (x:=x) (pg:=pg));refine h.ins (by rw [<- k2];exact hk) ?_ hz;have : 0<pg.length:=List.length_pos_iff.2 e
  unfold lj fG;simp only;omega
theorem VS.range {s:ak×ak} (h:VS s) : 0<=s.1.To∧s.1.To<=256:=by
 have h1:=h.lN.ok;have h2:=h.lq.ok;have:=h.DO
 obtain ⟨a1,a2,a3,a4,a5⟩:=h1;obtain ⟨b1,b2,b3,b4,b5⟩:=h2;omega
theorem JW {s:ak×ak} {t:Int} {u:ak×Int×Int} (hv:VS s) (sQ:zi=0∨zi=1) (h:ib (xJ s zi) o t u) (h0:u.2.2=0) : JV s.1.To zi u.2.1:=by
 obtain ⟨_,⟨x,hx,e⟩,_⟩:=h.jS h0;obtain ⟨⟨f1,f2,f3,f4,f5⟩,_⟩:=pX (hv.xJ zi) x hx;have hr:=hv.range;have:=hv.pK;have:=hv.DO;have:=hv.Jn
 unfold xJ at f3 f4;unfold JV;rcases sQ with rfl|rfl
 ·simp only [if_true] at f3 f4;omega
 ·simp only [show ¬ (1:Int)=0 by omega,if_false] at f3 f4;omega
theorem jK.bC {t:Int} {s:ak×ak} {l:List Int} {r:(ak×ak)×List Int} (h:jK m0 m1 zi t fl s l r) (sQ:zi=0∨zi=1) : VS s->(∀ p∈l,JV s.1.To zi p) -> ∀ p∈r.2,JV s.1.To zi p:=by
 induction h with
 | full|mT|none=>exact fun _ h=>h
 | more h he ht hu hr ih =>
   intro hv hl;rw [<- sZ ht hu];refine ih (hv.tr (ht.jS hu).1) fun p hp => ?_
   rw [sZ ht hu];rcases ac9.1 hp with hp|hp
   ·exact hl p hp
   ·simp only [List.mem_singleton] at hp;subst hp;exact JW hv sQ ht hu
theorem jN.ls {t c:Int} {s:ak×ak} (h:jN m0 m1 cpu zi o t fl s L (some r)) (sQ:zi=0∨zi=1) (hv:VS s) (hL:kx c s.1.To L) (hc : 0<=cpu∧cpu<c) (ht : 0<=t∧t<=2) : kx c s.1.To r.2.1:=by
 cases h with
 | list ho hk hp=>exact hL.pop hk
 | uv ho he ht hu=>exact hL
 | fill ho hk he GA hu hr =>
   have Vt:=hv.tr (GA.jS hu).1;have h3:=(hr.vs Vt).2;refine hL.more hk ⟨hc,by rcases sQ with rfl|rfl<;>simp,ht⟩ (by omega) fun p hp => ?_
   have:=hr.bC sQ Vt (by simp) p hp
   rwa [sZ GA hu] at this
theorem mg.ls {t c:Int} {s:ak×ak} (h:mg m0 m1 cpu o t fl s L (some r)) (hv:VS s) (hL:kx c s.1.To L) (hc : 0<=cpu∧cpu<c) (ht : 0<=t∧t<=2) : kx c s.1.To r.2.1:=by
 cases h with
 | vU _ h=>exact h.ls (.inr rfl) hv hL hc ht
 | low _ h=>exact h.ls (.inl rfl) hv hL hc ht
theorem Rb {k:Int} (ho : 0<=o) (h:o<=k) (hk:k<=4) (ha:a % pw k=0) : a % pw o=0:=by
 rcases fB (o:=o) ho (by omega) with ⟨e1,e2⟩|⟨e1,e2⟩|⟨e1,e2⟩|⟨e1,e2⟩|⟨e1,e2⟩<;>rcases fB (o:=k) (by omega) hk with ⟨e3,e4⟩|⟨e3,e4⟩|⟨e3,e4⟩|⟨e3,e4⟩|⟨e3,e4⟩<;>rw [e2]<;>rw [e4] at ha<;>omega
theorem ib.al {t:Int} {u:ak×Int×Int} (h:ib z o t u) (h0:u.2.2=0) : u.2.1 % pw o=0:=by
 cases h with
 | bad|range|kind|room=>simp at h0
 | @ok k st hq ho ht hk hp =>
   obtain ⟨_,p1,p2⟩:=hp.ord;have hb:=(pX (fg.1 hq) _ (ac0 hk)).1;exact Rb ho.1 (by omega) (by omega) hb.2.2.2.2
theorem jN.al {t:Int} {s:ak×ak} (h:jN m0 m1 cpu zi o t fl s L (some r)) : r.2.2 % pw o=0:=by
 cases h with
 | list ho hk hp=>subst ho;simp only [jh];omega
 | uv ho he ht hu=>exact ht.al hu
 | fill ho hk he ht hu hr=>exact ht.al hu
theorem mg.al {t:Int} {s:ak×ak} (h:mg m0 m1 cpu o t fl s L (some r)) : r.2.2 % pw o=0:=by
 cases h with
 | vU _ h=>exact h.al
 | low _ h=>exact h.al
theorem Ds (h1:∀ b∈l,vN b) (h2:l.Pairwise fun x y=>x.At<y.At) : fP l:=by
 rw [ac8] at h2;exact ⟨fun i hi=>h1 _ (ac0 hi),fun i hi=>h2 i (i+1) (by omega) hi (by omega)⟩
theorem fP.all (h:fP l) : ∀ b∈l,vN b:=fun b hb=>by
 obtain ⟨i,hi,rfl⟩:=ac1 hb;exact h.each i hi
theorem fP.erase (h:fP l) (k:Nat) : fP (l.eraseIdx k) :=
 Ds (fun b hb=>h.all b (adJ hb)) (List.Pairwise.sublist (adU l k) (kE h))
theorem fP.TF {h:Heap} (hl:fP h.Live) {t:Int} (hb:vN ⟨a,o,t⟩) (hn:∀ b∈h.Live,b.At≠a) : fP (dQ h a o t):=by
 refine Ds (fun b iq => ?_) ?_
 ·rcases vT iq with rfl|h1
  ·exact hb
  ·exact hl.all b h1
 ·have hp:=kE hl
  have hd:∀ x∈h.Live.drop (bE h.Live a),a<x.At:=fun x hx=>by
   obtain ⟨j,hj,rfl⟩:=ac1 hx;simp only [List.length_drop] at hj;rw [adZ];have h1:=D7 (l:=h.Live) (a:=a) (by omega);have h2:=hn _ (ac0 (show bE h.Live a+j<h.Live.length by omega));rcases adj j with e|e
   ·subst e;simp only [Nat.add_zero] at h2 ⊢;omega
   ·rw [ac8] at hp;have h3:=hp (bE h.Live a) (bE h.Live a+j) (by omega) (by omega) (by omega);omega
  have ht:∀ x∈h.Live.take (bE h.Live a),x.At<a:=fun x hx=>by
   obtain ⟨j,hj,rfl⟩:=ac1 hx;simp only [List.length_take] at hj;rw [adH];exact pE (by omega)
  unfold dQ aM;rw [ac6,adp];refine ⟨List.Pairwise.sublist (List.take_sublist _ _) hp,?_,fun x hx y hy => ?_⟩
  ·rw [adn,adY];exact ⟨hd,List.Pairwise.sublist (List.drop_sublist _ _) hp⟩
  ·have h1:=ht x hx;rcases ac9.1 hy with hy|hy
   ·simp only [List.mem_singleton] at hy;subst hy;exact h1
   ·have:=hd y hy;omega
theorem pY {h:Heap} {s:ak×ak} (hz:h.bp=[s.1,s.2]) (hv:VS s) (hl:kx h.bG s.1.To h.av) (hm:∃ m0 m1,h.dK=[m0,m1]∧(0<=m0∧m0<=256)∧(0<=m1∧m1<=256)) (hc : 1<=h.bG∧h.bG<=4) (PD:fP h.Live) (ht:∀ i,ud s h.av h.Live i<=1) : bJ h:=by
 refine ⟨⟨s.1,s.2,hz,hv.lN,hv.lq,hv.pK,hv.DO,hv.Jn,hl.ok,?_⟩,hm,hc,PD⟩;have hr:=hv.range
 have key:∀ b∈s.1.aj++s.2.aj++a9 h.av++h.Live,(0<=b.At∧1<=pw b.Order)∧b.At+pw b.Order<=256:=fun b hb=>by
  have al:∀ x o:Int,0<=o->o<=4->0<=x->x<256->x % pw o=0->(0<=x∧1<=pw o)∧x+pw o<=256:=fun x o o1 o2 x1 x2 h3=>by
   rcases fB o1 o2 with ⟨e1,e2⟩|⟨e1,e2⟩|⟨e1,e2⟩|⟨e1,e2⟩|⟨e1,e2⟩<;>rw [e2] at h3 ⊢<;>omega
  have z0:=hv.lN.ok;have z1:=hv.lq.ok;unfold fC at z0 z1;rw [ac9,ac9,ac9] at hb;rcases hb with ((hb|hb)|hb)|hb
  ·obtain ⟨⟨f1,f2,f3,f4,f5⟩,_⟩:=pX hv.lN b hb;exact al _ _ f1 f2 (by omega) (by omega) f5
  ·obtain ⟨⟨f1,f2,f3,f4,f5⟩,_⟩:=pX hv.lq b hb;exact al _ _ f1 f2 (by omega) (by omega) f5
  ·unfold a9 at hb;obtain ⟨x,hx,hb⟩:=adm.1 hb;obtain ⟨p,hp,rfl⟩:=adk.1 hb;have:=(hl.kh x hx p hp).1
   exact al p 0 (by omega) (by omega) this.1 this.2 (by rw [jh];omega)
  ·obtain ⟨l1,l2,l3,_⟩:=PD.all b hb;exact al _ _ l1.1 l1.2 l2.1 (by omega) l3
 refine tL (bs:=[]) (fun b hb=>(key b (by simpa using hb)).1) (fun b hb=>(key b hb).2) fun i => ?_
 have:=ht i
 unfold ud pk jm at this;simp only [List.nil_append,dS];omega
theorem cM.may {h:Heap} {u:Heap×Int×Int} (a:cM h cpu o fl u) (h0:u.2.2=0) : bJ u.1:=by
 obtain ⟨y0,y1,s,c1,c2,c3,c4,⟨t,c5,c6⟩,c7,c8,c9,Yd⟩:=a.j4 h0;have kX:=a.at_ h0
 have hm:bJ h:=by
  cases a with
  | bad|range|form|room=>simp at h0
  | once hb|gw hb=>exact cn.1 hb
 have xy:(0<=o∧o<=4)∧u.2.1 % pw o=0∧kx h.bG y0.To u.1.av ∧ ∀ b∈h.Live,b.At≠u.2.1:=by
  cases a with
  | bad|range|form|room=>simp at h0
  | @once z0 z1 r hb hr ht hz ha =>
    rw [c1] at hz;simp only [List.cons.injEq,and_true] at hz;obtain ⟨rfl,rfl⟩:=hz;obtain ⟨i,e,h1,h2⟩:=pU c2 (ha.found c2.d.start.vs).2;exact ⟨hr.2,ha.al,ha.ls c2.d.start.vs (c2.ls hm) hr.1 (sr ht).2,c2.sW e h2⟩
  | @gw z0 z1 r hb hr ht hz ha h2 =>
    rw [c1] at hz;simp only [List.cons.injEq,and_true] at hz;obtain ⟨rfl,rfl⟩:=hz;obtain ⟨i,e,h1,h3⟩:=n9 c2 (h2.found (fH c2.d).vs).2;have:=h2.ls (c:=h.bG) (fH c2.d).vs (kx.nil _ _) hr.1 (sr ht).2
    rw [zS c2.d] at this;exact ⟨hr.2,h2.al,this,c2.sW e h3⟩
 obtain ⟨o1,o2,o3,o4⟩:=xy;have We:=fun i=>c2.Ra i
 refine pY c4 c3 (by rw [c8,c9];exact o3) (by rw [c7];exact hm.ef) (by rw [c8];exact hm.cpus) ?_ fun i=>by rw [<- (Yd i).1];exact We i
 rw [c6];exact c2.live.TF ⟨o1,by simp only;omega,o2,c5⟩ o4
theorem JX {h:Heap} (hm:bJ h) (hz:h.bp=[z0,z1]) : bJ (oN h z0 z1):=by
 obtain ⟨y0,y1,f⟩:=gq hm;have ow:=f.d.cr;rw [hz] at ow;simp only [List.cons.injEq,and_true] at ow;obtain ⟨rfl,rfl⟩:=ow;refine pY rfl (fH f.d).vs (kx.nil _ _) hm.ef hm.cpus f.live fun i => ?_
 have h1:=f.Ra i;have h2:=xg f i;have h3:jm [] i=0:=rfl
 unfold ud at h1 ⊢;simp only [oN];omega
theorem OJ (l:List Block) (i:Nat) : (ed l i).toNat<=j4 l i:=by
 cases e:ed l i with
 | false=>simp
 | true=>have:=mq.1 e;simp;omega
theorem Mo (L:List aR) (y:aR) (i:Nat) : jm (iU L y) i+ld (dc L y) i=jm L i+ld y.ax i:=by
 cases hk:dx L y
 ·rw [r6 hk,nG hk,zO];simp [ld,yl]
 ·obtain ⟨hl,_⟩:=jY hk;rw [r5 hk,iK hk hl];exact E1 hl y i
theorem jy.Mp {h:Heap} (f:jy h z0 z1) (hi:i<h.av.length) : ∀ j,j<=h.av[i].ax.length->(bV (z0,z1) ((h.av[i].ax.take j).map ct)).1.To=z0.To
 | 0,_=>by simp [bV]
 | j+1,hj=>by
   have ih:=((f.inv hi j (by omega)).back (f.GF hi (show j<_ by omega))).2
   have e:(h.av[i].ax.take (j+1)).map ct=(h.av[i].ax.take j).map ct++[ct h.av[i].ax[j]]:=by
    rw [ac5 (by omega),adr];rfl
   rw [e,nT];exact ih.trans (f.Mp hi j (by omega))
theorem E3 (hz:bU z) (h1:z.aU<=a) (h2:a<z.To) : kH (zo z a):=by
 have hl:=hz.len;have hi:((a-z.aU) / 8).toNat<z.Types.length:=by omega
 unfold zo;rw [adM,ac7 hi];exact hz.types _ (ac0 hi)
theorem Mq {h:Heap} (f:jy h z0 z1) (hc : 0<=cpu∧cpu<h.bG) (ha : 0<=a∧a<256) : ((0<=(keyOf z0 z1 cpu a).fV∧(keyOf z0 z1 cpu a).fV<h.bG)∧(0<=(keyOf z0 z1 cpu a).ak∧(keyOf z0 z1 cpu a).ak<=1)∧(0<=(keyOf z0 z1 cpu a).Ty∧(keyOf z0 z1 cpu a).Ty<=2))∧JV z0.To (keyOf z0 z1 cpu a).ak a:=by
 have h0:=f.d.pK;have hm:=f.d.DO;have ht:=f.d.Jn
 unfold keyOf JV;by_cases hl:a<z0.To
 ·simp only [if_pos hl];exact ⟨⟨hc,by omega,E3 f.d.lN (by omega) hl⟩,ha,by simp [hl]⟩
 ·simp only [if_neg hl];exact ⟨⟨hc,by omega,E3 f.d.lq (by omega) (by omega)⟩,ha,by simp [hl]⟩
theorem G4 (l:List Int) (k i:Nat) : ld l i=ld (l.take k) i+ld (l.drop k) i:=by rw [<- mJ,ac4]
theorem s5 {h:Heap} (hm:bJ h) (hc : 0<=cpu∧cpu<h.bG) (hf:bO h.Live a=true) : bJ (iL h cpu a):=by
 obtain ⟨z0,z1,f⟩:=gq hm;obtain ⟨hk,PL⟩:=jx hf;obtain ⟨k,ek⟩ : ∃ k,bE h.Live a=k:=⟨_,rfl⟩;simp only [ek] at hk PL;have hL:=f.ls hm;have Ji:=f.live.each k hk;have hN:=f.next hk
 have OK:∀ (s:ak×ak) (bs:List Block),qC s (z0.aj++z1.aj++bs) -> ∀ i,pk s i<=pk (z0,z1) i+j4 bs i:=fun s bs D i=>by
  rw [zR D.vs i,D.Ic i];have:=OJ (z0.aj++z1.aj++bs) i
  rw [dS,dS] at this;exact this
 by_cases ho : 0<h.Live[k].Order
 ·rw [qH f.d.cr hk ek ho];obtain ⟨D,DN⟩:=f.d.start.back hN;refine pY (s:=gp (z0,z1) h.Live[k]) rfl D.vs (by rw [DN];exact hL) hm.ef hm.cpus (f.live.erase k) fun i => ?_
  have h1:=f.Ra i;have h2:=OK _ _ D i;have h3:=sY hk i;rw [vk] at h2;unfold ud at h1 ⊢;simp only [r7];omega
 ·have e0:h.Live[k].Order=0:=by have:=Ji.1;omega
  rw [qI f.d.cr hk ek ho];obtain ⟨hx,hz⟩:=Mq f hc (a:=a) (by have:=Ji.2.1;omega);obtain ⟨x,ex⟩ : ∃ x,keyOf z0 z1 cpu a=x:=⟨_,rfl⟩;rw [ex] at hx hz ⊢;obtain ⟨q,eq⟩ : ∃ q,dc h.av x=q:=⟨_,rfl⟩;rw [eq]
  have Z7:q.length<=8∧(∀ p∈q,JV z0.To x.ak p)∧(q≠[] -> ∃ hl:bu h.av x<h.av.length,h.av[bu h.av x].ax=q):=by
   cases hh:dx h.av x
   ·rw [nG hh] at eq;subst eq;exact ⟨by simp,by simp,fun h=>absurd rfl h⟩
   ·obtain ⟨hl,he⟩:=jY hh;rw [iK hh hl] at eq;subst eq;refine ⟨(hL.head _ (ac0 hl)).2.2.2.2,fun p hp => ?_,fun _=>⟨hl,rfl⟩⟩;have:=hL.kh _ (ac0 hl) p hp
    rwa [he.2.1] at this
  obtain ⟨q1,q2,q3⟩:=Z7
  have Ye:∀ p∈q++[a],JV z0.To x.ak p:=fun p hp=>by
   rcases ac9.1 hp with hp|hp
   ·exact q2 p hp
   ·simp only [List.mem_singleton] at hp;subst hp;exact hz
  have OB:∀ (pg:List Int) (i:Nat),jm (iU h.av (m8 x pg)) i+ld q i=jm h.av i+ld pg i:=fun pg i=>by
   have h1:=Mo h.av (m8 x pg) i;have Wg:iZ (m8 x pg) x:=⟨rfl,rfl,rfl⟩
   obtain ⟨k1,k2⟩:=ku (L:=h.av) Wg
   have:dc h.av (m8 x pg)=q:=by
    rw [<- eq];unfold dc;rw [k2];split
    ·rename_i hh;obtain ⟨hl,_⟩:=jY hh;rw [k1,adM,adM,ac7 hl]
     rfl
    ·rfl
   rw [this] at h1;exact h1
  have h3:=fun i=>sY hk i
  rw [PL,e0] at h3;unfold kw;split
  ·rename_i h9;simp only [List.length_append,List.length_singleton] at h9;have hq:q.length=8:=by omega
   have Yf:(q++[a]).take 4=q.take 4:=aes (by omega)
   obtain ⟨hl,Wh⟩:=q3 (fun e=>by rw [e] at hq;simp at hq);have D:=f.inv hl 4 (by rw [Wh];omega);have DN:=f.Mp hl 4 (by rw [Wh];omega);rw [Wh] at D DN;rw [Yf];refine pY (s:=bV (z0,z1) ((q.take 4).map ct)) rfl D.vs ?_ hm.ef hm.cpus (f.live.erase k) fun i => ?_
   ·simp only [DN];refine hL.PS ?_ fun p hp=>Ye p (adI hp)
    unfold lj m8;simp only [List.length_drop,List.length_append,List.length_singleton];omega
   ·have h1:=f.Ra i;have h2:=OK _ _ D i;have h4:=OB ((q++[a]).drop 4) i;have h5:=G4 (q++[a]) 4 i;rw [mJ,vl,Yf] at h5;have h6:=h3 i;have h7:ld (q.take 4) i=j4 ((q.take 4).map ct) i:=rfl
    unfold ud at h1 ⊢;simp only;omega
  ·rename_i h9;simp only [List.length_append,List.length_singleton] at h9;refine pY (s:=(z0,z1)) rfl f.d.start.vs ?_ hm.ef hm.cpus (f.live.erase k) fun i => ?_
   ·refine hL.PS ?_ Ye;unfold lj m8;simp only [List.length_append,List.length_singleton];omega
   ·have h1:=f.Ra i;have h4:=OB (q++[a]) i;rw [mJ,vl] at h4;have h6:=h3 i;unfold ud at h1 ⊢;simp only;omega
variable {l':List Slab} {A:Option Addr} {w:World}
theorem JY {n:Nat} {l:List Slab} (h:Sl w 3 bf A n l) (h':Sl w 3 bf A n l') : l=l':=by
 have e1:=h.len;have e2:=h'.len;refine adR (by omega) fun k h1 h2 => ?_
 obtain ⟨x,hx⟩ : ∃ x,l[k]=x:=⟨_,rfl⟩;obtain ⟨y,hy⟩ : ∃ y,l'[k]=y:=⟨_,rfl⟩;have a:=h.all (i:=k) (by omega);have b:=h'.all (i:=k) (by omega);rw [show l[k]'(h.lt (by omega))=x from hx] at a;rw [show l'[k]'(h'.lt (by omega))=y from hy] at b;have p0:=(a 0 (.int .i64 x.At) rfl).symm.trans (b 0 (.int .i64 y.At) rfl);have p1:=(a 1 (.int .i64 x.aj) rfl).symm.trans (b 1 (.int .i64 y.aj) rfl);have p2:=(a 2 (.int .i64 x.cf) rfl).symm.trans (b 2 (.int .i64 y.cf) rfl);simp at p0 p1 p2;rw [hx,hy];cases x
 cases y
 simp only at p0 p1 p2;rw [p0,p1,p2]
theorem su (A:Option Addr) (n c:Nat) (l:List Slab) (w:World) (hl:Sl w 3 bf A n l) (f:FuncId) (cap:List Value) [Body prog f] (p:Slab->Bool) (arg:Slab->Value) (qx:∀ x,arg x=(if 3=1 then (bf x)[0]?.getD undef else .agg (bf x).toArray))
 (hf:∀ x∈l,∀ w',Ext w w'->bI prog f ([arg x]++cap) w' fun v _=>v = .bool (p x)) (hn:n<=9223372036854775807) :
 bI prog 116 [.slice A n c,.func (.func f) #[] cap.toArray] w fun v _=>v = .bool (l.any p):=by
 refine aE func116 rfl ntmps116 rfl ?_;have hw:=Ext.refl w;repeat' (first|refine Wz ?_|(refine Wk (ln _ _ _ _ _ (hl.ext hw) f cap p arg qx (fun x hx w1 h1=>hf x hx w1 (hw.trans h1)) hn) ?_;intro v w1 ai hv;subst hv;have hw:=hw.trans ai;clear ai))
 exact ae.bj rfl rfl ⟨_,rfl,hw,by rw [mx]⟩
def tM (t:Int) (c:aQ) : Bool:=c.ab.any (xD t)
def mr (s:ah) (t:Int) : Bool:=s.aa.any (tM t)
def df (s:ah) (a:Int) : Bool:=decide (0<=a∧a % 16=0) && (!mr s (a / 16) && bO s.Heap.Live (a / 16))
theorem Mr (w:World) (t:Int) : ∃ p:dN->Bool,∀ x c,Gu w x c->p x=tM t c:=by
 classical
 refine ⟨fun x=>decide (∃ c,Gu w x c∧tM t c=true),fun x c h => ?_⟩;cases e:tM t c
 ·refine decide_eq_false ?_;rintro ⟨c',h',e'⟩
  unfold tM at e e';rw [JY h'.aD h.aD,e] at e';cases e'
 ·exact decide_eq_true ⟨c,h,e⟩
theorem OL (t:Int) (b6:Nat) (x:Slab) (w:World) (h6:aS w b6 3 [.int .i64 t]) :
 bI prog 117 ([.agg (bf x).toArray]++[.pointer (some ⟨b6,0,none⟩)]) w fun v _=>v = .bool (xD t x):=by
 refine aE func117 rfl ntmps117 rfl ?_;refine CW.seq (CW.region (SW.box rfl rfl fun b1 w1 hw lc aW => ?_));have h6:=h6.ext hw;have JZ:=h6.cell (i:=0) (v := .int .i64 t) rfl;rw [add_zero] at JZ;repeat' (first|refine Wz ?_|refine Wl JZ ?_)
 exact ae.bj rfl rfl ⟨_,rfl,hw,rfl⟩
theorem OM (t:Int) (b6:Nat) (x:dN) (c:aQ) (w:World) (h6:aS w b6 3 [.int .i64 t]) (hx:Gu w x c) (hn:x.ab.n<=9223372036854775807) :
 bI prog 115 ([.agg (fK x).toArray]++[.pointer (some ⟨b6,0,none⟩)]) w fun v _=>v = .bool (tM t c):=by
 refine aE func115 rfl ntmps115 rfl ?_;refine CW.seq (CW.region (SW.box rfl rfl fun b2 w1 hw fk au => ?_));have h6:=h6.ext hw;repeat' (first|refine Wz ?_|(refine SW.st (jg (vs:=[.pointer (some ⟨b6,0,none⟩)]) rfl) rfl ?_))
 refine Wk (su _ _ _ c.ab _ (hx.aD.ext hw) _ [.pointer (some ⟨b6,0,none⟩)] (xD t) (fun x => .agg (bf x).toArray) (fun x=>rfl) (fun x hx w1 lf=>OL t b6 x w1 (h6.ext lf)) hn) fun v w4 ko hv => ?_
 subst hv;have hw:=hw.trans ko;refine Wz ?_;exact ae.bj rfl rfl ⟨_,rfl,hw,rfl⟩
theorem Ms (x:Block) (a:Int) (w:World) (hx : -4000000000000000000<=x.At∧x.At<=4000000000000000000) (ha : -4000000000000000000<=a∧a<=4000000000000000000) : bI prog 118 ([.agg (aO x).toArray,.int .i64 a]++[]) w fun v _=>v = .int .i64 (x.At-a):=by
 refine aE func118 rfl ntmps118 rfl ?_;refine CW.seq (CW.region (SW.box rfl rfl fun b1 w1 hw lc aW => ?_));refine Wz ?_;exact ae.bj rfl rfl ⟨_,rfl,hw,rfl⟩
theorem s8 (r:db) (s:ah) (a:Int) (w:World) (hr:AM w r s) (hs:s.small) (hM:aB s) (ha : -9223372036854775808<=a∧a<=9223372036854775807) :
 bI prog 67 [.agg (aP r).toArray,.int .i64 a] w fun v _ => ∃ i:Int,v = .tuple #[.int .i64 i,.bool (df s a)]∧(df s a=true->i=(bE s.Heap.Live (a / 16) : Int)):=by
 refine aE func67 rfl ntmps67 rfl ?_;refine CW.seq (CW.region (SW.box rfl rfl fun b2 w1 hw fk au => ?_));obtain ⟨cs,hc⟩:=hr.br;obtain ⟨z1,z2⟩:=hc.len;have m3:=hs.br;have mv:=hr.heap.live.len;have m5:=hs.heap.live;by_cases h0 : 0<=a
 ·have Wi:a.tmod 16=a % 16:=adE h0
  by_cases h1:a % 16=0
  ·obtain ⟨t,ht⟩ : ∃ t,a / 16=t:=⟨_,rfl⟩;have UJ : 0<=t∧t<=1000000000000000000:=by omega
   obtain ⟨p,hp⟩:=Mr w t;have pO:=mI (p:=p) (q:=tM t) (l:=cs) (m:=s.aa) (by omega) fun k h1 h2=>hp _ _ (hc.each.get k h1 h2)
   have hP:df s a=(!mr s t && bO s.Heap.Live t):=by unfold df;rw [decide_eq_true ⟨h0,h1⟩,ht,aeY]
   refine Wz ?_;refine SW.alloc rfl fun b6 w2 bt UE aq => ?_
   have Vl:=hw.up UE
   (obtain ⟨hw,au⟩:=cX bt hw au);skip;refine Wb (i:=0) aq fun w3 bP hg => ?_
   have hG:=aq.gr hg;have hw:=hw.own Vl hg;(have au:=au.aN hG rfl);have aq:aS w3 b6 3 [.int .i64 t]:=by rw [<- ht];exact bP
   have JZ:=aq.cell (i:=0) (v := .int .i64 t) rfl;rw [add_zero] at JZ;clear bP hg hG;repeat' (first|refine Wz ?_|(refine SW.st (jg (vs:=[.pointer (some ⟨b6,0,none⟩)]) rfl) rfl ?_))
   refine Wk (mF _ _ _ cs _ (hc.row.ext hw) _ [.pointer (some ⟨b6,0,none⟩)] p (fun x => .agg (fK x).toArray) (fun x=>rfl) (fun x hx w1 lf=>by
    obtain ⟨k,hk,rfl⟩:=ac1 hx;have bW:k<s.aa.length:=by omega
    have jU:=hc.each.get k hk bW;have q1:=(hs.each _ (ac0 bW)).aD;have q2:=jU.aD.len;rw [hp _ _ jU];exact OM t b6 _ _ w1 (aq.ext lf) (jU.ext (hw.trans lf)) (by omega)) (by omega)) fun v w4 ko hv => ?_
   subst hv;rw [pO.2,show s.aa.any (tM t)=mr s t from rfl];(obtain ⟨hw,au,aq⟩:=cj ko hw au aq);have JZ:=aq.cell (i:=0) (v := .int .i64 t) rfl;rw [add_zero] at JZ;cases hi:mr s t
   ·rw [hi] at hP;simp only [Bool.not_false,Bool.true_and] at hP;repeat' (first|refine Wz ?_|refine Wl JZ ?_)
    refine Wk (jv _ _ _ s.Heap.Live t _ (hr.heap.live.ext hw) 118 (fun x hx w1 lf=>by
     obtain ⟨k,hk,rfl⟩:=ac1 hx;obtain ⟨l1,l2,l3,l4⟩:=hM.heap.live.each k hk;exact Ms _ t w1 (by omega) (by omega)) (kE hM.heap.live) (by omega)) fun v w5 ox hv => ?_
    subst hv;(obtain ⟨hw,au,aq⟩:=cj ox hw au aq);refine Wz ?_;exact ae.dj rfl rfl rfl ⟨_,rfl,hw,(bE s.Heap.Live t:Int),by rw [hP];rfl,fun _=>by rw [ht]⟩
   ·rw [hi] at hP;simp only [Bool.not_true,Bool.false_and] at hP;refine Wz ?_;exact ae.dj rfl rfl rfl ⟨_,rfl,hw,0,by rw [hP],fun h=>by rw [hP] at h;cases h⟩
  ·have hP:df s a=false:=by unfold df;rw [decide_eq_false (by omega)];rfl
   refine Wz ?_;exact ae.dj rfl rfl rfl ⟨_,rfl,hw,0,by rw [hP],fun h=>by rw [hP] at h;cases h⟩
 ·have hP:df s a=false:=by unfold df;rw [decide_eq_false (by omega)];rfl
  refine Wz ?_;exact ae.dj rfl rfl rfl ⟨_,rfl,hw,0,by rw [hP],fun h=>by rw [hP] at h;cases h⟩
def pn (s:ah) (a:Int) : Int:=if df s a=true then oA s.Heap.Live (a / 16) else -1
end Go.Proofs.YtohigmjjbgpfmaaGreatDoor
