/- Part 10 of what topWords_holds leans on. -/
import Derived.Test.YtohigmjjbgpfmaaGreatDoorPackTopWords9
set_option linter.unusedVariables false
set_option linter.unusedSimpArgs false
set_option linter.defProp false
namespace Go.Proofs.YtohigmjjbgpfmaaGreatDoor
open Go.RowKit
variable {a cpu fl o:Int} {c:aQ} {s:ah} {l:List Block}
theorem ij (h:fP l) {b:Block} (hb:b∈l) : oA l b.At=b.Order:=by
 obtain ⟨k,hk,rfl⟩:=ac1 hb;obtain ⟨e1,e2⟩:=qG (kE h) hk (rfl:l[k].At=l[k].At);rw [zp e2 (by rw [e1];exact hk)];simp only [e1]
theorem Dv {x:Int} (h:∀ b∈l,b.At≠x) : oA l x = -1:=Dd (GD fun k hk=>h _ (ac0 hk))
theorem uf {m:List Block} (hl:fP l) (hm:fP m) {x:Int} (h:∀ b:Block,b.At=x->(b∈l↔b∈m)) : oA m x=oA l x:=by
 by_cases e:∃ b∈l,b.At=x
 ·obtain ⟨b,hb,rfl⟩:=e;rw [ij hl hb,ij hm ((h b rfl).1 hb)]
 ·have e1:∀ b∈l,b.At≠x:=fun b hb he=>e ⟨b,hb,he⟩
  rw [Dv e1,Dv fun b hb he=>e1 b ((h b he).2 hb) he]
theorem ID {h:Heap} (hm:bJ h) : ∀ z∈h.bp,fF z:=by
 obtain ⟨z0,z1,h1,h2,h3,h4,h5,h6,_⟩:=hm.cr;obtain ⟨a1,a2,a3,_⟩:=h2.ok;obtain ⟨b1,b2,b3,_⟩:=h3.ok;rw [h1];intro z hz;simp only [List.mem_cons,List.not_mem_nil,or_false] at hz;unfold fF;rcases hz with rfl|rfl<;>omega
theorem He (hI:dI s) {h:Heap} (hm:bJ h) (hs:h.small) (hc:h.bG=s.Heap.bG) (hl:∀ c∈s.aa,∀ x∈c.ab,oA h.Live x.At=oA s.Heap.Live x.At) : dI (qT s h):=by
 have hf:=hI.cV;have hM:=hI.may;refine ⟨⟨⟨hf.small.words,hs,hf.small.br,hf.small.each⟩,ID hm,hf.aD,hf.names⟩,hM.words,hm,hM.most,fun i hi => ?_⟩;have hC:=hM.each i hi;refine ⟨⟨hC.may.lay,hC.may.names,hC.may.aZ.trans hc.symm,fun k hk => ?_,hC.may.dq⟩,hC.size,hC.names,hC.aD⟩;have hS:=hC.may.aD k hk;exact ⟨(hl _ (ac0 hi) _ (ac0 hk)).trans hS.live,hS.next,hS.chain⟩
theorem nH (hM:aB s) (hc:c∈s.aa) {x:Slab} (hx:x∈c.ab) : ∃ b∈s.Heap.Live,b.At=x.At:=by
 obtain ⟨i,hi,rfl⟩:=ac1 hc;obtain ⟨k,hk,rfl⟩:=ac1 hx;have hC:=(hM.each i hi).may;have h1:=(hC.aD k hk).live;have h2:=cd hC.lay;rcases Classical.em (∃ b∈s.Heap.Live,b.At=s.aa[i].ab[k].At) with h|h
 ·exact h
 ·rw [Dv fun b hb e=>h ⟨b,hb,e⟩] at h1;omega
theorem cM.from_ {h:Heap} {u:Heap×Int×Int} (a:cM h cpu o fl u) (h0:u.2.2=0) : bJ h∧u.1.bG=h.bG∧(∃ t,kH t∧u.1.Live=dQ h u.2.1 o t) ∧ ∀ b∈h.Live,b.At≠u.2.1:=by
 obtain ⟨y0,y1,s,c1,c2,c3,c4,c5,c7,c8,c9,Yd⟩:=a.j4 h0
 have hm:bJ h:=by
  cases a with
  | bad|range|form|room=>simp at h0
  | once hb|gw hb=>exact cn.1 hb
 refine ⟨hm,c8,c5,?_⟩;cases a with
 | bad|range|form|room=>simp at h0
 | @once z0 z1 r hb hr ht hz ha =>
   rw [c1] at hz;simp only [List.cons.injEq,and_true] at hz;obtain ⟨rfl,rfl⟩:=hz;obtain ⟨i,e,h1,h2⟩:=pU c2 (ha.found c2.d.start.vs).2;exact c2.sW e h2
 | @gw z0 z1 r hb hr ht hz ha h2 =>
   rw [c1] at hz;simp only [List.cons.injEq,and_true] at hz;obtain ⟨rfl,rfl⟩:=hz;obtain ⟨i,e,h1,h3⟩:=n9 c2 (h2.found (fH c2.d).vs).2;exact c2.sW e h3
theorem ny {h:Heap} (hm:bJ h) (hf:bO h.Live a=true) : (iL h cpu a).bG=h.bG∧(iL h cpu a).Live=h.Live.eraseIdx (bE h.Live a)∧(iL h cpu a).dK=h.dK:=by
 obtain ⟨z0,z1,f⟩:=gq hm;obtain ⟨hk,_⟩:=jx hf;by_cases ho : 0<h.Live[bE h.Live a].Order
 ·rw [qH f.d.cr hk rfl ho];exact ⟨rfl,rfl,rfl⟩
 ·rw [qI f.d.cr hk rfl ho];unfold kw;split<;>exact ⟨rfl,rfl,rfl⟩
theorem j5 (h:fP l) (hf:bO l a=true) {b:Block}:b∈l.eraseIdx (bE l a)↔b∈l∧b.At≠a:=by
 obtain ⟨hk,PL⟩:=jx hf;have hu:=kE h;rw [LJ hu hk PL rfl];unfold mn;simp only [List.mem_filter,Bool.not_eq_true',<- Bool.not_eq_true,jX];constructor
 ·rintro ⟨h1,h2⟩
  refine ⟨h1,fun e=>h2 ⟨e,?_⟩⟩;have e1:=ij h h1;have e2:=ij h (ac0 hk);rw [PL] at e2;rw [e,e2] at e1;exact e1.symm
 ·rintro ⟨h1,h2⟩
  exact ⟨h1,fun e=>h2 e.1⟩
theorem Dw {a:cJ} (hk:a.Kind=1) : wC dI a:=fun s u hI h=>by
 cases h with
 | @bC u hk h =>
   by_cases he:u.2.2=0
   ·simp only [mW,if_pos he];obtain ⟨hm,e2,⟨t,_,e3⟩,e4⟩:=h.from_ he;have mP:=h.may he;refine He hI mP (h.small hI.cV.small.heap) e2 fun c hc x hx => ?_
    obtain ⟨b,hb,UY⟩:=nH hI.may hc hx;refine uf hm.live mP.live fun y hy => ?_
    rw [e3];constructor
    ·exact fun h=>by unfold dQ aM;rw [ac6,ac9];rw [<- ac4 (bE s.Heap.Live u.2.1) s.Heap.Live,ac9] at h;rcases h with h|h;exact .inl h;exact .inr (aev _ h)
    ·intro h;rcases vT h with rfl|h
     ·exact absurd (UY.trans hy.symm) (e4 b hb)
     ·exact h
   ·simp only [mW,if_neg he];exact hI
 | nw bW|drain bW|fp bW|kA bW|oh bW|br bW|dX bW|word bW|Hd bW=>omega
theorem MO (hI:dI s) (hc : 0<=cpu∧cpu<s.Heap.bG) (hw:df s (a*16)=true) : dI (qT s (iL s.Heap cpu a)):=by
 have hm:=hI.may.heap;have YA:a*16 / 16=a:=by omega
 obtain ⟨hf,h0,_⟩:=eW hw;rw [YA] at hf;have mP:=s5 hm hc hf;obtain ⟨p1,p2,p3⟩:=ny (cpu:=cpu) hm hf;have rH:=xc s.Heap cpu a hI.cV.small.heap;rw [nk (cn.2 hm) hc hf] at rH;refine He hI mP rH p1 fun c gQ x hx => ?_
 have bL:x.At≠a:=fun e=>by
  unfold df at hw;rw [YA] at hw;simp only [Bool.and_eq_true,Bool.not_eq_true',<- Bool.not_eq_true] at hw;refine hw.2.1 ?_;unfold mr;rw [ade];refine ⟨c,gQ,?_⟩;unfold tM;rw [ade];exact ⟨x,hx,decide_eq_true e⟩
 refine uf hm.live mP.live fun y hy => ?_
 rw [p2,j5 hm.live hf];exact ⟨fun h=>⟨h,by rw [hy];exact bL⟩,fun h=>h.1⟩
theorem xk {a:cJ} (hk:a.Kind=2) : wC dI a:=fun s u hI h=>by
 cases h with
 | @nw u hk h =>
   cases h with
   | range|no|fault=>simp [mW];exact hI
   | ok h hw he =>
     simp only [mW,if_true];have hm:=hI.may.heap;obtain ⟨hf,_,_⟩:=eW hw;rw [show a.At*16 / 16=a.At by omega] at hf;by_cases hc : 0<=a.fV∧a.fV<s.Heap.bG
     ·rw [nk (cn.2 hm) hc hf];exact MO hI hc hw
     ·rw [ye (cn.2 hm) hc] at he;exact absurd he (by simp)
 | bC bW|drain bW|fp bW|kA bW|oh bW|br bW|dX bW|word bW|Hd bW=>omega
theorem qX {a:cJ} (hk:a.Kind=12) : wC dI a:=fun s u hI h=>by
 cases h with
 | drain hk =>
   have hm:=hI.may.heap;obtain ⟨z0,z1,h1,_⟩:=hm.cr;have rH:=Dr s.Heap hI.cV.small.heap;rw [vm (cn.2 hm) h1] at rH ⊢;simp only [mW,if_true];exact He hI (JX hm h1) rH rfl fun c hc x hx=>rfl
 | bC bW|nw bW|fp bW|kA bW|oh bW|br bW|dX bW|word bW|Hd bW=>omega
variable {per size:Int} {c':aQ} {acc:List Int} {i:Nat}
theorem gB {h:Heap} (hm:bJ h) {a b:Block} (ha:a∈h.Live) (hb:b∈h.Live) (bL:a.At≠b.At) : a.At+pw a.Order<=b.At∨b.At+pw b.Order<=a.At:=by
 obtain ⟨z0,z1,f⟩:=gq hm;rcases ae7 a.At (b.At+pw b.Order) with h1|h1
 ·rcases ae7 b.At (a.At+pw a.Order) with h2|h2
  ·exfalso;obtain ⟨k,hk,rfl⟩:=ac1 ha;have la:=(f.live.each k hk);have lb:=f.live.all b hb;have pa:=cy la.1.1 la.1.2;have pb:=cy lb.1.1 lb.1.2
   have WX:b∈h.Live.eraseIdx k:=by
    obtain ⟨j,hj,rfl⟩:=ac1 hb;have mO:j≠k:=fun e=>by subst e;exact bL rfl
    rw [ad9];exact ⟨j,hj,mO,rfl⟩
   have h3:=f.Ra (max h.Live[k].At b.At).toNat;have h4:=sY hk (max h.Live[k].At b.At).toNat;have h5:=OH WX (i:=(max h.Live[k].At b.At).toNat) (by have:=la.2.1;have:=lb.2.1;omega);have h6:=(qR (a:=h.Live[k].At) (o:=h.Live[k].Order) (i:=(max h.Live[k].At b.At).toNat)).2 (by have:=la.2.1;have:=lb.2.1;omega);unfold ud at h3;omega
  ·exact .inl h2
 ·exact .inr h1
theorem gC (hM:aB s) (hc:c∈s.aa) {x:Slab} (hx:x∈c.ab) : ∃ b∈s.Heap.Live,b.At=x.At∧b.Order=c.Order:=by
 obtain ⟨b,hb,e⟩:=nH hM hc hx;refine ⟨b,hb,e,?_⟩;obtain ⟨i,hi,rfl⟩:=ac1 hc;obtain ⟨k,hk,rfl⟩:=ac1 hx;have h1:=((hM.each i hi).may.aD k hk).live;rw [<- e,ij hM.heap.live hb] at h1;exact h1
theorem mj {t:Int} (hl:dl size=(o,per,0)) (h:ic size per t a=true) : 16*t<=a∧a<16*(t+pw o):=by
 have hp:=j3 hl;unfold ic at h;simp only [Bool.and_eq_true,decide_eq_true_eq] at h;obtain ⟨p,ep⟩ : ∃ p,per*size=p:=⟨_,rfl⟩;rw [ep] at hp h;rcases hp with ⟨rfl,h2⟩|⟨rfl,h2⟩|⟨rfl,h2⟩
 ·have:pw 0=1:=by decide
  omega
 ·have:pw 1=2:=by decide
  omega
 ·have:pw 2=4:=by decide
  omega
def oP (c:aQ) : List Int:=c.ab.map fun x=>x.At
theorem cT (cs:List aQ) : aK cs=(cs.map oP).flatten:=by unfold aK;rw [aeo];rfl
theorem xl {l:List Slab} (ha:acc.Nodup) : De acc l↔(acc++l.map fun x=>x.At).Nodup:=by
 constructor
 ·intro h
  have key:∀ k,k<=l.length->(acc++(l.take k).map fun x=>x.At).Nodup:=by
   intro k;induction k with
   | zero=>intro _;simpa using ha
   | succ k ih =>
     intro hk;rw [ac5 (by omega),adr,<- ac6,adN];refine ⟨ih (by omega),by simp,fun a ha b hb => ?_⟩;simp only [List.map_cons,List.map_nil,List.mem_singleton] at hb;subst hb;exact fun e=>h k (by omega) (e ▸ ha)
  have:=key _ (ac3 _)
  rwa [adS] at this
 ·intro h k hk hm;have e:l=l.take k++l[k]::l.drop (k+1):=by simp
  rw [e,adr,<- ac6,adN] at h;exact h.2.2 _ hm _ (by rw [aei];exact List.mem_cons_self) rfl
theorem jc:(∀ (i:Nat) (h:i<s.aa.length),De (aK (s.aa.take i)) s.aa[i].ab)↔(aK s.aa).Nodup:=by
 have step:∀ i (h:i<s.aa.length),aK (s.aa.take (i+1))=aK (s.aa.take i)++s.aa[i].ab.map fun x=>x.At:=fun i h=>by
  unfold aK;rw [ac5 h,adi];simp
 constructor
 ·intro h
  have key:∀ k,k<=s.aa.length->(aK (s.aa.take k)).Nodup:=by
   intro k;induction k with
   | zero=>intro _;simp [aK]
   | succ k ih =>
     intro hk;rw [step k (by omega)];exact (xl (ih (by omega))).1 (h k (by omega))
  have:=key _ (ac3 _)
  rwa [adS] at this
 ·intro h i hi
  have jw:∀ k,(aK (s.aa.take k)).Nodup:=fun k=>by
   have e:aK s.aa=aK (s.aa.take k)++aK (s.aa.drop k):=by
    unfold aK;rw [<- adi,ac4]
   rw [e,adN] at h;exact h.1
  refine (xl (jw i)).2 ?_;rw [<- step i hi];exact jw (i+1)
theorem sy {t:ah} (hM:aB s) (hi:i<s.aa.length) (hw:t.Words.length=4096) (hh:bJ t.Heap) (hc:t.aa=s.aa.set i c') (h1:c'.Names=s.aa[i].Names) (h2:c'.aA=s.aa[i].aA)
 (hm:eV t c') (ho:∀ c∈s.aa,(∃ j,∃ hj:j<s.aa.length,j≠i∧c=s.aa[j])->eV t c) (hn:(aK t.aa).Nodup) : aB t:=by
 have hlen:t.aa.length=s.aa.length:=by rw [hc,adz]
 have iu:∀ (j:Nat) (hj:j<t.aa.length),t.aa[j]=if i=j then c' else s.aa[j]'(by omega):=fun j hj=>by
  have:t.aa[j]=(s.aa.set i c')[j]'(by rw [adz];omega):=by congr 1
  rw [this,adq]
 have Rw:∀ j,bl (t.aa.take j)=bl (s.aa.take j):=fun j=>by
  have e:t.aa.map (fun c=>c.Names)=s.aa.map fun c=>c.Names:=by
   rw [hc,aem];refine adR (by simp) fun k g1 g2 => ?_
   rw [adq];split
   ·rename_i e;subst e;rw [h1];simp
   ·rfl
  unfold bl;rw [aeo,aeo,List.map_take,List.map_take,e]
 refine ⟨hw,hh,by rw [hlen];exact hM.most,fun j hj => ?_⟩;have UZ:j<s.aa.length:=by omega
 have hC:=hM.each j UZ
 have YB:∀ (k:Nat) (hk:k<t.aa.length),t.aa[k].aA=(s.aa[k]'(by omega)).aA:=fun k hk=>by
  rw [iu k hk];split
  ·rename_i e;subst e;exact h2
  ·rfl
 refine ⟨?_,fun k hk => ?_,?_,jc.2 hn j hj⟩
 ·rw [iu j hj];split
  ·exact hm
  ·rename_i e;exact ho _ (ac0 UZ) ⟨j,UZ,fun h=>e h.symm,rfl⟩
 ·rw [YB j hj,YB k (by omega)];exact hC.size k hk
 ·rw [Rw,iu j hj];split
  ·rename_i e;subst e;rw [h1];exact hC.names
  ·exact hC.names
variable {k:Nat}
theorem jd {t:ah} (hM:aB t) (hs:t.small) : t.cV:=by
 refine ⟨hs,ID hM.heap,fun c hc x hx => ?_,fun c hc n hn => ?_⟩
 ·obtain ⟨b,hb,e⟩:=nH hM hc hx;have:=(hM.heap.live.all b hb).2.1
  omega
 ·obtain ⟨i,hi,rfl⟩:=ac1 hc;obtain ⟨k,hk,rfl⟩:=ac1 hn;have:=((hM.each i hi).names.each k hk).1
  unfold gn at this;simp only [Bool.and_eq_true,decide_eq_true_eq] at this;omega
theorem yu (hk:k<c.ab.length) {y:Slab} (h:y.At=c.ab[k].At) : (c.ab.set k y).map (fun x=>x.At)=c.ab.map fun x=>x.At:=by
 rw [aem];refine adR (by simp) fun j g1 g2 => ?_
 rw [adq];split
 ·rename_i e;subst e;simp [h]
 ·rfl
theorem gD {cs:List aQ} (hi:i<cs.length) (h:oP c'=oP cs[i]) : aK (cs.set i c')=aK cs:=by
 rw [cT,cT,aem];congr 1
 refine adR (by simp) fun j g1 g2 => ?_
 rw [adq];split
 ·rename_i e;subst e;simp [h]
 ·rfl
theorem eV.same {t:ah} (h:eV s c) (hw:t.Words=s.Words) (hh:t.Heap=s.Heap) : eV t c :=
 ⟨h.lay,h.names,by rw [hh];exact h.aZ,fun k hk=>⟨by rw [hh];exact (h.aD k hk).live,(h.aD k hk).next,by rw [hw];exact (h.aD k hk).chain⟩,h.dq⟩
theorem Fe (hM:aB s) {cpu:Nat} (hi:i<s.aa.length) (pW:cpu<s.aa[i].ao.length) (hk:k<s.aa[i].ab.length) (hf : 0<s.aa[i].ab[k].aj)
 (hA:s.aa[i].ab[k].At=s.aa[i].ao[cpu]∨s.aa[i].ab[k].At∉s.aa[i].ao) :
 aB ⟨s.Words,s.Heap,s.aa.set i (dH s.aa[i] cpu k (s.Words.getD s.aa[i].ab[k].cf.toNat 0))⟩:=by
 have hC:=(hM.each i hi).may;have eD:ig s.aa[i] k=s.aa[i].ab[k]:=ff hk
 have hl:=cd hC.lay
 have z9:oP (dH s.aa[i] cpu k (s.Words.getD s.aa[i].ab[k].cf.toNat 0))=oP s.aa[i]:=by
  unfold oP dH;simp only [eD];exact yu hk rfl
 refine sy hM hi hM.words hM.heap rfl rfl rfl ?_ (fun c hc _ => ?_) ?_
 ·refine ⟨hC.lay,hC.names,by simp only [dH,List.length_set];exact hC.aZ,fun j hj => ?_,fun j hj => ?_⟩
  ·simp only [dH,List.length_set] at hj;have hS:=hC.aD j hj
   have Rx:∀ (q:Nat) (hq:q<s.aa[i].ab.length),((dH s.aa[i] cpu k (s.Words.getD s.aa[i].ab[k].cf.toNat 0)).ab[q]'(by simp only [dH,List.length_set];exact hq)).At=s.aa[i].ab[q].At:=fun q hq=>by
    simp only [dH,List.getElem_set,eD];split
    ·rename_i e;subst e;rfl
    ·rfl
   refine ⟨by rw [Rx j hj];exact hS.live,fun h0=>by rw [Rx j hj,Rx (j-1) (by omega)];exact hS.next h0,?_⟩;obtain ⟨out,ho⟩:=hS.chain;by_cases e:k=j
   ·subst e;have Bf : 0<=s.aa[i].bK:=by omega
    obtain ⟨k1,k2,k3,k4,k5⟩:=(g9 Bf).1 ho;obtain ⟨q,rest,e1,e2,hq,e3⟩:=k1.head (fun e=>by rw [e] at k4;simp at k4;omega);refine ⟨rest,?_⟩
    have ev:s.Words.getD s.aa[i].ab[k].cf.toNat 0=s.Words[q]:=by
     rw [e1];simp [List.getD,List.getElem?_eq_getElem hq]
    have es:(dH s.aa[i] cpu k (s.Words.getD s.aa[i].ab[k].cf.toNat 0)).ab[k]'(by simp only [dH,List.length_set];exact hk)=⟨s.aa[i].ab[k].At,s.aa[i].ab[k].aj-1,s.Words[q]⟩:=by
     simp only [dH,List.getElem_set,if_true,eD,ev]
    rw [es];rw [e2] at k2 k3 k4 k5;simp only [List.length_cons] at k3 k4;exact (g9 (x:=⟨s.aa[i].ab[k].At,s.aa[i].ab[k].aj-1,s.Words[q]⟩) Bf).2 ⟨e3,(ad1.1 k2).2,by omega,by simp only;omega,fun a ha=>k5 a (by simp [ha])⟩
   ·refine ⟨out,?_⟩
    have es:(dH s.aa[i] cpu k (s.Words.getD s.aa[i].ab[k].cf.toNat 0)).ab[j]'(by simp only [dH,List.length_set];exact hj)=s.aa[i].ab[j]:=by
     simp only [dH,List.getElem_set,if_neg e]
    rw [es];exact ho
  ·simp only [dH,List.length_set] at hj
   have iC:∀ a,(dH s.aa[i] cpu k (s.Words.getD s.aa[i].ab[k].cf.toNat 0)).ab.any (xD a)=s.aa[i].ab.any (xD a):=fun a=>by
    have e1:∀ l:List Slab,l.any (xD a)=(l.map fun x=>x.At).any fun y=>decide (y=a):=fun l=>by rw [ae5];rfl
    rw [e1,e1];have:=z9
    unfold oP at this;rw [this]
   have Bg:s.aa[i].ab.any (xD s.aa[i].ab[k].At)=true:=ade.2 ⟨_,ac0 hk,by simp [xD]⟩
   have hJ:=hC.dq j hj;unfold tZ at hJ ⊢;have T2:(dH s.aa[i] cpu k (s.Words.getD s.aa[i].ab[k].cf.toNat 0)).ao=s.aa[i].ao.set cpu s.aa[i].ab[k].At:=by simp only [dH,eD]
   rcases hA with hA|hA
   ·have T3:s.aa[i].ao.set cpu s.aa[i].ab[k].At=s.aa[i].ao:=by rw [hA,adK]
    have key:∀ (L:List Int) (eL:L=s.aa[i].ao) (hq:j<L.length),L[j] = -1∨(L[j]∉L.take j∧(dH s.aa[i] cpu k (s.Words.getD s.aa[i].ab[k].cf.toNat 0)).ab.any (xD L[j])=true):=fun L eL hq=>by
     subst eL;rw [iC];exact hJ
    exact key _ (T2.trans T3) _
   ·have key:∀ (L:List Int) (eL:L=s.aa[i].ao.set cpu s.aa[i].ab[k].At) (hq:j<L.length),L[j] = -1∨(L[j]∉L.take j∧(dH s.aa[i] cpu k (s.Words.getD s.aa[i].ab[k].cf.toNat 0)).ab.any (xD L[j])=true):=fun L eL hq=>by
     subst eL;rw [iC,adq];by_cases e:cpu=j
     ·subst e;right;rw [if_pos rfl,List.take_set_of_le (ac3 _)];exact ⟨fun h=>hA (adu h),Bg⟩
     ·rw [if_neg e];rcases hJ with h|⟨h1,h2⟩
      ·exact .inl h
      ·refine .inr ⟨fun hm => ?_,h2⟩;obtain ⟨q,LH,uu⟩:=ac1 hm;simp only [List.length_take,List.length_set] at LH;rw [adH,adq] at uu;split at uu
       ·exact hA (uu ▸ ac0 hj)
       ·refine h1 ?_;rw [<- uu];exact ad0.2 ⟨q,by omega,rfl⟩
    exact key _ T2 _
 ·obtain ⟨j,hj,rfl⟩:=ac1 hc;exact (hM.each j hj).may.same rfl rfl
 ·simp only;rw [gD hi z9];exact jc.1 fun j hj=>(hM.each j hj).aD
variable {α:Type} {j:Nat}
theorem MP {cs:List aQ} (hi:i<cs.length) {p:Nat} (h:oP c'=(oP cs[i]).take p++a::(oP cs[i]).drop p) (hn:(aK cs).Nodup) (ha:a∉aK cs) : (aK (cs.set i c')).Nodup:=by
 have e1:cs=cs.take i++cs[i]::cs.drop (i+1):=by simp
 have e2:cs.set i c'=cs.take i++c'::cs.drop (i+1):=by rw [adW,if_pos hi]
 have f1:aK cs=(aK (cs.take i)++(oP cs[i]).take p)++((oP cs[i]).drop p++aK (cs.drop (i+1))):=by
  conv=>lhs;rw [e1]
  rw [cT,cT,cT,adr,aei,aeb,aej];simp only [List.append_assoc];rw [<- ac6 (List.take p _),ac4]
 have f2:aK (cs.set i c')=(aK (cs.take i)++(oP cs[i]).take p)++a::((oP cs[i]).drop p++aK (cs.drop (i+1))):=by
  rw [e2,cT,cT,cT,adr,aei,aeb,aej,h];simp only [List.append_assoc,List.cons_append]
 rw [f2,List.perm_middle.nodup_iff,<- f1,ad1];exact ⟨ha,hn⟩
theorem Ce {t:ah} {x:Slab} {out:List Int} (hM:aB s) (hc:c∈s.aa) (hx:x∈c.ab) (LM:dl c.aA=(c.Order,c.bK,0)) (JC:bM s.Words c.aA c.bK x out)
 (Ry:∀ a:Int,16*x.At<=a->a<16*(x.At+pw c.Order)->0<=a->t.Words[a.toNat]?=s.Words[a.toNat]?) : bM t.Words c.aA c.bK x out:=by
 have Bf : 0<=c.bK:=by have:=cd LM;omega
 obtain ⟨k1,k2,k3,k4,k5⟩:=(g9 Bf).1 JC;exact (g9 Bf).2 ⟨k1.congr fun a ha h0=>by obtain ⟨r1,r2⟩:=mj LM (k5 a ha);exact Ry a r1 r2 h0,k2,k3,k4,k5⟩
theorem vt {l:List α} {p:Nat} (hp:p<=l.length) {x : α} (hj:j<(aM l p x).length) : (∃ h:j<l.length,j<p∧(aM l p x)[j]=l[j])∨(j=p∧(aM l p x)[j]=x)∨(∃ h:j-1<l.length,p<j∧(aM l p x)[j]=l[j-1]):=by
 have hl:=de l hp x;rcases adD j p with h|h|h
 ·left;have:=uX hp (x:=x) h
  rw [ac7 hj,ac7 (by omega)] at this;injection this with this
  exact ⟨by omega,h,this⟩
 ·right;left;subst h;have:=lu hp (x:=x)
  rw [ac7 hj] at this;injection this with this
  exact ⟨rfl,this⟩
 ·right;right;obtain ⟨q,rfl⟩ : ∃ q,j=q+1:=⟨j-1,by omega⟩;have:=zf hp (x:=x) (k:=q) (by omega)
  rw [ac7 hj,ac7 (by omega)] at this;injection this with this
  exact ⟨by simp only [Nat.add_sub_cancel];omega,h,by simpa using this⟩
theorem Ff (h:eM c a<c.ab.length) : ¬ c.ab[eM c a].At<a:=by
 have:=Is (p:=fun x:Slab=>decide (x.At<a)) c.ab c.ab[eM c a] (ac7 h)
 exact of_decide_eq_false this
theorem mL (h:eV s c) : c.ab.Pairwise fun x y=>x.At<y.At:=by
 have key:∀ (d i:Nat) (hj:i+d+1<c.ab.length),(c.ab[i]'(by omega)).At<c.ab[i+d+1].At:=by
  intro d;induction d with
  | zero=>intro i hj;have:=(h.aD (i+1) hj).next (by omega);simpa using this
  | succ d ih =>
    intro i hj;have h1:=ih i (by omega);have h2:=(h.aD (i+(d+1)+1) hj).next (by omega);simp only [Nat.add_sub_cancel] at h2;have e:i+d+1=i+(d+1):=by omega
    simp only [e] at h1;omega
 rw [ac8];intro i j hi hj o9;have:=key (j-i-1) i (by omega)
 have e:i+(j-i-1)+1=j:=by omega
 simp only [e] at this;exact this
theorem Fg (hM:aB s) (hi:i<s.aa.length) {u:Heap×Int×Int} (hu:cM s.Heap cpu s.aa[i].Order 0 u) (u0:u.2.2=0) (hc:jl s.Words.length (16*u.2.1) s.aa[i].aA s.aa[i].bK) :
 (∀ b:Int,0<=b->(b<16*u.2.1∨16*(u.2.1+pw s.aa[i].Order)<=b)->(dE s.Words (16*u.2.1) s.aa[i].aA s.aa[i].bK)[b.toNat]?=s.Words[b.toNat]?) ∧
 (∀ c∈s.aa,∀ x∈c.ab,x.At≠u.2.1∧oA u.1.Live x.At=oA s.Heap.Live x.At∧(x.At+pw c.Order<=u.2.1∨u.2.1+pw s.aa[i].Order<=x.At)) ∧
 (∀ c∈s.aa,eV s c -> ∀ x∈c.ab,∀ out,bM s.Words c.aA c.bK x out->bM (dE s.Words (16*u.2.1) s.aa[i].aA s.aa[i].bK) c.aA c.bK x out) ∧
 bM (dE s.Words (16*u.2.1) s.aa[i].aA s.aa[i].bK) s.aa[i].aA s.aa[i].bK ⟨u.2.1,s.aa[i].bK,16*u.2.1⟩ (wo (16*u.2.1).toNat s.aa[i].aA.toNat s.aa[i].bK.toNat 0):=by
 have hC:=(hM.each i hi).may;have hl:=cd hC.lay;have T4:=j3 hC.lay;have kX:=hu.at_ u0;obtain ⟨hm,Be,⟨ty,yY,Cf⟩,IE⟩:=hu.from_ u0;have mP:=hu.may u0;obtain ⟨a,ea⟩ : ∃ a,u.2.1=a:=⟨_,rfl⟩;rw [ea] at hc kX Cf IE ⊢
 have Sp:(⟨a,s.aa[i].Order,ty⟩ : Block)∈u.1.Live:=by
  rw [Cf];simp only [dQ,aM];simp
 have jw:∀ b∈s.Heap.Live,b∈u.1.Live:=fun b hb=>by
  rw [Cf];simp only [dQ,aM];rw [<- ac4 (bE s.Heap.Live a) s.Heap.Live,ac9] at hb;simp only [List.mem_append];rcases hb with hb|hb
  ·exact .inl (.inl hb)
  ·exact .inr hb
 have yd:∀ c∈s.aa,∀ x∈c.ab,x.At≠a∧oA u.1.Live x.At=oA s.Heap.Live x.At∧(x.At+pw c.Order<=a∨a+pw s.aa[i].Order<=x.At):=fun c hc x hx=>by
  obtain ⟨b,hb,e1,e2⟩:=gC hM hc hx;have bL:x.At≠a:=by rw [<- e1];exact IE b hb
  refine ⟨bL,?_,?_⟩
  ·rw [<- e1,ij hm.live hb,ij mP.live (jw b hb)]
  ·have:=gB mP (jw b hb) Sp (by rw [e1];exact bL)
   rw [e1,e2] at this;exact this
 obtain ⟨p,hp⟩ : ∃ p,s.aa[i].bK*s.aa[i].aA=p:=⟨_,rfl⟩;rw [hp] at T4;unfold jl at hc;obtain ⟨By,PR,Yh,hc4,Ox,hc6⟩:=hc
 have hmul:∀ q:Nat,q<s.aa[i].bK.toNat->((q*s.aa[i].aA.toNat:Nat) : Int)+s.aa[i].aA<=p:=fun q hq=>by
  have h1:(q+1)*s.aa[i].aA.toNat<=s.aa[i].bK.toNat*s.aa[i].aA.toNat:=adt _ (by omega)
  have h2:((s.aa[i].bK.toNat*s.aa[i].aA.toNat:Nat) : Int)=p:=by
   rw [aeO,adx (by omega),adx (by omega),hp]
  rw [adQ] at h1;omega
 have hw:∀ b:Int,0<=b->(b<16*a∨16*(a+pw s.aa[i].Order)<=b)->(dE s.Words (16*a) s.aa[i].aA s.aa[i].bK)[b.toNat]?=s.Words[b.toNat]?:=fun b h0 hb=>by
  unfold dE;refine qP _ _ _ _ _ _ fun q hq e => ?_
  have h1:=hmul q hq;have WY:pw 0=1:=by decide
  have WZ:pw 1=2:=by decide
  have W0:pw 2=4:=by decide
  rcases T4 with ⟨eo,h2⟩|⟨eo,h2⟩|⟨eo,h2⟩<;>rw [eo] at hb<;>omega
 have hold:∀ c∈s.aa,eV s c -> ∀ x∈c.ab,∀ out,bM s.Words c.aA c.bK x out->bM (dE s.Words (16*a) s.aa[i].aA s.aa[i].bK) c.aA c.bK x out:=fun c hc Sq x hx out ho =>
  Ce (t:=⟨dE s.Words (16*a) s.aa[i].aA s.aa[i].bK,u.1,[]⟩) hM hc hx Sq.lay ho fun b r1 r2 h0=>hw b h0 (by have:=(yd c hc x hx).2.2;omega)
 have Hf:bM (dE s.Words (16*a) s.aa[i].aA s.aa[i].bK) s.aa[i].aA s.aa[i].bK ⟨a,s.aa[i].bK,16*a⟩ (wo (16*a).toNat s.aa[i].aA.toNat s.aa[i].bK.toNat 0):=by
  have T5 : 0<s.aa[i].aA.toNat:=by omega
  have YC:∀ q,q<s.aa[i].bK.toNat->(16*a).toNat+q*s.aa[i].aA.toNat<s.Words.length:=fun q hq=>by
   have:=hmul q hq
   rw [ad8] at hp;rw [hp] at hc6;omega
  have h1:=BX T5 YC s.aa[i].bK.toNat 0 (by omega) (by omega);rw [Nat.zero_mul,aeM,adx Ox] at h1;refine (g9 (by omega)).2 ⟨h1,zI T5 _ _,by rw [zH];omega,by rw [zH];simp only;omega,fun b hb => ?_⟩;obtain ⟨q,_,hq,rfl⟩:=zG.1 hb;refine Ex (k:=q) By (by omega) ?_;rw [afd,aeO,adx Ox,adx (by omega)]
 exact ⟨hw,yd,hold,Hf⟩
theorem Fh (hM:aB s) (hi:i<s.aa.length) {u:Heap×Int×Int} (hu:cM s.Heap cpu s.aa[i].Order 0 u) (u0:u.2.2=0) (hc:jl s.Words.length (16*u.2.1) s.aa[i].aA s.aa[i].bK) :
 aB ⟨dE s.Words (16*u.2.1) s.aa[i].aA s.aa[i].bK,u.1,s.aa.set i (dV s.aa[i] u.2.1)⟩:=by
 have hC:=(hM.each i hi).may;obtain ⟨hw,yd,hold,Hf⟩:=Fg hM hi hu u0 hc;obtain ⟨hm,Be,⟨ty,yY,Cf⟩,IE⟩:=hu.from_ u0;have mP:=hu.may u0;obtain ⟨a,ea⟩ : ∃ a,u.2.1=a:=⟨_,rfl⟩;rw [ea] at hw yd hold Hf Cf ⊢
 have Sp:(⟨a,s.aa[i].Order,ty⟩ : Block)∈u.1.Live:=by
  rw [Cf];simp only [dQ,aM];simp
 have kg:=oT s.aa[i] a;refine sy hM hi (by simp only [dE,jk];exact hM.words) mP rfl rfl rfl ?_ (fun c hc _ => ?_) ?_
 ·refine ⟨hC.lay,hC.names,by simp only [dV];rw [Be];exact hC.aZ,fun j hj => ?_,fun j hj => ?_⟩
  ·have o6:j<(aM s.aa[i].ab (eM s.aa[i] a) ⟨a,s.aa[i].bK,16*a⟩).length:=hj
   have OZ:s.aa[i]∈s.aa:=ac0 hi
   have P2:∀ x∈s.aa[i].ab.drop (eM s.aa[i] a),a<x.At:=fun x hx=>by
    obtain ⟨q,hq,rfl⟩:=ac1 hx;simp only [List.length_drop] at hq;rw [adZ];have h1:=Ff (c:=s.aa[i]) (a:=a) (by omega);have h2:=(yd _ OZ _ (ac0 (show eM s.aa[i] a+q<s.aa[i].ab.length by omega))).1;rcases adj q with e|e
    ·subst e;simp only [Nat.add_zero] at h2 ⊢;omega
    ·have h3:=mL hC;rw [ac8] at h3;have:=h3 (eM s.aa[i] a) (eM s.aa[i] a+q) (by omega) (by omega) (by omega)
     omega
   have T6:∀ x∈s.aa[i].ab.take (eM s.aa[i] a),x.At<a:=fun x hx=>by
    obtain ⟨q,hq,rfl⟩:=ac1 hx;simp only [List.length_take] at hq;rw [adH];exact Dp (by omega) (by omega)
   have Fi:(aM s.aa[i].ab (eM s.aa[i] a) ⟨a,s.aa[i].bK,16*a⟩).Pairwise fun x y=>x.At<y.At:=by
    unfold aM;rw [ac6,adp];refine ⟨List.Pairwise.sublist (List.take_sublist _ _) (mL hC),?_,fun x hx y hy => ?_⟩
    ·rw [adn,adY];exact ⟨P2,List.Pairwise.sublist (List.drop_sublist _ _) (mL hC)⟩
    ·have h1:=T6 x hx;rcases ac9.1 hy with hy|hy
     ·simp only [List.mem_singleton] at hy;subst hy;exact h1
     ·have:=P2 y hy;omega
   have MQ : 0<j->((aM s.aa[i].ab (eM s.aa[i] a) ⟨a,s.aa[i].bK,16*a⟩)[j-1]'(by omega)).At<((aM s.aa[i].ab (eM s.aa[i] a) ⟨a,s.aa[i].bK,16*a⟩)[j]'o6).At:=fun h0=>by
    rw [ac8] at Fi;exact Fi (j-1) j (by omega) o6 (by omega)
   have key:∀ (y:Slab),((∃ k,∃ hk:k<s.aa[i].ab.length,y=s.aa[i].ab[k])∨y=⟨a,s.aa[i].bK,16*a⟩)->oA u.1.Live y.At=s.aa[i].Order ∧ ∃ out,bM (dE s.Words (16*a) s.aa[i].aA s.aa[i].bK) s.aa[i].aA s.aa[i].bK y out:=fun y hy=>by
    rcases hy with ⟨k,hk,rfl⟩|rfl
    ·have hS:=hC.aD k hk;obtain ⟨out,ho⟩:=hS.chain;exact ⟨((yd _ OZ _ (ac0 hk)).2.1).trans hS.live,out,hold _ OZ hC _ (ac0 hk) out ho⟩
    ·exact ⟨ij mP.live Sp,_,Hf⟩
   have yb:=key ((aM s.aa[i].ab (eM s.aa[i] a) ⟨a,s.aa[i].bK,16*a⟩)[j]'o6) (by
    rcases vt kg o6 with ⟨h,_,e⟩|⟨_,e⟩|⟨h,_,e⟩
    ·exact .inl ⟨j,h,e⟩
    ·exact .inr e
    ·exact .inl ⟨j-1,h,e⟩)
   exact ⟨yb.1,MQ,yb.2⟩
  ·have:=hC.dq j hj
   unfold tZ at this ⊢;rcases this with h|⟨h1,h2⟩
   ·exact .inl h
   ·refine .inr ⟨h1,?_⟩;simp only [dV,aM];rw [ade] at h2 ⊢;obtain ⟨x,hx,NN⟩:=h2;rw [<- ac4 (eM s.aa[i] a) s.aa[i].ab,ac9] at hx;refine ⟨x,?_,NN⟩;simp only [List.mem_append];rcases hx with hx|hx
    ·exact .inl (.inl hx)
    ·exact .inr hx
 ·obtain ⟨j,hj,rfl⟩:=ac1 hc;have hJ:=(hM.each j hj).may;refine ⟨hJ.lay,hJ.names,by simp only;rw [Be];exact hJ.aZ,fun k hk => ?_,hJ.dq⟩;have hS:=hJ.aD k hk;refine ⟨((yd _ hc _ (ac0 hk)).2.1).trans hS.live,hS.next,?_⟩;obtain ⟨out,ho⟩:=hS.chain;exact ⟨out,hold _ hc hJ _ (ac0 hk) out ho⟩
 ·simp only;refine MP hi (p:=eM s.aa[i] a) (a:=a) ?_ (jc.1 fun j hj=>(hM.each j hj).aD) ?_
  ·simp only [oP,dV,aM,List.map_append,List.map_cons,List.map_nil,List.map_take,List.map_drop,List.append_assoc,List.singleton_append]
  ·intro mS;unfold aK at mS;obtain ⟨c,hc,hx⟩:=adm.1 mS;obtain ⟨x,hx,e⟩:=adk.1 hx;exact (yd c hc x hx).1 e
variable {n:ByteArray} {p:α -> Bool}
theorem IF {l:List α} (h:idxOf p l=(k:Int)) : ∃ hk:k<l.length,p l[k]=true:=by
 unfold idxOf at h;split at h
 ·rename_i ha;have h1:l.findIdx p<l.length:=List.findIdx_lt_length_of_exists (by simpa using ha)
  have e:l.findIdx p=k:=by omega
  subst e;exact ⟨h1,List.findIdx_getElem (w:=h1)⟩
 ·omega
theorem IG {cpu:Nat} (pW:cpu<c.ao.length) (h:pV c cpu=(k:Int)) : ∃ hk:k<c.ab.length,0<c.ab[k].aj∧(c.ab[k].At=c.ao[cpu]∨c.ab[k].At∉c.ao):=by
 unfold pV at h;split at h
 ·rename_i ho;rw [h] at ho;have h':=h;unfold Dn at h';obtain ⟨hk,hp⟩:=IF h';have e:ig c (k:Int).toNat=c.ab[k]:=by simp only [Int.toNat_natCast];exact ff hk
  rw [e] at ho;refine ⟨hk,ho.2,.inl ?_⟩;have:=of_decide_eq_true hp
  rw [this];simp [List.getD,List.getElem?_eq_getElem pW]
 ·obtain ⟨hk,hp⟩:=IF h;unfold BW at hp;simp only [Bool.and_eq_true,decide_eq_true_eq,Bool.not_eq_true',decide_eq_false_iff_not] at hp;exact ⟨hk,hp.1,.inr hp.2⟩
theorem wD {x:Int} (o1 : 0<=o) (o2:o<=4) (x1 : 0<=x) (x2:x<256) (h3:x % pw o=0) : x+pw o<=256:=by
 rcases fB o1 o2 with ⟨e1,e2⟩|⟨e1,e2⟩|⟨e1,e2⟩|⟨e1,e2⟩|⟨e1,e2⟩<;>rw [e2] at h3 ⊢<;>omega
theorem Hg (hM:aB s) (hi:i<s.aa.length) {u:Heap×Int×Int} (hu:cM s.Heap cpu s.aa[i].Order 0 u) (u0:u.2.2=0) : jl s.Words.length (16*u.2.1) s.aa[i].aA s.aa[i].bK:=by
 have hC:=(hM.each i hi).may;have hl:=cd hC.lay;have T4:=j3 hC.lay;have kX:=hu.at_ u0;obtain ⟨hm,Be,⟨ty,yY,Cf⟩,IE⟩:=hu.from_ u0;have mP:=hu.may u0
 have Sp:(⟨u.2.1,s.aa[i].Order,ty⟩ : Block)∈u.1.Live:=by
  rw [Cf];simp only [dQ,aM];simp
 obtain ⟨l1,l2,l3,_⟩:=mP.live.all _ Sp;have hr:=wD l1.1 l1.2 l2.1 (show u.2.1<256 by omega) l3;have hw:=hM.words;have WY:pw 0=1:=by decide
 have WZ:pw 1=2:=by decide
 have W0:pw 2=4:=by decide
 obtain ⟨p,hp⟩ : ∃ p,s.aa[i].bK*s.aa[i].aA=p:=⟨_,rfl⟩;unfold jl;rw [ad8 s.aa[i].aA,hp];rw [hp] at T4;rw [hw];simp only at hr;rcases T4 with ⟨e,h⟩|⟨e,h⟩|⟨e,h⟩<;>rw [e] at hr<;>omega
theorem Hh {h:Heap} {u:Heap×Int×Int} (hm:bJ h) (hc : 0<=cpu∧cpu<h.bG) (ho : 0<=o∧o<=4) (a:cM h cpu o 0 u) : u.2.2=0∨u.2.2=6:=by
 cases a with
 | bad hb=>rw [cn.2 hm] at hb;cases hb
 | range _ hr=>exact absurd ⟨hc,ho⟩ hr
 | form _ _ ht=>exact absurd ht (by decide)
 | once=>exact .inl rfl
 | gw=>exact .inl rfl
 | room=>exact .inr rfl
theorem pj.jS {u:ah×Int×Int} (hI:dI s) (h:pj s n cpu u) (ha:iO s n cpu=0) : (u.2.2=0∧dI u.1)∨u.2.2=6:=by
 have hM:=hI.may;have rH:=h.small hI.cV;obtain ⟨_,_,qj⟩:=mo ha;cases h with
 | ask h=>exact absurd ha h
 | @DS i m _ e hi hm =>
   have hC:=(hM.each i hi).may;have hl:=cd hC.lay;have pW:cpu.toNat<s.aa[i].ao.length:=by have:=hC.aZ;omega
   cases hm with
   | @uw k hp =>
     left;obtain ⟨hk,hf,hA⟩:=IG pW hp;have:=Fe hM hi pW hk hf hA
     refine ⟨rfl,?_⟩
     have e:(lR s i cpu.toNat (some ⟨s.Words,s.Heap,s.aa[i],k⟩,0)).1=⟨s.Words,s.Heap,s.aa.set i (dH s.aa[i] cpu.toNat k (s.Words.getD s.aa[i].ab[k].cf.toNat 0))⟩:=by
      simp only [lR,bH,mV,ff hk]
     rw [e] at rH ⊢;exact ⟨jd this rH,this⟩
   | @room v hp hv he =>
     right;have:=Hh hM.heap (cpu:=(cpu.toNat:Int)) (by omega) (by omega) hv
     rcases this with h|h
     ·exact absurd h he
     ·exact h
   | @chain v hp hv he JC=>exact absurd (Hg hM hi hv he) JC
   | @new v hp hv he JC =>
     left;refine ⟨rfl,?_⟩;have hG:=Fh hM hi hv he JC;have kg:=oT s.aa[i] v.2.1;have kX:=hv.at_ he;obtain ⟨_,_,_,IE⟩:=hv.from_ he
     have hk:eM s.aa[i] v.2.1<(dV s.aa[i] v.2.1).ab.length:=by
      simp only [dV];rw [de _ kg];omega
     have MR:(dV s.aa[i] v.2.1).ab[eM s.aa[i] v.2.1]=⟨v.2.1,s.aa[i].bK,16*v.2.1⟩:=by
      have:=lu kg (x:=(⟨v.2.1,s.aa[i].bK,16*v.2.1⟩ : Slab))
      obtain ⟨_,e⟩:=ads.1 this;exact e
     have key:∀ (c:aQ) (ec:c=dV s.aa[i] v.2.1) (t:ah) (ht:aB t) (MS:i<t.aa.length) (MT:t.aa[i]=c) (yb:eM s.aa[i] v.2.1<c.ab.length),aB ⟨t.Words,t.Heap,t.aa.set i (dH c cpu.toNat (eM s.aa[i] v.2.1) (t.Words.getD c.ab[eM s.aa[i] v.2.1].cf.toNat 0))⟩:=fun c ec t ht MS MT yb=>by
      subst MT
      have e2:t.aa[i].ab[eM s.aa[i] v.2.1]=⟨v.2.1,s.aa[i].bK,16*v.2.1⟩:=by
       have:∀ (d:aQ) (hd:d=dV s.aa[i] v.2.1) (hq:eM s.aa[i] v.2.1<d.ab.length),d.ab[eM s.aa[i] v.2.1]=⟨v.2.1,s.aa[i].bK,16*v.2.1⟩:=fun d hd hq=>by subst hd;exact MR
       exact this _ ec yb
      have T7:t.aa[i].ao=s.aa[i].ao:=by rw [ec];rfl
      refine Fe ht MS (by rw [T7];exact pW) yb (by rw [e2];simp only;omega) (.inr ?_);rw [e2,T7];intro mS;obtain ⟨q,hq,eq⟩:=ac1 mS;have G9:=hC.dq q hq;unfold tZ at G9;rw [eq] at G9;rcases G9 with h|⟨_,h⟩
      ·simp only at h;omega
      ·obtain ⟨x,hx,NN⟩:=ade.1 h;obtain ⟨b,hb,eb⟩:=nH hM (ac0 hi) hx;exact IE b hb (by rw [eb];exact of_decide_eq_true NN)
     have hT:=key _ rfl _ hG (by simp only [List.length_set];exact hi) (by simp) hk
     have e:(lR s i cpu.toNat (some ⟨dE s.Words (16*v.2.1) s.aa[i].aA s.aa[i].bK,v.1,dV s.aa[i] v.2.1,eM s.aa[i] v.2.1⟩,0)).1=⟨dE s.Words (16*v.2.1) s.aa[i].aA s.aa[i].bK,v.1,(s.aa.set i (dV s.aa[i] v.2.1)).set i (dH (dV s.aa[i] v.2.1) cpu.toNat (eM s.aa[i] v.2.1) ((dE s.Words (16*v.2.1) s.aa[i].aA s.aa[i].bK).getD (dV s.aa[i] v.2.1).ab[eM s.aa[i] v.2.1].cf.toNat 0))⟩:=by
      simp only [lR,bH,mV,ff hk,List.set_set]
     rw [e] at rH ⊢;exact ⟨jd hT rH,hT⟩
theorem Aa {t:Int} (hs : 1<=size) {l:List Int} (hn:l.Nodup) (h:∀ a∈l,ic size per t a=true) : (l.length:Int)<=per∨l=[]:=by
 rcases aeK l with e|⟨i,x,e⟩
 ·exact .inr e
 ·left
  have hq:∀ a,ic size per t a=true -> ∃ q:Nat,(q:Int)<per∧a=16*t+q*size:=fun a ha=>by
   unfold ic at ha;simp only [Bool.and_eq_true,decide_eq_true_eq] at ha;obtain ⟨⟨e1,e2⟩,e3⟩:=ha;have h1:(a-t*16) / size<per:=Int.ediv_lt_of_lt_mul (by omega) e2
   have h2 : 0<=(a-t*16) / size:=afa e1 (by omega)
   have h3:=aeg (a-t*16) size;obtain ⟨k,hk⟩:=ada h2;rw [hk] at h1 h3;rw [e3,ad8] at h3;exact ⟨k,h1,by omega⟩
  have hf:∀ (q:Nat),((16*t+q*size-16*t) / size).toNat=q:=fun q=>by
   rw [show 16*t+q*size-16*t=q*size by omega,Int.mul_ediv_cancel _ (by omega)];simp
  have h1:=BH (f:=fun a=>((a-16*t) / size).toNat) hn (fun a ha b hb e=>by
   obtain ⟨q,_,rfl⟩:=hq a (h a ha);obtain ⟨r,_,rfl⟩:=hq b (h b hb);simp only [hf] at e;rw [e])
  have h2:=zA per.toNat _ h1 (fun x hx=>by
   obtain ⟨a,ha,rfl⟩:=adk.1 hx;obtain ⟨q,LH,rfl⟩:=hq a (h a ha);simp only [hf];omega)
  rw [List.length_map] at h2;obtain ⟨q,LH,_⟩:=hq x (h x (by rw [e];simp));omega
theorem xm (hM:aB s) (hi:i<s.aa.length) (js:j<i) {x y:Slab} (hx:x∈(s.aa[j]'(by omega)).ab) (hy:y∈s.aa[i].ab) : x.At≠y.At:=fun e=>by
 obtain ⟨q,hq,rfl⟩:=ac1 hy;refine (hM.each i hi).aD q hq (adC _ ?_);unfold aK;rw [adm];exact ⟨s.aa[j]'(by omega),ad0.2 ⟨j,by omega,rfl⟩,adk.2 ⟨x,hx,e⟩⟩
theorem nI (hM:aB s) (hj:j<s.aa.length) (hi:i<s.aa.length) (bL:j≠i) {x y:Slab} (hx:x∈s.aa[j].ab) (hy:y∈s.aa[i].ab) : x.At≠y.At:=by
 rcases aee bL with h|h
 ·exact xm hM hi h hx hy
 ·exact fun e=>xm hM hj h hy hx e.symm
theorem IH (hM:aB s) (hi:i<s.aa.length) (hk:k<s.aa[i].ab.length) {out:List Int} (mM:ic s.aa[i].aA s.aa[i].bK s.aa[i].ab[k].At a=true) (ho:bM s.Words s.aa[i].aA s.aa[i].bK s.aa[i].ab[k] out) (oD:a∉out) : (0<=a∧a<4096) ∧
 (∀ c∈s.aa,eV s c -> ∀ x∈c.ab,x.At≠s.aa[i].ab[k].At -> ∀ o,bM s.Words c.aA c.bK x o->bM (s.Words.set a.toNat s.aa[i].ab[k].cf) c.aA c.bK x o) ∧
 bM (s.Words.set a.toNat s.aa[i].ab[k].cf) s.aa[i].aA s.aa[i].bK ⟨s.aa[i].ab[k].At,s.aa[i].ab[k].aj+1,a⟩ (a::out):=by
 have hC:=(hM.each i hi).may;have hl:=cd hC.lay;have OZ:s.aa[i]∈s.aa:=ac0 hi
 have Bg:s.aa[i].ab[k]∈s.aa[i].ab:=ac0 hk
 have Bf : 0<=s.aa[i].bK:=by omega
 obtain ⟨b0,C5,P3,U0⟩:=gC hM OZ Bg;obtain ⟨l1,l2,l3,_⟩:=hM.heap.live.all b0 C5;have har:=wD l1.1 l1.2 l2.1 (show b0.At<256 by omega) l3;rw [P3,U0] at har;rw [P3] at l2;obtain ⟨r1,r2⟩:=mj hC.lay mM;have ha : 0<=a∧a<4096:=by omega
 obtain ⟨an,rfl⟩:=ada ha.1;have MK:an<s.Words.length:=by rw [hM.words];omega
 have Ry:∀ c∈s.aa,∀ x∈c.ab,x.At≠s.aa[i].ab[k].At -> ∀ b:Int,16*x.At<=b->b<16*(x.At+pw c.Order)->0<=b->(s.Words.set an s.aa[i].ab[k].cf)[b.toNat]?=s.Words[b.toNat]?:=fun c hc x hx bL b h1 h2 h0=>by
  obtain ⟨b1,aW,e1,e2⟩:=gC hM hc hx;have:=gB hM.heap aW C5 (by rw [e1,P3];exact bL)
  rw [e1,e2,P3,U0] at this;rw [ad7 (by omega)]
 have pO:∀ c∈s.aa,eV s c -> ∀ x∈c.ab,x.At≠s.aa[i].ab[k].At -> ∀ o,bM s.Words c.aA c.bK x o->bM (s.Words.set an s.aa[i].ab[k].cf) c.aA c.bK x o:=fun c hc Sq x hx bL o h =>
  Ce (t:=⟨s.Words.set an s.aa[i].ab[k].cf,s.Heap,[]⟩) hM hc hx Sq.lay h (Ry c hc x hx bL)
 simp only [Int.ofNat_eq_natCast,Int.toNat_natCast] at *;obtain ⟨k1,k2,k3,k4,k5⟩:=(g9 Bf).1 ho;have T8:((an:Int)::out).Nodup:=ad1.2 ⟨oD,k2⟩
 have fe:∀ b∈(an:Int)::out,ic s.aa[i].aA s.aa[i].bK s.aa[i].ab[k].At b=true:=fun b hb=>by
  rcases ad4.1 hb with rfl|hb
  ·exact mM
  ·exact k5 b hb
 have Rz:=Aa (by omega) T8 fe
 have hlen:(((an:Int)::out).length:Int)<=s.aa[i].bK:=by
  rcases Rz with h|h
  ·exact h
  ·simp at h
 refine ⟨ha,pO,(g9 Bf).2 ⟨?_,T8,hlen,?_,fe⟩⟩
 ·refine .cons (by rw [adz];exact MK) ?_;rw [aeJ];refine k1.congr fun b hb h0 => ?_
  rw [ad7];intro e;exact oD (by rw [e,adx h0];exact hb)
 ·simp only [List.length_cons];omega
theorem II (hM:aB s) (hi:i<s.aa.length) (hk:k<s.aa[i].ab.length) {out:List Int} (mM:ic s.aa[i].aA s.aa[i].bK s.aa[i].ab[k].At a=true) (ho:bM s.Words s.aa[i].aA s.aa[i].bK s.aa[i].ab[k] out) (oD:a∉out) :
 aB ⟨s.Words.set a.toNat s.aa[i].ab[k].cf,s.Heap,s.aa.set i (ie s.aa[i] k s.aa[i].ab[k] a)⟩:=by
 have hC:=(hM.each i hi).may;have OZ:s.aa[i]∈s.aa:=ac0 hi
 have Bg:s.aa[i].ab[k]∈s.aa[i].ab:=ac0 hk
 obtain ⟨ha,pO,jU⟩:=IH hM hi hk mM ho oD;obtain ⟨an,rfl⟩:=ada ha.1;have kX:oP (ie s.aa[i] k s.aa[i].ab[k] an)=oP s.aa[i]:=yu hk rfl
 have T9:=jc.1 fun j hj=>(hM.each j hj).aD
 simp only [Int.ofNat_eq_natCast,Int.toNat_natCast] at *;refine sy hM hi (by simp only [List.length_set];exact hM.words) hM.heap rfl rfl rfl ?_ (fun c hc Ua => ?_) (by simp only;rw [gD hi kX];exact T9)
 ·refine ⟨hC.lay,hC.names,hC.aZ,fun j hj => ?_,fun j hj => ?_⟩
  ·simp only [ie,List.length_set] at hj;have hS:=hC.aD j hj
   have Rx:∀ (q:Nat) (hq:q<s.aa[i].ab.length),((ie s.aa[i] k s.aa[i].ab[k] an).ab[q]'(by simp only [ie,List.length_set];exact hq)).At=s.aa[i].ab[q].At:=fun q hq=>by
    simp only [ie,List.getElem_set];split
    ·rename_i e;subst e;rfl
    ·rfl
   refine ⟨by rw [Rx j hj];exact hS.live,fun h0=>by rw [Rx j hj,Rx (j-1) (by omega)];exact hS.next h0,?_⟩;by_cases e:k=j
   ·subst e
    have es:(ie s.aa[i] k s.aa[i].ab[k] an).ab[k]'(by simp only [ie,List.length_set];exact hk)=⟨s.aa[i].ab[k].At,s.aa[i].ab[k].aj+1,an⟩:=by
     simp only [ie,List.getElem_set,if_true]
    rw [es];exact ⟨_,jU⟩
   ·obtain ⟨o,h⟩:=hS.chain
    have es:(ie s.aa[i] k s.aa[i].ab[k] an).ab[j]'(by simp only [ie,List.length_set];exact hj)=s.aa[i].ab[j]:=by
     simp only [ie,List.getElem_set,if_neg e]
    rw [es];refine ⟨o,pO _ OZ hC _ (ac0 hj) ?_ o h⟩;have Fi:=mL hC;rw [ac8] at Fi;rcases adD j k with g|g|g
    ·have:=Fi j k hj hk g;omega
    ·exact absurd g.symm e
    ·have:=Fi k j hk hj g;omega
  ·have iC:∀ z,(ie s.aa[i] k s.aa[i].ab[k] an).ab.any (xD z)=s.aa[i].ab.any (xD z):=fun z=>by
    have e1:∀ l:List Slab,l.any (xD z)=(l.map fun x=>x.At).any fun y=>decide (y=z):=fun l=>by rw [ae5];rfl
    rw [e1,e1];unfold oP at kX;rw [kX]
   have:=hC.dq j hj
   unfold tZ at this ⊢;rw [iC];exact this
 ·obtain ⟨j,hj,js,rfl⟩:=Ua;have hJ:=(hM.each j hj).may;refine ⟨hJ.lay,hJ.names,hJ.aZ,fun q hq => ?_,hJ.dq⟩;have hS:=hJ.aD q hq;refine ⟨hS.live,hS.next,?_⟩;obtain ⟨o,h⟩:=hS.chain;refine ⟨o,pO _ hc hJ _ (ac0 hq) (nI hM hj hi js (ac0 hq) Bg) o h⟩
theorem MU {cs:List aQ} (hi:i<cs.length) (h:List.Sublist (oP c') (oP cs[i])) (hn:(aK cs).Nodup) : (aK (cs.set i c')).Nodup:=by
 have e1:cs=cs.take i++cs[i]::cs.drop (i+1):=by simp
 have e2:cs.set i c'=cs.take i++c'::cs.drop (i+1):=by rw [adW,if_pos hi]
 have f1:aK cs=aK (cs.take i)++(oP cs[i]++aK (cs.drop (i+1))):=by
  conv=>lhs;rw [e1]
  rw [cT,cT,cT,adr,aei,aeb,aej]
 have f2:aK (cs.set i c')=aK (cs.take i)++(oP c'++aK (cs.drop (i+1))):=by
  rw [e2,cT,cT,cT,adr,aei,aeb,aej]
 rw [f2];rw [f1] at hn;exact List.Nodup.sublist (List.Sublist.append (List.Sublist.refl _) (List.Sublist.append h (List.Sublist.refl _))) hn
theorem IJ (hM:aB s) (hi:i<s.aa.length) (hk:k<s.aa[i].ab.length) (hA:s.aa[i].ab[k].At∉s.aa[i].ao) (qj : 0<=cpu∧cpu<s.Heap.bG) :
 (fa s.Heap cpu s.aa[i].ab[k].At).1=0∧aB ⟨s.Words,(fa s.Heap cpu s.aa[i].ab[k].At).2,s.aa.set i (eH s.aa[i] k)⟩:=by
 have hC:=(hM.each i hi).may;have hm:=hM.heap;have OZ:s.aa[i]∈s.aa:=ac0 hi
 have Bg:s.aa[i].ab[k]∈s.aa[i].ab:=ac0 hk
 obtain ⟨b0,C5,P3,U0⟩:=gC hM OZ Bg
 have hf:bO s.Heap.Live s.aa[i].ab[k].At=true:=by
  obtain ⟨q,hq,rfl⟩:=ac1 C5;exact (qG (kE hm.live) hq P3).2
 have YD:=nk (cn.2 hm) qj hf;have mP:=s5 hm qj hf;obtain ⟨p1,p2,p3⟩:=ny (cpu:=cpu) hm hf;refine ⟨by rw [YD],?_⟩;rw [YD]
 have xy:∀ x:Int,x≠s.aa[i].ab[k].At->oA (iL s.Heap cpu s.aa[i].ab[k].At).Live x=oA s.Heap.Live x:=fun x hx=>by
  refine uf hm.live mP.live fun y hy => ?_
  rw [p2,j5 hm.live hf];exact ⟨fun h=>⟨h,by rw [hy];exact hx⟩,fun h=>h.1⟩
 have Fi:=mL hC
 have bL:∀ (q:Nat) (hq:q<s.aa[i].ab.length),q≠k->s.aa[i].ab[q].At≠s.aa[i].ab[k].At:=fun q hq RA=>by
  have:=Fi
  rw [ac8] at this;rcases aee RA with g|g
  ·have:=this q k hq hk g;omega
  ·have:=this k q hk hq g;omega
 have T9:=jc.1 fun j hj=>(hM.each j hj).aD
 refine sy hM hi hM.words mP rfl rfl rfl ?_ (fun c hc Ua => ?_) ?_
 ·refine ⟨hC.lay,hC.names,by simp only [eH];rw [p1];exact hC.aZ,fun j hj => ?_,fun j hj => ?_⟩
  ·have o6:j<(s.aa[i].ab.eraseIdx k).length:=hj
   have Ub:(s.aa[i].ab.eraseIdx k).Pairwise fun x y=>x.At<y.At:=List.Pairwise.sublist (adU _ _) Fi
   have MQ : 0<j->((s.aa[i].ab.eraseIdx k)[j-1]'(by omega)).At<((s.aa[i].ab.eraseIdx k)[j]'o6).At:=fun h0=>by
    rw [ac8] at Ub;exact Ub (j-1) j (by omega) o6 (by omega)
   have mS:(s.aa[i].ab.eraseIdx k)[j]'o6∈s.aa[i].ab.eraseIdx k:=ac0 o6
   obtain ⟨q,hq,RA,eq⟩:=ad9.1 mS
   have key:∀ y:Slab,y=s.aa[i].ab[q]->oA (iL s.Heap cpu s.aa[i].ab[k].At).Live y.At=s.aa[i].Order ∧ ∃ out,bM s.Words s.aa[i].aA s.aa[i].bK y out:=fun y ey=>by
    subst ey;have hS:=hC.aD q hq;exact ⟨(xy _ (bL q hq RA)).trans hS.live,hS.chain⟩
   have yb:=key _ eq.symm;exact ⟨yb.1,MQ,yb.2⟩
  ·have:=hC.dq j hj
   unfold tZ at this ⊢;rcases this with h|⟨h1,h2⟩
   ·exact .inl h
   ·refine .inr ⟨h1,?_⟩;rw [ade] at h2 ⊢;obtain ⟨x,hx,NN⟩:=h2;obtain ⟨q,hq,rfl⟩:=ac1 hx;refine ⟨s.aa[i].ab[q],?_,NN⟩;simp only [eH];rw [ad9];refine ⟨q,hq,fun e => ?_,rfl⟩;subst e;have e1:=of_decide_eq_true NN;exact hA (by rw [e1];exact ac0 hj)
 ·obtain ⟨j,hj,js,rfl⟩:=Ua;have hJ:=(hM.each j hj).may;refine ⟨hJ.lay,hJ.names,by simp only;rw [p1];exact hJ.aZ,fun q hq => ?_,hJ.dq⟩;have hS:=hJ.aD q hq;exact ⟨(xy _ (nI hM hj hi js (ac0 hq) Bg)).trans hS.live,hS.next,hS.chain⟩
 ·simp only;refine MU hi ?_ T9;unfold oP eH;exact List.Sublist.map _ (adU _ _)
variable {u:ah×Int}
theorem Fj (h:iy s a ((i:Int),(k:Int),0)) : ∃ (hF:lA s a i k) (out:List Int),bM s.Words (s.aa[i]'hF.hi).aA (s.aa[i]'hF.hi).bK ((s.aa[i]'hF.hi).ab[k]'hF.hk) out∧a∉out:=by
 have key:∀ u,iy s a u->u=((i:Int),(k:Int),0) -> ∃ (hF:lA s a i k) (out:List Int),bM s.Words (s.aa[i]'hF.hi).aA (s.aa[i]'hF.hi).bK ((s.aa[i]'hF.hi).ab[k]'hF.hk) out∧a∉out:=fun u hu e=>by
  cases hu with
  | bad|none|free=>simp at e
  | @hit i' k' out h hF hC hm =>
    simp only [Prod.mk.injEq,Int.natCast_inj] at e;obtain ⟨rfl,rfl,_⟩:=e;exact ⟨hF,out,hC,hm⟩
 exact key _ h rfl
theorem qN.jS (hI:dI s) (h:qN s n cpu a u) (h0:u.2=0) : dI u.1:=by
 have hM:=hI.may;have rH:=h.small hI.cV;cases h with
 | ask h=>exact absurd h0 h
 | none=>simp at h0
 | @put i k h hF e hi hk =>
   obtain ⟨_,_,qj⟩:=mo h;obtain ⟨Si,out,hC,oD⟩:=Fj hF;have mM:=Si.obj;rw [pS hi hk] at mM;have hP:=II hM hi hk mM hC oD
   refine ⟨jd ?_ rH,?_⟩<;>(
    unfold vg;split
    ·rename_i hc;rw [adG] at hc;have RC:=hc.1;unfold n7 at RC;simp only [Bool.and_eq_true,Bool.not_eq_true',decide_eq_false_iff_not] at RC
     have key:∀ (t:ah) (ht:aB t) (MS:i<t.aa.length) (c1:aQ) (MT:t.aa[i]=c1) (ec:c1=ie s.aa[i] k s.aa[i].ab[k] a) (eh:t.Heap=s.Heap),aB ⟨t.Words,(fa t.Heap cpu s.aa[i].ab[k].At).2,t.aa.set i (eH c1 k)⟩:=fun t ht MS c1 MT ec eh=>by
      subst MT;have Dc:k<t.aa[i].ab.length:=by rw [ec];simp only [ie,List.length_set];exact hk
      have YE:t.aa[i].ab[k].At=s.aa[i].ab[k].At:=by
       have:∀ (d:aQ) (hd:d=ie s.aa[i] k s.aa[i].ab[k] a) (hq:k<d.ab.length),d.ab[k].At=s.aa[i].ab[k].At:=fun d hd hq=>by subst hd;simp [ie]
       exact this _ ec Dc
      have:=(IJ ht MS Dc (by rw [YE,ec];exact RC.2) (cpu:=cpu) (by rw [eh];exact qj)).2
      rw [YE] at this;exact this
     have:=key _ hP (by simp only [List.length_set];exact hi) _ (by simp) rfl rfl
     simp only [List.set_set] at this;exact this
    ·exact hP)
theorem pj.IK {u:ah×Int×Int} (hI:dI s) (h:pj s n cpu u) (h0:u.2.2=0) : dI u.1:=by
 have h':=h;cases h with
 | ask h=>exact absurd h0 h
 | DS h =>
   rcases h'.jS hI h with h|h
   ·exact h.2
   ·omega
theorem Dx (hI:dI s) {u:Heap×Int×Int} (h:cM s.Heap cpu o fl u) (he:u.2.2=0) : dI (qT s u.1):=by
 have:=Dw (a:=⟨1,cpu,o,0,0,fl,⟨#[]⟩⟩) rfl s _ hI (cx.bC rfl h)
 simp only [mW,if_pos he] at this;exact this
theorem vu (hM:aB s) {q:Nat} (hi:i<s.aa.length) (hj:j<s.aa.length) (hk:k<s.aa[i].ab.length) (hq:q<s.aa[j].ab.length) (bL : ¬ (i=j∧k=q))
 (h1:ic s.aa[i].aA s.aa[i].bK s.aa[i].ab[k].At a=true) (h2:ic s.aa[j].aA s.aa[j].bK s.aa[j].ab[q].At a=true) : False:=by
 have YF:=(hM.each i hi).may;have hCj:=(hM.each j hj).may
 have kX:s.aa[i].ab[k].At≠s.aa[j].ab[q].At:=by
  by_cases e:i=j
  ·subst e;have Fi:=mL YF;rw [ac8] at Fi;rcases adD k q with g|g|g
   ·have:=Fi k q hk hq g;omega
   ·exact absurd ⟨rfl,g⟩ bL
   ·have:=Fi q k hq hk g;omega
  ·exact nI hM hi hj e (ac0 hk) (ac0 hq)
 obtain ⟨b1,aW,e1,e2⟩:=gC hM (ac0 hi) (ac0 hk);obtain ⟨b2,au,e3,e4⟩:=gC hM (ac0 hj) (ac0 hq);have h3:=gB hM.heap aW au (by rw [e1,e3];exact kX);rw [e1,e2,e3,e4] at h3;obtain ⟨r1,r2⟩:=mj YF.lay h1;obtain ⟨r3,r4⟩:=mj hCj.lay h2;omega
theorem Cg (hM:aB s) (hi:i<s.aa.length) (hk:k<s.aa[i].ab.length) (h:ic s.aa[i].aA s.aa[i].bK s.aa[i].ab[k].At a=true) : lA s a i k:=by
 refine ⟨hi,hk,by rw [pS hi hk];exact h,fun i' k' eQ => ?_⟩;cases e:n6 s a i' k' with
 | false=>rfl
 | true =>
   exfalso;unfold n6 at e;split at e
   ·rename_i h1;split at e
    ·rename_i h2;exact vu hM hi h1 hk h2 (by omega) h e
    ·cases e
   ·cases e
theorem O0 (hM:aB s) (hi:i<s.aa.length) (hk:k<s.aa[i].ab.length) (h:ic s.aa[i].aA s.aa[i].bK s.aa[i].ab[k].At a=true) {out:List Int} (hC:bM s.Words s.aa[i].aA s.aa[i].bK s.aa[i].ab[k] out) :
 (a∈out->iy s a (0,0,4))∧(a∉out->iy s a ((i:Int),(k:Int),0)) :=
 ⟨fun hm => .free (nX hM) (Cg hM hi hk h) hC hm,fun hm => .hit (nX hM) (Cg hM hi hk h) hC hm⟩
theorem Ab (hc:c∈s.aa) {x:Slab} (hx:x∈c.ab) (h:a / 16=x.At) : df s a=false:=by
 have:mr s (a / 16)=true:=by
  unfold mr;rw [ade];refine ⟨c,hc,?_⟩;unfold tM;rw [ade];exact ⟨x,hx,decide_eq_true h.symm⟩
 unfold df;rw [this];simp
structure MV (s:ah) (i k:Nat) (a:Int) : Prop where
 hi:i<s.aa.length
 hk:k<s.aa[i].ab.length
 obj:ic s.aa[i].aA s.aa[i].bK s.aa[i].ab[k].At a=true
 off:∃ out,bM s.Words s.aa[i].aA s.aa[i].bK s.aa[i].ab[k] out∧a∉out
theorem MV.find (h:MV s i k a) (hM:aB s) : iy s a ((i:Int),(k:Int),0):=by
 obtain ⟨out,hC,oD⟩:=h.off;exact (O0 hM h.hi h.hk h.obj hC).2 oD
theorem Ac (hM:aB s) (hi:i<s.aa.length) (hn:n∈s.aa[i].Names) : idxOf (dO n) s.aa=(i:Int):=by
 refine nE hi (jz.2 hn) fun j hj js => ?_
 cases e:dO n s.aa[j] with
 | false=>rfl
 | true =>
   exfalso;have hm:=jz.1 e;obtain ⟨q,hq,rfl⟩:=ac1 hn;refine ((hM.each i hi).names.each q hq).2.1 (adC _ ?_);unfold bl;rw [adm];exact ⟨s.aa[j],ad0.2 ⟨j,by omega,rfl⟩,hm⟩
theorem Ch (hM:aB s) (hi:i<s.aa.length) (hk:k<s.aa[i].ab.length) (h:ic s.aa[i].aA s.aa[i].bK s.aa[i].ab[k].At a=true) : df s a=false:=by
 cases e:df s a with
 | false=>rfl
 | true =>
   exfalso;obtain ⟨hf,h0,h16⟩:=eW e;have hC:=(hM.each i hi).may;obtain ⟨r1,r2⟩:=mj hC.lay h;by_cases kX:a / 16=s.aa[i].ab[k].At
   ·rw [Ab (ac0 hi) (ac0 hk) kX] at e;cases e
   ·obtain ⟨hq,eq⟩:=jx hf;obtain ⟨b,hb,e1,e2⟩:=gC hM (ac0 hi) (ac0 hk);have hl:=(hM.heap.live.all _ (ac0 hq));have hp:=cy hl.1.1 hl.1.2;have:=gB hM.heap (ac0 hq) hb (by rw [eq,e1];exact kX)
    rw [eq,e1,e2] at this;omega
theorem Kb (h:iy s a (0,0,4)) : qS s a none := .no h fun i hi h0=>by simp at h0
variable {x':Int->Prop}
def Hi (ws:List Int) (c:aQ) (a:Int) : Prop := ∃ x∈c.ab,ic c.aA c.bK x.At a=true ∧ ∃ out,bM ws c.aA c.bK x out∧a∉out
inductive Src
 | obj (i:Nat)
 | pg (o:Int)
def fq (s:ah) : Src->Int->Prop
 | .obj i,a => ∃ c,s.aa[i]?=some c∧Hi s.Words c a
 | .pg o,a=>df s a=true∧oA s.Heap.Live (a / 16)=o
def oV (s:ah) (i:Nat) : Int:=((s.aa[i]?).map fun c=>c.aA).getD 0
def jo (s:ah) : Src->Int
 | .obj i=>oV s i
 | .pg o=>16*pw o
theorem Ci (hl:fP s.Heap.Live):df s a=true↔(0<=a∧a % 16=0)∧(∀ c∈s.aa,∀ x∈c.ab,x.At≠a / 16) ∧ ∃ b∈s.Heap.Live,b.At=a / 16:=by
 constructor
 ·intro h;obtain ⟨h1,h2,h3⟩:=eW h;obtain ⟨hk,e⟩:=jx h1;refine ⟨⟨h2,h3⟩,fun c hc x hx e => ?_,_,ac0 hk,e⟩;rw [Ab hc hx e.symm] at h;cases h
 ·rintro ⟨h1,h2,b,hb,e⟩
  have hs:mr s (a / 16)=false:=by
   cases e:mr s (a / 16) with
   | false=>rfl
   | true =>
     exfalso;unfold mr at e;obtain ⟨c,hc,e⟩:=ade.1 e;obtain ⟨x,hx,e⟩:=ade.1 e;exact h2 c hc x hx (of_decide_eq_true e)
  have hf:bO s.Heap.Live (a / 16)=true:=by
   obtain ⟨k,hk,rfl⟩:=ac1 hb;exact (qG (kE hl) hk e).2
  unfold df;rw [hs,hf,decide_eq_true h1]
  rfl
theorem j6 (hl:fP s.Heap.Live):fq s (.pg o) a↔(0<=a∧a % 16=0)∧(∀ c∈s.aa,∀ x∈c.ab,x.At≠a / 16) ∧ ∃ b∈s.Heap.Live,b.At=a / 16∧b.Order=o:=by
 constructor
 ·rintro ⟨h,e⟩
  obtain ⟨h1,h2,b,hb,e2⟩:=(Ci hl).1 h;exact ⟨h1,h2,b,hb,e2,by rw [<- e,<- e2,ij hl hb]⟩
 ·rintro ⟨h1,h2,b,hb,e2,rfl⟩
  exact ⟨(Ci hl).2 ⟨h1,h2,b,hb,e2⟩,by rw [<- e2,ij hl hb]⟩
theorem iQ (hi:i<s.aa.length):fq s (.obj i) a↔Hi s.Words s.aa[i] a:=by
 constructor
 ·rintro ⟨c,e,h⟩
  obtain ⟨_,rfl⟩:=ads.1 e;exact h
 ·exact fun h=>⟨_,ac7 hi,h⟩
theorem fq.lt (h:fq s (.obj i) a) : i<s.aa.length:=by
 obtain ⟨c,e,_⟩:=h;obtain ⟨hi,_⟩:=ads.1 e;exact hi
theorem IL (hi:i<s.aa.length):Hi s.Words s.aa[i] a ↔ ∃ k,MV s i k a:=by
 constructor
 ·rintro ⟨x,hx,h1,h2⟩
  obtain ⟨k,hk,rfl⟩:=ac1 hx;exact ⟨k,hi,hk,h1,h2⟩
 ·rintro ⟨k,h⟩
  exact ⟨_,ac0 h.hk,h.obj,h.off⟩
theorem Kc {d p s:Int} (hs : 1<=s) (h0:d<p*s) (hm:d % s=0) : d+s<=p*s:=by
 have h3:=aeg d s;have h1:d / s<p:=Int.ediv_lt_of_lt_mul (by omega) h0
 have h2:(d / s+1)*s<=p*s:=aer (by omega) (by omega)
 rw [aff,afg,ad8 (d / s)] at h2;omega
theorem Ad {d e s:Int} (hs : 1<=s) (hd:d % s=0) (he:e % s=0) (h:d<e) : d+s<=e:=by
 have h1:=aeg d s;have h2:=aeg e s
 have h3:d / s<e / s:=by
  rcases ae7 (d / s) (e / s) with h3|h3
  ·exact h3
  ·have:=aeQ h3 (show 0<=s by omega)
   omega
 have h4:=aeQ (show d / s+1<=e / s by omega) (show 0<=s by omega);rw [Int.mul_add,Int.mul_one] at h4;omega
structure RD (s:ah) (q:Src) (a:Int) (b:Block) : Prop where
 mem:b∈s.Heap.Live
 lo : 16*b.At<=a
 hi:a+jo s q<=16*(b.At+pw b.Order)
 ext : 1<=jo s q
 what:(∃ i,∃ h:i<s.aa.length,q = .obj i∧jo s q=s.aa[i].aA∧(a-b.At*16) % s.aa[i].aA=0 ∧ ∃ x∈s.aa[i].ab,x.At=b.At)∨(q = .pg b.Order∧a=16*b.At ∧ ∀ c∈s.aa,∀ x∈c.ab,x.At≠b.At)
theorem j7 (hM:aB s) {q:Src} (h:fq s q a) : ∃ b,RD s q a b:=by
 cases q with
 | obj i =>
   have hi:=h.lt;obtain ⟨x,hx,ho,_⟩:=(iQ hi).1 h;have hC:=(hM.each i hi).may;have hl:=cd hC.lay;have hp:=j3 hC.lay;obtain ⟨b,hb,e1,e2⟩:=gC hM (ac0 hi) hx;have es:jo s (.obj i)=s.aa[i].aA:=by simp [jo,oV,hi]
   unfold ic at ho;simp only [Bool.and_eq_true,decide_eq_true_eq] at ho;obtain ⟨⟨h1,h2⟩,h3⟩:=ho;have h4:=Kc (by omega) h2 h3;refine ⟨b,hb,by omega,?_,by omega,.inl ⟨i,hi,rfl,es,by rw [e1];exact h3,x,hx,e1.symm⟩⟩;rw [es,e1,e2];obtain ⟨p,ep⟩ : ∃ p,s.aa[i].bK*s.aa[i].aA=p:=⟨_,rfl⟩;rw [ep] at hp h4;have WY:pw 0=1:=by decide
   have WZ:pw 1=2:=by decide
   have W0:pw 2=4:=by decide
   rcases hp with ⟨eo,h5⟩|⟨eo,h5⟩|⟨eo,h5⟩<;>rw [eo]<;>omega
 | pg o =>
   obtain ⟨h1,h2,b,hb,e1,rfl⟩:=(j6 hM.heap.live).1 h;have hl:=(hM.heap.live.all b hb).1;have hp:=cy hl.1 hl.2;have es:jo s (.pg b.Order)=16*pw b.Order:=rfl
   exact ⟨b,hb,by omega,by rw [es];omega,by rw [es];omega,.inr ⟨rfl,by omega,fun c hc x hx=>by rw [e1];exact h2 c hc x hx⟩⟩
theorem ta (hM:aB s) (hi:i<s.aa.length) (hj:j<s.aa.length) {x y:Slab} (hx:x∈s.aa[i].ab) (hy:y∈s.aa[j].ab) (e:x.At=y.At) : i=j:=by
 by_cases h:i=j
 ·exact h
 ·exact absurd e (nI hM hi hj h hx hy)
theorem IM (hM:aB s) {q r:Src} {z:Int} {b d:Block} (h:RD s q a b) (k:RD s r z d) : q=r∧b.At=d.At∧(q=r->a=z∨a+jo s q<=z∨z+jo s r<=a)∨a+jo s q<=z∨z+jo s r<=a:=by
 by_cases e:b.At=d.At
 ·left;rcases h.what with ⟨i,hi,rfl,e1,e2,x,hx,e3⟩|⟨rfl,e1,e2⟩
  ·rcases k.what with ⟨j,hj,rfl,f1,f2,y,hy,f3⟩|⟨rfl,f1,f2⟩
   ·obtain rfl:=ta hM hi hj hx hy (by rw [e3,f3,e]);have hl:=cd (hM.each i hi).may.lay;refine ⟨rfl,e,fun _ => ?_⟩;rw [e1];rw [<- e] at f2;rcases Int.lt_trichotomy a z with g|g|g
    ·have:=Ad (by omega) e2 f2 (by omega);right;left;omega
    ·exact .inl g
    ·have:=Ad (by omega) f2 e2 (by omega);right;right;omega
   ·exact absurd (by rw [e3,e]) (f2 _ (ac0 hi) x hx)
  ·rcases k.what with ⟨j,hj,rfl,f1,f2,y,hy,f3⟩|⟨rfl,f1,f2⟩
   ·exact absurd (by rw [f3,e]) (e2 _ (ac0 hj) y hy)
   ·have hb:b.Order=d.Order:=by
     have h1:=ij hM.heap.live h.mem;have h2:=ij hM.heap.live k.mem;rw [<- h1,<- h2,e]
    exact ⟨by rw [hb],e,fun _ => .inl (by rw [e1,f1,e])⟩
 ·right;have:=gB hM.heap h.mem k.mem e
  have h1:=h.lo;have h2:=h.hi;have h3:=k.lo;have h4:=k.hi;omega
theorem tc (hM:aB s) {q r:Src} (h:fq s q a) (k:fq s r a) : q=r:=by
 obtain ⟨b,hb⟩:=j7 hM h;obtain ⟨d,hd⟩:=j7 hM k;have h1:=hb.ext;have h2:=hd.ext;rcases IM hM hb hd with h|h|h
 ·exact h.1
 ·omega
 ·omega
theorem Ae (hM:aB s) {q r:Src} {z:Int} (h:fq s q a) (k:fq s r z) (bL:a≠z) : a+jo s q<=z∨z+jo s r<=a:=by
 obtain ⟨b,hb⟩:=j7 hM h;obtain ⟨d,hd⟩:=j7 hM k;rcases IM hM hb hd with ⟨h1,_,h2⟩|h|h
 ·rcases h2 h1 with h|h|h
  ·exact absurd h bL
  ·exact .inl h
  ·exact .inr h
 ·exact .inl h
 ·exact .inr h
theorem fR (hM:aB s) {q:Src} (h:fq s q a) : 0<=a∧a+jo s q<=4096∧1<=jo s q:=by
 obtain ⟨b,hb⟩:=j7 hM h;obtain ⟨l1,l2,l3,_⟩:=hM.heap.live.all b hb.mem;have:=wD l1.1 l1.2 l2.1 (show b.At<256 by omega) l3
 have h1:=hb.lo;have h2:=hb.hi;have h3:=hb.ext;omega
def kk (s:ah) : List (List ByteArray×Int):=s.aa.map fun c=>(c.Names,c.aA)
structure eK (s t:ah) (x:Int->Prop) (y:Src->Int->Prop) : Prop where
 aw:∀ q a,fq t q a↔(fq s q a ∧ ¬ x a)∨y q a
 words:∀ q a,fq s q a -> ¬ x a->t.Words[a.toNat]?=s.Words[a.toNat]?
 shape:kk t=kk s
 cpus:t.Heap.bG=s.Heap.bG
def qY:Int->Prop:=fun _=>False
def wF:Src->Int->Prop:=fun _ _=>False
theorem eK.refl (s:ah) : eK s s qY wF:=⟨fun q a=>by simp [qY,wF],fun _ _ _ _=>rfl,rfl,rfl⟩
theorem eK.trans {t u:ah} {x:Int->Prop} {y y':Src->Int->Prop} (h:eK s t x y) (k:eK t u x' y') : eK s u (fun a=>x a∨x' a) (fun q a=>(y q a ∧ ¬ x' a)∨y' q a) :=
 ⟨fun q a=>by
  rw [k.aw,h.aw];by_cases h1:x a<;>by_cases h2:x' a<;>simp [h1,h2,or_assoc],
  fun q a ha hx=>by
   rw [k.words q a ((h.aw q a).2 (.inl ⟨ha,fun h=>hx (.inl h)⟩)) fun h=>hx (.inr h)];exact h.words q a ha fun h=>hx (.inl h),
  k.shape.trans h.shape,k.cpus.trans h.cpus⟩
theorem eK.congr {t:ah} {x:Int->Prop} {y y':Src->Int->Prop} (h:eK s t x y) (hx:∀ a,x a↔x' a) (hy:∀ q a,y q a↔y' q a) : eK s t x' y' :=
 ⟨fun q a=>by rw [h.aw,hx,hy],fun q a ha hn=>h.words q a ha (by rw [hx];exact hn),h.shape,h.cpus⟩
theorem td (s:ah) (i:Nat) : oV s i=(((kk s)[i]?).map fun p=>p.2).getD 0:=by
 unfold oV kk;rw [aeC];cases s.aa[i]?<;>rfl
theorem eK.ext {t:ah} {x:Int->Prop} {y:Src->Int->Prop} (h:eK s t x y) (q:Src) : jo t q=jo s q:=by
 cases q with
 | obj i=>simp only [jo,td,h.shape]
 | pg=>rfl
variable {ws Q8:List Int}
theorem oW {l:List α} {p:Nat} {x y : α}:y∈aM l p x↔y=x∨y∈l:=by
 unfold aM;rw [ac6,ac9,ac9,aeT];constructor
 ·rintro (h|rfl|h)
  ·exact .inr (adu h)
  ·exact .inl rfl
  ·exact .inr (adI h)
 ·rintro (rfl|hb)
  ·exact .inr (.inl rfl)
  ·have e:=ac4 p l;have iq:y∈l.take p++l.drop p:=by rw [e];exact hb
   rcases ac9.1 iq with hb|hb
   ·exact .inl hb
   ·exact .inr (.inr hb)
theorem lD {h:Heap} {t:Int} {b:Block}:b∈dQ h a o t↔b=⟨a,o,t⟩∨b∈h.Live:=oW
theorem vv (hM:aB s) {u:Heap×Int×Int} (hu:cM s.Heap cpu o fl u) (u0:u.2.2=0) (q:Src) : ¬ fq s q (16*u.2.1):=fun h=>by
 obtain ⟨hm,Be,⟨ty,yY,Cf⟩,IE⟩:=hu.from_ u0;have mP:=hu.may u0;obtain ⟨b,hb⟩:=j7 hM h;have hn:(⟨u.2.1,o,ty⟩ : Block)∈u.1.Live:=by rw [Cf];exact lD.2 (.inl rfl)
 have iq:b∈u.1.Live:=by rw [Cf];exact lD.2 (.inr hb.mem)
 have h1:=gB mP iq hn (IE b hb.mem);have h2:=(mP.live.all _ hn).1;have h3:=cy h2.1 h2.2;have h4:=hb.lo;have h5:=hb.hi;have h6:=hb.ext;simp only at h1 h3;omega
theorem Af (hM:aB s) {u:Heap×Int×Int} (hu:cM s.Heap cpu o fl u) (u0:u.2.2=0) : eK s (qT s u.1) qY (fun q a=>q = .pg o∧a=16*u.2.1):=by
 obtain ⟨hm,Be,⟨ty,yY,Cf⟩,IE⟩:=hu.from_ u0;have mP:=hu.may u0;have kX:=hu.at_ u0;refine ⟨fun q a => ?_,fun _ _ _ _=>rfl,rfl,Be⟩;cases q with
 | obj i =>
   constructor
   ·exact fun h => .inl ⟨h,fun h=>h⟩
   ·rintro (⟨h,_⟩|⟨h,_⟩)
    ·exact h
    ·cases h
 | pg r =>
   rw [j6 (s:=qT s u.1) mP.live,j6 hm.live];constructor
   ·rintro ⟨h1,h2,b,hb,e1,e2⟩
    have iq:b∈dQ s.Heap u.2.1 o ty:=by rw [<- Cf];exact hb
    rcases lD.1 iq with rfl|iq
    ·simp only at e1 e2;exact .inr ⟨by rw [e2],by omega⟩
    ·exact .inl ⟨⟨h1,h2,b,iq,e1,e2⟩,fun h=>h⟩
   ·rintro (⟨⟨h1,h2,b,hb,e1,e2⟩,_⟩|⟨h1,rfl⟩)
    ·exact ⟨h1,h2,b,by show b∈u.1.Live;rw [Cf];exact lD.2 (.inr hb),e1,e2⟩
    ·injection h1 with h1
     subst h1;refine ⟨⟨by omega,by omega⟩,fun c hc x hx e => ?_,⟨u.2.1,r,ty⟩,?_,?_,rfl⟩
     ·obtain ⟨b,hb,e'⟩:=nH hM hc hx;exact IE b hb (by omega)
     ·show _∈u.1.Live
      rw [Cf];exact lD.2 (.inl rfl)
     ·simp only;omega
theorem Cj (hM:aB s) (hq : 0<=cpu∧cpu<s.Heap.bG) (hw:df s (a*16)=true) : eK s (qT s (iL s.Heap cpu a)) (fun z=>z=a*16) wF:=by
 have hm:=hM.heap;obtain ⟨hf,h0,_⟩:=eW hw;rw [show a*16 / 16=a by omega] at hf;have mP:=s5 hm hq hf;obtain ⟨p1,p2,p3⟩:=ny (cpu:=cpu) hm hf;have hA:fq s (.pg (oA s.Heap.Live (a*16 / 16))) (a*16):=⟨hw,rfl⟩
 refine ⟨fun q z => ?_,fun _ _ _ _=>rfl,rfl,p1⟩;simp only [wF,or_false];cases q with
 | obj i =>
   constructor
   ·refine fun h=>⟨h,fun e => ?_⟩
    subst e;have h':fq s (.obj i) (a*16):=h
    cases tc hM h' hA
   ·exact fun h=>h.1
 | pg r =>
   rw [j6 (s:=qT s (iL s.Heap cpu a)) mP.live,j6 hm.live];constructor
   ·rintro ⟨h1,h2,b,hb,e1,e2⟩
    have iq:b∈s.Heap.Live.eraseIdx (bE s.Heap.Live a):=by rw [<- p2];exact hb
    obtain ⟨aW,au⟩:=(j5 hm.live hf).1 iq;exact ⟨⟨h1,h2,b,aW,e1,e2⟩,by omega⟩
   ·rintro ⟨⟨h1,h2,b,hb,e1,e2⟩,bL⟩
    refine ⟨h1,h2,b,?_,e1,e2⟩;show b∈(iL s.Heap cpu a).Live
    rw [p2];exact (j5 hm.live hf).2 ⟨hb,by omega⟩
theorem Hj (hM:aB s) : eK s (qT s (kO s.Heap).2) qY wF:=by
 have hm:=hM.heap;obtain ⟨z0,z1,h1,_⟩:=hm.cr;rw [vm (cn.2 hm) h1];refine ⟨fun q z => ?_,fun _ _ _ _=>rfl,rfl,rfl⟩;simp only [qY,wF,or_false,not_false_iff,and_true];cases q<;>exact Iff.rfl
theorem IN (h:s.aa[i]?=some c):fq s (.obj i) a↔Hi s.Words c a:=by
 constructor
 ·rintro ⟨d,e,h'⟩
  rw [h] at e;injection e with e
  rw [e];exact h'
 ·exact fun h'=>⟨c,h,h'⟩
theorem sA {t:ah} {x y:Int->Prop} (hM:aB s) (hi:i<s.aa.length) (hc:t.aa=s.aa.set i c') (hn:c'.Names=s.aa[i].Names) (hz:c'.aA=s.aa[i].aA) (qj:t.Heap.bG=s.Heap.bG)
 (cQ:∀ a,Hi t.Words c' a↔(Hi s.Words s.aa[i] a ∧ ¬ x a)∨y a) (hx:∀ a,x a->fq s (.obj i) a)
 (ho:∀ (j:Nat) (hj:j<s.aa.length),j≠i -> ∀ a,Hi t.Words s.aa[j] a↔Hi s.Words s.aa[j] a)
 (hp:∀ o a,fq t (.pg o) a↔fq s (.pg o) a)
 (hw:∀ q a,fq s q a -> ¬ x a->t.Words[a.toNat]?=s.Words[a.toNat]?) : eK s t x (fun q a=>q = .obj i∧y a):=by
 refine ⟨fun q a => ?_,hw,?_,qj⟩
 ·cases q with
  | obj j =>
    by_cases e:j=i
    ·subst e;rw [IN (c:=c') (by rw [hc];exact ad5 hi),iQ hi,cQ];simp
    ·have h1:t.aa[j]?=s.aa[j]?:=by rw [hc,ad7 (fun h=>e h.symm)]
     have h2 : ¬ (Src.obj j=Src.obj i):=fun h=>e (Src.obj.inj h)
     by_cases hj:j<s.aa.length
     ·rw [IN (h1.trans (ac7 hj)),ho j hj e,iQ hj];constructor
      ·refine fun h => .inl ⟨h,fun NN => ?_⟩
       exact h2 (tc hM ((iQ hj).2 h) (hx a NN))
      ·rintro (⟨h,_⟩|⟨h,_⟩)
       ·exact h
       ·exact absurd h h2
     ·constructor
      ·rintro ⟨d,e',_⟩
       rw [h1,adP (by omega)] at e';cases e'
      ·rintro (⟨h,_⟩|⟨h,_⟩)
       ·exact absurd h.lt hj
       ·exact absurd h h2
  | pg o =>
    rw [hp];constructor
    ·refine fun h => .inl ⟨h,fun NN => ?_⟩
     cases tc hM h (hx a NN)
    ·rintro (⟨h,_⟩|⟨h,_⟩)
     ·exact h
     ·cases h
 ·unfold kk;rw [hc,aem];refine adR (by simp) fun j g1 g2 => ?_
  rw [adq];split
  ·rename_i e;subst e;simp [hn,hz]
  ·rfl
theorem wG (h:∀ x∈c.ab,∃ out,bM ws c.aA c.bK x out∧bM Q8 c.aA c.bK x out) (a:Int) : Hi Q8 c a↔Hi ws c a:=by
 constructor
 ·rintro ⟨x,hx,h1,o,h2,h3⟩
  obtain ⟨out,k1,k2⟩:=h x hx;exact ⟨x,hx,h1,out,k1,by rw [k2.dm h2];exact h3⟩
 ·rintro ⟨x,hx,h1,o,h2,h3⟩
  obtain ⟨out,k1,k2⟩:=h x hx;exact ⟨x,hx,h1,out,k2,by rw [k1.dm h2];exact h3⟩
theorem eE {l:List α} (hk:k<l.length) {y x : α}:x∈l.set k y↔x=y ∨ ∃ j,∃ hj:j<l.length,j≠k∧x=l[j]:=by
 constructor
 ·intro h;obtain ⟨j,hj,rfl⟩:=ac1 h;rw [adz] at hj;rw [adq];split
  ·exact .inl rfl
  ·rename_i e;exact .inr ⟨j,hj,fun e'=>e e'.symm,rfl⟩
 ·rintro (rfl|⟨j,hj,bL,rfl⟩)
  ·exact List.mem_iff_getElem.2 ⟨k,by rw [adz];exact hk,by simp⟩
  ·exact List.mem_iff_getElem.2 ⟨j,by rw [adz];exact hj,by rw [adq,if_neg fun e=>bL e.symm]⟩
theorem IP (hk:k<c.ab.length) {y:Slab} (e:c'.ab=c.ab.set k y) (ez:c'.aA=c.aA) (ep:c'.bK=c.bK)
 (Uc:∀ (j:Nat) (hj:j<c.ab.length),j≠k -> ∃ out,bM ws c.aA c.bK c.ab[j] out∧bM Q8 c.aA c.bK c.ab[j] out)
 {o o':List Int} (ho:bM ws c.aA c.bK c.ab[k] o) (nK:bM Q8 c.aA c.bK y o') (ey:y.At=c.ab[k].At) {p r:Int->Prop}
 (cQ:∀ a,ic c.aA c.bK c.ab[k].At a=true->(a∉o'↔(a∉o ∧ ¬ p a)∨r a)) (hx:∀ a,p a∨r a->ic c.aA c.bK c.ab[k].At a=true)
 (hd:∀ (j:Nat) (hj:j<c.ab.length),j≠k -> ∀ a,ic c.aA c.bK c.ab[j].At a=true->ic c.aA c.bK c.ab[k].At a=true->False) (a:Int) :
 Hi Q8 c' a↔(Hi ws c a ∧ ¬ p a)∨r a:=by
 unfold Hi;rw [e,ez,ep];constructor
 ·rintro ⟨x,py,h1,out,h2,h3⟩
  rcases (eE hk).1 py with rfl|⟨j,hj,bL,rfl⟩
  ·rw [ey] at h1;rw [h2.dm nK] at h3;rcases (cQ a h1).1 h3 with ⟨h4,h5⟩|h4
   ·exact .inl ⟨⟨_,ac0 hk,h1,o,ho,h4⟩,h5⟩
   ·exact .inr h4
  ·obtain ⟨o2,k1,k2⟩:=Uc j hj bL;refine .inl ⟨⟨_,ac0 hj,h1,o2,k1,by rw [k2.dm h2];exact h3⟩,fun hp => ?_⟩;exact hd j hj bL a h1 (hx a (.inl hp))
 ·rintro (⟨⟨x,py,h1,out,h2,h3⟩,h4⟩|h)
  ·obtain ⟨j,hj,rfl⟩:=ac1 py;by_cases bL:j=k
   ·subst bL;rw [h2.dm ho] at h3;exact ⟨y,(eE hk).2 (.inl rfl),by rw [ey];exact h1,o',nK,(cQ a h1).2 (.inl ⟨h3,h4⟩)⟩
   ·obtain ⟨o2,k1,k2⟩:=Uc j hj bL;exact ⟨_,(eE hk).2 (.inr ⟨j,hj,bL,rfl⟩),h1,o2,k2,by rw [k1.dm h2];exact h3⟩
  ·have h1:=hx a (.inr h);exact ⟨y,(eE hk).2 (.inl rfl),by rw [ey];exact h1,o',nK,(cQ a h1).2 (.inr h)⟩
theorem Ck {ws:List Int} {size per:Int} {x:Slab} {out:List Int} (hs : 1<=size) (h:bM ws size per x out) (hf:x.aj=per) (hp : 1<=per) {a:Int} (ho:ic size per x.At a=true) : a∈out:=by
 rcases Classical.em (a∈out) with h'|h'
 ·exact h'
 ·exfalso;obtain ⟨k1,k2,k3,k4,k5⟩:=(g9 (by omega)).1 h
  have:=Aa (per:=per) hs (l:=a::out) (ad1.2 ⟨h',k2⟩) (fun b hb=>by
   rcases ad4.1 hb with rfl|hb
   ·exact ho
   ·exact k5 b hb)
  rcases this with h|h
  ·simp only [List.length_cons] at h;omega
  ·cases h
theorem Fk (hM:aB s) (hi:i<s.aa.length) (hk:k<s.aa[i].ab.length) {out:List Int} (ho:bM s.Words s.aa[i].aA s.aa[i].bK s.aa[i].ab[k] out) (hm:a∈out) (q:Src) : ¬ fq s q a:=fun h=>by
 have mM:=ho.2.2 a hm;cases q with
 | obj j =>
   have hj:=h.lt;obtain ⟨x,hx,h1,o,h2,h3⟩:=(iQ hj).1 h;obtain ⟨r,hr,rfl⟩:=ac1 hx;by_cases e:i=j∧k=r
   ·obtain ⟨rfl,rfl⟩:=e;rw [h2.dm ho] at h3;exact h3 hm
   ·exact vu hM hi hj hk hr e mM h1
 | pg o =>
   have:=Ch hM hi hk mM
   rw [h.1] at this;cases this
theorem te {cs:List aQ} {z:Int}:(∀ c∈cs,∀ x∈c.ab,x.At≠z)↔z∉aK cs:=by
 unfold aK;constructor
 ·intro h hm;obtain ⟨c,hc,hx⟩:=adm.1 hm;obtain ⟨x,hx,e⟩:=adk.1 hx;exact h c hc x hx e
 ·intro h c hc x hx e;exact h (adm.2 ⟨c,hc,adk.2 ⟨x,hx,e⟩⟩)
theorem Ag {t:ah} (hs:fP s.Heap.Live) (hh:t.Heap.Live=s.Heap.Live) (hz:aK t.aa=aK s.aa) (o a:Int) : fq t (.pg o) a↔fq s (.pg o) a:=by
 rw [j6 (s:=t) (by rw [hh];exact hs),j6 hs,te,te,hz,hh]
theorem wH {cs:List aQ} (hi:i<cs.length) {z:Int}:z∈aK (cs.set i c')↔z∈oP c' ∨ ∃ j,∃ hj:j<cs.length,j≠i∧z∈oP cs[j]:=by
 rw [cT,List.mem_flatten];constructor
 ·rintro ⟨L,hL,hz⟩
  obtain ⟨c,hc,rfl⟩:=adk.1 hL;rcases (eE hi).1 hc with rfl|⟨j,hj,bL,rfl⟩
  ·exact .inl hz
  ·exact .inr ⟨j,hj,bL,hz⟩
 ·rintro (hz|⟨j,hj,bL,hz⟩)
  ·exact ⟨_,adk.2 ⟨c',(eE hi).2 (.inl rfl),rfl⟩,hz⟩
  ·exact ⟨_,adk.2 ⟨_,(eE hi).2 (.inr ⟨j,hj,bL,rfl⟩),rfl⟩,hz⟩
theorem Ah {cs:List aQ} (hi:i<cs.length) {z:Int}:z∈aK cs↔z∈oP cs[i] ∨ ∃ j,∃ hj:j<cs.length,j≠i∧z∈oP cs[j]:=by
 have:=wH hi (c':=cs[i]) (z:=z)
 rwa [adK] at this
theorem tf {z:Int}:z∈oP c ↔ ∃ x∈c.ab,x.At=z:=by unfold oP;exact adk
theorem Cl (hM:aB s) {cpu:Nat} (hi:i<s.aa.length) (hk:k<s.aa[i].ab.length) (hf : 0<s.aa[i].ab[k].aj) :
 eK s ⟨s.Words,s.Heap,s.aa.set i (dH s.aa[i] cpu k (s.Words.getD s.aa[i].ab[k].cf.toNat 0))⟩ qY (fun q a=>q = .obj i∧a=s.aa[i].ab[k].cf) ∧ ∀ q,¬ fq s q s.aa[i].ab[k].cf:=by
 have hC:=(hM.each i hi).may;have hl:=cd hC.lay;have Bf : 0<=s.aa[i].bK:=by omega
 obtain ⟨out,ho⟩:=(hC.aD k hk).chain;obtain ⟨k1,k2,k3,k4,k5⟩:=(g9 Bf).1 ho;obtain ⟨q,rest,e1,e2,hq,e3⟩:=k1.head (fun e=>by rw [e] at k4;simp at k4;omega)
 have ev:s.Words.getD s.aa[i].ab[k].cf.toNat 0=s.Words[q]:=by
  rw [e1];simp [List.getD,List.getElem?_eq_getElem hq]
 rw [e2] at k2 k3 k4 k5;simp only [List.length_cons] at k3 k4;have W1:=(ad1.1 k2).1;have mM:=k5 s.aa[i].ab[k].cf (by simp);have nK:bM s.Words s.aa[i].aA s.aa[i].bK ⟨s.aa[i].ab[k].At,s.aa[i].ab[k].aj-1,s.Words[q]⟩ rest:=(g9 (x:=⟨s.aa[i].ab[k].At,s.aa[i].ab[k].aj-1,s.Words[q]⟩) Bf).2 ⟨e3,(ad1.1 k2).2,by omega,by simp only;omega,fun a ha=>k5 a (by simp [ha])⟩
 have z9:oP (dH s.aa[i] cpu k (s.Words.getD s.aa[i].ab[k].cf.toNat 0))=oP s.aa[i]:=by
  unfold oP dH;simp only [ff hk];exact yu hk rfl
 refine ⟨sA hM hi rfl rfl rfl rfl (fun a => ?_) (fun a h=>h.elim) (fun j hj bL a=>Iff.rfl) (Ag (t:=⟨s.Words,s.Heap,s.aa.set i (dH s.aa[i] cpu k (s.Words.getD s.aa[i].ab[k].cf.toNat 0))⟩) hM.heap.live rfl (gD hi z9)) (fun _ _ _ _=>rfl),fun r h=>Fk hM hi hk ho (by rw [e2];simp) r h⟩;refine IP (c:=s.aa[i]) (c':=dH s.aa[i] cpu k (s.Words.getD s.aa[i].ab[k].cf.toNat 0)) hk (y:=⟨s.aa[i].ab[k].At,s.aa[i].ab[k].aj-1,s.Words[q]⟩) (by simp only [dH,ff hk,ev]) rfl rfl (fun j hj bL => ?_) ho nK rfl (p:=qY) (r:=fun a=>a=s.aa[i].ab[k].cf) (fun a h => ?_) (fun a h => ?_) (fun j hj bL a h1 h2=>vu hM hi hi hj hk (fun e=>bL e.2) h1 h2) a
 ·obtain ⟨o,h⟩:=(hC.aD j hj).chain;exact ⟨o,h,h⟩
 ·rw [e2];simp only [qY,not_false_iff,and_true,List.mem_cons,not_or];constructor
  ·intro h';by_cases e:a=s.aa[i].ab[k].cf
   ·exact .inr e
   ·exact .inl ⟨e,h'⟩
  ·rintro (h'|rfl)
   ·exact h'.2
   ·exact W1
 ·rcases h with h|rfl
  ·exact h.elim
  ·exact mM
theorem grow_step (hM:aB s) (hi:i<s.aa.length) {u:Heap×Int×Int} (hu:cM s.Heap cpu s.aa[i].Order 0 u) (u0:u.2.2=0) (hc:jl s.Words.length (16*u.2.1) s.aa[i].aA s.aa[i].bK) :
 eK s ⟨dE s.Words (16*u.2.1) s.aa[i].aA s.aa[i].bK,u.1,s.aa.set i (dV s.aa[i] u.2.1)⟩ qY wF:=by
 have hC:=(hM.each i hi).may;have hl:=cd hC.lay;obtain ⟨hw,yd,hold,Hf⟩:=Fg hM hi hu u0 hc;obtain ⟨hm,Be,⟨ty,yY,Cf⟩,IE⟩:=hu.from_ u0;have mP:=hu.may u0;have hn:(⟨u.2.1,s.aa[i].Order,ty⟩ : Block)∈u.1.Live:=by rw [Cf];exact lD.2 (.inl rfl)
 have fe:∀ c∈s.aa,eV s c -> ∀ a,Hi (dE s.Words (16*u.2.1) s.aa[i].aA s.aa[i].bK) c a↔Hi s.Words c a:=fun c hc Sq a=>by
  refine wG (fun x hx => ?_) a;obtain ⟨k,hk,rfl⟩:=ac1 hx;obtain ⟨o,h⟩:=(Sq.aD k hk).chain;exact ⟨o,h,hold c hc Sq _ hx o h⟩
 refine (sA (t:=⟨dE s.Words (16*u.2.1) s.aa[i].aA s.aa[i].bK,u.1,s.aa.set i (dV s.aa[i] u.2.1)⟩) (x:=qY) (y:=fun _=>False) (c':=dV s.aa[i] u.2.1) hM hi rfl rfl rfl Be (fun a => ?_) (fun a h=>h.elim) (fun j hj bL a=>fe _ (ac0 hj) (hM.each j hj).may a) (fun o a => ?_) (fun q a h _ => ?_)).congr (fun a=>Iff.rfl) (fun q a=>by simp [wF])
 ·simp only [qY,not_false_iff,and_true,or_false];rw [<- fe _ (ac0 hi) hC];constructor
  ·rintro ⟨x,hx,h1,o,h2,h3⟩
   have UG:ic s.aa[i].aA s.aa[i].bK x.At a=true:=h1
   have nc:bM (dE s.Words (16*u.2.1) s.aa[i].aA s.aa[i].bK) s.aa[i].aA s.aa[i].bK x o:=h2
   rcases oW.1 hx with rfl|hx
   ·exact absurd (Ck (by omega) nc rfl (by omega) UG) h3
   ·exact ⟨x,hx,UG,o,nc,h3⟩
  ·rintro ⟨x,hx,h1,o,h2,h3⟩
   exact ⟨x,oW.2 (.inr hx),h1,o,h2,h3⟩
 ·rw [j6 (s:=⟨dE s.Words (16*u.2.1) s.aa[i].aA s.aa[i].bK,u.1,s.aa.set i (dV s.aa[i] u.2.1)⟩) mP.live,j6 hm.live,te,te]
  have hz:∀ z,z∈aK (s.aa.set i (dV s.aa[i] u.2.1))↔z=u.2.1∨z∈aK s.aa:=fun z=>by
   have e:z∈oP (dV s.aa[i] u.2.1)↔z=u.2.1∨z∈oP s.aa[i]:=by
    rw [tf,tf];constructor
    ·rintro ⟨x,hx,rfl⟩
     rcases oW.1 hx with rfl|hx
     ·exact .inl rfl
     ·exact .inr ⟨x,hx,rfl⟩
    ·rintro (rfl|⟨x,hx,rfl⟩)
     ·exact ⟨_,oW.2 (.inl rfl),rfl⟩
     ·exact ⟨x,oW.2 (.inr hx),rfl⟩
   rw [wH hi,Ah hi,e,or_assoc]
  rw [hz];constructor
  ·rintro ⟨h1,h2,b,hb,e1,e2⟩
   refine ⟨h1,fun h=>h2 (.inr h),b,?_,e1,e2⟩;have iq:b∈dQ s.Heap u.2.1 s.aa[i].Order ty:=by rw [<- Cf];exact hb
   rcases lD.1 iq with rfl|iq
   ·exact absurd (.inl e1.symm) h2
   ·exact iq
  ·rintro ⟨h1,h2,b,hb,e1,e2⟩
   refine ⟨h1,fun h => ?_,b,by show b∈u.1.Live;rw [Cf];exact lD.2 (.inr hb),e1,e2⟩;rcases h with h|h
   ·exact IE b hb (e1.trans h)
   ·exact h2 h
 ·obtain ⟨b,hb⟩:=j7 hM h;have iq:b∈u.1.Live:=by rw [Cf];exact lD.2 (.inr hb.mem)
  have h1:=gB mP iq hn (IE b hb.mem);have h2:=hb.lo;have h3:=hb.hi;have h4:=hb.ext;have h5:=(mP.live.all b iq).2.1;simp only at h1;exact hw a (by omega) (by omega)
theorem MW (hM:aB s) (hi:i<s.aa.length) (hk:k<s.aa[i].ab.length) {out:List Int} (mM:ic s.aa[i].aA s.aa[i].bK s.aa[i].ab[k].At a=true) (ho:bM s.Words s.aa[i].aA s.aa[i].bK s.aa[i].ab[k] out) (oD:a∉out) :
 eK s ⟨s.Words.set a.toNat s.aa[i].ab[k].cf,s.Heap,s.aa.set i (ie s.aa[i] k s.aa[i].ab[k] a)⟩ (fun z=>z=a) wF:=by
 have hC:=(hM.each i hi).may;obtain ⟨ha,pO,jU⟩:=IH hM hi hk mM ho oD;have Bg:s.aa[i].ab[k]∈s.aa[i].ab:=ac0 hk
 have hA:fq s (.obj i) a:=(iQ hi).2 ⟨_,Bg,mM,out,ho,oD⟩
 have z9:oP (ie s.aa[i] k s.aa[i].ab[k] a)=oP s.aa[i]:=yu hk rfl
 refine (sA (t:=⟨s.Words.set a.toNat s.aa[i].ab[k].cf,s.Heap,s.aa.set i (ie s.aa[i] k s.aa[i].ab[k] a)⟩) (x:=fun z=>z=a) (y:=fun _=>False) (c':=ie s.aa[i] k s.aa[i].ab[k] a) hM hi rfl rfl rfl rfl (fun z => ?_) (fun z h=>by rw [h];exact hA) (fun j hj bL z => ?_) (Ag (t:=⟨s.Words.set a.toNat s.aa[i].ab[k].cf,s.Heap,s.aa.set i (ie s.aa[i] k s.aa[i].ab[k] a)⟩) hM.heap.live rfl (gD hi z9)) (fun q z h bL => ?_)).congr (fun z=>Iff.rfl) (fun q z=>by simp [wF])
 ·refine IP (c:=s.aa[i]) (c':=ie s.aa[i] k s.aa[i].ab[k] a) hk (y:=⟨s.aa[i].ab[k].At,s.aa[i].ab[k].aj+1,a⟩) rfl rfl rfl (fun j hj bL => ?_) ho jU rfl (p:=fun z=>z=a) (r:=fun _=>False) (fun z h => ?_) (fun z h => ?_) (fun j hj bL z h1 h2=>vu hM hi hi hj hk (fun e=>bL e.2) h1 h2) z
  ·obtain ⟨o,h⟩:=(hC.aD j hj).chain;refine ⟨o,h,pO _ (ac0 hi) hC _ (ac0 hj) (fun e => ?_) o h⟩;have Fi:=mL hC;rw [ac8] at Fi;rcases aee bL with g|g
   ·have:=Fi j k hj hk g;omega
   ·have:=Fi k j hk hj g;omega
  ·simp only [List.mem_cons,not_or,or_false];exact ⟨fun h=>⟨h.2,h.1⟩,fun h=>⟨h.2,h.1⟩⟩
  ·rcases h with rfl|h
   ·exact mM
   ·exact h.elim
 ·refine wG (fun x hx => ?_) z;obtain ⟨r,hr,rfl⟩:=ac1 hx;obtain ⟨o,h⟩:=((hM.each j hj).may.aD r hr).chain;exact ⟨o,h,pO _ (ac0 hj) (hM.each j hj).may _ hx (nI hM hj hi bL hx Bg) o h⟩
 ·have hz:=fR hM h;rw [ad7];have:z≠a:=bL
  omega
theorem mem_erase_iff {l:List α} {x : α}:x∈l.eraseIdx k ↔ ∃ j,∃ hj:j<l.length,j≠k∧l[j]=x:=ad9
theorem Fl (hM:aB s) (hi:i<s.aa.length) (hk:k<s.aa[i].ab.length) (hf:s.aa[i].ab[k].aj=s.aa[i].bK) (qj : 0<=cpu∧cpu<s.Heap.bG) :
 eK s ⟨s.Words,(fa s.Heap cpu s.aa[i].ab[k].At).2,s.aa.set i (eH s.aa[i] k)⟩ qY wF:=by
 have hC:=(hM.each i hi).may;have hl:=cd hC.lay;have hm:=hM.heap;have Bg:s.aa[i].ab[k]∈s.aa[i].ab:=ac0 hk
 obtain ⟨b0,C5,P3,U0⟩:=gC hM (ac0 hi) Bg
 have LN:bO s.Heap.Live s.aa[i].ab[k].At=true:=by
  obtain ⟨q,hq,rfl⟩:=ac1 C5;exact (qG (kE hm.live) hq P3).2
 have mP:=s5 hm qj LN;obtain ⟨p1,p2,p3⟩:=ny (cpu:=cpu) hm LN;rw [nk (cn.2 hm) qj LN]
 have bL:∀ (q:Nat) (hq:q<s.aa[i].ab.length),q≠k->s.aa[i].ab[q].At≠s.aa[i].ab[k].At:=fun q hq RA=>by
  have:=mL hC
  rw [ac8] at this;rcases aee RA with g|g
  ·have:=this q k hq hk g;omega
  ·have:=this k q hk hq g;omega
 refine (sA (t:=⟨s.Words,iL s.Heap cpu s.aa[i].ab[k].At,s.aa.set i (eH s.aa[i] k)⟩) (x:=qY) (y:=fun _=>False) (c':=eH s.aa[i] k) hM hi rfl rfl rfl p1 (fun z => ?_) (fun z h=>h.elim) (fun j hj bL z=>Iff.rfl) (fun o z => ?_) (fun q z h _=>rfl)).congr (fun z=>Iff.rfl) (fun q z=>by simp [wF])
 ·simp only [qY,not_false_iff,and_true,or_false];constructor
  ·rintro ⟨x,hx,h1,o,h2,h3⟩
   exact ⟨x,adJ hx,h1,o,h2,h3⟩
  ·rintro ⟨x,hx,h1,o,h2,h3⟩
   obtain ⟨j,hj,rfl⟩:=ac1 hx;by_cases e:j=k
   ·subst e;exact absurd (Ck (by omega) h2 hf (by omega) h1) h3
   ·exact ⟨_,mem_erase_iff.2 ⟨j,hj,e,rfl⟩,h1,o,h2,h3⟩
 ·rw [j6 (s:=⟨s.Words,iL s.Heap cpu s.aa[i].ab[k].At,s.aa.set i (eH s.aa[i] k)⟩) mP.live,j6 hm.live,te,te]
  have hz:∀ y,y∈aK (s.aa.set i (eH s.aa[i] k))↔y∈aK s.aa∧y≠s.aa[i].ab[k].At:=fun y=>by
   rw [wH hi,Ah hi,tf,tf];constructor
   ·rintro (⟨x,hx,rfl⟩|⟨j,hj,js,hy⟩)
    ·obtain ⟨q,hq,RA,rfl⟩:=mem_erase_iff.1 hx;exact ⟨.inl ⟨_,ac0 hq,rfl⟩,bL q hq RA⟩
    ·refine ⟨.inr ⟨j,hj,js,hy⟩,fun e => ?_⟩;obtain ⟨x,hx,e'⟩:=tf.1 hy;exact nI hM hj hi js hx Bg (e'.trans e)
   ·rintro ⟨⟨x,hx,rfl⟩|⟨j,hj,js,hy⟩,Ld⟩
    ·obtain ⟨q,hq,rfl⟩:=ac1 hx;exact .inl ⟨_,mem_erase_iff.2 ⟨q,hq,fun e=>by subst e;exact Ld rfl,rfl⟩,rfl⟩
    ·exact .inr ⟨j,hj,js,hy⟩
  have cQ:s.aa[i].ab[k].At∈aK s.aa:=(Ah hi).2 (.inl (tf.2 ⟨_,Bg,rfl⟩))
  rw [hz];constructor
  ·rintro ⟨h1,h2,b,hb,e1,e2⟩
   have iq:b∈s.Heap.Live.eraseIdx (bE s.Heap.Live s.aa[i].ab[k].At):=by rw [<- p2];exact hb
   obtain ⟨aW,au⟩:=(j5 hm.live LN).1 iq;exact ⟨h1,fun h=>h2 ⟨h,by rw [<- e1];exact au⟩,b,aW,e1,e2⟩
  ·rintro ⟨h1,h2,b,hb,e1,e2⟩
   refine ⟨h1,fun h=>h2 h.1,b,?_,e1,e2⟩;show b∈(iL s.Heap cpu s.aa[i].ab[k].At).Live
   rw [p2];exact (j5 hm.live LN).2 ⟨hb,fun e=>h2 (by rw [<- e1,e];exact cQ)⟩
theorem Fm (hM:aB s) (hw:df s a=true) : ∀ i k,n6 s a i k=false:=fun i k=>by
 cases e:n6 s a i k with
 | false=>rfl
 | true =>
   exfalso;unfold n6 at e;split at e
   ·rename_i h1;split at e
    ·rename_i h2;rw [Ch hM h1 h2 e] at hw;cases hw
    ·cases e
   ·cases e
theorem pj.step {u:ah×Int×Int} (hI:dI s) (h:pj s n cpu u) (h0:u.2.2=0) : ∃ i:Nat,idxOf (dO n) s.aa=(i:Int)∧eK s u.1 qY (fun q a=>q = .obj i∧a=u.2.1) ∧ ∀ q,¬ fq s q u.2.1:=by
 have hM:=hI.may;cases h with
 | ask h=>exact absurd h0 h
 | @DS i m ha e hi hm =>
   obtain ⟨_,_,qj⟩:=mo ha;have hC:=(hM.each i hi).may;have hl:=cd hC.lay;have pW:cpu.toNat<s.aa[i].ao.length:=by have:=hC.aZ;omega
   cases hm with
   | room _ _ he=>exact absurd h0 he
   | chain=>simp [lR] at h0
   | @uw k hp =>
     obtain ⟨hk,hf,hA⟩:=IG pW hp;obtain ⟨h1,h2⟩:=Cl (cpu:=cpu.toNat) hM hi hk hf;refine ⟨i,e,?_,?_⟩
     ·simp only [lR,bH,mV,ff hk];exact h1
     ·simp only [lR,ff hk];exact h2
   | @new v hp hv he JC =>
     have hG:=Fh hM hi hv he JC;have h1:=grow_step hM hi hv he JC;have kg:=oT s.aa[i] v.2.1
     have hk:eM s.aa[i] v.2.1<(dV s.aa[i] v.2.1).ab.length:=by
      simp only [dV];rw [de _ kg];omega
     have MR:(dV s.aa[i] v.2.1).ab[eM s.aa[i] v.2.1]=⟨v.2.1,s.aa[i].bK,16*v.2.1⟩:=by
      have:=lu kg (x:=(⟨v.2.1,s.aa[i].bK,16*v.2.1⟩ : Slab))
      obtain ⟨_,e⟩:=ads.1 this;exact e
     have key:∀ (t:ah) (ht:aB t) (MS:i<t.aa.length) (c:aQ) (MT:t.aa[i]=c) (ec:c=dV s.aa[i] v.2.1) (yb:eM s.aa[i] v.2.1<c.ab.length),eK t ⟨t.Words,t.Heap,t.aa.set i (dH c cpu.toNat (eM s.aa[i] v.2.1) (t.Words.getD c.ab[eM s.aa[i] v.2.1].cf.toNat 0))⟩ qY (fun q a=>q = .obj i∧a=c.ab[eM s.aa[i] v.2.1].cf) ∧ ∀ q,¬ fq t q c.ab[eM s.aa[i] v.2.1].cf:=fun t ht MS c MT ec yb=>by
      subst MT;have e2:∀ (d:aQ) (hd:d=dV s.aa[i] v.2.1) (hq:eM s.aa[i] v.2.1<d.ab.length),0<d.ab[eM s.aa[i] v.2.1].aj:=fun d hd hq=>by subst hd;rw [MR];simp only;omega
      exact Cl ht MS yb (e2 _ ec yb)
     obtain ⟨h2,h3⟩:=key _ hG (by simp only [List.length_set];exact hi) _ (by simp) rfl hk;simp only [List.set_set] at h2;refine ⟨i,e,?_,fun q h => ?_⟩
     ·simp only [lR,bH,mV,ff hk];exact (h1.trans h2).congr (fun a=>by simp [qY]) (fun q a=>by simp [qY,wF])
     ·simp only [lR,ff hk] at h;exact h3 q ((h1.aw q _).2 (.inl ⟨h,fun h=>h⟩))
theorem qN.step (hI:dI s) (h:qN s n cpu a u) (h0:u.2=0) : eK s u.1 (fun z=>z=a) wF ∧ ∃ i:Nat,idxOf (dO n) s.aa=(i:Int)∧fq s (.obj i) a:=by
 have hM:=hI.may;cases h with
 | ask h=>exact absurd h0 h
 | none=>simp at h0
 | @put i k h hF e hi hk =>
   obtain ⟨_,_,qj⟩:=mo h;obtain ⟨Si,out,hC,oD⟩:=Fj hF;have mM:=Si.obj;rw [pS hi hk] at mM;have hP:=II hM hi hk mM hC oD;have h1:=MW hM hi hk mM hC oD;refine ⟨?_,i,e,(iQ hi).2 ⟨_,ac0 hk,mM,out,hC,oD⟩⟩;unfold vg;split
   ·rename_i hc;rw [adG] at hc;have RC:=hc.1;unfold n7 at RC;simp only [Bool.and_eq_true,Bool.not_eq_true',decide_eq_false_iff_not,decide_eq_true_eq] at RC
    have key:∀ (t:ah) (ht:aB t) (MS:i<t.aa.length) (c1:aQ) (MT:t.aa[i]=c1) (ec:c1=ie s.aa[i] k s.aa[i].ab[k] a) (eh:t.Heap=s.Heap),eK t ⟨t.Words,(fa t.Heap cpu s.aa[i].ab[k].At).2,t.aa.set i (eH c1 k)⟩ qY wF:=fun t ht MS c1 MT ec eh=>by
     subst MT;have Dc:k<t.aa[i].ab.length:=by rw [ec];simp only [ie,List.length_set];exact hk
     have es:t.aa[i].ab[k]=⟨s.aa[i].ab[k].At,s.aa[i].ab[k].aj+1,a⟩:=by
      have:∀ (d:aQ) (hd:d=ie s.aa[i] k s.aa[i].ab[k] a) (hq:k<d.ab.length),d.ab[k]=⟨s.aa[i].ab[k].At,s.aa[i].ab[k].aj+1,a⟩:=fun d hd hq=>by subst hd;simp [ie]
      exact this _ ec Dc
     have:=Fl ht MS Dc (by rw [es,ec];exact RC.1) (cpu:=cpu) (by rw [eh];exact qj)
     rw [es] at this;exact this
    have h2:=key _ hP (by simp only [List.length_set];exact hi) _ (by simp) rfl rfl;simp only [List.set_set] at h2;exact (h1.trans h2).congr (fun z=>by simp [qY]) (fun q z=>by simp [qY,wF])
   ·exact h1
theorem Cm {n:Int} (h:n<=256) : n<=16*pw (Bm n):=by
 have WY:pw 0=1:=by decide
 have WZ:pw 1=2:=by decide
 have W0:pw 2=4:=by decide
 have pw3:pw 3=8:=by decide
 have pw4:pw 4=16:=by decide
 unfold Bm;repeat' split
 all_goals omega
theorem fc.step {n:Int} {u:ah×Int×Int} (hI:dI s) (h:fc s cpu n u) (h0:u.2.2=0) : ∃ q,eK s u.1 qY (fun r a=>r=q∧a=u.2.1)∧(∀ r,¬ fq s r u.2.1)∧dI u.1∧1<=n ∧
 ((∃ i:Nat,q = .obj i∧n<=32∧idxOf (dO (ji n)) s.aa=(i:Int))∨(q = .pg (Bm n)∧n<=256)):=by
 cases h with
 | bad|range|size=>simp at h0
 | obj _ hn ho =>
   obtain ⟨i,e,h1,h2⟩:=ho.step hI h0;exact ⟨.obj i,h1,h2,ho.IK hI h0,hn.1,.inl ⟨i,rfl,hn.2,e⟩⟩
 | fault _ _ _ h=>exact absurd h0 h
 | bC _ hn ha he=>exact ⟨_,Af hI.may ha he,vv hI.may ha he,Dx hI ha he,by omega,.inr ⟨rfl,hn.2⟩⟩
theorem kQ.step (hI:dI s) (h:kQ s cpu a u) (h0:u.2=0) : eK s u.1 (fun z=>z=a) wF∧dI u.1:=by
 cases h with
 | bad|range|no=>simp at h0
 | obj _ _ _ _ hp=>exact ⟨(hp.step hI h0).1,hp.jS hI h0⟩
 | whole _ hc _ hw =>
   obtain ⟨hf,h0,hm⟩:=eW hw;have e:a / 16*16=a:=by omega
   rw [nk (cn.2 hI.may.heap) hc hf];have nC:df s (a / 16*16)=true:=by rw [e];exact hw
   exact ⟨(Cj hI.may hc nC).congr (fun z=>by rw [e]) fun _ _=>Iff.rfl,MO hI hc nC⟩
variable {f:Int} {q:Src}
theorem Hk (hM:aB s) (hA:fq s q a) (hw:∀ b:Int,0<=b -> ¬ (a<=b∧b<a+jo s q)->ws[b.toNat]?=s.Words[b.toNat]?) (hi:i<s.aa.length) (hk:k<s.aa[i].ab.length) {out:List Int} (ho:bM s.Words s.aa[i].aA s.aa[i].bK s.aa[i].ab[k] out) : bM ws s.aa[i].aA s.aa[i].bK s.aa[i].ab[k] out:=by
 have hC:=(hM.each i hi).may;have hl:=cd hC.lay;obtain ⟨k1,k2,k3,k4,k5⟩:=(g9 (by omega)).1 ho;refine (g9 (by omega)).2 ⟨k1.congr fun b hb h0=>hw b h0 fun cQ => ?_,k2,k3,k4,k5⟩;have mM:=k5 b hb;obtain ⟨r1,r2⟩:=mj hC.lay mM;obtain ⟨d,hd⟩:=j7 hM hA;obtain ⟨b0,C5,e1,e2⟩:=gC hM (ac0 hi) (ac0 hk);have d1:=hd.lo;have d2:=hd.hi;by_cases e:d.At=s.aa[i].ab[k].At
 ·rcases hd.what with ⟨j,hj,rfl,f1,f2,x,hx,f3⟩|⟨_,_,f2⟩
  ·obtain rfl:=ta hM hj hi hx (ac0 hk) (f3.trans e);rw [f1] at cQ;unfold ic at mM;simp only [Bool.and_eq_true,decide_eq_true_eq] at mM;obtain ⟨⟨g1,g2⟩,g3⟩:=mM;rw [e] at f2;rcases ae7 a b with h|h
   ·have:=Ad (by omega) f2 g3 (by omega)
    omega
   ·have Pt:a=b:=by omega
    subst Pt;exact Fk hM hi hk ho hb _ hA
  ·exact f2 _ (ac0 hi) _ (ac0 hk) e.symm
 ·have:=gB hM.heap hd.mem C5 (by rw [e1];exact e)
  rw [e1,e2] at this;omega
theorem Ai (hM:aB s) (hA:fq s q a) (hl:ws.length=4096) (hw:∀ b:Int,0<=b -> ¬ (a<=b∧b<a+jo s q)->ws[b.toNat]?=s.Words[b.toNat]?) :
 aB ⟨ws,s.Heap,s.aa⟩∧eK s ⟨ws,s.Heap,s.aa⟩ (fun z=>z=a) (fun r z=>r=q∧z=a):=by
 have JC:=fun {i k:Nat} (hi:i<s.aa.length) (hk:k<s.aa[i].ab.length) {out:List Int} (ho:bM s.Words s.aa[i].aA s.aa[i].bK s.aa[i].ab[k] out)=>Hk hM hA hw hi hk ho
 refine ⟨⟨hl,hM.heap,hM.most,fun i hi => ?_⟩,fun r z => ?_,fun r z h bL => ?_,rfl,rfl⟩
 ·have hC:=hM.each i hi;refine ⟨⟨hC.may.lay,hC.may.names,hC.may.aZ,fun k hk => ?_,hC.may.dq⟩,hC.size,hC.names,hC.aD⟩;have hS:=hC.may.aD k hk;obtain ⟨out,ho⟩:=hS.chain;exact ⟨hS.live,hS.next,out,JC hi hk ho⟩
 ·have key:fq ⟨ws,s.Heap,s.aa⟩ r z↔fq s r z:=by
   cases r with
   | pg o=>exact Iff.rfl
   | obj j =>
     by_cases hj:j<s.aa.length
     ·rw [iQ (s:=⟨ws,s.Heap,s.aa⟩) hj,iQ hj];refine wG (fun x hx => ?_) z;obtain ⟨k,hk,rfl⟩:=ac1 hx;obtain ⟨o,h⟩:=((hM.each j hj).may.aD k hk).chain;exact ⟨o,h,JC hj hk h⟩
     ·exact ⟨fun h=>absurd h.lt hj,fun h=>absurd h.lt hj⟩
  rw [key];constructor
  ·intro h;by_cases e:z=a
   ·subst e;exact .inr ⟨tc hM h hA,rfl⟩
   ·exact .inl ⟨h,e⟩
  ·rintro (h|⟨rfl,rfl⟩)
   ·exact h.1
   ·exact hA
 ·have h1:=fR hM h;have h2:=Ae hM h hA bL;have h3:=fR hM hA;exact hw z (by omega) (by omega)
theorem Aj (hM:aB s) (hA:fq s q a) (hm:∀ i (hi:i<s.aa.length),q = .obj i->oR s.aa[i]=true) {z:Int×Int} (h:jE s a z) : z=(jo s q,0):=by
 cases q with
 | obj i =>
   have hi:=hA.lt;obtain ⟨k,hk⟩:=(IL hi).1 ((iQ hi).1 hA);have hO:=qS.yes (hk.find hM) hi (hm i hi rfl);have:=h.dm (.obj (nX hM) hi hO)
   rw [this];simp [jo,oV,hi]
 | pg o =>
   have hw:=hA.1;have hF:iy s a (0,0,4) := .none (nX hM) (Fm hM hw)
   have:=h.dm (.whole (nX hM) (Kb hF) hw)
   rw [this];unfold pn;rw [if_pos hw,hA.2]
   rfl
theorem O1 {l:List Int} {t k:Int} (ht : 0<=t) (hf : 0<=f) (hk : 0<=k) (h1:t+k<=l.length) (h2:f+k<=l.length) : Bn l t f k=sw l t.toNat f.toNat k.toNat:=by
 unfold Bn;rw [if_pos ⟨ht,hf,hk,h1,h2⟩]
theorem nu.step {n:Int} {u:ah×Int×Int} (hI:dI s) (hA:fq s q a) (hm:∀ i (hi:i<s.aa.length),q = .obj i->oR s.aa[i]=true)
 (hz:∀ i:Nat,n<=32->idxOf (dO (ji n)) s.aa=(i:Int)->n<=oV s i) (h:nu s cpu a n u) (h0:u.2.2=0) :
 (u=(s,a,0)∧n<=jo s q) ∨ ∃ r,eK s u.1 (fun z=>z=a) (fun p z=>p=r∧z=u.2.1)∧dI u.1∧n<=jo s r∧1<=n∧(∀ p,¬ fq s p u.2.1)∧u.1.Words[u.2.1.toNat]?=s.Words[a.toNat]? ∧
   ((∃ i:Nat,r = .obj i∧n<=32∧idxOf (dO (ji n)) s.aa=(i:Int))∨(r = .pg (Bm n)∧n<=256)):=by
 have hM:=hI.may;have hra:=fR hM hA;cases h with
 | size _ he=>exact absurd h0 he
 | range=>simp at h0
 | fault _ _ _ _ _ he=>exact absurd h0 he
 | free _ _ _ _ _ _ _ he=>exact absurd h0 he
 | @stay z h he hc hn =>
   rw [Aj hM hA hm h] at hn;exact .inl ⟨rfl,hn⟩
 | @ok z v w h he hc hn hv DQ hu Rv =>
   have ez:=Aj hM hA hm h;subst ez;right;obtain ⟨r,h1,h2,YG,I0,lL⟩:=hv.step hI DQ;have U1:=YG.may;obtain ⟨to,eto⟩ : ∃ to,v.2.1=to:=⟨_,rfl⟩;simp only at hn hu ⊢;rw [eto] at h1 h2 hu ⊢;have DN:fq v.1 r to:=(h1.aw r to).2 (.inr ⟨rfl,rfl⟩)
   have haq:fq v.1 q a:=(h1.aw q a).2 (.inl ⟨hA,fun h=>h⟩)
   have bL:a≠to:=fun e=>h2 q (e ▸ hA)
   have W1:n<=jo s r:=by
    rcases lL with ⟨i,rfl,W2,hi⟩|⟨rfl,Pq⟩
    ·exact hz i W2 hi
    ·exact Cm Pq
   have er:=h1.ext r;have eq':=h1.ext q;have hrt:=fR U1 DN;have hap:=Ae U1 haq DN bL;have hlen:=U1.words;have rH:=YG.cV.small;have U2:Bn v.1.Words to a (jo s q)=sw v.1.Words to.toNat a.toNat (jo s q).toNat:=O1 (by omega) (by omega) (by omega) (by omega) (by omega)
   have S8:=wA (l:=v.1.Words) (t:=to.toNat) (f:=a.toNat) (k:=(jo s q).toNat) (by omega) (by omega);have iu:=Ka (l:=v.1.Words) (t:=to.toNat) (f:=a.toNat) (k:=(jo s q).toNat) (by omega) (by omega)
   obtain ⟨YH,ht⟩:=Ai U1 DN (ws:=Bn v.1.Words to a (jo s q)) (by rw [U2];omega) (fun b hb Sp=>by
    rw [U2,iu];rcases adA b.toNat to.toNat with g|g
    ·rw [if_pos g]
    ·rw [if_neg (by omega),if_neg (by omega)])
   have P4:dI (Fc v.1 to a (jo s q)):=⟨jd YH ⟨by simp only [Fc];rw [U2,S8];exact rH.words,rH.heap,rH.br,rH.each⟩,YH⟩
   obtain ⟨h3,hI3⟩:=hu.step P4 Rv;have RE:=(h1.trans ht).trans h3;have aaF:fq w.1 r to:=(RE.aw r to).2 (.inr (.inl ⟨.inr ⟨rfl,rfl⟩,fun e=>bL e.symm⟩)) |> fun h=>h
   refine ⟨r,⟨fun p z => ?_,fun p z h hx => ?_,RE.shape,RE.cpus⟩,hI3,W1,I0,h2,?_,lL⟩
   ·rw [RE.aw];simp only [qY,wF,false_or,or_false];constructor
    ·rintro (⟨h,hx⟩|⟨⟨⟨h,hx⟩|h,py⟩⟩)
     ·exact .inl ⟨h,fun e=>hx (.inr e)⟩
     ·exact absurd h.2 hx
     ·exact .inr h
    ·rintro (⟨h,hx⟩|⟨rfl,rfl⟩)
     ·refine .inl ⟨h,fun e => ?_⟩;rcases e with e|e
      ·subst e;exact h2 p h
      ·exact hx e
     ·exact .inr ⟨.inr ⟨rfl,rfl⟩,fun e=>bL e.symm⟩
   ·refine RE.words p z h fun e => ?_
    rcases e with (e|e)|e
    ·exact e
    ·subst e;exact h2 p h
    ·exact hx e
   ·have e1:=h3.words r to ((ht.aw r to).2 (.inr ⟨rfl,rfl⟩)) (fun e=>bL e.symm);rw [e1];show (Bn v.1.Words to a (jo s q))[to.toNat]?=_
    rw [U2,iu,if_neg (by omega),if_pos (by omega),ae6,aeM];exact h1.words q a hA fun h=>h
theorem Hl (hM:aB s) (hi:i<s.aa.length) : aB (bH s i (s.Heap,jI s.aa[i]))∧eK s (bH s i (s.Heap,jI s.aa[i])) qY wF:=by
 have hC:=(hM.each i hi).may;have z9:oP (jI s.aa[i])=oP s.aa[i]:=rfl
 refine ⟨sy hM hi hM.words hM.heap rfl rfl rfl ?_ (fun c hc Ua => ?_) (by simp only [bH];rw [gD hi z9];exact jc.1 fun j hj=>(hM.each j hj).aD),?_⟩
 ·refine ⟨hC.lay,hC.names,by simp only [jI,List.length_replicate];exact hC.aZ,fun k hk=>⟨(hC.aD k hk).live,(hC.aD k hk).next,(hC.aD k hk).chain⟩,fun k hk => ?_⟩;left;simp [jI]
 ·obtain ⟨j,hj,_,rfl⟩:=Ua;exact (hM.each j hj).may.same rfl rfl
 ·refine (sA (t:=bH s i (s.Heap,jI s.aa[i])) (x:=qY) (y:=fun _=>False) (c':=jI s.aa[i]) hM hi rfl rfl rfl rfl (fun a => ?_) (fun a h=>h.elim) (fun j hj bL a=>Iff.rfl) (Ag (t:=bH s i (s.Heap,jI s.aa[i])) hM.heap.live rfl (gD hi z9)) (fun _ _ _ _=>rfl)).congr (fun a=>Iff.rfl) (fun q a=>by simp [wF]);simp only [qY,not_false_iff,and_true,or_false];exact Iff.rfl
theorem nz:∀ (k:Nat) (h:Heap) (c:aQ),(∀ j x,k<=j->c.ab[j]?=some x->x.aj≠c.bK) -> ∀ x∈(dM k (h,c)).2.ab,x.aj≠c.bK
 | 0,h,c,hk,x,hx=>by
   obtain ⟨j,hj,rfl⟩:=ac1 hx;exact hk j _ (adO _) (ac7 hj)
 | k+1,h,c,hk,x,hx=>by
   by_cases hl:k<c.ab.length
   ·by_cases e:c.ab[k].aj=c.bK
    ·rw [sq hl e] at hx;refine nz k _ (eH c k) (fun j y hj hy => ?_) x hx;simp only [eH] at hy ⊢;rw [List.getElem?_eraseIdx_of_ge hj] at hy;exact hk (j+1) y (by omega) hy
    ·rw [qL hl e] at hx;refine nz k _ c (fun j y hj hy => ?_) x hx;by_cases e2:j=k
     ·subst e2;rw [ac7 hl] at hy;injection hy with hy
      rw [<- hy];exact e
     ·exact hk j y (by omega) hy
   ·have e:dM (k+1) (h,c)=dM k (h,c):=by simp only [dM,hl,dite_false]
    rw [e] at hx;refine nz k _ c (fun j y hj hy => ?_) x hx;rw [adP (by omega)] at hy;cases hy
theorem nA:∀ (k:Nat) {s:ah} {i:Nat} {c:aQ},aB s->s.aa[i]?=some c->(∀ x∈c.ao,x = -1)->aB (bH s i (dM k (s.Heap,c)))∧eK s (bH s i (dM k (s.Heap,c))) qY wF
 | 0,s,i,c,hM,hc,ha=>by
   obtain ⟨hi,rfl⟩:=ads.1 hc;have e:bH s i (dM 0 (s.Heap,s.aa[i]))=s:=by simp only [dM,bH,List.set_getElem_self]
   rw [e];exact ⟨hM,.refl s⟩
 | k+1,s,i,c,hM,hc,ha=>by
   obtain ⟨hi,rfl⟩:=ads.1 hc;by_cases hl:k<s.aa[i].ab.length
   ·by_cases e:s.aa[i].ab[k].aj=s.aa[i].bK
    ·have qj:(0:Int)<=0∧0<s.Heap.bG:=by have:=hM.heap.cpus;omega
     have hA:s.aa[i].ab[k].At∉s.aa[i].ao:=fun h=>by
      have h1:=ha _ h;obtain ⟨b,hb,e1⟩:=nH hM (ac0 hi) (ac0 hl);have:=(hM.heap.live.all b hb).2.1
      omega
     have h1:=(IJ hM hi hl hA (cpu:=0) qj).2;have h2:=Fl hM hi hl e (cpu:=0) qj;rw [sq hl e];have h3:=nA k (s:=⟨s.Words,(fa s.Heap 0 s.aa[i].ab[k].At).2,s.aa.set i (eH s.aa[i] k)⟩) (i:=i) (c:=eH s.aa[i] k) h1 (ad5 hi) ha;simp only [bH,List.set_set] at h3 ⊢;exact ⟨h3.1,(h2.trans h3.2).congr (fun a=>by simp [qY]) (fun q a=>by simp [qY,wF])⟩
    ·rw [qL hl e];exact nA k hM hc ha
   ·have e:dM (k+1) (s.Heap,s.aa[i])=dM k (s.Heap,s.aa[i]):=by simp only [dM,hl,dite_false]
    rw [e];exact nA k hM hc ha
theorem xn (hI:dI s) (h0:(iF s n).2=0) : eK s (iF s n).1 qY wF∧dI (iF s n).1 ∧ ∃ i:Nat,∃ hi:i<s.aa.length,idxOf (dO n) s.aa=(i:Int) ∧ ∀ c,(iF s n).1.aa[i]?=some c -> ∀ x∈c.ab,x.aj≠s.aa[i].bK:=by
 have hM:=hI.may;by_cases h:iO s n 0=0
 ·obtain ⟨_,ht,_⟩:=mo h;obtain ⟨i,hi,_,_,rG⟩:=j1 ht;rw [zZ h hi rG];obtain ⟨h1,h2⟩:=Hl hM hi;have h3:=nA s.aa[i].ab.length (s:=bH s i (s.Heap,jI s.aa[i])) (i:=i) (c:=jI s.aa[i]) h1 (by simp only [bH];exact ad5 hi) (fun x hx=>by simp only [jI] at hx;exact List.eq_of_mem_replicate hx);have lP:=qM s.aa[i].ab.length (p:=(s.Heap,jI s.aa[i])) hI.cV.lP (hI.cV.Sg hi).idle;have rH:=xe hI.cV.small i lP.1 lP.2;simp only [bH,List.set_set] at h3 rH ⊢;refine ⟨(h2.trans h3.2).congr (fun a=>by simp [qY]) (fun q a=>by simp [qY,wF]),⟨jd h3.1 rH,h3.1⟩,i,hi,rG,fun c hc x hx => ?_⟩;rw [ad5 hi] at hc;injection hc with hc
  subst hc;exact nz s.aa[i].ab.length s.Heap (jI s.aa[i]) (fun j y hj hy=>by simp only [jI] at hy;rw [adP hj] at hy;cases hy) x hx
 ·rw [z6 h] at h0;exact absurd h0 h
theorem O2 (hM:aB s) {cpu:Nat} (hi:i<s.aa.length) (pW:cpu<s.aa[i].ao.length) {m:Option Mk×Int} (hm:rA s s.aa[i] cpu m) : pj s (vn s.aa[i]) cpu (lR s i cpu m)∧idxOf (dO (vn s.aa[i])) s.aa=(i:Int):=by
 have hC:=(hM.each i hi).may;have h3:=hC.names;have hn:vn s.aa[i]∈s.aa[i].Names:=by simp [vn,h3]
 have RF:=Ac hM hi hn;refine ⟨.DS (Mf (nX hM) ?_ ?_) RF hi hm,RF⟩
 ·rw [ade];exact ⟨_,ac0 hi,jz.2 hn⟩
 ·have:=hC.aZ
  omega
theorem oa.step {cpu:Nat} {l:List Int} {u:ah×List Int×Int} (h:oa i cpu k s l u) : dI s->(∀ hi:i<s.aa.length,cpu<s.aa[i].ao.length)->u.2.2=0 ->
 ∃ m:List Int,u.2.1=l++m∧m.Nodup∧m.length=k∧(∀ a∈m,∀ q,¬ fq s q a)∧eK s u.1 qY (fun q a=>q = .obj i∧a∈m)∧dI u.1:=by
 induction h with
 | @done s l=>exact fun hI _ _=>⟨[],by simp,by simp,rfl,by simp,(eK.refl s).congr (fun a=>Iff.rfl) (fun q a=>by simp [wF]),hI⟩
 | bad hi hm h =>
   intro hI hc h0;exfalso;cases hm with
   | uw|new=>cases h
   | room _ _ he=>exact he h0
   | chain=>cases h0
 | @more k s l M u hi hm h ih =>
   intro hI hc h0;obtain ⟨hO,RF⟩:=O2 hI.may hi (hc hi) hm;obtain ⟨j,ej,h1,h2⟩:=hO.step hI rfl;have hK:=hO.IK hI rfl;obtain rfl:i=j:=by omega
   have eg:lR s i cpu (some M,0)=(uc s i cpu M,(ig M.c M.k).cf,0):=rfl
   rw [eg] at h1 h2 hK;simp only at h1 h2 hK
   have gQ:∀ nO:i<(uc s i cpu M).aa.length,cpu<(uc s i cpu M).aa[i].ao.length:=fun nO=>by
    have e:((uc s i cpu M).aa[i].ao.length:Int)=(uc s i cpu M).Heap.bG:=(hK.may.each i nO).may.aZ
    have e2:=(hI.may.each i hi).may.aZ;have:=hc hi
    have e3:=h1.cpus;omega
   obtain ⟨m,e1,e2,e3,e4,e5,e6⟩:=ih hK gQ h0;refine ⟨(ig M.c M.k).cf::m,by rw [e1];simp,ad1.2 ⟨fun hm=>e4 _ hm (.obj i) ((h1.aw _ _).2 (.inr ⟨rfl,rfl⟩)),e2⟩,by simp [e3],fun a ha q hq => ?_,?_,e6⟩
   ·rcases ad4.1 ha with rfl|ha
    ·exact h2 q hq
    ·exact e4 a ha q ((h1.aw q a).2 (.inl ⟨hq,fun h=>h⟩))
   ·refine (h1.trans e5).congr (fun a=>by simp [qY]) (fun q a => ?_);simp only [qY,not_false_iff,and_true,List.mem_cons];constructor
    ·rintro (⟨h,h'⟩|⟨h,h'⟩)
     ·exact ⟨h,.inl h'⟩
     ·exact ⟨h,.inr h'⟩
    ·rintro ⟨h,h'|h'⟩
     ·exact .inl ⟨h,h'⟩
     ·exact .inr ⟨h,h'⟩
theorem oc.step {many:Int} {u:ah×List Int×Int} (hI:dI s) (h:oc s n cpu many u) (h0:u.2.2=0) :
 ∃ i:Nat,idxOf (dO n) s.aa=(i:Int)∧u.2.1.Nodup∧(u.2.1.length:Int)=many∧(∀ a∈u.2.1,∀ q,¬ fq s q a)∧eK s u.1 qY (fun q a=>q = .obj i∧a∈u.2.1)∧dI u.1:=by
 cases h with
 | ask h=>exact absurd h0 h
 | range=>simp at h0
 | @DS i _ h hm e hr =>
   obtain ⟨_,_,qj⟩:=mo h;obtain ⟨m,e1,e2,e3,e4,e5,e6⟩:=hr.step hI (fun hi=>by have:=(hI.may.each i hi).may.aZ;omega) h0;rw [adV] at e1;rw [e1];exact ⟨i,e,e2,by omega,e4,e5,e6⟩
end Go.Proofs.YtohigmjjbgpfmaaGreatDoor
