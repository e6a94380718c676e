/- Part 11 of what topWords_holds leans on. -/
import Derived.Test.YtohigmjjbgpfmaaGreatDoorPackTopWords10
set_option linter.unusedVariables false
set_option linter.unusedSimpArgs false
set_option linter.defProp false
open Go.Proofs.Tryz
namespace Go.Proofs.YtohigmjjbgpfmaaGreatDoor
open Go.RowKit
variable {a cpu:Int} {c:aQ} {s:ah} {i j:Nat} {q:Src}
def RG (l:List (List ByteArray×Int)) : Prop := ∀ j,j<6 -> ∃ p∈l,tq p.1 (gx (kP j))=true∧p.2=kP j
def mX (s:ah) : Prop:=RG (kk s)
theorem mX.kk {t:ah} (h:mX s) (e:kk t=kk s) : mX t:=by unfold mX;rw [e];exact h
theorem mX.at_ (hM:aB s) (h:mX s) (hj:j<6) : ∃ i:Nat,idxOf (dO (gx (kP j))) s.aa=(i:Int)∧oV s i=kP j:=by
 obtain ⟨p,hp,h1,h2⟩:=h j hj;obtain ⟨c,hc,rfl⟩:=adk.1 hp;obtain ⟨i,hi,rfl⟩:=ac1 hc;exact ⟨i,Ac hM hi (jz.1 h1),by simp only [oV,List.getElem?_eq_getElem hi,Option.map_some,Option.getD_some];exact h2⟩
theorem O3:kP 0=1∧kP 1=2∧kP 2=4∧kP 3=8∧kP 4=16∧kP 5=32:=by decide
theorem Hm (hM:aB s) (h:mX s) {n:Int} (hn:n<=32) : ∃ i:Nat,idxOf (dO (ji n)) s.aa=(i:Int)∧n<=oV s i:=by
 have key:∃ j,j<6∧ji n=gx (kP j)∧n<=kP j:=by
  obtain ⟨e0,e1,e2,e3,e4,e5⟩:=O3;unfold ji;split
  ·exact ⟨0,by omega,by rw [e0],by omega⟩
  split
  ·exact ⟨1,by omega,by rw [e1],by omega⟩
  split
  ·exact ⟨2,by omega,by rw [e2],by omega⟩
  split
  ·exact ⟨3,by omega,by rw [e3],by omega⟩
  split
  ·exact ⟨4,by omega,by rw [e4],by omega⟩
  ·exact ⟨5,by omega,by rw [e5],by omega⟩
 obtain ⟨j,hj,e,hle⟩:=key;obtain ⟨i,h1,h2⟩:=h.at_ hM hj;exact ⟨i,by rw [e];exact h1,by omega⟩
theorem Cn {u:Int×Int×Int} (h:iy s a u) (h0:u.2.2=0) : ∃ i:Nat,∃ hi:i<s.aa.length,u.1=(i:Int)∧fq s (.obj i) a:=by
 cases h with
 | bad|none|free=>simp at h0
 | @hit i k out h hF hC hm =>
   have ho:=hF.obj;rw [pS hF.hi hF.hk] at ho;exact ⟨i,hF.hi,rfl,(iQ hF.hi).2 ⟨_,ac0 hF.hk,ho,out,hC,hm⟩⟩
theorem Kd (h:qS s a (some i)) : ∃ hi:i<s.aa.length,fq s (.obj i) a∧oR s.aa[i]=true:=by
 cases h with
 | yes hF hi hm =>
   obtain ⟨j,hj,e,hL⟩:=Cn hF rfl;obtain rfl:i=j:=by simp only at e;omega
   exact ⟨hi,hL,hm⟩
theorem Hn {z:Int×Int} (hM:aB s) (h:jE s a z) (h0:z.2=0) : ∃ q,fq s q a∧(∀ i (hi:i<s.aa.length),q = .obj i->oR s.aa[i]=true):=by
 cases h with
 | bad=>simp at h0
 | no=>simp at h0
 | obj _ hi ho =>
   obtain ⟨_,h1,h2⟩:=Kd ho;exact ⟨_,h1,fun j hj e=>by injection e with e;subst e;exact h2⟩
 | whole _ _ hw=>exact ⟨.pg _,⟨hw,rfl⟩,fun j hj e=>by cases e⟩
theorem MX {b:Int} (h : 0<=a) (hb : 0<b) : a % b<=a:=by
 have h1:=aeg a b;have h2:=aeB (show 0<=b by omega) (afa h (show 0<=b by omega));omega
theorem Ak (hc:c∈s.aa) : ∃ i,∃ hi:i<s.aa.length,s.aa[i]=c:=ac1 hc
theorem Fo (hM:aB s) (h:gb s a true) : ∃ q b,fq s q b∧b<=a∧a<b+jo s q:=by
 generalize e:true=t at h
 cases h with
 | out=>cases e
 | @pi c x u hr hc hx cQ hF =>
   have h0:u.2.2=0:=of_decide_eq_true e.symm
   obtain ⟨i,hi,_,hL⟩:=Cn hF h0;obtain ⟨j,hj,rfl⟩:=Ak hc;have hl:=cd (hM.each j hj).may.lay;unfold kR at cQ;have m1:=afe (a-x.At*16) (show s.aa[j].aA≠0 by omega);have m2:=aeU (a-x.At*16) (show 0<s.aa[j].aA by omega);have m3:=MX (a:=a-x.At*16) (b:=s.aa[j].aA) (by omega) (by omega);refine ⟨.obj i,_,hL,by omega,?_⟩;obtain ⟨d,hd⟩:=j7 hM hL;have d1:=hd.lo;have d2:=hd.hi;have d3:=hd.ext;obtain ⟨b0,C5,e1,e2⟩:=gC hM (ac0 hj) hx
   have kX:d.At=x.At:=by
    rcases Classical.em (d.At=x.At) with h|h
    ·exact h
    ·have:=gB hM.heap hd.mem C5 (by rw [e1];exact h)
     rw [e1,e2] at this;omega
   rcases hd.what with ⟨k,hk,ek,f1,f2,y,hy,f3⟩|⟨ek,_,_⟩
   ·injection ek with ek
    subst ek;obtain rfl:=ta hM hk hj hy hx (f3.trans kX);rw [f1];omega
   ·cases ek
 | bC hr hn =>
   unfold z8 at e;obtain ⟨b,hb,au⟩:=ade.1 e.symm;rw [adG,decide_eq_true_eq,decide_eq_true_eq] at au;have hl:=(hM.heap.live.all b hb).2.1;refine ⟨.pg b.Order,16*b.At,(j6 hM.heap.live).2 ⟨by omega,fun c hc x hx e1 => ?_,b,hb,by omega,rfl⟩,by omega,?_⟩
   ·obtain ⟨b0,C5,f1,f2⟩:=gC hM hc hx;have h1:=ij hM.heap.live hb;have h2:=ij hM.heap.live C5;have e3:b0.At=b.At:=by omega
    refine hn c hc x hx ?_;unfold kR;rw [<- f1,e3,<- f2,<- h2,e3,h1];omega
   ·simp only [jo];omega
theorem gb.dm (hM:aB s) {x y:Bool} (h:gb s a x) (k:gb s a y) : x=y:=by
 cases h with
 | out h=>cases k with
   | out=>rfl
   | pi h'|bC h'=>exact absurd h' h
 | @pi c x u h hc hx hi hF=>cases k with
   | out h'=>exact absurd h h'
   | @pi c' x' u' _ gQ py nO AN =>
     unfold kR at hi nO;obtain ⟨b,hb,e1,e2⟩:=gC hM hc hx;obtain ⟨d,hd,f1,f2⟩:=gC hM gQ py
     have kX:x.At=x'.At:=by
      rcases Classical.em (x.At=x'.At) with h|h
      ·exact h
      ·have:=gB hM.heap hb hd (by rw [e1,f1];exact h)
       rw [e1,e2,f1,f2] at this;omega
     obtain ⟨i,Q9,rfl⟩:=Ak hc;obtain ⟨j,YI,rfl⟩:=Ak gQ;obtain rfl:=ta hM Q9 YI hx py kX;rw [kX] at hF;rw [hF.dm AN]
   | bC _ hn=>exact absurd hi (hn c hc x hx)
 | bC h hn=>cases k with
   | out h'=>exact absurd h h'
   | pi _ hc hx hi=>exact absurd hi (hn _ hc _ hx)
   | bC=>rfl
theorem lS.dm (hM:aB s) {a:cJ} {u v:ah×Int×Int} (h:lS s a u) (k:lS s a v) : u=v:=by
 cases h with
 | no h=>cases k with
   | no=>rfl
   | read h'|range h'|write h'=>cases h.dm hM h'
 | read h hk=>cases k with
   | no h'=>cases h.dm hM h'
   | read=>rfl
   | range _ bW|write _ bW=>exact absurd hk bW
 | range h hk hm=>cases k with
   | no h'=>cases h.dm hM h'
   | read _ bW=>exact absurd bW hk
   | range=>rfl
   | write _ _ mP=>exact absurd mP hm
 | write h hk hm=>cases k with
   | no h'=>cases h.dm hM h'
   | read _ bW=>exact absurd bW hk
   | range _ _ mP=>exact absurd hm mP
   | write=>rfl
theorem wI (hI:dI s) {b m:Int} (hL:fq s q b) (h1:b<=a) (h2:a<b+jo s q) : dI ⟨s.Words.set a.toNat m,s.Heap,s.aa⟩∧eK s ⟨s.Words.set a.toNat m,s.Heap,s.aa⟩ (fun z=>z=b) (fun r z=>r=q∧z=b):=by
 have hM:=hI.may;have hr:=fR hM hL
 obtain ⟨h3,h4⟩:=Ai hM hL (ws:=s.Words.set a.toNat m) (by rw [adz];exact hM.words) (fun c hc hn=>by
  rw [ad7];omega)
 exact ⟨⟨jd h3 ⟨by simp only [List.length_set];exact hI.cV.small.words,hI.cV.small.heap,hI.cV.small.br,hI.cV.small.each⟩,h3⟩,h4⟩
theorem lS.jS (hI:dI s) {a:cJ} {u:ah×Int×Int} (h:lS s a u) : dI u.1∧kk u.1=kk s:=by
 cases h with
 | no|read|range=>exact ⟨hI,rfl⟩
 | write h =>
   obtain ⟨q,b,hL,h1,h2⟩:=Fo hI.may h;exact ⟨(wI hI hL h1 h2).1,rfl⟩
theorem nu.jS (hI:dI s) (hN:mX s) {n:Int} {u:ah×Int×Int} (h:nu s cpu a n u) (h0:u.2.2=0) : dI u.1∧kk u.1=kk s:=by
 have key:∃ z,jE s a z∧z.2=0:=by
  cases h with
  | size _ he=>exact absurd h0 he
  | range=>simp at h0
  | fault _ _ _ _ _ he=>exact absurd h0 he
  | free _ _ _ _ _ _ _ he=>exact absurd h0 he
  | stay h he=>exact ⟨_,h,he⟩
  | ok h he=>exact ⟨_,h,he⟩
 obtain ⟨z,hz,LI⟩:=key;obtain ⟨q,hL,hm⟩:=Hn hI.may hz LI
 rcases h.step hI hL hm (fun i hn hi=>by
  obtain ⟨j,h1,h2⟩:=Hm hI.may hN hn;obtain rfl:i=j:=by omega
  exact h2) h0 with ⟨rfl,_⟩|⟨r,h1,h2,_⟩
 ·exact ⟨hI,rfl⟩
 ·exact ⟨h2,h1.shape⟩
variable {α:Type} {n:ByteArray} {size:Int} {u:ah×Int}
theorem Ke {a b:ByteArray} (h:eA a b=false) (bL:a≠b) : eA b a=true:=by
 have:=Jg b a
 rw [h,decide_eq_false (fun e=>bL e.symm)] at this;simpa using this
theorem nodup_iff {acc l:List α} (ha:acc.Nodup) : (∀ (k:Nat) (h:k<l.length),l[k]∉acc++l.take k)↔(acc++l).Nodup:=by
 constructor
 ·intro h
  have key:∀ k,k<=l.length->(acc++l.take k).Nodup:=by
   intro k;induction k with
   | zero=>intro _;simpa using ha
   | succ k ih =>
     intro hk;rw [ac5 (by omega),<- ac6,adN];refine ⟨ih (by omega),by simp,fun a ha b hb => ?_⟩;simp only [List.mem_singleton] at hb;subst hb;exact fun e=>h k (by omega) (e ▸ ha)
  have:=key _ (ac3 _)
  rwa [adS] at this
 ·intro h k hk hm;have e:l=l.take k++l[k]::l.drop (k+1):=by simp
  have h':=h;rw [e,<- ac6,adN] at h';exact h'.2.2 _ hm _ List.mem_cons_self rfl
theorem xo:(∀ (i:Nat) (h:i<s.aa.length) (k:Nat) (hk:k<s.aa[i].Names.length),s.aa[i].Names[k]∉bl (s.aa.take i)++s.aa[i].Names.take k)↔(bl s.aa).Nodup:=by
 have step:∀ i (h:i<s.aa.length),bl (s.aa.take (i+1))=bl (s.aa.take i)++s.aa[i].Names:=fun i h=>by
  unfold bl;rw [ac5 h,adi];simp
 constructor
 ·intro h
  have key:∀ k,k<=s.aa.length->(bl (s.aa.take k)).Nodup:=by
   intro k;induction k with
   | zero=>intro _;simp [bl]
   | succ k ih =>
     intro hk;rw [step k (by omega)];exact (nodup_iff (ih (by omega))).1 (h k (by omega))
  have:=key _ (ac3 _)
  rwa [adS] at this
 ·intro h i hi
  have jw:∀ k,(bl (s.aa.take k)).Nodup:=fun k=>by
   have e:bl s.aa=bl (s.aa.take k)++bl (s.aa.drop k):=by
    unfold bl;rw [<- adi,ac4]
   rw [e,adN] at h;exact h.1
  refine (nodup_iff (jw i)).2 ?_;rw [<- step i hi];exact jw (i+1)
theorem IQ {cs:List aQ} (h:cs.any (dO n)=false) : n∉bl cs:=fun hm=>by
 unfold bl at hm;obtain ⟨c,hc,hn⟩:=adm.1 hm;have:cs.any (dO n)=true:=ade.2 ⟨c,hc,jz.2 hn⟩
 rw [h] at this;cases this
theorem ml (cs:List aQ) : bl cs=(cs.map fun c=>c.Names).flatten:=by unfold bl;rw [aeo]
theorem MY (hM:aB s) (hn:gn n=true) (ht:s.aa.any (dO n)=false) (hi:i<s.aa.length) : aB ⟨s.Words,s.Heap,s.aa.set i (dD s.aa[i] n)⟩:=by
 have hp:=u9 s.aa[i].Names n;have W3:=(hM.each i hi).names.nV;have AQ:=IQ ht;have se:n∉s.aa[i].Names:=fun h=>AQ (by unfold bl;exact adm.2 ⟨_,ac0 hi,h⟩)
 have T9:(bl (s.aa.set i (dD s.aa[i] n))).Nodup:=by
  have h0:=xo.1 fun j hj k hk=>((hM.each j hj).names.each k hk).2.1
  have e1:s.aa=s.aa.take i++s.aa[i]::s.aa.drop (i+1):=by simp
  have e2:s.aa.set i (dD s.aa[i] n)=s.aa.take i++dD s.aa[i] n::s.aa.drop (i+1):=by rw [adW,if_pos hi]
  have f1:bl s.aa=(bl (s.aa.take i)++s.aa[i].Names.take (mH s.aa[i].Names n))++(s.aa[i].Names.drop (mH s.aa[i].Names n)++bl (s.aa.drop (i+1))):=by
   conv=>lhs;rw [e1]
   rw [ml,ml,ml,adr,aei,aeb,aej];simp only [List.append_assoc];rw [<- ac6 (List.take _ _),ac4]
  have f2:bl (s.aa.set i (dD s.aa[i] n))=(bl (s.aa.take i)++s.aa[i].Names.take (mH s.aa[i].Names n))++n::(s.aa[i].Names.drop (mH s.aa[i].Names n)++bl (s.aa.drop (i+1))):=by
   rw [e2,ml,ml,ml,adr,aei,aeb,aej];simp only [dD,aM,List.append_assoc,List.cons_append,List.nil_append,List.singleton_append]
  rw [f2,List.perm_middle.nodup_iff,<- f1,ad1];exact ⟨AQ,h0⟩
 have iu:∀ (j:Nat) (hj:j<(s.aa.set i (dD s.aa[i] n)).length),(s.aa.set i (dD s.aa[i] n))[j]=if i=j then dD s.aa[i] n else s.aa[j]'(by simpa using hj):=fun j hj=>by rw [adq]
 have z9:oP (dD s.aa[i] n)=oP s.aa[i]:=rfl
 have yd:=jc (s:=⟨s.Words,s.Heap,s.aa.set i (dD s.aa[i] n)⟩).2 (by simp only;rw [gD hi z9];exact jc.1 fun j hj=>(hM.each j hj).aD);have hnn:=xo (s:=⟨s.Words,s.Heap,s.aa.set i (dD s.aa[i] n)⟩).2 T9;refine ⟨hM.words,hM.heap,by simp only [List.length_set];exact hM.most,fun j hj => ?_⟩;have o6:j<s.aa.length:=by simpa using hj
 have hC:=hM.each j o6;refine ⟨?_,fun k hk => ?_,⟨fun k hk=>⟨?_,hnn j hj k hk,?_⟩⟩,yd j hj⟩
 ·simp only [iu];split
  ·rename_i e;subst e;exact ⟨hC.may.lay,by simp only [dD];rw [de _ hp];omega,hC.may.aZ,fun k hk=>⟨(hC.may.aD k hk).live,(hC.may.aD k hk).next,(hC.may.aD k hk).chain⟩,hC.may.dq⟩
  ·exact hC.may.same rfl rfl
 ·have e:∀ (m:Nat) (hm:m<s.aa.length),((s.aa.set i (dD s.aa[i] n))[m]'(by simpa using hm)).aA=s.aa[m].aA:=fun m hm=>by
   rw [iu];split
   ·rename_i e;subst e;rfl
   ·rfl
  simp only;rw [e k (by omega),e j o6];exact hC.size k hk
 ·have key:∀ (c:aQ) (ec:c=if i=j then dD s.aa[i] n else s.aa[j]) (bW:k<c.Names.length),gn c.Names[k]=true:=fun c ec bW=>by
   have hm:=ac0 bW;subst ec;by_cases e:i=j
   ·subst e;simp only [if_true] at hm ⊢;rcases oW.1 hm with h|h
    ·rw [h];exact hn
    ·obtain ⟨q,hq,e2⟩:=ac1 h;have:=((hM.each i hi).names.each q hq).1
     rw [e2] at this;exact this
   ·simp only [if_neg e] at hm ⊢;exact (hC.names.each k (by simpa [e] using bW)).1
  exact key _ (iu j hj) _
 ·intro h0
  have key:∀ (c:aQ) (ec:c=if i=j then dD s.aa[i] n else s.aa[j]) (bW:k<c.Names.length),eA (c.Names[k-1]'(by omega)) c.Names[k]=true:=fun c ec bW=>by
   subst ec;by_cases e:i=j
   ·subst e;simp only [if_true] at bW ⊢;have Dc:k-1<(aM s.aa[i].Names (mH s.aa[i].Names n) n).length:=by have:k<(aM s.aa[i].Names (mH s.aa[i].Names n) n).length:=bW;omega
    show eA ((aM s.aa[i].Names (mH s.aa[i].Names n) n)[k-1]'Dc) ((aM s.aa[i].Names (mH s.aa[i].Names n) n)[k]'bW)=true
    rcases vt hp Dc with ⟨g,g1,e1⟩|⟨g1,e1⟩|⟨g,g1,e1⟩
    ·rcases vt hp bW with ⟨g',P5,KX⟩|⟨P5,KX⟩|⟨g',P5,KX⟩
     ·rw [e1,KX];exact W3 _ _ g g' (by omega)
     ·rw [e1,KX];exact Il g1 g
     ·omega
    ·rcases vt hp bW with ⟨g',P5,KX⟩|⟨P5,KX⟩|⟨g',P5,KX⟩
     ·omega
     ·omega
     ·rw [e1,KX];refine Ke (Ou W3 (by omega) g') fun e=>se (e ▸ ac0 g')
    ·rcases vt hp bW with ⟨g',P5,KX⟩|⟨P5,KX⟩|⟨g',P5,KX⟩
     ·omega
     ·omega
     ·rw [e1,KX];exact W3 _ _ g g' (by omega)
   ·simp only [if_neg e] at bW ⊢;exact (hC.names.each k bW).2.2 h0
  exact key _ (iu j hj) _
theorem Kf {z:Int} (h : 1<=z∧z<=64) : dl z=((dl z).1,(dl z).2.1,0):=by
 unfold dl;rw [if_pos h];split
 ·rfl
 ·split<;>rfl
theorem MZ (hM:aB s) (hn:gn n=true) (ht:s.aa.any (dO n)=false) {z:Int} (hz : 1<=z∧z<=64) (hd:∀ j (hj:j<s.aa.length),s.aa[j].aA≠z) (hl:s.aa.length<20) : aB ⟨s.Words,s.Heap,s.aa++[dP s n z]⟩:=by
 have qj:=hM.heap.cpus;have AQ:=IQ ht;refine ⟨hM.words,hM.heap,by simp only [List.length_append,List.length_singleton];omega,fun j hj => ?_⟩;simp only [List.length_append,List.length_singleton] at hj;have iu:∀ (k:Nat) (hk:k<s.aa.length),(s.aa++[dP s n z])[k]'(by simp;omega)=s.aa[k]:=fun k hk=>adT hk
 have GA:∀ k,k<=s.aa.length->(s.aa++[dP s n z]).take k=s.aa.take k:=fun k hk=>aes hk
 by_cases e:j<s.aa.length
 ·have hC:=hM.each j e;refine ⟨?_,fun k hk => ?_,?_,?_⟩
  ·simp only [iu j e];exact hC.may.same rfl rfl
  ·simp only [iu j e,iu k (by omega)];exact hC.size k hk
  ·simp only [iu j e,GA j (by omega)];exact hC.names
  ·simp only [iu j e,GA j (by omega)];exact hC.aD
 ·obtain rfl:j=s.aa.length:=by omega
  have vi:(s.aa++[dP s n z])[s.aa.length]'(by simp)=dP s n z:=by simp
  refine ⟨?_,fun k hk => ?_,?_,?_⟩
  ·simp only [vi];refine ⟨Kf hz,by simp [dP],?_,fun k hk=>by simp [dP] at hk,fun k hk => .inl (by simp [dP])⟩;simp only [dP,List.length_replicate];omega
  ·simp only [vi,iu k hk];exact hd k hk
  ·simp only [vi,GA _ (Nat.le_refl _),List.take_length];refine ⟨fun k hk => ?_⟩;simp only [dP,List.length_singleton] at hk;obtain rfl:k=0:=by omega
   exact ⟨hn,by simpa [dP] using AQ,fun h=>by omega⟩
  ·simp only [vi];intro k hk;simp [dP] at hk
theorem lx.jS (hI:dI s) {align:Int} (h:lx s n size align u) (h0:u.2=0) : dI u.1∧(mX s->mX u.1):=by
 have hM:=hI.may;have rH:=h.small hI.cV.small;cases h with
 | bad|form|range|gw|full=>simp at h0
 | @uw i _ hn hs ht hi hz ha =>
   have:=MY hM hn.1 ht hi
   refine ⟨⟨jd this rH,this⟩,fun hN j hj => ?_⟩;obtain ⟨p,hp,h1,h2⟩:=hN j hj;obtain ⟨c,hc,rfl⟩:=adk.1 hp;obtain ⟨k,hk,rfl⟩:=ac1 hc;by_cases e:k=i
   ·subst e;refine ⟨((dD s.aa[k] n).Names,(dD s.aa[k] n).aA),adk.2 ⟨dD s.aa[k] n,(eE hi).2 (.inl rfl),rfl⟩,?_,h2⟩;exact jz.2 (oW.2 (.inr (jz.1 h1)))
   ·exact ⟨_,adk.2 ⟨s.aa[k],(eE hi).2 (.inr ⟨k,hk,e,rfl⟩),rfl⟩,h1,h2⟩
 | new _ hn hs ht hz hc =>
   have hu:=Io hn.2 hs;have:=MZ hM hn.1 ht (z:=rz size align) (by omega) hz hc
   refine ⟨⟨jd this rH,this⟩,fun hN j hj => ?_⟩;obtain ⟨p,hp,h1,h2⟩:=hN j hj;obtain ⟨c,hc,rfl⟩:=adk.1 hp;exact ⟨_,adk.2 ⟨c,adC _ hc,rfl⟩,h1,h2⟩
variable {xs:List kz}
theorem oU.dm {a:cJ} {v:ah×Int} (h:oU s a u) (k:oU s a v) : u=v:=by
 cases h with
 | range h=>cases k with
   | range=>rfl
   | no h'|ok h'|fault h'=>exact absurd h' h
 | no h hw=>cases k with
   | range h'=>exact absurd h h'
   | no=>rfl
   | ok _ nC|fault _ nC=>rw [hw] at nC;cases nC
 | ok h hw he=>cases k with
   | range h'=>exact absurd h h'
   | no _ nC=>rw [hw] at nC;cases nC
   | ok=>rfl
   | fault _ _ gV=>exact absurd he gV
 | fault h hw he=>cases k with
   | range h'=>exact absurd h h'
   | no _ nC=>rw [hw] at nC;cases nC
   | ok _ _ gV=>exact absurd gV he
   | fault=>rfl
theorem cx.dm (hM:aB s) {a:cJ} {u v:ah×kz} (h:cx s a u) (k:cx s a v) : u=v:=by
 cases h with
 | bC hk h=>cases k with
   | bC _ h'=>rw [h.dm h']
   | nw bW|drain bW|fp bW|kA bW|oh bW|br bW|dX bW|word bW|Hd bW=>omega
 | nw hk h=>cases k with
   | nw _ h'=>rw [h.dm h']
   | bC bW|drain bW|fp bW|kA bW|oh bW|br bW|dX bW|word bW|Hd bW=>omega
 | drain hk=>cases k with
   | drain _=>rfl
   | bC bW|nw bW|fp bW|kA bW|oh bW|br bW|dX bW|word bW|Hd bW=>omega
 | fp hk h=>cases k with
   | fp _ h'=>rw [h.dm h']
   | bC bW|nw bW|drain bW|kA bW|oh bW|br bW|dX bW|word bW|Hd bW=>omega
 | kA hk h=>cases k with
   | kA _ h'=>rw [h.dm h']
   | bC bW|nw bW|drain bW|fp bW|oh bW|br bW|dX bW|word bW|Hd bW=>omega
 | oh hk h=>cases k with
   | oh _ h'=>rw [h.dm h']
   | bC bW|nw bW|drain bW|fp bW|kA bW|br bW|dX bW|word bW|Hd bW=>omega
 | br hk h=>cases k with
   | br _ h'=>rw [h.dm h']
   | bC bW|nw bW|drain bW|fp bW|kA bW|oh bW|dX bW|word bW|Hd bW=>omega
 | dX hk h=>cases k with
   | dX _ h'=>rw [h.dm h']
   | bC bW|nw bW|drain bW|fp bW|kA bW|oh bW|br bW|word bW|Hd bW=>omega
 | word hk h=>cases k with
   | word _ h'=>rw [h.dm hM h']
   | bC bW|nw bW|drain bW|fp bW|kA bW|oh bW|br bW|dX bW|Hd bW=>omega
 | Hd hk=>cases k with
   | Hd _=>rfl
   | bC bW|nw bW|drain bW|fp bW|kA bW|oh bW|br bW|dX bW|word bW=>omega
structure rC (s:ah) : Prop where
 sys:dI s
 named:mX s
theorem rC.kk {t:ah} (h:rC s) (hI:dI t) (e:kk t=kk s) : rC t:=⟨hI,h.named.kk e⟩
theorem rC.ok {t:ah} (h:rC s) {e:Int} (k:e=0->rC t) : rC (mW e s t):=by
 unfold mW;split
 ·exact k ‹_›
 ·exact h
theorem cx.jS {a:cJ} (h4:a.Kind≠4) {u:ah×kz} (hN:rC s) (h:cx s a u) : rC u.1:=by
 have hI:=hN.sys;have h':=h;cases h with
 | bC hk h=>exact hN.ok fun e=>hN.kk (Dx hI h e) rfl
 | nw hk h =>
   have:=xk hk s _ hI h'
   refine hN.ok fun e => ?_
   cases h with
   | range|no=>simp at e
   | fault _ _ he=>exact absurd e he
   | ok h hw he=>exact hN.kk this rfl
 | drain hk =>
   have:=qX hk s _ hI h'
   refine hN.ok fun e=>hN.kk ?_ rfl
   simp only [mW,if_pos e] at this;exact this
 | fp hk h =>
   refine hN.ok fun e => ?_
   obtain ⟨q,h1,_,h2,_⟩:=h.step hI e;exact hN.kk h2 h1.shape
 | kA hk h =>
   refine hN.ok fun e => ?_
   obtain ⟨h1,h2⟩:=h.step hI e;exact hN.kk h2 h1.shape
 | oh=>exact hN
 | Hd=>exact hN
 | dX hk h =>
   refine hN.ok fun e => ?_
   obtain ⟨h1,h2⟩:=h.jS hI hN.named e;exact hN.kk h1 h2
 | word hk h =>
   obtain ⟨h1,h2⟩:=h.jS hI;exact hN.ok fun e=>hN.kk h1 h2
 | br hk h =>
   cases h with
   | form bW|nv bW=>exact absurd bW h4
   | og _ h =>
     refine hN.ok fun e => ?_
     obtain ⟨h1,h2⟩:=h.jS hI e;exact ⟨h1,h2 hN.named⟩
   | new _ h =>
     refine hN.ok fun e => ?_
     obtain ⟨_,_,h1,_⟩:=h.step hI e;exact hN.kk (h.IK hI e) h1.shape
   | drop _ h =>
     refine hN.ok fun e => ?_
     exact hN.kk (h.jS hI e) (h.step hI e).1.shape
   | shrink =>
     refine hN.ok fun e => ?_
     obtain ⟨h1,h2,_⟩:=xn hI e;exact hN.kk h2 h1.shape
   | bulk _ h =>
     refine hN.ok fun e => ?_
     obtain ⟨_,_,_,_,_,h1,h2⟩:=h.step hI e;exact hN.kk h2 h1.shape
theorem xp {a:cJ} (h4:a.Kind≠4) : wC rC a:=fun s u hN h=>h.jS h4 hN
theorem jn.named {a:cJ} (h:jn dI a) : jn rC a:=fun r s lo w hO dz hN hS eY=>h r s lo w hO dz hN.sys hS eY
theorem lC.split {t:ah} {l m:List cJ} (h:lC s (l++m) xs t) : ∃ ys zs u,lC s l ys u∧lC u m zs t∧xs=ys++zs:=by
 generalize e:l++m=k at h
 induction h generalizing m with
 | nil =>
   obtain ⟨rfl,rfl⟩:=List.append_eq_nil_iff.1 e;exact ⟨[],[],_,.nil _,.nil _,rfl⟩
 | @snoc t l' xs a u h hu ih =>
   rcases aeK m with rfl|⟨m',b,rfl⟩
   ·rw [aeq] at e;subst e;exact ⟨_,[],_,.snoc h hu,.nil _,by simp⟩
   ·rw [List.concat_eq_append,<- ac6] at e;rw [List.concat_eq_append];obtain ⟨e1,e2⟩:=List.append_inj' e rfl;simp only [List.cons.injEq,and_true] at e2;subst e2;obtain ⟨ys,zs,v,k1,k2,rfl⟩:=ih e1;exact ⟨ys,zs++[u.2],_,k1,.snoc k2 hu,by simp⟩
theorem lC.dm {t t':ah} {l:List cJ} {ys:List kz} (h:lC s l xs t) (hN:rC s) (h4:∀ a∈l,a.Kind≠4) : lC s l ys t'->xs=ys∧t=t':=by
 induction h generalizing ys t' with
 | nil =>
   intro k;generalize e:([] : List cJ)=l at k
   cases k with
   | nil=>exact ⟨rfl,rfl⟩
   | snoc=>simp at e
 | snoc h hu ih =>
   intro k;obtain ⟨zs,v,w,k1,k2,rfl,rfl⟩:=k.T1;obtain ⟨rfl,rfl⟩:=ih (fun a ha=>h4 a (by simp [ha])) k1;have hNm:=h.jS (I:=rC) hN fun a ha=>xp (h4 a (by simp [ha]))
   rw [hu.dm hNm.sys.may k2];exact ⟨rfl,rfl⟩
structure bT where
 At:Int
 aA:Int
 Kind:Int
 Name:ByteArray
 Word:Int
 nb:Bool
def pr:ByteArray:=⟨#[111,98]⟩
def gf:ByteArray:=⟨#[112,97,105,114]⟩
def kT:List (List ByteArray×Int):=[([gx 1],1),([gx 2,gf],2),([gx 4],4),([gx 8],8),([gx 16],16),([gx 32],32),([pr],5)]
theorem Dy (s:ah) (n:ByteArray) : idxOf (dO n) s.aa=idxOf (fun p=>tq p.1 n) (kk s):=(mI (by simp [kk]) (fun k h1 h2=>by simp [kk,dO])).1
theorem IR (s:ah) (n:ByteArray) : s.aa.any (dO n)=(kk s).any fun p=>tq p.1 n:=(mI (by simp [kk]) (fun k h1 h2=>by simp [kk,dO])).2
def M0 (p:List ByteArray×Int) : Bool:=kL.any fun k=>tq p.1 (gx k)
theorem Al (hi:i<s.aa.length) : ∃ h:i<(kk s).length,oR s.aa[i]=M0 (kk s)[i]:=⟨by simpa [kk] using hi,by simp [kk,oR,M0,dO]⟩
def vw (s:ah) (q:Src) : Prop := ∀ i (hi:i<s.aa.length),q = .obj i->oR s.aa[i]=true
theorem Ud:∀ k,k<6->(kT[k]?.map M0)=some true
 | 0,_|1,_|2,_|3,_|4,_|5,_=>by decide +kernel
 | k+6,h=>by omega
theorem IS (h:kk s=kT) (hi:i<6) : vw s (.obj i):=fun j hj e=>by
 injection e with e
 subst e;obtain ⟨h1,h2⟩:=Al hj;rw [h2];have:(kk s)[i]=kT[i]'(by rw [<- h];exact h1):=by congr 1
 rw [this];have key:=Ud i hi;rw [ac7 (by simp only [kT,List.length_cons,List.length_nil];omega)] at key;injection key
theorem Fp (s:ah) (o:Int) : vw s (.pg o):=fun _ _ e=>by cases e
theorem vw.kk {t:ah} (h:vw s q) (e:kk t=kk s) : vw t q:=fun i hi eq=>by
 obtain ⟨h1,h2⟩:=Al hi
 have hl:i<s.aa.length:=by
  have:=congrArg List.length e
  simp only [Go.Proofs.YtohigmjjbgpfmaaGreatDoor.kk,List.length_map] at this;omega
 obtain ⟨h3,h4⟩:=Al hl;have h5:=h i hl eq;rw [h4] at h5;rw [h2,<- h5];congr 1
 simp only [e]
theorem wJ (h:kk s=kT) {n:Int} (hn:n<=32) : ∃ i:Nat,i<6∧idxOf (dO (ji n)) s.aa=(i:Int)∧n<=oV s i:=by
 rw [Dy,h];have hz:∀ i,oV s i=((kT[i]?).map fun p=>p.2).getD 0:=fun i=>by rw [td,h]
 unfold ji;split
 ·exact ⟨0,by omega,by decide +kernel,by rw [hz];simp only [kT];simpa using ‹n<=1›⟩
 split
 ·exact ⟨1,by omega,by decide +kernel,by rw [hz];simp only [kT];simpa using ‹n<=2›⟩
 split
 ·exact ⟨2,by omega,by decide +kernel,by rw [hz];simp only [kT];simpa using ‹n<=4›⟩
 split
 ·exact ⟨3,by omega,by decide +kernel,by rw [hz];simp only [kT];simpa using ‹n<=8›⟩
 split
 ·exact ⟨4,by omega,by decide +kernel,by rw [hz];simp only [kT];simpa using ‹n<=16›⟩
 ·exact ⟨5,by omega,by decide +kernel,by rw [hz];simp only [kT];simpa using hn⟩
structure Fits (s:ah) (t:bT) (q:Src) : Prop where
 rD:fq s q t.At
 size : 0<=t.aA∧t.aA<=jo s q
 kind:(t.Kind=1 ∧ ∃ o,q = .pg o)∨(t.Kind=8∧vw s q)∨(t.Kind=5∧((t.Name=pr∧q = .obj 6)∨(t.Name=gf∧q = .obj 1)))
 name:t.Kind≠5->t.Name=⟨#[]⟩
 word:t.nb=true->s.Words[t.At.toNat]?=some t.Word
structure Out (cp:Int) (s:ah) (l:List bT) : Prop where
 sys:dI s
 shape:kk s=kT
 cpus:s.Heap.bG=cp
 fits:∀ t∈l,∃ q,Fits s t q
 apart:(l.map fun t=>t.At).Nodup
 all:∀ q a,fq s q a -> ∃ t∈l,t.At=a
section
variable {cp:Int} {s t:ah} {x:Int->Prop} {y:Src->Int->Prop} {l:List bT}
theorem Fits.jS {z:bT} (h:Fits s z q) (k:eK s t x y) (hx : ¬ x z.At) : Fits t z q :=
 ⟨(k.aw q z.At).2 (.inl ⟨h.rD,hx⟩),by rw [k.ext];exact h.size,by
  rcases h.kind with h1|⟨h1,h2⟩|h1
  ·exact .inl h1
  ·exact .inr (.inl ⟨h1,h2.kk k.shape⟩)
  ·exact .inr (.inr h1),h.name,fun hw=>by rw [k.words q z.At h.rD hx];exact h.word hw⟩
theorem Out.same (h:Out cp s l) (k:eK s t qY wF) (hI:dI t) : Out cp t l :=
 ⟨hI,k.shape.trans h.shape,k.cpus.trans h.cpus,fun z hz=>by obtain ⟨q,hq⟩:=h.fits z hz;exact ⟨q,hq.jS k fun h=>h⟩,h.apart,fun q a ha=>by
  rcases (k.aw q a).1 ha with h1|h1
  ·exact h.all q a h1.1
  ·exact h1.elim⟩
theorem Out.more (h:Out cp s l) {z:bT} (k:eK s t qY (fun r a=>r=q∧a=z.At)) (hI:dI t) (hn:∀ r,¬ fq s r z.At) (hz : 0<=z.aA∧z.aA<=jo s q) (hk:(z.Kind=1 ∧ ∃ o,q = .pg o)∨(z.Kind=8∧vw s q)∨(z.Kind=5∧((z.Name=pr∧q = .obj 6)∨(z.Name=gf∧q = .obj 1)))) (hm:z.Kind≠5->z.Name=⟨#[]⟩) (hw:z.nb=false) : Out cp t (l++[z]):=by
 refine ⟨hI,k.shape.trans h.shape,k.cpus.trans h.cpus,fun u hu => ?_,?_,fun r a ha => ?_⟩
 ·rcases ac9.1 hu with hu|hu
  ·obtain ⟨r,hr⟩:=h.fits u hu;exact ⟨r,hr.jS k fun h=>h⟩
  ·simp only [List.mem_singleton] at hu;subst hu;refine ⟨q,(k.aw q u.At).2 (.inr ⟨rfl,rfl⟩),by rw [k.ext];exact hz,?_,hm,fun h=>by rw [hw] at h;cases h⟩;rcases hk with h1|⟨h1,h2⟩|h1
   ·exact .inl h1
   ·exact .inr (.inl ⟨h1,h2.kk k.shape⟩)
   ·exact .inr (.inr h1)
 ·rw [adr,adN];refine ⟨h.apart,by simp,fun a ha b hb e => ?_⟩;simp only [List.map_cons,List.map_nil,List.mem_singleton] at hb;obtain ⟨u,hu,rfl⟩:=adk.1 ha;obtain ⟨r,hr⟩:=h.fits u hu;exact hn r (by rw [<- hb,<- e];exact hr.rD)
 ·rcases (k.aw r a).1 ha with h1|⟨_,rfl⟩
  ·obtain ⟨u,hu,e⟩:=h.all r a h1.1;exact ⟨u,adC _ hu,e⟩
  ·exact ⟨z,by simp,rfl⟩
theorem vx (h:(l.map fun t=>t.At).Nodup) (hi:i<l.length) (hj:j<l.length) (bL:i≠j) : l[i].At≠l[j].At:=fun e=>by
 have:=ac8.1 h
 rcases aee bL with g|g
 ·exact this i j (by simpa using hi) (by simpa using hj) g (by simp [e])
 ·exact this j i (by simpa using hj) (by simpa using hi) g (by simp [e])
theorem Out.less (h:Out cp s l) (hi:i<l.length) (k:eK s t (fun a=>a=l[i].At) wF) (hI:dI t) : Out cp t (l.eraseIdx i):=by
 refine ⟨hI,k.shape.trans h.shape,k.cpus.trans h.cpus,fun u hu => ?_,?_,fun r a ha => ?_⟩
 ·obtain ⟨j,hj,js,rfl⟩:=mem_erase_iff.1 hu;obtain ⟨r,hr⟩:=h.fits _ (ac0 hj);exact ⟨r,hr.jS k (vx h.apart hj hi js)⟩
 ·exact List.Nodup.sublist (List.Sublist.map _ (adU _ _)) h.apart
 ·rcases (k.aw r a).1 ha with ⟨h1,h2⟩|h1
  ·obtain ⟨u,hu,e⟩:=h.all r a h1;obtain ⟨j,hj,rfl⟩:=ac1 hu;refine ⟨l[j],mem_erase_iff.2 ⟨j,hj,fun e' => ?_,rfl⟩,e⟩;subst e';exact h2 e.symm
  ·exact h1.elim
theorem Out.put (h:Out cp s l) (hi:i<l.length) {z:bT} (k:eK s t (fun a=>a=l[i].At) (fun r a=>r=q∧a=z.At)) (hI:dI t) (hn:z.At=l[i].At ∨ ∀ r,¬ fq s r z.At) (hf:Fits t z q) : Out cp t (l.set i z):=by
 have bL:∀ (j:Nat) (hj:j<l.length),j≠i->l[j].At≠z.At:=fun j hj js e=>by
  rcases hn with hn|hn
  ·exact vx h.apart hj hi js (e.trans hn)
  ·obtain ⟨r,hr⟩:=h.fits _ (ac0 hj);exact hn r (by rw [<- e];exact hr.rD)
 refine ⟨hI,k.shape.trans h.shape,k.cpus.trans h.cpus,fun u hu => ?_,?_,fun r a ha => ?_⟩
 ·rcases (eE hi).1 hu with rfl|⟨j,hj,js,rfl⟩
  ·exact ⟨q,hf⟩
  ·obtain ⟨r,hr⟩:=h.fits _ (ac0 hj);exact ⟨r,hr.jS k (vx h.apart hj hi js)⟩
 ·rw [aem];refine ac8.2 fun j m hj hm XN => ?_
  simp only [List.length_set,List.length_map] at hj hm;rw [adq,adq];by_cases e1:i=j
  ·subst e1;rw [if_pos rfl,if_neg (by omega),aen];exact fun e=>bL m hm (by omega) e.symm
  ·rw [if_neg e1];by_cases e2:i=m
   ·subst e2;rw [if_pos rfl,aen];exact bL j hj (by omega)
   ·rw [if_neg e2,aen,aen];exact vx h.apart hj hm (by omega)
 ·rcases (k.aw r a).1 ha with ⟨h1,h2⟩|⟨_,rfl⟩
  ·obtain ⟨u,hu,e⟩:=h.all r a h1;obtain ⟨j,hj,rfl⟩:=ac1 hu;refine ⟨l[j],(eE hi).2 (.inr ⟨j,hj,fun e' => ?_,rfl⟩),e⟩;subst e';exact h2 e.symm
  ·exact ⟨z,(eE hi).2 (.inl rfl),rfl⟩
theorem Out.many (h:Out cp s l) {m:List Int} (k:eK s t qY (fun r a=>r = .obj i∧a∈m)) (hI:dI t) (hd:m.Nodup) (hn:∀ a∈m,∀ r,¬ fq s r a) {z:Int} (hz : 0<=z∧z<=oV s i) (hk:(n=pr∧i=6)∨(n=gf∧i=1)) :
 Out cp t (l++m.map fun a=>⟨a,z,5,n,0,false⟩):=by
 refine ⟨hI,k.shape.trans h.shape,k.cpus.trans h.cpus,fun u hu => ?_,?_,fun r a ha => ?_⟩
 ·rcases ac9.1 hu with hu|hu
  ·obtain ⟨r,hr⟩:=h.fits u hu;exact ⟨r,hr.jS k fun h=>h⟩
  ·obtain ⟨a,ha,rfl⟩:=adk.1 hu;refine ⟨.obj i,(k.aw _ _).2 (.inr ⟨rfl,ha⟩),by rw [k.ext];exact hz,.inr (.inr ⟨rfl,?_⟩),fun h=>absurd rfl h,fun h=>by cases h⟩;rcases hk with ⟨rfl,rfl⟩|⟨rfl,rfl⟩
   ·exact .inl ⟨rfl,rfl⟩
   ·exact .inr ⟨rfl,rfl⟩
 ·rw [adr,ae8,adN]
  have e:m.map ((fun t:bT=>t.At) ∘ fun a=>⟨a,z,5,n,0,false⟩)=m:=by
   refine (List.map_congr_left (g:=id) fun a _=>rfl).trans (List.map_id m)
  rw [e];refine ⟨h.apart,hd,fun a ha b hb e => ?_⟩;obtain ⟨u,hu,rfl⟩:=adk.1 ha;obtain ⟨r,hr⟩:=h.fits u hu;exact hn b hb r (by rw [<- e];exact hr.rD)
 ·rcases (k.aw r a).1 ha with h1|⟨_,h1⟩
  ·obtain ⟨u,hu,e⟩:=h.all r a h1.1;exact ⟨u,adC _ hu,e⟩
  ·exact ⟨_,aev _ (adk.2 ⟨a,h1,rfl⟩),rfl⟩
end
section
variable {s:ah} {a:cJ} {u:ah×kz}
theorem cx.YJ (hk:a.Kind=1) (h:cx s a u) : ∃ v,cM s.Heap a.fV a.N a.Flags v∧u=(mW v.2.2 s (qT s v.1),⟨v.2.2,v.2.1,[]⟩):=by cases h<;>first|exact ⟨_,‹_›,rfl⟩|(exfalso;omega)
theorem cx.of2 (hk:a.Kind=2) (h:cx s a u) : ∃ v,oU s a v∧u=(mW v.2 s v.1,⟨v.2,0,[]⟩):=by cases h<;>first|exact ⟨_,‹_›,rfl⟩|(exfalso;omega)
theorem cx.of8 (hk:a.Kind=8) (h:cx s a u) : ∃ v,fc s a.fV a.N v∧u=(mW v.2.2 s v.1,⟨v.2.2,v.2.1,[]⟩):=by cases h<;>first|exact ⟨_,‹_›,rfl⟩|(exfalso;omega)
theorem cx.of9 (hk:a.Kind=9) (h:cx s a u) : ∃ v,kQ s a.fV a.At v∧u=(mW v.2 s v.1,⟨v.2,0,[]⟩):=by cases h<;>first|exact ⟨_,‹_›,rfl⟩|(exfalso;omega)
theorem cx.W4 (hk:a.Kind=11) (h:cx s a u) : ∃ v,nu s a.fV a.At a.N v∧u=(mW v.2.2 s v.1,⟨v.2.2,v.2.1,[]⟩):=by cases h<;>first|exact ⟨_,‹_›,rfl⟩|(exfalso;omega)
theorem cx.W5 (hk:a.Kind=12) (h:cx s a u) : u=(mW (kO s.Heap).1 s (qT s (kO s.Heap).2),⟨(kO s.Heap).1,0,[]⟩):=by cases h<;>first|rfl|(exfalso;omega)
theorem cx.W6 (hk:a.Kind=13∨a.Kind=14) (h:cx s a u) : ∃ v,lS s a v∧u=(mW v.2.2 s v.1,⟨v.2.2,v.2.1,[]⟩):=by cases h<;>first|exact ⟨_,‹_›,rfl⟩|(exfalso;omega)
theorem cx.Ue (hk:(3<=a.Kind∧a.Kind<=7)∨a.Kind=15) (h:cx s a u) : ∃ v,eX s a v∧u=(mW v.2.2.2 s v.1,⟨v.2.2.2,v.2.1,v.2.2.1⟩):=by cases h<;>first|exact ⟨_,‹_›,rfl⟩|(exfalso;omega)
theorem cx.YK (hk:a.Kind=3) (h:cx s a u) : ∃ v,lx s a.Name a.N a.M v∧u=(mW v.2 s v.1,⟨v.2,0,[]⟩):=by
 obtain ⟨v,hv,rfl⟩:=h.Ue (by omega);cases hv<;>first|exact ⟨_,‹_›,rfl⟩|(exfalso;omega)
theorem cx.of5 (hk:a.Kind=5) (h:cx s a u) : ∃ v,pj s a.Name a.fV v∧u=(mW v.2.2 s v.1,⟨v.2.2,v.2.1,[]⟩):=by
 obtain ⟨v,hv,rfl⟩:=h.Ue (by omega);cases hv<;>first|exact ⟨_,‹_›,rfl⟩|(exfalso;omega)
theorem cx.of6 (hk:a.Kind=6) (h:cx s a u) : ∃ v,qN s a.Name a.fV a.At v∧u=(mW v.2 s v.1,⟨v.2,0,[]⟩):=by
 obtain ⟨v,hv,rfl⟩:=h.Ue (by omega);cases hv<;>first|exact ⟨_,‹_›,rfl⟩|(exfalso;omega)
theorem cx.of7 (hk:a.Kind=7) (h:cx s a u) : u=(mW (iF s a.Name).2 s (iF s a.Name).1,⟨(iF s a.Name).2,0,[]⟩):=by
 obtain ⟨v,hv,rfl⟩:=h.Ue (by omega);cases hv<;>first|rfl|(exfalso;omega)
theorem cx.W7 (hk:a.Kind=15) (h:cx s a u) : ∃ v,oc s a.Name a.fV a.N v∧u=(mW v.2.2 s v.1,⟨v.2.2,0,v.2.1⟩):=by
 obtain ⟨v,hv,rfl⟩:=h.Ue (by omega);cases hv<;>first|exact ⟨_,‹_›,rfl⟩|(exfalso;omega)
theorem cx.fail (h:cx s a u) (h0:u.2.Code≠0) : u.1=s:=by
 cases h<;>first|rfl|exact if_neg h0
end
section
variable {cp:Int} {s:ah} {u:ah×kz} {l:List bT}
theorem ol {e:Int} (h:e=0) (s t:ah) : mW e s t=t:=if_pos h
theorem Uf (o:Int) : 0<=pw o:=by unfold pw;exact Int.le_of_lt (Int.pow_pos (by decide))
theorem fc.pos {c n:Int} {u:ah×Int×Int} (h:fc s c n u) (h0:u.2.2=0) : 1<=n:=by
 cases h with
 | bad|range|size=>simp at h0
 | obj _ hn _=>exact hn.1
 | fault _ hn _ _|bC _ hn _ _=>omega
theorem nu.pos {c n:Int} {u:ah×Int×Int} (h:nu s c a n u) (h0:u.2.2=0) : 1<=n:=by
 cases h with
 | size _ he=>exact absurd h0 he
 | range=>simp at h0
 | stay _ _ hc _=>exact hc.2
 | fault _ _ hc _ _ _=>exact hc.2
 | free _ _ hc _ _ _ _ _=>exact hc.2
 | ok _ _ hc _ _ _ _ _=>exact hc.2
theorem Dz (h:Out cp s l) {a:cJ} (hk:a.Kind=8) (hu:cx s a u) (h0:u.2.Code=0) : Out cp u.1 (l++[⟨u.2.N,a.N,8,⟨#[]⟩,0,false⟩]):=by
 obtain ⟨v,hv,rfl⟩:=hu.of8 hk;simp only at h0 ⊢;rw [ol h0];obtain ⟨q,h1,h2,h3,h4,h5⟩:=hv.step h.sys h0
 have hq:a.N<=jo s q∧vw s q:=by
  rcases h5 with ⟨i,rfl,hn,hi⟩|⟨rfl,hn⟩
  ·obtain ⟨j,hj,e1,e2⟩:=wJ h.shape hn;obtain rfl:i=j:=by omega
   exact ⟨e2,IS h.shape hj⟩
  ·exact ⟨Cm hn,Fp s _⟩
 exact h.more h1 h3 h2 ⟨by have:=hv.pos h0;simp only;omega,hq.1⟩ (.inr (.inl ⟨rfl,hq.2⟩)) (fun _=>rfl) rfl
theorem Ho (h:Out cp s l) {a:cJ} (hk:a.Kind=1) (hu:cx s a u) (h0:u.2.Code=0) : Out cp u.1 (l++[⟨u.2.N*16,16*pw a.N,1,⟨#[]⟩,0,false⟩]):=by
 obtain ⟨v,hv,rfl⟩:=hu.YJ hk;simp only at h0 ⊢;rw [ol h0];have h1:=Af h.sys.may hv h0;have h2:=fun q=>vv h.sys.may hv h0 q
 have e : 16*v.2.1=v.2.1*16:=by omega
 rw [e] at h1 h2;exact h.more h1 (Dx h.sys hv h0) h2 ⟨by have:=Uf a.N;simp only;omega,aeR _⟩ (.inl ⟨rfl,_,rfl⟩) (fun _=>rfl) rfl
theorem M1 (h:Out cp s l) : idxOf (dO pr) s.aa=(6:Int)∧oV s 6=5:=by
 rw [Dy,td,h.shape];exact ⟨by decide +kernel,by decide +kernel⟩
theorem M3 (h:Out cp s l) : idxOf (dO gf) s.aa=(1:Int)∧oV s 1=2:=by
 rw [Dy,td,h.shape];exact ⟨by decide +kernel,by decide +kernel⟩
def om (n:ByteArray) : Int:=if n=pr then 5 else if n=gf then 2 else 0
theorem O4:gf≠pr:=by decide +kernel
theorem M4 (h:Out cp s l) {a:cJ} (hk:a.Kind=5) (hn:a.Name=pr∨a.Name=gf) (hu:cx s a u) (h0:u.2.Code=0) : Out cp u.1 (l++[⟨u.2.N,om a.Name,5,a.Name,0,false⟩]):=by
 obtain ⟨v,hv,rfl⟩:=hu.of5 hk;simp only at h0 ⊢;rw [ol h0];obtain ⟨i,e,h1,h2⟩:=hv.step h.sys h0;have hI:=hv.IK h.sys h0;rcases hn with hn|hn
 ·rw [hn] at e ⊢;obtain ⟨e1,e2⟩:=M1 h;obtain rfl:i=6:=by omega
  exact h.more h1 hI h2 (by simp only [om,if_true,jo,e2];decide) (.inr (.inr ⟨rfl,.inl ⟨rfl,rfl⟩⟩)) (fun h=>absurd rfl h) rfl
 ·rw [hn] at e ⊢;obtain ⟨e1,e2⟩:=M3 h;obtain rfl:i=1:=by omega
  exact h.more h1 hI h2 (by simp only [om,if_neg O4,if_true,jo,e2];decide) (.inr (.inr ⟨rfl,.inr ⟨rfl,rfl⟩⟩)) (fun h=>absurd rfl h) rfl
theorem Kg (h:Out cp s l) {a:cJ} (hk:a.Kind=15) (hn:a.Name=pr) (hu:cx s a u) (h0:u.2.Code=0) : Out cp u.1 (l++u.2.L.map fun p=>⟨p,5,5,a.Name,0,false⟩)∧(u.2.L.length:Int)=a.N:=by
 obtain ⟨v,hv,rfl⟩:=hu.W7 hk;simp only at h0 ⊢;rw [ol h0];obtain ⟨i,e,h1,h2,h3,h4,h5⟩:=hv.step h.sys h0;rw [hn] at e ⊢;obtain ⟨e1,e2⟩:=M1 h;obtain rfl:i=6:=by omega
 exact ⟨h.many h4 h5 h1 h3 (by rw [e2];decide) (.inl ⟨rfl,rfl⟩),h2⟩
theorem Co (h:Out cp s l) {a:cJ} (hk:a.Kind=12∨a.Kind=7∨a.Kind=14) (hu:cx s a u) : Out cp u.1 l:=by
 by_cases h0:u.2.Code=0
 ·rcases hk with hk|hk|hk
  ·have:=hu.W5 hk
   subst this;simp only at h0 ⊢;rw [ol h0];have hI:=qX hk s _ h.sys (.drain hk);rw [ol h0] at hI;exact h.same (Hj h.sys.may) hI
  ·have:=hu.of7 hk
   subst this;simp only at h0 ⊢;rw [ol h0];obtain ⟨h1,h2,_⟩:=xn h.sys h0;exact h.same h1 h2
  ·obtain ⟨v,hv,rfl⟩:=hu.W6 (.inr hk);simp only at h0 ⊢;rw [ol h0];cases hv with
   | no=>simp at h0
   | read=>exact h
   | range=>simp at h0
   | write _ RH=>exact absurd hk RH
 ·rw [hu.fail h0];exact h
theorem wK (h:Out cp s l) (hi:i<l.length) {a:cJ} (hk:(a.Kind=9∨a.Kind=6)∧a.At=l[i].At∨a.Kind=2∧a.At*16=l[i].At) (hu:cx s a u) (h0:u.2.Code=0) : Out cp u.1 (l.eraseIdx i):=by
 rcases hk with ⟨hk|hk,e⟩|⟨hk,e⟩
 ·obtain ⟨v,hv,rfl⟩:=hu.of9 hk;simp only at h0 ⊢;rw [ol h0];obtain ⟨h1,h2⟩:=hv.step h.sys h0;rw [e] at h1;exact h.less hi h1 h2
 ·obtain ⟨v,hv,rfl⟩:=hu.of6 hk;simp only at h0 ⊢;rw [ol h0];have h1:=(hv.step h.sys h0).1;rw [e] at h1;exact h.less hi h1 (hv.jS h.sys h0)
 ·have hs:=xk hk s _ h.sys hu;obtain ⟨v,hv,rfl⟩:=hu.of2 hk;simp only at h0 hs ⊢;rw [ol h0] at hs ⊢;cases hv with
  | range|no=>simp at h0
  | fault _ _ he=>exact absurd h0 he
  | ok hr hw he =>
    have hm:=h.sys.may.heap;obtain ⟨hf,_,_⟩:=eW hw;rw [show a.At*16 / 16=a.At by omega] at hf;by_cases hc : 0<=a.fV∧a.fV<s.Heap.bG
    ·rw [nk (cn.2 hm) hc hf] at hs ⊢;have h1:=Cj h.sys.may hc hw;rw [e] at h1;exact h.less hi h1 hs
    ·rw [ye (cn.2 hm) hc] at he;exact absurd he (by simp)
theorem Kh (h:Out cp s l) (hi:i<l.length) {a:cJ} (hk:a.Kind=11) (ht:l[i].Kind=8) (e:a.At=l[i].At) (hu:cx s a u) (h0:u.2.Code=0) : Out cp u.1 (l.set i ⟨u.2.N,a.N,l[i].Kind,l[i].Name,l[i].Word,l[i].nb⟩):=by
 obtain ⟨v,hv,rfl⟩:=hu.W4 hk;simp only at h0 ⊢;rw [ol h0];obtain ⟨q,hq⟩:=h.fits _ (ac0 hi)
 have hm:vw s q:=by
  rcases hq.kind with ⟨h1,_⟩|⟨_,h2⟩|⟨h1,_⟩
  ·omega
  ·exact h2
  ·omega
 have kg : 0<=a.N:=by have:=hv.pos h0;omega
 rw [e] at hv
 rcases hv.step h.sys hq.rD hm (fun i hn hi=>by
  obtain ⟨j,_,e1,e2⟩:=wJ h.shape hn;obtain rfl:i=j:=by omega
  exact e2) h0 with ⟨rfl,hn⟩|⟨r,h1,h2,h3,h4,h5,h6,h7⟩
 ·simp only;have hr:=fR h.sys.may hq.rD;obtain ⟨_,hw⟩:=wI h.sys hq.rD (a:=l[i].At) (m:=s.Words.getD l[i].At.toNat 0) (aeR _) (by omega)
  have es:(⟨s.Words.set l[i].At.toNat (s.Words.getD l[i].At.toNat 0),s.Heap,s.aa⟩ : ah)=s:=by
   have eQ:l[i].At.toNat<s.Words.length:=by have:=h.sys.may.words;omega
   have:s.Words.getD l[i].At.toNat 0=s.Words[l[i].At.toNat]:=by simp [List.getD,eQ]
   rw [this,adK]
  rw [es] at hw;exact h.put hi (q:=q) (z:=⟨l[i].At,a.N,l[i].Kind,l[i].Name,l[i].Word,l[i].nb⟩) hw h.sys (.inl rfl) ⟨hq.rD,⟨kg,hn⟩,hq.kind,hq.name,hq.word⟩
 ·refine h.put hi (q:=r) h1 h2 (.inr h5) ⟨(h1.aw r v.2.1).2 (.inr ⟨rfl,rfl⟩),by rw [h1.ext];exact ⟨kg,h3⟩,.inr (.inl ⟨ht,?_⟩),hq.name,fun hw => ?_⟩
  ·rcases h7 with ⟨j,rfl,hn,hj⟩|⟨rfl,hn⟩
   ·obtain ⟨k,hk6,e1,e2⟩:=wJ h.shape hn;obtain rfl:j=k:=by omega
    exact (IS h.shape hk6).kk h1.shape
   ·exact Fp _ _
  ·simp only;rw [h6];exact hq.word hw
theorem Hp (h:Out cp s l) (hi:i<l.length) {a:cJ} (hk:a.Kind=13) (e:a.At=l[i].At) (hu:cx s a u) (h0:u.2.Code=0) : Out cp u.1 (l.set i ⟨l[i].At,l[i].aA,l[i].Kind,l[i].Name,a.M,true⟩):=by
 obtain ⟨v,hv,rfl⟩:=hu.W6 (.inl hk);simp only at h0 ⊢;rw [ol h0];obtain ⟨q,hq⟩:=h.fits _ (ac0 hi);have hr:=fR h.sys.may hq.rD;cases hv with
 | no=>simp at h0
 | range=>simp at h0
 | read _ RH=>omega
 | write hw bW hm =>
   simp only;rw [e];obtain ⟨h1,h2⟩:=wI h.sys hq.rD (a:=l[i].At) (m:=a.M) (aeR _) (by omega);refine h.put hi (q:=q) (z:=⟨l[i].At,l[i].aA,l[i].Kind,l[i].Name,a.M,true⟩) h2 h1 (.inl rfl) ⟨(h2.aw q _).2 (.inr ⟨rfl,rfl⟩),by rw [h2.ext];exact hq.size,?_,hq.name,fun _ => ?_⟩
   ·rcases hq.kind with h3|⟨h3,h4⟩|h3
    ·exact .inl h3
    ·exact .inr (.inl ⟨h3,h4.kk h2.shape⟩)
    ·exact .inr (.inr h3)
   ·simp only;rw [ad5 (by have:=h.sys.may.words;omega)]
end
theorem Fq (A:Option Addr) (n c:Nat) (l:List Region) (w:World) (hl:Sl w 2 iz A n l) (hn:n<=9223372036854775807) :
 bI prog 78 [.slice A n c] w fun v _=>v = .bool (eR l):=by
 refine aE func78 rfl ntmps78 rfl ?_;have hw:=Ext.refl w;have hA:=hl.base;have mv:=hl.len;repeat' (first|refine Wz ?_|(refine CW.uA rfl (fun h => ?_) (fun h => ?_)))
 ·refine ae.bj rfl rfl ⟨_,rfl,hw,?_⟩;rw [qu (fun h=>by have:=h.1;omega)]
 ·refine CW.loop (fun k:Nat=>[(0,.slice A n c),(8,.slice A n c),(9,.int .i64 (n:Int)),(10,.int .i64 (k:Int))]) (fun k w'=>k<=n∧Ext w w' ∧ ∀ (i:Nat) (h:i<l.length),i<k->(l[i]).ok ∧ ∀ (h0 : 0<i),(l[i-1]'(by omega)).aU+(l[i-1]'(by omega)).aA<(l[i]).aU)
   (fun k=>n-k) 0 ⟨rfl,rfl,rfl,rfl,trivial⟩ ⟨by omega,hw,fun i h hi=>by omega⟩ ?_
  clear hw;rintro k w' ⟨hk,hw,hI⟩
  by_cases gh:k<n
  ·have iw:=hl.lt gh;have gg:∀ {w1 w2:World} {b:Nat},Ext w w1->w.heap.size<=b->w1.grownBy w2 (some b)->Ext w w2:=fun h1 h2 hg=>aF h1 hg (ac3 _) (fun k e=>by cases e;exact h2)
   by_cases lP:(l[k]).ok
   ·by_cases AI:k=0
    ·subst AI;repeat' (first|refine Wz ?_|refine Wo hw ((hl.all gh)) ?_)
     refine SW.alloc rfl fun b w1 ai hb hB => ?_
     have DK:=hw.up hb
     have hw:=hw.trans ai;refine Wz ?_;refine SW.ag hB rfl rfl rfl rfl (im.one (enc:=iz) _) fun w2 qg hg => ?_
     have hw:=gg hw DK hg;repeat' (first|refine Wz ?_|((apply CW.bF mixed;(· kernel_rfl);rotate_left;intro w1 ai;obtain ⟨hw,qg⟩:=cX ai hw qg;clear ai;rotate_right))|refine SW.dF rfl rfl (fun w1 ai=>(rS lP _)) ?_|exact SW.eI rfl)
     refine ae.again (0+1) ⟨rfl,rfl,rfl,rfl,trivial⟩ (by omega) ⟨by omega,hw,fun i h hi => ?_⟩;obtain rfl:i=0:=by omega
     exact ⟨lP,fun h0=>by omega⟩
    ·obtain ⟨j,rfl⟩ : ∃ j,k=j+1:=⟨k-1,by omega⟩;have hj:j<n:=by omega
     have hp:=(hI j (hl.lt hj) (by omega)).1;by_cases eQ:(l[j]'(hl.lt hj)).aU+(l[j]'(hl.lt hj)).aA<(l[j+1]).aU
     all_goals
      repeat' (first|refine Wz ?_|refine Wo hw ((hl.all gh)) ?_)
      refine SW.alloc rfl fun b w1 ai hb hB => ?_
      have DK:=hw.up hb
      have hw:=hw.trans ai;refine Wz ?_;refine SW.ag hB rfl rfl rfl rfl (im.one (enc:=iz) _) fun w2 qg hg => ?_
      have hw:=gg hw DK hg;repeat' (first|refine Wz ?_|((apply CW.bF mixed;(· kernel_rfl);rotate_left;intro w1 ai;obtain ⟨hw,qg⟩:=cX ai hw qg;clear ai;rotate_right))|refine SW.st (cm (j) rfl rfl (by assumption) (by omega) (by omega)) rfl ?_|refine Wo hw ((hl.all hj)) ?_|refine SW.dF rfl rfl (fun w1 ai=>(rS lP _)) ?_|refine SW.dF rfl rfl (fun w1 ai=>(yU hp _)) ?_|exact SW.eI rfl)
     ·refine ae.again (j+1+1) ⟨rfl,rfl,rfl,rfl,trivial⟩ (by omega) ⟨by omega,hw,fun i h hi => ?_⟩;by_cases o9:i=j+1
      ·subst o9;exact ⟨lP,fun _=>eQ⟩
      ·exact hI i h (by omega)
     ·refine ae.bj rfl rfl ⟨_,rfl,hw,?_⟩;rw [qu (fun h=>eQ ((h.2 (j+1) iw).2 (by omega)))]
   ·repeat' (first|refine Wz ?_|refine Wo hw ((hl.all gh)) ?_)
    refine SW.alloc rfl fun b w1 ai hb hB => ?_
    have DK:=hw.up hb
    have hw:=hw.trans ai;refine Wz ?_;refine SW.ag hB rfl rfl rfl rfl (im.one (enc:=iz) _) fun w2 qg hg => ?_
    have hw:=gg hw DK hg;repeat' (first|refine Wz ?_|((apply CW.bF mixed;(· kernel_rfl);rotate_left;intro w1 ai;obtain ⟨hw,qg⟩:=cX ai hw qg;clear ai;rotate_right))|refine SW.dF rfl rfl (fun w1 ai=>(yT lP _)) ?_|exact SW.eI rfl)
    refine ae.bj rfl rfl ⟨_,rfl,hw,?_⟩;rw [qu (fun h=>lP (h.2 k iw).1)]
  ·refine Wz ?_;refine ae.bj rfl rfl ⟨_,rfl,hw,?_⟩;rw [lU ⟨by omega,fun i h=>hI i h (by omega)⟩]
def qa (A:Option Addr) (n c:Nat) (B:Option Addr) (m d:Nat) : List Value:=[.slice A n c,.slice B m d]
noncomputable def qb (x y:List Region) : Bool:=eR x && eR y
theorem Cp (A:Option Addr) (n c:Nat) (B:Option Addr) (m d:Nat) (x y:List Region) (w:World) (hx:Sl w 2 iz A n x) (hy:Sl w 2 iz B m y) (hn:n<=9223372036854775807) (hm:m<=9223372036854775807) :
 bI prog 41 [.agg (qa A n c B m d).toArray] w fun v _=>v = .int .i64 (if qb x y then 0 else 8):=by
 refine aE func41 rfl ntmps41 rfl ?_;refine CW.seq (CW.region (SW.box rfl rfl fun b w1 hw hb hB => ?_));obtain ⟨bx,YL⟩ : ∃ b,eR x=b:=⟨_,rfl⟩;obtain ⟨bY,YM⟩ : ∃ b,eR y=b:=⟨_,rfl⟩;have l1:∀ w',Ext w w'->bI prog 78 [.slice A n c] w' fun v _=>v = .bool bx:=fun w' h=>by have:=Fq A n c x w' (hx.ext h) hn;rwa [YL] at this
 have l2:∀ w',Ext w w'->bI prog 78 [.slice B m d] w' fun v _=>v = .bool bY:=fun w' h=>by have:=Fq B m d y w' (hy.ext h) hm;rwa [YM] at this
 cases bx<;>cases bY
 all_goals
  repeat' (first|refine Wz ?_|(first|refine CW.gj rfl ?_|refine CW.fU rfl ?_)|refine SW.want rfl rfl ?_|refine SW.skip rfl rfl rfl rfl ?_|((first|refine Wk (l1 _ hw) ?_|refine Wk (l2 _ hw) ?_);intro v w1 ai hv;subst hv;obtain ⟨hw,hB⟩:=cX ai hw hB;clear ai))
  refine ae.bj rfl rfl ⟨_,rfl,hw,?_⟩;simp [qb,YL,YM]
variable {k:Nat}
theorem Hq {l:List Region} (hk:k<l.length) (i:Int) : ew (l.take (k+1)) i=(ew (l.take k) i || (decide ((l[k]).aU<=i) && decide (i<(l[k]).aU+(l[k]).aA))):=by
 unfold ew;rw [ac5 hk,List.any_append];simp only [List.any_cons,List.any_nil,Bool.or_false]
theorem RI:marksOf (fun i=>ew [] i) 256=List.replicate 256 false:=by
 apply adR (by rw [Eb,ad3]);intro j h1 h2;rw [mC,List.getElem_replicate]
 rfl
theorem Am (A:Option Addr) (n c:Nat) (l:List Region) (w:World) (hl:Sl w 2 iz A n l) (lP:∀ r∈l,r.ok) (hn:n<=9223372036854775807) :
 bI prog 42 [.slice A n c] w fun v w' => ∃ B d,v = .slice B 256 d∧Own w' w.heap.size 4 1 tY B 256 d (marksOf (fun i=>ew l i) 256):=by
 refine aE func42 rfl ntmps42 rfl ?_;have hw:=Ext.refl w;have hA:=hl.base;refine Wz ?_;refine SW.make (enc:=tY) (k:=256) false rfl rfl rfl (by omega) (by omega) rfl fun B d w1 ai hS => ?_
 have dz:=hw.size;have hw:=hw.trans ai;have hS:=Own.low hS dz;have hBs:=hS.sl.base;refine Wz ?_
 refine CW.loop (fun k:Nat=>[(3,.slice B 256 d),(8,.slice A n c),(9,.int .i64 (n:Int)),(10,.int .i64 (k:Int))])
  (fun k w'=>k<=n∧Ext w w'∧Own w' w.heap.size 4 1 tY B 256 d (marksOf (fun i=>ew (l.take k) i) 256)) (fun k=>n-k) 0 ⟨rfl,rfl,rfl,rfl,trivial⟩ ⟨by omega,hw,by
    have e:marksOf (fun i=>ew (l.take 0) i) 256=List.replicate 256 false:=RI
    rw [e];exact hS⟩ ?_
 clear hw hS;rintro k w' ⟨hk,hw,hO⟩
 by_cases gh:k<n
 ·have iw:=hl.lt gh;have An:=lP (l[k]) (ac0 iw);obtain ⟨f,hf⟩:=ada An.1;obtain ⟨s,hs⟩:=ada (show 0<=(l[k]).aA by have:=An.2.1;omega);have aaP:=An.2.2.2;repeat' (first|refine Wz ?_|refine Wo hw ((hl.all gh)) ?_)
  refine SW.alloc rfl fun b w1 ai hb hB => ?_
  have DK:=hw.up hb
  obtain ⟨hw,hO⟩:=cX ai hw hO;skip;refine SW.ag hB rfl rfl rfl rfl (im.one (enc:=iz) _) fun w2 qg hg => ?_
  have hw:=hw.own DK hg;have hO:=hO.grown hg (.inr (hO.fb hB rfl));refine Wz ?_
  refine CW.loop (fun j:Nat=>[(3,.slice B 256 d),(5,.pointer (some ⟨b,0,none⟩)),(6,.int .i64 ((f+j:Nat) : Int)),(8,.slice A n c),(9,.int .i64 (n:Int)),(10,.int .i64 (k:Int))])
   (fun j w'=>j<=s∧Ext w w'∧aS w' b 82 (iz (l[k]))∧Own w' w.heap.size 4 1 tY B 256 d (marksOf (fun i=>ew (l.take k) i || (decide (f<=i) && decide (i<f+j))) 256)) (fun j=>s-j) 0
   ⟨rfl,rfl,by rw [hf];rfl,rfl,rfl,rfl,trivial⟩ ⟨by omega,hw,qg,by
    have e:marksOf (fun i=>ew (l.take k) i || (decide (f<=i) && decide (i<f+0))) 256=marksOf (fun i=>ew (l.take k) i) 256:=ir fun i _=>by
     have:(decide (f<=i) && decide (i<f+0))=false:=by
      rcases adA i f with h|h
      ·rw [decide_eq_false (by omega : ¬ f<=i)];rfl
      ·rw [decide_eq_false (by omega : ¬ i<f+0),Bool.and_false]
     rw [this,Bool.or_false]
    rw [e];exact hO⟩ ?_
  clear hw hO hB qg hg ai;rintro j w' ⟨hj,hw,qg,hO⟩
  by_cases UZ:j<s
  ·repeat' (first|refine Wz ?_|(refine Wk (yU An _) ?_;intro v w1 ai hv;subst hv;obtain ⟨hw,qg,hO⟩:=cj ai hw qg hO;clear ai))
   refine SW.gM (f+j) 0 true hO rfl rfl rfl (by omega) (by omega) (by rw [add_zero]) rfl fun w3 D4 hg => ?_
   have hw:=aF hw hg (ac3 _) hO.ba;have qg:=qg.grown hg (fun e=>hO.fb qg rfl e.symm);rw [rV] at D4;refine Wz ?_;refine ae.again (j+1) ⟨rfl,rfl,rfl,rfl,rfl,rfl,trivial⟩ (by omega) ⟨by omega,hw,qg,?_⟩
   have e:marksOf (fun i=>ew (l.take k) i || (decide (f<=i) && decide (i<f+(j+1)))) 256=marksOf (fun i=>if i=f+j then true else ew (l.take k) i || (decide (f<=i) && decide (i<f+j))) 256:=ir fun i _=>by
    by_cases hi:i=f+j
    ·subst hi;have h1:f<=f+j:=by omega
     have h2:f+j<f+(j+1):=by omega
     simp [h1,h2]
    ·have e2:decide (i<f+(j+1))=decide (i<f+j):=by rw [decide_eq_decide];omega
     simp [hi,e2]
   rw [e];exact D4
  ·obtain rfl:j=s:=by omega
   repeat' (first|refine Wz ?_|(refine Wk (yU An _) ?_;intro v w1 ai hv;subst hv;obtain ⟨hw,qg,hO⟩:=cj ai hw qg hO;clear ai))
   refine ae.again (k+1) ⟨rfl,rfl,rfl,rfl,trivial⟩ (by omega) ⟨by omega,hw,?_⟩
   have e:marksOf (fun i=>ew (l.take (k+1)) i) 256=marksOf (fun i=>ew (l.take k) i || (decide (f<=i) && decide (i<f+j))) 256:=ir fun i _=>by
    rw [Hq iw,hf,hs];have e1:decide (((f:Nat) : Int)<=(i:Int))=decide (f<=i):=by rw [decide_eq_decide];omega
    have e2:decide ((i:Int)<((f:Nat) : Int)+((j:Nat) : Int))=decide (i<f+j):=by rw [decide_eq_decide];omega
    rw [e1,e2]
   rw [e];exact hO
 ·refine Wz ?_;obtain rfl:k=n:=by omega
  refine ae.bj rfl rfl ⟨_,rfl,hw,B,d,rfl,?_⟩;rwa [adf (by have:=hl.len;omega)] at hO
variable {b:Nat} {t:TypeId} {w:World}
def IT (lo:Nat) (l:List Region) (v:Value) (w:World) : Prop := ∃ A c,v = .slice A l.length c∧Own w lo 82 2 iz A l.length c l
theorem aS.YN {r:Region} {vs:List Value} (h:aS w b t vs) (e:vs=iz r) : Sl w 2 iz (some ⟨b,0,none⟩) 1 [r]:=by subst e;exact aS.vF h
theorem DA (A:Option Addr) (c N:Nat) (hN:N=256) (p:Nat->Bool) (w:World) (hl:Sl w 1 tY A N (marksOf p N)) :
 bI prog 43 [.slice A N c] w (IT w.heap.size (runs p N)):=by
 refine aE func43 rfl ntmps43 rfl ?_;have hw:=Ext.refl w;have hA:=hl.base;have wS:∀ k,k<N->w.cell? ((A.getD default).add (k*1))=some (.bool (p k)):=fun k hk=>hl.one hk (by rw [mC];rfl)
 refine Wz ?_
 refine CW.loop (fun s:Nat×Option Addr×Nat=>[(3,.slice s.2.1 (runs p s.1).length s.2.2),(7,.slice A N c),(8,.int .i64 (N:Int)),(9,.int .i64 (s.1:Int))])
  (fun s w'=>s.1<=N∧Ext w w'∧Own w' w.heap.size 82 2 iz s.2.1 (runs p s.1).length s.2.2 (runs p s.1)) (fun s=>N-s.1) (0,none,0) ⟨rfl,rfl,rfl,rfl,trivial⟩ ⟨by omega,hw,Own.fv _ _ _ _ _ _⟩ ?_
 clear hw;rintro ⟨k,A1,c1⟩ w' ⟨hk,hw,hO⟩
 simp only at hk hO ⊢;have lP:=uQ p k;have hlen:=lP.len;by_cases gh:k<N
 ·obtain ⟨bk,Bs⟩ : ∃ b,p k=b:=⟨_,rfl⟩;have hc:=wS k gh;rw [Bs] at hc;cases bk
  ·have e:runs p (k+1)=runs p k:=by simp [runs,Bs]
   repeat' (first|refine Wz ?_|(refine CW.gj rfl ?_)|refine SW.st (mu hw rfl hc) rfl ?_)
   refine ae.again (k+1,A1,c1) ⟨by rw [e];rfl,rfl,rfl,rfl,trivial⟩ (by simp only;omega) ⟨by simp only;omega,hw,by simp only;rw [e];exact hO⟩
  ·by_cases hq : 0<k∧p (k-1)=true
   ·obtain ⟨init,r,hr,hre⟩:=lP.last hq.1 hq.2;have e:runs p (k+1)=init++[⟨r.aU,r.aA+1⟩]:=by simp [runs,Bs,hq,hr,oH]
    have yi:=lP.Pv r (by rw [hr];simp);have An:r.ok:=⟨yi.1,yi.2.1,by omega,by omega⟩
    rw [hr] at hO hlen ⊢;have rI:(init++[r]).length=init.length+1:=by simp
    rw [rI] at hO hlen;rw [rI];have oO:=hO.sl.base;have iu:(init++[r])[init.length]'(by simp)=r:=by simp
    have fe:=hO.sl.all (i:=init.length) (by omega);rw [iu] at fe;have U3:(init++[r]).set init.length ⟨r.aU,r.aA+1⟩=init++[⟨r.aU,r.aA+1⟩]:=by simp
    refine CW.seq ?_;repeat' (first|refine Wz ?_|(refine CW.fU rfl ?_)|refine SW.st (cm (init.length) rfl rfl (by assumption) (by omega) (by omega)) rfl ?_|refine SW.st (mu hw rfl hc) rfl ?_)
    refine SW.st (aX rfl rfl fe) rfl ?_;repeat' (first|refine Wz ?_|refine SW.st (cm (init.length) rfl rfl (by assumption) (by omega) (by omega)) rfl ?_|(refine SW.call rfl rfl (yU An _) ?_;intro v w1 ai hv;subst hv;have hw:=hw.trans ai;have hO:=hO.ext ai;clear ai))
    have fe:=hO.sl.all (i:=init.length) (by omega);rw [iu] at fe;refine SW.st (aT rfl (fe 1 (.int .i64 r.aA) rfl)) rfl ?_;repeat' (first|refine Wz ?_|refine SW.st (cm (init.length) rfl rfl (by assumption) (by omega) (by omega)) rfl ?_)
    refine SW.gM init.length 1 ⟨r.aU,r.aA+1⟩ hO rfl rfl rfl (by omega) (by omega) rfl (by rw [iu];rfl) fun w2 bh hg => ?_
    have hw:=aF hw hg (ac3 _) hO.ba;refine Wz ?_;refine ae.again (k+1,A1,c1) ⟨by simp only [e];simp [get];rfl,rfl,rfl,rfl,trivial⟩ (by simp only;omega) ⟨by simp only;omega,hw,?_⟩;simp only [e];rw [U3] at bh;simpa using bh
   ·have e:runs p (k+1)=runs p k++[⟨(k:Int),1⟩]:=by
     simp only [runs,Bs,if_true];rw [if_neg hq]
    have qV:∀ r∈runs p k,r.aU+r.aA<(k:Int):=lP.below fun h0=>by
     cases hh:p (k-1) with
     | false=>rfl
     | true=>exact absurd ⟨h0,hh⟩ hq
    have oO:=hO.sl.base;rcases aeK (runs p k) with hn|⟨init,r,hr⟩
    ·rw [hn] at hO hlen e ⊢;simp only [List.length_nil];repeat' (first|refine Wz ?_|(refine CW.fU rfl ?_)|refine SW.st (mu hw rfl hc) rfl ?_)
     refine SW.dR rfl rfl rfl rfl rfl fun b w1 ai hb hB => ?_
     have hw:=hw.trans ai;have hO:=hO.ext ai;refine SW.append hO (aS.YN (r:=⟨(k:Int),1⟩) hB rfl) hw.size rfl rfl rfl (by simp) (by simp) fun A2 c2 w2 lm hg => ?_
     have hw:=aF hw hg (ac3 _) hO.ba;refine Wz ?_;refine ae.again (k+1,A2,c2) ⟨by simp only [e];rfl,rfl,rfl,rfl,trivial⟩ (by simp only;omega) ⟨by simp only;omega,hw,?_⟩;simp only [e];exact lm
    ·have qf:runs p k=init++[r]:=by simpa using hr
     have yi:=lP.Pv r (by rw [qf];simp);have An:r.ok:=⟨yi.1,yi.2.1,by omega,by omega⟩
     have Oi:=qV r (by rw [qf];simp);rw [qf] at hO hlen e ⊢;have rI:(init++[r]).length=init.length+1:=by simp
     rw [rI] at hO hlen;rw [rI];have oO:=hO.sl.base;have iu:(init++[r])[init.length]'(by simp)=r:=by simp
     have fe:=hO.sl.all (i:=init.length) (by omega);rw [iu] at fe;repeat' (first|refine Wz ?_|(refine CW.fU rfl ?_)|refine SW.st (cm (init.length) rfl rfl (by assumption) (by omega) (by omega)) rfl ?_|refine SW.st (mu hw rfl hc) rfl ?_)
     refine SW.st (aX rfl rfl fe) rfl ?_;repeat' (first|refine Wz ?_|(refine SW.call rfl rfl (yU An _) ?_;intro v w1 ai hv;subst hv;have hw:=hw.trans ai;have hO:=hO.ext ai;clear ai))
     refine SW.dR rfl rfl rfl rfl rfl fun b w1 ai hb hB => ?_
     have hw:=hw.trans ai;have hO:=hO.ext ai;refine SW.append hO (aS.YN (r:=⟨(k:Int),1⟩) hB rfl) hw.size rfl rfl rfl (by omega) (by omega) fun A2 c2 w2 lm hg => ?_
     have hw:=aF hw hg (ac3 _) hO.ba;refine Wz ?_;refine ae.again (k+1,A2,c2) ⟨by simp only [e];simp [get];rfl,rfl,rfl,rfl,trivial⟩ (by simp only;omega) ⟨by simp only;omega,hw,?_⟩;simp only [e];simpa using lm
 ·refine Wz ?_;obtain rfl:k=N:=by omega
  exact ae.bj rfl rfl ⟨_,rfl,hw,A1,c1,rfl,hO⟩
variable {β:Type} {N d lo ov m sz ZR:Nat} {A B:Option Addr} {e e':TypeId} {w':World} {enc:α -> List Value} {VV:β -> List Value}
theorem Own.RJ {c:Nat} {l:List α} {l':List β}
 (hO:Own w lo e sz enc A m c l) (hS:Own w' ov e' ZR VV B k d l') (hle:w.heap.size<=ov) : (aI A c=none∨aI A c≠aI B d)∧(aI B d=none∨aI B d≠aI A c):=by
 rcases hO.row with ⟨_,rfl⟩|⟨hc,g,jO,rfl,_,h2,_⟩
 ·refine ⟨.inl (by simp [aI]),?_⟩;rcases hS.row with ⟨_,rfl⟩|⟨hd,g',W8,rfl,_,nc,_⟩
  ·exact .inl (by simp [aI])
  ·exact .inr (by simp [aI,Nat.pos_iff_ne_zero.1 hd])
 ·have hg:g<w.heap.size:=(adh.1 h2).1
  rcases hS.row with ⟨_,rfl⟩|⟨hd,g',W8,rfl,dz,nc,_⟩
  ·exact ⟨.inr (by simp [aI,Nat.pos_iff_ne_zero.1 hc]),.inl (by simp [aI])⟩
  ·have bL:g≠g':=by omega
   exact ⟨.inr (by simp [aI,Nat.pos_iff_ne_zero.1 hc,Nat.pos_iff_ne_zero.1 hd,bL]),.inr (by simp [aI,Nat.pos_iff_ne_zero.1 hc,Nat.pos_iff_ne_zero.1 hd,bL.symm])⟩
def k9 (x y:List Region) (i:Nat) : Bool:=ew x i && !ew y i
theorem M5 {x y:List Region} (h:qb x y=true) : (∀ r∈x,r.ok)∧(∀ r∈y,r.ok):=by
 simp only [qb,Bool.and_eq_true,uJ] at h
 have key:∀ l:List Region,gZ l -> ∀ r∈l,r.ok:=fun l hl r hr=>by
  obtain ⟨i,hi,rfl⟩:=ac1 hr;exact (hl.2 i hi).1
 exact ⟨key x h.1,key y h.2⟩
noncomputable def jq (N:Nat) (x y:List Region) : Int×List Region:=if qb x y then (0,runs (k9 x y) N) else (8,[])
def Ki (lo:Nat) (r:Int×List Region) (v:Value) (w:World) : Prop := ∃ A c,v = .tuple #[.slice A r.2.length c,.int .i64 r.1]∧Own w lo 82 2 iz A r.2.length c r.2
theorem wL {x y:List Region} (h:qb x y=true) : jq N x y=(0,runs (k9 x y) N):=by simp [jq,h]
theorem Cq {x y:List Region} (h:qb x y=false) : jq N x y=(8,[]):=by simp [jq,h]
theorem Hr (A:Option Addr) (n c:Nat) (B:Option Addr) (m d:Nat) (x y:List Region) (N:Nat) (hN:N=256) (w:World) (hx:Sl w 2 iz A n x) (hy:Sl w 2 iz B m y) (hn:n<=9223372036854775807) (hm:m<=9223372036854775807) :
 bI prog 20 [.agg (qa A n c B m d).toArray] w (Ki w.heap.size (jq N x y)):=by
 refine aE func20 rfl ntmps20 rfl ?_;refine CW.seq (CW.region (SW.box rfl rfl fun b w1 hw hb hB => ?_));obtain ⟨q,hq⟩ : ∃ b,qb x y=b:=⟨_,rfl⟩;have c1:∀ w',Ext w w'->bI prog 41 [.agg (qa A n c B m d).toArray] w' fun v _=>v = .int .i64 (if q then 0 else 8):=fun w' h=>by have:=Cp A n c B m d x y w' (hx.ext h) (hy.ext h) hn hm;rwa [hq] at this
 cases q
 ·simp only [Bool.false_eq_true,if_false] at c1;rw [Cq hq];repeat' (first|refine Wz ?_|(refine Wk (c1 _ hw) ?_;intro v w1 ai hv;subst hv;obtain ⟨hw,hB⟩:=cX ai hw hB;clear ai))
  exact ae.dj rfl rfl rfl ⟨_,rfl,hw,none,0,rfl,Own.fv _ _ _ _ _ _⟩
 ·simp only [if_true] at c1;rw [wL hq];obtain ⟨hxo,hyo⟩:=M5 hq;repeat' (first|refine Wz ?_|(refine Wk (c1 _ hw) ?_;intro v w1 ai hv;subst hv;obtain ⟨hw,hB⟩:=cX ai hw hB;clear ai))
  refine CW.cut (fun L' w' => ∃ M d1 M2 d2,il L' [(5,.slice M 256 d1),(6,.slice M2 256 d2)]∧Ext w w'∧Own w' w.heap.size 4 1 tY M 256 d1 (marksOf (fun i=>ew x i) 256)∧Own w' w.heap.size 4 1 tY M2 256 d2 (marksOf (fun i=>ew y i) 256)∧(aI M2 d2=none∨aI M2 d2≠aI M d1)) ?_ ?_
  ·refine CW.any 6 mixed (dg (by kernel_rfl)) rfl fun w1 ai aJ => ?_
   obtain ⟨hw,hB⟩:=cX ai hw hB;clear ai;refine Wa ?_;refine SA.one 2 rfl (by kernel_rfl) rfl ?_;refine Wk (Am _ _ _ _ _ (hx.ext hw) hxo hn) fun v w2 ar hv => ?_
   obtain ⟨M,d1,rfl,hM⟩:=hv;have hM:=hM.low hw.size;obtain ⟨hw,hB⟩:=cX ar hw hB;refine SW.nil (ae.sa ar ?_);refine SA.one 5 rfl (by kernel_rfl) rfl ?_;refine Wk (Am _ _ _ _ _ (hy.ext hw) hyo hm) fun v w3 ar hv => ?_
   obtain ⟨M2,d2,rfl,uY⟩:=hv;have bL:=(hM.RJ uY (ac3 _)).2;have uY:=uY.low hw.size;obtain ⟨hM,hw,hB⟩:=cj ar hM hw hB;refine SW.nil (ae.sa ar ?_);refine SA.done (by kernel_rfl) ?_;refine Wz ?_;exact ae.cut (K:=fun L' w' => ∃ M d1 M2 d2,il L' [(5,.slice M 256 d1),(6,.slice M2 256 d2)]∧Ext w w'∧Own w' w.heap.size 4 1 tY M 256 d1 (marksOf (fun i=>ew x i) 256)∧Own w' w.heap.size 4 1 tY M2 256 d2 (marksOf (fun i=>ew y i) 256)∧(aI M2 d2=none∨aI M2 d2≠aI M d1)) ⟨M,d1,M2,d2,⟨rfl,rfl,trivial⟩,hw,hM,uY,bL⟩
  ·clear hB hw c1;rintro L' w' ⟨M,d1,M2,d2,hs,hw,hM,uY,bL⟩
   refine ae.sub hs ?_;have hMb:=hM.sl.base;have aaS:=uY.sl.base;have e0:marksOf (fun i=>ew x i) 256=marksOf (fun i=>if i<0 then k9 x y i else ew x i) 256:=ir fun i _=>by rw [if_neg (by omega)]
   rw [e0] at hM;clear e0;refine Wz ?_
   refine CW.loop (fun k:Nat=>[(5,.slice M 256 d1),(6,.slice M2 256 d2),(20,.int .i64 256),(21,.int .i64 (k:Int))])
    (fun k w'=>k<=256∧Ext w w'∧Own w' w.heap.size 4 1 tY M 256 d1 (marksOf (fun i=>if i<k then k9 x y i else ew x i) 256)∧Own w' w.heap.size 4 1 tY M2 256 d2 (marksOf (fun i=>ew y i) 256)) (fun k=>256-k) 0 ⟨rfl,rfl,rfl,rfl,trivial⟩ ⟨by omega,hw,hM,uY⟩ ?_
   clear hw hM uY;rintro k w' ⟨hk,hw,hM,uY⟩
   by_cases gh:k<256
   ·obtain ⟨bx,UY⟩ : ∃ b,ew x k=b:=⟨_,rfl⟩;obtain ⟨bY,xU⟩ : ∃ b,ew y k=b:=⟨_,rfl⟩;have h1:w'.cell? ((M.getD default).add (k*1))=some (.bool bx):=hM.sl.one gh (by rw [mC,if_neg (by omega),UY];rfl)
    have h2:w'.cell? ((M2.getD default).add (k*1))=some (.bool bY):=uY.sl.one gh (by rw [mC,xU];rfl)
    have hf:k9 x y k=(bx && !bY):=by simp [k9,UY,xU]
    have e1:marksOf (fun i=>if i<k+1 then k9 x y i else ew x i) 256=marksOf (fun i=>if i=k then (bx && !bY) else if i<k then k9 x y i else ew x i) 256:=ir fun i _=>by
     by_cases hi:i=k
     ·subst hi;rw [if_pos (by omega),if_pos rfl,hf]
     ·rw [if_neg hi];by_cases h2:i<k
      ·rw [if_pos (by omega),if_pos h2]
      ·rw [if_neg (by omega),if_neg h2]
    cases bx<;>cases bY
    all_goals
     repeat' (first|refine Wz ?_|refine Wl h1 ?_|refine Wl h2 ?_)
     first
      | refine SW.gM k 0 true hM rfl rfl rfl gh (by omega) (by rw [add_zero]) rfl fun w3 D4 hg => ?_
      | refine SW.gM k 0 false hM rfl rfl rfl gh (by omega) (by rw [add_zero]) rfl fun w3 D4 hg => ?_
     have hw:=aF hw hg (ac3 _) hM.ba;have uY:=uY.grown hg bL;rw [rV] at D4;refine Wz ?_;exact ae.again (k+1) ⟨rfl,rfl,rfl,rfl,trivial⟩ (by omega) ⟨by omega,hw,by rw [e1];exact D4,uY⟩
   ·have e:marksOf (fun i=>if i<k then k9 x y i else ew x i) 256=marksOf (k9 x y) 256:=ir fun i hi=>by rw [if_pos (by omega)]
    rw [e] at hM
    have Ug:∀ w',Sl w' 1 tY M 256 (marksOf (k9 x y) 256)->bI prog 43 [.slice M 256 d1] w' (IT w'.heap.size (runs (k9 x y) N)):=fun w' h=>by
     have D8:Sl w' 1 tY M N (marksOf (k9 x y) N):=by rw [hN];exact h
     have h1:=DA M d1 N hN (k9 x y) _ D8;rwa [show Value.slice M N d1 = .slice M 256 d1 by rw [hN]] at h1
    refine Wz ?_;refine Wk (Ug _ hM.sl) fun v w3 nL hv => ?_
    obtain ⟨A2,c2,rfl,bh⟩:=hv;have dz:=hw.size;have hw:=hw.trans nL;refine Wz ?_;exact ae.dj rfl rfl rfl ⟨_,rfl,hw,A2,c2,rfl,bh.low dz⟩
set_option maxHeartbeats 4000000 in
theorem Kj (r:dZ) (z:ak) (f s:Int) (w:World) (hr:F6 w r z) (hf:(r.aj.n+1)*24<=140737488355328) (ht:r.Types.n*8<=140737488355328) (h1 : -9223372036854775808<=r.aU∧r.aU<=9223372036854775807) (h2 : -9223372036854775808<=r.To∧r.To<=9223372036854775807) :
 bI prog 45 [.agg (dp r).toArray,.int .i64 f,.int .i64 s] w (xW w.heap.size (pF z f s)):=by
 refine aE func45 rfl ntmps45 rfl ?_;refine CW.seq (CW.region (SW.box rfl rfl fun b3 w1 hw cg ap => ?_));refine SW.alloc rfl fun b6 w2 bt dt aq => ?_
 have cG:=hw.up dt
 have oG:b3≠b6:=by have:=ap.lt;omega
 (obtain ⟨hw,ap⟩:=cX bt hw ap);have eF:=hr.from_;have eT:=hr.o8;have NZ:=hr.free.len;have SK:=hr.types.len;obtain ⟨q,hq⟩ : ∃ q,fD z=q:=⟨_,rfl⟩
 have c1:∀ w',Ext w w'->bI prog 80 [.agg (dp r).toArray] w' fun v _=>v = .int .i64 (if q then 0 else 8):=fun w' h=>by
  have:=kJ r z w' (hr.ext h) (by omega) (by omega) h1 h2
  rwa [hq] at this
 cases q
 ·simp only [Bool.false_eq_true,if_false] at c1;rw [HZ hq];repeat' (first|refine Wz ?_|(refine Wk (c1 _ hw) ?_;intro v w1 ai hv;subst hv;obtain ⟨hw,ap,aq⟩:=cj ai hw ap aq;clear ai))
  refine SW.ag aq rfl rfl rfl rfl (fE .zero) fun w5 cS hg => ?_
  have hw:=hw.own cG hg;refine Wz ?_;exact ae.dw rfl rfl rfl cS rfl ⟨_,rfl,hw,.zero,rfl,iA.zero _ _⟩
 ·simp only [if_true] at c1;have hz:=fg.1 hq;obtain ⟨o1,o2,o3,o4,o5⟩:=hz.ok;have Gs:=kq hz;by_cases Fs:mB z f s
  ·obtain ⟨a1,a2,a3,a4⟩:=id Fs;obtain ⟨n,rfl⟩:=ada a1;rw [H7 hq Fs];repeat' (first|refine Wz ?_|(refine Wk (c1 _ hw) ?_;intro v w1 ai hv;subst hv;obtain ⟨hw,ap,aq⟩:=cj ai hw ap aq;clear ai))
   all_goals try omega
   refine Wk (sL r z _ (hr.ext hw) (by omega) ht) fun v w4 ko hv => ?_
   obtain ⟨u,rfl,hs,_,_⟩:=hv;have hs:=hs.low hw.size;(obtain ⟨hw,ap,aq⟩:=cj ko hw ap aq);clear c1;skip;refine SW.ag ap rfl rfl rfl rfl (fE u) fun w5 dW hg => ?_
   have hG:=ap.gr hg;have hw:=hw.own cg hg;have hs:=hs.eG ap hg rfl rfl;have aq:=aq.grown hg (by simpa using oG.symm);have ap:=dW;clear dW hg hG;refine Wz ?_
   refine CW.loop (fun t:Nat×ak×dZ=>[(1,.int .i64 f),(2,.int .i64 (n:Int)),(3,.pointer (some ⟨b3,0,none⟩)),(6,.pointer (some ⟨b6,0,none⟩)),(9,.int .i64 (f+(t.1:Int)))])
    (fun t w'=>t.1<=n∧Ext w w'∧aS w' b3 117 (dp t.2.2)∧aS w' b6 117 (dp .zero)∧iA w' w.heap.size t.2.2 t.2.1∧uP n z f=uP (n-t.1) t.2.1 (f+(t.1:Int))∧t.2.1.aj.length<=257∧t.2.1.Types.length<=32∧t.2.1.aU=z.aU∧t.2.1.To=z.To) (fun t=>n-t.1) (0,z,u)
    ⟨rfl,rfl,rfl,rfl,congrArg (fun x=>some (Value.int .i64 x)) (by simp),trivial⟩ ⟨by omega,hw,ap,aq,hs,by simp,by simp only;omega,by simp only;omega,rfl,rfl⟩ ?_
   clear hw ap aq hs;rintro ⟨k,zc,u⟩ w' ⟨hk,hw,ap,aq,hs,DM,AV,VB,Wr,hl4⟩
   simp only at hk ap hs DM AV VB Wr hl4 ⊢;by_cases gh:k<n
   ·have e1:=hs.free.sl.len;have e2:=hs.types.sl.len;have e3:=hs.from_;have e4:=hs.o8;have qV:=lX zc (f+(k:Int)) 0;refine Wz ?_;refine Wk (pG u zc (f+(k:Int)) 0 _ hs.rd (ac2 (adt 24 (show u.aj.n+1<=258 by omega)) (by decide)) (by omega) ⟨by omega,by omega⟩ ⟨by omega,by omega⟩) fun v w5 ox hv => ?_
    obtain ⟨o,ho⟩ : ∃ o,fM zc (f+(k:Int)) 0=o:=⟨_,rfl⟩;rw [ho] at hv qV;obtain ⟨u',rfl,nd⟩:=hv;have nd:=nd.low hw.size;(obtain ⟨hw,ap,aq,hs⟩:=dG ox hw ap aq hs);refine Wz ?_;refine SW.alloc rfl fun oB w1 ai mG aC => ?_
    skip;refine SW.ag aC rfl rfl rfl rfl (fE _) fun w2 bA hg => ?_
    have ar:=ai.own mG hg;have gK:=hw.up mG
    obtain ⟨hw,ap,aq,hs,nd⟩:=fI ar hw ap aq hs nd;have aC:=bA;clear bA ai hg ar;have YO:=ap.lt;obtain ⟨m,hm⟩ : ∃ m,n-k=m+1:=⟨n-k-1,by omega⟩;rw [hm] at DM;simp only [uP,ho] at DM;by_cases Oz:o.1=0
    ·rw [if_pos Oz] at DM;rw [Oz];refine Wz ?_;refine SW.ag ap rfl rfl rfl rfl (fE u') fun w6 dW hg => ?_
     have hw:=hw.own cg hg;have nd:=nd.eG ap hg rfl rfl;have aq:=aq.grown hg (by simpa using oG.symm);refine Wz ?_;obtain ⟨q1,q2,q3⟩:=qV.2.2 Oz;have e9:f+(k:Int)+1=f+((k+1:Nat) : Int):=by omega
     have e10:m=n-(k+1):=by omega
     exact ae.again (k+1,o.2,u') ⟨rfl,rfl,rfl,rfl,congrArg (fun x=>some (Value.int .i64 x)) e9,trivial⟩ (by simp only;omega) ⟨by simp only;omega,hw,dW,aq,nd,by simp only;rw [<- e9,<- e10];exact DM,qV.1,qV.2.1,by simp only;omega,by simp only;omega⟩
    ·rw [if_neg Oz] at DM;rw [DM];refine Wz ?_;refine SW.ag aq rfl rfl rfl rfl (fE .zero) fun w5 cS hg => ?_
     have hw:=hw.own cG hg;refine Wz ?_;exact ae.dw rfl rfl rfl cS rfl ⟨_,rfl,hw,.zero,rfl,iA.zero _ _⟩
   ·have e0:n-k=0:=by omega
    rw [e0] at DM;simp only [uP] at DM;rw [DM];refine Wz ?_;refine SW.ag aq rfl rfl rfl rfl (fE u) fun w5 cS hg => ?_
    have hw:=hw.own cG hg;have hs:=hs.eG aq hg rfl rfl;refine Wz ?_;exact ae.dw rfl rfl rfl cS rfl ⟨_,rfl,hw,u,rfl,hs⟩
  ·rw [H4 hq Fs];unfold mB at Fs;repeat' (first|refine Wz ?_|refine SW.fZ rfl rfl rfl (fun h => ?_) (fun h => ?_)|(refine Wk (c1 _ hw) ?_;intro v w1 ai hv;subst hv;obtain ⟨hw,ap,aq⟩:=cj ai hw ap aq;clear ai))
   all_goals
    first
     | (exfalso;omega)
     | (refine SW.ag aq rfl rfl rfl rfl (fE .zero) fun w5 cS hg => ?_
        have hw:=hw.own cG hg;refine Wz ?_;exact ae.dw rfl rfl rfl cS rfl ⟨_,rfl,hw,.zero,rfl,iA.zero _ _⟩)
variable {f o:Int} {z:ak}
noncomputable def mN (z:ak) (p:Int) : ak:=(fM z p 0).2
noncomputable def lE:Nat->ak->Int->ak
 | 0,z,_=>z
 | k+1,z,p=>lE k (mN z p) (p+1)
theorem ug:∀ (k:Nat) (z:ak) (p:Int),lE (k+1) z p=mN (lE k z p) (p+k)
 | 0,z,p=>by simp [lE]
 | k+1,z,p=>by
   rw [lE,ug k,lE];congr 1
   omega
theorem Ao {p:Int} (h:(fM z p o).1≠0) : (fM z p o).2 = .zero:=by
 cases hq:fD z
 ·rw [uO hq]
 ·by_cases hf:j9 z.aU z.To p o
  ·cases ho:ka z.aj p o
   ·exfalso;obtain ⟨⟨l,a',o'⟩,hj⟩ : ∃ u,iV 5 z.aj p o=u:=⟨_,rfl⟩;rw [x8 hq hf ho hj rfl] at h;exact h rfl
   ·rw [CS hq hf ho]
  ·rw [xZ hq hf]
theorem Ap {p:Int} (h:p<z.aU∨z.To<=p) : mN z p = .zero:=by
 unfold mN;cases hq:fD z
 ·rw [uO hq]
 ·rw [xZ hq (fun hf=>by unfold j9 at hf;omega)]
theorem Kk (p:Int) : mN .zero p = .zero:=Ap (by simp only [ak.zero];omega)
theorem fold_zero:∀ (k:Nat) (p:Int),lE k .zero p = .zero
 | 0,_=>rfl
 | k+1,p=>by rw [lE,Kk,fold_zero k]
theorem Aq:∀ (k:Nat) (z:ak) (p:Int),(uP k z p).2=lE k z p
 | 0,_,_=>rfl
 | k+1,z,p=>by
   rw [uP,lE];split
   ·exact Aq k _ _
   ·rename_i h;rw [mN,Ao h,fold_zero]
theorem Ft:∀ (k:Nat) (z:ak) (p:Int),p<=z.To->z.To<p+k->lE k z p = .zero
 | 0,z,p,h1,h2=>by omega
 | k+1,z,p,h1,h2=>by
   rw [lE];by_cases e:p=z.To
   ·rw [Ap (by omega),fold_zero]
   ·by_cases h:(fM z p 0).1=0
    ·have:=((lX z p 0).2.2 h).2.1
     exact Ft k _ _ (by rw [mN];omega) (by rw [mN];omega)
    ·rw [mN,Ao h,fold_zero]
theorem Cr (z:ak) (p:Int) (h : 0<k) : (pF z p (k:Int)).2=lE k z p:=by
 obtain ⟨k,rfl⟩ : ∃ m,k=m+1:=⟨k-1,by omega⟩;cases hq:fD z
 ·rw [HZ hq,lE,mN,uO hq,fold_zero]
 ·by_cases ha:mB z p ((k+1:Nat) : Int)
  ·rw [H7 hq ha,Aq]
  ·rw [H4 hq ha];unfold mB at ha;by_cases h1:p<z.aU∨z.To<=p
   ·rw [lE,Ap h1,fold_zero]
   ·exact (Ft _ _ _ (by omega) (by omega)).symm
noncomputable def gE (l:List Region) (split:Int) : Nat->ak×ak
 | 0=>((jt 0 split).2,(jt split 256).2)
 | p+1=>if ew l p then (if (p:Int)<split then (mN (gE l split p).1 p,(gE l split p).2) else ((gE l split p).1,mN (gE l split p).2 p)) else gE l split p
theorem wM {l:List Region} {split:Int} {p:Nat}:∀ n:Nat,(∀ i:Nat,i<n->ew l ((p+i:Nat) : Int)=false)->gE l split (p+n)=gE l split p
 | 0,_=>rfl
 | n+1,h=>by
   rw [<- aeX,gE,h n (by omega),if_neg (by simp)];exact wM n fun i hi=>h i (by omega)
theorem Fu {l:List Region} {split:Int} {p:Nat}:∀ n:Nat,(∀ i:Nat,i<n->ew l ((p+i:Nat) : Int)=true∧((p+i:Nat) : Int)<split)->gE l split (p+n)=(lE n (gE l split p).1 p,(gE l split p).2)
 | 0,_=>rfl
 | n+1,h=>by
   rw [<- aeX,gE,(h n (by omega)).1,if_pos rfl,if_pos (h n (by omega)).2,Fu n fun i hi=>h i (by omega),ug];simp
theorem Cs {l:List Region} {split:Int} {p:Nat}:∀ n:Nat,(∀ i:Nat,i<n->ew l ((p+i:Nat) : Int)=true∧split<=((p+i:Nat) : Int))->gE l split (p+n)=((gE l split p).1,lE n (gE l split p).2 p)
 | 0,_=>rfl
 | n+1,h=>by
   rw [<- aeX,gE,(h n (by omega)).1,if_pos rfl,if_neg (by have:=(h n (by omega)).2;omega),Cs n fun i hi=>h i (by omega),ug];simp
def dJ (l:List Region) (k:Nat) : Int:=match k with
 | 0=>0
 | k+1=>if h:k<l.length then l[k].aU+l[k].aA else 256
theorem tg {l:List Region} (h:gZ l) : ∀ (j:Nat) (hj:j<l.length) (i:Nat) (hi:i<j),(l[i]'(Nat.lt_trans hi hj)).aU+(l[i]'(Nat.lt_trans hi hj)).aA<l[j].aU
 | 0,_,i,hi=>by omega
 | j+1,hj,i,hi=>by
   have h1:=(h.2 (j+1) hj).2 (by omega);simp only [Nat.add_sub_cancel] at h1;by_cases e:i=j
   ·subst e;exact h1
   ·have h2:=tg h j (by omega) i (by omega);have h3:=(h.2 j (by omega)).1;unfold Region.ok at h3;omega
theorem Kl {l:List Region} (hk:k<l.length) : dJ l (k+1)=l[k].aU+l[k].aA:=by simp only [dJ,dif_pos hk]
theorem M6 {l:List Region} (h:gZ l) (hk:k<l.length) : 0<=dJ l k∧dJ l k<=l[k].aU:=by
 have h0:=(h.2 k hk).1;unfold Region.ok at h0;cases k with
 | zero=>simp only [dJ];omega
 | succ k =>
   have h1:=(h.2 k (by omega)).1;unfold Region.ok at h1;have h2:=tg h (k+1) hk k (by omega);simp only [dJ,dif_pos (show k<l.length by omega)];omega
theorem tN {l:List Region} (h:gZ l) (hk:k<=l.length) {p:Int} (h1:dJ l k<=p) (h2:∀ hk:k<l.length,p<l[k].aU) : ew l p=false:=by
 unfold ew;rw [ado];intro r hr;obtain ⟨j,hj,rfl⟩:=ac1 hr;have h0:=(h.2 j hj).1;unfold Region.ok at h0;simp only [Bool.and_eq_true,decide_eq_true_eq,not_and];intro h3 h4;by_cases mO:j<k
 ·obtain ⟨m,rfl⟩ : ∃ m,k=m+1:=⟨k-1,by omega⟩;simp only [dJ,dif_pos (show m<l.length by omega)] at h1;by_cases e:j=m
  ·subst e;omega
  ·have h5:=tg h m (by omega) j (by omega);have h6:=(h.2 m (by omega)).1;unfold Region.ok at h6;omega
 ·have h5:=h2 (by omega);by_cases e:k=j
  ·subst e;omega
  ·have h6:=tg h j hj k (by omega);have h7:=(h.2 k (by omega)).1;unfold Region.ok at h7;omega
theorem Fv {l:List Region} (hk:k<l.length) {p:Int} (h1:l[k].aU<=p) (h2:p<l[k].aU+l[k].aA) : ew l p=true:=by
 unfold ew;rw [ade];exact ⟨l[k],ac0 hk,by simp;omega⟩
def kG (r:Region) (split:Int) : Int:=max 0 (min (r.aU+r.aA) split-r.aU)
noncomputable def mY (l:List Region) (split:Int) (k:Nat) : ak×ak:=gE l split (dJ l k).toNat
noncomputable def uh (z:ak) (f s:Int) : ak:=if 0<s then (pF z f s).2 else z
theorem Ar {s:Int} (h : 0<s) : (pF z f s).2=uh z f s:=by rw [uh,if_pos h]
theorem Fw {s:Int} (h : ¬ 0<s) : z=uh z f s:=by rw [uh,if_neg h]
theorem Hs {l:List Region} (h:gZ l) {split:Int} (hk:k<l.length) :
 mY l split (k+1)=(uh (mY l split k).1 l[k].aU (kG l[k] split),uh (mY l split k).2 (l[k].aU+kG l[k] split) (l[k].aA-kG l[k] split)):=by
 have h0:=(h.2 k hk).1;unfold Region.ok at h0;have hs:=M6 h hk;have hb : 0<=kG l[k] split∧kG l[k] split<=l[k].aA∧(0<kG l[k] split->l[k].aU+kG l[k] split<=split)∧(kG l[k] split<l[k].aA->split<=l[k].aU+kG l[k] split):=by unfold kG;omega
 obtain ⟨b,WX⟩ : ∃ b,kG l[k] split=b:=⟨_,rfl⟩;rw [WX] at hb ⊢;obtain ⟨b1,b2,b3,b4⟩:=hb;unfold mY
 have e1:(dJ l (k+1)).toNat=((dJ l k).toNat+(l[k].aU-dJ l k).toNat+b.toNat)+(l[k].aA-b).toNat:=by
  rw [Kl hk];omega
 have e2:((dJ l k).toNat+(l[k].aU-dJ l k).toNat:Nat)=l[k].aU.toNat:=by omega
 rw [e1,Cs (p:=(dJ l k).toNat+(l[k].aU-dJ l k).toNat+b.toNat) (l[k].aA-b).toNat,Fu (p:=(dJ l k).toNat+(l[k].aU-dJ l k).toNat) b.toNat,wM (p:=(dJ l k).toNat) (l[k].aU-dJ l k).toNat]
 ·rw [e2];unfold uh
  have g1:lE b.toNat (gE l split (dJ l k).toNat).1 (l[k].aU.toNat:Int)=if 0<b then (pF (gE l split (dJ l k).toNat).1 l[k].aU b).2 else (gE l split (dJ l k).toNat).1:=by
   split
   ·have:=Cr (k:=b.toNat) (gE l split (dJ l k).toNat).1 l[k].aU (by omega)
    rw [adx b1] at this;rw [this,adx (by omega)]
   ·rw [show b.toNat=0 by omega];rfl
  have g2:lE (l[k].aA-b).toNat (gE l split (dJ l k).toNat).2 ((l[k].aU.toNat+b.toNat:Nat) : Int)=if 0<l[k].aA-b then (pF (gE l split (dJ l k).toNat).2 (l[k].aU+b) (l[k].aA-b)).2 else (gE l split (dJ l k).toNat).2:=by
   split
   ·have:=Cr (k:=(l[k].aA-b).toNat) (gE l split (dJ l k).toNat).2 (l[k].aU+b) (by omega)
    rw [adx (by omega)] at this;rw [this,show ((l[k].aU.toNat+b.toNat:Nat) : Int)=l[k].aU+b by omega]
   ·rw [show (l[k].aA-b).toNat=0 by omega];rfl
  simp only [g1,g2]
 ·intro i hi;exact tN (k:=k) h (by omega) (by omega) (fun _=>by omega)
 ·intro i hi;rw [e2];exact ⟨Fv hk (by omega) (by omega),by omega⟩
 ·intro i hi;rw [e2];exact ⟨Fv hk (by omega) (by omega),by omega⟩
theorem Km {l:List Region} (h:gZ l) (split:Int) : mY l split l.length=gE l split 256:=by
 have hs : 0<=dJ l l.length∧dJ l l.length<=256:=by
  cases he:l.length with
  | zero=>simp [dJ]
  | succ k =>
    have h0:=(h.2 k (by omega)).1;unfold Region.ok at h0;simp only [dJ,dif_pos (show k<l.length by omega)];omega
 unfold mY;have:=wM (l:=l) (split:=split) (p:=(dJ l l.length).toNat) (256-(dJ l l.length).toNat) fun i hi=>tN (k:=l.length) h (ac3 _) (by omega) (fun hk=>absurd hk (Nat.lt_irrefl _))
 rw [<- this];congr 1
 omega
structure sB (z:ak) : Prop where
 free:z.aj.length<=257
 types:z.Types.length<=32
 from_ : 0<=z.aU∧z.aU<=256
 o8 : 0<=z.To∧z.To<=256
theorem Ht:sB .zero:=by constructor<;>simp [ak.zero]
theorem As (h:sB z) (p:Int) : sB (mN z p):=by
 unfold mN;by_cases e:(fM z p 0).1=0
 ·obtain ⟨h1,h2,h3⟩:=lX z p 0;obtain ⟨h4,h5,_⟩:=h3 e;exact ⟨h1,h2,by rw [h4];exact h.from_,by rw [h5];exact h.o8⟩
 ·rw [Ao e];exact Ht
theorem Ct {t:Int} (h:fC f t) : sB (jt f t).2:=by
 rw [lV h];unfold fC at h;exact ⟨by simp,by simp;omega,by simp only;omega,by simp only;omega⟩
theorem Fx {split:Int}:fC split 256↔fC 0 split:=by unfold fC;omega
theorem qZ {l:List Region} {split:Int} (h:fC 0 split) : ∀ p,sB (gE l split p).1∧sB (gE l split p).2
 | 0=>⟨Ct h,Ct (Fx.2 h)⟩
 | p+1=>by
   have ih:=qZ (l:=l) h p;unfold gE;split
   ·split
    ·exact ⟨As ih.1 _,ih.2⟩
    ·exact ⟨ih.1,As ih.2 _⟩
   ·exact ih
def ms (split least cpus:Int) : Prop:=fC 0 split∧(0<=least∧least<=256)∧(1<=cpus∧cpus<=4)
instance (a b c:Int) : Decidable (ms a b c):=inferInstanceAs (Decidable (_∧_))
def ra (z:ak×ak) (least cpus:Int) : Heap:=⟨[z.1,z.2],[least,least],cpus,[],[]⟩
noncomputable def gG (l:List Region) (split least cpus:Int) : Int×Heap :=
 if eR l then (if ms split least cpus then (0,ra (gE l split 256) least cpus) else (1,⟨[],[],0,[],[]⟩)) else (8,⟨[],[],0,[],[]⟩)
theorem uj {l:List Region} {b c:Int} (h:eR l=false) : gG l a b c=(8,⟨[],[],0,[],[]⟩):=by simp [gG,h]
theorem rb {l:List Region} {b c:Int} (h:eR l=true) (ha : ¬ ms a b c) : gG l a b c=(1,⟨[],[],0,[],[]⟩):=by simp [gG,h,ha]
theorem rc {l:List Region} {b c:Int} (h:eR l=true) (ha:ms a b c) : gG l a b c=(0,ra (gE l a 256) b c):=by simp [gG,h,ha]
theorem iA.small {r:dZ} (h:iA w lo r z) (hs:sB z) : (r.aj.n+1)*24<=140737488355328∧r.Types.n*8<=140737488355328∧(-9223372036854775808<=r.aU∧r.aU<=9223372036854775807)∧(-9223372036854775808<=r.To∧r.To<=9223372036854775807):=by
 have e1:=h.free.sl.len;have e2:=h.types.sl.len;have e3:=h.from_;have e4:=h.o8;obtain ⟨h1,h2,h3,h4⟩:=hs;refine ⟨ac2 (adt 24 (show r.aj.n+1<=258 by omega)) (by decide),by omega,by omega,by omega⟩
theorem M7 {r:dZ} (f s:Int) (h:iA w' lo r z) (hs:sB z) : bI prog 45 [.agg (dp r).toArray,.int .i64 f,.int .i64 s] w' (xW w'.heap.size (pF z f s)):=by
 obtain ⟨h1,h2,h3,h4⟩:=h.small hs;exact Kj r z f s w' h.rd h1 h2 h3 h4
set_option maxHeartbeats 4000000 in
theorem M8 (A:Option Addr) (n c:Nat) (l:List Region) (split least cpus:Int) (w:World) (hl:Sl w 2 iz A n l) (hn:n<=9223372036854775807) (KS : -9223372036854775808<=split∧split<=9223372036854775807) :
 bI prog 21 [.slice A n c,.int .i64 split,.int .i64 least,.int .i64 cpus] w (kF w.heap.size (gG l split least cpus)):=by
 refine aE func21 rfl ntmps21 rfl ?_;refine CW.seq (CW.region (SW.alloc rfl fun b8 w1 hw oC bg => ?_));have gz:=oC;obtain ⟨q,hq⟩ : ∃ q,eR l=q:=⟨_,rfl⟩
 have c1:∀ w',Ext w w'->bI prog 41 [.agg (qa A n c none 0 0).toArray] w' fun v _=>v = .int .i64 (if q then 0 else 8):=fun w' h=>by
  have:=Cp A n c none 0 0 l [] w' (hl.ext h) (Sl.fv _ _ _ _) hn (by omega)
  have e:qb l []=q:=by
   have:eR []=true:=lU ⟨by simp,fun i h=>by simp at h⟩
   simp [qb,this,hq]
  rwa [e] at this
 cases q
 ·simp only [Bool.false_eq_true,if_false] at c1;rw [uj hq];repeat' (first|refine Wy ?_|(refine Wk (c1 _ hw) ?_;intro v w1 ai hv;subst hv;obtain ⟨hw,bg⟩:=cX ai hw bg;clear ai))
  refine SW.ag bg rfl rfl rfl rfl (dU .zero) fun w5 cS hg => ?_
  have hw:=hw.own gz hg;repeat' (first|refine Wy ?_|fail);exact ae.dw rfl rfl rfl cS rfl ⟨_,rfl,hw,kF.zero 8 _ _⟩
 ·simp only [if_true] at c1;have lP:=uJ.1 hq;repeat' (first|refine Wy ?_|(refine Wk (c1 _ hw) ?_;intro v w1 ai hv;subst hv;obtain ⟨hw,bg⟩:=cX ai hw bg;clear ai))
  refine Wk (yV 0 split _ (by omega) KS) fun v w4 ko hv => ?_
  obtain ⟨o1,MJ⟩ : ∃ o,jt 0 split=o:=⟨_,rfl⟩;rw [MJ] at hv;obtain ⟨u1,rfl,ke⟩:=hv;have ke:=ke.low hw.size;(obtain ⟨hw,bg⟩:=cX ko hw bg);clear c1;have aaV:=bg.lt;repeat' (first|refine Wy ?_|fail);refine SW.alloc rfl fun oB w1 ai mG aC => ?_
  skip;refine SW.ag aC rfl rfl rfl rfl (fE u1) fun w2 bA hg => ?_
  have ar:=ai.own mG hg;have gK:=hw.up mG
  obtain ⟨hw,bg,ke⟩:=cj ar hw bg ke;have aC:=bA;clear bA ai hg ar;have M9:b8≠oB:=by omega
  repeat' (first|refine Wy ?_|fail);refine Wk (yV split 256 _ KS (by omega)) fun v w4 ko hv => ?_
  obtain ⟨o2,W9⟩ : ∃ o,jt split 256=o:=⟨_,rfl⟩;rw [W9] at hv;obtain ⟨u2,rfl,gH⟩:=hv;have gH:=gH.low hw.size;(obtain ⟨hw,bg,aC,ke⟩:=dG ko hw bg aC ke);repeat' (first|refine Wy ?_|fail);have YP:=aC.lt;have aaW:=bg.lt;refine SW.alloc rfl fun vq w1 ai lB bX => ?_
  skip;refine SW.ag bX rfl rfl rfl rfl (fE u2) fun w2 k7 hg => ?_
  have ar:=ai.own lB hg;have mK:=hw.up lB
  obtain ⟨hw,bg,aC,ke,gH⟩:=fI ar hw bg aC ke gH;have bX:=k7;clear k7 ai hg ar;have DB:oB≠vq:=by omega
  have RK:b8≠vq:=by omega
  by_cases hz:fC 0 split
  ·have g1:o1.1=0:=by rw [<- MJ,lV hz]
   have g2:o2.1=0:=by rw [<- W9,lV (Fx.2 hz)]
   rw [g1,g2];by_cases ha:ms split least cpus
   ·obtain ⟨_,⟨a1,a2⟩,a3,a4⟩:=id ha;obtain ⟨z1,z2,z3,z4,z5⟩:=id hz;rw [rc hq ha];have hA:=hl.base;have mv:=hl.len;repeat' (first|refine Wy ?_|fail);have i1:o1.2=(mY l split 0).1:=by rw [<- MJ];rfl
    have i2:o2.2=(mY l split 0).2:=by rw [<- W9];rfl
    rw [i1] at ke;rw [i2] at gH
    refine CW.loop (fun t:Nat×dZ×dZ=>[(1,.int .i64 split),(2,.int .i64 least),(3,.int .i64 cpus),(8,.pointer (some ⟨b8,0,none⟩)),(10,.pointer (some ⟨oB,0,none⟩)),(12,.pointer (some ⟨vq,0,none⟩)),(55,.slice A n c),(56,.int .i64 (n:Int)),(57,.int .i64 (t.1:Int))])
     (fun t w'=>t.1<=n∧Ext w w'∧aS w' b8 41 (dC .zero)∧aS w' oB 117 (dp t.2.1)∧aS w' vq 117 (dp t.2.2)∧iA w' w.heap.size t.2.1 (mY l split t.1).1∧iA w' w.heap.size t.2.2 (mY l split t.1).2) (fun t=>n-t.1) (0,u1,u2)
     ⟨rfl,rfl,rfl,rfl,rfl,rfl,rfl,rfl,rfl,trivial⟩ ⟨by omega,hw,bg,aC,bX,ke,gH⟩ ?_
    clear hw bg aC bX ke gH;rintro ⟨k,u1,u2⟩ w' ⟨hk,hw,bg,aC,bX,ke,gH⟩
    simp only at hk aC bX ke gH ⊢;have hm:=qZ (l:=l) hz (dJ l k).toNat;by_cases gh:k<n
    ·have iw:=hl.lt gh;have An:=(lP.2 k iw).1;unfold Region.ok at An;have QJ:=Hs lP (split:=split) iw;obtain ⟨e1,Sr⟩ : ∃ e,kG l[k] split=e:=⟨_,rfl⟩;have Xa:max 0 (min (l[k].aU+l[k].aA) split-l[k].aU)=e1:=Sr
     have VH : 0<=e1∧e1<=l[k].aA:=by omega
     rw [Sr] at QJ;repeat' (first|refine Wy ?_|refine Wo hw ((hl.all gh)) ?_)
     have l10:=aC.lt;have l12:=bX.lt;refine SW.alloc rfl fun Eg w1 ai ES dL => ?_
     skip;refine SW.ag dL rfl rfl rfl rfl (im.one (enc:=iz) _) fun w2 oJ hg => ?_
     have ar:=ai.own ES hg;have Tw:=hw.up ES
     obtain ⟨hw,bg,aC,bX,ke,gH⟩:=iS ar hw bg aC bX ke gH;have dL:=oJ;clear oJ ai hg ar;have d10:oB≠Eg:=by omega
     have d12:vq≠Eg:=by omega
     by_cases h2:e1<l[k].aA
     ·by_cases h1 : 0<e1
      case' pos =>
       repeat' (first|refine Wy ?_|refine Wl (dL.cell rfl) ?_|refine Wm ((fun _ _=>aC.cell)) ?_|(refine SW.st (CL rfl rfl) rfl ?_)|(refine SW.st (CK rfl rfl) rfl ?_))
       rw [Xa];refine Wk (M7 l[k].aU e1 ke hm.1) fun v w4 ko hv => ?_
       obtain ⟨u3,rfl,vD⟩:=hv;have vD:=vD.low hw.size;(obtain ⟨hw,bg,aC,bX,dL,ke,gH⟩:=ur ko hw bg aC bX dL ke gH);repeat' (first|refine Wy ?_|fail);refine SW.ag aC rfl rfl rfl rfl (fE u3) fun w5 bA hg => ?_
       have hw:=hw.own gK hg;have gH:=gH.eG aC hg rfl rfl;have vD:=vD.eG aC hg rfl rfl;have bg:=bg.grown hg (by simpa using M9);have bX:=bX.grown hg (by simpa using Ne.symm DB);have dL:=dL.grown hg (by simpa using Ne.symm d10);have aC:=bA;clear bA hg ke;have ke:=vD;rw [Ar h1] at ke;clear vD;repeat' (first|refine Wy ?_|fail)
      case' neg =>
       repeat' (first|refine Wy ?_|refine Wl (dL.cell rfl) ?_|(refine SW.st (CL rfl rfl) rfl ?_)|(refine SW.st (CK rfl rfl) rfl ?_))
       rw [Xa];have vD:=ke;clear ke;obtain ⟨u3,hu3⟩ : ∃ u,u=u1:=⟨_,rfl⟩;rw [<- hu3] at vD aC;have ke:=vD;rw [Fw (z:=(mY l split k).1) (f:=l[k].aU) h1] at ke;clear vD
      all_goals
       repeat' (first|refine Wy ?_|refine Wl (dL.cell rfl) ?_|refine Wm ((fun _ _=>bX.cell)) ?_)
       refine Wk (M7 (l[k].aU+e1) (l[k].aA-e1) gH hm.2) fun v w4 ko hv => ?_
       obtain ⟨u4,rfl,vD⟩:=hv;have vD:=vD.low hw.size;(obtain ⟨hw,bg,aC,bX,dL,ke,gH⟩:=ur ko hw bg aC bX dL ke gH);repeat' (first|refine Wy ?_|fail);refine SW.ag bX rfl rfl rfl rfl (fE u4) fun w5 k7 hg => ?_
       have hw:=hw.own mK hg;have ke:=ke.eG bX hg rfl rfl;have vD:=vD.eG bX hg rfl rfl;have bg:=bg.grown hg (by simpa using RK);have aC:=aC.grown hg (by simpa using DB);have bX:=k7;clear k7 hg gH;have gH:=vD;rw [Ar (by omega)] at gH;clear vD;repeat' (first|refine Wy ?_|fail)
      all_goals
       refine ae.again (k+1,u3,u4) ⟨rfl,rfl,rfl,rfl,rfl,rfl,rfl,rfl,rfl,trivial⟩ (by simp only;omega) ⟨by simp only;omega,hw,bg,aC,bX,?_,?_⟩
       ·simp only;rw [QJ];exact ke
       ·simp only;rw [QJ];exact gH
     ·have h1 : 0<e1:=by omega
      repeat' (first|refine Wy ?_|refine Wl (dL.cell rfl) ?_|refine Wm ((fun _ _=>aC.cell)) ?_|(refine SW.st (CL rfl rfl) rfl ?_)|(refine SW.st (CK rfl rfl) rfl ?_))
      rw [Xa];refine Wk (M7 l[k].aU e1 ke hm.1) fun v w4 ko hv => ?_
      obtain ⟨u3,rfl,vD⟩:=hv;have vD:=vD.low hw.size;(obtain ⟨hw,bg,aC,bX,dL,ke,gH⟩:=ur ko hw bg aC bX dL ke gH);repeat' (first|refine Wy ?_|fail);refine SW.ag aC rfl rfl rfl rfl (fE u3) fun w5 bA hg => ?_
      have hw:=hw.own gK hg;have gH:=gH.eG aC hg rfl rfl;have vD:=vD.eG aC hg rfl rfl;have bg:=bg.grown hg (by simpa using M9);have bX:=bX.grown hg (by simpa using Ne.symm DB);have dL:=dL.grown hg (by simpa using Ne.symm d10);have aC:=bA;clear bA hg ke;have ke:=vD;rw [Ar h1] at ke;clear vD;repeat' (first|refine Wy ?_|fail);repeat' (first|refine Wy ?_|refine Wl (dL.cell rfl) ?_)
      have vD:=gH;clear gH;obtain ⟨u4,hu4⟩ : ∃ u,u=u2:=⟨_,rfl⟩;rw [<- hu4] at vD bX;have gH:=vD;rw [Fw (z:=(mY l split k).2) (f:=l[k].aU+e1) (s:=l[k].aA-e1) (by omega)] at gH;clear vD;refine ae.again (k+1,u3,u4) ⟨rfl,rfl,rfl,rfl,rfl,rfl,rfl,rfl,rfl,trivial⟩ (by simp only;omega) ⟨by simp only;omega,hw,bg,aC,bX,?_,?_⟩
      ·simp only;rw [QJ];exact ke
      ·simp only;rw [QJ];exact gH
    ·have ek:k=l.length:=by omega
     have Uh:=Km lP split;rw [<- ek] at Uh;rw [Uh] at ke gH;repeat' (first|refine Wy ?_|refine Wm ((fun _ _=>aC.cell)) ?_|refine Wm ((fun _ _=>bX.cell)) ?_)
     refine SW.wh (enc:=dp) u1 u2 rfl rfl rfl rfl rfl rfl fun g w2 dA V3 hZ => ?_
     have hZ:=hZ.low hw.size;(obtain ⟨hw,bg,ke,gH⟩:=dG dA hw bg ke gH);repeat' (first|refine Wy ?_|fail);refine SW.wh (enc:=bw) least least rfl rfl rfl rfl rfl rfl fun g' w3 qo aaZ hM => ?_
     have hM:=hM.low hw.size;(obtain ⟨hw,bg,ke,gH,hZ⟩:=fI qo hw bg ke gH hZ);repeat' (first|refine Wy ?_|fail);refine SW.ag bg rfl rfl rfl rfl (dU ⟨⟨some ⟨g,0,none⟩,2,2⟩,⟨some ⟨g',0,none⟩,2,2⟩,cpus,.nil,.nil⟩) fun w5 cS hg => ?_
     have hw:=hw.own gz hg;have ke:=ke.eG bg hg rfl rfl;have gH:=gH.eG bg hg rfl rfl;have hZ:=hZ.grown hg (.inr (hZ.fb bg rfl));have hM:=hM.grown hg (.inr (hM.fb bg rfl));repeat' (first|refine Wy ?_|fail);exact ae.dw rfl rfl rfl cS rfl ⟨_,rfl,hw,⟨⟨some ⟨g,0,none⟩,2,2⟩,⟨some ⟨g',0,none⟩,2,2⟩,cpus,.nil,.nil⟩,rfl,⟨rfl,hM,Own.fv _ _ _ _ _ _,⟨[u1,u2],⟨hZ,fY.two ke gH⟩⟩,⟨[],.nil _ _⟩⟩⟩
   ·rw [rb hq ha];have mm : ¬ ((0<=least∧least<=256)∧1<=cpus∧cpus<=4):=fun h=>ha ⟨hz,h⟩
    repeat' (first|refine Wy ?_|refine SW.fZ rfl rfl rfl (fun h => ?_) (fun h => ?_))
    all_goals try omega
    all_goals
     refine SW.ag bg rfl rfl rfl rfl (dU .zero) fun w5 cS hg => ?_
     have hw:=hw.own gz hg;repeat' (first|refine Wy ?_|fail);exact ae.dw rfl rfl rfl cS rfl ⟨_,rfl,hw,kF.zero 1 _ _⟩
  ·have g1:o1.1=1:=by rw [<- MJ,tT hz]
   rw [g1,rb hq (fun h=>hz h.1)];repeat' (first|refine Wy ?_|fail);refine SW.ag bg rfl rfl rfl rfl (dU .zero) fun w5 cS hg => ?_
   have hw:=hw.own gz hg;repeat' (first|refine Wy ?_|fail);exact ae.dw rfl rfl rfl cS rfl ⟨_,rfl,hw,kF.zero 1 _ _⟩
theorem Au (l:List Region) (split least cpus:Int) : (gG l split least cpus).2.small:=by
 cases hq:eR l
 ·rw [uj hq];constructor<;>simp
 ·by_cases ha:ms split least cpus
  ·rw [rc hq ha];obtain ⟨h1,h2⟩:=qZ (l:=l) ha.1 256;constructor<;>simp [ra]
   exact ⟨⟨by have:=h1.free;omega,by have:=h1.types;omega⟩,by have:=h2.free;omega,by have:=h2.types;omega⟩
  ·rw [rb hq ha];constructor<;>simp
variable {cpus least:Int} {s0:ah}
inductive vy (s0:ah) : Nat->ah->Prop where
 | zero:vy s0 0 s0
 | succ {j:Nat} {s:ah} {u:ah×Int} (m:vy s0 j s) (h:lx s (gx (kP j)) (kP j) 1 u) : vy s0 (j+1) u.1
theorem ah.Cu:ah.zero.cV:=⟨ah.kK,by simp [ah.zero,Heap.zero],by simp [ah.zero],by simp [ah.zero]⟩
theorem lx.cV {align:Int} (a:lx s n size align u) (hf:s.cV) (hn:n.size<=140737488351232) : u.1.cV:=by
 have rH:=a.small hf.small;cases a with
 | bad|form|range|gw|full=>exact ah.Cu
 | @uw i h kb nd ht hi hz ha =>
   refine ⟨rH,hf.cr,fun c hm => ?_,fun c hm => ?_⟩
   ·rcases adg hm with hm|rfl
    ·exact hf.aD c hm
    ·exact hf.aD s.aa[i] (ac0 hi)
   ·rcases adg hm with hm|rfl
    ·exact hf.names c hm
    ·intro m wy;simp only [dD] at wy;unfold aM at wy;simp only [List.mem_append,List.mem_singleton] at wy;rcases wy with (wy|rfl)|wy
     ·exact hf.names _ (ac0 hi) _ (adu wy)
     ·exact hn
     ·exact hf.names _ (ac0 hi) _ (adI wy)
 | new h kb nd ht hz hc =>
   refine ⟨rH,hf.cr,fun c hm => ?_,fun c hm => ?_⟩
   ·rcases ac9.1 hm with hm|hm
    ·exact hf.aD c hm
    ·simp only [List.mem_singleton] at hm;subst hm;simp [dP]
   ·rcases ac9.1 hm with hm|hm
    ·exact hf.names c hm
    ·simp only [List.mem_singleton] at hm;subst hm;simpa [dP] using hn
theorem vy.cV (x:vy s0 j s) : s0.cV->j<=6->s.cV:=by
 induction x with
 | zero=>exact fun h _=>h
 | succ m h ih=>exact fun hf hj=>h.cV (ih hf (by omega)) (Ca (by omega))
def Hu (h:Heap) : ah:=⟨List.replicate 4096 0,h,[]⟩
theorem Na {l:List Region} {split:Int} (h:fC 0 split) : ∀ z∈[(gE l split 256).1,(gE l split 256).2],fF z:=by
 obtain ⟨h1,h2⟩:=qZ (l:=l) h 256;have a1:=h1.from_;have a2:=h1.o8;have a3:=h2.from_;have a4:=h2.o8
 refine yj ⟨?_,?_⟩<;>(unfold fF;omega)
inductive iG (o:Int×List Region) (split least cpus:Int) : ah×Int->Prop where
 | RL (h:o.1≠0) : iG o split least cpus (.zero,o.1)
 | heap (h:o.1=0) (h2:(gG o.2 split least cpus).1≠0) : iG o split least cpus (.zero,(gG o.2 split least cpus).1)
 | made {t:ah} (h:o.1=0) (h2:(gG o.2 split least cpus).1=0) (m:vy (Hu (gG o.2 split least cpus).2) 6 t) : iG o split least cpus (t,0)
theorem Cv {l:List Region} {split:Int} (h:(gG l split least cpus).1=0) : (Hu (gG l split least cpus).2).cV:=by
 have rH:=Au l split least cpus;refine ⟨⟨by unfold Hu;rw [ad3];omega,rH,adO _,fun c h=>absurd h ae9⟩,?_,fun c h=>absurd h ae9,fun c h=>absurd h ae9⟩;cases hq:eR l
 ·rw [uj hq] at h;simp at h
 ·by_cases ha:ms split least cpus
  ·rw [rc hq ha];exact Na ha.1
  ·rw [rb hq ha] at h;simp at h
theorem iG.cV {o:Int×List Region} {split:Int} (a:iG o split least cpus u) : u.1.cV:=by
 cases a with
 | RL|heap=>exact ah.Cu
 | made h h2 m=>exact m.cV (Cv h2) (by omega)
theorem Fy (N:Nat) (x y:List Region) : (jq N x y).2.length<=N:=by
 cases h:qb x y
 ·rw [Cq h];exact adO _
 ·rw [wL h];exact (uQ _ _).len
end Go.Proofs.YtohigmjjbgpfmaaGreatDoor
