/- Part 7 of what topApart_holds leans on. -/
import Derived.Test.YtohigmjjbgpfmaaGreatDoorPackTopApart6
set_option linter.unusedVariables false
set_option linter.unusedSimpArgs false
set_option linter.defProp false
open Go.Proofs.Tryz
namespace Go.Proofs.YtohigmjjbgpfmaaGreatDoor
open Go.RowKit
variable {a o:Int} {x':Int->Prop} {s:ah} {i j:Nat}
def HI (ws:List Int) (c:aQ) (a:Int) : Prop := ∃ x∈c.ab,il c.az c.bL x.At a=true ∧ ∃ out,bO ws c.az c.bL x out∧a∉out
inductive Src
 | obj (i:Nat)
 | pg (o:Int)
def fC (s:ah) : Src->Int->Prop
 | .obj i,a => ∃ c,s.aa[i]?=some c∧HI s.Words c a
 | .pg o,a=>dj s a=true∧oF s.Heap.Live (a / 16)=o
def o7 (s:ah) (i:Nat) : Int:=((s.aa[i]?).map fun c=>c.az).getD 0
def js (s:ah) : Src->Int
 | .obj i=>o7 s i
 | .pg o=>16*pw o
theorem CD (hl:fV s.Heap.Live):dj s a=true↔(0<=a∧a % 16=0)∧(∀ c∈s.aa,∀ x∈c.ab,x.At≠a / 16) ∧ ∃ b∈s.Heap.Live,b.At=a / 16:=by
 constructor
 ·intro h;obtain ⟨h1,h2,h3⟩:=fe h;obtain ⟨hk,e⟩:=jB h1;refine ⟨⟨h2,h3⟩,fun c hc x hx e => ?_,_,adb hk,e⟩;rw [Ay hc hx e.symm] at h;cases h
 ·rintro ⟨h1,h2,b,hb,e⟩
  have hs:mE s (a / 16)=false:=by
   cases e:mE s (a / 16) with
   | false=>rfl
   | true =>
     exfalso;unfold mE at e;obtain ⟨c,hc,e⟩:=adq.1 e;obtain ⟨x,hx,e⟩:=adq.1 e;exact h2 c hc x hx (of_decide_eq_true e)
  have hf:bP s.Heap.Live (a / 16)=true:=by
   obtain ⟨k,hk,rfl⟩:=ade hb;exact (qU (kQ hl) hk e).2
  unfold dj;rw [hs,hf,decide_eq_true h1]
  rfl
theorem ke (hl:fV s.Heap.Live):fC s (.pg o) a↔(0<=a∧a % 16=0)∧(∀ c∈s.aa,∀ x∈c.ab,x.At≠a / 16) ∧ ∃ b∈s.Heap.Live,b.At=a / 16∧b.Order=o:=by
 constructor
 ·rintro ⟨h,e⟩
  obtain ⟨h1,h2,b,hb,e2⟩:=(CD hl).1 h;exact ⟨h1,h2,b,hb,e2,by rw [<- e,<- e2,iu hl hb]⟩
 ·rintro ⟨h1,h2,b,hb,e2,rfl⟩
  exact ⟨(CD hl).2 ⟨h1,h2,b,hb,e2⟩,by rw [<- e2,iu hl hb]⟩
theorem iW (hi:i<s.aa.length):fC s (.obj i) a↔HI s.Words s.aa[i] a:=by
 constructor
 ·rintro ⟨c,e,h⟩
  obtain ⟨_,rfl⟩:=adC.1 e;exact h
 ·exact fun h=>⟨_,adi hi,h⟩
theorem fC.lt (h:fC s (.obj i) a) : i<s.aa.length:=by
 obtain ⟨c,e,_⟩:=h;obtain ⟨hi,_⟩:=adC.1 e;exact hi
theorem Jd (hi:i<s.aa.length):HI s.Words s.aa[i] a ↔ ∃ k,Nk s i k a:=by
 constructor
 ·rintro ⟨x,hx,h1,h2⟩
  obtain ⟨k,hk,rfl⟩:=ade hx;exact ⟨k,hi,hk,h1,h2⟩
 ·rintro ⟨k,h⟩
  exact ⟨_,adb h.hk,h.obj,h.off⟩
theorem KA {d p s:Int} (hs : 1<=s) (h0:d<p*s) (hm:d % s=0) : d+s<=p*s:=by
 have h3:=aer d s;have h1:d / s<p:=Int.ediv_lt_of_lt_mul (by omega) h0
 have h2:(d / s+1)*s<=p*s:=aeB (by omega) (by omega)
 rw [afq,afr,aej (d / s)] at h2;omega
theorem AA {d e s:Int} (hs : 1<=s) (hd:d % s=0) (he:e % s=0) (h:d<e) : d+s<=e:=by
 have h1:=aer d s;have h2:=aer e s
 have h3:d / s<e / s:=by
  rcases afi (d / s) (e / s) with h3|h3
  ·exact h3
  ·have:=ae0 h3 (show 0<=s by omega)
   omega
 have h4:=ae0 (show d / s+1<=e / s by omega) (show 0<=s by omega);rw [Int.mul_add,Int.mul_one] at h4;omega
structure RR (s:ah) (q:Src) (a:Int) (b:Block) : Prop where
 mem:b∈s.Heap.Live
 lo : 16*b.At<=a
 hi:a+js s q<=16*(b.At+pw b.Order)
 ext : 1<=js s q
 what:(∃ i,∃ h:i<s.aa.length,q = .obj i∧js s q=s.aa[i].az∧(a-b.At*16) % s.aa[i].az=0 ∧ ∃ x∈s.aa[i].ab,x.At=b.At)∨(q = .pg b.Order∧a=16*b.At ∧ ∀ c∈s.aa,∀ x∈c.ab,x.At≠b.At)
theorem kf (hM:aB s) {q:Src} (h:fC s q a) : ∃ b,RR s q a b:=by
 cases q with
 | obj i =>
   have hi:=h.lt;obtain ⟨x,hx,ho,_⟩:=(iW hi).1 h;have hC:=(hM.each i hi).may;have hl:=cj hC.lay;have hp:=kb hC.lay;obtain ⟨b,hb,e1,e2⟩:=gI hM (adb hi) hx;have es:js s (.obj i)=s.aa[i].az:=by simp [js,o7,hi]
   unfold il at ho;simp only [Bool.and_eq_true,decide_eq_true_eq] at ho;obtain ⟨⟨h1,h2⟩,h3⟩:=ho;have h4:=KA (by omega) h2 h3;refine ⟨b,hb,by omega,?_,by omega,.inl ⟨i,hi,rfl,es,by rw [e1];exact h3,x,hx,e1.symm⟩⟩;rw [es,e1,e2];obtain ⟨p,ep⟩ : ∃ p,s.aa[i].bL*s.aa[i].az=p:=⟨_,rfl⟩;rw [ep] at hp h4;have Xd:pw 0=1:=by decide
   have Xe:pw 1=2:=by decide
   have Xf:pw 2=4:=by decide
   rcases hp with ⟨eo,h5⟩|⟨eo,h5⟩|⟨eo,h5⟩<;>rw [eo]<;>omega
 | pg o =>
   obtain ⟨h1,h2,b,hb,e1,rfl⟩:=(ke hM.heap.live).1 h;have hl:=(hM.heap.live.all b hb).1;have hp:=cQ hl.1 hl.2;have es:js s (.pg b.Order)=16*pw b.Order:=rfl
   exact ⟨b,hb,by omega,by rw [es];omega,by rw [es];omega,.inr ⟨rfl,by omega,fun c hc x hx=>by rw [e1];exact h2 c hc x hx⟩⟩
theorem tu (hM:aB s) (hi:i<s.aa.length) (hj:j<s.aa.length) {x y:Slab} (hx:x∈s.aa[i].ab) (hy:y∈s.aa[j].ab) (e:x.At=y.At) : i=j:=by
 by_cases h:i=j
 ·exact h
 ·exact absurd e (nO hM hi hj h hx hy)
theorem Je (hM:aB s) {q r:Src} {z:Int} {b d:Block} (h:RR s q a b) (k:RR s r z d) : q=r∧b.At=d.At∧(q=r->a=z∨a+js s q<=z∨z+js s r<=a)∨a+js s q<=z∨z+js s r<=a:=by
 by_cases e:b.At=d.At
 ·left;rcases h.what with ⟨i,hi,rfl,e1,e2,x,hx,e3⟩|⟨rfl,e1,e2⟩
  ·rcases k.what with ⟨j,hj,rfl,f1,f2,y,hy,f3⟩|⟨rfl,f1,f2⟩
   ·obtain rfl:=tu hM hi hj hx hy (by rw [e3,f3,e]);have hl:=cj (hM.each i hi).may.lay;refine ⟨rfl,e,fun _ => ?_⟩;rw [e1];rw [<- e] at f2;rcases Int.lt_trichotomy a z with g|g|g
    ·have:=AA (by omega) e2 f2 (by omega);right;left;omega
    ·exact .inl g
    ·have:=AA (by omega) f2 e2 (by omega);right;right;omega
   ·exact absurd (by rw [e3,e]) (f2 _ (adb hi) x hx)
  ·rcases k.what with ⟨j,hj,rfl,f1,f2,y,hy,f3⟩|⟨rfl,f1,f2⟩
   ·exact absurd (by rw [f3,e]) (e2 _ (adb hj) y hy)
   ·have hb:b.Order=d.Order:=by
     have h1:=iu hM.heap.live h.mem;have h2:=iu hM.heap.live k.mem;rw [<- h1,<- h2,e]
    exact ⟨by rw [hb],e,fun _ => .inl (by rw [e1,f1,e])⟩
 ·right;have:=gH hM.heap h.mem k.mem e
  have h1:=h.lo;have h2:=h.hi;have h3:=k.lo;have h4:=k.hi;omega
theorem tv (hM:aB s) {q r:Src} (h:fC s q a) (k:fC s r a) : q=r:=by
 obtain ⟨b,hb⟩:=kf hM h;obtain ⟨d,hd⟩:=kf hM k;have h1:=hb.ext;have h2:=hd.ext;rcases Je hM hb hd with h|h|h
 ·exact h.1
 ·omega
 ·omega
theorem uA (hM:aB s) {q r:Src} {z:Int} (h:fC s q a) (k:fC s r z) (bJ:a≠z) : a+js s q<=z∨z+js s r<=a:=by
 obtain ⟨b,hb⟩:=kf hM h;obtain ⟨d,hd⟩:=kf hM k;rcases Je hM hb hd with ⟨h1,_,h2⟩|h|h
 ·rcases h2 h1 with h|h|h
  ·exact absurd h bJ
  ·exact .inl h
  ·exact .inr h
 ·exact .inl h
 ·exact .inr h
theorem fu (hM:aB s) {q:Src} (h:fC s q a) : 0<=a∧a+js s q<=4096∧1<=js s q:=by
 obtain ⟨b,hb⟩:=kf hM h;obtain ⟨l1,l2,l3,_⟩:=hM.heap.live.all b hb.mem;have:=wY l1.1 l1.2 l2.1 (show b.At<256 by omega) l3
 have h1:=hb.lo;have h2:=hb.hi;have h3:=hb.ext;omega
def kw (s:ah) : List (List ByteArray×Int):=s.aa.map fun c=>(c.Names,c.az)
structure eW (s t:ah) (x:Int->Prop) (y:Src->Int->Prop) : Prop where
 aw:∀ q a,fC t q a↔(fC s q a ∧ ¬ x a)∨y q a
 words:∀ q a,fC s q a -> ¬ x a->t.Words[a.toNat]?=s.Words[a.toNat]?
 shape:kw t=kw s
 cpus:t.Heap.bG=s.Heap.bG
def rp:Int->Prop:=fun _=>False
def wZ:Src->Int->Prop:=fun _ _=>False
theorem eW.refl (s:ah) : eW s s rp wZ:=⟨fun q a=>by simp [rp,wZ],fun _ _ _ _=>rfl,rfl,rfl⟩
theorem eW.trans {t u:ah} {x:Int->Prop} {y y':Src->Int->Prop} (h:eW s t x y) (k:eW t u x' y') : eW s u (fun a=>x a∨x' a) (fun q a=>(y q a ∧ ¬ x' a)∨y' q a) :=
 ⟨fun q a=>by
  rw [k.aw,h.aw];by_cases h1:x a<;>by_cases h2:x' a<;>simp [h1,h2,or_assoc],
  fun q a ha hx=>by
   rw [k.words q a ((h.aw q a).2 (.inl ⟨ha,fun h=>hx (.inl h)⟩)) fun h=>hx (.inr h)];exact h.words q a ha fun h=>hx (.inl h),
  k.shape.trans h.shape,k.cpus.trans h.cpus⟩
theorem eW.congr {t:ah} {x:Int->Prop} {y y':Src->Int->Prop} (h:eW s t x y) (hx:∀ a,x a↔x' a) (hy:∀ q a,y q a↔y' q a) : eW s t x' y' :=
 ⟨fun q a=>by rw [h.aw,hx,hy],fun q a ha hn=>h.words q a ha (by rw [hx];exact hn),h.shape,h.cpus⟩
theorem tw (s:ah) (i:Nat) : o7 s i=(((kw s)[i]?).map fun p=>p.2).getD 0:=by
 unfold o7 kw;rw [aeM];cases s.aa[i]?<;>rfl
theorem eW.ext {t:ah} {x:Int->Prop} {y:Src->Int->Prop} (h:eW s t x y) (q:Src) : js t q=js s q:=by
 cases q with
 | obj i=>simp only [js,tw,h.shape]
 | pg=>rfl
variable {α:Type} {cpu fl:Int} {c c':aQ} {ws Rm:List Int} {k:Nat}
theorem o8 {l:List α} {p:Nat} {x y : α}:y∈aN l p x↔y=x∨y∈l:=by
 unfold aN;rw [adj,adm,adm,ae3];constructor
 ·rintro (h|rfl|h)
  ·exact .inr (adE h)
  ·exact .inl rfl
  ·exact .inr (adU h)
 ·rintro (rfl|hb)
  ·exact .inr (.inl rfl)
  ·have e:=adh p l;have iz:y∈l.take p++l.drop p:=by rw [e];exact hb
   rcases adm.1 iz with hb|hb
   ·exact .inl hb
   ·exact .inr (.inr hb)
theorem lN {h:Heap} {t:Int} {b:Block}:b∈dU h a o t↔b=⟨a,o,t⟩∨b∈h.Live:=o8
theorem vJ (hM:aB s) {u:Heap×Int×Int} (hu:cU s.Heap cpu o fl u) (u0:u.2.2=0) (q:Src) : ¬ fC s q (16*u.2.1):=fun h=>by
 obtain ⟨hm,BB,⟨ty,zt,CA⟩,I6⟩:=hu.from_ u0;have mY:=hu.may u0;obtain ⟨b,hb⟩:=kf hM h;have hn:(⟨u.2.1,o,ty⟩ : Block)∈u.1.Live:=by rw [CA];exact lN.2 (.inl rfl)
 have iz:b∈u.1.Live:=by rw [CA];exact lN.2 (.inr hb.mem)
 have h1:=gH mY iz hn (I6 b hb.mem);have h2:=(mY.live.all _ hn).1;have h3:=cQ h2.1 h2.2;have h4:=hb.lo;have h5:=hb.hi;have h6:=hb.ext;simp only at h1 h3;omega
theorem AB (hM:aB s) {u:Heap×Int×Int} (hu:cU s.Heap cpu o fl u) (u0:u.2.2=0) : eW s (rj s u.1) rp (fun q a=>q = .pg o∧a=16*u.2.1):=by
 obtain ⟨hm,BB,⟨ty,zt,CA⟩,I6⟩:=hu.from_ u0;have mY:=hu.may u0;have lg:=hu.at_ u0;refine ⟨fun q a => ?_,fun _ _ _ _=>rfl,rfl,BB⟩;cases q with
 | obj i =>
   constructor
   ·exact fun h => .inl ⟨h,fun h=>h⟩
   ·rintro (⟨h,_⟩|⟨h,_⟩)
    ·exact h
    ·cases h
 | pg r =>
   rw [ke (s:=rj s u.1) mY.live,ke hm.live];constructor
   ·rintro ⟨h1,h2,b,hb,e1,e2⟩
    have iz:b∈dU s.Heap u.2.1 o ty:=by rw [<- CA];exact hb
    rcases lN.1 iz with rfl|iz
    ·simp only at e1 e2;exact .inr ⟨by rw [e2],by omega⟩
    ·exact .inl ⟨⟨h1,h2,b,iz,e1,e2⟩,fun h=>h⟩
   ·rintro (⟨⟨h1,h2,b,hb,e1,e2⟩,_⟩|⟨h1,rfl⟩)
    ·exact ⟨h1,h2,b,by show b∈u.1.Live;rw [CA];exact lN.2 (.inr hb),e1,e2⟩
    ·injection h1 with h1
     subst h1;refine ⟨⟨by omega,by omega⟩,fun c hc x hx e => ?_,⟨u.2.1,r,ty⟩,?_,?_,rfl⟩
     ·obtain ⟨b,hb,e'⟩:=nN hM hc hx;exact I6 b hb (by omega)
     ·show _∈u.1.Live
      rw [CA];exact lN.2 (.inl rfl)
     ·simp only;omega
theorem CE (hM:aB s) (hq : 0<=cpu∧cpu<s.Heap.bG) (hw:dj s (a*16)=true) : eW s (rj s (iR s.Heap cpu a)) (fun z=>z=a*16) wZ:=by
 have hm:=hM.heap;obtain ⟨hf,h0,_⟩:=fe hw;rw [show a*16 / 16=a by omega] at hf;have mY:=tp hm hq hf;obtain ⟨p1,p2,p3⟩:=nG (cpu:=cpu) hm hf;have hA:fC s (.pg (oF s.Heap.Live (a*16 / 16))) (a*16):=⟨hw,rfl⟩
 refine ⟨fun q z => ?_,fun _ _ _ _=>rfl,rfl,p1⟩;simp only [wZ,or_false];cases q with
 | obj i =>
   constructor
   ·refine fun h=>⟨h,fun e => ?_⟩
    subst e;have h':fC s (.obj i) (a*16):=h
    cases tv hM h' hA
   ·exact fun h=>h.1
 | pg r =>
   rw [ke (s:=rj s (iR s.Heap cpu a)) mY.live,ke hm.live];constructor
   ·rintro ⟨h1,h2,b,hb,e1,e2⟩
    have iz:b∈s.Heap.Live.eraseIdx (bE s.Heap.Live a):=by rw [<- p2];exact hb
    obtain ⟨aZ,au⟩:=(kd hm.live hf).1 iz;exact ⟨⟨h1,h2,b,aZ,e1,e2⟩,by omega⟩
   ·rintro ⟨⟨h1,h2,b,hb,e1,e2⟩,bJ⟩
    refine ⟨h1,h2,b,?_,e1,e2⟩;show b∈(iR s.Heap cpu a).Live
    rw [p2];exact (kd hm.live hf).2 ⟨hb,by omega⟩
theorem HJ (hM:aB s) : eW s (rj s (k6 s.Heap).2) rp wZ:=by
 have hm:=hM.heap;obtain ⟨z0,z1,h1,_⟩:=hm.ct;rw [vB (cq.2 hm) h1];refine ⟨fun q z => ?_,fun _ _ _ _=>rfl,rfl,rfl⟩;simp only [rp,wZ,or_false,not_false_iff,and_true];cases q<;>exact Iff.rfl
theorem Jf (h:s.aa[i]?=some c):fC s (.obj i) a↔HI s.Words c a:=by
 constructor
 ·rintro ⟨d,e,h'⟩
  rw [h] at e;injection e with e
  rw [e];exact h'
 ·exact fun h'=>⟨c,h,h'⟩
theorem sO {t:ah} {x y:Int->Prop} (hM:aB s) (hi:i<s.aa.length) (hc:t.aa=s.aa.set i c') (hn:c'.Names=s.aa[i].Names) (hz:c'.az=s.aa[i].az) (pL:t.Heap.bG=s.Heap.bG)
 (cy:∀ a,HI t.Words c' a↔(HI s.Words s.aa[i] a ∧ ¬ x a)∨y a) (hx:∀ a,x a->fC s (.obj i) a)
 (ho:∀ (j:Nat) (hj:j<s.aa.length),j≠i -> ∀ a,HI t.Words s.aa[j] a↔HI s.Words s.aa[j] a)
 (hp:∀ o a,fC t (.pg o) a↔fC s (.pg o) a)
 (hw:∀ q a,fC s q a -> ¬ x a->t.Words[a.toNat]?=s.Words[a.toNat]?) : eW s t x (fun q a=>q = .obj i∧y a):=by
 refine ⟨fun q a => ?_,hw,?_,pL⟩
 ·cases q with
  | obj j =>
    by_cases e:j=i
    ·subst e;rw [Jf (c:=c') (by rw [hc];exact aef hi),iW hi,cy];simp
    ·have h1:t.aa[j]?=s.aa[j]?:=by rw [hc,aei (fun h=>e h.symm)]
     have h2 : ¬ (Src.obj j=Src.obj i):=fun h=>e (Src.obj.inj h)
     by_cases hj:j<s.aa.length
     ·rw [Jf (h1.trans (adi hj)),ho j hj e,iW hj];constructor
      ·refine fun h => .inl ⟨h,fun Oa => ?_⟩
       exact h2 (tv hM ((iW hj).2 h) (hx a Oa))
      ·rintro (⟨h,_⟩|⟨h,_⟩)
       ·exact h
       ·exact absurd h h2
     ·constructor
      ·rintro ⟨d,e',_⟩
       rw [h1,adY (by omega)] at e';cases e'
      ·rintro (⟨h,_⟩|⟨h,_⟩)
       ·exact absurd h.lt hj
       ·exact absurd h h2
  | pg o =>
    rw [hp];constructor
    ·refine fun h => .inl ⟨h,fun Oa => ?_⟩
     cases tv hM h (hx a Oa)
    ·rintro (⟨h,_⟩|⟨h,_⟩)
     ·exact h
     ·cases h
 ·unfold kw;rw [hc,aew];refine ad1 (by simp) fun j g1 g2 => ?_
  rw [adB];split
  ·rename_i e;subst e;simp [hn,hz]
  ·rfl
theorem xa (h:∀ x∈c.ab,∃ out,bO ws c.az c.bL x out∧bO Rm c.az c.bL x out) (a:Int) : HI Rm c a↔HI ws c a:=by
 constructor
 ·rintro ⟨x,hx,h1,o,h2,h3⟩
  obtain ⟨out,k1,k2⟩:=h x hx;exact ⟨x,hx,h1,out,k1,by rw [k2.dq h2];exact h3⟩
 ·rintro ⟨x,hx,h1,o,h2,h3⟩
  obtain ⟨out,k1,k2⟩:=h x hx;exact ⟨x,hx,h1,out,k2,by rw [k1.dq h2];exact h3⟩
theorem eK {l:List α} (hk:k<l.length) {y x : α}:x∈l.set k y↔x=y ∨ ∃ j,∃ hj:j<l.length,j≠k∧x=l[j]:=by
 constructor
 ·intro h;obtain ⟨j,hj,rfl⟩:=ade h;rw [adK] at hj;rw [adB];split
  ·exact .inl rfl
  ·rename_i e;exact .inr ⟨j,hj,fun e'=>e e'.symm,rfl⟩
 ·rintro (rfl|⟨j,hj,bJ,rfl⟩)
  ·exact List.mem_iff_getElem.2 ⟨k,by rw [adK];exact hk,by simp⟩
  ·exact List.mem_iff_getElem.2 ⟨j,by rw [adK];exact hj,by rw [adB,if_neg fun e=>bJ e.symm]⟩
theorem Jg (hk:k<c.ab.length) {y:Slab} (e:c'.ab=c.ab.set k y) (ez:c'.az=c.az) (ep:c'.bL=c.bL)
 (Up:∀ (j:Nat) (hj:j<c.ab.length),j≠k -> ∃ out,bO ws c.az c.bL c.ab[j] out∧bO Rm c.az c.bL c.ab[j] out)
 {o o':List Int} (ho:bO ws c.az c.bL c.ab[k] o) (nQ:bO Rm c.az c.bL y o') (ey:y.At=c.ab[k].At) {p r:Int->Prop}
 (cy:∀ a,il c.az c.bL c.ab[k].At a=true->(a∉o'↔(a∉o ∧ ¬ p a)∨r a)) (hx:∀ a,p a∨r a->il c.az c.bL c.ab[k].At a=true)
 (hd:∀ (j:Nat) (hj:j<c.ab.length),j≠k -> ∀ a,il c.az c.bL c.ab[j].At a=true->il c.az c.bL c.ab[k].At a=true->False) (a:Int) :
 HI Rm c' a↔(HI ws c a ∧ ¬ p a)∨r a:=by
 unfold HI;rw [e,ez,ep];constructor
 ·rintro ⟨x,pN,h1,out,h2,h3⟩
  rcases (eK hk).1 pN with rfl|⟨j,hj,bJ,rfl⟩
  ·rw [ey] at h1;rw [h2.dq nQ] at h3;rcases (cy a h1).1 h3 with ⟨h4,h5⟩|h4
   ·exact .inl ⟨⟨_,adb hk,h1,o,ho,h4⟩,h5⟩
   ·exact .inr h4
  ·obtain ⟨o2,k1,k2⟩:=Up j hj bJ;refine .inl ⟨⟨_,adb hj,h1,o2,k1,by rw [k2.dq h2];exact h3⟩,fun hp => ?_⟩;exact hd j hj bJ a h1 (hx a (.inl hp))
 ·rintro (⟨⟨x,pN,h1,out,h2,h3⟩,h4⟩|h)
  ·obtain ⟨j,hj,rfl⟩:=ade pN;by_cases bJ:j=k
   ·subst bJ;rw [h2.dq ho] at h3;exact ⟨y,(eK hk).2 (.inl rfl),by rw [ey];exact h1,o',nQ,(cy a h1).2 (.inl ⟨h3,h4⟩)⟩
   ·obtain ⟨o2,k1,k2⟩:=Up j hj bJ;exact ⟨_,(eK hk).2 (.inr ⟨j,hj,bJ,rfl⟩),h1,o2,k2,by rw [k1.dq h2];exact h3⟩
  ·have h1:=hx a (.inr h);exact ⟨y,(eK hk).2 (.inl rfl),by rw [ey];exact h1,o',nQ,(cy a h1).2 (.inr h)⟩
theorem CF {ws:List Int} {size per:Int} {x:Slab} {out:List Int} (hs : 1<=size) (h:bO ws size per x out) (hf:x.aj=per) (hp : 1<=per) {a:Int} (ho:il size per x.At a=true) : a∈out:=by
 rcases Classical.em (a∈out) with h'|h'
 ·exact h'
 ·exfalso;obtain ⟨k1,k2,k3,k4,k5⟩:=(ie (by omega)).1 h
  have:=Ax (per:=per) hs (l:=a::out) (aeb.2 ⟨h',k2⟩) (fun b hb=>by
   rcases aee.1 hb with rfl|hb
   ·exact ho
   ·exact k5 b hb)
  rcases this with h|h
  ·simp only [List.length_cons] at h;omega
  ·cases h
theorem FI (hM:aB s) (hi:i<s.aa.length) (hk:k<s.aa[i].ab.length) {out:List Int} (ho:bO s.Words s.aa[i].az s.aa[i].bL s.aa[i].ab[k] out) (hm:a∈out) (q:Src) : ¬ fC s q a:=fun h=>by
 have mV:=ho.2.2 a hm;cases q with
 | obj j =>
   have hj:=h.lt;obtain ⟨x,hx,h1,o,h2,h3⟩:=(iW hj).1 h;obtain ⟨r,hr,rfl⟩:=ade hx;by_cases e:i=j∧k=r
   ·obtain ⟨rfl,rfl⟩:=e;rw [h2.dq ho] at h3;exact h3 hm
   ·exact vI hM hi hj hk hr e mV h1
 | pg o =>
   have:=CC hM hi hk mV
   rw [h.1] at this;cases this
theorem tx {cs:List aQ} {z:Int}:(∀ c∈cs,∀ x∈c.ab,x.At≠z)↔z∉aL cs:=by
 unfold aL;constructor
 ·intro h hm;obtain ⟨c,hc,hx⟩:=adx.1 hm;obtain ⟨x,hx,e⟩:=adv.1 hx;exact h c hc x hx e
 ·intro h c hc x hx e;exact h (adx.2 ⟨c,hc,adv.2 ⟨x,hx,e⟩⟩)
theorem AD {t:ah} (hs:fV s.Heap.Live) (hh:t.Heap.Live=s.Heap.Live) (hz:aL t.aa=aL s.aa) (o a:Int) : fC t (.pg o) a↔fC s (.pg o) a:=by
 rw [ke (s:=t) (by rw [hh];exact hs),ke hs,tx,tx,hz,hh]
theorem xb {cs:List aQ} (hi:i<cs.length) {z:Int}:z∈aL (cs.set i c')↔z∈oV c' ∨ ∃ j,∃ hj:j<cs.length,j≠i∧z∈oV cs[j]:=by
 rw [db,List.mem_flatten];constructor
 ·rintro ⟨L,hL,hz⟩
  obtain ⟨c,hc,rfl⟩:=adv.1 hL;rcases (eK hi).1 hc with rfl|⟨j,hj,bJ,rfl⟩
  ·exact .inl hz
  ·exact .inr ⟨j,hj,bJ,hz⟩
 ·rintro (hz|⟨j,hj,bJ,hz⟩)
  ·exact ⟨_,adv.2 ⟨c',(eK hi).2 (.inl rfl),rfl⟩,hz⟩
  ·exact ⟨_,adv.2 ⟨_,(eK hi).2 (.inr ⟨j,hj,bJ,rfl⟩),rfl⟩,hz⟩
theorem AE {cs:List aQ} (hi:i<cs.length) {z:Int}:z∈aL cs↔z∈oV cs[i] ∨ ∃ j,∃ hj:j<cs.length,j≠i∧z∈oV cs[j]:=by
 have:=xb hi (c':=cs[i]) (z:=z)
 rwa [adW] at this
theorem tz {z:Int}:z∈oV c ↔ ∃ x∈c.ab,x.At=z:=by unfold oV;exact adv
theorem CG (hM:aB s) {cpu:Nat} (hi:i<s.aa.length) (hk:k<s.aa[i].ab.length) (hf : 0<s.aa[i].ab[k].aj) :
 eW s ⟨s.Words,s.Heap,s.aa.set i (dL s.aa[i] cpu k (s.Words.getD s.aa[i].ab[k].ck.toNat 0))⟩ rp (fun q a=>q = .obj i∧a=s.aa[i].ab[k].ck) ∧ ∀ q,¬ fC s q s.aa[i].ab[k].ck:=by
 have hC:=(hM.each i hi).may;have hl:=cj hC.lay;have BC : 0<=s.aa[i].bL:=by omega
 obtain ⟨out,ho⟩:=(hC.aE k hk).chain;obtain ⟨k1,k2,k3,k4,k5⟩:=(ie BC).1 ho;obtain ⟨q,rest,e1,e2,hq,e3⟩:=k1.head (fun e=>by rw [e] at k4;simp at k4;omega)
 have ev:s.Words.getD s.aa[i].ab[k].ck.toNat 0=s.Words[q]:=by
  rw [e1];simp [List.getD,List.getElem?_eq_getElem hq]
 rw [e2] at k2 k3 k4 k5;simp only [List.length_cons] at k3 k4;have Xg:=(aeb.1 k2).1;have mV:=k5 s.aa[i].ab[k].ck (by simp);have nQ:bO s.Words s.aa[i].az s.aa[i].bL ⟨s.aa[i].ab[k].At,s.aa[i].ab[k].aj-1,s.Words[q]⟩ rest:=(ie (x:=⟨s.aa[i].ab[k].At,s.aa[i].ab[k].aj-1,s.Words[q]⟩) BC).2 ⟨e3,(aeb.1 k2).2,by omega,by simp only;omega,fun a ha=>k5 a (by simp [ha])⟩
 have Av:oV (dL s.aa[i] cpu k (s.Words.getD s.aa[i].ab[k].ck.toNat 0))=oV s.aa[i]:=by
  unfold oV dL;simp only [fp hk];exact yQ hk rfl
 refine ⟨sO hM hi rfl rfl rfl rfl (fun a => ?_) (fun a h=>h.elim) (fun j hj bJ a=>Iff.rfl) (AD (t:=⟨s.Words,s.Heap,s.aa.set i (dL s.aa[i] cpu k (s.Words.getD s.aa[i].ab[k].ck.toNat 0))⟩) hM.heap.live rfl (gJ hi Av)) (fun _ _ _ _=>rfl),fun r h=>FI hM hi hk ho (by rw [e2];simp) r h⟩;refine Jg (c:=s.aa[i]) (c':=dL s.aa[i] cpu k (s.Words.getD s.aa[i].ab[k].ck.toNat 0)) hk (y:=⟨s.aa[i].ab[k].At,s.aa[i].ab[k].aj-1,s.Words[q]⟩) (by simp only [dL,fp hk,ev]) rfl rfl (fun j hj bJ => ?_) ho nQ rfl (p:=rp) (r:=fun a=>a=s.aa[i].ab[k].ck) (fun a h => ?_) (fun a h => ?_) (fun j hj bJ a h1 h2=>vI hM hi hi hj hk (fun e=>bJ e.2) h1 h2) a
 ·obtain ⟨o,h⟩:=(hC.aE j hj).chain;exact ⟨o,h,h⟩
 ·rw [e2];simp only [rp,not_false_iff,and_true,List.mem_cons,not_or];constructor
  ·intro h';by_cases e:a=s.aa[i].ab[k].ck
   ·exact .inr e
   ·exact .inl ⟨e,h'⟩
  ·rintro (h'|rfl)
   ·exact h'.2
   ·exact Xg
 ·rcases h with h|rfl
  ·exact h.elim
  ·exact mV
theorem grow_step (hM:aB s) (hi:i<s.aa.length) {u:Heap×Int×Int} (hu:cU s.Heap cpu s.aa[i].Order 0 u) (u0:u.2.2=0) (hc:jq s.Words.length (16*u.2.1) s.aa[i].az s.aa[i].bL) :
 eW s ⟨dJ s.Words (16*u.2.1) s.aa[i].az s.aa[i].bL,u.1,s.aa.set i (dZ s.aa[i] u.2.1)⟩ rp wZ:=by
 have hC:=(hM.each i hi).may;have hl:=cj hC.lay;obtain ⟨hw,yC,hold,HG⟩:=FE hM hi hu u0 hc;obtain ⟨hm,BB,⟨ty,zt,CA⟩,I6⟩:=hu.from_ u0;have mY:=hu.may u0;have hn:(⟨u.2.1,s.aa[i].Order,ty⟩ : Block)∈u.1.Live:=by rw [CA];exact lN.2 (.inl rfl)
 have fk:∀ c∈s.aa,fc s c -> ∀ a,HI (dJ s.Words (16*u.2.1) s.aa[i].az s.aa[i].bL) c a↔HI s.Words c a:=fun c hc SH a=>by
  refine xa (fun x hx => ?_) a;obtain ⟨k,hk,rfl⟩:=ade hx;obtain ⟨o,h⟩:=(SH.aE k hk).chain;exact ⟨o,h,hold c hc SH _ hx o h⟩
 refine (sO (t:=⟨dJ s.Words (16*u.2.1) s.aa[i].az s.aa[i].bL,u.1,s.aa.set i (dZ s.aa[i] u.2.1)⟩) (x:=rp) (y:=fun _=>False) (c':=dZ s.aa[i] u.2.1) hM hi rfl rfl rfl BB (fun a => ?_) (fun a h=>h.elim) (fun j hj bJ a=>fk _ (adb hj) (hM.each j hj).may a) (fun o a => ?_) (fun q a h _ => ?_)).congr (fun a=>Iff.rfl) (fun q a=>by simp [wZ])
 ·simp only [rp,not_false_iff,and_true,or_false];rw [<- fk _ (adb hi) hC];constructor
  ·rintro ⟨x,hx,h1,o,h2,h3⟩
   have UT:il s.aa[i].az s.aa[i].bL x.At a=true:=h1
   have ns:bO (dJ s.Words (16*u.2.1) s.aa[i].az s.aa[i].bL) s.aa[i].az s.aa[i].bL x o:=h2
   rcases o8.1 hx with rfl|hx
   ·exact absurd (CF (by omega) ns rfl (by omega) UT) h3
   ·exact ⟨x,hx,UT,o,ns,h3⟩
  ·rintro ⟨x,hx,h1,o,h2,h3⟩
   exact ⟨x,o8.2 (.inr hx),h1,o,h2,h3⟩
 ·rw [ke (s:=⟨dJ s.Words (16*u.2.1) s.aa[i].az s.aa[i].bL,u.1,s.aa.set i (dZ s.aa[i] u.2.1)⟩) mY.live,ke hm.live,tx,tx]
  have hz:∀ z,z∈aL (s.aa.set i (dZ s.aa[i] u.2.1))↔z=u.2.1∨z∈aL s.aa:=fun z=>by
   have e:z∈oV (dZ s.aa[i] u.2.1)↔z=u.2.1∨z∈oV s.aa[i]:=by
    rw [tz,tz];constructor
    ·rintro ⟨x,hx,rfl⟩
     rcases o8.1 hx with rfl|hx
     ·exact .inl rfl
     ·exact .inr ⟨x,hx,rfl⟩
    ·rintro (rfl|⟨x,hx,rfl⟩)
     ·exact ⟨_,o8.2 (.inl rfl),rfl⟩
     ·exact ⟨x,o8.2 (.inr hx),rfl⟩
   rw [xb hi,AE hi,e,or_assoc]
  rw [hz];constructor
  ·rintro ⟨h1,h2,b,hb,e1,e2⟩
   refine ⟨h1,fun h=>h2 (.inr h),b,?_,e1,e2⟩;have iz:b∈dU s.Heap u.2.1 s.aa[i].Order ty:=by rw [<- CA];exact hb
   rcases lN.1 iz with rfl|iz
   ·exact absurd (.inl e1.symm) h2
   ·exact iz
  ·rintro ⟨h1,h2,b,hb,e1,e2⟩
   refine ⟨h1,fun h => ?_,b,by show b∈u.1.Live;rw [CA];exact lN.2 (.inr hb),e1,e2⟩;rcases h with h|h
   ·exact I6 b hb (e1.trans h)
   ·exact h2 h
 ·obtain ⟨b,hb⟩:=kf hM h;have iz:b∈u.1.Live:=by rw [CA];exact lN.2 (.inr hb.mem)
  have h1:=gH mY iz hn (I6 b hb.mem);have h2:=hb.lo;have h3:=hb.hi;have h4:=hb.ext;have h5:=(mY.live.all b iz).2.1;simp only at h1;exact hw a (by omega) (by omega)
theorem Nl (hM:aB s) (hi:i<s.aa.length) (hk:k<s.aa[i].ab.length) {out:List Int} (mV:il s.aa[i].az s.aa[i].bL s.aa[i].ab[k].At a=true) (ho:bO s.Words s.aa[i].az s.aa[i].bL s.aa[i].ab[k] out) (oH:a∉out) :
 eW s ⟨s.Words.set a.toNat s.aa[i].ab[k].ck,s.Heap,s.aa.set i (iq s.aa[i] k s.aa[i].ab[k] a)⟩ (fun z=>z=a) wZ:=by
 have hC:=(hM.each i hi).may;obtain ⟨ha,p9,j3⟩:=I9 hM hi hk mV ho oH;have BD:s.aa[i].ab[k]∈s.aa[i].ab:=adb hk
 have hA:fC s (.obj i) a:=(iW hi).2 ⟨_,BD,mV,out,ho,oH⟩
 have Av:oV (iq s.aa[i] k s.aa[i].ab[k] a)=oV s.aa[i]:=yQ hk rfl
 refine (sO (t:=⟨s.Words.set a.toNat s.aa[i].ab[k].ck,s.Heap,s.aa.set i (iq s.aa[i] k s.aa[i].ab[k] a)⟩) (x:=fun z=>z=a) (y:=fun _=>False) (c':=iq s.aa[i] k s.aa[i].ab[k] a) hM hi rfl rfl rfl rfl (fun z => ?_) (fun z h=>by rw [h];exact hA) (fun j hj bJ z => ?_) (AD (t:=⟨s.Words.set a.toNat s.aa[i].ab[k].ck,s.Heap,s.aa.set i (iq s.aa[i] k s.aa[i].ab[k] a)⟩) hM.heap.live rfl (gJ hi Av)) (fun q z h bJ => ?_)).congr (fun z=>Iff.rfl) (fun q z=>by simp [wZ])
 ·refine Jg (c:=s.aa[i]) (c':=iq s.aa[i] k s.aa[i].ab[k] a) hk (y:=⟨s.aa[i].ab[k].At,s.aa[i].ab[k].aj+1,a⟩) rfl rfl rfl (fun j hj bJ => ?_) ho j3 rfl (p:=fun z=>z=a) (r:=fun _=>False) (fun z h => ?_) (fun z h => ?_) (fun j hj bJ z h1 h2=>vI hM hi hi hj hk (fun e=>bJ e.2) h1 h2) z
  ·obtain ⟨o,h⟩:=(hC.aE j hj).chain;refine ⟨o,h,p9 _ (adb hi) hC _ (adb hj) (fun e => ?_) o h⟩;have FG:=mU hC;rw [adl] at FG;rcases aep bJ with g|g
   ·have:=FG j k hj hk g;omega
   ·have:=FG k j hk hj g;omega
  ·simp only [List.mem_cons,not_or,or_false];exact ⟨fun h=>⟨h.2,h.1⟩,fun h=>⟨h.2,h.1⟩⟩
  ·rcases h with rfl|h
   ·exact mV
   ·exact h.elim
 ·refine xa (fun x hx => ?_) z;obtain ⟨r,hr,rfl⟩:=ade hx;obtain ⟨o,h⟩:=((hM.each j hj).may.aE r hr).chain;exact ⟨o,h,p9 _ (adb hj) (hM.each j hj).may _ hx (nO hM hj hi bJ hx BD) o h⟩
 ·have hz:=fu hM h;rw [aei];have:z≠a:=bJ
  omega
theorem mem_erase_iff {l:List α} {x : α}:x∈l.eraseIdx k ↔ ∃ j,∃ hj:j<l.length,j≠k∧l[j]=x:=aek
theorem FJ (hM:aB s) (hi:i<s.aa.length) (hk:k<s.aa[i].ab.length) (hf:s.aa[i].ab[k].aj=s.aa[i].bL) (pL : 0<=cpu∧cpu<s.Heap.bG) :
 eW s ⟨s.Words,(fh s.Heap cpu s.aa[i].ab[k].At).2,s.aa.set i (eQ s.aa[i] k)⟩ rp wZ:=by
 have hC:=(hM.each i hi).may;have hl:=cj hC.lay;have hm:=hM.heap;have BD:s.aa[i].ab[k]∈s.aa[i].ab:=adb hk
 obtain ⟨b0,Dr,Qo,Ve⟩:=gI hM (adb hi) BD
 have Mg:bP s.Heap.Live s.aa[i].ab[k].At=true:=by
  obtain ⟨q,hq,rfl⟩:=ade Dr;exact (qU (kQ hm.live) hq Qo).2
 have mY:=tp hm pL Mg;obtain ⟨p1,p2,p3⟩:=nG (cpu:=cpu) hm Mg;rw [nz (cq.2 hm) pL Mg]
 have bJ:∀ (q:Nat) (hq:q<s.aa[i].ab.length),q≠k->s.aa[i].ab[q].At≠s.aa[i].ab[k].At:=fun q hq RP=>by
  have:=mU hC
  rw [adl] at this;rcases aep RP with g|g
  ·have:=this q k hq hk g;omega
  ·have:=this k q hk hq g;omega
 refine (sO (t:=⟨s.Words,iR s.Heap cpu s.aa[i].ab[k].At,s.aa.set i (eQ s.aa[i] k)⟩) (x:=rp) (y:=fun _=>False) (c':=eQ s.aa[i] k) hM hi rfl rfl rfl p1 (fun z => ?_) (fun z h=>h.elim) (fun j hj bJ z=>Iff.rfl) (fun o z => ?_) (fun q z h _=>rfl)).congr (fun z=>Iff.rfl) (fun q z=>by simp [wZ])
 ·simp only [rp,not_false_iff,and_true,or_false];constructor
  ·rintro ⟨x,hx,h1,o,h2,h3⟩
   exact ⟨x,adV hx,h1,o,h2,h3⟩
  ·rintro ⟨x,hx,h1,o,h2,h3⟩
   obtain ⟨j,hj,rfl⟩:=ade hx;by_cases e:j=k
   ·subst e;exact absurd (CF (by omega) h2 hf (by omega) h1) h3
   ·exact ⟨_,mem_erase_iff.2 ⟨j,hj,e,rfl⟩,h1,o,h2,h3⟩
 ·rw [ke (s:=⟨s.Words,iR s.Heap cpu s.aa[i].ab[k].At,s.aa.set i (eQ s.aa[i] k)⟩) mY.live,ke hm.live,tx,tx]
  have hz:∀ y,y∈aL (s.aa.set i (eQ s.aa[i] k))↔y∈aL s.aa∧y≠s.aa[i].ab[k].At:=fun y=>by
   rw [xb hi,AE hi,tz,tz];constructor
   ·rintro (⟨x,hx,rfl⟩|⟨j,hj,ja,hy⟩)
    ·obtain ⟨q,hq,RP,rfl⟩:=mem_erase_iff.1 hx;exact ⟨.inl ⟨_,adb hq,rfl⟩,bJ q hq RP⟩
    ·refine ⟨.inr ⟨j,hj,ja,hy⟩,fun e => ?_⟩;obtain ⟨x,hx,e'⟩:=tz.1 hy;exact nO hM hj hi ja hx BD (e'.trans e)
   ·rintro ⟨⟨x,hx,rfl⟩|⟨j,hj,ja,hy⟩,LA⟩
    ·obtain ⟨q,hq,rfl⟩:=ade hx;exact .inl ⟨_,mem_erase_iff.2 ⟨q,hq,fun e=>by subst e;exact LA rfl,rfl⟩,rfl⟩
    ·exact .inr ⟨j,hj,ja,hy⟩
  have cy:s.aa[i].ab[k].At∈aL s.aa:=(AE hi).2 (.inl (tz.2 ⟨_,BD,rfl⟩))
  rw [hz];constructor
  ·rintro ⟨h1,h2,b,hb,e1,e2⟩
   have iz:b∈s.Heap.Live.eraseIdx (bE s.Heap.Live s.aa[i].ab[k].At):=by rw [<- p2];exact hb
   obtain ⟨aZ,au⟩:=(kd hm.live Mg).1 iz;exact ⟨h1,fun h=>h2 ⟨h,by rw [<- e1];exact au⟩,b,aZ,e1,e2⟩
  ·rintro ⟨h1,h2,b,hb,e1,e2⟩
   refine ⟨h1,fun h=>h2 h.1,b,?_,e1,e2⟩;show b∈(iR s.Heap cpu s.aa[i].ab[k].At).Live
   rw [p2];exact (kd hm.live Mg).2 ⟨hb,fun e=>h2 (by rw [<- e1,e];exact cy)⟩
theorem FK (hM:aB s) (hw:dj s a=true) : ∀ i k,og s a i k=false:=fun i k=>by
 cases e:og s a i k with
 | false=>rfl
 | true =>
   exfalso;unfold og at e;split at e
   ·rename_i h1;split at e
    ·rename_i h2;rw [CC hM h1 h2 e] at hw;cases hw
    ·cases e
   ·cases e
variable {n:ByteArray} {u:ah×Int}
theorem pA.step {u:ah×Int×Int} (hI:dM s) (h:pA s n cpu u) (h0:u.2.2=0) : ∃ i:Nat,idxOf (dQ n) s.aa=(i:Int)∧eW s u.1 rp (fun q a=>q = .obj i∧a=u.2.1) ∧ ∀ q,¬ fC s q u.2.1:=by
 have hM:=hI.may;cases h with
 | ask h=>exact absurd h0 h
 | @Ed i m ha e hi hm =>
   obtain ⟨_,_,pL⟩:=mC ha;have hC:=(hM.each i hi).may;have hl:=cj hC.lay;have qj:cpu.toNat<s.aa[i].ap.length:=by have:=hC.ba;omega
   cases hm with
   | room _ _ he=>exact absurd h0 he
   | chain=>simp [lZ] at h0
   | @uM k hp =>
     obtain ⟨hk,hf,hA⟩:=I8 qj hp;obtain ⟨h1,h2⟩:=CG (cpu:=cpu.toNat) hM hi hk hf;refine ⟨i,e,?_,?_⟩
     ·simp only [lZ,bI,nb,fp hk];exact h1
     ·simp only [lZ,fp hk];exact h2
   | @new v hp hv he J0 =>
     have hG:=FF hM hi hv he J0;have h1:=grow_step hM hi hv he J0;have kq:=oZ s.aa[i] v.2.1
     have hk:eY s.aa[i] v.2.1<(dZ s.aa[i] v.2.1).ab.length:=by
      simp only [dZ];rw [di _ kq];omega
     have Ng:(dZ s.aa[i] v.2.1).ab[eY s.aa[i] v.2.1]=⟨v.2.1,s.aa[i].bL,16*v.2.1⟩:=by
      have:=lH kq (x:=(⟨v.2.1,s.aa[i].bL,16*v.2.1⟩ : Slab))
      obtain ⟨_,e⟩:=adC.1 this;exact e
     have key:∀ (t:ah) (ht:aB t) (Nh:i<t.aa.length) (c:aQ) (Ni:t.aa[i]=c) (ec:c=dZ s.aa[i] v.2.1) (xW:eY s.aa[i] v.2.1<c.ab.length),eW t ⟨t.Words,t.Heap,t.aa.set i (dL c cpu.toNat (eY s.aa[i] v.2.1) (t.Words.getD c.ab[eY s.aa[i] v.2.1].ck.toNat 0))⟩ rp (fun q a=>q = .obj i∧a=c.ab[eY s.aa[i] v.2.1].ck) ∧ ∀ q,¬ fC t q c.ab[eY s.aa[i] v.2.1].ck:=fun t ht Nh c Ni ec xW=>by
      subst Ni;have e2:∀ (d:aQ) (hd:d=dZ s.aa[i] v.2.1) (hq:eY s.aa[i] v.2.1<d.ab.length),0<d.ab[eY s.aa[i] v.2.1].aj:=fun d hd hq=>by subst hd;rw [Ng];simp only;omega
      exact CG ht Nh xW (e2 _ ec xW)
     obtain ⟨h2,h3⟩:=key _ hG (by simp only [List.length_set];exact hi) _ (by simp) rfl hk;simp only [List.set_set] at h2;refine ⟨i,e,?_,fun q h => ?_⟩
     ·simp only [lZ,bI,nb,fp hk];exact (h1.trans h2).congr (fun a=>by simp [rp]) (fun q a=>by simp [rp,wZ])
     ·simp only [lZ,fp hk] at h;exact h3 q ((h1.aw q _).2 (.inl ⟨h,fun h=>h⟩))
theorem rb.step (hI:dM s) (h:rb s n cpu a u) (h0:u.2=0) : eW s u.1 (fun z=>z=a) wZ ∧ ∃ i:Nat,idxOf (dQ n) s.aa=(i:Int)∧fC s (.obj i) a:=by
 have hM:=hI.may;cases h with
 | ask h=>exact absurd h0 h
 | none=>simp at h0
 | @put i k h hF e hi hk =>
   obtain ⟨_,_,pL⟩:=mC h;obtain ⟨Sx,out,hC,oH⟩:=FH hF;have mV:=Sx.obj;rw [qe hi hk] at mV;have hP:=Ja hM hi hk mV hC oH;have h1:=Nl hM hi hk mV hC oH;refine ⟨?_,i,e,(iW hi).2 ⟨_,adb hk,mV,out,hC,oH⟩⟩;unfold vu;split
   ·rename_i hc;rw [adR] at hc;have RQ:=hc.1;unfold oh at RQ;simp only [Bool.and_eq_true,Bool.not_eq_true',decide_eq_false_iff_not,decide_eq_true_eq] at RQ
    have key:∀ (t:ah) (ht:aB t) (Nh:i<t.aa.length) (c1:aQ) (Ni:t.aa[i]=c1) (ec:c1=iq s.aa[i] k s.aa[i].ab[k] a) (eh:t.Heap=s.Heap),eW t ⟨t.Words,(fh t.Heap cpu s.aa[i].ab[k].At).2,t.aa.set i (eQ c1 k)⟩ rp wZ:=fun t ht Nh c1 Ni ec eh=>by
     subst Ni;have Bx:k<t.aa[i].ab.length:=by rw [ec];simp only [iq,List.length_set];exact hk
     have es:t.aa[i].ab[k]=⟨s.aa[i].ab[k].At,s.aa[i].ab[k].aj+1,a⟩:=by
      have:∀ (d:aQ) (hd:d=iq s.aa[i] k s.aa[i].ab[k] a) (hq:k<d.ab.length),d.ab[k]=⟨s.aa[i].ab[k].At,s.aa[i].ab[k].aj+1,a⟩:=fun d hd hq=>by subst hd;simp [iq]
      exact this _ ec Bx
     have:=FJ ht Nh Bx (by rw [es,ec];exact RQ.1) (cpu:=cpu) (by rw [eh];exact pL)
     rw [es] at this;exact this
    have h2:=key _ hP (by simp only [List.length_set];exact hi) _ (by simp) rfl rfl;simp only [List.set_set] at h2;exact (h1.trans h2).congr (fun z=>by simp [rp]) (fun q z=>by simp [rp,wZ])
   ·exact h1
theorem CH {n:Int} (h:n<=256) : n<=16*pw (wT n):=by
 have Xd:pw 0=1:=by decide
 have Xe:pw 1=2:=by decide
 have Xf:pw 2=4:=by decide
 have pw3:pw 3=8:=by decide
 have pw4:pw 4=16:=by decide
 unfold wT;repeat' split
 all_goals omega
theorem eR.step {n:Int} {u:ah×Int×Int} (hI:dM s) (h:eR s cpu n u) (h0:u.2.2=0) : ∃ q,eW s u.1 rp (fun r a=>r=q∧a=u.2.1)∧(∀ r,¬ fC s r u.2.1)∧dM u.1∧1<=n ∧
 ((∃ i:Nat,q = .obj i∧n<=32∧idxOf (dQ (hU n)) s.aa=(i:Int))∨(q = .pg (wT n)∧n<=256)):=by
 cases h with
 | bad|range|size=>simp at h0
 | obj _ hn ho =>
   obtain ⟨i,e,h1,h2⟩:=ho.step hI h0;exact ⟨.obj i,h1,h2,ho.Jc hI h0,hn.1,.inl ⟨i,rfl,hn.2,e⟩⟩
 | fault _ _ _ h=>exact absurd h0 h
 | bC _ hn ha he=>exact ⟨_,AB hI.may ha he,vJ hI.may ha he,DR hI ha he,by omega,.inr ⟨rfl,hn.2⟩⟩
theorem k7.step (hI:dM s) (h:k7 s cpu a u) (h0:u.2=0) : eW s u.1 (fun z=>z=a) wZ∧dM u.1:=by
 cases h with
 | bad|range|no=>simp at h0
 | obj _ _ _ _ hp=>exact ⟨(hp.step hI h0).1,hp.jT hI h0⟩
 | whole _ hc _ hw =>
   obtain ⟨hf,h0,hm⟩:=fe hw;have e:a / 16*16=a:=by omega
   rw [nz (cq.2 hI.may.heap) hc hf];have ni:dj s (a / 16*16)=true:=by rw [e];exact hw
   exact ⟨(CE hI.may hc ni).congr (fun z=>by rw [e]) fun _ _=>Iff.rfl,Nc hI hc ni⟩
variable {f:Int} {q:Src}
theorem HL (hM:aB s) (hA:fC s q a) (hw:∀ b:Int,0<=b -> ¬ (a<=b∧b<a+js s q)->ws[b.toNat]?=s.Words[b.toNat]?) (hi:i<s.aa.length) (hk:k<s.aa[i].ab.length) {out:List Int} (ho:bO s.Words s.aa[i].az s.aa[i].bL s.aa[i].ab[k] out) : bO ws s.aa[i].az s.aa[i].bL s.aa[i].ab[k] out:=by
 have hC:=(hM.each i hi).may;have hl:=cj hC.lay;obtain ⟨k1,k2,k3,k4,k5⟩:=(ie (by omega)).1 ho;refine (ie (by omega)).2 ⟨k1.congr fun b hb h0=>hw b h0 fun cy => ?_,k2,k3,k4,k5⟩;have mV:=k5 b hb;obtain ⟨r1,r2⟩:=mw hC.lay mV;obtain ⟨d,hd⟩:=kf hM hA;obtain ⟨b0,Dr,e1,e2⟩:=gI hM (adb hi) (adb hk);have d1:=hd.lo;have d2:=hd.hi;by_cases e:d.At=s.aa[i].ab[k].At
 ·rcases hd.what with ⟨j,hj,rfl,f1,f2,x,hx,f3⟩|⟨_,_,f2⟩
  ·obtain rfl:=tu hM hj hi hx (adb hk) (f3.trans e);rw [f1] at cy;unfold il at mV;simp only [Bool.and_eq_true,decide_eq_true_eq] at mV;obtain ⟨⟨g1,g2⟩,g3⟩:=mV;rw [e] at f2;rcases afi a b with h|h
   ·have:=AA (by omega) f2 g3 (by omega)
    omega
   ·have PN:a=b:=by omega
    subst PN;exact FI hM hi hk ho hb _ hA
  ·exact f2 _ (adb hi) _ (adb hk) e.symm
 ·have:=gH hM.heap hd.mem Dr (by rw [e1];exact e)
  rw [e1,e2] at this;omega
theorem AF (hM:aB s) (hA:fC s q a) (hl:ws.length=4096) (hw:∀ b:Int,0<=b -> ¬ (a<=b∧b<a+js s q)->ws[b.toNat]?=s.Words[b.toNat]?) :
 aB ⟨ws,s.Heap,s.aa⟩∧eW s ⟨ws,s.Heap,s.aa⟩ (fun z=>z=a) (fun r z=>r=q∧z=a):=by
 have J0:=fun {i k:Nat} (hi:i<s.aa.length) (hk:k<s.aa[i].ab.length) {out:List Int} (ho:bO s.Words s.aa[i].az s.aa[i].bL s.aa[i].ab[k] out)=>HL hM hA hw hi hk ho
 refine ⟨⟨hl,hM.heap,hM.most,fun i hi => ?_⟩,fun r z => ?_,fun r z h bJ => ?_,rfl,rfl⟩
 ·have hC:=hM.each i hi;refine ⟨⟨hC.may.lay,hC.may.names,hC.may.ba,fun k hk => ?_,hC.may.dz⟩,hC.size,hC.names,hC.aE⟩;have hS:=hC.may.aE k hk;obtain ⟨out,ho⟩:=hS.chain;exact ⟨hS.live,hS.next,out,J0 hi hk ho⟩
 ·have key:fC ⟨ws,s.Heap,s.aa⟩ r z↔fC s r z:=by
   cases r with
   | pg o=>exact Iff.rfl
   | obj j =>
     by_cases hj:j<s.aa.length
     ·rw [iW (s:=⟨ws,s.Heap,s.aa⟩) hj,iW hj];refine xa (fun x hx => ?_) z;obtain ⟨k,hk,rfl⟩:=ade hx;obtain ⟨o,h⟩:=((hM.each j hj).may.aE k hk).chain;exact ⟨o,h,J0 hj hk h⟩
     ·exact ⟨fun h=>absurd h.lt hj,fun h=>absurd h.lt hj⟩
  rw [key];constructor
  ·intro h;by_cases e:z=a
   ·subst e;exact .inr ⟨tv hM h hA,rfl⟩
   ·exact .inl ⟨h,e⟩
  ·rintro (h|⟨rfl,rfl⟩)
   ·exact h.1
   ·exact hA
 ·have h1:=fu hM h;have h2:=uA hM h hA bJ;have h3:=fu hM hA;exact hw z (by omega) (by omega)
theorem AG (hM:aB s) (hA:fC s q a) (hm:∀ i (hi:i<s.aa.length),q = .obj i->oX s.aa[i]=true) {z:Int×Int} (h:jJ s a z) : z=(js s q,0):=by
 cases q with
 | obj i =>
   have hi:=hA.lt;obtain ⟨k,hk⟩:=(Jd hi).1 ((iW hi).1 hA);have hO:=ri.yes (hk.find hM) hi (hm i hi rfl);have:=h.dq (.obj (mq hM) hi hO)
   rw [this];simp [js,o7,hi]
 | pg o =>
   have hw:=hA.1;have hF:iG s a (0,0,4) := .none (mq hM) (FK hM hw)
   have:=h.dq (.whole (mq hM) (Kz hF) hw)
   rw [this];unfold pC;rw [if_pos hw,hA.2]
   rfl
theorem Pr {l:List Int} {t k:Int} (ht : 0<=t) (hf : 0<=f) (hk : 0<=k) (h1:t+k<=l.length) (h2:f+k<=l.length) : BI l t f k=sM l t.toNat f.toNat k.toNat:=by
 unfold BI;rw [if_pos ⟨ht,hf,hk,h1,h2⟩]
theorem nE.step {n:Int} {u:ah×Int×Int} (hI:dM s) (hA:fC s q a) (hm:∀ i (hi:i<s.aa.length),q = .obj i->oX s.aa[i]=true)
 (hz:∀ i:Nat,n<=32->idxOf (dQ (hU n)) s.aa=(i:Int)->n<=o7 s i) (h:nE s cpu a n u) (h0:u.2.2=0) :
 (u=(s,a,0)∧n<=js s q) ∨ ∃ r,eW s u.1 (fun z=>z=a) (fun p z=>p=r∧z=u.2.1)∧dM u.1∧n<=js s r∧1<=n∧(∀ p,¬ fC s p u.2.1)∧u.1.Words[u.2.1.toNat]?=s.Words[a.toNat]? ∧
   ((∃ i:Nat,r = .obj i∧n<=32∧idxOf (dQ (hU n)) s.aa=(i:Int))∨(r = .pg (wT n)∧n<=256)):=by
 have hM:=hI.may;have hra:=fu hM hA;cases h with
 | size _ he=>exact absurd h0 he
 | range=>simp at h0
 | fault _ _ _ _ _ he=>exact absurd h0 he
 | free _ _ _ _ _ _ _ he=>exact absurd h0 he
 | @stay z h he hc hn =>
   rw [AG hM hA hm h] at hn;exact .inl ⟨rfl,hn⟩
 | @ok z v w h he hc hn hv Eb hu RK =>
   have ez:=AG hM hA hm h;subst ez;right;obtain ⟨r,h1,h2,YT,Jp,lU⟩:=hv.step hI Eb;have Vf:=YT.may;obtain ⟨to,eto⟩ : ∃ to,v.2.1=to:=⟨_,rfl⟩;simp only at hn hu ⊢;rw [eto] at h1 h2 hu ⊢;have D9:fC v.1 r to:=(h1.aw r to).2 (.inr ⟨rfl,rfl⟩)
   have haq:fC v.1 q a:=(h1.aw q a).2 (.inl ⟨hA,fun h=>h⟩)
   have bJ:a≠to:=fun e=>h2 q (e ▸ hA)
   have Xg:n<=js s r:=by
    rcases lU with ⟨i,rfl,Xh,hi⟩|⟨rfl,PK⟩
    ·exact hz i Xh hi
    ·exact CH PK
   have er:=h1.ext r;have eq':=h1.ext q;have hrt:=fu Vf D9;have hap:=uA Vf haq D9 bJ;have hlen:=Vf.words;have rV:=YT.cK.small;have Vg:BI v.1.Words to a (js s q)=sM v.1.Words to.toNat a.toNat (js s q).toNat:=Pr (by omega) (by omega) (by omega) (by omega) (by omega)
   have Tl:=wV (l:=v.1.Words) (t:=to.toNat) (f:=a.toNat) (k:=(js s q).toNat) (by omega) (by omega);have iB:=Ky (l:=v.1.Words) (t:=to.toNat) (f:=a.toNat) (k:=(js s q).toNat) (by omega) (by omega)
   obtain ⟨YU,ht⟩:=AF Vf D9 (ws:=BI v.1.Words to a (js s q)) (by rw [Vg];omega) (fun b hb SE=>by
    rw [Vg,iB];rcases adL b.toNat to.toNat with g|g
    ·rw [if_pos g]
    ·rw [if_neg (by omega),if_neg (by omega)])
   have Qp:dM (FB v.1 to a (js s q)):=⟨jk YU ⟨by simp only [FB];rw [Vg,Tl];exact rV.words,rV.heap,rV.br,rV.each⟩,YU⟩
   obtain ⟨h3,hI3⟩:=hu.step Qp RK;have RS:=(h1.trans ht).trans h3;have aaQ:fC w.1 r to:=(RS.aw r to).2 (.inr (.inl ⟨.inr ⟨rfl,rfl⟩,fun e=>bJ e.symm⟩)) |> fun h=>h
   refine ⟨r,⟨fun p z => ?_,fun p z h hx => ?_,RS.shape,RS.cpus⟩,hI3,Xg,Jp,h2,?_,lU⟩
   ·rw [RS.aw];simp only [rp,wZ,false_or,or_false];constructor
    ·rintro (⟨h,hx⟩|⟨⟨⟨h,hx⟩|h,pN⟩⟩)
     ·exact .inl ⟨h,fun e=>hx (.inr e)⟩
     ·exact absurd h.2 hx
     ·exact .inr h
    ·rintro (⟨h,hx⟩|⟨rfl,rfl⟩)
     ·refine .inl ⟨h,fun e => ?_⟩;rcases e with e|e
      ·subst e;exact h2 p h
      ·exact hx e
     ·exact .inr ⟨.inr ⟨rfl,rfl⟩,fun e=>bJ e.symm⟩
   ·refine RS.words p z h fun e => ?_
    rcases e with (e|e)|e
    ·exact e
    ·subst e;exact h2 p h
    ·exact hx e
   ·have e1:=h3.words r to ((ht.aw r to).2 (.inr ⟨rfl,rfl⟩)) (fun e=>bJ e.symm);rw [e1];show (BI v.1.Words to a (js s q))[to.toNat]?=_
    rw [Vg,iB,if_neg (by omega),if_pos (by omega),afh,aeW];exact h1.words q a hA fun h=>h
theorem HM (hM:aB s) (hi:i<s.aa.length) : aB (bI s i (s.Heap,jN s.aa[i]))∧eW s (bI s i (s.Heap,jN s.aa[i])) rp wZ:=by
 have hC:=(hM.each i hi).may;have Av:oV (jN s.aa[i])=oV s.aa[i]:=rfl
 refine ⟨sN hM hi hM.words hM.heap rfl rfl rfl ?_ (fun c hc Un => ?_) (by simp only [bI];rw [gJ hi Av];exact jj.1 fun j hj=>(hM.each j hj).aE),?_⟩
 ·refine ⟨hC.lay,hC.names,by simp only [jN,List.length_replicate];exact hC.ba,fun k hk=>⟨(hC.aE k hk).live,(hC.aE k hk).next,(hC.aE k hk).chain⟩,fun k hk => ?_⟩;left;simp [jN]
 ·obtain ⟨j,hj,_,rfl⟩:=Un;exact (hM.each j hj).may.same rfl rfl
 ·refine (sO (t:=bI s i (s.Heap,jN s.aa[i])) (x:=rp) (y:=fun _=>False) (c':=jN s.aa[i]) hM hi rfl rfl rfl rfl (fun a => ?_) (fun a h=>h.elim) (fun j hj bJ a=>Iff.rfl) (AD (t:=bI s i (s.Heap,jN s.aa[i])) hM.heap.live rfl (gJ hi Av)) (fun _ _ _ _=>rfl)).congr (fun a=>Iff.rfl) (fun q a=>by simp [wZ]);simp only [rp,not_false_iff,and_true,or_false];exact Iff.rfl
theorem nH:∀ (k:Nat) (h:Heap) (c:aQ),(∀ j x,k<=j->c.ab[j]?=some x->x.aj≠c.bL) -> ∀ x∈(dR k (h,c)).2.ab,x.aj≠c.bL
 | 0,h,c,hk,x,hx=>by
   obtain ⟨j,hj,rfl⟩:=ade hx;exact hk j _ (ad3 _) (adi hj)
 | k+1,h,c,hk,x,hx=>by
   by_cases hl:k<c.ab.length
   ·by_cases e:c.ab[k].aj=c.bL
    ·rw [sH hl e] at hx;refine nH k _ (eQ c k) (fun j y hj hy => ?_) x hx;simp only [eQ] at hy ⊢;rw [List.getElem?_eraseIdx_of_ge hj] at hy;exact hk (j+1) y (by omega) hy
    ·rw [qZ hl e] at hx;refine nH k _ c (fun j y hj hy => ?_) x hx;by_cases e2:j=k
     ·subst e2;rw [adi hl] at hy;injection hy with hy
      rw [<- hy];exact e
     ·exact hk j y (by omega) hy
   ·have e:dR (k+1) (h,c)=dR k (h,c):=by simp only [dR,hl,dite_false]
    rw [e] at hx;refine nH k _ c (fun j y hj hy => ?_) x hx;rw [adY (by omega)] at hy;cases hy
theorem nI:∀ (k:Nat) {s:ah} {i:Nat} {c:aQ},aB s->s.aa[i]?=some c->(∀ x∈c.ap,x = -1)->aB (bI s i (dR k (s.Heap,c)))∧eW s (bI s i (dR k (s.Heap,c))) rp wZ
 | 0,s,i,c,hM,hc,ha=>by
   obtain ⟨hi,rfl⟩:=adC.1 hc;have e:bI s i (dR 0 (s.Heap,s.aa[i]))=s:=by simp only [dR,bI,List.set_getElem_self]
   rw [e];exact ⟨hM,.refl s⟩
 | k+1,s,i,c,hM,hc,ha=>by
   obtain ⟨hi,rfl⟩:=adC.1 hc;by_cases hl:k<s.aa[i].ab.length
   ·by_cases e:s.aa[i].ab[k].aj=s.aa[i].bL
    ·have pL:(0:Int)<=0∧0<s.Heap.bG:=by have:=hM.heap.cpus;omega
     have hA:s.aa[i].ab[k].At∉s.aa[i].ap:=fun h=>by
      have h1:=ha _ h;obtain ⟨b,hb,e1⟩:=nN hM (adb hi) (adb hl);have:=(hM.heap.live.all b hb).2.1
      omega
     have h1:=(Jb hM hi hl hA (cpu:=0) pL).2;have h2:=FJ hM hi hl e (cpu:=0) pL;rw [sH hl e];have h3:=nI k (s:=⟨s.Words,(fh s.Heap 0 s.aa[i].ab[k].At).2,s.aa.set i (eQ s.aa[i] k)⟩) (i:=i) (c:=eQ s.aa[i] k) h1 (aef hi) ha;simp only [bI,List.set_set] at h3 ⊢;exact ⟨h3.1,(h2.trans h3.2).congr (fun a=>by simp [rp]) (fun q a=>by simp [rp,wZ])⟩
    ·rw [qZ hl e];exact nI k hM hc ha
   ·have e:dR (k+1) (s.Heap,s.aa[i])=dR k (s.Heap,s.aa[i]):=by simp only [dR,hl,dite_false]
    rw [e];exact nI k hM hc ha
theorem xI (hI:dM s) (h0:(iM s n).2=0) : eW s (iM s n).1 rp wZ∧dM (iM s n).1 ∧ ∃ i:Nat,∃ hi:i<s.aa.length,idxOf (dQ n) s.aa=(i:Int) ∧ ∀ c,(iM s n).1.aa[i]?=some c -> ∀ x∈c.ab,x.aj≠s.aa[i].bL:=by
 have hM:=hI.may;by_cases h:iU s n 0=0
 ·obtain ⟨_,ht,_⟩:=mC h;obtain ⟨i,hi,_,_,rU⟩:=ka ht;rw [Aq h hi rU];obtain ⟨h1,h2⟩:=HM hM hi;have h3:=nI s.aa[i].ab.length (s:=bI s i (s.Heap,jN s.aa[i])) (i:=i) (c:=jN s.aa[i]) h1 (by simp only [bI];exact aef hi) (fun x hx=>by simp only [jN] at hx;exact List.eq_of_mem_replicate hx);have lX:=ra s.aa[i].ab.length (p:=(s.Heap,jN s.aa[i])) hI.cK.lX (hI.cK.Sw hi).idle;have rV:=xz hI.cK.small i lX.1 lX.2;simp only [bI,List.set_set] at h3 rV ⊢;refine ⟨(h2.trans h3.2).congr (fun a=>by simp [rp]) (fun q a=>by simp [rp,wZ]),⟨jk h3.1 rV,h3.1⟩,i,hi,rU,fun c hc x hx => ?_⟩;rw [aef hi] at hc;injection hc with hc
  subst hc;exact nH s.aa[i].ab.length s.Heap (jN s.aa[i]) (fun j y hj hy=>by simp only [jN] at hy;rw [adY hj] at hy;cases hy) x hx
 ·rw [Ar h] at h0;exact absurd h0 h
theorem Ps (hM:aB s) {cpu:Nat} (hi:i<s.aa.length) (qj:cpu<s.aa[i].ap.length) {m:Option MI×Int} (hm:rR s s.aa[i] cpu m) : pA s (vC s.aa[i]) cpu (lZ s i cpu m)∧idxOf (dQ (vC s.aa[i])) s.aa=(i:Int):=by
 have hC:=(hM.each i hi).may;have h3:=hC.names;have hn:vC s.aa[i]∈s.aa[i].Names:=by simp [vC,h3]
 have RT:=Az hM hi hn;refine ⟨.Ed (Hq (mq hM) ?_ ?_) RT hi hm,RT⟩
 ·rw [adq];exact ⟨_,adb hi,jD.2 hn⟩
 ·have:=hC.ba
  omega
theorem om.step {cpu:Nat} {l:List Int} {u:ah×List Int×Int} (h:om i cpu k s l u) : dM s->(∀ hi:i<s.aa.length,cpu<s.aa[i].ap.length)->u.2.2=0 ->
 ∃ m:List Int,u.2.1=l++m∧m.Nodup∧m.length=k∧(∀ a∈m,∀ q,¬ fC s q a)∧eW s u.1 rp (fun q a=>q = .obj i∧a∈m)∧dM u.1:=by
 induction h with
 | @done s l=>exact fun hI _ _=>⟨[],by simp,by simp,rfl,by simp,(eW.refl s).congr (fun a=>Iff.rfl) (fun q a=>by simp [wZ]),hI⟩
 | bad hi hm h =>
   intro hI hc h0;exfalso;cases hm with
   | uM|new=>cases h
   | room _ _ he=>exact he h0
   | chain=>cases h0
 | @more k s l M u hi hm h ih =>
   intro hI hc h0;obtain ⟨hO,RT⟩:=Ps hI.may hi (hc hi) hm;obtain ⟨j,ej,h1,h2⟩:=hO.step hI rfl;have hK:=hO.Jc hI rfl;obtain rfl:i=j:=by omega
   have eg:lZ s i cpu (some M,0)=(uv s i cpu M,(ir M.c M.k).ck,0):=rfl
   rw [eg] at h1 h2 hK;simp only at h1 h2 hK
   have g7:∀ po:i<(uv s i cpu M).aa.length,cpu<(uv s i cpu M).aa[i].ap.length:=fun po=>by
    have e:((uv s i cpu M).aa[i].ap.length:Int)=(uv s i cpu M).Heap.bG:=(hK.may.each i po).may.ba
    have e2:=(hI.may.each i hi).may.ba;have:=hc hi
    have e3:=h1.cpus;omega
   obtain ⟨m,e1,e2,e3,e4,e5,e6⟩:=ih hK g7 h0;refine ⟨(ir M.c M.k).ck::m,by rw [e1];simp,aeb.2 ⟨fun hm=>e4 _ hm (.obj i) ((h1.aw _ _).2 (.inr ⟨rfl,rfl⟩)),e2⟩,by simp [e3],fun a ha q hq => ?_,?_,e6⟩
   ·rcases aee.1 ha with rfl|ha
    ·exact h2 q hq
    ·exact e4 a ha q ((h1.aw q a).2 (.inl ⟨hq,fun h=>h⟩))
   ·refine (h1.trans e5).congr (fun a=>by simp [rp]) (fun q a => ?_);simp only [rp,not_false_iff,and_true,List.mem_cons];constructor
    ·rintro (⟨h,h'⟩|⟨h,h'⟩)
     ·exact ⟨h,.inl h'⟩
     ·exact ⟨h,.inr h'⟩
    ·rintro ⟨h,h'|h'⟩
     ·exact .inl ⟨h,h'⟩
     ·exact .inr ⟨h,h'⟩
theorem oo.step {many:Int} {u:ah×List Int×Int} (hI:dM s) (h:oo s n cpu many u) (h0:u.2.2=0) :
 ∃ i:Nat,idxOf (dQ n) s.aa=(i:Int)∧u.2.1.Nodup∧(u.2.1.length:Int)=many∧(∀ a∈u.2.1,∀ q,¬ fC s q a)∧eW s u.1 rp (fun q a=>q = .obj i∧a∈u.2.1)∧dM u.1:=by
 cases h with
 | ask h=>exact absurd h0 h
 | range=>simp at h0
 | @Ed i _ h hm e hr =>
   obtain ⟨_,_,pL⟩:=mC h;obtain ⟨m,e1,e2,e3,e4,e5,e6⟩:=hr.step hI (fun hi=>by have:=(hI.may.each i hi).may.ba;omega) h0;rw [ad5] at e1;rw [e1];exact ⟨i,e,e2,by omega,e4,e5,e6⟩
def RU (l:List (List ByteArray×Int)) : Prop := ∀ j,j<6 -> ∃ p∈l,tH p.1 (fB (kP j))=true∧p.2=kP j
def mx (s:ah) : Prop:=RU (kw s)
theorem mx.kw {t:ah} (h:mx s) (e:kw t=kw s) : mx t:=by unfold mx;rw [e];exact h
theorem mx.at_ (hM:aB s) (h:mx s) (hj:j<6) : ∃ i:Nat,idxOf (dQ (fB (kP j))) s.aa=(i:Int)∧o7 s i=kP j:=by
 obtain ⟨p,hp,h1,h2⟩:=h j hj;obtain ⟨c,hc,rfl⟩:=adv.1 hp;obtain ⟨i,hi,rfl⟩:=ade hc;exact ⟨i,Az hM hi (jD.1 h1),by simp only [o7,List.getElem?_eq_getElem hi,Option.map_some,Option.getD_some];exact h2⟩
theorem Jh:kP 0=1∧kP 1=2∧kP 2=4∧kP 3=8∧kP 4=16∧kP 5=32:=by decide
theorem HN (hM:aB s) (h:mx s) {n:Int} (hn:n<=32) : ∃ i:Nat,idxOf (dQ (hU n)) s.aa=(i:Int)∧n<=o7 s i:=by
 have key:∃ j,j<6∧hU n=fB (kP j)∧n<=kP j:=by
  obtain ⟨e0,e1,e2,e3,e4,e5⟩:=Jh;unfold hU;split
  ·exact ⟨0,by omega,by rw [e0],by omega⟩
  split
  ·exact ⟨1,by omega,by rw [e1],by omega⟩
  split
  ·exact ⟨2,by omega,by rw [e2],by omega⟩
  split
  ·exact ⟨3,by omega,by rw [e3],by omega⟩
  split
  ·exact ⟨4,by omega,by rw [e4],by omega⟩
  ·exact ⟨5,by omega,by rw [e5],by omega⟩
 obtain ⟨j,hj,e,hle⟩:=key;obtain ⟨i,h1,h2⟩:=h.at_ hM hj;exact ⟨i,by rw [e];exact h1,by omega⟩
theorem CI {u:Int×Int×Int} (h:iG s a u) (h0:u.2.2=0) : ∃ i:Nat,∃ hi:i<s.aa.length,u.1=(i:Int)∧fC s (.obj i) a:=by
 cases h with
 | bad|none|free=>simp at h0
 | @hit i k out h hF hC hm =>
   have ho:=hF.obj;rw [qe hF.hi hF.hk] at ho;exact ⟨i,hF.hi,rfl,(iW hF.hi).2 ⟨_,adb hF.hk,ho,out,hC,hm⟩⟩
theorem KB (h:ri s a (some i)) : ∃ hi:i<s.aa.length,fC s (.obj i) a∧oX s.aa[i]=true:=by
 cases h with
 | yes hF hi hm =>
   obtain ⟨j,hj,e,hL⟩:=CI hF rfl;obtain rfl:i=j:=by simp only at e;omega
   exact ⟨hi,hL,hm⟩
theorem HO {z:Int×Int} (hM:aB s) (h:jJ s a z) (h0:z.2=0) : ∃ q,fC s q a∧(∀ i (hi:i<s.aa.length),q = .obj i->oX s.aa[i]=true):=by
 cases h with
 | bad=>simp at h0
 | no=>simp at h0
 | obj _ hi ho =>
   obtain ⟨_,h1,h2⟩:=KB ho;exact ⟨_,h1,fun j hj e=>by injection e with e;subst e;exact h2⟩
 | whole _ _ hw=>exact ⟨.pg _,⟨hw,rfl⟩,fun j hj e=>by cases e⟩
theorem Nm {b:Int} (h : 0<=a) (hb : 0<b) : a % b<=a:=by
 have h1:=aer a b;have h2:=aeL (show 0<=b by omega) (afl h (show 0<=b by omega));omega
theorem AH (hc:c∈s.aa) : ∃ i,∃ hi:i<s.aa.length,s.aa[i]=c:=ade hc
theorem FL (hM:aB s) (h:gj s a true) : ∃ q b,fC s q b∧b<=a∧a<b+js s q:=by
 generalize e:true=t at h
 cases h with
 | out=>cases e
 | @py c x u hr hc hx cy hF =>
   have h0:u.2.2=0:=of_decide_eq_true e.symm
   obtain ⟨i,hi,_,hL⟩:=CI hF h0;obtain ⟨j,hj,rfl⟩:=AH hc;have hl:=cj (hM.each j hj).may.lay;unfold k9 at cy;have m1:=afp (a-x.At*16) (show s.aa[j].az≠0 by omega);have m2:=ae4 (a-x.At*16) (show 0<s.aa[j].az by omega);have m3:=Nm (a:=a-x.At*16) (b:=s.aa[j].az) (by omega) (by omega);refine ⟨.obj i,_,hL,by omega,?_⟩;obtain ⟨d,hd⟩:=kf hM hL;have d1:=hd.lo;have d2:=hd.hi;have d3:=hd.ext;obtain ⟨b0,Dr,e1,e2⟩:=gI hM (adb hj) hx
   have lg:d.At=x.At:=by
    rcases Classical.em (d.At=x.At) with h|h
    ·exact h
    ·have:=gH hM.heap hd.mem Dr (by rw [e1];exact h)
     rw [e1,e2] at this;omega
   rcases hd.what with ⟨k,hk,ek,f1,f2,y,hy,f3⟩|⟨ek,_,_⟩
   ·injection ek with ek
    subst ek;obtain rfl:=tu hM hk hj hy hx (f3.trans lg);rw [f1];omega
   ·cases ek
 | bC hr hn =>
   unfold Au at e;obtain ⟨b,hb,au⟩:=adq.1 e.symm;rw [adR,decide_eq_true_eq,decide_eq_true_eq] at au;have hl:=(hM.heap.live.all b hb).2.1;refine ⟨.pg b.Order,16*b.At,(ke hM.heap.live).2 ⟨by omega,fun c hc x hx e1 => ?_,b,hb,by omega,rfl⟩,by omega,?_⟩
   ·obtain ⟨b0,Dr,f1,f2⟩:=gI hM hc hx;have h1:=iu hM.heap.live hb;have h2:=iu hM.heap.live Dr;have e3:b0.At=b.At:=by omega
    refine hn c hc x hx ?_;unfold k9;rw [<- f1,e3,<- f2,<- h2,e3,h1];omega
   ·simp only [js];omega
theorem gj.dq (hM:aB s) {x y:Bool} (h:gj s a x) (k:gj s a y) : x=y:=by
 cases h with
 | out h=>cases k with
   | out=>rfl
   | py h'|bC h'=>exact absurd h' h
 | @py c x u h hc hx hi hF=>cases k with
   | out h'=>exact absurd h h'
   | @py c' x' u' _ g7 pN po Bi =>
     unfold k9 at hi po;obtain ⟨b,hb,e1,e2⟩:=gI hM hc hx;obtain ⟨d,hd,f1,f2⟩:=gI hM g7 pN
     have lg:x.At=x'.At:=by
      rcases Classical.em (x.At=x'.At) with h|h
      ·exact h
      ·have:=gH hM.heap hb hd (by rw [e1,f1];exact h)
       rw [e1,e2,f1,f2] at this;omega
     obtain ⟨i,Rn,rfl⟩:=AH hc;obtain ⟨j,YV,rfl⟩:=AH g7;obtain rfl:=tu hM Rn YV hx pN lg;rw [lg] at hF;rw [hF.dq Bi]
   | bC _ hn=>exact absurd hi (hn c hc x hx)
 | bC h hn=>cases k with
   | out h'=>exact absurd h h'
   | py _ hc hx hi=>exact absurd hi (hn _ hc _ hx)
   | bC=>rfl
theorem mf.dq (hM:aB s) {a:cJ} {u v:ah×Int×Int} (h:mf s a u) (k:mf s a v) : u=v:=by
 cases h with
 | no h=>cases k with
   | no=>rfl
   | read h'|range h'|write h'=>cases h.dq hM h'
 | read h hk=>cases k with
   | no h'=>cases h.dq hM h'
   | read=>rfl
   | range _ bW|write _ bW=>exact absurd hk bW
 | range h hk hm=>cases k with
   | no h'=>cases h.dq hM h'
   | read _ bW=>exact absurd bW hk
   | range=>rfl
   | write _ _ mY=>exact absurd mY hm
 | write h hk hm=>cases k with
   | no h'=>cases h.dq hM h'
   | read _ bW=>exact absurd bW hk
   | range _ _ mY=>exact absurd hm mY
   | write=>rfl
theorem xc (hI:dM s) {b m:Int} (hL:fC s q b) (h1:b<=a) (h2:a<b+js s q) : dM ⟨s.Words.set a.toNat m,s.Heap,s.aa⟩∧eW s ⟨s.Words.set a.toNat m,s.Heap,s.aa⟩ (fun z=>z=b) (fun r z=>r=q∧z=b):=by
 have hM:=hI.may;have hr:=fu hM hL
 obtain ⟨h3,h4⟩:=AF hM hL (ws:=s.Words.set a.toNat m) (by rw [adK];exact hM.words) (fun c hc hn=>by
  rw [aei];omega)
 exact ⟨⟨jk h3 ⟨by simp only [List.length_set];exact hI.cK.small.words,hI.cK.small.heap,hI.cK.small.br,hI.cK.small.each⟩,h3⟩,h4⟩
theorem mf.jT (hI:dM s) {a:cJ} {u:ah×Int×Int} (h:mf s a u) : dM u.1∧kw u.1=kw s:=by
 cases h with
 | no|read|range=>exact ⟨hI,rfl⟩
 | write h =>
   obtain ⟨q,b,hL,h1,h2⟩:=FL hI.may h;exact ⟨(xc hI hL h1 h2).1,rfl⟩
theorem nE.jT (hI:dM s) (hN:mx s) {n:Int} {u:ah×Int×Int} (h:nE s cpu a n u) (h0:u.2.2=0) : dM u.1∧kw u.1=kw s:=by
 have key:∃ z,jJ s a z∧z.2=0:=by
  cases h with
  | size _ he=>exact absurd h0 he
  | range=>simp at h0
  | fault _ _ _ _ _ he=>exact absurd h0 he
  | free _ _ _ _ _ _ _ he=>exact absurd h0 he
  | stay h he=>exact ⟨_,h,he⟩
  | ok h he=>exact ⟨_,h,he⟩
 obtain ⟨z,hz,L9⟩:=key;obtain ⟨q,hL,hm⟩:=HO hI.may hz L9
 rcases h.step hI hL hm (fun i hn hi=>by
  obtain ⟨j,h1,h2⟩:=HN hI.may hN hn;obtain rfl:i=j:=by omega
  exact h2) h0 with ⟨rfl,_⟩|⟨r,h1,h2,_⟩
 ·exact ⟨hI,rfl⟩
 ·exact ⟨h2,h1.shape⟩
variable {size:Int}
theorem KC {a b:ByteArray} (h:eJ a b=false) (bJ:a≠b) : eJ b a=true:=by
 have:=JE b a
 rw [h,decide_eq_false (fun e=>bJ e.symm)] at this;simpa using this
theorem nodup_iff {acc l:List α} (ha:acc.Nodup) : (∀ (k:Nat) (h:k<l.length),l[k]∉acc++l.take k)↔(acc++l).Nodup:=by
 constructor
 ·intro h
  have key:∀ k,k<=l.length->(acc++l.take k).Nodup:=by
   intro k;induction k with
   | zero=>intro _;simpa using ha
   | succ k ih =>
     intro hk;rw [adk (by omega),<- adj,adT];refine ⟨ih (by omega),by simp,fun a ha b hb => ?_⟩;simp only [List.mem_singleton] at hb;subst hb;exact fun e=>h k (by omega) (e ▸ ha)
  have:=key _ (adg _)
  rwa [ad2] at this
 ·intro h k hk hm;have e:l=l.take k++l[k]::l.drop (k+1):=by simp
  have h':=h;rw [e,<- adj,adT] at h';exact h'.2.2 _ hm _ List.mem_cons_self rfl
theorem xJ:(∀ (i:Nat) (h:i<s.aa.length) (k:Nat) (hk:k<s.aa[i].Names.length),s.aa[i].Names[k]∉bl (s.aa.take i)++s.aa[i].Names.take k)↔(bl s.aa).Nodup:=by
 have step:∀ i (h:i<s.aa.length),bl (s.aa.take (i+1))=bl (s.aa.take i)++s.aa[i].Names:=fun i h=>by
  unfold bl;rw [adk h,adt];simp
 constructor
 ·intro h
  have key:∀ k,k<=s.aa.length->(bl (s.aa.take k)).Nodup:=by
   intro k;induction k with
   | zero=>intro _;simp [bl]
   | succ k ih =>
     intro hk;rw [step k (by omega)];exact (nodup_iff (ih (by omega))).1 (h k (by omega))
  have:=key _ (adg _)
  rwa [ad2] at this
 ·intro h i hi
  have jA:∀ k,(bl (s.aa.take k)).Nodup:=fun k=>by
   have e:bl s.aa=bl (s.aa.take k)++bl (s.aa.drop k):=by
    unfold bl;rw [<- adt,adh]
   rw [e,adT] at h;exact h.1
  refine (nodup_iff (jA i)).2 ?_;rw [<- step i hi];exact jA (i+1)
theorem Ji {cs:List aQ} (h:cs.any (dQ n)=false) : n∉bl cs:=fun hm=>by
 unfold bl at hm;obtain ⟨c,hc,hn⟩:=adx.1 hm;have:cs.any (dQ n)=true:=adq.2 ⟨c,hc,jD.2 hn⟩
 rw [h] at this;cases this
theorem my (cs:List aQ) : bl cs=(cs.map fun c=>c.Names).flatten:=by unfold bl;rw [aey]
theorem Nn (hM:aB s) (hn:gz n=true) (ht:s.aa.any (dQ n)=false) (hi:i<s.aa.length) : aB ⟨s.Words,s.Heap,s.aa.set i (dH s.aa[i] n)⟩:=by
 have hp:=vn s.aa[i].Names n;have Xi:=(hM.each i hi).names.n9;have Bm:=Ji ht;have sA:n∉s.aa[i].Names:=fun h=>Bm (by unfold bl;exact adx.2 ⟨_,adb hi,h⟩)
 have Um:(bl (s.aa.set i (dH s.aa[i] n))).Nodup:=by
  have h0:=xJ.1 fun j hj k hk=>((hM.each j hj).names.each k hk).2.1
  have e1:s.aa=s.aa.take i++s.aa[i]::s.aa.drop (i+1):=by simp
  have e2:s.aa.set i (dH s.aa[i] n)=s.aa.take i++dH s.aa[i] n::s.aa.drop (i+1):=by rw [ad6,if_pos hi]
  have f1:bl s.aa=(bl (s.aa.take i)++s.aa[i].Names.take (mQ s.aa[i].Names n))++(s.aa[i].Names.drop (mQ s.aa[i].Names n)++bl (s.aa.drop (i+1))):=by
   conv=>lhs;rw [e1]
   rw [my,my,my,adG,aet,aem,aeu];simp only [List.append_assoc];rw [<- adj (List.take _ _),adh]
  have f2:bl (s.aa.set i (dH s.aa[i] n))=(bl (s.aa.take i)++s.aa[i].Names.take (mQ s.aa[i].Names n))++n::(s.aa[i].Names.drop (mQ s.aa[i].Names n)++bl (s.aa.drop (i+1))):=by
   rw [e2,my,my,my,adG,aet,aem,aeu];simp only [dH,aN,List.append_assoc,List.cons_append,List.nil_append,List.singleton_append]
  rw [f2,List.perm_middle.nodup_iff,<- f1,aeb];exact ⟨Bm,h0⟩
 have iB:∀ (j:Nat) (hj:j<(s.aa.set i (dH s.aa[i] n)).length),(s.aa.set i (dH s.aa[i] n))[j]=if i=j then dH s.aa[i] n else s.aa[j]'(by simpa using hj):=fun j hj=>by rw [adB]
 have Av:oV (dH s.aa[i] n)=oV s.aa[i]:=rfl
 have yC:=jj (s:=⟨s.Words,s.Heap,s.aa.set i (dH s.aa[i] n)⟩).2 (by simp only;rw [gJ hi Av];exact jj.1 fun j hj=>(hM.each j hj).aE);have YW:=xJ (s:=⟨s.Words,s.Heap,s.aa.set i (dH s.aa[i] n)⟩).2 Um;refine ⟨hM.words,hM.heap,by simp only [List.length_set];exact hM.most,fun j hj => ?_⟩;have nR:j<s.aa.length:=by simpa using hj
 have hC:=hM.each j nR;refine ⟨?_,fun k hk => ?_,⟨fun k hk=>⟨?_,YW j hj k hk,?_⟩⟩,yC j hj⟩
 ·simp only [iB];split
  ·rename_i e;subst e;exact ⟨hC.may.lay,by simp only [dH];rw [di _ hp];omega,hC.may.ba,fun k hk=>⟨(hC.may.aE k hk).live,(hC.may.aE k hk).next,(hC.may.aE k hk).chain⟩,hC.may.dz⟩
  ·exact hC.may.same rfl rfl
 ·have e:∀ (m:Nat) (hm:m<s.aa.length),((s.aa.set i (dH s.aa[i] n))[m]'(by simpa using hm)).az=s.aa[m].az:=fun m hm=>by
   rw [iB];split
   ·rename_i e;subst e;rfl
   ·rfl
  simp only;rw [e k (by omega),e j nR];exact hC.size k hk
 ·have key:∀ (c:aQ) (ec:c=if i=j then dH s.aa[i] n else s.aa[j]) (bW:k<c.Names.length),gz c.Names[k]=true:=fun c ec bW=>by
   have hm:=adb bW;subst ec;by_cases e:i=j
   ·subst e;simp only [if_true] at hm ⊢;rcases o8.1 hm with h|h
    ·rw [h];exact hn
    ·obtain ⟨q,hq,e2⟩:=ade h;have:=((hM.each i hi).names.each q hq).1
     rw [e2] at this;exact this
   ·simp only [if_neg e] at hm ⊢;exact (hC.names.each k (by simpa [e] using bW)).1
  exact key _ (iB j hj) _
 ·intro h0
  have key:∀ (c:aQ) (ec:c=if i=j then dH s.aa[i] n else s.aa[j]) (bW:k<c.Names.length),eJ (c.Names[k-1]'(by omega)) c.Names[k]=true:=fun c ec bW=>by
   subst ec;by_cases e:i=j
   ·subst e;simp only [if_true] at bW ⊢;have Bx:k-1<(aN s.aa[i].Names (mQ s.aa[i].Names n) n).length:=by have:k<(aN s.aa[i].Names (mQ s.aa[i].Names n) n).length:=bW;omega
    show eJ ((aN s.aa[i].Names (mQ s.aa[i].Names n) n)[k-1]'Bx) ((aN s.aa[i].Names (mQ s.aa[i].Names n) n)[k]'bW)=true
    rcases vH hp Bx with ⟨g,g1,e1⟩|⟨g1,e1⟩|⟨g,g1,e1⟩
    ·rcases vH hp bW with ⟨g',Qq,Lr⟩|⟨Qq,Lr⟩|⟨g',Qq,Lr⟩
     ·rw [e1,Lr];exact Xi _ _ g g' (by omega)
     ·rw [e1,Lr];exact IN g1 g
     ·omega
    ·rcases vH hp bW with ⟨g',Qq,Lr⟩|⟨Qq,Lr⟩|⟨g',Qq,Lr⟩
     ·omega
     ·omega
     ·rw [e1,Lr];refine KC (OR Xi (by omega) g') fun e=>sA (e ▸ adb g')
    ·rcases vH hp bW with ⟨g',Qq,Lr⟩|⟨Qq,Lr⟩|⟨g',Qq,Lr⟩
     ·omega
     ·omega
     ·rw [e1,Lr];exact Xi _ _ g g' (by omega)
   ·simp only [if_neg e] at bW ⊢;exact (hC.names.each k bW).2.2 h0
  exact key _ (iB j hj) _
theorem KD {z:Int} (h : 1<=z∧z<=64) : dp z=((dp z).1,(dp z).2.1,0):=by
 unfold dp;rw [if_pos h];split
 ·rfl
 ·split<;>rfl
theorem No (hM:aB s) (hn:gz n=true) (ht:s.aa.any (dQ n)=false) {z:Int} (hz : 1<=z∧z<=64) (hd:∀ j (hj:j<s.aa.length),s.aa[j].az≠z) (hl:s.aa.length<20) : aB ⟨s.Words,s.Heap,s.aa++[dT s n z]⟩:=by
 have pL:=hM.heap.cpus;have Bm:=Ji ht;refine ⟨hM.words,hM.heap,by simp only [List.length_append,List.length_singleton];omega,fun j hj => ?_⟩;simp only [List.length_append,List.length_singleton] at hj;have iB:∀ (k:Nat) (hk:k<s.aa.length),(s.aa++[dT s n z])[k]'(by simp;omega)=s.aa[k]:=fun k hk=>aeh hk
 have G5:∀ k,k<=s.aa.length->(s.aa++[dT s n z]).take k=s.aa.take k:=fun k hk=>aeC hk
 by_cases e:j<s.aa.length
 ·have hC:=hM.each j e;refine ⟨?_,fun k hk => ?_,?_,?_⟩
  ·simp only [iB j e];exact hC.may.same rfl rfl
  ·simp only [iB j e,iB k (by omega)];exact hC.size k hk
  ·simp only [iB j e,G5 j (by omega)];exact hC.names
  ·simp only [iB j e,G5 j (by omega)];exact hC.aE
 ·obtain rfl:j=s.aa.length:=by omega
  have vw:(s.aa++[dT s n z])[s.aa.length]'(by simp)=dT s n z:=by simp
  refine ⟨?_,fun k hk => ?_,?_,?_⟩
  ·simp only [vw];refine ⟨KD hz,by simp [dT],?_,fun k hk=>by simp [dT] at hk,fun k hk => .inl (by simp [dT])⟩;simp only [dT,List.length_replicate];omega
  ·simp only [vw,iB k hk];exact hd k hk
  ·simp only [vw,G5 _ (Nat.le_refl _),List.take_length];refine ⟨fun k hk => ?_⟩;simp only [dT,List.length_singleton] at hk;obtain rfl:k=0:=by omega
   exact ⟨hn,by simpa [dT] using Bm,fun h=>by omega⟩
  ·simp only [vw];intro k hk;simp [dT] at hk
theorem lI.jT (hI:dM s) {align:Int} (h:lI s n size align u) (h0:u.2=0) : dM u.1∧(mx s->mx u.1):=by
 have hM:=hI.may;have rV:=h.small hI.cK.small;cases h with
 | bad|form|range|gE|full=>simp at h0
 | @uM i _ hn hs ht hi hz ha =>
   have:=Nn hM hn.1 ht hi
   refine ⟨⟨jk this rV,this⟩,fun hN j hj => ?_⟩;obtain ⟨p,hp,h1,h2⟩:=hN j hj;obtain ⟨c,hc,rfl⟩:=adv.1 hp;obtain ⟨k,hk,rfl⟩:=ade hc;by_cases e:k=i
   ·subst e;refine ⟨((dH s.aa[k] n).Names,(dH s.aa[k] n).az),adv.2 ⟨dH s.aa[k] n,(eK hi).2 (.inl rfl),rfl⟩,?_,h2⟩;exact jD.2 (o8.2 (.inr (jD.1 h1)))
   ·exact ⟨_,adv.2 ⟨s.aa[k],(eK hi).2 (.inr ⟨k,hk,e,rfl⟩),rfl⟩,h1,h2⟩
 | new _ hn hs ht hz hc =>
   have hu:=IQ hn.2 hs;have:=No hM hn.1 ht (z:=rQ size align) (by omega) hz hc
   refine ⟨⟨jk this rV,this⟩,fun hN j hj => ?_⟩;obtain ⟨p,hp,h1,h2⟩:=hN j hj;obtain ⟨c,hc,rfl⟩:=adv.1 hp;exact ⟨_,adv.2 ⟨c,adN _ hc,rfl⟩,h1,h2⟩
variable {xs:List kI}
theorem o6.dq {a:cJ} {v:ah×Int} (h:o6 s a u) (k:o6 s a v) : u=v:=by
 cases h with
 | range h=>cases k with
   | range=>rfl
   | no h'|ok h'|fault h'=>exact absurd h' h
 | no h hw=>cases k with
   | range h'=>exact absurd h h'
   | no=>rfl
   | ok _ ni|fault _ ni=>rw [hw] at ni;cases ni
 | ok h hw he=>cases k with
   | range h'=>exact absurd h h'
   | no _ ni=>rw [hw] at ni;cases ni
   | ok=>rfl
   | fault _ _ ia=>exact absurd he ia
 | fault h hw he=>cases k with
   | range h'=>exact absurd h h'
   | no _ ni=>rw [hw] at ni;cases ni
   | ok _ _ ia=>exact absurd ia he
   | fault=>rfl
theorem cx.dq (hM:aB s) {a:cJ} {u v:ah×kI} (h:cx s a u) (k:cx s a v) : u=v:=by
 cases h with
 | bC hk h=>cases k with
   | bC _ h'=>rw [h.dq h']
   | nc bW|drain bW|fj bW|ko bW|nq bW|br bW|dV bW|word bW|Gn bW=>omega
 | nc hk h=>cases k with
   | nc _ h'=>rw [h.dq h']
   | bC bW|drain bW|fj bW|ko bW|nq bW|br bW|dV bW|word bW|Gn bW=>omega
 | drain hk=>cases k with
   | drain _=>rfl
   | bC bW|nc bW|fj bW|ko bW|nq bW|br bW|dV bW|word bW|Gn bW=>omega
 | fj hk h=>cases k with
   | fj _ h'=>rw [h.dq h']
   | bC bW|nc bW|drain bW|ko bW|nq bW|br bW|dV bW|word bW|Gn bW=>omega
 | ko hk h=>cases k with
   | ko _ h'=>rw [h.dq h']
   | bC bW|nc bW|drain bW|fj bW|nq bW|br bW|dV bW|word bW|Gn bW=>omega
 | nq hk h=>cases k with
   | nq _ h'=>rw [h.dq h']
   | bC bW|nc bW|drain bW|fj bW|ko bW|br bW|dV bW|word bW|Gn bW=>omega
 | br hk h=>cases k with
   | br _ h'=>rw [h.dq h']
   | bC bW|nc bW|drain bW|fj bW|ko bW|nq bW|dV bW|word bW|Gn bW=>omega
 | dV hk h=>cases k with
   | dV _ h'=>rw [h.dq h']
   | bC bW|nc bW|drain bW|fj bW|ko bW|nq bW|br bW|word bW|Gn bW=>omega
 | word hk h=>cases k with
   | word _ h'=>rw [h.dq hM h']
   | bC bW|nc bW|drain bW|fj bW|ko bW|nq bW|br bW|dV bW|Gn bW=>omega
 | Gn hk=>cases k with
   | Gn _=>rfl
   | bC bW|nc bW|drain bW|fj bW|ko bW|nq bW|br bW|dV bW|word bW=>omega
structure nJ (s:ah) : Prop where
 sys:dM s
 named:mx s
theorem nJ.kw {t:ah} (h:nJ s) (hI:dM t) (e:kw t=kw s) : nJ t:=⟨hI,h.named.kw e⟩
theorem nJ.ok {t:ah} (h:nJ s) {e:Int} (k:e=0->nJ t) : nJ (mZ e s t):=by
 unfold mZ;split
 ·exact k ‹_›
 ·exact h
theorem cx.jT {a:cJ} (h4:a.Kind≠4) {u:ah×kI} (hN:nJ s) (h:cx s a u) : nJ u.1:=by
 have hI:=hN.sys;have h':=h;cases h with
 | bC hk h=>exact hN.ok fun e=>hN.kw (DR hI h e) rfl
 | nc hk h =>
   have:=xF hk s _ hI h'
   refine hN.ok fun e => ?_
   cases h with
   | range|no=>simp at e
   | fault _ _ he=>exact absurd e he
   | ok h hw he=>exact hN.kw this rfl
 | drain hk =>
   have:=rn hk s _ hI h'
   refine hN.ok fun e=>hN.kw ?_ rfl
   simp only [mZ,if_pos e] at this;exact this
 | fj hk h =>
   refine hN.ok fun e => ?_
   obtain ⟨q,h1,_,h2,_⟩:=h.step hI e;exact hN.kw h2 h1.shape
 | ko hk h =>
   refine hN.ok fun e => ?_
   obtain ⟨h1,h2⟩:=h.step hI e;exact hN.kw h2 h1.shape
 | nq=>exact hN
 | Gn=>exact hN
 | dV hk h =>
   refine hN.ok fun e => ?_
   obtain ⟨h1,h2⟩:=h.jT hI hN.named e;exact hN.kw h1 h2
 | word hk h =>
   obtain ⟨h1,h2⟩:=h.jT hI;exact hN.ok fun e=>hN.kw h1 h2
 | br hk h =>
   cases h with
   | form bW|nF bW=>exact absurd bW h4
   | ou _ h =>
     refine hN.ok fun e => ?_
     obtain ⟨h1,h2⟩:=h.jT hI e;exact ⟨h1,h2 hN.named⟩
   | new _ h =>
     refine hN.ok fun e => ?_
     obtain ⟨_,_,h1,_⟩:=h.step hI e;exact hN.kw (h.Jc hI e) h1.shape
   | drop _ h =>
     refine hN.ok fun e => ?_
     exact hN.kw (h.jT hI e) (h.step hI e).1.shape
   | shrink =>
     refine hN.ok fun e => ?_
     obtain ⟨h1,h2,_⟩:=xI hI e;exact hN.kw h2 h1.shape
   | bulk _ h =>
     refine hN.ok fun e => ?_
     obtain ⟨_,_,_,_,_,h1,h2⟩:=h.step hI e;exact hN.kw h2 h1.shape
theorem j5 {a:cJ} (h4:a.Kind≠4) : wX nJ a:=fun s u hN h=>h.jT h4 hN
theorem jQ.named {a:cJ} (h:jQ dM a) : jQ nJ a:=fun r s lo w hO dD hN hS eG=>h r s lo w hO dD hN.sys hS eG
theorem kJ.split {t:ah} {l m:List cJ} (h:kJ s (l++m) xs t) : ∃ ys zs u,kJ s l ys u∧kJ u m zs t∧xs=ys++zs:=by
 generalize e:l++m=k at h
 induction h generalizing m with
 | nil =>
   obtain ⟨rfl,rfl⟩:=List.append_eq_nil_iff.1 e;exact ⟨[],[],_,.nil _,.nil _,rfl⟩
 | @snoc t l' xs a u h hu ih =>
   rcases aeU m with rfl|⟨m',b,rfl⟩
   ·rw [aeA] at e;subst e;exact ⟨_,[],_,.snoc h hu,.nil _,by simp⟩
   ·rw [List.concat_eq_append,<- adj] at e;rw [List.concat_eq_append];obtain ⟨e1,e2⟩:=List.append_inj' e rfl;simp only [List.cons.injEq,and_true] at e2;subst e2;obtain ⟨ys,zs,v,k1,k2,rfl⟩:=ih e1;exact ⟨ys,zs++[u.2],_,k1,.snoc k2 hu,by simp⟩
theorem kJ.dq {t t':ah} {l:List cJ} {ys:List kI} (h:kJ s l xs t) (hN:nJ s) (h4:∀ a∈l,a.Kind≠4) : kJ s l ys t'->xs=ys∧t=t':=by
 induction h generalizing ys t' with
 | nil =>
   intro k;generalize e:([] : List cJ)=l at k
   cases k with
   | nil=>exact ⟨rfl,rfl⟩
   | snoc=>simp at e
 | snoc h hu ih =>
   intro k;obtain ⟨zs,v,w,k1,k2,rfl,rfl⟩:=k.Qm;obtain ⟨rfl,rfl⟩:=ih (fun a ha=>h4 a (by simp [ha])) k1;have hNm:=h.jT (I:=nJ) hN fun a ha=>j5 (h4 a (by simp [ha]))
   rw [hu.dq hNm.sys.may k2];exact ⟨rfl,rfl⟩
structure bT where
 At:Int
 az:Int
 Kind:Int
 Name:ByteArray
 Word:Int
 ua:Bool
def pI:ByteArray:=⟨#[111,98]⟩
def gh:ByteArray:=⟨#[112,97,105,114]⟩
def iD:List (List ByteArray×Int):=[([fB 1],1),([fB 2,gh],2),([fB 4],4),([fB 8],8),([fB 16],16),([fB 32],32),([pI],5)]
theorem DS (s:ah) (n:ByteArray) : idxOf (dQ n) s.aa=idxOf (fun p=>tH p.1 n) (kw s):=(mR (by simp [kw]) (fun k h1 h2=>by simp [kw,dQ])).1
theorem DT (s:ah) (n:ByteArray) : s.aa.any (dQ n)=(kw s).any fun p=>tH p.1 n:=(mR (by simp [kw]) (fun k h1 h2=>by simp [kw,dQ])).2
def Np (p:List ByteArray×Int) : Bool:=kL.any fun k=>tH p.1 (fB k)
theorem AI (hi:i<s.aa.length) : ∃ h:i<(kw s).length,oX s.aa[i]=Np (kw s)[i]:=⟨by simpa [kw] using hi,by simp [kw,oX,Np,dQ]⟩
def vK (s:ah) (q:Src) : Prop := ∀ i (hi:i<s.aa.length),q = .obj i->oX s.aa[i]=true
theorem Uq:∀ k,k<6->(iD[k]?.map Np)=some true
 | 0,_|1,_|2,_|3,_|4,_|5,_=>by decide +kernel
 | k+6,h=>by omega
theorem Jj (h:kw s=iD) (hi:i<6) : vK s (.obj i):=fun j hj e=>by
 injection e with e
 subst e;obtain ⟨h1,h2⟩:=AI hj;rw [h2];have:(kw s)[i]=iD[i]'(by rw [<- h];exact h1):=by congr 1
 rw [this];have key:=Uq i hi;rw [adi (by simp only [iD,List.length_cons,List.length_nil];omega)] at key;injection key
theorem FM (s:ah) (o:Int) : vK s (.pg o):=fun _ _ e=>by cases e
theorem vK.kw {t:ah} (h:vK s q) (e:kw t=kw s) : vK t q:=fun i hi eq=>by
 obtain ⟨h1,h2⟩:=AI hi
 have hl:i<s.aa.length:=by
  have:=congrArg List.length e
  simp only [Go.Proofs.YtohigmjjbgpfmaaGreatDoor.kw,List.length_map] at this;omega
 obtain ⟨h3,h4⟩:=AI hl;have h5:=h i hl eq;rw [h4] at h5;rw [h2,<- h5];congr 1
 simp only [e]
theorem xd (h:kw s=iD) {n:Int} (hn:n<=32) : ∃ i:Nat,i<6∧idxOf (dQ (hU n)) s.aa=(i:Int)∧n<=o7 s i:=by
 rw [DS,h];have hz:∀ i,o7 s i=((iD[i]?).map fun p=>p.2).getD 0:=fun i=>by rw [tw,h]
 unfold hU;split
 ·exact ⟨0,by omega,by decide +kernel,by rw [hz];simp only [iD];simpa using ‹n<=1›⟩
 split
 ·exact ⟨1,by omega,by decide +kernel,by rw [hz];simp only [iD];simpa using ‹n<=2›⟩
 split
 ·exact ⟨2,by omega,by decide +kernel,by rw [hz];simp only [iD];simpa using ‹n<=4›⟩
 split
 ·exact ⟨3,by omega,by decide +kernel,by rw [hz];simp only [iD];simpa using ‹n<=8›⟩
 split
 ·exact ⟨4,by omega,by decide +kernel,by rw [hz];simp only [iD];simpa using ‹n<=16›⟩
 ·exact ⟨5,by omega,by decide +kernel,by rw [hz];simp only [iD];simpa using hn⟩
structure Fits (s:ah) (t:bT) (q:Src) : Prop where
 qs:fC s q t.At
 size : 0<=t.az∧t.az<=js s q
 kind:(t.Kind=1 ∧ ∃ o,q = .pg o)∨(t.Kind=8∧vK s q)∨(t.Kind=5∧((t.Name=pI∧q = .obj 6)∨(t.Name=gh∧q = .obj 1)))
 name:t.Kind≠5->t.Name=⟨#[]⟩
 word:t.ua=true->s.Words[t.At.toNat]?=some t.Word
structure Out (cp:Int) (s:ah) (l:List bT) : Prop where
 sys:dM s
 shape:kw s=iD
 cpus:s.Heap.bG=cp
 fits:∀ t∈l,∃ q,Fits s t q
 apart:(l.map fun t=>t.At).Nodup
 all:∀ q a,fC s q a -> ∃ t∈l,t.At=a
section
variable {cp:Int} {s t:ah} {x:Int->Prop} {y:Src->Int->Prop} {l:List bT}
theorem Fits.jT {z:bT} (h:Fits s z q) (k:eW s t x y) (hx : ¬ x z.At) : Fits t z q :=
 ⟨(k.aw q z.At).2 (.inl ⟨h.qs,hx⟩),by rw [k.ext];exact h.size,by
  rcases h.kind with h1|⟨h1,h2⟩|h1
  ·exact .inl h1
  ·exact .inr (.inl ⟨h1,h2.kw k.shape⟩)
  ·exact .inr (.inr h1),h.name,fun hw=>by rw [k.words q z.At h.qs hx];exact h.word hw⟩
theorem Out.same (h:Out cp s l) (k:eW s t rp wZ) (hI:dM t) : Out cp t l :=
 ⟨hI,k.shape.trans h.shape,k.cpus.trans h.cpus,fun z hz=>by obtain ⟨q,hq⟩:=h.fits z hz;exact ⟨q,hq.jT k fun h=>h⟩,h.apart,fun q a ha=>by
  rcases (k.aw q a).1 ha with h1|h1
  ·exact h.all q a h1.1
  ·exact h1.elim⟩
theorem Out.more (h:Out cp s l) {z:bT} (k:eW s t rp (fun r a=>r=q∧a=z.At)) (hI:dM t) (hn:∀ r,¬ fC s r z.At) (hz : 0<=z.az∧z.az<=js s q) (hk:(z.Kind=1 ∧ ∃ o,q = .pg o)∨(z.Kind=8∧vK s q)∨(z.Kind=5∧((z.Name=pI∧q = .obj 6)∨(z.Name=gh∧q = .obj 1)))) (hm:z.Kind≠5->z.Name=⟨#[]⟩) (hw:z.ua=false) : Out cp t (l++[z]):=by
 refine ⟨hI,k.shape.trans h.shape,k.cpus.trans h.cpus,fun u hu => ?_,?_,fun r a ha => ?_⟩
 ·rcases adm.1 hu with hu|hu
  ·obtain ⟨r,hr⟩:=h.fits u hu;exact ⟨r,hr.jT k fun h=>h⟩
  ·simp only [List.mem_singleton] at hu;subst hu;refine ⟨q,(k.aw q u.At).2 (.inr ⟨rfl,rfl⟩),by rw [k.ext];exact hz,?_,hm,fun h=>by rw [hw] at h;cases h⟩;rcases hk with h1|⟨h1,h2⟩|h1
   ·exact .inl h1
   ·exact .inr (.inl ⟨h1,h2.kw k.shape⟩)
   ·exact .inr (.inr h1)
 ·rw [adG,adT];refine ⟨h.apart,by simp,fun a ha b hb e => ?_⟩;simp only [List.map_cons,List.map_nil,List.mem_singleton] at hb;obtain ⟨u,hu,rfl⟩:=adv.1 ha;obtain ⟨r,hr⟩:=h.fits u hu;exact hn r (by rw [<- hb,<- e];exact hr.qs)
 ·rcases (k.aw r a).1 ha with h1|⟨_,rfl⟩
  ·obtain ⟨u,hu,e⟩:=h.all r a h1.1;exact ⟨u,adN _ hu,e⟩
  ·exact ⟨z,by simp,rfl⟩
theorem vL (h:(l.map fun t=>t.At).Nodup) (hi:i<l.length) (hj:j<l.length) (bJ:i≠j) : l[i].At≠l[j].At:=fun e=>by
 have:=adl.1 h
 rcases aep bJ with g|g
 ·exact this i j (by simpa using hi) (by simpa using hj) g (by simp [e])
 ·exact this j i (by simpa using hj) (by simpa using hi) g (by simp [e])
theorem Out.less (h:Out cp s l) (hi:i<l.length) (k:eW s t (fun a=>a=l[i].At) wZ) (hI:dM t) : Out cp t (l.eraseIdx i):=by
 refine ⟨hI,k.shape.trans h.shape,k.cpus.trans h.cpus,fun u hu => ?_,?_,fun r a ha => ?_⟩
 ·obtain ⟨j,hj,ja,rfl⟩:=mem_erase_iff.1 hu;obtain ⟨r,hr⟩:=h.fits _ (adb hj);exact ⟨r,hr.jT k (vL h.apart hj hi ja)⟩
 ·exact List.Nodup.sublist (List.Sublist.map _ (ad4 _ _)) h.apart
 ·rcases (k.aw r a).1 ha with ⟨h1,h2⟩|h1
  ·obtain ⟨u,hu,e⟩:=h.all r a h1;obtain ⟨j,hj,rfl⟩:=ade hu;refine ⟨l[j],mem_erase_iff.2 ⟨j,hj,fun e' => ?_,rfl⟩,e⟩;subst e';exact h2 e.symm
  ·exact h1.elim
theorem Out.put (h:Out cp s l) (hi:i<l.length) {z:bT} (k:eW s t (fun a=>a=l[i].At) (fun r a=>r=q∧a=z.At)) (hI:dM t) (hn:z.At=l[i].At ∨ ∀ r,¬ fC s r z.At) (hf:Fits t z q) : Out cp t (l.set i z):=by
 have bJ:∀ (j:Nat) (hj:j<l.length),j≠i->l[j].At≠z.At:=fun j hj ja e=>by
  rcases hn with hn|hn
  ·exact vL h.apart hj hi ja (e.trans hn)
  ·obtain ⟨r,hr⟩:=h.fits _ (adb hj);exact hn r (by rw [<- e];exact hr.qs)
 refine ⟨hI,k.shape.trans h.shape,k.cpus.trans h.cpus,fun u hu => ?_,?_,fun r a ha => ?_⟩
 ·rcases (eK hi).1 hu with rfl|⟨j,hj,ja,rfl⟩
  ·exact ⟨q,hf⟩
  ·obtain ⟨r,hr⟩:=h.fits _ (adb hj);exact ⟨r,hr.jT k (vL h.apart hj hi ja)⟩
 ·rw [aew];refine adl.2 fun j m hj hm X0 => ?_
  simp only [List.length_set,List.length_map] at hj hm;rw [adB,adB];by_cases e1:i=j
  ·subst e1;rw [if_pos rfl,if_neg (by omega),aex];exact fun e=>bJ m hm (by omega) e.symm
  ·rw [if_neg e1];by_cases e2:i=m
   ·subst e2;rw [if_pos rfl,aex];exact bJ j hj (by omega)
   ·rw [if_neg e2,aex,aex];exact vL h.apart hj hm (by omega)
 ·rcases (k.aw r a).1 ha with ⟨h1,h2⟩|⟨_,rfl⟩
  ·obtain ⟨u,hu,e⟩:=h.all r a h1;obtain ⟨j,hj,rfl⟩:=ade hu;refine ⟨l[j],(eK hi).2 (.inr ⟨j,hj,fun e' => ?_,rfl⟩),e⟩;subst e';exact h2 e.symm
  ·exact ⟨z,(eK hi).2 (.inl rfl),rfl⟩
theorem Out.many (h:Out cp s l) {m:List Int} (k:eW s t rp (fun r a=>r = .obj i∧a∈m)) (hI:dM t) (hd:m.Nodup) (hn:∀ a∈m,∀ r,¬ fC s r a) {z:Int} (hz : 0<=z∧z<=o7 s i) (hk:(n=pI∧i=6)∨(n=gh∧i=1)) :
 Out cp t (l++m.map fun a=>⟨a,z,5,n,0,false⟩):=by
 refine ⟨hI,k.shape.trans h.shape,k.cpus.trans h.cpus,fun u hu => ?_,?_,fun r a ha => ?_⟩
 ·rcases adm.1 hu with hu|hu
  ·obtain ⟨r,hr⟩:=h.fits u hu;exact ⟨r,hr.jT k fun h=>h⟩
  ·obtain ⟨a,ha,rfl⟩:=adv.1 hu;refine ⟨.obj i,(k.aw _ _).2 (.inr ⟨rfl,ha⟩),by rw [k.ext];exact hz,.inr (.inr ⟨rfl,?_⟩),fun h=>absurd rfl h,fun h=>by cases h⟩;rcases hk with ⟨rfl,rfl⟩|⟨rfl,rfl⟩
   ·exact .inl ⟨rfl,rfl⟩
   ·exact .inr ⟨rfl,rfl⟩
 ·rw [adG,afj,adT]
  have e:m.map ((fun t:bT=>t.At) ∘ fun a=>⟨a,z,5,n,0,false⟩)=m:=by
   refine (List.map_congr_left (g:=id) fun a _=>rfl).trans (List.map_id m)
  rw [e];refine ⟨h.apart,hd,fun a ha b hb e => ?_⟩;obtain ⟨u,hu,rfl⟩:=adv.1 ha;obtain ⟨r,hr⟩:=h.fits u hu;exact hn b hb r (by rw [<- e];exact hr.qs)
 ·rcases (k.aw r a).1 ha with h1|⟨_,h1⟩
  ·obtain ⟨u,hu,e⟩:=h.all r a h1.1;exact ⟨u,adN _ hu,e⟩
  ·exact ⟨_,aeF _ (adv.2 ⟨a,h1,rfl⟩),rfl⟩
end
section
variable {s:ah} {a:cJ} {u:ah×kI}
theorem cx.YX (hk:a.Kind=1) (h:cx s a u) : ∃ v,cU s.Heap a.ga a.N a.Flags v∧u=(mZ v.2.2 s (rj s v.1),⟨v.2.2,v.2.1,[]⟩):=by cases h<;>first|exact ⟨_,‹_›,rfl⟩|(exfalso;omega)
theorem cx.of2 (hk:a.Kind=2) (h:cx s a u) : ∃ v,o6 s a v∧u=(mZ v.2 s v.1,⟨v.2,0,[]⟩):=by cases h<;>first|exact ⟨_,‹_›,rfl⟩|(exfalso;omega)
theorem cx.of8 (hk:a.Kind=8) (h:cx s a u) : ∃ v,eR s a.ga a.N v∧u=(mZ v.2.2 s v.1,⟨v.2.2,v.2.1,[]⟩):=by cases h<;>first|exact ⟨_,‹_›,rfl⟩|(exfalso;omega)
theorem cx.of9 (hk:a.Kind=9) (h:cx s a u) : ∃ v,k7 s a.ga a.At v∧u=(mZ v.2 s v.1,⟨v.2,0,[]⟩):=by cases h<;>first|exact ⟨_,‹_›,rfl⟩|(exfalso;omega)
theorem cx.Xj (hk:a.Kind=11) (h:cx s a u) : ∃ v,nE s a.ga a.At a.N v∧u=(mZ v.2.2 s v.1,⟨v.2.2,v.2.1,[]⟩):=by cases h<;>first|exact ⟨_,‹_›,rfl⟩|(exfalso;omega)
theorem cx.Xk (hk:a.Kind=12) (h:cx s a u) : u=(mZ (k6 s.Heap).1 s (rj s (k6 s.Heap).2),⟨(k6 s.Heap).1,0,[]⟩):=by cases h<;>first|rfl|(exfalso;omega)
theorem cx.YY (hk:a.Kind=13∨a.Kind=14) (h:cx s a u) : ∃ v,mf s a v∧u=(mZ v.2.2 s v.1,⟨v.2.2,v.2.1,[]⟩):=by cases h<;>first|exact ⟨_,‹_›,rfl⟩|(exfalso;omega)
theorem cx.Ur (hk:(3<=a.Kind∧a.Kind<=7)∨a.Kind=15) (h:cx s a u) : ∃ v,ff s a v∧u=(mZ v.2.2.2 s v.1,⟨v.2.2.2,v.2.1,v.2.2.1⟩):=by cases h<;>first|exact ⟨_,‹_›,rfl⟩|(exfalso;omega)
theorem cx.YZ (hk:a.Kind=3) (h:cx s a u) : ∃ v,lI s a.Name a.N a.M v∧u=(mZ v.2 s v.1,⟨v.2,0,[]⟩):=by
 obtain ⟨v,hv,rfl⟩:=h.Ur (by omega);cases hv<;>first|exact ⟨_,‹_›,rfl⟩|(exfalso;omega)
theorem cx.of5 (hk:a.Kind=5) (h:cx s a u) : ∃ v,pA s a.Name a.ga v∧u=(mZ v.2.2 s v.1,⟨v.2.2,v.2.1,[]⟩):=by
 obtain ⟨v,hv,rfl⟩:=h.Ur (by omega);cases hv<;>first|exact ⟨_,‹_›,rfl⟩|(exfalso;omega)
theorem cx.of6 (hk:a.Kind=6) (h:cx s a u) : ∃ v,rb s a.Name a.ga a.At v∧u=(mZ v.2 s v.1,⟨v.2,0,[]⟩):=by
 obtain ⟨v,hv,rfl⟩:=h.Ur (by omega);cases hv<;>first|exact ⟨_,‹_›,rfl⟩|(exfalso;omega)
theorem cx.of7 (hk:a.Kind=7) (h:cx s a u) : u=(mZ (iM s a.Name).2 s (iM s a.Name).1,⟨(iM s a.Name).2,0,[]⟩):=by
 obtain ⟨v,hv,rfl⟩:=h.Ur (by omega);cases hv<;>first|rfl|(exfalso;omega)
theorem cx.Xl (hk:a.Kind=15) (h:cx s a u) : ∃ v,oo s a.Name a.ga a.N v∧u=(mZ v.2.2 s v.1,⟨v.2.2,0,v.2.1⟩):=by
 obtain ⟨v,hv,rfl⟩:=h.Ur (by omega);cases hv<;>first|exact ⟨_,‹_›,rfl⟩|(exfalso;omega)
theorem cx.fail (h:cx s a u) (h0:u.2.Code≠0) : u.1=s:=by
 cases h<;>first|rfl|exact if_neg h0
end
section
variable {cp:Int} {s:ah} {u:ah×kI} {l:List bT}
theorem ov {e:Int} (h:e=0) (s t:ah) : mZ e s t=t:=if_pos h
theorem Out.named (h:Out cp s l) : nJ s:=by
 refine ⟨h.sys,?_⟩;unfold mx;rw [h.shape];intro j hj;obtain ⟨e0,e1,e2,e3,e4,e5⟩:=Jh;rcases (show j=0∨j=1∨j=2∨j=3∨j=4∨j=5 by omega) with rfl|rfl|rfl|rfl|rfl|rfl
 ·exact ⟨([fB 1],1),by simp [iD],by rw [e0];decide +kernel,e0.symm⟩
 ·exact ⟨([fB 2,gh],2),by simp [iD],by rw [e1];decide +kernel,e1.symm⟩
 ·exact ⟨([fB 4],4),by simp [iD],by rw [e2];decide +kernel,e2.symm⟩
 ·exact ⟨([fB 8],8),by simp [iD],by rw [e3];decide +kernel,e3.symm⟩
 ·exact ⟨([fB 16],16),by simp [iD],by rw [e4];decide +kernel,e4.symm⟩
 ·exact ⟨([fB 32],32),by simp [iD],by rw [e5];decide +kernel,e5.symm⟩
theorem Us (o:Int) : 0<=pw o:=by unfold pw;exact Int.le_of_lt (Int.pow_pos (by decide))
theorem eR.pos {c n:Int} {u:ah×Int×Int} (h:eR s c n u) (h0:u.2.2=0) : 1<=n:=by
 cases h with
 | bad|range|size=>simp at h0
 | obj _ hn _=>exact hn.1
 | fault _ hn _ _|bC _ hn _ _=>omega
theorem nE.pos {c n:Int} {u:ah×Int×Int} (h:nE s c a n u) (h0:u.2.2=0) : 1<=n:=by
 cases h with
 | size _ he=>exact absurd h0 he
 | range=>simp at h0
 | stay _ _ hc _=>exact hc.2
 | fault _ _ hc _ _ _=>exact hc.2
 | free _ _ hc _ _ _ _ _=>exact hc.2
 | ok _ _ hc _ _ _ _ _=>exact hc.2
theorem vM (h:Out cp s l) {a:cJ} (hk:a.Kind=8) (hu:cx s a u) (h0:u.2.Code=0) : Out cp u.1 (l++[⟨u.2.N,a.N,8,⟨#[]⟩,0,false⟩]):=by
 obtain ⟨v,hv,rfl⟩:=hu.of8 hk;simp only at h0 ⊢;rw [ov h0];obtain ⟨q,h1,h2,h3,h4,h5⟩:=hv.step h.sys h0
 have hq:a.N<=js s q∧vK s q:=by
  rcases h5 with ⟨i,rfl,hn,hi⟩|⟨rfl,hn⟩
  ·obtain ⟨j,hj,e1,e2⟩:=xd h.shape hn;obtain rfl:i=j:=by omega
   exact ⟨e2,Jj h.shape hj⟩
  ·exact ⟨CH hn,FM s _⟩
 exact h.more h1 h3 h2 ⟨by have:=hv.pos h0;simp only;omega,hq.1⟩ (.inr (.inl ⟨rfl,hq.2⟩)) (fun _=>rfl) rfl
theorem HQ (h:Out cp s l) {a:cJ} (hk:a.Kind=1) (hu:cx s a u) (h0:u.2.Code=0) : Out cp u.1 (l++[⟨u.2.N*16,16*pw a.N,1,⟨#[]⟩,0,false⟩]):=by
 obtain ⟨v,hv,rfl⟩:=hu.YX hk;simp only at h0 ⊢;rw [ov h0];have h1:=AB h.sys.may hv h0;have h2:=fun q=>vJ h.sys.may hv h0 q
 have e : 16*v.2.1=v.2.1*16:=by omega
 rw [e] at h1 h2;exact h.more h1 (DR h.sys hv h0) h2 ⟨by have:=Us a.N;simp only;omega,ae1 _⟩ (.inl ⟨rfl,_,rfl⟩) (fun _=>rfl) rfl
theorem Nq (h:Out cp s l) : idxOf (dQ pI) s.aa=(6:Int)∧o7 s 6=5:=by
 rw [DS,tw,h.shape];exact ⟨by decide +kernel,by decide +kernel⟩
theorem Nr (h:Out cp s l) : idxOf (dQ gh) s.aa=(1:Int)∧o7 s 1=2:=by
 rw [DS,tw,h.shape];exact ⟨by decide +kernel,by decide +kernel⟩
def ow (n:ByteArray) : Int:=if n=pI then 5 else if n=gh then 2 else 0
theorem Pt:gh≠pI:=by decide +kernel
theorem Ns (h:Out cp s l) {a:cJ} (hk:a.Kind=5) (hn:a.Name=pI∨a.Name=gh) (hu:cx s a u) (h0:u.2.Code=0) : Out cp u.1 (l++[⟨u.2.N,ow a.Name,5,a.Name,0,false⟩]):=by
 obtain ⟨v,hv,rfl⟩:=hu.of5 hk;simp only at h0 ⊢;rw [ov h0];obtain ⟨i,e,h1,h2⟩:=hv.step h.sys h0;have hI:=hv.Jc h.sys h0;rcases hn with hn|hn
 ·rw [hn] at e ⊢;obtain ⟨e1,e2⟩:=Nq h;obtain rfl:i=6:=by omega
  exact h.more h1 hI h2 (by simp only [ow,if_true,js,e2];decide) (.inr (.inr ⟨rfl,.inl ⟨rfl,rfl⟩⟩)) (fun h=>absurd rfl h) rfl
 ·rw [hn] at e ⊢;obtain ⟨e1,e2⟩:=Nr h;obtain rfl:i=1:=by omega
  exact h.more h1 hI h2 (by simp only [ow,if_neg Pt,if_true,js,e2];decide) (.inr (.inr ⟨rfl,.inr ⟨rfl,rfl⟩⟩)) (fun h=>absurd rfl h) rfl
theorem KE (h:Out cp s l) {a:cJ} (hk:a.Kind=15) (hn:a.Name=pI) (hu:cx s a u) (h0:u.2.Code=0) : Out cp u.1 (l++u.2.L.map fun p=>⟨p,5,5,a.Name,0,false⟩)∧(u.2.L.length:Int)=a.N:=by
 obtain ⟨v,hv,rfl⟩:=hu.Xl hk;simp only at h0 ⊢;rw [ov h0];obtain ⟨i,e,h1,h2,h3,h4,h5⟩:=hv.step h.sys h0;rw [hn] at e ⊢;obtain ⟨e1,e2⟩:=Nq h;obtain rfl:i=6:=by omega
 exact ⟨h.many h4 h5 h1 h3 (by rw [e2];decide) (.inl ⟨rfl,rfl⟩),h2⟩
theorem CJ (h:Out cp s l) {a:cJ} (hk:a.Kind=12∨a.Kind=7∨a.Kind=14) (hu:cx s a u) : Out cp u.1 l:=by
 by_cases h0:u.2.Code=0
 ·rcases hk with hk|hk|hk
  ·have:=hu.Xk hk
   subst this;simp only at h0 ⊢;rw [ov h0];have hI:=rn hk s _ h.sys (.drain hk);rw [ov h0] at hI;exact h.same (HJ h.sys.may) hI
  ·have:=hu.of7 hk
   subst this;simp only at h0 ⊢;rw [ov h0];obtain ⟨h1,h2,_⟩:=xI h.sys h0;exact h.same h1 h2
  ·obtain ⟨v,hv,rfl⟩:=hu.YY (.inr hk);simp only at h0 ⊢;rw [ov h0];cases hv with
   | no=>simp at h0
   | read=>exact h
   | range=>simp at h0
   | write _ RV=>exact absurd hk RV
 ·rw [hu.fail h0];exact h
theorem xe (h:Out cp s l) (hi:i<l.length) {a:cJ} (hk:(a.Kind=9∨a.Kind=6)∧a.At=l[i].At∨a.Kind=2∧a.At*16=l[i].At) (hu:cx s a u) (h0:u.2.Code=0) : Out cp u.1 (l.eraseIdx i):=by
 rcases hk with ⟨hk|hk,e⟩|⟨hk,e⟩
 ·obtain ⟨v,hv,rfl⟩:=hu.of9 hk;simp only at h0 ⊢;rw [ov h0];obtain ⟨h1,h2⟩:=hv.step h.sys h0;rw [e] at h1;exact h.less hi h1 h2
 ·obtain ⟨v,hv,rfl⟩:=hu.of6 hk;simp only at h0 ⊢;rw [ov h0];have h1:=(hv.step h.sys h0).1;rw [e] at h1;exact h.less hi h1 (hv.jT h.sys h0)
 ·have hs:=xF hk s _ h.sys hu;obtain ⟨v,hv,rfl⟩:=hu.of2 hk;simp only at h0 hs ⊢;rw [ov h0] at hs ⊢;cases hv with
  | range|no=>simp at h0
  | fault _ _ he=>exact absurd h0 he
  | ok hr hw he =>
    have hm:=h.sys.may.heap;obtain ⟨hf,_,_⟩:=fe hw;rw [show a.At*16 / 16=a.At by omega] at hf;by_cases hc : 0<=a.ga∧a.ga<s.Heap.bG
    ·rw [nz (cq.2 hm) hc hf] at hs ⊢;have h1:=CE h.sys.may hc hw;rw [e] at h1;exact h.less hi h1 hs
    ·rw [yD (cq.2 hm) hc] at he;exact absurd he (by simp)
theorem KF (h:Out cp s l) (hi:i<l.length) {a:cJ} (hk:a.Kind=11) (ht:l[i].Kind=8) (e:a.At=l[i].At) (hu:cx s a u) (h0:u.2.Code=0) : Out cp u.1 (l.set i ⟨u.2.N,a.N,l[i].Kind,l[i].Name,l[i].Word,l[i].ua⟩):=by
 obtain ⟨v,hv,rfl⟩:=hu.Xj hk;simp only at h0 ⊢;rw [ov h0];obtain ⟨q,hq⟩:=h.fits _ (adb hi)
 have hm:vK s q:=by
  rcases hq.kind with ⟨h1,_⟩|⟨_,h2⟩|⟨h1,_⟩
  ·omega
  ·exact h2
  ·omega
 have kq : 0<=a.N:=by have:=hv.pos h0;omega
 rw [e] at hv
 rcases hv.step h.sys hq.qs hm (fun i hn hi=>by
  obtain ⟨j,_,e1,e2⟩:=xd h.shape hn;obtain rfl:i=j:=by omega
  exact e2) h0 with ⟨rfl,hn⟩|⟨r,h1,h2,h3,h4,h5,h6,h7⟩
 ·simp only;have hr:=fu h.sys.may hq.qs;obtain ⟨_,hw⟩:=xc h.sys hq.qs (a:=l[i].At) (m:=s.Words.getD l[i].At.toNat 0) (ae1 _) (by omega)
  have es:(⟨s.Words.set l[i].At.toNat (s.Words.getD l[i].At.toNat 0),s.Heap,s.aa⟩ : ah)=s:=by
   have eX:l[i].At.toNat<s.Words.length:=by have:=h.sys.may.words;omega
   have:s.Words.getD l[i].At.toNat 0=s.Words[l[i].At.toNat]:=by simp [List.getD,eX]
   rw [this,adW]
  rw [es] at hw;exact h.put hi (q:=q) (z:=⟨l[i].At,a.N,l[i].Kind,l[i].Name,l[i].Word,l[i].ua⟩) hw h.sys (.inl rfl) ⟨hq.qs,⟨kq,hn⟩,hq.kind,hq.name,hq.word⟩
 ·refine h.put hi (q:=r) h1 h2 (.inr h5) ⟨(h1.aw r v.2.1).2 (.inr ⟨rfl,rfl⟩),by rw [h1.ext];exact ⟨kq,h3⟩,.inr (.inl ⟨ht,?_⟩),hq.name,fun hw => ?_⟩
  ·rcases h7 with ⟨j,rfl,hn,hj⟩|⟨rfl,hn⟩
   ·obtain ⟨k,hk6,e1,e2⟩:=xd h.shape hn;obtain rfl:j=k:=by omega
    exact (Jj h.shape hk6).kw h1.shape
   ·exact FM _ _
  ·simp only;rw [h6];exact hq.word hw
theorem HR (h:Out cp s l) (hi:i<l.length) {a:cJ} (hk:a.Kind=13) (e:a.At=l[i].At) (hu:cx s a u) (h0:u.2.Code=0) : Out cp u.1 (l.set i ⟨l[i].At,l[i].az,l[i].Kind,l[i].Name,a.M,true⟩):=by
 obtain ⟨v,hv,rfl⟩:=hu.YY (.inl hk);simp only at h0 ⊢;rw [ov h0];obtain ⟨q,hq⟩:=h.fits _ (adb hi);have hr:=fu h.sys.may hq.qs;cases hv with
 | no=>simp at h0
 | range=>simp at h0
 | read _ RV=>omega
 | write hw bW hm =>
   simp only;rw [e];obtain ⟨h1,h2⟩:=xc h.sys hq.qs (a:=l[i].At) (m:=a.M) (ae1 _) (by omega);refine h.put hi (q:=q) (z:=⟨l[i].At,l[i].az,l[i].Kind,l[i].Name,a.M,true⟩) h2 h1 (.inl rfl) ⟨(h2.aw q _).2 (.inr ⟨rfl,rfl⟩),by rw [h2.ext];exact hq.size,?_,hq.name,fun _ => ?_⟩
   ·rcases hq.kind with h3|⟨h3,h4⟩|h3
    ·exact .inl h3
    ·exact .inr (.inl ⟨h3,h4.kw h2.shape⟩)
    ·exact .inr (.inr h3)
   ·simp only;rw [aef (by have:=h.sys.may.words;omega)]
end
theorem FN (A:Option Addr) (n c:Nat) (l:List Region) (w:World) (hl:Sl w 2 jw A n l) (hn:n<=9223372036854775807) :
 bF prog 78 [.slice A n c] w fun v _=>v = .bool (fa l):=by
 refine aC func78 rfl ntmps78 rfl ?_;have hw:=Ext.refl w;have hA:=hl.base;have mH:=hl.len;repeat' (first|refine Wz ?_|(refine CW.uP rfl (fun h => ?_) (fun h => ?_)))
 ·refine ae.bg rfl rfl ⟨_,rfl,hw,?_⟩;rw [qI (fun h=>by have:=h.1;omega)]
 ·refine CW.loop (fun k:Nat=>[(0,.slice A n c),(8,.slice A n c),(9,.int .i64 (n:Int)),(10,.int .i64 (k:Int))]) (fun k w'=>k<=n∧Ext w w' ∧ ∀ (i:Nat) (h:i<l.length),i<k->(l[i]).ok ∧ ∀ (h0 : 0<i),(l[i-1]'(by omega)).aV+(l[i-1]'(by omega)).az<(l[i]).aV)
   (fun k=>n-k) 0 ⟨rfl,rfl,rfl,rfl,trivial⟩ ⟨by omega,hw,fun i h hi=>by omega⟩ ?_
  clear hw;rintro k w' ⟨hk,hw,hI⟩
  by_cases gp:k<n
  ·have iE:=hl.lt gp;have gm:∀ {w1 w2:World} {b:Nat},Ext w w1->w.heap.size<=b->w1.grownBy w2 (some b)->Ext w w2:=fun h1 h2 hg=>aD h1 hg (adg _) (fun k e=>by cases e;exact h2)
   by_cases lX:(l[k]).ok
   ·by_cases Bd:k=0
    ·subst Bd;repeat' (first|refine Wz ?_|refine Wo hw ((hl.all gp)) ?_)
     refine SW.alloc rfl fun b w1 ai hb hB => ?_
     have D6:=hw.up hb
     have hw:=hw.trans ai;refine Wz ?_;refine SW.ag hB rfl rfl rfl rfl (iy.one (enc:=jw) _) fun w2 qA hg => ?_
     have hw:=gm hw D6 hg;repeat' (first|refine Wz ?_|((apply CW.bH mixed;(· kernel_rfl);rotate_left;intro w1 ai;obtain ⟨hw,qA⟩:=df ai hw qA;clear ai;rotate_right))|refine SW.dK rfl rfl (fun w1 ai=>(sc lX _)) ?_|exact SW.eU rfl)
     refine ae.again (0+1) ⟨rfl,rfl,rfl,rfl,trivial⟩ (by omega) ⟨by omega,hw,fun i h hi => ?_⟩;obtain rfl:i=0:=by omega
     exact ⟨lX,fun h0=>by omega⟩
    ·obtain ⟨j,rfl⟩ : ∃ j,k=j+1:=⟨k-1,by omega⟩;have hj:j<n:=by omega
     have hp:=(hI j (hl.lt hj) (by omega)).1;by_cases eX:(l[j]'(hl.lt hj)).aV+(l[j]'(hl.lt hj)).az<(l[j+1]).aV
     all_goals
      repeat' (first|refine Wz ?_|refine Wo hw ((hl.all gp)) ?_)
      refine SW.alloc rfl fun b w1 ai hb hB => ?_
      have D6:=hw.up hb
      have hw:=hw.trans ai;refine Wz ?_;refine SW.ag hB rfl rfl rfl rfl (iy.one (enc:=jw) _) fun w2 qA hg => ?_
      have hw:=gm hw D6 hg;repeat' (first|refine Wz ?_|((apply CW.bH mixed;(· kernel_rfl);rotate_left;intro w1 ai;obtain ⟨hw,qA⟩:=df ai hw qA;clear ai;rotate_right))|refine SW.st (cf (j) rfl rfl (by assumption) (by omega) (by omega)) rfl ?_|refine Wo hw ((hl.all hj)) ?_|refine SW.dK rfl rfl (fun w1 ai=>(sc lX _)) ?_|refine SW.dK rfl rfl (fun w1 ai=>(zn hp _)) ?_|exact SW.eU rfl)
     ·refine ae.again (j+1+1) ⟨rfl,rfl,rfl,rfl,trivial⟩ (by omega) ⟨by omega,hw,fun i h hi => ?_⟩;by_cases pk:i=j+1
      ·subst pk;exact ⟨lX,fun _=>eX⟩
      ·exact hI i h (by omega)
     ·refine ae.bg rfl rfl ⟨_,rfl,hw,?_⟩;rw [qI (fun h=>eX ((h.2 (j+1) iE).2 (by omega)))]
   ·repeat' (first|refine Wz ?_|refine Wo hw ((hl.all gp)) ?_)
    refine SW.alloc rfl fun b w1 ai hb hB => ?_
    have D6:=hw.up hb
    have hw:=hw.trans ai;refine Wz ?_;refine SW.ag hB rfl rfl rfl rfl (iy.one (enc:=jw) _) fun w2 qA hg => ?_
    have hw:=gm hw D6 hg;repeat' (first|refine Wz ?_|((apply CW.bH mixed;(· kernel_rfl);rotate_left;intro w1 ai;obtain ⟨hw,qA⟩:=df ai hw qA;clear ai;rotate_right))|refine SW.dK rfl rfl (fun w1 ai=>(zm lX _)) ?_|exact SW.eU rfl)
    refine ae.bg rfl rfl ⟨_,rfl,hw,?_⟩;rw [qI (fun h=>lX (h.2 k iE).1)]
  ·refine Wz ?_;refine ae.bg rfl rfl ⟨_,rfl,hw,?_⟩;rw [mg ⟨by omega,fun i h=>hI i h (by omega)⟩]
def qt (A:Option Addr) (n c:Nat) (B:Option Addr) (m d:Nat) : List Value:=[.slice A n c,.slice B m d]
noncomputable def qu (x y:List Region) : Bool:=fa x && fa y
theorem CK (A:Option Addr) (n c:Nat) (B:Option Addr) (m d:Nat) (x y:List Region) (w:World) (hx:Sl w 2 jw A n x) (hy:Sl w 2 jw B m y) (hn:n<=9223372036854775807) (hm:m<=9223372036854775807) :
 bF prog 41 [.agg (qt A n c B m d).toArray] w fun v _=>v = .int .i64 (if qu x y then 0 else 8):=by
 refine aC func41 rfl ntmps41 rfl ?_;refine CW.seq (CW.region (SW.box rfl rfl fun b w1 hw hb hB => ?_));obtain ⟨bx,Y1⟩ : ∃ b,fa x=b:=⟨_,rfl⟩;obtain ⟨bY,Y3⟩ : ∃ b,fa y=b:=⟨_,rfl⟩;have l1:∀ w',Ext w w'->bF prog 78 [.slice A n c] w' fun v _=>v = .bool bx:=fun w' h=>by have:=FN A n c x w' (hx.ext h) hn;rwa [Y1] at this
 have l2:∀ w',Ext w w'->bF prog 78 [.slice B m d] w' fun v _=>v = .bool bY:=fun w' h=>by have:=FN B m d y w' (hy.ext h) hm;rwa [Y3] at this
 cases bx<;>cases bY
 all_goals
  repeat' (first|refine Wz ?_|(first|refine CW.gu rfl ?_|refine CW.fY rfl ?_)|refine SW.want rfl rfl ?_|refine SW.skip rfl rfl rfl rfl ?_|((first|refine Wk (l1 _ hw) ?_|refine Wk (l2 _ hw) ?_);intro v w1 ai hv;subst hv;obtain ⟨hw,hB⟩:=df ai hw hB;clear ai))
  refine ae.bg rfl rfl ⟨_,rfl,hw,?_⟩;simp [qu,Y1,Y3]
theorem HT {l:List Region} (hk:k<l.length) (i:Int) : eI (l.take (k+1)) i=(eI (l.take k) i || (decide ((l[k]).aV<=i) && decide (i<(l[k]).aV+(l[k]).az))):=by
 unfold eI;rw [adk hk,List.any_append];simp only [List.any_cons,List.any_nil,Bool.or_false]
theorem RW:marksOf (fun i=>eI [] i) 256=List.replicate 256 false:=by
 apply ad1 (by rw [Ex,aed]);intro j h1 h2;rw [mM,List.getElem_replicate]
 rfl
theorem AJ (A:Option Addr) (n c:Nat) (l:List Region) (w:World) (hl:Sl w 2 jw A n l) (lX:∀ r∈l,r.ok) (hn:n<=9223372036854775807) :
 bF prog 42 [.slice A n c] w fun v w' => ∃ B d,v = .slice B 256 d∧Own w' w.heap.size 4 1 uo B 256 d (marksOf (fun i=>eI l i) 256):=by
 refine aC func42 rfl ntmps42 rfl ?_;have hw:=Ext.refl w;have hA:=hl.base;refine Wz ?_;refine SW.make (enc:=uo) (k:=256) false rfl rfl rfl (by omega) (by omega) rfl fun B d w1 ai hS => ?_
 have dD:=hw.size;have hw:=hw.trans ai;have hS:=Own.low hS dD;have hBs:=hS.sl.base;refine Wz ?_
 refine CW.loop (fun k:Nat=>[(3,.slice B 256 d),(8,.slice A n c),(9,.int .i64 (n:Int)),(10,.int .i64 (k:Int))])
  (fun k w'=>k<=n∧Ext w w'∧Own w' w.heap.size 4 1 uo B 256 d (marksOf (fun i=>eI (l.take k) i) 256)) (fun k=>n-k) 0 ⟨rfl,rfl,rfl,rfl,trivial⟩ ⟨by omega,hw,by
    have e:marksOf (fun i=>eI (l.take 0) i) 256=List.replicate 256 false:=RW
    rw [e];exact hS⟩ ?_
 clear hw hS;rintro k w' ⟨hk,hw,hO⟩
 by_cases gp:k<n
 ·have iE:=hl.lt gp;have AK:=lX (l[k]) (adb iE);obtain ⟨f,hf⟩:=adn AK.1;obtain ⟨s,hs⟩:=adn (show 0<=(l[k]).az by have:=AK.2.1;omega);have aaZ:=AK.2.2.2;repeat' (first|refine Wz ?_|refine Wo hw ((hl.all gp)) ?_)
  refine SW.alloc rfl fun b w1 ai hb hB => ?_
  have D6:=hw.up hb
  obtain ⟨hw,hO⟩:=df ai hw hO;skip;refine SW.ag hB rfl rfl rfl rfl (iy.one (enc:=jw) _) fun w2 qA hg => ?_
  have hw:=hw.own D6 hg;have hO:=hO.grown hg (.inr (hO.fi hB rfl));refine Wz ?_
  refine CW.loop (fun j:Nat=>[(3,.slice B 256 d),(5,.pointer (some ⟨b,0,none⟩)),(6,.int .i64 ((f+j:Nat) : Int)),(8,.slice A n c),(9,.int .i64 (n:Int)),(10,.int .i64 (k:Int))])
   (fun j w'=>j<=s∧Ext w w'∧aS w' b 82 (jw (l[k]))∧Own w' w.heap.size 4 1 uo B 256 d (marksOf (fun i=>eI (l.take k) i || (decide (f<=i) && decide (i<f+j))) 256)) (fun j=>s-j) 0
   ⟨rfl,rfl,by rw [hf];rfl,rfl,rfl,rfl,trivial⟩ ⟨by omega,hw,qA,by
    have e:marksOf (fun i=>eI (l.take k) i || (decide (f<=i) && decide (i<f+0))) 256=marksOf (fun i=>eI (l.take k) i) 256:=iA fun i _=>by
     have:(decide (f<=i) && decide (i<f+0))=false:=by
      rcases adL i f with h|h
      ·rw [decide_eq_false (by omega : ¬ f<=i)];rfl
      ·rw [decide_eq_false (by omega : ¬ i<f+0),Bool.and_false]
     rw [this,Bool.or_false]
    rw [e];exact hO⟩ ?_
  clear hw hO hB qA hg ai;rintro j w' ⟨hj,hw,qA,hO⟩
  by_cases Vd:j<s
  ·repeat' (first|refine Wz ?_|(refine Wk (zn AK _) ?_;intro v w1 ai hv;subst hv;obtain ⟨hw,qA,hO⟩:=cn ai hw qA hO;clear ai))
   refine SW.gZ (f+j) 0 true hO rfl rfl rfl (by omega) (by omega) (by rw [add_zero]) rfl fun w3 Ep hg => ?_
   have hw:=aD hw hg (adg _) hO.a9;have qA:=qA.grown hg (fun e=>hO.fi qA rfl e.symm);rw [sh] at Ep;refine Wz ?_;refine ae.again (j+1) ⟨rfl,rfl,rfl,rfl,rfl,rfl,trivial⟩ (by omega) ⟨by omega,hw,qA,?_⟩
   have e:marksOf (fun i=>eI (l.take k) i || (decide (f<=i) && decide (i<f+(j+1)))) 256=marksOf (fun i=>if i=f+j then true else eI (l.take k) i || (decide (f<=i) && decide (i<f+j))) 256:=iA fun i _=>by
    by_cases hi:i=f+j
    ·subst hi;have h1:f<=f+j:=by omega
     have h2:f+j<f+(j+1):=by omega
     simp [h1,h2]
    ·have e2:decide (i<f+(j+1))=decide (i<f+j):=by rw [decide_eq_decide];omega
     simp [hi,e2]
   rw [e];exact Ep
  ·obtain rfl:j=s:=by omega
   repeat' (first|refine Wz ?_|(refine Wk (zn AK _) ?_;intro v w1 ai hv;subst hv;obtain ⟨hw,qA,hO⟩:=cn ai hw qA hO;clear ai))
   refine ae.again (k+1) ⟨rfl,rfl,rfl,rfl,trivial⟩ (by omega) ⟨by omega,hw,?_⟩
   have e:marksOf (fun i=>eI (l.take (k+1)) i) 256=marksOf (fun i=>eI (l.take k) i || (decide (f<=i) && decide (i<f+j))) 256:=iA fun i _=>by
    rw [HT iE,hf,hs];have e1:decide (((f:Nat) : Int)<=(i:Int))=decide (f<=i):=by rw [decide_eq_decide];omega
    have e2:decide ((i:Int)<((f:Nat) : Int)+((j:Nat) : Int))=decide (i<f+j):=by rw [decide_eq_decide];omega
    rw [e1,e2]
   rw [e];exact hO
 ·refine Wz ?_;obtain rfl:k=n:=by omega
  refine ae.bg rfl rfl ⟨_,rfl,hw,B,d,rfl,?_⟩;rwa [adr (by have:=hl.len;omega)] at hO
variable {b:Nat} {t:TypeId} {w:World}
def Jk (lo:Nat) (l:List Region) (v:Value) (w:World) : Prop := ∃ A c,v = .slice A l.length c∧Own w lo 82 2 jw A l.length c l
theorem aS.Y4 {r:Region} {vs:List Value} (h:aS w b t vs) (e:vs=jw r) : Sl w 2 jw (some ⟨b,0,none⟩) 1 [r]:=by subst e;exact aS.ue h
theorem DU (A:Option Addr) (c N:Nat) (hN:N=256) (p:Nat->Bool) (w:World) (hl:Sl w 1 uo A N (marksOf p N)) :
 bF prog 43 [.slice A N c] w (Jk w.heap.size (runs p N)):=by
 refine aC func43 rfl ntmps43 rfl ?_;have hw:=Ext.refl w;have hA:=hl.base;have xl:∀ k,k<N->w.cell? ((A.getD default).add (k*1))=some (.bool (p k)):=fun k hk=>hl.one hk (by rw [mM];rfl)
 refine Wz ?_
 refine CW.loop (fun s:Nat×Option Addr×Nat=>[(3,.slice s.2.1 (runs p s.1).length s.2.2),(7,.slice A N c),(8,.int .i64 (N:Int)),(9,.int .i64 (s.1:Int))])
  (fun s w'=>s.1<=N∧Ext w w'∧Own w' w.heap.size 82 2 jw s.2.1 (runs p s.1).length s.2.2 (runs p s.1)) (fun s=>N-s.1) (0,none,0) ⟨rfl,rfl,rfl,rfl,trivial⟩ ⟨by omega,hw,Own.fF _ _ _ _ _ _⟩ ?_
 clear hw;rintro ⟨k,A1,c1⟩ w' ⟨hk,hw,hO⟩
 simp only at hk hO ⊢;have lX:=va p k;have hlen:=lX.len;by_cases gp:k<N
 ·obtain ⟨bk,BM⟩ : ∃ b,p k=b:=⟨_,rfl⟩;have hc:=xl k gp;rw [BM] at hc;cases bk
  ·have e:runs p (k+1)=runs p k:=by simp [runs,BM]
   repeat' (first|refine Wz ?_|(refine CW.gu rfl ?_)|refine SW.st (mG hw rfl hc) rfl ?_)
   refine ae.again (k+1,A1,c1) ⟨by rw [e];rfl,rfl,rfl,rfl,trivial⟩ (by simp only;omega) ⟨by simp only;omega,hw,by simp only;rw [e];exact hO⟩
  ·by_cases hq : 0<k∧p (k-1)=true
   ·obtain ⟨init,r,hr,hre⟩:=lX.last hq.1 hq.2;have e:runs p (k+1)=init++[⟨r.aV,r.az+1⟩]:=by simp [runs,BM,hq,hr,oM]
    have yH:=lX.PP r (by rw [hr];simp);have AK:r.ok:=⟨yH.1,yH.2.1,by omega,by omega⟩
    rw [hr] at hO hlen ⊢;have tF:(init++[r]).length=init.length+1:=by simp
    rw [tF] at hO hlen;rw [tF];have oT:=hO.sl.base;have iB:(init++[r])[init.length]'(by simp)=r:=by simp
    have fk:=hO.sl.all (i:=init.length) (by omega);rw [iB] at fk;have Vh:(init++[r]).set init.length ⟨r.aV,r.az+1⟩=init++[⟨r.aV,r.az+1⟩]:=by simp
    refine CW.seq ?_;repeat' (first|refine Wz ?_|(refine CW.fY rfl ?_)|refine SW.st (cf (init.length) rfl rfl (by assumption) (by omega) (by omega)) rfl ?_|refine SW.st (mG hw rfl hc) rfl ?_)
    refine SW.st (aX rfl rfl fk) rfl ?_;repeat' (first|refine Wz ?_|refine SW.st (cf (init.length) rfl rfl (by assumption) (by omega) (by omega)) rfl ?_|(refine SW.call rfl rfl (zn AK _) ?_;intro v w1 ai hv;subst hv;have hw:=hw.trans ai;have hO:=hO.ext ai;clear ai))
    have fk:=hO.sl.all (i:=init.length) (by omega);rw [iB] at fk;refine SW.st (aU rfl (fk 1 (.int .i64 r.az) rfl)) rfl ?_;repeat' (first|refine Wz ?_|refine SW.st (cf (init.length) rfl rfl (by assumption) (by omega) (by omega)) rfl ?_)
    refine SW.gZ init.length 1 ⟨r.aV,r.az+1⟩ hO rfl rfl rfl (by omega) (by omega) rfl (by rw [iB];rfl) fun w2 bj hg => ?_
    have hw:=aD hw hg (adg _) hO.a9;refine Wz ?_;refine ae.again (k+1,A1,c1) ⟨by simp only [e];simp [get];rfl,rfl,rfl,rfl,trivial⟩ (by simp only;omega) ⟨by simp only;omega,hw,?_⟩;simp only [e];rw [Vh] at bj;simpa using bj
   ·have e:runs p (k+1)=runs p k++[⟨(k:Int),1⟩]:=by
     simp only [runs,BM,if_true];rw [if_neg hq]
    have rl:∀ r∈runs p k,r.aV+r.az<(k:Int):=lX.below fun h0=>by
     cases hh:p (k-1) with
     | false=>rfl
     | true=>exact absurd ⟨h0,hh⟩ hq
    have oT:=hO.sl.base;rcases aeU (runs p k) with hn|⟨init,r,hr⟩
    ·rw [hn] at hO hlen e ⊢;simp only [List.length_nil];repeat' (first|refine Wz ?_|(refine CW.fY rfl ?_)|refine SW.st (mG hw rfl hc) rfl ?_)
     refine SW.dI rfl rfl rfl rfl rfl fun b w1 ai hb hB => ?_
     have hw:=hw.trans ai;have hO:=hO.ext ai;refine SW.append hO (aS.Y4 (r:=⟨(k:Int),1⟩) hB rfl) hw.size rfl rfl rfl (by simp) (by simp) fun A2 c2 w2 lD hg => ?_
     have hw:=aD hw hg (adg _) hO.a9;refine Wz ?_;refine ae.again (k+1,A2,c2) ⟨by simp only [e];rfl,rfl,rfl,rfl,trivial⟩ (by simp only;omega) ⟨by simp only;omega,hw,?_⟩;simp only [e];exact lD
    ·have ph:runs p k=init++[r]:=by simpa using hr
     have yH:=lX.PP r (by rw [ph];simp);have AK:r.ok:=⟨yH.1,yH.2.1,by omega,by omega⟩
     have PV:=rl r (by rw [ph];simp);rw [ph] at hO hlen e ⊢;have tF:(init++[r]).length=init.length+1:=by simp
     rw [tF] at hO hlen;rw [tF];have oT:=hO.sl.base;have iB:(init++[r])[init.length]'(by simp)=r:=by simp
     have fk:=hO.sl.all (i:=init.length) (by omega);rw [iB] at fk;repeat' (first|refine Wz ?_|(refine CW.fY rfl ?_)|refine SW.st (cf (init.length) rfl rfl (by assumption) (by omega) (by omega)) rfl ?_|refine SW.st (mG hw rfl hc) rfl ?_)
     refine SW.st (aX rfl rfl fk) rfl ?_;repeat' (first|refine Wz ?_|(refine SW.call rfl rfl (zn AK _) ?_;intro v w1 ai hv;subst hv;have hw:=hw.trans ai;have hO:=hO.ext ai;clear ai))
     refine SW.dI rfl rfl rfl rfl rfl fun b w1 ai hb hB => ?_
     have hw:=hw.trans ai;have hO:=hO.ext ai;refine SW.append hO (aS.Y4 (r:=⟨(k:Int),1⟩) hB rfl) hw.size rfl rfl rfl (by omega) (by omega) fun A2 c2 w2 lD hg => ?_
     have hw:=aD hw hg (adg _) hO.a9;refine Wz ?_;refine ae.again (k+1,A2,c2) ⟨by simp only [e];simp [get];rfl,rfl,rfl,rfl,trivial⟩ (by simp only;omega) ⟨by simp only;omega,hw,?_⟩;simp only [e];simpa using lD
 ·refine Wz ?_;obtain rfl:k=N:=by omega
  exact ae.bg rfl rfl ⟨_,rfl,hw,A1,c1,rfl,hO⟩
variable {β:Type} {N d lo oA m sz Z2:Nat} {A B:Option Addr} {e e':TypeId} {w':World} {enc:α -> List Value} {V9:β -> List Value}
theorem Own.RX {c:Nat} {l:List α} {l':List β}
 (hO:Own w lo e sz enc A m c l) (hS:Own w' oA e' Z2 V9 B k d l') (hle:w.heap.size<=oA) : (aJ A c=none∨aJ A c≠aJ B d)∧(aJ B d=none∨aJ B d≠aJ A c):=by
 rcases hO.row with ⟨_,rfl⟩|⟨hc,g,jV,rfl,_,h2,_⟩
 ·refine ⟨.inl (by simp [aJ]),?_⟩;rcases hS.row with ⟨_,rfl⟩|⟨hd,g',Xm,rfl,_,ns,_⟩
  ·exact .inl (by simp [aJ])
  ·exact .inr (by simp [aJ,Nat.pos_iff_ne_zero.1 hd])
 ·have hg:g<w.heap.size:=(ado.1 h2).1
  rcases hS.row with ⟨_,rfl⟩|⟨hd,g',Xm,rfl,dD,ns,_⟩
  ·exact ⟨.inr (by simp [aJ,Nat.pos_iff_ne_zero.1 hc]),.inl (by simp [aJ])⟩
  ·have bJ:g≠g':=by omega
   exact ⟨.inr (by simp [aJ,Nat.pos_iff_ne_zero.1 hc,Nat.pos_iff_ne_zero.1 hd,bJ]),.inr (by simp [aJ,Nat.pos_iff_ne_zero.1 hc,Nat.pos_iff_ne_zero.1 hd,bJ.symm])⟩
def ln (x y:List Region) (i:Nat) : Bool:=eI x i && !eI y i
theorem Nt {x y:List Region} (h:qu x y=true) : (∀ r∈x,r.ok)∧(∀ r∈y,r.ok):=by
 simp only [qu,Bool.and_eq_true,uX] at h
 have key:∀ l:List Region,ib l -> ∀ r∈l,r.ok:=fun l hl r hr=>by
  obtain ⟨i,hi,rfl⟩:=ade hr;exact (hl.2 i hi).1
 exact ⟨key x h.1,key y h.2⟩
noncomputable def jt (N:Nat) (x y:List Region) : Int×List Region:=if qu x y then (0,runs (ln x y) N) else (8,[])
def KG (lo:Nat) (r:Int×List Region) (v:Value) (w:World) : Prop := ∃ A c,v = .tuple #[.slice A r.2.length c,.int .i64 r.1]∧Own w lo 82 2 jw A r.2.length c r.2
theorem xf {x y:List Region} (h:qu x y=true) : jt N x y=(0,runs (ln x y) N):=by simp [jt,h]
theorem CL {x y:List Region} (h:qu x y=false) : jt N x y=(8,[]):=by simp [jt,h]
theorem HU (A:Option Addr) (n c:Nat) (B:Option Addr) (m d:Nat) (x y:List Region) (N:Nat) (hN:N=256) (w:World) (hx:Sl w 2 jw A n x) (hy:Sl w 2 jw B m y) (hn:n<=9223372036854775807) (hm:m<=9223372036854775807) :
 bF prog 20 [.agg (qt A n c B m d).toArray] w (KG w.heap.size (jt N x y)):=by
 refine aC func20 rfl ntmps20 rfl ?_;refine CW.seq (CW.region (SW.box rfl rfl fun b w1 hw hb hB => ?_));obtain ⟨q,hq⟩ : ∃ b,qu x y=b:=⟨_,rfl⟩;have c1:∀ w',Ext w w'->bF prog 41 [.agg (qt A n c B m d).toArray] w' fun v _=>v = .int .i64 (if q then 0 else 8):=fun w' h=>by have:=CK A n c B m d x y w' (hx.ext h) (hy.ext h) hn hm;rwa [hq] at this
 cases q
 ·simp only [Bool.false_eq_true,if_false] at c1;rw [CL hq];repeat' (first|refine Wz ?_|(refine Wk (c1 _ hw) ?_;intro v w1 ai hv;subst hv;obtain ⟨hw,hB⟩:=df ai hw hB;clear ai))
  exact ae.dm rfl rfl rfl ⟨_,rfl,hw,none,0,rfl,Own.fF _ _ _ _ _ _⟩
 ·simp only [if_true] at c1;rw [xf hq];obtain ⟨hxo,hyo⟩:=Nt hq;repeat' (first|refine Wz ?_|(refine Wk (c1 _ hw) ?_;intro v w1 ai hv;subst hv;obtain ⟨hw,hB⟩:=df ai hw hB;clear ai))
  refine CW.cut (fun L' w' => ∃ M d1 M2 d2,iw L' [(5,.slice M 256 d1),(6,.slice M2 256 d2)]∧Ext w w'∧Own w' w.heap.size 4 1 uo M 256 d1 (marksOf (fun i=>eI x i) 256)∧Own w' w.heap.size 4 1 uo M2 256 d2 (marksOf (fun i=>eI y i) 256)∧(aJ M2 d2=none∨aJ M2 d2≠aJ M d1)) ?_ ?_
  ·refine CW.any 6 mixed (dk (by kernel_rfl)) rfl fun w1 ai aG => ?_
   obtain ⟨hw,hB⟩:=df ai hw hB;clear ai;refine Wa ?_;refine SA.one 2 rfl (by kernel_rfl) rfl ?_;refine Wk (AJ _ _ _ _ _ (hx.ext hw) hxo hn) fun v w2 ak hv => ?_
   obtain ⟨M,d1,rfl,hM⟩:=hv;have hM:=hM.low hw.size;obtain ⟨hw,hB⟩:=df ak hw hB;refine SW.nil (ae.sa ak ?_);refine SA.one 5 rfl (by kernel_rfl) rfl ?_;refine Wk (AJ _ _ _ _ _ (hy.ext hw) hyo hm) fun v w3 ak hv => ?_
   obtain ⟨M2,d2,rfl,vi⟩:=hv;have bJ:=(hM.RX vi (adg _)).2;have vi:=vi.low hw.size;obtain ⟨hM,hw,hB⟩:=cn ak hM hw hB;refine SW.nil (ae.sa ak ?_);refine SA.done (by kernel_rfl) ?_;refine Wz ?_;exact ae.cut (K:=fun L' w' => ∃ M d1 M2 d2,iw L' [(5,.slice M 256 d1),(6,.slice M2 256 d2)]∧Ext w w'∧Own w' w.heap.size 4 1 uo M 256 d1 (marksOf (fun i=>eI x i) 256)∧Own w' w.heap.size 4 1 uo M2 256 d2 (marksOf (fun i=>eI y i) 256)∧(aJ M2 d2=none∨aJ M2 d2≠aJ M d1)) ⟨M,d1,M2,d2,⟨rfl,rfl,trivial⟩,hw,hM,vi,bJ⟩
  ·clear hB hw c1;rintro L' w' ⟨M,d1,M2,d2,hs,hw,hM,vi,bJ⟩
   refine ae.sub hs ?_;have hMb:=hM.sl.base;have aa2:=vi.sl.base;have e0:marksOf (fun i=>eI x i) 256=marksOf (fun i=>if i<0 then ln x y i else eI x i) 256:=iA fun i _=>by rw [if_neg (by omega)]
   rw [e0] at hM;clear e0;refine Wz ?_
   refine CW.loop (fun k:Nat=>[(5,.slice M 256 d1),(6,.slice M2 256 d2),(20,.int .i64 256),(21,.int .i64 (k:Int))])
    (fun k w'=>k<=256∧Ext w w'∧Own w' w.heap.size 4 1 uo M 256 d1 (marksOf (fun i=>if i<k then ln x y i else eI x i) 256)∧Own w' w.heap.size 4 1 uo M2 256 d2 (marksOf (fun i=>eI y i) 256)) (fun k=>256-k) 0 ⟨rfl,rfl,rfl,rfl,trivial⟩ ⟨by omega,hw,hM,vi⟩ ?_
   clear hw hM vi;rintro k w' ⟨hk,hw,hM,vi⟩
   by_cases gp:k<256
   ·obtain ⟨bx,Vc⟩ : ∃ b,eI x k=b:=⟨_,rfl⟩;obtain ⟨bY,yo⟩ : ∃ b,eI y k=b:=⟨_,rfl⟩;have h1:w'.cell? ((M.getD default).add (k*1))=some (.bool bx):=hM.sl.one gp (by rw [mM,if_neg (by omega),Vc];rfl)
    have h2:w'.cell? ((M2.getD default).add (k*1))=some (.bool bY):=vi.sl.one gp (by rw [mM,yo];rfl)
    have hf:ln x y k=(bx && !bY):=by simp [ln,Vc,yo]
    have e1:marksOf (fun i=>if i<k+1 then ln x y i else eI x i) 256=marksOf (fun i=>if i=k then (bx && !bY) else if i<k then ln x y i else eI x i) 256:=iA fun i _=>by
     by_cases hi:i=k
     ·subst hi;rw [if_pos (by omega),if_pos rfl,hf]
     ·rw [if_neg hi];by_cases h2:i<k
      ·rw [if_pos (by omega),if_pos h2]
      ·rw [if_neg (by omega),if_neg h2]
    cases bx<;>cases bY
    all_goals
     repeat' (first|refine Wz ?_|refine Wl h1 ?_|refine Wl h2 ?_)
     first
      | refine SW.gZ k 0 true hM rfl rfl rfl gp (by omega) (by rw [add_zero]) rfl fun w3 Ep hg => ?_
      | refine SW.gZ k 0 false hM rfl rfl rfl gp (by omega) (by rw [add_zero]) rfl fun w3 Ep hg => ?_
     have hw:=aD hw hg (adg _) hM.a9;have vi:=vi.grown hg bJ;rw [sh] at Ep;refine Wz ?_;exact ae.again (k+1) ⟨rfl,rfl,rfl,rfl,trivial⟩ (by omega) ⟨by omega,hw,by rw [e1];exact Ep,vi⟩
   ·have e:marksOf (fun i=>if i<k then ln x y i else eI x i) 256=marksOf (ln x y) 256:=iA fun i hi=>by rw [if_pos (by omega)]
    rw [e] at hM
    have Ut:∀ w',Sl w' 1 uo M 256 (marksOf (ln x y) 256)->bF prog 43 [.slice M 256 d1] w' (Jk w'.heap.size (runs (ln x y) N)):=fun w' h=>by
     have Eu:Sl w' 1 uo M N (marksOf (ln x y) N):=by rw [hN];exact h
     have h1:=DU M d1 N hN (ln x y) _ Eu;rwa [show Value.slice M N d1 = .slice M 256 d1 by rw [hN]] at h1
    refine Wz ?_;refine Wk (Ut _ hM.sl) fun v w3 nT hv => ?_
    obtain ⟨A2,c2,rfl,bj⟩:=hv;have dD:=hw.size;have hw:=hw.trans nT;refine Wz ?_;exact ae.dm rfl rfl rfl ⟨_,rfl,hw,A2,c2,rfl,bj.low dD⟩
set_option maxHeartbeats 4000000 in
theorem KH (r:ef) (z:ao) (f s:Int) (w:World) (hr:Gx w r z) (hf:(r.aj.n+1)*24<=140737488355328) (ht:r.Types.n*8<=140737488355328) (h1 : -9223372036854775808<=r.aV∧r.aV<=9223372036854775807) (h2 : -9223372036854775808<=r.To∧r.To<=9223372036854775807) :
 bF prog 45 [.agg (dt r).toArray,.int .i64 f,.int .i64 s] w (yr w.heap.size (pS z f s)):=by
 refine aC func45 rfl ntmps45 rfl ?_;refine CW.seq (CW.region (SW.box rfl rfl fun b3 w1 hw cg aq => ?_));refine SW.alloc rfl fun b6 w2 bt dw ar => ?_
 have cS:=hw.up dw
 have oL:b3≠b6:=by have:=aq.lt;omega
 (obtain ⟨hw,aq⟩:=df bt hw aq);have eF:=hr.from_;have eT:=hr.pj;have On:=hr.free.len;have S0:=hr.types.len;obtain ⟨q,hq⟩ : ∃ q,fJ z=q:=⟨_,rfl⟩
 have c1:∀ w',Ext w w'->bF prog 80 [.agg (dt r).toArray] w' fun v _=>v = .int .i64 (if q then 0 else 8):=fun w' h=>by
  have:=kV r z w' (hr.ext h) (by omega) (by omega) h1 h2
  rwa [hq] at this
 cases q
 ·simp only [Bool.false_eq_true,if_false] at c1;rw [IA hq];repeat' (first|refine Wz ?_|(refine Wk (c1 _ hw) ?_;intro v w1 ai hv;subst hv;obtain ⟨hw,aq,ar⟩:=cn ai hw aq ar;clear ai))
  refine SW.ag ar rfl rfl rfl rfl (fK .zero) fun w5 cX hg => ?_
  have hw:=hw.own cS hg;refine Wz ?_;exact ae.dA rfl rfl rfl cX rfl ⟨_,rfl,hw,.zero,rfl,iH.zero _ _⟩
 ·simp only [if_true] at c1;have hz:=fq.1 hq;obtain ⟨o1,o2,o3,o4,o5⟩:=hz.ok;have GV:=kA hz;by_cases FO:mL z f s
  ·obtain ⟨a1,a2,a3,a4⟩:=id FO;obtain ⟨n,rfl⟩:=adn a1;rw [IC hq FO];repeat' (first|refine Wz ?_|(refine Wk (c1 _ hw) ?_;intro v w1 ai hv;subst hv;obtain ⟨hw,aq,ar⟩:=cn ai hw aq ar;clear ai))
   all_goals try omega
   refine Wk (sZ r z _ (hr.ext hw) (by omega) ht) fun v w4 kz hv => ?_
   obtain ⟨u,rfl,hs,_,_⟩:=hv;have hs:=hs.low hw.size;(obtain ⟨hw,aq,ar⟩:=cn kz hw aq ar);clear c1;skip;refine SW.ag aq rfl rfl rfl rfl (fK u) fun w5 ed hg => ?_
   have hG:=aq.gr hg;have hw:=hw.own cg hg;have hs:=hs.eM aq hg rfl rfl;have ar:=ar.grown hg (by simpa using oL.symm);have aq:=ed;clear ed hg hG;refine Wz ?_
   refine CW.loop (fun t:Nat×ao×ef=>[(1,.int .i64 f),(2,.int .i64 (n:Int)),(3,.pointer (some ⟨b3,0,none⟩)),(6,.pointer (some ⟨b6,0,none⟩)),(9,.int .i64 (f+(t.1:Int)))])
    (fun t w'=>t.1<=n∧Ext w w'∧aS w' b3 117 (dt t.2.2)∧aS w' b6 117 (dt .zero)∧iH w' w.heap.size t.2.2 t.2.1∧u9 n z f=u9 (n-t.1) t.2.1 (f+(t.1:Int))∧t.2.1.aj.length<=257∧t.2.1.Types.length<=32∧t.2.1.aV=z.aV∧t.2.1.To=z.To) (fun t=>n-t.1) (0,z,u)
    ⟨rfl,rfl,rfl,rfl,congrArg (fun x=>some (Value.int .i64 x)) (by simp),trivial⟩ ⟨by omega,hw,aq,ar,hs,by simp,by simp only;omega,by simp only;omega,rfl,rfl⟩ ?_
   clear hw aq ar hs;rintro ⟨k,zc,u⟩ w' ⟨hk,hw,aq,ar,hs,D8,Br,VP,WL,hl4⟩
   simp only at hk aq hs D8 Br VP WL hl4 ⊢;by_cases gp:k<n
   ·have e1:=hs.free.sl.len;have e2:=hs.types.sl.len;have e3:=hs.from_;have e4:=hs.pj;have rl:=ml zc (f+(k:Int)) 0;refine Wz ?_;refine Wk (pT u zc (f+(k:Int)) 0 _ hs.rd (adf (adD 24 (show u.aj.n+1<=258 by omega)) (by decide)) (by omega) ⟨by omega,by omega⟩ ⟨by omega,by omega⟩) fun v w5 oC hv => ?_
    obtain ⟨o,ho⟩ : ∃ o,fT zc (f+(k:Int)) 0=o:=⟨_,rfl⟩;rw [ho] at hv rl;obtain ⟨u',rfl,nt⟩:=hv;have nt:=nt.low hw.size;(obtain ⟨hw,aq,ar,hs⟩:=dv oC hw aq ar hs);refine Wz ?_;refine SW.alloc rfl fun qC w1 ai oU aH => ?_
    skip;refine SW.ag aH rfl rfl rfl rfl (fK _) fun w2 bB hg => ?_
    have ak:=ai.own oU hg;have im:=hw.up oU
    obtain ⟨hw,aq,ar,hs,nt⟩:=fD ak hw aq ar hs nt;have aH:=bB;clear bB ai hg ak;have Y5:=aq.lt;obtain ⟨m,hm⟩ : ∃ m,n-k=m+1:=⟨n-k-1,by omega⟩;rw [hm] at D8;simp only [u9,ho] at D8;by_cases OW:o.1=0
    ·rw [if_pos OW] at D8;rw [OW];refine Wz ?_;refine SW.ag aq rfl rfl rfl rfl (fK u') fun w6 ed hg => ?_
     have hw:=hw.own cg hg;have nt:=nt.eM aq hg rfl rfl;have ar:=ar.grown hg (by simpa using oL.symm);refine Wz ?_;obtain ⟨q1,q2,q3⟩:=rl.2.2 OW;have e9:f+(k:Int)+1=f+((k+1:Nat) : Int):=by omega
     have e10:m=n-(k+1):=by omega
     exact ae.again (k+1,o.2,u') ⟨rfl,rfl,rfl,rfl,congrArg (fun x=>some (Value.int .i64 x)) e9,trivial⟩ (by simp only;omega) ⟨by simp only;omega,hw,ed,ar,nt,by simp only;rw [<- e9,<- e10];exact D8,rl.1,rl.2.1,by simp only;omega,by simp only;omega⟩
    ·rw [if_neg OW] at D8;rw [D8];refine Wz ?_;refine SW.ag ar rfl rfl rfl rfl (fK .zero) fun w5 cX hg => ?_
     have hw:=hw.own cS hg;refine Wz ?_;exact ae.dA rfl rfl rfl cX rfl ⟨_,rfl,hw,.zero,rfl,iH.zero _ _⟩
   ·have e0:n-k=0:=by omega
    rw [e0] at D8;simp only [u9] at D8;rw [D8];refine Wz ?_;refine SW.ag ar rfl rfl rfl rfl (fK u) fun w5 cX hg => ?_
    have hw:=hw.own cS hg;have hs:=hs.eM ar hg rfl rfl;refine Wz ?_;exact ae.dA rfl rfl rfl cX rfl ⟨_,rfl,hw,u,rfl,hs⟩
  ·rw [IB hq FO];unfold mL at FO;repeat' (first|refine Wz ?_|refine SW.gi rfl rfl rfl (fun h => ?_) (fun h => ?_)|(refine Wk (c1 _ hw) ?_;intro v w1 ai hv;subst hv;obtain ⟨hw,aq,ar⟩:=cn ai hw aq ar;clear ai))
   all_goals
    first
     | (exfalso;omega)
     | (refine SW.ag ar rfl rfl rfl rfl (fK .zero) fun w5 cX hg => ?_
        have hw:=hw.own cS hg;refine Wz ?_;exact ae.dA rfl rfl rfl cX rfl ⟨_,rfl,hw,.zero,rfl,iH.zero _ _⟩)
variable {z:ao}
noncomputable def mW (z:ao) (p:Int) : ao:=(fT z p 0).2
noncomputable def lO:Nat->ao->Int->ao
 | 0,z,_=>z
 | k+1,z,p=>lO k (mW z p) (p+1)
theorem uB:∀ (k:Nat) (z:ao) (p:Int),lO (k+1) z p=mW (lO k z p) (p+k)
 | 0,z,p=>by simp [lO]
 | k+1,z,p=>by
   rw [lO,uB k,lO];congr 1
   omega
theorem AL {p:Int} (h:(fT z p o).1≠0) : (fT z p o).2 = .zero:=by
 cases hq:fJ z
 ·rw [u7 hq]
 ·by_cases hf:kh z.aV z.To p o
  ·cases ho:ki z.aj p o
   ·exfalso;obtain ⟨⟨l,a',o'⟩,hj⟩ : ∃ u,jc 5 z.aj p o=u:=⟨_,rfl⟩;rw [yx hq hf ho hj rfl] at h;exact h rfl
   ·rw [Df hq hf ho]
  ·rw [yw hq hf]
theorem AM {p:Int} (h:p<z.aV∨z.To<=p) : mW z p = .zero:=by
 unfold mW;cases hq:fJ z
 ·rw [u7 hq]
 ·rw [yw hq (fun hf=>by unfold kh at hf;omega)]
theorem KI (p:Int) : mW .zero p = .zero:=AM (by simp only [ao.zero];omega)
theorem fold_zero:∀ (k:Nat) (p:Int),lO k .zero p = .zero
 | 0,_=>rfl
 | k+1,p=>by rw [lO,KI,fold_zero k]
theorem AN:∀ (k:Nat) (z:ao) (p:Int),(u9 k z p).2=lO k z p
 | 0,_,_=>rfl
 | k+1,z,p=>by
   rw [u9,lO];split
   ·exact AN k _ _
   ·rename_i h;rw [mW,AL h,fold_zero]
theorem FP:∀ (k:Nat) (z:ao) (p:Int),p<=z.To->z.To<p+k->lO k z p = .zero
 | 0,z,p,h1,h2=>by omega
 | k+1,z,p,h1,h2=>by
   rw [lO];by_cases e:p=z.To
   ·rw [AM (by omega),fold_zero]
   ·by_cases h:(fT z p 0).1=0
    ·have:=((ml z p 0).2.2 h).2.1
     exact FP k _ _ (by rw [mW];omega) (by rw [mW];omega)
    ·rw [mW,AL h,fold_zero]
theorem CM (z:ao) (p:Int) (h : 0<k) : (pS z p (k:Int)).2=lO k z p:=by
 obtain ⟨k,rfl⟩ : ∃ m,k=m+1:=⟨k-1,by omega⟩;cases hq:fJ z
 ·rw [IA hq,lO,mW,u7 hq,fold_zero]
 ·by_cases ha:mL z p ((k+1:Nat) : Int)
  ·rw [IC hq ha,AN]
  ·rw [IB hq ha];unfold mL at ha;by_cases h1:p<z.aV∨z.To<=p
   ·rw [lO,AM h1,fold_zero]
   ·exact (FP _ _ _ (by omega) (by omega)).symm
noncomputable def gK (l:List Region) (split:Int) : Nat->ao×ao
 | 0=>((jx 0 split).2,(jx split 256).2)
 | p+1=>if eI l p then (if (p:Int)<split then (mW (gK l split p).1 p,(gK l split p).2) else ((gK l split p).1,mW (gK l split p).2 p)) else gK l split p
theorem xg {l:List Region} {split:Int} {p:Nat}:∀ n:Nat,(∀ i:Nat,i<n->eI l ((p+i:Nat) : Int)=false)->gK l split (p+n)=gK l split p
 | 0,_=>rfl
 | n+1,h=>by
   rw [<- ae7,gK,h n (by omega),if_neg (by simp)];exact xg n fun i hi=>h i (by omega)
theorem FQ {l:List Region} {split:Int} {p:Nat}:∀ n:Nat,(∀ i:Nat,i<n->eI l ((p+i:Nat) : Int)=true∧((p+i:Nat) : Int)<split)->gK l split (p+n)=(lO n (gK l split p).1 p,(gK l split p).2)
 | 0,_=>rfl
 | n+1,h=>by
   rw [<- ae7,gK,(h n (by omega)).1,if_pos rfl,if_pos (h n (by omega)).2,FQ n fun i hi=>h i (by omega),uB];simp
theorem CN {l:List Region} {split:Int} {p:Nat}:∀ n:Nat,(∀ i:Nat,i<n->eI l ((p+i:Nat) : Int)=true∧split<=((p+i:Nat) : Int))->gK l split (p+n)=((gK l split p).1,lO n (gK l split p).2 p)
 | 0,_=>rfl
 | n+1,h=>by
   rw [<- ae7,gK,(h n (by omega)).1,if_pos rfl,if_neg (by have:=(h n (by omega)).2;omega),CN n fun i hi=>h i (by omega),uB];simp
def dN (l:List Region) (k:Nat) : Int:=match k with
 | 0=>0
 | k+1=>if h:k<l.length then l[k].aV+l[k].az else 256
theorem tA {l:List Region} (h:ib l) : ∀ (j:Nat) (hj:j<l.length) (i:Nat) (hi:i<j),(l[i]'(Nat.lt_trans hi hj)).aV+(l[i]'(Nat.lt_trans hi hj)).az<l[j].aV
 | 0,_,i,hi=>by omega
 | j+1,hj,i,hi=>by
   have h1:=(h.2 (j+1) hj).2 (by omega);simp only [Nat.add_sub_cancel] at h1;by_cases e:i=j
   ·subst e;exact h1
   ·have h2:=tA h j (by omega) i (by omega);have h3:=(h.2 j (by omega)).1;unfold Region.ok at h3;omega
theorem KJ {l:List Region} (hk:k<l.length) : dN l (k+1)=l[k].aV+l[k].az:=by simp only [dN,dif_pos hk]
theorem Nu {l:List Region} (h:ib l) (hk:k<l.length) : 0<=dN l k∧dN l k<=l[k].aV:=by
 have h0:=(h.2 k hk).1;unfold Region.ok at h0;cases k with
 | zero=>simp only [dN];omega
 | succ k =>
   have h1:=(h.2 k (by omega)).1;unfold Region.ok at h1;have h2:=tA h (k+1) hk k (by omega);simp only [dN,dif_pos (show k<l.length by omega)];omega
theorem ub {l:List Region} (h:ib l) (hk:k<=l.length) {p:Int} (h1:dN l k<=p) (h2:∀ hk:k<l.length,p<l[k].aV) : eI l p=false:=by
 unfold eI;rw [ady];intro r hr;obtain ⟨j,hj,rfl⟩:=ade hr;have h0:=(h.2 j hj).1;unfold Region.ok at h0;simp only [Bool.and_eq_true,decide_eq_true_eq,not_and];intro h3 h4;by_cases nk:j<k
 ·obtain ⟨m,rfl⟩ : ∃ m,k=m+1:=⟨k-1,by omega⟩;simp only [dN,dif_pos (show m<l.length by omega)] at h1;by_cases e:j=m
  ·subst e;omega
  ·have h5:=tA h m (by omega) j (by omega);have h6:=(h.2 m (by omega)).1;unfold Region.ok at h6;omega
 ·have h5:=h2 (by omega);by_cases e:k=j
  ·subst e;omega
  ·have h6:=tA h j hj k (by omega);have h7:=(h.2 k (by omega)).1;unfold Region.ok at h7;omega
theorem FR {l:List Region} (hk:k<l.length) {p:Int} (h1:l[k].aV<=p) (h2:p<l[k].aV+l[k].az) : eI l p=true:=by
 unfold eI;rw [adq];exact ⟨l[k],adb hk,by simp;omega⟩
def kT (r:Region) (split:Int) : Int:=max 0 (min (r.aV+r.az) split-r.aV)
noncomputable def nd (l:List Region) (split:Int) (k:Nat) : ao×ao:=gK l split (dN l k).toNat
noncomputable def uC (z:ao) (f s:Int) : ao:=if 0<s then (pS z f s).2 else z
theorem AO {s:Int} (h : 0<s) : (pS z f s).2=uC z f s:=by rw [uC,if_pos h]
theorem FT {s:Int} (h : ¬ 0<s) : z=uC z f s:=by rw [uC,if_neg h]
theorem HV {l:List Region} (h:ib l) {split:Int} (hk:k<l.length) :
 nd l split (k+1)=(uC (nd l split k).1 l[k].aV (kT l[k] split),uC (nd l split k).2 (l[k].aV+kT l[k] split) (l[k].az-kT l[k] split)):=by
 have h0:=(h.2 k hk).1;unfold Region.ok at h0;have hs:=Nu h hk;have hb : 0<=kT l[k] split∧kT l[k] split<=l[k].az∧(0<kT l[k] split->l[k].aV+kT l[k] split<=split)∧(kT l[k] split<l[k].az->split<=l[k].aV+kT l[k] split):=by unfold kT;omega
 obtain ⟨b,Xb⟩ : ∃ b,kT l[k] split=b:=⟨_,rfl⟩;rw [Xb] at hb ⊢;obtain ⟨b1,b2,b3,b4⟩:=hb;unfold nd
 have e1:(dN l (k+1)).toNat=((dN l k).toNat+(l[k].aV-dN l k).toNat+b.toNat)+(l[k].az-b).toNat:=by
  rw [KJ hk];omega
 have e2:((dN l k).toNat+(l[k].aV-dN l k).toNat:Nat)=l[k].aV.toNat:=by omega
 rw [e1,CN (p:=(dN l k).toNat+(l[k].aV-dN l k).toNat+b.toNat) (l[k].az-b).toNat,FQ (p:=(dN l k).toNat+(l[k].aV-dN l k).toNat) b.toNat,xg (p:=(dN l k).toNat) (l[k].aV-dN l k).toNat]
 ·rw [e2];unfold uC
  have g1:lO b.toNat (gK l split (dN l k).toNat).1 (l[k].aV.toNat:Int)=if 0<b then (pS (gK l split (dN l k).toNat).1 l[k].aV b).2 else (gK l split (dN l k).toNat).1:=by
   split
   ·have:=CM (k:=b.toNat) (gK l split (dN l k).toNat).1 l[k].aV (by omega)
    rw [adI b1] at this;rw [this,adI (by omega)]
   ·rw [show b.toNat=0 by omega];rfl
  have g2:lO (l[k].az-b).toNat (gK l split (dN l k).toNat).2 ((l[k].aV.toNat+b.toNat:Nat) : Int)=if 0<l[k].az-b then (pS (gK l split (dN l k).toNat).2 (l[k].aV+b) (l[k].az-b)).2 else (gK l split (dN l k).toNat).2:=by
   split
   ·have:=CM (k:=(l[k].az-b).toNat) (gK l split (dN l k).toNat).2 (l[k].aV+b) (by omega)
    rw [adI (by omega)] at this;rw [this,show ((l[k].aV.toNat+b.toNat:Nat) : Int)=l[k].aV+b by omega]
   ·rw [show (l[k].az-b).toNat=0 by omega];rfl
  simp only [g1,g2]
 ·intro i hi;exact ub (k:=k) h (by omega) (by omega) (fun _=>by omega)
 ·intro i hi;rw [e2];exact ⟨FR hk (by omega) (by omega),by omega⟩
 ·intro i hi;rw [e2];exact ⟨FR hk (by omega) (by omega),by omega⟩
theorem KL {l:List Region} (h:ib l) (split:Int) : nd l split l.length=gK l split 256:=by
 have hs : 0<=dN l l.length∧dN l l.length<=256:=by
  cases he:l.length with
  | zero=>simp [dN]
  | succ k =>
    have h0:=(h.2 k (by omega)).1;unfold Region.ok at h0;simp only [dN,dif_pos (show k<l.length by omega)];omega
 unfold nd;have:=xg (l:=l) (split:=split) (p:=(dN l l.length).toNat) (256-(dN l l.length).toNat) fun i hi=>ub (k:=l.length) h (adg _) (by omega) (fun hk=>absurd hk (Nat.lt_irrefl _))
 rw [<- this];congr 1
 omega
structure sP (z:ao) : Prop where
 free:z.aj.length<=257
 types:z.Types.length<=32
 from_ : 0<=z.aV∧z.aV<=256
 pj : 0<=z.To∧z.To<=256
theorem HW:sP .zero:=by constructor<;>simp [ao.zero]
theorem AP (h:sP z) (p:Int) : sP (mW z p):=by
 unfold mW;by_cases e:(fT z p 0).1=0
 ·obtain ⟨h1,h2,h3⟩:=ml z p 0;obtain ⟨h4,h5,_⟩:=h3 e;exact ⟨h1,h2,by rw [h4];exact h.from_,by rw [h5];exact h.pj⟩
 ·rw [AL e];exact HW
theorem CO {t:Int} (h:fI f t) : sP (jx f t).2:=by
 rw [mh h];unfold fI at h;exact ⟨by simp,by simp;omega,by simp only;omega,by simp only;omega⟩
theorem FU {split:Int}:fI split 256↔fI 0 split:=by unfold fI;omega
theorem rq {l:List Region} {split:Int} (h:fI 0 split) : ∀ p,sP (gK l split p).1∧sP (gK l split p).2
 | 0=>⟨CO h,CO (FU.2 h)⟩
 | p+1=>by
   have ih:=rq (l:=l) h p;unfold gK;split
   ·split
    ·exact ⟨AP ih.1 _,ih.2⟩
    ·exact ⟨ih.1,AP ih.2 _⟩
   ·exact ih
def mF (split least cpus:Int) : Prop:=fI 0 split∧(0<=least∧least<=256)∧(1<=cpus∧cpus<=4)
instance (a b c:Int) : Decidable (mF a b c):=inferInstanceAs (Decidable (_∧_))
def pJ (z:ao×ao) (least cpus:Int) : Heap:=⟨[z.1,z.2],[least,least],cpus,[],[]⟩
noncomputable def gL (l:List Region) (split least cpus:Int) : Int×Heap :=
 if fa l then (if mF split least cpus then (0,pJ (gK l split 256) least cpus) else (1,⟨[],[],0,[],[]⟩)) else (8,⟨[],[],0,[],[]⟩)
theorem uD {l:List Region} {b c:Int} (h:fa l=false) : gL l a b c=(8,⟨[],[],0,[],[]⟩):=by simp [gL,h]
theorem rr {l:List Region} {b c:Int} (h:fa l=true) (ha : ¬ mF a b c) : gL l a b c=(1,⟨[],[],0,[],[]⟩):=by simp [gL,h,ha]
theorem ru {l:List Region} {b c:Int} (h:fa l=true) (ha:mF a b c) : gL l a b c=(0,pJ (gK l a 256) b c):=by simp [gL,h,ha]
theorem iH.small {r:ef} (h:iH w lo r z) (hs:sP z) : (r.aj.n+1)*24<=140737488355328∧r.Types.n*8<=140737488355328∧(-9223372036854775808<=r.aV∧r.aV<=9223372036854775807)∧(-9223372036854775808<=r.To∧r.To<=9223372036854775807):=by
 have e1:=h.free.sl.len;have e2:=h.types.sl.len;have e3:=h.from_;have e4:=h.pj;obtain ⟨h1,h2,h3,h4⟩:=hs;refine ⟨adf (adD 24 (show r.aj.n+1<=258 by omega)) (by decide),by omega,by omega,by omega⟩
theorem Nv {r:ef} (f s:Int) (h:iH w' lo r z) (hs:sP z) : bF prog 45 [.agg (dt r).toArray,.int .i64 f,.int .i64 s] w' (yr w'.heap.size (pS z f s)):=by
 obtain ⟨h1,h2,h3,h4⟩:=h.small hs;exact KH r z f s w' h.rd h1 h2 h3 h4
set_option maxHeartbeats 4000000 in
theorem Nw (A:Option Addr) (n c:Nat) (l:List Region) (split least cpus:Int) (w:World) (hl:Sl w 2 jw A n l) (hn:n<=9223372036854775807) (Ln : -9223372036854775808<=split∧split<=9223372036854775807) :
 bF prog 21 [.slice A n c,.int .i64 split,.int .i64 least,.int .i64 cpus] w (kR w.heap.size (gL l split least cpus)):=by
 refine aC func21 rfl ntmps21 rfl ?_;refine CW.seq (CW.region (SW.alloc rfl fun b8 w1 hw oG bi => ?_));have gG:=oG;obtain ⟨q,hq⟩ : ∃ q,fa l=q:=⟨_,rfl⟩
 have c1:∀ w',Ext w w'->bF prog 41 [.agg (qt A n c none 0 0).toArray] w' fun v _=>v = .int .i64 (if q then 0 else 8):=fun w' h=>by
  have:=CK A n c none 0 0 l [] w' (hl.ext h) (Sl.fF _ _ _ _) hn (by omega)
  have e:qu l []=q:=by
   have:fa []=true:=mg ⟨by simp,fun i h=>by simp at h⟩
   simp [qu,this,hq]
  rwa [e] at this
 cases q
 ·simp only [Bool.false_eq_true,if_false] at c1;rw [uD hq];repeat' (first|refine Wy ?_|(refine Wk (c1 _ hw) ?_;intro v w1 ai hv;subst hv;obtain ⟨hw,bi⟩:=df ai hw bi;clear ai))
  refine SW.ag bi rfl rfl rfl rfl (dY .zero) fun w5 cX hg => ?_
  have hw:=hw.own gG hg;repeat' (first|refine Wy ?_|fail);exact ae.dA rfl rfl rfl cX rfl ⟨_,rfl,hw,kR.zero 8 _ _⟩
 ·simp only [if_true] at c1;have lX:=uX.1 hq;repeat' (first|refine Wy ?_|(refine Wk (c1 _ hw) ?_;intro v w1 ai hv;subst hv;obtain ⟨hw,bi⟩:=df ai hw bi;clear ai))
  refine Wk (zo 0 split _ (by omega) Ln) fun v w4 kz hv => ?_
  obtain ⟨o1,Cy⟩ : ∃ o,jx 0 split=o:=⟨_,rfl⟩;rw [Cy] at hv;obtain ⟨u1,rfl,kn⟩:=hv;have kn:=kn.low hw.size;(obtain ⟨hw,bi⟩:=df kz hw bi);clear c1;have aa5:=bi.lt;repeat' (first|refine Wy ?_|fail);refine SW.alloc rfl fun qC w1 ai oU aH => ?_
  skip;refine SW.ag aH rfl rfl rfl rfl (fK u1) fun w2 bB hg => ?_
  have ak:=ai.own oU hg;have im:=hw.up oU
  obtain ⟨hw,bi,kn⟩:=cn ak hw bi kn;have aH:=bB;clear bB ai hg ak;have Nx:b8≠qC:=by omega
  repeat' (first|refine Wy ?_|fail);refine Wk (zo split 256 _ Ln (by omega)) fun v w4 kz hv => ?_
  obtain ⟨o2,Xn⟩ : ∃ o,jx split 256=o:=⟨_,rfl⟩;rw [Xn] at hv;obtain ⟨u2,rfl,gR⟩:=hv;have gR:=gR.low hw.size;(obtain ⟨hw,bi,aH,kn⟩:=dv kz hw bi aH kn);repeat' (first|refine Wy ?_|fail);have Y6:=aH.lt;have aa6:=bi.lt;refine SW.alloc rfl fun vF w1 ai lM bZ => ?_
  skip;refine SW.ag bZ rfl rfl rfl rfl (fK u2) fun w2 lm hg => ?_
  have ak:=ai.own lM hg;have mT:=hw.up lM
  obtain ⟨hw,bi,aH,kn,gR⟩:=fD ak hw bi aH kn gR;have bZ:=lm;clear lm ai hg ak;have DV:qC≠vF:=by omega
  have RY:b8≠vF:=by omega
  by_cases hz:fI 0 split
  ·have g1:o1.1=0:=by rw [<- Cy,mh hz]
   have g2:o2.1=0:=by rw [<- Xn,mh (FU.2 hz)]
   rw [g1,g2];by_cases ha:mF split least cpus
   ·obtain ⟨_,⟨a1,a2⟩,a3,a4⟩:=id ha;obtain ⟨z1,z2,z3,z4,z5⟩:=id hz;rw [ru hq ha];have hA:=hl.base;have mH:=hl.len;repeat' (first|refine Wy ?_|fail);have i1:o1.2=(nd l split 0).1:=by rw [<- Cy];rfl
    have i2:o2.2=(nd l split 0).2:=by rw [<- Xn];rfl
    rw [i1] at kn;rw [i2] at gR
    refine CW.loop (fun t:Nat×ef×ef=>[(1,.int .i64 split),(2,.int .i64 least),(3,.int .i64 cpus),(8,.pointer (some ⟨b8,0,none⟩)),(10,.pointer (some ⟨qC,0,none⟩)),(12,.pointer (some ⟨vF,0,none⟩)),(55,.slice A n c),(56,.int .i64 (n:Int)),(57,.int .i64 (t.1:Int))])
     (fun t w'=>t.1<=n∧Ext w w'∧aS w' b8 41 (dG .zero)∧aS w' qC 117 (dt t.2.1)∧aS w' vF 117 (dt t.2.2)∧iH w' w.heap.size t.2.1 (nd l split t.1).1∧iH w' w.heap.size t.2.2 (nd l split t.1).2) (fun t=>n-t.1) (0,u1,u2)
     ⟨rfl,rfl,rfl,rfl,rfl,rfl,rfl,rfl,rfl,trivial⟩ ⟨by omega,hw,bi,aH,bZ,kn,gR⟩ ?_
    clear hw bi aH bZ kn gR;rintro ⟨k,u1,u2⟩ w' ⟨hk,hw,bi,aH,bZ,kn,gR⟩
    simp only at hk aH bZ kn gR ⊢;have hm:=rq (l:=l) hz (dN l k).toNat;by_cases gp:k<n
    ·have iE:=hl.lt gp;have AK:=(lX.2 k iE).1;unfold Region.ok at AK;have QY:=HV lX (split:=split) iE;obtain ⟨e1,SK⟩ : ∃ e,kT l[k] split=e:=⟨_,rfl⟩;have Xo:max 0 (min (l[k].aV+l[k].az) split-l[k].aV)=e1:=SK
     have VW : 0<=e1∧e1<=l[k].az:=by omega
     rw [SK] at QY;repeat' (first|refine Wy ?_|refine Wo hw ((hl.all gp)) ?_)
     have l10:=aH.lt;have l12:=bZ.lt;refine SW.alloc rfl fun EC w1 ai Fg dP => ?_
     skip;refine SW.ag dP rfl rfl rfl rfl (iy.one (enc:=jw) _) fun w2 oO hg => ?_
     have ak:=ai.own Fg hg;have TK:=hw.up Fg
     obtain ⟨hw,bi,aH,bZ,kn,gR⟩:=gw ak hw bi aH bZ kn gR;have dP:=oO;clear oO ai hg ak;have d10:qC≠EC:=by omega
     have d12:vF≠EC:=by omega
     by_cases h2:e1<l[k].az
     ·by_cases h1 : 0<e1
      case' pos =>
       repeat' (first|refine Wy ?_|refine Wl (dP.cell rfl) ?_|refine Wm ((fun _ _=>aH.cell)) ?_|(refine SW.st (C8 rfl rfl) rfl ?_)|(refine SW.st (C7 rfl rfl) rfl ?_))
       rw [Xo];refine Wk (Nv l[k].aV e1 kn hm.1) fun v w4 kz hv => ?_
       obtain ⟨u3,rfl,vW⟩:=hv;have vW:=vW.low hw.size;(obtain ⟨hw,bi,aH,bZ,dP,kn,gR⟩:=uK kz hw bi aH bZ dP kn gR);repeat' (first|refine Wy ?_|fail);refine SW.ag aH rfl rfl rfl rfl (fK u3) fun w5 bB hg => ?_
       have hw:=hw.own im hg;have gR:=gR.eM aH hg rfl rfl;have vW:=vW.eM aH hg rfl rfl;have bi:=bi.grown hg (by simpa using Nx);have bZ:=bZ.grown hg (by simpa using Ne.symm DV);have dP:=dP.grown hg (by simpa using Ne.symm d10);have aH:=bB;clear bB hg kn;have kn:=vW;rw [AO h1] at kn;clear vW;repeat' (first|refine Wy ?_|fail)
      case' neg =>
       repeat' (first|refine Wy ?_|refine Wl (dP.cell rfl) ?_|(refine SW.st (C8 rfl rfl) rfl ?_)|(refine SW.st (C7 rfl rfl) rfl ?_))
       rw [Xo];have vW:=kn;clear kn;obtain ⟨u3,hu3⟩ : ∃ u,u=u1:=⟨_,rfl⟩;rw [<- hu3] at vW aH;have kn:=vW;rw [FT (z:=(nd l split k).1) (f:=l[k].aV) h1] at kn;clear vW
      all_goals
       repeat' (first|refine Wy ?_|refine Wl (dP.cell rfl) ?_|refine Wm ((fun _ _=>bZ.cell)) ?_)
       refine Wk (Nv (l[k].aV+e1) (l[k].az-e1) gR hm.2) fun v w4 kz hv => ?_
       obtain ⟨u4,rfl,vW⟩:=hv;have vW:=vW.low hw.size;(obtain ⟨hw,bi,aH,bZ,dP,kn,gR⟩:=uK kz hw bi aH bZ dP kn gR);repeat' (first|refine Wy ?_|fail);refine SW.ag bZ rfl rfl rfl rfl (fK u4) fun w5 lm hg => ?_
       have hw:=hw.own mT hg;have kn:=kn.eM bZ hg rfl rfl;have vW:=vW.eM bZ hg rfl rfl;have bi:=bi.grown hg (by simpa using RY);have aH:=aH.grown hg (by simpa using DV);have bZ:=lm;clear lm hg gR;have gR:=vW;rw [AO (by omega)] at gR;clear vW;repeat' (first|refine Wy ?_|fail)
      all_goals
       refine ae.again (k+1,u3,u4) ⟨rfl,rfl,rfl,rfl,rfl,rfl,rfl,rfl,rfl,trivial⟩ (by simp only;omega) ⟨by simp only;omega,hw,bi,aH,bZ,?_,?_⟩
       ·simp only;rw [QY];exact kn
       ·simp only;rw [QY];exact gR
     ·have h1 : 0<e1:=by omega
      repeat' (first|refine Wy ?_|refine Wl (dP.cell rfl) ?_|refine Wm ((fun _ _=>aH.cell)) ?_|(refine SW.st (C8 rfl rfl) rfl ?_)|(refine SW.st (C7 rfl rfl) rfl ?_))
      rw [Xo];refine Wk (Nv l[k].aV e1 kn hm.1) fun v w4 kz hv => ?_
      obtain ⟨u3,rfl,vW⟩:=hv;have vW:=vW.low hw.size;(obtain ⟨hw,bi,aH,bZ,dP,kn,gR⟩:=uK kz hw bi aH bZ dP kn gR);repeat' (first|refine Wy ?_|fail);refine SW.ag aH rfl rfl rfl rfl (fK u3) fun w5 bB hg => ?_
      have hw:=hw.own im hg;have gR:=gR.eM aH hg rfl rfl;have vW:=vW.eM aH hg rfl rfl;have bi:=bi.grown hg (by simpa using Nx);have bZ:=bZ.grown hg (by simpa using Ne.symm DV);have dP:=dP.grown hg (by simpa using Ne.symm d10);have aH:=bB;clear bB hg kn;have kn:=vW;rw [AO h1] at kn;clear vW;repeat' (first|refine Wy ?_|fail);repeat' (first|refine Wy ?_|refine Wl (dP.cell rfl) ?_)
      have vW:=gR;clear gR;obtain ⟨u4,hu4⟩ : ∃ u,u=u2:=⟨_,rfl⟩;rw [<- hu4] at vW bZ;have gR:=vW;rw [FT (z:=(nd l split k).2) (f:=l[k].aV+e1) (s:=l[k].az-e1) (by omega)] at gR;clear vW;refine ae.again (k+1,u3,u4) ⟨rfl,rfl,rfl,rfl,rfl,rfl,rfl,rfl,rfl,trivial⟩ (by simp only;omega) ⟨by simp only;omega,hw,bi,aH,bZ,?_,?_⟩
      ·simp only;rw [QY];exact kn
      ·simp only;rw [QY];exact gR
    ·have ek:k=l.length:=by omega
     have Uu:=KL lX split;rw [<- ek] at Uu;rw [Uu] at kn gR;repeat' (first|refine Wy ?_|refine Wm ((fun _ _=>aH.cell)) ?_|refine Wm ((fun _ _=>bZ.cell)) ?_)
     refine SW.wI (enc:=dt) u1 u2 rfl rfl rfl rfl rfl rfl fun g w2 dE Wr hZ => ?_
     have hZ:=hZ.low hw.size;(obtain ⟨hw,bi,kn,gR⟩:=dv dE hw bi kn gR);repeat' (first|refine Wy ?_|fail);refine SW.wI (enc:=bw) least least rfl rfl rfl rfl rfl rfl fun g' w3 qE aa9 hM => ?_
     have hM:=hM.low hw.size;(obtain ⟨hw,bi,kn,gR,hZ⟩:=fD qE hw bi kn gR hZ);repeat' (first|refine Wy ?_|fail);refine SW.ag bi rfl rfl rfl rfl (dY ⟨⟨some ⟨g,0,none⟩,2,2⟩,⟨some ⟨g',0,none⟩,2,2⟩,cpus,.nil,.nil⟩) fun w5 cX hg => ?_
     have hw:=hw.own gG hg;have kn:=kn.eM bi hg rfl rfl;have gR:=gR.eM bi hg rfl rfl;have hZ:=hZ.grown hg (.inr (hZ.fi bi rfl));have hM:=hM.grown hg (.inr (hM.fi bi rfl));repeat' (first|refine Wy ?_|fail);exact ae.dA rfl rfl rfl cX rfl ⟨_,rfl,hw,⟨⟨some ⟨g,0,none⟩,2,2⟩,⟨some ⟨g',0,none⟩,2,2⟩,cpus,.nil,.nil⟩,rfl,⟨rfl,hM,Own.fF _ _ _ _ _ _,⟨[u1,u2],⟨hZ,gg.two kn gR⟩⟩,⟨[],.nil _ _⟩⟩⟩
   ·rw [rr hq ha];have mA : ¬ ((0<=least∧least<=256)∧1<=cpus∧cpus<=4):=fun h=>ha ⟨hz,h⟩
    repeat' (first|refine Wy ?_|refine SW.gi rfl rfl rfl (fun h => ?_) (fun h => ?_))
    all_goals try omega
    all_goals
     refine SW.ag bi rfl rfl rfl rfl (dY .zero) fun w5 cX hg => ?_
     have hw:=hw.own gG hg;repeat' (first|refine Wy ?_|fail);exact ae.dA rfl rfl rfl cX rfl ⟨_,rfl,hw,kR.zero 1 _ _⟩
  ·have g1:o1.1=1:=by rw [<- Cy,uh hz]
   rw [g1,rr hq (fun h=>hz h.1)];repeat' (first|refine Wy ?_|fail);refine SW.ag bi rfl rfl rfl rfl (dY .zero) fun w5 cX hg => ?_
   have hw:=hw.own gG hg;repeat' (first|refine Wy ?_|fail);exact ae.dA rfl rfl rfl cX rfl ⟨_,rfl,hw,kR.zero 1 _ _⟩
theorem AQ (l:List Region) (split least cpus:Int) : (gL l split least cpus).2.small:=by
 cases hq:fa l
 ·rw [uD hq];constructor<;>simp
 ·by_cases ha:mF split least cpus
  ·rw [ru hq ha];obtain ⟨h1,h2⟩:=rq (l:=l) ha.1 256;constructor<;>simp [pJ]
   exact ⟨⟨by have:=h1.free;omega,by have:=h1.types;omega⟩,by have:=h2.free;omega,by have:=h2.types;omega⟩
  ·rw [rr hq ha];constructor<;>simp
variable {cpus least:Int} {s0:ah}
inductive vN (s0:ah) : Nat->ah->Prop where
 | zero:vN s0 0 s0
 | succ {j:Nat} {s:ah} {u:ah×Int} (m:vN s0 j s) (h:lI s (fB (kP j)) (kP j) 1 u) : vN s0 (j+1) u.1
theorem ah.CP:ah.zero.cK:=⟨ah.kX,by simp [ah.zero,Heap.zero],by simp [ah.zero],by simp [ah.zero]⟩
theorem lI.cK {align:Int} (a:lI s n size align u) (hf:s.cK) (hn:n.size<=140737488351232) : u.1.cK:=by
 have rV:=a.small hf.small;cases a with
 | bad|form|range|gE|full=>exact ah.CP
 | @uM i h kj nt ht hi hz ha =>
   refine ⟨rV,hf.ct,fun c hm => ?_,fun c hm => ?_⟩
   ·rcases ads hm with hm|rfl
    ·exact hf.aE c hm
    ·exact hf.aE s.aa[i] (adb hi)
   ·rcases ads hm with hm|rfl
    ·exact hf.names c hm
    ·intro m wS;simp only [dH] at wS;unfold aN at wS;simp only [List.mem_append,List.mem_singleton] at wS;rcases wS with (wS|rfl)|wS
     ·exact hf.names _ (adb hi) _ (adE wS)
     ·exact hn
     ·exact hf.names _ (adb hi) _ (adU wS)
 | new h kj nt ht hz hc =>
   refine ⟨rV,hf.ct,fun c hm => ?_,fun c hm => ?_⟩
   ·rcases adm.1 hm with hm|hm
    ·exact hf.aE c hm
    ·simp only [List.mem_singleton] at hm;subst hm;simp [dT]
   ·rcases adm.1 hm with hm|hm
    ·exact hf.names c hm
    ·simp only [List.mem_singleton] at hm;subst hm;simpa [dT] using hn
theorem vN.cK (x:vN s0 j s) : s0.cK->j<=6->s.cK:=by
 induction x with
 | zero=>exact fun h _=>h
 | succ m h ih=>exact fun hf hj=>h.cK (ih hf (by omega)) (Cu (by omega))
def HX (h:Heap) : ah:=⟨List.replicate 4096 0,h,[]⟩
theorem Ny {l:List Region} {split:Int} (h:fI 0 split) : ∀ z∈[(gK l split 256).1,(gK l split 256).2],fL z:=by
 obtain ⟨h1,h2⟩:=rq (l:=l) h 256;have a1:=h1.from_;have a2:=h1.pj;have a3:=h2.from_;have a4:=h2.pj
 refine yI ⟨?_,?_⟩<;>(unfold fL;omega)
inductive iN (o:Int×List Region) (split least cpus:Int) : ah×Int->Prop where
 | RZ (h:o.1≠0) : iN o split least cpus (.zero,o.1)
 | heap (h:o.1=0) (h2:(gL o.2 split least cpus).1≠0) : iN o split least cpus (.zero,(gL o.2 split least cpus).1)
 | made {t:ah} (h:o.1=0) (h2:(gL o.2 split least cpus).1=0) (m:vN (HX (gL o.2 split least cpus).2) 6 t) : iN o split least cpus (t,0)
theorem CQ {l:List Region} {split:Int} (h:(gL l split least cpus).1=0) : (HX (gL l split least cpus).2).cK:=by
 have rV:=AQ l split least cpus;refine ⟨⟨by unfold HX;rw [aed];omega,rV,ad3 _,fun c h=>absurd h afk⟩,?_,fun c h=>absurd h afk,fun c h=>absurd h afk⟩;cases hq:fa l
 ·rw [uD hq] at h;simp at h
 ·by_cases ha:mF split least cpus
  ·rw [ru hq ha];exact Ny ha.1
  ·rw [rr hq ha] at h;simp at h
theorem iN.cK {o:Int×List Region} {split:Int} (a:iN o split least cpus u) : u.1.cK:=by
 cases a with
 | RZ|heap=>exact ah.CP
 | made h h2 m=>exact m.cK (CQ h2) (by omega)
theorem FV (N:Nat) (x y:List Region) : (jt N x y).2.length<=N:=by
 cases h:qu x y
 ·rw [CL h];exact ad3 _
 ·rw [xf h];exact (va _ _).len
def bM (n m:Int) : Int:=(if n<0 then -(n+1) else n).tmod m
theorem cV {n m:Int} (hm : 0<m) : 0<=bM n m∧bM n m<m:=by
 unfold bM;have h : 0<=(if n<0 then -(n+1) else n):=by split<;>omega
 exact ⟨Int.tmod_nonneg _ h,Int.tmod_lt_of_pos _ hm⟩
def vO (a b c:Int) : List Region:=[⟨bM a 20,40+bM b 60⟩,⟨130+bM c 10,16+bM a 90⟩]
def vP (a b c:Int) : List Region:=[⟨bM a 20+bM c 30,1+bM a 7⟩,⟨150+bM b 9,1+bM c 5⟩]
theorem Qr {x y:Region} (hx:x.ok) (hy:y.ok) (h:x.aV+x.az<y.aV) : ib [x,y]:=by
 refine ⟨by simp,fun i hi => ?_⟩;simp only [List.length_cons,List.length_nil] at hi;rcases (show i=0∨i=1 by omega) with rfl|rfl
 ·exact ⟨hx,fun h0=>by omega⟩
 ·exact ⟨hy,fun _=>h⟩
theorem HY (a b c:Int) : qu (vO a b c) (vP a b c)=true:=by
 have h1:=cV (n:=a) (m:=20) (by omega);have h2:=cV (n:=b) (m:=60) (by omega);have h3:=cV (n:=c) (m:=10) (by omega);have h4:=cV (n:=a) (m:=90) (by omega);have h5:=cV (n:=c) (m:=30) (by omega);have h6:=cV (n:=a) (m:=7) (by omega);have h7:=cV (n:=b) (m:=9) (by omega);have h8:=cV (n:=c) (m:=5) (by omega);unfold qu vO vP;rw [mg (Qr (by unfold Region.ok;simp only;omega) (by unfold Region.ok;simp only;omega) (by simp only;omega)),mg (Qr (by unfold Region.ok;simp only;omega) (by unfold Region.ok;simp only;omega) (by simp only;omega))]
 rfl
theorem AR {p:Nat->Bool} {b c d:Int} (h:∀ k:Nat,p k=true->(k=0∨p (k-1)=false)->(k:Int)=a∨(k:Int)=b∨(k:Int)=c∨(k:Int)=d) :
 ∀ k:Nat,(runs p k).length<=(if a<(k:Int) then 1 else 0)+(if b<(k:Int) then 1 else 0)+(if c<(k:Int) then 1 else 0)+(if d<(k:Int) then 1 else 0)
 | 0=>by simp [runs]
 | k+1=>by
   have ih:=AR h k;have BJ:∀ x:Int,(if x<(k:Int) then 1 else 0)<=(if x<((k+1:Nat) : Int) then 1 else 0):=fun x=>by split<;>split<;>omega
   have pe:∀ x:Int,(k:Int)=x->(if x<(k:Int) then 1 else 0)+1<=(if x<((k+1:Nat) : Int) then 1 else 0):=fun x e=>by rw [if_neg (by omega),if_pos (by omega)];omega
   have ma:=BJ a;have mb:=BJ b;have mc:=BJ c;have md:=BJ d;cases hp:p k
   ·have e:runs p (k+1)=runs p k:=by simp [runs,hp]
    rw [e];omega
   ·by_cases hk : 0<k∧p (k-1)=true
    ·have e:runs p (k+1)=bump (runs p k):=by simp only [runs,hp,if_true,if_pos hk]
     obtain ⟨init,r,hr,_⟩:=(va p k).last hk.1 hk.2;rw [e,hr,oM];rw [hr] at ih;simp only [List.length_append,List.length_singleton] at ih ⊢;omega
    ·have e:runs p (k+1)=runs p k++[⟨(k:Int),1⟩]:=by simp only [runs,hp,if_true,if_neg hk]
     have Bc:=h k hp (by cases hq:p (k-1)<;>simp_all<;>omega);rw [e];simp only [List.length_append,List.length_singleton];rcases Bc with e|e|e|e<;>have:=pe _ e<;>omega
theorem Nz (x y:Region) (i:Int) : eI [x,y] i=true↔(x.aV<=i∧i<x.aV+x.az)∨(y.aV<=i∧i<y.aV+y.az):=by
 unfold eI;simp
theorem HZ (a b c:Int) : fa (runs (ln (vO a b c) (vP a b c)) 256)=true:=by
 have hr:=va (ln (vO a b c) (vP a b c)) 256;refine mg ⟨?_,fun i hi=>⟨?_,fun h0 => ?_⟩⟩
 ·have h1:=cV (n:=a) (m:=20) (by omega);have h2:=cV (n:=b) (m:=60) (by omega);have h3:=cV (n:=c) (m:=10) (by omega);have h4:=cV (n:=a) (m:=90) (by omega)
  have:=AR (p:=ln (vO a b c) (vP a b c)) (a:=bM a 20) (b:=130+bM c 10) (c:=bM a 20+bM c 30+(1+bM a 7)) (d:=150+bM b 9+(1+bM c 5)) (fun k hk Bx=>by
   have key:∀ i:Nat,ln (vO a b c) (vP a b c) i=true↔((bM a 20<=(i:Int)∧(i:Int)<bM a 20+(40+bM b 60))∨(130+bM c 10<=(i:Int)∧(i:Int)<130+bM c 10+(16+bM a 90))) ∧ ¬ ((bM a 20+bM c 30<=(i:Int)∧(i:Int)<bM a 20+bM c 30+(1+bM a 7))∨(150+bM b 9<=(i:Int)∧(i:Int)<150+bM b 9+(1+bM c 5))):=fun i=>by
    unfold ln vO vP;rw [adR,afb,<- Bool.not_eq_true,Nz,Nz]
   rw [key] at hk;rcases Bx with rfl|Bx
   ·omega
   ·rw [<- Bool.not_eq_true,key] at Bx;by_cases h0:k=0
    ·subst h0;omega
    ·omega) 256
  have e1:∀ x:Int,(if x<((256:Nat) : Int) then 1 else 0)<=1:=fun x=>by split<;>omega
  have a1:=e1 (bM a 20);have a2:=e1 (130+bM c 10);have a3:=e1 (bM a 20+bM c 30+(1+bM a 7));have a4:=e1 (150+bM b 9+(1+bM c 5));omega
 ·have:=hr.PP _ (adb hi)
  unfold Region.ok;omega
 ·have:=hr.sep
  rw [adl] at this;exact this (i-1) i (by omega) hi (by omega)
def yL (l:List Region) : Nat->List Block
 | 0=>[]
 | p+1=>if eI l p then yL l p++[cu p] else yL l p
theorem DW (l:List Region) : ∀ p:Nat,∀ b∈yL l p,0<=b.At∧b.At<(p:Int)∧b.Order=0
 | 0=>by simp [yL]
 | p+1=>fun b hb=>by
   unfold yL at hb;split at hb
   ·rcases adm.1 hb with hb|hb
    ·have:=DW l p b hb;omega
    ·simp only [List.mem_singleton] at hb;subst hb;refine ⟨?_,?_,rfl⟩<;>simp only [cu]<;>omega
   ·have:=DW l p b hb;omega
theorem NA (l:List Region) {p:Nat} (hp:p<256) : pY (yL l p) (cu p):=by
 refine ⟨by simp [cu],by simp only [cu];omega,by simp only [cu,jm];omega,⟨by simp only [cu];omega,by simp only [cu,jm];omega,?_⟩,fun x hx => ?_⟩
 ·unfold ki;rw [ady];intro x hx;have:=DW l p x hx
  rw [this.2.2,jm];intro hh;simp only [cu,Bool.and_eq_true,decide_eq_true_eq] at hh;have h2:=of_decide_eq_true hh.2;omega
 ·have:=DW l p x hx
  rw [this.2.2,jm];omega
theorem FW {t:Int} (h:fI f t) : bV (jx f t).2∧(jx f t).2.aV=f∧(jx f t).2.To=t∧(jx f t).2.aj=[]:=by
 rw [mh h];have h':=h;unfold fI at h';refine ⟨⟨h,by simp only [List.length_replicate];omega,fun x hx => ?_,fun i hi=>by simp at hi,fun i hi=>by simp at hi⟩,rfl,rfl,rfl⟩;have:=List.eq_of_mem_replicate hx
 subst this;unfold kU;omega
theorem FX {l:List Region} {split:Int} (hs:fI 0 split) : ∀ p:Nat,p<=256->qQ (gK l split p) (yL l p)∧(gK l split p).1.To=split
 | 0,_=>by
   have gR:fI split 256:=by unfold fI at hs ⊢;omega
   obtain ⟨a1,a2,a3,a4⟩:=FW hs;obtain ⟨b1,b2,b3,b4⟩:=FW gR;refine ⟨⟨a1,b1,a2,a3.trans b2.symm,b3,fun i => ?_⟩,a3⟩;simp only [gK,yL,a4,b4]
   rfl
 | p+1,hp=>by
   obtain ⟨D,D9⟩:=FX hs p (by omega);have hb:=D.back (NA l (by omega));rw [gK,yL];cases hi:eI l p
   ·simp only [Bool.false_eq_true,if_false];exact ⟨D,D9⟩
   ·simp only [if_true]
    have e:(if (p:Int)<split then (mW (gK l split p).1 p,(gK l split p).2) else ((gK l split p).1,mW (gK l split p).2 p))=gB (gK l split p) (cu p):=by
     unfold gB mW;simp only [cu,D9]
    rw [e];exact ⟨hb.1,hb.2.trans D9⟩
theorem Pu {l:List Region} {split:Int} (ha:mF split least cpus) : bK (pJ (gK l split 256) least cpus):=by
 obtain ⟨D,D9⟩:=FX (l:=l) ha.1 256 (adg _);refine qo (s:=gK l split 256) rfl D.vs (kG.nil _ _) ⟨least,least,rfl,ha.2.1,ha.2.1⟩ ha.2.2 (DM (by simp [pJ]) (by simp [pJ])) fun i => ?_
 have h1:=Ai D.vs i;have h2:∀ b:Bool,b.toNat<=1:=fun b=>by cases b<;>simp
 have h3:=h2 (eu (gK l split 256).1.aj i || eu (gK l split 256).2.aj i);have h4:jr [] i=0:=rfl
 unfold uw;simp only [pJ,yJ];omega
def iX (h:Heap) (i:Nat) : aQ:=⟨[fB (kP i)],kP i,(dp (kP i)).2.1,(dp (kP i)).1,[],List.replicate h.bG.toNat (-1)⟩
structure nf (h:Heap) (j:Nat) (s:ah) : Prop where
 words:s.Words=List.replicate 4096 0
 heap:s.Heap=h
 br:s.aa=(List.range j).map (iX h)
theorem Y7 {P:Nat->Prop} (h0:P 0) (h1:P 1) (h2:P 2) (h3:P 3) (h4:P 4) (h5:P 5) (h:i<6) : P i:=by
 rcases (show i=0∨i=1∨i=2∨i=3∨i=4∨i=5 by omega) with rfl|rfl|rfl|rfl|rfl|rfl
 ·exact h0
 ·exact h1
 ·exact h2
 ·exact h3
 ·exact h4
 ·exact h5
theorem CR (h:i<6) : gz (fB (kP i))=true:=Y7 (P:=fun i=>gz (fB (kP i))=true) (by decide) (by decide) (by decide) (by decide) (by decide) (by decide) h
theorem Qs (h:i<6) (hj:j<i) : kP j≠kP i:=by
 have:∀ i,i<6 -> ∀ j,j<i->kP j≠kP i:=by unfold kP;decide
 exact this i h j hj
theorem Jl (h:i<6) (hj:j<i) : fB (kP j)≠fB (kP i):=by
 have:∀ i,i<6 -> ∀ j,j<i->fB (kP j)≠fB (kP i):=by unfold kP;decide
 exact this i h j hj
theorem CS {h:Heap} (hm:bK h) (hj:j<=6) (f:nf h j s) : aB s:=by
 refine ⟨by rw [f.words,aed],by rw [f.heap];exact hm,by rw [f.br];simp;omega,fun i hi => ?_⟩;have po:i<j:=by rw [f.br] at hi;simpa using hi
 have ec:∀ (k:Nat) (hk:k<s.aa.length),s.aa[k]=iX h k:=fun k hk=>by
  have:s.aa[k]=((List.range j).map (iX h))[k]'(by rw [f.br] at hk;exact hk):=by congr 1;exact f.br
  rw [this];simp
 have pL:=hm.cpus;refine ⟨⟨?_,?_,?_,fun k hk => ?_,fun k hk => ?_⟩,fun k hk => ?_,⟨fun k hk => ?_⟩,fun k hk => ?_⟩
 ·rw [ec i hi];exact Y7 (P:=fun i=>dp (iX h i).az=((iX h i).Order,(iX h i).bL,0)) rfl rfl rfl rfl rfl rfl (show i<6 by omega)
 ·rw [ec i hi];simp [iX]
 ·rw [ec i hi,f.heap];simp [iX];omega
 ·exfalso;rw [ec i hi] at hk;simp [iX] at hk
 ·left;have:∀ (c:aQ) (e:c=iX h i) (hk:k<c.ap.length),c.ap[k] = -1:=fun c e hk=>by subst e;simp [iX]
  exact this _ (ec i hi) hk
 ·rw [ec i hi,ec k (by omega)];exact Qs (by omega) hk
 ·have key:∀ (c:aQ) (e:c=iX h i) (hk:k<c.Names.length) (acc:List ByteArray),(∀ n∈acc,n≠fB (kP i))->gz c.Names[k]=true∧c.Names[k]∉acc++c.Names.take k∧(0<k->eJ (c.Names[k-1]'(by omega)) c.Names[k]=true):=fun c e hk acc ha=>by
   subst e;have Bd:k=0:=by simp [iX] at hk;exact hk
   subst Bd;simp only [iX,List.getElem_cons_zero,List.take_zero,List.append_nil];exact ⟨CR (by omega),fun hh=>ha _ hh rfl,fun h=>by omega⟩
  refine key _ (ec i hi) hk _ fun n hn => ?_
  unfold bl at hn;obtain ⟨c,hc,hn⟩:=adx.1 hn;obtain ⟨q,hq,rfl⟩:=ade hc;simp only [List.length_take] at hq;rw [adS,ec q (by omega)] at hn;simp only [iX,List.mem_singleton] at hn;subst hn;exact Jl (by omega) (by omega)
 ·exfalso;rw [ec i hi] at hk;simp [iX] at hk
theorem H4 {h:Heap} (hm:bK h) (hj:j<6) (f:nf h j s) (hu:lI s (fB (kP j)) (kP j) 1 u) : nf h (j+1) u.1:=by
 have hM:=CS hm (by omega) f;obtain ⟨_,_,k3,k4⟩:=MU hj;have ez:rQ (kP j) 1=kP j:=by unfold rQ;omega
 have hn:∀ c∈s.aa,∃ q,q<j∧c=iX h q:=fun c hc=>by
  rw [f.br] at hc;obtain ⟨q,hq,rfl⟩:=adv.1 hc;exact ⟨q,by simpa using hq,rfl⟩
 have HG:=lI.new (s:=s) (n:=fB (kP j)) (size:=kP j) (align:=1) (mq hM) ⟨CR hj,.inl rfl⟩ ⟨k3,by omega⟩ (by
  rw [ady];intro c hc;obtain ⟨q,hq,rfl⟩:=hn c hc;have:=Jl hj hq
  simp [dQ,tH,iX];exact fun e=>this e) (fun q hq=>by
  obtain ⟨t,ht,e⟩:=hn _ (adb hq);rw [e,ez];exact Qs hj ht) (by rw [f.br];simp;omega)
 rw [hu.dq HG];refine ⟨f.words,f.heap,?_⟩;simp only [ez];rw [List.range_succ,adG,<- f.br];congr 1
 simp only [dT,List.map_cons,List.map_nil,iX,f.heap]
theorem H7 {h:Heap} (hm:bK h) (x:vN (HX h) j s) : j<=6->nf h j s:=by
 induction x with
 | zero=>exact fun _=>⟨rfl,rfl,rfl⟩
 | succ m hu ih=>exact fun hj=>H4 hm (by omega) (ih (by omega)) hu
theorem AS (a b c:Int) : mF (16*bM a 9) (bM b 12) (1+bM c 4):=by
 have h1:=cV (n:=a) (m:=9) (by omega);have h2:=cV (n:=b) (m:=12) (by omega);have h3:=cV (n:=c) (m:=4) (by omega);unfold mF fI;omega
noncomputable def H9 (a b c:Int) : Heap:=pJ (gK (runs (ln (vO a b c) (vP a b c)) 256) (16*bM a 9) 256) (bM b 12) (1+bM c 4)
theorem FY (a b c:Int) : bK (H9 a b c):=Pu (AS a b c)
theorem jG {b c:Int} (h:iN (jt 256 (vO a b c) (vP a b c)) (16*bM a 9) (bM b 12) (1+bM c 4) u) : u.2=0∧nf (H9 a b c) 6 u.1∧dM u.1:=by
 have hf:=h.cK;have e1:=xf (N:=256) (HY a b c);have e2:=ru (HZ a b c) (AS a b c);cases h with
 | RZ h=>rw [e1] at h;exact absurd rfl h
 | heap h h2=>rw [e1,e2] at h2;exact absurd rfl h2
 | made h h2 m =>
   rw [e1] at m;simp only [e2] at m;have hF:=H7 (FY a b c) m (adg _);exact ⟨rfl,hF,hf,CS (FY a b c) (adg _) hF⟩
theorem nf.eq {h:Heap} {t:ah} (a:nf h j s) (b:nf h j t) : s=t:=by
 obtain ⟨a1,a2,a3⟩:=a;obtain ⟨b1,b2,b3⟩:=b;cases s
 cases t
 simp only at *;subst a1 a2 a3 b1 b2 b3
 rfl
end Go.Proofs.YtohigmjjbgpfmaaGreatDoor
