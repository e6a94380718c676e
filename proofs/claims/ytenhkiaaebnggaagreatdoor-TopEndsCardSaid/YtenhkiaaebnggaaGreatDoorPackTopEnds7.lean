/- Part 7 of what topEnds_holds leans on. -/
import Derived.Test.YtenhkiaaebnggaaGreatDoorPackTopEnds6
set_option linter.unusedVariables false
set_option linter.unusedSimpArgs false
set_option linter.defProp false
open Go.Proofs.Tryz
namespace Go.Proofs.YtenhkiaaebnggaaGreatDoor
open Go.RowKit
variable {a o:Int} {x':Int->Prop} {s:ag} {i j:Nat}
def Is (ws:List Int) (c:aN) (a:Int) : Prop := ∃ x∈c.ab,iu c.ay c.bL x.At a=true ∧ ∃ out,bO ws c.ay c.bL x out∧a∉out
inductive Src
 | obj (i:Nat)
 | pg (o:Int)
def fF (s:ag) : Src->Int->Prop
 | .obj i,a => ∃ c,s.aa[i]?=some c∧Is s.Words c a
 | .pg o,a=>cV s a=true∧o8 s.Heap.Live (a / 16)=o
def pC (s:ag) (i:Nat) : Int:=((s.aa[i]?).map fun c=>c.ay).getD 0
def jC (s:ag) : Src->Int
 | .obj i=>pC s i
 | .pg o=>16*pw o
def Db (hl:gf s.Heap.Live):cV s a=true↔(0<=a∧a % 16=0)∧(∀ c∈s.aa,∀ x∈c.ab,x.At≠a / 16) ∧ ∃ b∈s.Heap.Live,b.At=a / 16:=by
 constructor
 ·intro h;obtain ⟨h1,h2,h3⟩:=dG h;obtain ⟨hk,e⟩:=jJ h1;refine ⟨⟨h2,h3⟩,fun c hc x hx e => ?_,_,aet hk,e⟩;rw [AZ hc hx e.symm] at h;cases h
 ·rintro ⟨h1,h2,b,hb,e⟩
  have hs:mV s (a / 16)=false:=by
   cases e:mV s (a / 16) with
   | false=>rfl
   | true =>
     exfalso;unfold mV at e;obtain ⟨c,hc,e⟩:=aeG.1 e;obtain ⟨x,hx,e⟩:=aeG.1 e;exact h2 c hc x hx (of_decide_eq_true e)
  have hf:bM s.Heap.Live (a / 16)=true:=by
   obtain ⟨k,hk,rfl⟩:=aeu hb;exact (rm (k7 hl) hk e).2
  unfold cV;rw [hs,hf,decide_eq_true h1]
  rfl
def j3 (hl:gf s.Heap.Live):fF s (.pg o) a↔(0<=a∧a % 16=0)∧(∀ c∈s.aa,∀ x∈c.ab,x.At≠a / 16) ∧ ∃ b∈s.Heap.Live,b.At=a / 16∧b.Order=o:=by
 constructor
 ·rintro ⟨h,e⟩
  obtain ⟨h1,h2,b,hb,e2⟩:=(Db hl).1 h;exact ⟨h1,h2,b,hb,e2,by rw [<- e,<- e2,iI hl hb]⟩
 ·rintro ⟨h1,h2,b,hb,e2,rfl⟩
  exact ⟨(Db hl).2 ⟨h1,h2,b,hb,e2⟩,by rw [<- e2,iI hl hb]⟩
def hU (hi:i<s.aa.length):fF s (.obj i) a↔Is s.Words s.aa[i] a:=by
 constructor
 ·rintro ⟨c,e,h⟩
  obtain ⟨_,rfl⟩:=aeQ.1 e;exact h
 ·exact fun h=>⟨_,aez hi,h⟩
def fF.lt (h:fF s (.obj i) a) : i<s.aa.length:=by
 obtain ⟨c,e,_⟩:=h;obtain ⟨hi,_⟩:=aeQ.1 e;exact hi
def ze (hi:i<s.aa.length):Is s.Words s.aa[i] a ↔ ∃ k,Ge s i k a:=by
 constructor
 ·rintro ⟨x,hx,h1,h2⟩
  obtain ⟨k,hk,rfl⟩:=aeu hx;exact ⟨k,hi,hk,h1,h2⟩
 ·rintro ⟨k,h⟩
  exact ⟨_,aet h.hk,h.obj,h.off⟩
def Lm {d p s:Int} (hs : 1<=s) (h0:d<p*s) (hm:d % s=0) : d+s<=p*s:=by
 have h3:=afM d s;have h1:d / s<p:=Int.ediv_lt_of_lt_mul (by omega) h0
 have h2:(d / s+1)*s<=p*s:=afV (by omega) (by omega)
 rw [agL,agM,afD (d / s)] at h2;omega
def A9 {d e s:Int} (hs : 1<=s) (hd:d % s=0) (he:e % s=0) (h:d<e) : d+s<=e:=by
 have h1:=afM d s;have h2:=afM e s
 have h3:d / s<e / s:=by
  rcases agD (d / s) (e / s) with h3|h3
  ·exact h3
  ·have:=agk h3 (show 0<=s by omega)
   omega
 have h4:=agk (show d / s+1<=e / s by omega) (show 0<=s by omega);rw [Int.mul_add,Int.mul_one] at h4;omega
structure SR (s:ag) (q:Src) (a:Int) (b:Block) : Prop where
 mem:b∈s.Heap.Live
 lo : 16*b.At<=a
 hi:a+jC s q<=16*(b.At+pw b.Order)
 ext : 1<=jC s q
 what:(∃ i,∃ h:i<s.aa.length,q = .obj i∧jC s q=s.aa[i].ay∧(a-b.At*16) % s.aa[i].ay=0 ∧ ∃ x∈s.aa[i].ab,x.At=b.At)∨(q = .pg b.Order∧a=16*b.At ∧ ∀ c∈s.aa,∀ x∈c.ab,x.At≠b.At)
def kw (hM:aA s) {q:Src} (h:fF s q a) : ∃ b,SR s q a b:=by
 cases q with
 | obj i =>
   have hi:=h.lt;obtain ⟨x,hx,ho,_⟩:=(hU hi).1 h;have hC:=(hM.each i hi).may;have hl:=bV hC.lay;have hp:=kr hC.lay;obtain ⟨b,hb,e1,e2⟩:=g7 hM (aet hi) hx;have es:jC s (.obj i)=s.aa[i].ay:=by simp [jC,pC,hi]
   unfold iu at ho;simp only [Bool.and_eq_true,decide_eq_true_eq] at ho;obtain ⟨⟨h1,h2⟩,h3⟩:=ho;have h4:=Lm (by omega) h2 h3;refine ⟨b,hb,by omega,?_,by omega,.inl ⟨i,hi,rfl,es,by rw [e1];exact h3,x,hx,e1.symm⟩⟩;rw [es,e1,e2];obtain ⟨p,ep⟩ : ∃ p,s.aa[i].bL*s.aa[i].ay=p:=⟨_,rfl⟩;rw [ep] at hp h4;have Yk:pw 0=1:=by decide
   have Yl:pw 1=2:=by decide
   have Ym:pw 2=4:=by decide
   rcases hp with ⟨eo,h5⟩|⟨eo,h5⟩|⟨eo,h5⟩<;>rw [eo]<;>omega
 | pg o =>
   obtain ⟨h1,h2,b,hb,e1,rfl⟩:=(j3 hM.heap.live).1 h;have hl:=(hM.heap.live.all b hb).1;have hp:=cM hl.1 hl.2;have es:jC s (.pg b.Order)=16*pw b.Order:=rfl
   exact ⟨b,hb,by omega,by rw [es];omega,by rw [es];omega,.inr ⟨rfl,by omega,fun c hc x hx=>by rw [e1];exact h2 c hc x hx⟩⟩
def tJ (hM:aA s) (hi:i<s.aa.length) (hj:j<s.aa.length) {x y:Slab} (hx:x∈s.aa[i].ab) (hy:y∈s.aa[j].ab) (e:x.At=y.At) : i=j:=by
 by_cases h:i=j
 ·exact h
 ·exact absurd e (oo hM hi hj h hx hy)
def JN (hM:aA s) {q r:Src} {z:Int} {b d:Block} (h:SR s q a b) (k:SR s r z d) : q=r∧b.At=d.At∧(q=r->a=z∨a+jC s q<=z∨z+jC s r<=a)∨a+jC s q<=z∨z+jC s r<=a:=by
 by_cases e:b.At=d.At
 ·left;rcases h.what with ⟨i,hi,rfl,e1,e2,x,hx,e3⟩|⟨rfl,e1,e2⟩
  ·rcases k.what with ⟨j,hj,rfl,f1,f2,y,hy,f3⟩|⟨rfl,f1,f2⟩
   ·obtain rfl:=tJ hM hi hj hx hy (by rw [e3,f3,e]);have hl:=bV (hM.each i hi).may.lay;refine ⟨rfl,e,fun _ => ?_⟩;rw [e1];rw [<- e] at f2;rcases Int.lt_trichotomy a z with g|g|g
    ·have:=A9 (by omega) e2 f2 (by omega);right;left;omega
    ·exact .inl g
    ·have:=A9 (by omega) f2 e2 (by omega);right;right;omega
   ·exact absurd (by rw [e3,e]) (f2 _ (aet hi) x hx)
  ·rcases k.what with ⟨j,hj,rfl,f1,f2,y,hy,f3⟩|⟨rfl,f1,f2⟩
   ·exact absurd (by rw [f3,e]) (e2 _ (aet hj) y hy)
   ·have hb:b.Order=d.Order:=by
     have h1:=iI hM.heap.live h.mem;have h2:=iI hM.heap.live k.mem;rw [<- h1,<- h2,e]
    exact ⟨by rw [hb],e,fun _ => .inl (by rw [e1,f1,e])⟩
 ·right;have:=gZ hM.heap h.mem k.mem e
  have h1:=h.lo;have h2:=h.hi;have h3:=k.lo;have h4:=k.hi;omega
def tK (hM:aA s) {q r:Src} (h:fF s q a) (k:fF s r a) : q=r:=by
 obtain ⟨b,hb⟩:=kw hM h;obtain ⟨d,hd⟩:=kw hM k;have h1:=hb.ext;have h2:=hd.ext;rcases JN hM hb hd with h|h|h
 ·exact h.1
 ·omega
 ·omega
def Ba (hM:aA s) {q r:Src} {z:Int} (h:fF s q a) (k:fF s r z) (bG:a≠z) : a+jC s q<=z∨z+jC s r<=a:=by
 obtain ⟨b,hb⟩:=kw hM h;obtain ⟨d,hd⟩:=kw hM k;rcases JN hM hb hd with ⟨h1,_,h2⟩|h|h
 ·rcases h2 h1 with h|h|h
  ·exact absurd h bG
  ·exact .inl h
  ·exact .inr h
 ·exact .inl h
 ·exact .inr h
def fi (hM:aA s) {q:Src} (h:fF s q a) : 0<=a∧a+jC s q<=4096∧1<=jC s q:=by
 obtain ⟨b,hb⟩:=kw hM h;obtain ⟨l1,l2,l3,_⟩:=hM.heap.live.all b hb.mem;have:=xp l1.1 l1.2 l2.1 (show b.At<256 by omega) l3
 have h1:=hb.lo;have h2:=hb.hi;have h3:=hb.ext;omega
def j9 (s:ag) : List (List ByteArray×Int):=s.aa.map fun c=>(c.Names,c.ay)
structure fb (s t:ag) (x:Int->Prop) (y:Src->Int->Prop) : Prop where
 aw:∀ q a,fF t q a↔(fF s q a ∧ ¬ x a)∨y q a
 words:∀ q a,fF s q a -> ¬ x a->t.Words[a.toNat]?=s.Words[a.toNat]?
 shape:j9 t=j9 s
 cpus:t.Heap.bJ=s.Heap.bJ
def rH:Int->Prop:=fun _=>False
def xq:Src->Int->Prop:=fun _ _=>False
def fb.refl (s:ag) : fb s s rH xq:=⟨fun q a=>by simp [rH,xq],fun _ _ _ _=>rfl,rfl,rfl⟩
def fb.trans {t u:ag} {x:Int->Prop} {y y':Src->Int->Prop} (h:fb s t x y) (k:fb t u x' y') : fb s u (fun a=>x a∨x' a) (fun q a=>(y q a ∧ ¬ x' a)∨y' q a) :=
 ⟨fun q a=>by
  rw [k.aw,h.aw];by_cases h1:x a<;>by_cases h2:x' a<;>simp [h1,h2,or_assoc],
  fun q a ha hx=>by
   rw [k.words q a ((h.aw q a).2 (.inl ⟨ha,fun h=>hx (.inl h)⟩)) fun h=>hx (.inr h)];exact h.words q a ha fun h=>hx (.inl h),
  k.shape.trans h.shape,k.cpus.trans h.cpus⟩
def fb.congr {t:ag} {x:Int->Prop} {y y':Src->Int->Prop} (h:fb s t x y) (hx:∀ a,x a↔x' a) (hy:∀ q a,y q a↔y' q a) : fb s t x' y' :=
 ⟨fun q a=>by rw [h.aw,hx,hy],fun q a ha hn=>h.words q a ha (by rw [hx];exact hn),h.shape,h.cpus⟩
def tL (s:ag) (i:Nat) : pC s i=(((j9 s)[i]?).map fun p=>p.2).getD 0:=by
 unfold pC j9;rw [af7];cases s.aa[i]?<;>rfl
def fb.ext {t:ag} {x:Int->Prop} {y:Src->Int->Prop} (h:fb s t x y) (q:Src) : jC t q=jC s q:=by
 cases q with
 | obj i=>simp only [jC,tL,h.shape]
 | pg=>rfl
variable {α:Type} {cpu fl:Int} {c c':aN} {ws Sg:List Int} {k:Nat}
def pD {l:List α} {p:Nat} {x y : α}:y∈aM l p x↔y=x∨y∈l:=by
 unfold aM;rw [aey,aeC,aeC,agn];constructor
 ·rintro (h|rfl|h)
  ·exact .inr (aeX h)
  ·exact .inl rfl
  ·exact .inr (afa h)
 ·rintro (rfl|hb)
  ·exact .inr (.inl rfl)
  ·have e:=aex p l;have iL:y∈l.take p++l.drop p:=by rw [e];exact hb
   rcases aeC.1 iL with hb|hb
   ·exact .inl hb
   ·exact .inr (.inr hb)
def mg {h:Heap} {t:Int} {b:Block}:b∈dX h a o t↔b=⟨a,o,t⟩∨b∈h.Live:=pD
def v8 (hM:aA s) {u:Heap×Int×Int} (hu:cU s.Heap cpu o fl u) (u0:u.2.2=0) (q:Src) : ¬ fF s q (16*u.2.1):=fun h=>by
 obtain ⟨hm,Cb,⟨ty,zO,C7⟩,JG⟩:=hu.from_ u0;have lA:=hu.may u0;obtain ⟨b,hb⟩:=kw hM h;have hn:(⟨u.2.1,o,ty⟩ : Block)∈u.1.Live:=by rw [C7];exact mg.2 (.inl rfl)
 have iL:b∈u.1.Live:=by rw [C7];exact mg.2 (.inr hb.mem)
 have h1:=gZ lA iL hn (JG b hb.mem);have h2:=(lA.live.all _ hn).1;have h3:=cM h2.1 h2.2;have h4:=hb.lo;have h5:=hb.hi;have h6:=hb.ext;simp only at h1 h3;omega
def Bb (hM:aA s) {u:Heap×Int×Int} (hu:cU s.Heap cpu o fl u) (u0:u.2.2=0) : fb s (oN s u.1) rH (fun q a=>q = .pg o∧a=16*u.2.1):=by
 obtain ⟨hm,Cb,⟨ty,zO,C7⟩,JG⟩:=hu.from_ u0;have lA:=hu.may u0;have kZ:=hu.at_ u0;refine ⟨fun q a => ?_,fun _ _ _ _=>rfl,rfl,Cb⟩;cases q with
 | obj i =>
   constructor
   ·exact fun h => .inl ⟨h,fun h=>h⟩
   ·rintro (⟨h,_⟩|⟨h,_⟩)
    ·exact h
    ·cases h
 | pg r =>
   rw [j3 (s:=oN s u.1) lA.live,j3 hm.live];constructor
   ·rintro ⟨h1,h2,b,hb,e1,e2⟩
    have iL:b∈dX s.Heap u.2.1 o ty:=by rw [<- C7];exact hb
    rcases mg.1 iL with rfl|iL
    ·simp only at e1 e2;exact .inr ⟨by rw [e2],by omega⟩
    ·exact .inl ⟨⟨h1,h2,b,iL,e1,e2⟩,fun h=>h⟩
   ·rintro (⟨⟨h1,h2,b,hb,e1,e2⟩,_⟩|⟨h1,rfl⟩)
    ·exact ⟨h1,h2,b,by show b∈u.1.Live;rw [C7];exact mg.2 (.inr hb),e1,e2⟩
    ·injection h1 with h1
     subst h1;refine ⟨⟨by omega,by omega⟩,fun c hc x hx e => ?_,⟨u.2.1,r,ty⟩,?_,?_,rfl⟩
     ·obtain ⟨b,hb,e'⟩:=om hM hc hx;exact JG b hb (by omega)
     ·show _∈u.1.Live
      rw [C7];exact mg.2 (.inl rfl)
     ·simp only;omega
def Dc (hM:aA s) (hq : 0<=cpu∧cpu<s.Heap.bJ) (hw:cV s (a*16)=true) : fb s (oN s (gK s.Heap cpu a)) (fun z=>z=a*16) xq:=by
 have hm:=hM.heap;obtain ⟨hf,h0,_⟩:=dG hw;rw [show a*16 / 16=a by omega] at hf;have lA:=tG hm hq hf;obtain ⟨p1,p2,p3⟩:=mf (cpu:=cpu) hm hf;have hA:fF s (.pg (o8 s.Heap.Live (a*16 / 16))) (a*16):=⟨hw,rfl⟩
 refine ⟨fun q z => ?_,fun _ _ _ _=>rfl,rfl,p1⟩;simp only [xq,or_false];cases q with
 | obj i =>
   constructor
   ·refine fun h=>⟨h,fun e => ?_⟩
    subst e;have h':fF s (.obj i) (a*16):=h
    cases tK hM h' hA
   ·exact fun h=>h.1
 | pg r =>
   rw [j3 (s:=oN s (gK s.Heap cpu a)) lA.live,j3 hm.live];constructor
   ·rintro ⟨h1,h2,b,hb,e1,e2⟩
    have iL:b∈s.Heap.Live.eraseIdx (bE s.Heap.Live a):=by rw [<- p2];exact hb
    obtain ⟨aX,aq⟩:=(jB hm.live hf).1 iL;exact ⟨⟨h1,h2,b,aX,e1,e2⟩,by omega⟩
   ·rintro ⟨⟨h1,h2,b,hb,e1,e2⟩,bG⟩
    refine ⟨h1,h2,b,?_,e1,e2⟩;show b∈(gK s.Heap cpu a).Live
    rw [p2];exact (jB hm.live hf).2 ⟨hb,by omega⟩
def It (hM:aA s) : fb s (oN s (ln s.Heap).2) rH xq:=by
 have hm:=hM.heap;obtain ⟨z0,z1,h1,_⟩:=hm.cq;rw [sX (bT.2 hm) h1];refine ⟨fun q z => ?_,fun _ _ _ _=>rfl,rfl,rfl⟩;simp only [rH,xq,or_false,not_false_iff,and_true];cases q<;>exact Iff.rfl
def JO (h:s.aa[i]?=some c):fF s (.obj i) a↔Is s.Words c a:=by
 constructor
 ·rintro ⟨d,e,h'⟩
  rw [h] at e;injection e with e
  rw [e];exact h'
 ·exact fun h'=>⟨c,h,h'⟩
def tc {t:ag} {x y:Int->Prop} (hM:aA s) (hi:i<s.aa.length) (hc:t.aa=s.aa.set i c') (hn:c'.Names=s.aa[i].Names) (hz:c'.ay=s.aa[i].ay) (qQ:t.Heap.bJ=s.Heap.bJ)
 (cx:∀ a,Is t.Words c' a↔(Is s.Words s.aa[i] a ∧ ¬ x a)∨y a) (hx:∀ a,x a->fF s (.obj i) a)
 (ho:∀ (j:Nat) (hj:j<s.aa.length),j≠i -> ∀ a,Is t.Words s.aa[j] a↔Is s.Words s.aa[j] a)
 (hp:∀ o a,fF t (.pg o) a↔fF s (.pg o) a)
 (hw:∀ q a,fF s q a -> ¬ x a->t.Words[a.toNat]?=s.Words[a.toNat]?) : fb s t x (fun q a=>q = .obj i∧y a):=by
 refine ⟨fun q a => ?_,hw,?_,qQ⟩
 ·cases q with
  | obj j =>
    by_cases e:j=i
    ·subst e;rw [JO (c:=c') (by rw [hc];exact afA hi),hU hi,cx];simp
    ·have h1:t.aa[j]?=s.aa[j]?:=by rw [hc,afy (fun h=>e h.symm)]
     have h2 : ¬ (Src.obj j=Src.obj i):=fun h=>e (Src.obj.inj h)
     by_cases hj:j<s.aa.length
     ·rw [JO (h1.trans (aez hj)),ho j hj e,hU hj];constructor
      ·refine fun h => .inl ⟨h,fun OX => ?_⟩
       exact h2 (tK hM ((hU hj).2 h) (hx a OX))
      ·rintro (⟨h,_⟩|⟨h,_⟩)
       ·exact h
       ·exact absurd h h2
     ·constructor
      ·rintro ⟨d,e',_⟩
       rw [h1,aff (by omega)] at e';cases e'
      ·rintro (⟨h,_⟩|⟨h,_⟩)
       ·exact absurd h.lt hj
       ·exact absurd h h2
  | pg o =>
    rw [hp];constructor
    ·refine fun h => .inl ⟨h,fun OX => ?_⟩
     cases tK hM h (hx a OX)
    ·rintro (⟨h,_⟩|⟨h,_⟩)
     ·exact h
     ·cases h
 ·unfold j9;rw [hc,afR];refine afj (by simp) fun j g1 g2 => ?_
  rw [aeP];split
  ·rename_i e;subst e;simp [hn,hz]
  ·rfl
def xr (h:∀ x∈c.ab,∃ out,bO ws c.ay c.bL x out∧bO Sg c.ay c.bL x out) (a:Int) : Is Sg c a↔Is ws c a:=by
 constructor
 ·rintro ⟨x,hx,h1,o,h2,h3⟩
  obtain ⟨out,k1,k2⟩:=h x hx;exact ⟨x,hx,h1,out,k1,by rw [k2.dm h2];exact h3⟩
 ·rintro ⟨x,hx,h1,o,h2,h3⟩
  obtain ⟨out,k1,k2⟩:=h x hx;exact ⟨x,hx,h1,out,k2,by rw [k1.dm h2];exact h3⟩
def dM {l:List α} (hk:k<l.length) {y x : α}:x∈l.set k y↔x=y ∨ ∃ j,∃ hj:j<l.length,j≠k∧x=l[j]:=by
 constructor
 ·intro h;obtain ⟨j,hj,rfl⟩:=aeu h;rw [ae0] at hj;rw [aeP];split
  ·exact .inl rfl
  ·rename_i e;exact .inr ⟨j,hj,fun e'=>e e'.symm,rfl⟩
 ·rintro (rfl|⟨j,hj,bG,rfl⟩)
  ·exact agj.2 ⟨k,by rw [ae0];exact hk,by simp⟩
  ·exact agj.2 ⟨j,by rw [ae0];exact hj,by rw [aeP,if_neg fun e=>bG e.symm]⟩
def JP (hk:k<c.ab.length) {y:Slab} (e:c'.ab=c.ab.set k y) (ez:c'.ay=c.ay) (ep:c'.bL=c.bL)
 (Vo:∀ (j:Nat) (hj:j<c.ab.length),j≠k -> ∃ out,bO ws c.ay c.bL c.ab[j] out∧bO Sg c.ay c.bL c.ab[j] out)
 {o o':List Int} (ho:bO ws c.ay c.bL c.ab[k] o) (ou:bO Sg c.ay c.bL y o') (ey:y.At=c.ab[k].At) {p r:Int->Prop}
 (cx:∀ a,iu c.ay c.bL c.ab[k].At a=true->(a∉o'↔(a∉o ∧ ¬ p a)∨r a)) (hx:∀ a,p a∨r a->iu c.ay c.bL c.ab[k].At a=true)
 (hd:∀ (j:Nat) (hj:j<c.ab.length),j≠k -> ∀ a,iu c.ay c.bL c.ab[j].At a=true->iu c.ay c.bL c.ab[k].At a=true->False) (a:Int) :
 Is Sg c' a↔(Is ws c a ∧ ¬ p a)∨r a:=by
 unfold Is;rw [e,ez,ep];constructor
 ·rintro ⟨x,pe,h1,out,h2,h3⟩
  rcases (dM hk).1 pe with rfl|⟨j,hj,bG,rfl⟩
  ·rw [ey] at h1;rw [h2.dm ou] at h3;rcases (cx a h1).1 h3 with ⟨h4,h5⟩|h4
   ·exact .inl ⟨⟨_,aet hk,h1,o,ho,h4⟩,h5⟩
   ·exact .inr h4
  ·obtain ⟨o2,k1,k2⟩:=Vo j hj bG;refine .inl ⟨⟨_,aet hj,h1,o2,k1,by rw [k2.dm h2];exact h3⟩,fun hp => ?_⟩;exact hd j hj bG a h1 (hx a (.inl hp))
 ·rintro (⟨⟨x,pe,h1,out,h2,h3⟩,h4⟩|h)
  ·obtain ⟨j,hj,rfl⟩:=aeu pe;by_cases bG:j=k
   ·subst bG;rw [h2.dm ho] at h3;exact ⟨y,(dM hk).2 (.inl rfl),by rw [ey];exact h1,o',ou,(cx a h1).2 (.inl ⟨h3,h4⟩)⟩
   ·obtain ⟨o2,k1,k2⟩:=Vo j hj bG;exact ⟨_,(dM hk).2 (.inr ⟨j,hj,bG,rfl⟩),h1,o2,k2,by rw [k1.dm h2];exact h3⟩
  ·have h1:=hx a (.inr h);exact ⟨y,(dM hk).2 (.inl rfl),by rw [ey];exact h1,o',ou,(cx a h1).2 (.inr h)⟩
def Dd {ws:List Int} {size per:Int} {x:Slab} {out:List Int} (hs : 1<=size) (h:bO ws size per x out) (hf:x.ai=per) (hp : 1<=per) {a:Int} (ho:iu size per x.At a=true) : a∈out:=by
 rcases Classical.em (a∈out) with h'|h'
 ·exact h'
 ·exfalso;obtain ⟨k1,k2,k3,k4,k5⟩:=(gD (by omega)).1 h
  have:=AY (per:=per) hs (l:=a::out) (aft.2 ⟨h',k2⟩) (fun b hb=>by
   rcases afx.1 hb with rfl|hb
   ·exact ho
   ·exact k5 b hb)
  rcases this with h|h
  ·simp only [List.length_cons] at h;omega
  ·cases h
def Gf (hM:aA s) (hi:i<s.aa.length) (hk:k<s.aa[i].ab.length) {out:List Int} (ho:bO s.Words s.aa[i].ay s.aa[i].bL s.aa[i].ab[k] out) (hm:a∈out) (q:Src) : ¬ fF s q a:=fun h=>by
 have ni:=ho.2.2 a hm;cases q with
 | obj j =>
   have hj:=h.lt;obtain ⟨x,hx,h1,o,h2,h3⟩:=(hU hj).1 h;obtain ⟨r,hr,rfl⟩:=aeu hx;by_cases e:i=j∧k=r
   ·obtain ⟨rfl,rfl⟩:=e;rw [h2.dm ho] at h3;exact h3 hm
   ·exact v7 hM hi hj hk hr e ni h1
 | pg o =>
   have:=C9 hM hi hk ni
   rw [h.1] at this;cases this
def tM {cs:List aN} {z:Int}:(∀ c∈cs,∀ x∈c.ab,x.At≠z)↔z∉aH cs:=by
 unfold aH;constructor
 ·intro h hm;obtain ⟨c,hc,hx⟩:=aeK.1 hm;obtain ⟨x,hx,e⟩:=aeH.1 hx;exact h c hc x hx e
 ·intro h c hc x hx e;exact h (aeK.2 ⟨c,hc,aeH.2 ⟨x,hx,e⟩⟩)
def Bc {t:ag} (hs:gf s.Heap.Live) (hh:t.Heap.Live=s.Heap.Live) (hz:aH t.aa=aH s.aa) (o a:Int) : fF t (.pg o) a↔fF s (.pg o) a:=by
 rw [j3 (s:=t) (by rw [hh];exact hs),j3 hs,tM,tM,hz,hh]
def xt {cs:List aN} (hi:i<cs.length) {z:Int}:z∈aH (cs.set i c')↔z∈px c' ∨ ∃ j,∃ hj:j<cs.length,j≠i∧z∈px cs[j]:=by
 rw [da,List.mem_flatten];constructor
 ·rintro ⟨L,hL,hz⟩
  obtain ⟨c,hc,rfl⟩:=aeH.1 hL;rcases (dM hi).1 hc with rfl|⟨j,hj,bG,rfl⟩
  ·exact .inl hz
  ·exact .inr ⟨j,hj,bG,hz⟩
 ·rintro (hz|⟨j,hj,bG,hz⟩)
  ·exact ⟨_,aeH.2 ⟨c',(dM hi).2 (.inl rfl),rfl⟩,hz⟩
  ·exact ⟨_,aeH.2 ⟨_,(dM hi).2 (.inr ⟨j,hj,bG,rfl⟩),rfl⟩,hz⟩
def Bd {cs:List aN} (hi:i<cs.length) {z:Int}:z∈aH cs↔z∈px cs[i] ∨ ∃ j,∃ hj:j<cs.length,j≠i∧z∈px cs[j]:=by
 have:=xt hi (c':=cs[i]) (z:=z)
 rwa [afb] at this
def tN {z:Int}:z∈px c ↔ ∃ x∈c.ab,x.At=z:=by unfold px;exact aeH
def De (hM:aA s) {cpu:Nat} (hi:i<s.aa.length) (hk:k<s.aa[i].ab.length) (hf : 0<s.aa[i].ab[k].ai) :
 fb s ⟨s.Words,s.Heap,s.aa.set i (dL s.aa[i] cpu k (s.Words.getD s.aa[i].ab[k].cj.toNat 0))⟩ rH (fun q a=>q = .obj i∧a=s.aa[i].ab[k].cj) ∧ ∀ q,¬ fF s q s.aa[i].ab[k].cj:=by
 have hC:=(hM.each i hi).may;have hl:=bV hC.lay;have Cc : 0<=s.aa[i].bL:=by omega
 obtain ⟨out,ho⟩:=(hC.aB k hk).chain;obtain ⟨k1,k2,k3,k4,k5⟩:=(gD Cc).1 ho;obtain ⟨q,rest,e1,e2,hq,e3⟩:=k1.head (fun e=>by rw [e] at k4;simp at k4;omega)
 have ev:s.Words.getD s.aa[i].ab[k].cj.toNat 0=s.Words[q]:=by
  rw [e1];simp [List.getD,List.getElem?_eq_getElem hq]
 rw [e2] at k2 k3 k4 k5;simp only [List.length_cons] at k3 k4;have Yo:=(aft.1 k2).1;have ni:=k5 s.aa[i].ab[k].cj (by simp);have ou:bO s.Words s.aa[i].ay s.aa[i].bL ⟨s.aa[i].ab[k].At,s.aa[i].ab[k].ai-1,s.Words[q]⟩ rest:=(gD (x:=⟨s.aa[i].ab[k].At,s.aa[i].ab[k].ai-1,s.Words[q]⟩) Cc).2 ⟨e3,(aft.1 k2).2,by omega,by simp only;omega,fun a ha=>k5 a (by simp [ha])⟩
 have AX:px (dL s.aa[i] cpu k (s.Words.getD s.aa[i].ab[k].cj.toNat 0))=px s.aa[i]:=by
  unfold px dL;simp only [fB hk];exact zd hk rfl
 refine ⟨tc hM hi rfl rfl rfl rfl (fun a => ?_) (fun a h=>h.elim) (fun j hj bG a=>Iff.rfl) (Bc (t:=⟨s.Words,s.Heap,s.aa.set i (dL s.aa[i] cpu k (s.Words.getD s.aa[i].ab[k].cj.toNat 0))⟩) hM.heap.live rfl (g9 hi AX)) (fun _ _ _ _=>rfl),fun r h=>Gf hM hi hk ho (by rw [e2];simp) r h⟩;refine JP (c:=s.aa[i]) (c':=dL s.aa[i] cpu k (s.Words.getD s.aa[i].ab[k].cj.toNat 0)) hk (y:=⟨s.aa[i].ab[k].At,s.aa[i].ab[k].ai-1,s.Words[q]⟩) (by simp only [dL,fB hk,ev]) rfl rfl (fun j hj bG => ?_) ho ou rfl (p:=rH) (r:=fun a=>a=s.aa[i].ab[k].cj) (fun a h => ?_) (fun a h => ?_) (fun j hj bG a h1 h2=>v7 hM hi hi hj hk (fun e=>bG e.2) h1 h2) a
 ·obtain ⟨o,h⟩:=(hC.aB j hj).chain;exact ⟨o,h,h⟩
 ·rw [e2];simp only [rH,not_false_iff,and_true,List.mem_cons,not_or];constructor
  ·intro h';by_cases e:a=s.aa[i].ab[k].cj
   ·exact .inr e
   ·exact .inl ⟨e,h'⟩
  ·rintro (h'|rfl)
   ·exact h'.2
   ·exact Yo
 ·rcases h with h|rfl
  ·exact h.elim
  ·exact ni
def grow_step (hM:aA s) (hi:i<s.aa.length) {u:Heap×Int×Int} (hu:cU s.Heap cpu s.aa[i].Order 0 u) (u0:u.2.2=0) (hc:jz s.Words.length (16*u.2.1) s.aa[i].ay s.aa[i].bL) :
 fb s ⟨dH s.Words (16*u.2.1) s.aa[i].ay s.aa[i].bL,u.1,s.aa.set i (ee s.aa[i] u.2.1)⟩ rH xq:=by
 have hC:=(hM.each i hi).may;have hl:=bV hC.lay;obtain ⟨hw,wT,hold,Io⟩:=Ga hM hi hu u0 hc;obtain ⟨hm,Cb,⟨ty,zO,C7⟩,JG⟩:=hu.from_ u0;have lA:=hu.may u0;have hn:(⟨u.2.1,s.aa[i].Order,ty⟩ : Block)∈u.1.Live:=by rw [C7];exact mg.2 (.inl rfl)
 have fc:∀ c∈s.aa,dE s c -> ∀ a,Is (dH s.Words (16*u.2.1) s.aa[i].ay s.aa[i].bL) c a↔Is s.Words c a:=fun c hc TN a=>by
  refine xr (fun x hx => ?_) a;obtain ⟨k,hk,rfl⟩:=aeu hx;obtain ⟨o,h⟩:=(TN.aB k hk).chain;exact ⟨o,h,hold c hc TN _ hx o h⟩
 refine (tc (t:=⟨dH s.Words (16*u.2.1) s.aa[i].ay s.aa[i].bL,u.1,s.aa.set i (ee s.aa[i] u.2.1)⟩) (x:=rH) (y:=fun _=>False) (c':=ee s.aa[i] u.2.1) hM hi rfl rfl rfl Cb (fun a => ?_) (fun a h=>h.elim) (fun j hj bG a=>fc _ (aet hj) (hM.each j hj).may a) (fun o a => ?_) (fun q a h _ => ?_)).congr (fun a=>Iff.rfl) (fun q a=>by simp [xq])
 ·simp only [rH,not_false_iff,and_true,or_false];rw [<- fc _ (aet hi) hC];constructor
  ·rintro ⟨x,hx,h1,o,h2,h3⟩
   have VW:iu s.aa[i].ay s.aa[i].bL x.At a=true:=h1
   have nI:bO (dH s.Words (16*u.2.1) s.aa[i].ay s.aa[i].bL) s.aa[i].ay s.aa[i].bL x o:=h2
   rcases pD.1 hx with rfl|hx
   ·exact absurd (Dd (by omega) nI rfl (by omega) VW) h3
   ·exact ⟨x,hx,VW,o,nI,h3⟩
  ·rintro ⟨x,hx,h1,o,h2,h3⟩
   exact ⟨x,pD.2 (.inr hx),h1,o,h2,h3⟩
 ·rw [j3 (s:=⟨dH s.Words (16*u.2.1) s.aa[i].ay s.aa[i].bL,u.1,s.aa.set i (ee s.aa[i] u.2.1)⟩) lA.live,j3 hm.live,tM,tM]
  have hz:∀ z,z∈aH (s.aa.set i (ee s.aa[i] u.2.1))↔z=u.2.1∨z∈aH s.aa:=fun z=>by
   have e:z∈px (ee s.aa[i] u.2.1)↔z=u.2.1∨z∈px s.aa[i]:=by
    rw [tN,tN];constructor
    ·rintro ⟨x,hx,rfl⟩
     rcases pD.1 hx with rfl|hx
     ·exact .inl rfl
     ·exact .inr ⟨x,hx,rfl⟩
    ·rintro (rfl|⟨x,hx,rfl⟩)
     ·exact ⟨_,pD.2 (.inl rfl),rfl⟩
     ·exact ⟨x,pD.2 (.inr hx),rfl⟩
   rw [xt hi,Bd hi,e,or_assoc]
  rw [hz];constructor
  ·rintro ⟨h1,h2,b,hb,e1,e2⟩
   refine ⟨h1,fun h=>h2 (.inr h),b,?_,e1,e2⟩;have iL:b∈dX s.Heap u.2.1 s.aa[i].Order ty:=by rw [<- C7];exact hb
   rcases mg.1 iL with rfl|iL
   ·exact absurd (.inl e1.symm) h2
   ·exact iL
  ·rintro ⟨h1,h2,b,hb,e1,e2⟩
   refine ⟨h1,fun h => ?_,b,by show b∈u.1.Live;rw [C7];exact mg.2 (.inr hb),e1,e2⟩;rcases h with h|h
   ·exact JG b hb (e1.trans h)
   ·exact h2 h
 ·obtain ⟨b,hb⟩:=kw hM h;have iL:b∈u.1.Live:=by rw [C7];exact mg.2 (.inr hb.mem)
  have h1:=gZ lA iL hn (JG b hb.mem);have h2:=hb.lo;have h3:=hb.hi;have h4:=hb.ext;have h5:=(lA.live.all b iL).2.1;simp only at h1;exact hw a (by omega) (by omega)
def N2 (hM:aA s) (hi:i<s.aa.length) (hk:k<s.aa[i].ab.length) {out:List Int} (ni:iu s.aa[i].ay s.aa[i].bL s.aa[i].ab[k].At a=true) (ho:bO s.Words s.aa[i].ay s.aa[i].bL s.aa[i].ab[k] out) (ov:a∉out) :
 fb s ⟨s.Words.set a.toNat s.aa[i].ab[k].cj,s.Heap,s.aa.set i (iG s.aa[i] k s.aa[i].ab[k] a)⟩ (fun z=>z=a) xq:=by
 have hC:=(hM.each i hi).may;obtain ⟨ha,qs,kf⟩:=JJ hM hi hk ni ho ov;have Cd:s.aa[i].ab[k]∈s.aa[i].ab:=aet hk
 have hA:fF s (.obj i) a:=(hU hi).2 ⟨_,Cd,ni,out,ho,ov⟩
 have AX:px (iG s.aa[i] k s.aa[i].ab[k] a)=px s.aa[i]:=zd hk rfl
 refine (tc (t:=⟨s.Words.set a.toNat s.aa[i].ab[k].cj,s.Heap,s.aa.set i (iG s.aa[i] k s.aa[i].ab[k] a)⟩) (x:=fun z=>z=a) (y:=fun _=>False) (c':=iG s.aa[i] k s.aa[i].ab[k] a) hM hi rfl rfl rfl rfl (fun z => ?_) (fun z h=>by rw [h];exact hA) (fun j hj bG z => ?_) (Bc (t:=⟨s.Words.set a.toNat s.aa[i].ab[k].cj,s.Heap,s.aa.set i (iG s.aa[i] k s.aa[i].ab[k] a)⟩) hM.heap.live rfl (g9 hi AX)) (fun q z h bG => ?_)).congr (fun z=>Iff.rfl) (fun q z=>by simp [xq])
 ·refine JP (c:=s.aa[i]) (c':=iG s.aa[i] k s.aa[i].ab[k] a) hk (y:=⟨s.aa[i].ab[k].At,s.aa[i].ab[k].ai+1,a⟩) rfl rfl rfl (fun j hj bG => ?_) ho kf rfl (p:=fun z=>z=a) (r:=fun _=>False) (fun z h => ?_) (fun z h => ?_) (fun j hj bG z h1 h2=>v7 hM hi hi hj hk (fun e=>bG e.2) h1 h2) z
  ·obtain ⟨o,h⟩:=(hC.aB j hj).chain;refine ⟨o,h,qs _ (aet hi) hC _ (aet hj) (fun e => ?_) o h⟩;have Gc:=ng hC;rw [aeB] at Gc;rcases afJ bG with g|g
   ·have:=Gc j k hj hk g;omega
   ·have:=Gc k j hk hj g;omega
  ·simp only [List.mem_cons,not_or,or_false];exact ⟨fun h=>⟨h.2,h.1⟩,fun h=>⟨h.2,h.1⟩⟩
  ·rcases h with rfl|h
   ·exact ni
   ·exact h.elim
 ·refine xr (fun x hx => ?_) z;obtain ⟨r,hr,rfl⟩:=aeu hx;obtain ⟨o,h⟩:=((hM.each j hj).may.aB r hr).chain;exact ⟨o,h,qs _ (aet hj) (hM.each j hj).may _ hx (oo hM hj hi bG hx Cd) o h⟩
 ·have hz:=fi hM h;rw [afy];have:z≠a:=bG
  omega
def mem_erase_iff {l:List α} {x : α}:x∈l.eraseIdx k ↔ ∃ j,∃ hj:j<l.length,j≠k∧l[j]=x:=afE
def Gg (hM:aA s) (hi:i<s.aa.length) (hk:k<s.aa[i].ab.length) (hf:s.aa[i].ab[k].ai=s.aa[i].bL) (qQ : 0<=cpu∧cpu<s.Heap.bJ) :
 fb s ⟨s.Words,(fq s.Heap cpu s.aa[i].ab[k].At).2,s.aa.set i (eY s.aa[i] k)⟩ rH xq:=by
 have hC:=(hM.each i hi).may;have hl:=bV hC.lay;have hm:=hM.heap;have Cd:s.aa[i].ab[k]∈s.aa[i].ab:=aet hk
 obtain ⟨b0,DZ,Ra,WA⟩:=g7 hM (aet hi) Cd
 have MZ:bM s.Heap.Live s.aa[i].ab[k].At=true:=by
  obtain ⟨q,hq,rfl⟩:=aeu DZ;exact (rm (k7 hm.live) hq Ra).2
 have lA:=tG hm qQ MZ;obtain ⟨p1,p2,p3⟩:=mf (cpu:=cpu) hm MZ;rw [lS (bT.2 hm) qQ MZ]
 have bG:∀ (q:Nat) (hq:q<s.aa[i].ab.length),q≠k->s.aa[i].ab[q].At≠s.aa[i].ab[k].At:=fun q hq SP=>by
  have:=ng hC
  rw [aeB] at this;rcases afJ SP with g|g
  ·have:=this q k hq hk g;omega
  ·have:=this k q hk hq g;omega
 refine (tc (t:=⟨s.Words,gK s.Heap cpu s.aa[i].ab[k].At,s.aa.set i (eY s.aa[i] k)⟩) (x:=rH) (y:=fun _=>False) (c':=eY s.aa[i] k) hM hi rfl rfl rfl p1 (fun z => ?_) (fun z h=>h.elim) (fun j hj bG z=>Iff.rfl) (fun o z => ?_) (fun q z h _=>rfl)).congr (fun z=>Iff.rfl) (fun q z=>by simp [xq])
 ·simp only [rH,not_false_iff,and_true,or_false];constructor
  ·rintro ⟨x,hx,h1,o,h2,h3⟩
   exact ⟨x,ae4 hx,h1,o,h2,h3⟩
  ·rintro ⟨x,hx,h1,o,h2,h3⟩
   obtain ⟨j,hj,rfl⟩:=aeu hx;by_cases e:j=k
   ·subst e;exact absurd (Dd (by omega) h2 hf (by omega) h1) h3
   ·exact ⟨_,mem_erase_iff.2 ⟨j,hj,e,rfl⟩,h1,o,h2,h3⟩
 ·rw [j3 (s:=⟨s.Words,gK s.Heap cpu s.aa[i].ab[k].At,s.aa.set i (eY s.aa[i] k)⟩) lA.live,j3 hm.live,tM,tM]
  have hz:∀ y,y∈aH (s.aa.set i (eY s.aa[i] k))↔y∈aH s.aa∧y≠s.aa[i].ab[k].At:=fun y=>by
   rw [xt hi,Bd hi,tN,tN];constructor
   ·rintro (⟨x,hx,rfl⟩|⟨j,hj,ji,hy⟩)
    ·obtain ⟨q,hq,SP,rfl⟩:=mem_erase_iff.1 hx;exact ⟨.inl ⟨_,aet hq,rfl⟩,bG q hq SP⟩
    ·refine ⟨.inr ⟨j,hj,ji,hy⟩,fun e => ?_⟩;obtain ⟨x,hx,e'⟩:=tN.1 hy;exact oo hM hj hi ji hx Cd (e'.trans e)
   ·rintro ⟨⟨x,hx,rfl⟩|⟨j,hj,ji,hy⟩,Ms⟩
    ·obtain ⟨q,hq,rfl⟩:=aeu hx;exact .inl ⟨_,mem_erase_iff.2 ⟨q,hq,fun e=>by subst e;exact Ms rfl,rfl⟩,rfl⟩
    ·exact .inr ⟨j,hj,ji,hy⟩
  have cx:s.aa[i].ab[k].At∈aH s.aa:=(Bd hi).2 (.inl (tN.2 ⟨_,Cd,rfl⟩))
  rw [hz];constructor
  ·rintro ⟨h1,h2,b,hb,e1,e2⟩
   have iL:b∈s.Heap.Live.eraseIdx (bE s.Heap.Live s.aa[i].ab[k].At):=by rw [<- p2];exact hb
   obtain ⟨aX,aq⟩:=(jB hm.live MZ).1 iL;exact ⟨h1,fun h=>h2 ⟨h,by rw [<- e1];exact aq⟩,b,aX,e1,e2⟩
  ·rintro ⟨h1,h2,b,hb,e1,e2⟩
   refine ⟨h1,fun h=>h2 h.1,b,?_,e1,e2⟩;show b∈(gK s.Heap cpu s.aa[i].ab[k].At).Live
   rw [p2];exact (jB hm.live MZ).2 ⟨hb,fun e=>h2 (by rw [<- e1,e];exact cx)⟩
def x8 (hM:aA s) (hw:cV s a=true) : ∀ i k,oI s a i k=false:=fun i k=>by
 cases e:oI s a i k with
 | false=>rfl
 | true =>
   exfalso;unfold oI at e;split at e
   ·rename_i h1;split at e
    ·rename_i h2;rw [C9 hM h1 h2 e] at hw;cases hw
    ·cases e
   ·cases e
def Iu (hI:dy s) {q:Int} (hw:cV s a=true) (hq:kj s q) {w:ag×Int} (h:jU s q a w) : w.2=0∧dy w.1∧w.1.Heap.bJ=s.Heap.bJ∧im w.1 a (0,0,4)∧cV w.1 a=false:=by
 have hM:=hI.may;have ov:=x8 hM hw;have hF:im s a (0,0,4) := .none (jS hM) ov
 have hO:=Da hF;cases h with
 | bad h=>rw [jS hM] at h;cases h
 | range _ h=>exact absurd hq h
 | no _ _ _ h=>rw [hw] at h;cases h
 | obj _ _ _ ho=>cases ho.dm hO
 | whole =>
   obtain ⟨hf,h0,Yn⟩:=dG hw;have e:a=a / 16*16:=by omega
   have hm:=hM.heap;have hG:=Im hI hq (a:=a / 16) (by rw [<- e];exact hw);obtain ⟨p1,p2,p3⟩:=mf (cpu:=q) hm hf;rw [lS (bT.2 hm) hq hf];refine ⟨rfl,hG,p1,.none (jS hG.may) ov,?_⟩
   have UX:bM (gK s.Heap q (a / 16)).Live (a / 16)=false:=Ad fun k hk kZ=>by
    have kF:(gK s.Heap q (a / 16)).Live[k]∈s.Heap.Live.eraseIdx (bE s.Heap.Live (a / 16)):=by rw [<- p2];exact aet hk
    exact ((jB hm.live hf).1 kF).2 kZ
   unfold cV;have:bM (oN s (gK s.Heap q (a / 16))).Heap.Live (a / 16)=false:=UX
   rw [this];simp
variable {n:ByteArray} {u:ag×Int} {q:Src}
def pR.step {u:ag×Int×Int} (hI:dy s) (h:pR s n cpu u) (h0:u.2.2=0) : ∃ i:Nat,idxOf (dr n) s.aa=(i:Int)∧fb s u.1 rH (fun q a=>q = .obj i∧a=u.2.1) ∧ ∀ q,¬ fF s q u.2.1:=by
 have hM:=hI.may;cases h with
 | ask h=>exact absurd h0 h
 | @EO i m ha e hi hm =>
   obtain ⟨_,_,qQ⟩:=lc ha;have hC:=(hM.each i hi).may;have hl:=bV hC.lay;have qA:cpu.toNat<s.aa[i].ak.length:=by have:=hC.aV;omega
   cases hm with
   | room _ _ he=>exact absurd h0 he
   | chain=>simp [mv] at h0
   | @u7 k hp =>
     obtain ⟨hk,hf,hA⟩:=JI qA hp;obtain ⟨h1,h2⟩:=De (cpu:=cpu.toNat) hM hi hk hf;refine ⟨i,e,?_,?_⟩
     ·simp only [mv,bz,nz,fB hk];exact h1
     ·simp only [mv,fB hk];exact h2
   | @new v hp hv he KC =>
     have hG:=Gb hM hi hv he KC;have h1:=grow_step hM hi hv he KC;have kb:=pA s.aa[i] v.2.1
     have hk:fe s.aa[i] v.2.1<(ee s.aa[i] v.2.1).ab.length:=by
      simp only [ee];rw [di _ kb];omega
     have NY:(ee s.aa[i] v.2.1).ab[fe s.aa[i] v.2.1]=⟨v.2.1,s.aa[i].bL,16*v.2.1⟩:=by
      have:=lR kb (x:=(⟨v.2.1,s.aa[i].bL,16*v.2.1⟩ : Slab))
      obtain ⟨_,e⟩:=aeQ.1 this;exact e
     have key:∀ (t:ag) (ht:aA t) (NZ:i<t.aa.length) (c:aN) (N0:t.aa[i]=c) (ec:c=ee s.aa[i] v.2.1) (yV:fe s.aa[i] v.2.1<c.ab.length),fb t ⟨t.Words,t.Heap,t.aa.set i (dL c cpu.toNat (fe s.aa[i] v.2.1) (t.Words.getD c.ab[fe s.aa[i] v.2.1].cj.toNat 0))⟩ rH (fun q a=>q = .obj i∧a=c.ab[fe s.aa[i] v.2.1].cj) ∧ ∀ q,¬ fF t q c.ab[fe s.aa[i] v.2.1].cj:=fun t ht NZ c N0 ec yV=>by
      subst N0;have e2:∀ (d:aN) (hd:d=ee s.aa[i] v.2.1) (hq:fe s.aa[i] v.2.1<d.ab.length),0<d.ab[fe s.aa[i] v.2.1].ai:=fun d hd hq=>by subst hd;rw [NY];simp only;omega
      exact De ht NZ yV (e2 _ ec yV)
     obtain ⟨h2,h3⟩:=key _ hG (by simp only [List.length_set];exact hi) _ (by simp) rfl hk;simp only [List.set_set] at h2;refine ⟨i,e,?_,fun q h => ?_⟩
     ·simp only [mv,bz,nz,fB hk];exact (h1.trans h2).congr (fun a=>by simp [rH]) (fun q a=>by simp [rH,xq])
     ·simp only [mv,fB hk] at h;exact h3 q ((h1.aw q _).2 (.inl ⟨h,fun h=>h⟩))
def pP.step (hI:dy s) (h:pP s n cpu a u) (h0:u.2=0) : fb s u.1 (fun z=>z=a) xq ∧ ∃ i:Nat,idxOf (dr n) s.aa=(i:Int)∧fF s (.obj i) a:=by
 have hM:=hI.may;cases h with
 | ask h=>exact absurd h0 h
 | none=>simp at h0
 | @put i k h hF e hi hk =>
   obtain ⟨_,_,qQ⟩:=lc h;obtain ⟨TH,out,hC,ov⟩:=Gd hF;have ni:=TH.obj;rw [qw hi hk] at ni;have hP:=JK hM hi hk ni hC ov;have h1:=N2 hM hi hk ni hC ov;refine ⟨?_,i,e,(hU hi).2 ⟨_,aet hk,ni,out,hC,ov⟩⟩;unfold vN;split
   ·rename_i hc;rw [ae9] at hc;have SQ:=hc.1;unfold oJ at SQ;simp only [Bool.and_eq_true,Bool.not_eq_true',decide_eq_false_iff_not,decide_eq_true_eq] at SQ
    have key:∀ (t:ag) (ht:aA t) (NZ:i<t.aa.length) (c1:aN) (N0:t.aa[i]=c1) (ec:c1=iG s.aa[i] k s.aa[i].ab[k] a) (eh:t.Heap=s.Heap),fb t ⟨t.Words,(fq t.Heap cpu s.aa[i].ab[k].At).2,t.aa.set i (eY c1 k)⟩ rH xq:=fun t ht NZ c1 N0 ec eh=>by
     subst N0;have D9:k<t.aa[i].ab.length:=by rw [ec];simp only [iG,List.length_set];exact hk
     have es:t.aa[i].ab[k]=⟨s.aa[i].ab[k].At,s.aa[i].ab[k].ai+1,a⟩:=by
      have:∀ (d:aN) (hd:d=iG s.aa[i] k s.aa[i].ab[k] a) (hq:k<d.ab.length),d.ab[k]=⟨s.aa[i].ab[k].At,s.aa[i].ab[k].ai+1,a⟩:=fun d hd hq=>by subst hd;simp [iG]
      exact this _ ec D9
     have:=Gg ht NZ D9 (by rw [es,ec];exact SQ.1) (cpu:=cpu) (by rw [eh];exact qQ)
     rw [es] at this;exact this
    have h2:=key _ hP (by simp only [List.length_set];exact hi) _ (by simp) rfl rfl;simp only [List.set_set] at h2;exact (h1.trans h2).congr (fun z=>by simp [rH]) (fun q z=>by simp [rH,xq])
   ·exact h1
def Df {n:Int} (h:n<=256) : n<=16*pw (Cj n):=by
 have Yk:pw 0=1:=by decide
 have Yl:pw 1=2:=by decide
 have Ym:pw 2=4:=by decide
 have pw3:pw 3=8:=by decide
 have pw4:pw 4=16:=by decide
 unfold Cj;repeat' split
 all_goals omega
def fv.step {n:Int} {u:ag×Int×Int} (hI:dy s) (h:fv s cpu n u) (h0:u.2.2=0) : ∃ q,fb s u.1 rH (fun r a=>r=q∧a=u.2.1)∧(∀ r,¬ fF s r u.2.1)∧dy u.1∧1<=n ∧
 ((∃ i:Nat,q = .obj i∧n<=32∧idxOf (dr (jx n)) s.aa=(i:Int))∨(q = .pg (Cj n)∧n<=256)):=by
 cases h with
 | bad|range|size=>simp at h0
 | obj _ hn ho =>
   obtain ⟨i,e,h1,h2⟩:=ho.step hI h0;exact ⟨.obj i,h1,h2,ho.JM hI h0,hn.1,.inl ⟨i,rfl,hn.2,e⟩⟩
 | fault _ _ _ h=>exact absurd h0 h
 | bD _ hn ha he=>exact ⟨_,Bb hI.may ha he,v8 hI.may ha he,Ev hI ha he,by omega,.inr ⟨rfl,hn.2⟩⟩
def jU.step (hI:dy s) (h:jU s cpu a u) (h0:u.2=0) : fb s u.1 (fun z=>z=a) xq∧dy u.1:=by
 cases h with
 | bad|range|no=>simp at h0
 | obj _ _ _ _ hp=>exact ⟨(hp.step hI h0).1,hp.jQ hI h0⟩
 | whole _ hc _ hw =>
   obtain ⟨hf,h0,hm⟩:=dG hw;have e:a / 16*16=a:=by omega
   rw [lS (bT.2 hI.may.heap) hc hf];have nl:cV s (a / 16*16)=true:=by rw [e];exact hw
   exact ⟨(Dc hI.may hc nl).congr (fun z=>by rw [e]) fun _ _=>Iff.rfl,Im hI hc nl⟩
def N3 (hI:dy s) (hc:kj s cpu) (hA:fF s q a) (hm:∀ i (hi:i<s.aa.length),q = .obj i->nF s.aa[i]=true) (h:jU s cpu a u) : u.2=0:=by
 cases q with
 | obj i =>
   have hi:=hA.lt;obtain ⟨k,hk⟩:=(ze hi).1 ((hU hi).1 hA);exact (Ir hI hk (hm i hi rfl) hc h).1
 | pg o=>exact (Iu hI hA.1 hc h).1
variable {f:Int}
def Iv (hM:aA s) (hA:fF s q a) (hw:∀ b:Int,0<=b -> ¬ (a<=b∧b<a+jC s q)->ws[b.toNat]?=s.Words[b.toNat]?) (hi:i<s.aa.length) (hk:k<s.aa[i].ab.length) {out:List Int} (ho:bO s.Words s.aa[i].ay s.aa[i].bL s.aa[i].ab[k] out) : bO ws s.aa[i].ay s.aa[i].bL s.aa[i].ab[k] out:=by
 have hC:=(hM.each i hi).may;have hl:=bV hC.lay;obtain ⟨k1,k2,k3,k4,k5⟩:=(gD (by omega)).1 ho;refine (gD (by omega)).2 ⟨k1.congr fun b hb h0=>hw b h0 fun cx => ?_,k2,k3,k4,k5⟩;have ni:=k5 b hb;obtain ⟨r1,r2⟩:=mN hC.lay ni;obtain ⟨d,hd⟩:=kw hM hA;obtain ⟨b0,DZ,e1,e2⟩:=g7 hM (aet hi) (aet hk);have d1:=hd.lo;have d2:=hd.hi;by_cases e:d.At=s.aa[i].ab[k].At
 ·rcases hd.what with ⟨j,hj,rfl,f1,f2,x,hx,f3⟩|⟨_,_,f2⟩
  ·obtain rfl:=tJ hM hj hi hx (aet hk) (f3.trans e);rw [f1] at cx;unfold iu at ni;simp only [Bool.and_eq_true,decide_eq_true_eq] at ni;obtain ⟨⟨g1,g2⟩,g3⟩:=ni;rw [e] at f2;rcases agD a b with h|h
   ·have:=A9 (by omega) f2 g3 (by omega)
    omega
   ·have Qx:a=b:=by omega
    subst Qx;exact Gf hM hi hk ho hb _ hA
  ·exact f2 _ (aet hi) _ (aet hk) e.symm
 ·have:=gZ hM.heap hd.mem DZ (by rw [e1];exact e)
  rw [e1,e2] at this;omega
def Be (hM:aA s) (hA:fF s q a) (hl:ws.length=4096) (hw:∀ b:Int,0<=b -> ¬ (a<=b∧b<a+jC s q)->ws[b.toNat]?=s.Words[b.toNat]?) :
 aA ⟨ws,s.Heap,s.aa⟩∧fb s ⟨ws,s.Heap,s.aa⟩ (fun z=>z=a) (fun r z=>r=q∧z=a):=by
 have KC:=fun {i k:Nat} (hi:i<s.aa.length) (hk:k<s.aa[i].ab.length) {out:List Int} (ho:bO s.Words s.aa[i].ay s.aa[i].bL s.aa[i].ab[k] out)=>Iv hM hA hw hi hk ho
 refine ⟨⟨hl,hM.heap,hM.most,fun i hi => ?_⟩,fun r z => ?_,fun r z h bG => ?_,rfl,rfl⟩
 ·have hC:=hM.each i hi;refine ⟨⟨hC.may.lay,hC.may.names,hC.may.aV,fun k hk => ?_,hC.may.cX⟩,hC.size,hC.names,hC.aB⟩;have hS:=hC.may.aB k hk;obtain ⟨out,ho⟩:=hS.chain;exact ⟨hS.live,hS.next,out,KC hi hk ho⟩
 ·have key:fF ⟨ws,s.Heap,s.aa⟩ r z↔fF s r z:=by
   cases r with
   | pg o=>exact Iff.rfl
   | obj j =>
     by_cases hj:j<s.aa.length
     ·rw [hU (s:=⟨ws,s.Heap,s.aa⟩) hj,hU hj];refine xr (fun x hx => ?_) z;obtain ⟨k,hk,rfl⟩:=aeu hx;obtain ⟨o,h⟩:=((hM.each j hj).may.aB k hk).chain;exact ⟨o,h,KC hj hk h⟩
     ·exact ⟨fun h=>absurd h.lt hj,fun h=>absurd h.lt hj⟩
  rw [key];constructor
  ·intro h;by_cases e:z=a
   ·subst e;exact .inr ⟨tK hM h hA,rfl⟩
   ·exact .inl ⟨h,e⟩
  ·rintro (h|⟨rfl,rfl⟩)
   ·exact h.1
   ·exact hA
 ·have h1:=fi hM h;have h2:=Ba hM h hA bG;have h3:=fi hM hA;exact hw z (by omega) (by omega)
def Bf (hM:aA s) (hA:fF s q a) (hm:∀ i (hi:i<s.aa.length),q = .obj i->nF s.aa[i]=true) {z:Int×Int} (h:jT s a z) : z=(jC s q,0):=by
 cases q with
 | obj i =>
   have hi:=hA.lt;obtain ⟨k,hk⟩:=(ze hi).1 ((hU hi).1 hA);have hO:=qD.yes (hk.find hM) hi (hm i hi rfl);have:=h.dm (.obj (jS hM) hi hO)
   rw [this];simp [jC,pC,hi]
 | pg o =>
   have hw:=hA.1;have hF:im s a (0,0,4) := .none (jS hM) (x8 hM hw)
   have:=h.dm (.whole (jS hM) (Da hF) hw)
   rw [this];unfold pT;rw [if_pos hw,hA.2]
   rfl
def Qa {l:List Int} {t k:Int} (ht : 0<=t) (hf : 0<=f) (hk : 0<=k) (h1:t+k<=l.length) (h2:f+k<=l.length) : Ck l t f k=s5 l t.toNat f.toNat k.toNat:=by
 unfold Ck;rw [if_pos ⟨ht,hf,hk,h1,h2⟩]
def nW.step {n:Int} {u:ag×Int×Int} (hI:dy s) (hA:fF s q a) (hm:∀ i (hi:i<s.aa.length),q = .obj i->nF s.aa[i]=true)
 (hz:∀ i:Nat,n<=32->idxOf (dr (jx n)) s.aa=(i:Int)->n<=pC s i) (h:nW s cpu a n u) (h0:u.2.2=0) :
 (u=(s,a,0)∧n<=jC s q) ∨ ∃ r,fb s u.1 (fun z=>z=a) (fun p z=>p=r∧z=u.2.1)∧dy u.1∧n<=jC s r∧1<=n∧(∀ p,¬ fF s p u.2.1)∧u.1.Words[u.2.1.toNat]?=s.Words[a.toNat]? ∧
   ((∃ i:Nat,r = .obj i∧n<=32∧idxOf (dr (jx n)) s.aa=(i:Int))∨(r = .pg (Cj n)∧n<=256)):=by
 have hM:=hI.may;have hra:=fi hM hA;cases h with
 | size _ he=>exact absurd h0 he
 | range=>simp at h0
 | fault _ _ _ _ _ he=>exact absurd h0 he
 | free _ _ _ _ _ _ _ he=>exact absurd h0 he
 | @stay z h he hc hn =>
   rw [Bf hM hA hm h] at hn;exact .inl ⟨rfl,hn⟩
 | @ok z v w h he hc hn hv EM hu SK =>
   have ez:=Bf hM hA hm h;subst ez;right;obtain ⟨r,h1,h2,Z1,J1,mn⟩:=hv.step hI EM;have WB:=Z1.may;obtain ⟨to,eto⟩ : ∃ to,v.2.1=to:=⟨_,rfl⟩;simp only at hn hu ⊢;rw [eto] at h1 h2 hu ⊢;have EJ:fF v.1 r to:=(h1.aw r to).2 (.inr ⟨rfl,rfl⟩)
   have haq:fF v.1 q a:=(h1.aw q a).2 (.inl ⟨hA,fun h=>h⟩)
   have bG:a≠to:=fun e=>h2 q (e ▸ hA)
   have Yo:n<=jC s r:=by
    rcases mn with ⟨i,rfl,Yp,hi⟩|⟨rfl,Qu⟩
    ·exact hz i Yp hi
    ·exact Df Qu
   have er:=h1.ext r;have eq':=h1.ext q;have hrt:=fi WB EJ;have hap:=Ba WB haq EJ bG;have hlen:=WB.words;have ri:=Z1.cS.small;have WC:Ck v.1.Words to a (jC s q)=s5 v.1.Words to.toNat a.toNat (jC s q).toNat:=Qa (by omega) (by omega) (by omega) (by omega) (by omega)
   have Uk:=xn (l:=v.1.Words) (t:=to.toNat) (f:=a.toNat) (k:=(jC s q).toNat) (by omega) (by omega);have ig:=Lk (l:=v.1.Words) (t:=to.toNat) (f:=a.toNat) (k:=(jC s q).toNat) (by omega) (by omega)
   obtain ⟨Z2,ht⟩:=Be WB EJ (ws:=Ck v.1.Words to a (jC s q)) (by rw [WC];omega) (fun b hb TM=>by
    rw [WC,ig];rcases ae5 b.toNat to.toNat with g|g
    ·rw [if_pos g]
    ·rw [if_neg (by omega),if_neg (by omega)])
   have Rb:dy (F7 v.1 to a (jC s q)):=⟨gz Z2 ⟨by simp only [F7];rw [WC,Uk];exact ri.words,ri.heap,ri.bo,ri.each⟩,Z2⟩
   obtain ⟨h3,hI3⟩:=hu.step Rb SK;have SS:=(h1.trans ht).trans h3;have ab4:fF w.1 r to:=(SS.aw r to).2 (.inr (.inl ⟨.inr ⟨rfl,rfl⟩,fun e=>bG e.symm⟩)) |> fun h=>h
   refine ⟨r,⟨fun p z => ?_,fun p z h hx => ?_,SS.shape,SS.cpus⟩,hI3,Yo,J1,h2,?_,mn⟩
   ·rw [SS.aw];simp only [rH,xq,false_or,or_false];constructor
    ·rintro (⟨h,hx⟩|⟨⟨⟨h,hx⟩|h,pe⟩⟩)
     ·exact .inl ⟨h,fun e=>hx (.inr e)⟩
     ·exact absurd h.2 hx
     ·exact .inr h
    ·rintro (⟨h,hx⟩|⟨rfl,rfl⟩)
     ·refine .inl ⟨h,fun e => ?_⟩;rcases e with e|e
      ·subst e;exact h2 p h
      ·exact hx e
     ·exact .inr ⟨.inr ⟨rfl,rfl⟩,fun e=>bG e.symm⟩
   ·refine SS.words p z h fun e => ?_
    rcases e with (e|e)|e
    ·exact e
    ·subst e;exact h2 p h
    ·exact hx e
   ·have e1:=h3.words r to ((ht.aw r to).2 (.inr ⟨rfl,rfl⟩)) (fun e=>bG e.symm);rw [e1];show (Ck v.1.Words to a (jC s q))[to.toNat]?=_
    rw [WC,ig,if_neg (by omega),if_pos (by omega),agC,agf];exact h1.words q a hA fun h=>h
def Iw (hM:aA s) (hi:i<s.aa.length) : aA (bz s i (s.Heap,jL s.aa[i]))∧fb s (bz s i (s.Heap,jL s.aa[i])) rH xq:=by
 have hC:=(hM.each i hi).may;have AX:px (jL s.aa[i])=px s.aa[i]:=rfl
 refine ⟨ta hM hi hM.words hM.heap rfl rfl rfl ?_ (fun c hc Vl => ?_) (by simp only [bz];rw [g9 hi AX];exact jt.1 fun j hj=>(hM.each j hj).aB),?_⟩
 ·refine ⟨hC.lay,hC.names,by simp only [jL,List.length_replicate];exact hC.aV,fun k hk=>⟨(hC.aB k hk).live,(hC.aB k hk).next,(hC.aB k hk).chain⟩,fun k hk => ?_⟩;left;simp [jL]
 ·obtain ⟨j,hj,_,rfl⟩:=Vl;exact (hM.each j hj).may.same rfl rfl
 ·refine (tc (t:=bz s i (s.Heap,jL s.aa[i])) (x:=rH) (y:=fun _=>False) (c':=jL s.aa[i]) hM hi rfl rfl rfl rfl (fun a => ?_) (fun a h=>h.elim) (fun j hj bG a=>Iff.rfl) (Bc (t:=bz s i (s.Heap,jL s.aa[i])) hM.heap.live rfl (g9 hi AX)) (fun _ _ _ _=>rfl)).congr (fun a=>Iff.rfl) (fun q a=>by simp [xq]);simp only [rH,not_false_iff,and_true,or_false];exact Iff.rfl
def nY:∀ (k:Nat) (h:Heap) (c:aN),(∀ j x,k<=j->c.ab[j]?=some x->x.ai≠c.bL) -> ∀ x∈(dU k (h,c)).2.ab,x.ai≠c.bL
 | 0,h,c,hk,x,hx=>by
   obtain ⟨j,hj,rfl⟩:=aeu hx;exact hk j _ (afc _) (aez hj)
 | k+1,h,c,hk,x,hx=>by
   by_cases hl:k<c.ab.length
   ·by_cases e:c.ab[k].ai=c.bL
    ·rw [sS hl e] at hx;refine nY k _ (eY c k) (fun j y hj hy => ?_) x hx;simp only [eY] at hy ⊢;rw [List.getElem?_eraseIdx_of_ge hj] at hy;exact hk (j+1) y (by omega) hy
    ·rw [rv hl e] at hx;refine nY k _ c (fun j y hj hy => ?_) x hx;by_cases e2:j=k
     ·subst e2;rw [aez hl] at hy;injection hy with hy
      rw [<- hy];exact e
     ·exact hk j y (by omega) hy
   ·have e:dU (k+1) (h,c)=dU k (h,c):=by simp only [dU,hl,dite_false]
    rw [e] at hx;refine nY k _ c (fun j y hj hy => ?_) x hx;rw [aff (by omega)] at hy;cases hy
def nZ:∀ (k:Nat) {s:ag} {i:Nat} {c:aN},aA s->s.aa[i]?=some c->(∀ x∈c.ak,x = -1)->aA (bz s i (dU k (s.Heap,c)))∧fb s (bz s i (dU k (s.Heap,c))) rH xq
 | 0,s,i,c,hM,hc,ha=>by
   obtain ⟨hi,rfl⟩:=aeQ.1 hc;have e:bz s i (dU 0 (s.Heap,s.aa[i]))=s:=by simp only [dU,bz,List.set_getElem_self]
   rw [e];exact ⟨hM,.refl s⟩
 | k+1,s,i,c,hM,hc,ha=>by
   obtain ⟨hi,rfl⟩:=aeQ.1 hc;by_cases hl:k<s.aa[i].ab.length
   ·by_cases e:s.aa[i].ab[k].ai=s.aa[i].bL
    ·have qQ:(0:Int)<=0∧0<s.Heap.bJ:=by have:=hM.heap.cpus;omega
     have hA:s.aa[i].ab[k].At∉s.aa[i].ak:=fun h=>by
      have h1:=ha _ h;obtain ⟨b,hb,e1⟩:=om hM (aet hi) (aet hl);have:=(hM.heap.live.all b hb).2.1
      omega
     have h1:=(JL hM hi hl hA (cpu:=0) qQ).2;have h2:=Gg hM hi hl e (cpu:=0) qQ;rw [sS hl e];have h3:=nZ k (s:=⟨s.Words,(fq s.Heap 0 s.aa[i].ab[k].At).2,s.aa.set i (eY s.aa[i] k)⟩) (i:=i) (c:=eY s.aa[i] k) h1 (afA hi) ha;simp only [bz,List.set_set] at h3 ⊢;exact ⟨h3.1,(h2.trans h3.2).congr (fun a=>by simp [rH]) (fun q a=>by simp [rH,xq])⟩
    ·rw [rv hl e];exact nZ k hM hc ha
   ·have e:dU (k+1) (s.Heap,s.aa[i])=dU k (s.Heap,s.aa[i]):=by simp only [dU,hl,dite_false]
    rw [e];exact nZ k hM hc ha
def pE (hI:dy s) (h0:(ie s n).2=0) : fb s (ie s n).1 rH xq∧dy (ie s n).1 ∧ ∃ i:Nat,∃ hi:i<s.aa.length,idxOf (dr n) s.aa=(i:Int) ∧ ∀ c,(ie s n).1.aa[i]?=some c -> ∀ x∈c.ab,x.ai≠s.aa[i].bL:=by
 have hM:=hI.may;by_cases h:gV s n 0=0
 ·obtain ⟨_,ht,_⟩:=lc h;obtain ⟨i,hi,_,_,oe⟩:=iF ht;rw [rE h hi oe];obtain ⟨h1,h2⟩:=Iw hM hi;have h3:=nZ s.aa[i].ab.length (s:=bz s i (s.Heap,jL s.aa[i])) (i:=i) (c:=jL s.aa[i]) h1 (by simp only [bz];exact afA hi) (fun x hx=>by simp only [jL] at hx;exact List.eq_of_mem_replicate hx);have mm:=oH s.aa[i].ab.length (p:=(s.Heap,jL s.aa[i])) hI.cS.mm (hI.cS.PJ hi).idle;have ri:=sU hI.cS.small i mm.1 mm.2;simp only [bz,List.set_set] at h3 ri ⊢;refine ⟨(h2.trans h3.2).congr (fun a=>by simp [rH]) (fun q a=>by simp [rH,xq]),⟨gz h3.1 ri,h3.1⟩,i,hi,oe,fun c hc x hx => ?_⟩;rw [afA hi] at hc;injection hc with hc
  subst hc;exact nY s.aa[i].ab.length s.Heap (jL s.aa[i]) (fun j y hj hy=>by simp only [jL] at hy;rw [aff hj] at hy;cases hy) x hx
 ·rw [AU h] at h0;exact absurd h0 h
def Qb (hM:aA s) {cpu:Nat} (hi:i<s.aa.length) (qA:cpu<s.aa[i].ak.length) {m:Option Ns×Int} (hm:r9 s s.aa[i] cpu m) : pR s (qE s.aa[i]) cpu (mv s i cpu m)∧idxOf (dr (qE s.aa[i])) s.aa=(i:Int):=by
 have hC:=(hM.each i hi).may;have h3:=hC.names;have hn:qE s.aa[i]∈s.aa[i].Names:=by simp [qE,h3]
 have Ll:=uQ hM hi hn;refine ⟨.EO (Au (jS hM) ?_ ?_) Ll hi hm,Ll⟩
 ·rw [aeG];exact ⟨_,aet hi,fA.2 hn⟩
 ·have:=hC.aV
  omega
def oL.step {cpu:Nat} {l:List Int} {u:ag×List Int×Int} (h:oL i cpu k s l u) : dy s->(∀ hi:i<s.aa.length,cpu<s.aa[i].ak.length)->u.2.2=0 ->
 ∃ m:List Int,u.2.1=l++m∧m.Nodup∧m.length=k∧(∀ a∈m,∀ q,¬ fF s q a)∧fb s u.1 rH (fun q a=>q = .obj i∧a∈m)∧dy u.1:=by
 induction h with
 | @done s l=>exact fun hI _ _=>⟨[],by simp,by simp,rfl,by simp,(fb.refl s).congr (fun a=>Iff.rfl) (fun q a=>by simp [xq]),hI⟩
 | bad hi hm h =>
   intro hI hc h0;exfalso;cases hm with
   | u7|new=>cases h
   | room _ _ he=>exact he h0
   | chain=>cases h0
 | @more k s l M u hi hm h ih =>
   intro hI hc h0;obtain ⟨hO,Ll⟩:=Qb hI.may hi (hc hi) hm;obtain ⟨j,ej,h1,h2⟩:=hO.step hI rfl;have hK:=hO.JM hI rfl;obtain rfl:i=j:=by omega
   have eg:mv s i cpu (some M,0)=(uM s i cpu M,(iH M.c M.k).cj,0):=rfl
   rw [eg] at h1 h2 hK;simp only at h1 h2 hK
   have iq:∀ mo:i<(uM s i cpu M).aa.length,cpu<(uM s i cpu M).aa[i].ak.length:=fun mo=>by
    have e:((uM s i cpu M).aa[i].ak.length:Int)=(uM s i cpu M).Heap.bJ:=(hK.may.each i mo).may.aV
    have e2:=(hI.may.each i hi).may.aV;have:=hc hi
    have e3:=h1.cpus;omega
   obtain ⟨m,e1,e2,e3,e4,e5,e6⟩:=ih hK iq h0;refine ⟨(iH M.c M.k).cj::m,by rw [e1];simp,aft.2 ⟨fun hm=>e4 _ hm (.obj i) ((h1.aw _ _).2 (.inr ⟨rfl,rfl⟩)),e2⟩,by simp [e3],fun a ha q hq => ?_,?_,e6⟩
   ·rcases afx.1 ha with rfl|ha
    ·exact h2 q hq
    ·exact e4 a ha q ((h1.aw q a).2 (.inl ⟨hq,fun h=>h⟩))
   ·refine (h1.trans e5).congr (fun a=>by simp [rH]) (fun q a => ?_);simp only [rH,not_false_iff,and_true,List.mem_cons];constructor
    ·rintro (⟨h,h'⟩|⟨h,h'⟩)
     ·exact ⟨h,.inl h'⟩
     ·exact ⟨h,.inr h'⟩
    ·rintro ⟨h,h'|h'⟩
     ·exact .inl ⟨h,h'⟩
     ·exact .inr ⟨h,h'⟩
def oM.step {many:Int} {u:ag×List Int×Int} (hI:dy s) (h:oM s n cpu many u) (h0:u.2.2=0) :
 ∃ i:Nat,idxOf (dr n) s.aa=(i:Int)∧u.2.1.Nodup∧(u.2.1.length:Int)=many∧(∀ a∈u.2.1,∀ q,¬ fF s q a)∧fb s u.1 rH (fun q a=>q = .obj i∧a∈u.2.1)∧dy u.1:=by
 cases h with
 | ask h=>exact absurd h0 h
 | range=>simp at h0
 | @EO i _ h hm e hr =>
   obtain ⟨_,_,qQ⟩:=lc h;obtain ⟨m,e1,e2,e3,e4,e5,e6⟩:=hr.step hI (fun hi=>by have:=(hI.may.each i hi).may.aV;omega) h0;rw [afn] at e1;rw [e1];exact ⟨i,e,e2,by omega,e4,e5,e6⟩
def SU (l:List (List ByteArray×Int)) : Prop := ∀ j,j<6 -> ∃ p∈l,nR p.1 (eJ (kP j))=true∧p.2=kP j
def mO (s:ag) : Prop:=SU (j9 s)
def mO.j9 {t:ag} (h:mO s) (e:j9 t=j9 s) : mO t:=by unfold mO;rw [e];exact h
def mO.at_ (hM:aA s) (h:mO s) (hj:j<6) : ∃ i:Nat,idxOf (dr (eJ (kP j))) s.aa=(i:Int)∧pC s i=kP j:=by
 obtain ⟨p,hp,h1,h2⟩:=h j hj;obtain ⟨c,hc,rfl⟩:=aeH.1 hp;obtain ⟨i,hi,rfl⟩:=aeu hc;exact ⟨i,uQ hM hi (fA.1 h1),by simp only [pC,List.getElem?_eq_getElem hi,Option.map_some,Option.getD_some];exact h2⟩
def JQ:kP 0=1∧kP 1=2∧kP 2=4∧kP 3=8∧kP 4=16∧kP 5=32:=by decide
def Ix (hM:aA s) (h:mO s) {n:Int} (hn:n<=32) : ∃ i:Nat,idxOf (dr (jx n)) s.aa=(i:Int)∧n<=pC s i:=by
 have key:∃ j,j<6∧jx n=eJ (kP j)∧n<=kP j:=by
  obtain ⟨e0,e1,e2,e3,e4,e5⟩:=JQ;unfold jx;split
  ·exact ⟨0,by omega,by rw [e0],by omega⟩
  split
  ·exact ⟨1,by omega,by rw [e1],by omega⟩
  split
  ·exact ⟨2,by omega,by rw [e2],by omega⟩
  split
  ·exact ⟨3,by omega,by rw [e3],by omega⟩
  split
  ·exact ⟨4,by omega,by rw [e4],by omega⟩
  ·exact ⟨5,by omega,by rw [e5],by omega⟩
 obtain ⟨j,hj,e,hle⟩:=key;obtain ⟨i,h1,h2⟩:=h.at_ hM hj;exact ⟨i,by rw [e];exact h1,by omega⟩
def Dg {u:Int×Int×Int} (h:im s a u) (h0:u.2.2=0) : ∃ i:Nat,∃ hi:i<s.aa.length,u.1=(i:Int)∧fF s (.obj i) a:=by
 cases h with
 | bad|none|free=>simp at h0
 | @hit i k out h hF hC hm =>
   have ho:=hF.obj;rw [qw hF.hi hF.hk] at ho;exact ⟨i,hF.hi,rfl,(hU hF.hi).2 ⟨_,aet hF.hk,ho,out,hC,hm⟩⟩
def Ln (h:qD s a (some i)) : ∃ hi:i<s.aa.length,fF s (.obj i) a∧nF s.aa[i]=true:=by
 cases h with
 | yes hF hi hm =>
   obtain ⟨j,hj,e,hL⟩:=Dg hF rfl;obtain rfl:i=j:=by simp only at e;omega
   exact ⟨hi,hL,hm⟩
def Iy {z:Int×Int} (hM:aA s) (h:jT s a z) (h0:z.2=0) : ∃ q,fF s q a∧(∀ i (hi:i<s.aa.length),q = .obj i->nF s.aa[i]=true):=by
 cases h with
 | bad=>simp at h0
 | no=>simp at h0
 | obj _ hi ho =>
   obtain ⟨_,h1,h2⟩:=Ln ho;exact ⟨_,h1,fun j hj e=>by injection e with e;subst e;exact h2⟩
 | whole _ _ hw=>exact ⟨.pg _,⟨hw,rfl⟩,fun j hj e=>by cases e⟩
def N4 {b:Int} (h : 0<=a) (hb : 0<b) : a % b<=a:=by
 have h1:=afM a b;have h2:=af5 (show 0<=b by omega) (agG h (show 0<=b by omega));omega
def Bg (hc:c∈s.aa) : ∃ i,∃ hi:i<s.aa.length,s.aa[i]=c:=aeu hc
def Gh (hM:aA s) (h:gu s a true) : ∃ q b,fF s q b∧b<=a∧a<b+jC s q:=by
 generalize e:true=t at h
 cases h with
 | out=>cases e
 | @pQ c x u hr hc hx cx hF =>
   have h0:u.2.2=0:=of_decide_eq_true e.symm
   obtain ⟨i,hi,_,hL⟩:=Dg hF h0;obtain ⟨j,hj,rfl⟩:=Bg hc;have hl:=bV (hM.each j hj).may.lay;unfold lp at cx;have m1:=agK (a-x.At*16) (show s.aa[j].ay≠0 by omega);have m2:=agp (a-x.At*16) (show 0<s.aa[j].ay by omega);have m3:=N4 (a:=a-x.At*16) (b:=s.aa[j].ay) (by omega) (by omega);refine ⟨.obj i,_,hL,by omega,?_⟩;obtain ⟨d,hd⟩:=kw hM hL;have d1:=hd.lo;have d2:=hd.hi;have d3:=hd.ext;obtain ⟨b0,DZ,e1,e2⟩:=g7 hM (aet hj) hx
   have kZ:d.At=x.At:=by
    rcases Classical.em (d.At=x.At) with h|h
    ·exact h
    ·have:=gZ hM.heap hd.mem DZ (by rw [e1];exact h)
     rw [e1,e2] at this;omega
   rcases hd.what with ⟨k,hk,ek,f1,f2,y,hy,f3⟩|⟨ek,_,_⟩
   ·injection ek with ek
    subst ek;obtain rfl:=tJ hM hk hj hy hx (f3.trans kZ);rw [f1];omega
   ·cases ek
 | bD hr hn =>
   unfold AW at e;obtain ⟨b,hb,aq⟩:=aeG.1 e.symm;rw [ae9,decide_eq_true_eq,decide_eq_true_eq] at aq;have hl:=(hM.heap.live.all b hb).2.1;refine ⟨.pg b.Order,16*b.At,(j3 hM.heap.live).2 ⟨by omega,fun c hc x hx e1 => ?_,b,hb,by omega,rfl⟩,by omega,?_⟩
   ·obtain ⟨b0,DZ,f1,f2⟩:=g7 hM hc hx;have h1:=iI hM.heap.live hb;have h2:=iI hM.heap.live DZ;have e3:b0.At=b.At:=by omega
    refine hn c hc x hx ?_;unfold lp;rw [<- f1,e3,<- f2,<- h2,e3,h1];omega
   ·simp only [jC];omega
def gu.dm (hM:aA s) {x y:Bool} (h:gu s a x) (k:gu s a y) : x=y:=by
 cases h with
 | out h=>cases k with
   | out=>rfl
   | pQ h'|bD h'=>exact absurd h' h
 | @pQ c x u h hc hx hi hF=>cases k with
   | out h'=>exact absurd h h'
   | @pQ c' x' u' _ iq pe mo y6 =>
     unfold lp at hi mo;obtain ⟨b,hb,e1,e2⟩:=g7 hM hc hx;obtain ⟨d,hd,f1,f2⟩:=g7 hM iq pe
     have kZ:x.At=x'.At:=by
      rcases Classical.em (x.At=x'.At) with h|h
      ·exact h
      ·have:=gZ hM.heap hb hd (by rw [e1,f1];exact h)
       rw [e1,e2,f1,f2] at this;omega
     obtain ⟨i,Si,rfl⟩:=Bg hc;obtain ⟨j,Z3,rfl⟩:=Bg iq;obtain rfl:=tJ hM Si Z3 hx pe kZ;rw [kZ] at hF;rw [hF.dm y6]
   | bD _ hn=>exact absurd hi (hn c hc x hx)
 | bD h hn=>cases k with
   | out h'=>exact absurd h h'
   | pQ _ hc hx hi=>exact absurd hi (hn _ hc _ hx)
   | bD=>rfl
def mw.dm (hM:aA s) {a:cr} {u v:ag×Int×Int} (h:mw s a u) (k:mw s a v) : u=v:=by
 cases h with
 | no h=>cases k with
   | no=>rfl
   | read h'|range h'|write h'=>cases h.dm hM h'
 | read h hk=>cases k with
   | no h'=>cases h.dm hM h'
   | read=>rfl
   | range _ bP|write _ bP=>exact absurd hk bP
 | range h hk hm=>cases k with
   | no h'=>cases h.dm hM h'
   | read _ bP=>exact absurd bP hk
   | range=>rfl
   | write _ _ lA=>exact absurd lA hm
 | write h hk hm=>cases k with
   | no h'=>cases h.dm hM h'
   | read _ bP=>exact absurd bP hk
   | range _ _ lA=>exact absurd hm lA
   | write=>rfl
def xu (hI:dy s) {b m:Int} (hL:fF s q b) (h1:b<=a) (h2:a<b+jC s q) : dy ⟨s.Words.set a.toNat m,s.Heap,s.aa⟩∧fb s ⟨s.Words.set a.toNat m,s.Heap,s.aa⟩ (fun z=>z=b) (fun r z=>r=q∧z=b):=by
 have hM:=hI.may;have hr:=fi hM hL
 obtain ⟨h3,h4⟩:=Be hM hL (ws:=s.Words.set a.toNat m) (by rw [ae0];exact hM.words) (fun c hc hn=>by
  rw [afy];omega)
 exact ⟨⟨gz h3 ⟨by simp only [List.length_set];exact hI.cS.small.words,hI.cS.small.heap,hI.cS.small.bo,hI.cS.small.each⟩,h3⟩,h4⟩
def mw.jQ (hI:dy s) {a:cr} {u:ag×Int×Int} (h:mw s a u) : dy u.1∧j9 u.1=j9 s:=by
 cases h with
 | no|read|range=>exact ⟨hI,rfl⟩
 | write h =>
   obtain ⟨q,b,hL,h1,h2⟩:=Gh hI.may h;exact ⟨(xu hI hL h1 h2).1,rfl⟩
def nW.jQ (hI:dy s) (hN:mO s) {n:Int} {u:ag×Int×Int} (h:nW s cpu a n u) (h0:u.2.2=0) : dy u.1∧j9 u.1=j9 s:=by
 have key:∃ z,jT s a z∧z.2=0:=by
  cases h with
  | size _ he=>exact absurd h0 he
  | range=>simp at h0
  | fault _ _ _ _ _ he=>exact absurd h0 he
  | free _ _ _ _ _ _ _ he=>exact absurd h0 he
  | stay h he=>exact ⟨_,h,he⟩
  | ok h he=>exact ⟨_,h,he⟩
 obtain ⟨z,hz,MU⟩:=key;obtain ⟨q,hL,hm⟩:=Iy hI.may hz MU
 rcases h.step hI hL hm (fun i hn hi=>by
  obtain ⟨j,h1,h2⟩:=Ix hI.may hN hn;obtain rfl:i=j:=by omega
  exact h2) h0 with ⟨rfl,_⟩|⟨r,h1,h2,_⟩
 ·exact ⟨hI,rfl⟩
 ·exact ⟨h2,h1.shape⟩
variable {size:Int}
def Lo {a b:ByteArray} (h:ew a b=false) (bG:a≠b) : ew b a=true:=by
 have:=Kh b a
 rw [h,decide_eq_false (fun e=>bG e.symm)] at this;simpa using this
def nodup_iff {acc l:List α} (ha:acc.Nodup) : (∀ (k:Nat) (h:k<l.length),l[k]∉acc++l.take k)↔(acc++l).Nodup:=by
 constructor
 ·intro h
  have key:∀ k,k<=l.length->(acc++l.take k).Nodup:=by
   intro k;induction k with
   | zero=>intro _;simpa using ha
   | succ k ih =>
     intro hk;rw [aeA (by omega),<- aey,afe];refine ⟨ih (by omega),by simp,fun a ha b hb => ?_⟩;simp only [List.mem_singleton] at hb;subst hb;exact fun e=>h k (by omega) (e ▸ ha)
  have:=key _ (aew _)
  rwa [afk] at this
 ·intro h k hk hm;have e:l=l.take k++l[k]::l.drop (k+1):=by simp
  have h':=h;rw [e,<- aey,afe] at h';exact h'.2.2 _ hm _ List.mem_cons_self rfl
def x9:(∀ (i:Nat) (h:i<s.aa.length) (k:Nat) (hk:k<s.aa[i].Names.length),s.aa[i].Names[k]∉ba (s.aa.take i)++s.aa[i].Names.take k)↔(ba s.aa).Nodup:=by
 have step:∀ i (h:i<s.aa.length),ba (s.aa.take (i+1))=ba (s.aa.take i)++s.aa[i].Names:=fun i h=>by
  unfold ba;rw [aeA h,aeM];simp
 constructor
 ·intro h
  have key:∀ k,k<=s.aa.length->(ba (s.aa.take k)).Nodup:=by
   intro k;induction k with
   | zero=>intro _;simp [ba]
   | succ k ih =>
     intro hk;rw [step k (by omega)];exact (nodup_iff (ih (by omega))).1 (h k (by omega))
  have:=key _ (aew _)
  rwa [afk] at this
 ·intro h i hi
  have jc:∀ k,(ba (s.aa.take k)).Nodup:=fun k=>by
   have e:ba s.aa=ba (s.aa.take k)++ba (s.aa.drop k):=by
    unfold ba;rw [<- aeM,aex]
   rw [e,afe] at h;exact h.1
  refine (nodup_iff (jc i)).2 ?_;rw [<- step i hi];exact jc (i+1)
def JR {cs:List aN} (h:cs.any (dr n)=false) : n∉ba cs:=fun hm=>by
 unfold ba at hm;obtain ⟨c,hc,hn⟩:=aeK.1 hm;have:cs.any (dr n)=true:=aeG.2 ⟨c,hc,fA.2 hn⟩
 rw [h] at this;cases this
def mP (cs:List aN) : ba cs=(cs.map fun c=>c.Names).flatten:=by unfold ba;rw [afT]
def N5 (hM:aA s) (hn:gx n=true) (ht:s.aa.any (dr n)=false) (hi:i<s.aa.length) : aA ⟨s.Words,s.Heap,s.aa.set i (dF s.aa[i] n)⟩:=by
 have hp:=vH s.aa[i].Names n;have Yq:=(hM.each i hi).names.lT;have yj:=JR ht;have pu:n∉s.aa[i].Names:=fun h=>yj (by unfold ba;exact aeK.2 ⟨_,aet hi,h⟩)
 have Vk:(ba (s.aa.set i (dF s.aa[i] n))).Nodup:=by
  have h0:=x9.1 fun j hj k hk=>((hM.each j hj).names.each k hk).2.1
  have e1:s.aa=s.aa.take i++s.aa[i]::s.aa.drop (i+1):=by simp
  have e2:s.aa.set i (dF s.aa[i] n)=s.aa.take i++dF s.aa[i] n::s.aa.drop (i+1):=by rw [afo,if_pos hi]
  have f1:ba s.aa=(ba (s.aa.take i)++s.aa[i].Names.take (kg s.aa[i].Names n))++(s.aa[i].Names.drop (kg s.aa[i].Names n)++ba (s.aa.drop (i+1))):=by
   conv=>lhs;rw [e1]
   rw [mP,mP,mP,aeV,afO,afG,afP];simp only [List.append_assoc];rw [<- aey (List.take _ _),aex]
  have f2:ba (s.aa.set i (dF s.aa[i] n))=(ba (s.aa.take i)++s.aa[i].Names.take (kg s.aa[i].Names n))++n::(s.aa[i].Names.drop (kg s.aa[i].Names n)++ba (s.aa.drop (i+1))):=by
   rw [e2,mP,mP,mP,aeV,afO,afG,afP];simp only [dF,aM,List.append_assoc,List.cons_append,List.nil_append,List.singleton_append]
  rw [f2,List.perm_middle.nodup_iff,<- f1,aft];exact ⟨yj,h0⟩
 have ig:∀ (j:Nat) (hj:j<(s.aa.set i (dF s.aa[i] n)).length),(s.aa.set i (dF s.aa[i] n))[j]=if i=j then dF s.aa[i] n else s.aa[j]'(by simpa using hj):=fun j hj=>by rw [aeP]
 have AX:px (dF s.aa[i] n)=px s.aa[i]:=rfl
 have wT:=jt (s:=⟨s.Words,s.Heap,s.aa.set i (dF s.aa[i] n)⟩).2 (by simp only;rw [g9 hi AX];exact jt.1 fun j hj=>(hM.each j hj).aB);have hnn:=x9 (s:=⟨s.Words,s.Heap,s.aa.set i (dF s.aa[i] n)⟩).2 Vk;refine ⟨hM.words,hM.heap,by simp only [List.length_set];exact hM.most,fun j hj => ?_⟩;have nr:j<s.aa.length:=by simpa using hj
 have hC:=hM.each j nr;refine ⟨?_,fun k hk => ?_,⟨fun k hk=>⟨?_,hnn j hj k hk,?_⟩⟩,wT j hj⟩
 ·simp only [ig];split
  ·rename_i e;subst e;exact ⟨hC.may.lay,by simp only [dF];rw [di _ hp];omega,hC.may.aV,fun k hk=>⟨(hC.may.aB k hk).live,(hC.may.aB k hk).next,(hC.may.aB k hk).chain⟩,hC.may.cX⟩
  ·exact hC.may.same rfl rfl
 ·have e:∀ (m:Nat) (hm:m<s.aa.length),((s.aa.set i (dF s.aa[i] n))[m]'(by simpa using hm)).ay=s.aa[m].ay:=fun m hm=>by
   rw [ig];split
   ·rename_i e;subst e;rfl
   ·rfl
  simp only;rw [e k (by omega),e j nr];exact hC.size k hk
 ·have key:∀ (c:aN) (ec:c=if i=j then dF s.aa[i] n else s.aa[j]) (bP:k<c.Names.length),gx c.Names[k]=true:=fun c ec bP=>by
   have hm:=aet bP;subst ec;by_cases e:i=j
   ·subst e;simp only [if_true] at hm ⊢;rcases pD.1 hm with h|h
    ·rw [h];exact hn
    ·obtain ⟨q,hq,e2⟩:=aeu h;have:=((hM.each i hi).names.each q hq).1
     rw [e2] at this;exact this
   ·simp only [if_neg e] at hm ⊢;exact (hC.names.each k (by simpa [e] using bP)).1
  exact key _ (ig j hj) _
 ·intro h0
  have key:∀ (c:aN) (ec:c=if i=j then dF s.aa[i] n else s.aa[j]) (bP:k<c.Names.length),ew (c.Names[k-1]'(by omega)) c.Names[k]=true:=fun c ec bP=>by
   subst ec;by_cases e:i=j
   ·subst e;simp only [if_true] at bP ⊢;have D9:k-1<(aM s.aa[i].Names (kg s.aa[i].Names n) n).length:=by have:k<(aM s.aa[i].Names (kg s.aa[i].Names n) n).length:=bP;omega
    show ew ((aM s.aa[i].Names (kg s.aa[i].Names n) n)[k-1]'D9) ((aM s.aa[i].Names (kg s.aa[i].Names n) n)[k]'bP)=true
    rcases v5 hp D9 with ⟨g,g1,e1⟩|⟨g1,e1⟩|⟨g,g1,e1⟩
    ·rcases v5 hp bP with ⟨g',Rc,Mj⟩|⟨Rc,Mj⟩|⟨g',Rc,Mj⟩
     ·rw [e1,Mj];exact Yq _ _ g g' (by omega)
     ·rw [e1,Mj];exact Jo g1 g
     ·omega
    ·rcases v5 hp bP with ⟨g',Rc,Mj⟩|⟨Rc,Mj⟩|⟨g',Rc,Mj⟩
     ·omega
     ·omega
     ·rw [e1,Mj];refine Lo (PB Yq (by omega) g') fun e=>pu (e ▸ aet g')
    ·rcases v5 hp bP with ⟨g',Rc,Mj⟩|⟨Rc,Mj⟩|⟨g',Rc,Mj⟩
     ·omega
     ·omega
     ·rw [e1,Mj];exact Yq _ _ g g' (by omega)
   ·simp only [if_neg e] at bP ⊢;exact (hC.names.each k bP).2.2 h0
  exact key _ (ig j hj) _
def Lp {z:Int} (h : 1<=z∧z<=64) : dp z=((dp z).1,(dp z).2.1,0):=by
 unfold dp;rw [if_pos h];split
 ·rfl
 ·split<;>rfl
def N6 (hM:aA s) (hn:gx n=true) (ht:s.aa.any (dr n)=false) {z:Int} (hz : 1<=z∧z<=64) (hd:∀ j (hj:j<s.aa.length),s.aa[j].ay≠z) (hl:s.aa.length<20) : aA ⟨s.Words,s.Heap,s.aa++[dW s n z]⟩:=by
 have qQ:=hM.heap.cpus;have yj:=JR ht;refine ⟨hM.words,hM.heap,by simp only [List.length_append,List.length_singleton];omega,fun j hj => ?_⟩;simp only [List.length_append,List.length_singleton] at hj;have ig:∀ (k:Nat) (hk:k<s.aa.length),(s.aa++[dW s n z])[k]'(by simp;omega)=s.aa[k]:=fun k hk=>afC hk
 have HD:∀ k,k<=s.aa.length->(s.aa++[dW s n z]).take k=s.aa.take k:=fun k hk=>afW hk
 by_cases e:j<s.aa.length
 ·have hC:=hM.each j e;refine ⟨?_,fun k hk => ?_,?_,?_⟩
  ·simp only [ig j e];exact hC.may.same rfl rfl
  ·simp only [ig j e,ig k (by omega)];exact hC.size k hk
  ·simp only [ig j e,HD j (by omega)];exact hC.names
  ·simp only [ig j e,HD j (by omega)];exact hC.aB
 ·obtain rfl:j=s.aa.length:=by omega
  have vP:(s.aa++[dW s n z])[s.aa.length]'(by simp)=dW s n z:=by simp
  refine ⟨?_,fun k hk => ?_,?_,?_⟩
  ·simp only [vP];refine ⟨Lp hz,by simp [dW],?_,fun k hk=>by simp [dW] at hk,fun k hk => .inl (by simp [dW])⟩;simp only [dW,List.length_replicate];omega
  ·simp only [vP,ig k hk];exact hd k hk
  ·simp only [vP,HD _ (Nat.le_refl _),List.take_length];refine ⟨fun k hk => ?_⟩;simp only [dW,List.length_singleton] at hk;obtain rfl:k=0:=by omega
   exact ⟨hn,by simpa [dW] using yj,fun h=>by omega⟩
  ·simp only [vP];intro k hk;simp [dW] at hk
def lU.jQ (hI:dy s) {align:Int} (h:lU s n size align u) (h0:u.2=0) : dy u.1∧(mO s->mO u.1):=by
 have hM:=hI.may;have ri:=h.small hI.cS.small;cases h with
 | bad|form|range|gQ|full=>simp at h0
 | @u7 i _ hn hs ht hi hz ha =>
   have:=N5 hM hn.1 ht hi
   refine ⟨⟨gz this ri,this⟩,fun hN j hj => ?_⟩;obtain ⟨p,hp,h1,h2⟩:=hN j hj;obtain ⟨c,hc,rfl⟩:=aeH.1 hp;obtain ⟨k,hk,rfl⟩:=aeu hc;by_cases e:k=i
   ·subst e;refine ⟨((dF s.aa[k] n).Names,(dF s.aa[k] n).ay),aeH.2 ⟨dF s.aa[k] n,(dM hi).2 (.inl rfl),rfl⟩,?_,h2⟩;exact fA.2 (pD.2 (.inr (fA.1 h1)))
   ·exact ⟨_,aeH.2 ⟨s.aa[k],(dM hi).2 (.inr ⟨k,hk,e,rfl⟩),rfl⟩,h1,h2⟩
 | new _ hn hs ht hz hc =>
   have hu:=Jq hn.2 hs;have:=N6 hM hn.1 ht (z:=rZ size align) (by omega) hz hc
   refine ⟨⟨gz this ri,this⟩,fun hN j hj => ?_⟩;obtain ⟨p,hp,h1,h2⟩:=hN j hj;obtain ⟨c,hc,rfl⟩:=aeH.1 hp;exact ⟨_,aeH.2 ⟨c,aeU _ hc,rfl⟩,h1,h2⟩
variable {xs:List j8}
def pB.dm {a:cr} {v:ag×Int} (h:pB s a u) (k:pB s a v) : u=v:=by
 cases h with
 | range h=>cases k with
   | range=>rfl
   | no h'|ok h'|fault h'=>exact absurd h' h
 | no h hw=>cases k with
   | range h'=>exact absurd h h'
   | no=>rfl
   | ok _ nl|fault _ nl=>rw [hw] at nl;cases nl
 | ok h hw he=>cases k with
   | range h'=>exact absurd h h'
   | no _ nl=>rw [hw] at nl;cases nl
   | ok=>rfl
   | fault _ _ iv=>exact absurd he iv
 | fault h hw he=>cases k with
   | range h'=>exact absurd h h'
   | no _ nl=>rw [hw] at nl;cases nl
   | ok _ _ iv=>exact absurd iv he
   | fault=>rfl
def cu.dm (hM:aA s) {a:cr} {u v:ag×j8} (h:cu s a u) (k:cu s a v) : u=v:=by
 cases h with
 | bD hk h=>cases k with
   | bD _ h'=>rw [h.dm h']
   | nX bP|drain bP|fL bP|kW bP|oQ bP|bo bP|eA bP|word bP|Ik bP=>omega
 | nX hk h=>cases k with
   | nX _ h'=>rw [h.dm h']
   | bD bP|drain bP|fL bP|kW bP|oQ bP|bo bP|eA bP|word bP|Ik bP=>omega
 | drain hk=>cases k with
   | drain _=>rfl
   | bD bP|nX bP|fL bP|kW bP|oQ bP|bo bP|eA bP|word bP|Ik bP=>omega
 | fL hk h=>cases k with
   | fL _ h'=>rw [h.dm h']
   | bD bP|nX bP|drain bP|kW bP|oQ bP|bo bP|eA bP|word bP|Ik bP=>omega
 | kW hk h=>cases k with
   | kW _ h'=>rw [h.dm h']
   | bD bP|nX bP|drain bP|fL bP|oQ bP|bo bP|eA bP|word bP|Ik bP=>omega
 | oQ hk h=>cases k with
   | oQ _ h'=>rw [h.dm h']
   | bD bP|nX bP|drain bP|fL bP|kW bP|bo bP|eA bP|word bP|Ik bP=>omega
 | bo hk h=>cases k with
   | bo _ h'=>rw [h.dm h']
   | bD bP|nX bP|drain bP|fL bP|kW bP|oQ bP|eA bP|word bP|Ik bP=>omega
 | eA hk h=>cases k with
   | eA _ h'=>rw [h.dm h']
   | bD bP|nX bP|drain bP|fL bP|kW bP|oQ bP|bo bP|word bP|Ik bP=>omega
 | word hk h=>cases k with
   | word _ h'=>rw [h.dm hM h']
   | bD bP|nX bP|drain bP|fL bP|kW bP|oQ bP|bo bP|eA bP|Ik bP=>omega
 | Ik hk=>cases k with
   | Ik _=>rfl
   | bD bP|nX bP|drain bP|fL bP|kW bP|oQ bP|bo bP|eA bP|word bP=>omega
structure mQ (s:ag) : Prop where
 sys:dy s
 named:mO s
def mQ.j9 {t:ag} (h:mQ s) (hI:dy t) (e:j9 t=j9 s) : mQ t:=⟨hI,h.named.j9 e⟩
def mQ.ok {t:ag} (h:mQ s) {e:Int} (k:e=0->mQ t) : mQ (ms e s t):=by
 unfold ms;split
 ·exact k ‹_›
 ·exact h
def cu.jQ {a:cr} (h4:a.Kind≠4) {u:ag×j8} (hN:mQ s) (h:cu s a u) : mQ u.1:=by
 have hI:=hN.sys;have h':=h;cases h with
 | bD hk h=>exact hN.ok fun e=>hN.j9 (Ev hI h e) rfl
 | nX hk h =>
   have:=xX hk s _ hI h'
   refine hN.ok fun e => ?_
   cases h with
   | range|no=>simp at e
   | fault _ _ he=>exact absurd e he
   | ok h hw he=>exact hN.j9 this rfl
 | drain hk =>
   have:=rG hk s _ hI h'
   refine hN.ok fun e=>hN.j9 ?_ rfl
   simp only [ms,if_pos e] at this;exact this
 | fL hk h =>
   refine hN.ok fun e => ?_
   obtain ⟨q,h1,_,h2,_⟩:=h.step hI e;exact hN.j9 h2 h1.shape
 | kW hk h =>
   refine hN.ok fun e => ?_
   obtain ⟨h1,h2⟩:=h.step hI e;exact hN.j9 h2 h1.shape
 | oQ=>exact hN
 | Ik=>exact hN
 | eA hk h =>
   refine hN.ok fun e => ?_
   obtain ⟨h1,h2⟩:=h.jQ hI hN.named e;exact hN.j9 h1 h2
 | word hk h =>
   obtain ⟨h1,h2⟩:=h.jQ hI;exact hN.ok fun e=>hN.j9 h1 h2
 | bo hk h =>
   cases h with
   | form bP|kv bP=>exact absurd bP h4
   | me _ h =>
     refine hN.ok fun e => ?_
     obtain ⟨h1,h2⟩:=h.jQ hI e;exact ⟨h1,h2 hN.named⟩
   | new _ h =>
     refine hN.ok fun e => ?_
     obtain ⟨_,_,h1,_⟩:=h.step hI e;exact hN.j9 (h.JM hI e) h1.shape
   | drop _ h =>
     refine hN.ok fun e => ?_
     exact hN.j9 (h.jQ hI e) (h.step hI e).1.shape
   | shrink =>
     refine hN.ok fun e => ?_
     obtain ⟨h1,h2,_⟩:=pE hI e;exact hN.j9 h2 h1.shape
   | bulk _ h =>
     refine hN.ok fun e => ?_
     obtain ⟨_,_,_,_,_,h1,h2⟩:=h.step hI e;exact hN.j9 h2 h1.shape
def ya {a:cr} (h4:a.Kind≠4) : s9 mQ a:=fun s u hN h=>h.jQ h4 hN
def fM.named {a:cr} (h:fM dy a) : fM mQ a:=fun r s lo w hO dt hN hS fh=>h r s lo w hO dt hN.sys hS fh
def jN.split {t:ag} {l m:List cr} (h:jN s (l++m) xs t) : ∃ ys zs u,jN s l ys u∧jN u m zs t∧xs=ys++zs:=by
 generalize e:l++m=k at h
 induction h generalizing m with
 | nil =>
   obtain ⟨rfl,rfl⟩:=List.append_eq_nil_iff.1 e;exact ⟨[],[],_,.nil _,.nil _,rfl⟩
 | @snoc t l' xs a u h hu ih =>
   rcases afL m with rfl|⟨m',b,rfl⟩
   ·rw [afU] at e;subst e;exact ⟨_,[],_,.snoc h hu,.nil _,by simp⟩
   ·rw [List.concat_eq_append,<- aey] at e;rw [List.concat_eq_append];obtain ⟨e1,e2⟩:=List.append_inj' e rfl;simp only [List.cons.injEq,and_true] at e2;subst e2;obtain ⟨ys,zs,v,k1,k2,rfl⟩:=ih e1;exact ⟨ys,zs++[u.2],_,k1,.snoc k2 hu,by simp⟩
def jN.dm {t t':ag} {l:List cr} {ys:List j8} (h:jN s l xs t) (hN:mQ s) (h4:∀ a∈l,a.Kind≠4) : jN s l ys t'->xs=ys∧t=t':=by
 induction h generalizing ys t' with
 | nil =>
   intro k;generalize e:([] : List cr)=l at k
   cases k with
   | nil=>exact ⟨rfl,rfl⟩
   | snoc=>simp at e
 | snoc h hu ih =>
   intro k;obtain ⟨zs,v,w,k1,k2,rfl,rfl⟩:=k.Q8;obtain ⟨rfl,rfl⟩:=ih (fun a ha=>h4 a (by simp [ha])) k1;have hNm:=h.jQ (I:=mQ) hN fun a ha=>ya (h4 a (by simp [ha]))
   rw [hu.dm hNm.sys.may k2];exact ⟨rfl,rfl⟩
structure bU where
 At:Int
 ay:Int
 Kind:Int
 Name:ByteArray
 Word:Int
 uu:Bool
def nt:ByteArray:=⟨#[111,98]⟩
def dN:ByteArray:=⟨#[112,97,105,114]⟩
def eR:List (List ByteArray×Int):=[([eJ 1],1),([eJ 2,dN],2),([eJ 4],4),([eJ 8],8),([eJ 16],16),([eJ 32],32),([nt],5)]
def v9 (s:ag) (n:ByteArray) : idxOf (dr n) s.aa=idxOf (fun p=>nR p.1 n) (j9 s):=(nc (by simp [j9]) (fun k h1 h2=>by simp [j9,dr])).1
def zf (s:ag) (n:ByteArray) : s.aa.any (dr n)=(j9 s).any fun p=>nR p.1 n:=(nc (by simp [j9]) (fun k h1 h2=>by simp [j9,dr])).2
def N7 (p:List ByteArray×Int) : Bool:=kL.any fun k=>nR p.1 (eJ k)
def Bh (hi:i<s.aa.length) : ∃ h:i<(j9 s).length,nF s.aa[i]=N7 (j9 s)[i]:=⟨by simpa [j9] using hi,by simp [j9,nF,N7,dr]⟩
def we (s:ag) (q:Src) : Prop := ∀ i (hi:i<s.aa.length),q = .obj i->nF s.aa[i]=true
def Vp:∀ k,k<6->(eR[k]?.map N7)=some true
 | 0,_|1,_|2,_|3,_|4,_|5,_=>by decide +kernel
 | k+6,h=>by omega
def JS (h:j9 s=eR) (hi:i<6) : we s (.obj i):=fun j hj e=>by
 injection e with e
 subst e;obtain ⟨h1,h2⟩:=Bh hj;rw [h2];have:(j9 s)[i]=eR[i]'(by rw [<- h];exact h1):=by congr 1
 rw [this];have key:=Vp i hi;rw [aez (by simp only [eR,List.length_cons,List.length_nil];omega)] at key;injection key
def Gi (s:ag) (o:Int) : we s (.pg o):=fun _ _ e=>by cases e
def we.j9 {t:ag} (h:we s q) (e:j9 t=j9 s) : we t q:=fun i hi eq=>by
 obtain ⟨h1,h2⟩:=Bh hi
 have hl:i<s.aa.length:=by
  have:=congrArg List.length e
  simp only [Go.Proofs.YtenhkiaaebnggaaGreatDoor.j9,List.length_map] at this;omega
 obtain ⟨h3,h4⟩:=Bh hl;have h5:=h i hl eq;rw [h4] at h5;rw [h2,<- h5];congr 1
 simp only [e]
def xv (h:j9 s=eR) {n:Int} (hn:n<=32) : ∃ i:Nat,i<6∧idxOf (dr (jx n)) s.aa=(i:Int)∧n<=pC s i:=by
 rw [v9,h];have hz:∀ i,pC s i=((eR[i]?).map fun p=>p.2).getD 0:=fun i=>by rw [tL,h]
 unfold jx;split
 ·exact ⟨0,by omega,by decide +kernel,by rw [hz];simp only [eR];simpa using ‹n<=1›⟩
 split
 ·exact ⟨1,by omega,by decide +kernel,by rw [hz];simp only [eR];simpa using ‹n<=2›⟩
 split
 ·exact ⟨2,by omega,by decide +kernel,by rw [hz];simp only [eR];simpa using ‹n<=4›⟩
 split
 ·exact ⟨3,by omega,by decide +kernel,by rw [hz];simp only [eR];simpa using ‹n<=8›⟩
 split
 ·exact ⟨4,by omega,by decide +kernel,by rw [hz];simp only [eR];simpa using ‹n<=16›⟩
 ·exact ⟨5,by omega,by decide +kernel,by rw [hz];simp only [eR];simpa using hn⟩
structure Fits (s:ag) (t:bU) (q:Src) : Prop where
 nA:fF s q t.At
 size : 0<=t.ay∧t.ay<=jC s q
 kind:(t.Kind=1 ∧ ∃ o,q = .pg o)∨(t.Kind=8∧we s q)∨(t.Kind=5∧((t.Name=nt∧q = .obj 6)∨(t.Name=dN∧q = .obj 1)))
 name:t.Kind≠5->t.Name=⟨#[]⟩
 word:t.uu=true->s.Words[t.At.toNat]?=some t.Word
structure Out (cp:Int) (s:ag) (l:List bU) : Prop where
 sys:dy s
 shape:j9 s=eR
 cpus:s.Heap.bJ=cp
 fits:∀ t∈l,∃ q,Fits s t q
 apart:(l.map fun t=>t.At).Nodup
 all:∀ q a,fF s q a -> ∃ t∈l,t.At=a
section
variable {cp:Int} {s t:ag} {x:Int->Prop} {y:Src->Int->Prop} {l:List bU}
def Fits.jQ {z:bU} (h:Fits s z q) (k:fb s t x y) (hx : ¬ x z.At) : Fits t z q :=
 ⟨(k.aw q z.At).2 (.inl ⟨h.nA,hx⟩),by rw [k.ext];exact h.size,by
  rcases h.kind with h1|⟨h1,h2⟩|h1
  ·exact .inl h1
  ·exact .inr (.inl ⟨h1,h2.j9 k.shape⟩)
  ·exact .inr (.inr h1),h.name,fun hw=>by rw [k.words q z.At h.nA hx];exact h.word hw⟩
def Out.same (h:Out cp s l) (k:fb s t rH xq) (hI:dy t) : Out cp t l :=
 ⟨hI,k.shape.trans h.shape,k.cpus.trans h.cpus,fun z hz=>by obtain ⟨q,hq⟩:=h.fits z hz;exact ⟨q,hq.jQ k fun h=>h⟩,h.apart,fun q a ha=>by
  rcases (k.aw q a).1 ha with h1|h1
  ·exact h.all q a h1.1
  ·exact h1.elim⟩
def Out.more (h:Out cp s l) {z:bU} (k:fb s t rH (fun r a=>r=q∧a=z.At)) (hI:dy t) (hn:∀ r,¬ fF s r z.At) (hz : 0<=z.ay∧z.ay<=jC s q) (hk:(z.Kind=1 ∧ ∃ o,q = .pg o)∨(z.Kind=8∧we s q)∨(z.Kind=5∧((z.Name=nt∧q = .obj 6)∨(z.Name=dN∧q = .obj 1)))) (hm:z.Kind≠5->z.Name=⟨#[]⟩) (hw:z.uu=false) : Out cp t (l++[z]):=by
 refine ⟨hI,k.shape.trans h.shape,k.cpus.trans h.cpus,fun u hu => ?_,?_,fun r a ha => ?_⟩
 ·rcases aeC.1 hu with hu|hu
  ·obtain ⟨r,hr⟩:=h.fits u hu;exact ⟨r,hr.jQ k fun h=>h⟩
  ·simp only [List.mem_singleton] at hu;subst hu;refine ⟨q,(k.aw q u.At).2 (.inr ⟨rfl,rfl⟩),by rw [k.ext];exact hz,?_,hm,fun h=>by rw [hw] at h;cases h⟩;rcases hk with h1|⟨h1,h2⟩|h1
   ·exact .inl h1
   ·exact .inr (.inl ⟨h1,h2.j9 k.shape⟩)
   ·exact .inr (.inr h1)
 ·rw [aeV,afe];refine ⟨h.apart,by simp,fun a ha b hb e => ?_⟩;simp only [List.map_cons,List.map_nil,List.mem_singleton] at hb;obtain ⟨u,hu,rfl⟩:=aeH.1 ha;obtain ⟨r,hr⟩:=h.fits u hu;exact hn r (by rw [<- hb,<- e];exact hr.nA)
 ·rcases (k.aw r a).1 ha with h1|⟨_,rfl⟩
  ·obtain ⟨u,hu,e⟩:=h.all r a h1.1;exact ⟨u,aeU _ hu,e⟩
  ·exact ⟨z,by simp,rfl⟩
def wg (h:(l.map fun t=>t.At).Nodup) (hi:i<l.length) (hj:j<l.length) (bG:i≠j) : l[i].At≠l[j].At:=fun e=>by
 have:=aeB.1 h
 rcases afJ bG with g|g
 ·exact this i j (by simpa using hi) (by simpa using hj) g (by simp [e])
 ·exact this j i (by simpa using hj) (by simpa using hi) g (by simp [e])
def Out.less (h:Out cp s l) (hi:i<l.length) (k:fb s t (fun a=>a=l[i].At) xq) (hI:dy t) : Out cp t (l.eraseIdx i):=by
 refine ⟨hI,k.shape.trans h.shape,k.cpus.trans h.cpus,fun u hu => ?_,?_,fun r a ha => ?_⟩
 ·obtain ⟨j,hj,ji,rfl⟩:=mem_erase_iff.1 hu;obtain ⟨r,hr⟩:=h.fits _ (aet hj);exact ⟨r,hr.jQ k (wg h.apart hj hi ji)⟩
 ·exact List.Nodup.sublist (List.Sublist.map _ (afm _ _)) h.apart
 ·rcases (k.aw r a).1 ha with ⟨h1,h2⟩|h1
  ·obtain ⟨u,hu,e⟩:=h.all r a h1;obtain ⟨j,hj,rfl⟩:=aeu hu;refine ⟨l[j],mem_erase_iff.2 ⟨j,hj,fun e' => ?_,rfl⟩,e⟩;subst e';exact h2 e.symm
  ·exact h1.elim
def Out.put (h:Out cp s l) (hi:i<l.length) {z:bU} (k:fb s t (fun a=>a=l[i].At) (fun r a=>r=q∧a=z.At)) (hI:dy t) (hn:z.At=l[i].At ∨ ∀ r,¬ fF s r z.At) (hf:Fits t z q) : Out cp t (l.set i z):=by
 have bG:∀ (j:Nat) (hj:j<l.length),j≠i->l[j].At≠z.At:=fun j hj ji e=>by
  rcases hn with hn|hn
  ·exact wg h.apart hj hi ji (e.trans hn)
  ·obtain ⟨r,hr⟩:=h.fits _ (aet hj);exact hn r (by rw [<- e];exact hr.nA)
 refine ⟨hI,k.shape.trans h.shape,k.cpus.trans h.cpus,fun u hu => ?_,?_,fun r a ha => ?_⟩
 ·rcases (dM hi).1 hu with rfl|⟨j,hj,ji,rfl⟩
  ·exact ⟨q,hf⟩
  ·obtain ⟨r,hr⟩:=h.fits _ (aet hj);exact ⟨r,hr.jQ k (wg h.apart hj hi ji)⟩
 ·rw [afR];refine aeB.2 fun j m hj hm Zb => ?_
  simp only [List.length_set,List.length_map] at hj hm;rw [aeP,aeP];by_cases e1:i=j
  ·subst e1;rw [if_pos rfl,if_neg (by omega),afS];exact fun e=>bG m hm (by omega) e.symm
  ·rw [if_neg e1];by_cases e2:i=m
   ·subst e2;rw [if_pos rfl,afS];exact bG j hj (by omega)
   ·rw [if_neg e2,afS,afS];exact wg h.apart hj hm (by omega)
 ·rcases (k.aw r a).1 ha with ⟨h1,h2⟩|⟨_,rfl⟩
  ·obtain ⟨u,hu,e⟩:=h.all r a h1;obtain ⟨j,hj,rfl⟩:=aeu hu;refine ⟨l[j],(dM hi).2 (.inr ⟨j,hj,fun e' => ?_,rfl⟩),e⟩;subst e';exact h2 e.symm
  ·exact ⟨z,(dM hi).2 (.inl rfl),rfl⟩
def Out.many (h:Out cp s l) {m:List Int} (k:fb s t rH (fun r a=>r = .obj i∧a∈m)) (hI:dy t) (hd:m.Nodup) (hn:∀ a∈m,∀ r,¬ fF s r a) {z:Int} (hz : 0<=z∧z<=pC s i) (hk:(n=nt∧i=6)∨(n=dN∧i=1)) :
 Out cp t (l++m.map fun a=>⟨a,z,5,n,0,false⟩):=by
 refine ⟨hI,k.shape.trans h.shape,k.cpus.trans h.cpus,fun u hu => ?_,?_,fun r a ha => ?_⟩
 ·rcases aeC.1 hu with hu|hu
  ·obtain ⟨r,hr⟩:=h.fits u hu;exact ⟨r,hr.jQ k fun h=>h⟩
  ·obtain ⟨a,ha,rfl⟩:=aeH.1 hu;refine ⟨.obj i,(k.aw _ _).2 (.inr ⟨rfl,ha⟩),by rw [k.ext];exact hz,.inr (.inr ⟨rfl,?_⟩),fun h=>absurd rfl h,fun h=>by cases h⟩;rcases hk with ⟨rfl,rfl⟩|⟨rfl,rfl⟩
   ·exact .inl ⟨rfl,rfl⟩
   ·exact .inr ⟨rfl,rfl⟩
 ·rw [aeV,agE,afe]
  have e:m.map ((fun t:bU=>t.At) ∘ fun a=>⟨a,z,5,n,0,false⟩)=m:=by
   refine (List.map_congr_left (g:=id) fun a _=>rfl).trans (List.map_id m)
  rw [e];refine ⟨h.apart,hd,fun a ha b hb e => ?_⟩;obtain ⟨u,hu,rfl⟩:=aeH.1 ha;obtain ⟨r,hr⟩:=h.fits u hu;exact hn b hb r (by rw [<- e];exact hr.nA)
 ·rcases (k.aw r a).1 ha with h1|⟨_,h1⟩
  ·obtain ⟨u,hu,e⟩:=h.all r a h1.1;exact ⟨u,aeU _ hu,e⟩
  ·exact ⟨_,afg _ (aeH.2 ⟨a,h1,rfl⟩),rfl⟩
end
section
variable {s:ag} {a:cr} {u:ag×j8}
def cu.Z4 (hk:a.Kind=1) (h:cu s a u) : ∃ v,cU s.Heap a.gl a.N a.Flags v∧u=(ms v.2.2 s (oN s v.1),⟨v.2.2,v.2.1,[]⟩):=by cases h<;>first|exact ⟨_,‹_›,rfl⟩|(exfalso;omega)
def cu.Z5 (hk:a.Kind=2) (h:cu s a u) : ∃ v,pB s a v∧u=(ms v.2 s v.1,⟨v.2,0,[]⟩):=by cases h<;>first|exact ⟨_,‹_›,rfl⟩|(exfalso;omega)
def cu.of8 (hk:a.Kind=8) (h:cu s a u) : ∃ v,fv s a.gl a.N v∧u=(ms v.2.2 s v.1,⟨v.2.2,v.2.1,[]⟩):=by cases h<;>first|exact ⟨_,‹_›,rfl⟩|(exfalso;omega)
def cu.Z6 (hk:a.Kind=9) (h:cu s a u) : ∃ v,jU s a.gl a.At v∧u=(ms v.2 s v.1,⟨v.2,0,[]⟩):=by cases h<;>first|exact ⟨_,‹_›,rfl⟩|(exfalso;omega)
def cu.Yr (hk:a.Kind=11) (h:cu s a u) : ∃ v,nW s a.gl a.At a.N v∧u=(ms v.2.2 s v.1,⟨v.2.2,v.2.1,[]⟩):=by cases h<;>first|exact ⟨_,‹_›,rfl⟩|(exfalso;omega)
def cu.Vq (hk:a.Kind=12) (h:cu s a u) : u=(ms (ln s.Heap).1 s (oN s (ln s.Heap).2),⟨(ln s.Heap).1,0,[]⟩):=by cases h<;>first|rfl|(exfalso;omega)
def cu.Z7 (hk:a.Kind=13∨a.Kind=14) (h:cu s a u) : ∃ v,mw s a v∧u=(ms v.2.2 s v.1,⟨v.2.2,v.2.1,[]⟩):=by cases h<;>first|exact ⟨_,‹_›,rfl⟩|(exfalso;omega)
def cu.Rd (hk:(3<=a.Kind∧a.Kind<=7)∨a.Kind=15) (h:cu s a u) : ∃ v,eK s a v∧u=(ms v.2.2.2 s v.1,⟨v.2.2.2,v.2.1,v.2.2.1⟩):=by cases h<;>first|exact ⟨_,‹_›,rfl⟩|(exfalso;omega)
def cu.Z8 (hk:a.Kind=3) (h:cu s a u) : ∃ v,lU s a.Name a.N a.M v∧u=(ms v.2 s v.1,⟨v.2,0,[]⟩):=by
 obtain ⟨v,hv,rfl⟩:=h.Rd (by omega);cases hv<;>first|exact ⟨_,‹_›,rfl⟩|(exfalso;omega)
def cu.of5 (hk:a.Kind=5) (h:cu s a u) : ∃ v,pR s a.Name a.gl v∧u=(ms v.2.2 s v.1,⟨v.2.2,v.2.1,[]⟩):=by
 obtain ⟨v,hv,rfl⟩:=h.Rd (by omega);cases hv<;>first|exact ⟨_,‹_›,rfl⟩|(exfalso;omega)
def cu.Z9 (hk:a.Kind=6) (h:cu s a u) : ∃ v,pP s a.Name a.gl a.At v∧u=(ms v.2 s v.1,⟨v.2,0,[]⟩):=by
 obtain ⟨v,hv,rfl⟩:=h.Rd (by omega);cases hv<;>first|exact ⟨_,‹_›,rfl⟩|(exfalso;omega)
def cu.of7 (hk:a.Kind=7) (h:cu s a u) : u=(ms (ie s a.Name).2 s (ie s a.Name).1,⟨(ie s a.Name).2,0,[]⟩):=by
 obtain ⟨v,hv,rfl⟩:=h.Rd (by omega);cases hv<;>first|rfl|(exfalso;omega)
def cu.Ys (hk:a.Kind=15) (h:cu s a u) : ∃ v,oM s a.Name a.gl a.N v∧u=(ms v.2.2 s v.1,⟨v.2.2,0,v.2.1⟩):=by
 obtain ⟨v,hv,rfl⟩:=h.Rd (by omega);cases hv<;>first|exact ⟨_,‹_›,rfl⟩|(exfalso;omega)
def cu.fail (h:cu s a u) (h0:u.2.Code≠0) : u.1=s:=by
 cases h<;>first|rfl|exact if_neg h0
end
section
variable {cp:Int} {s:ag} {u:ag×j8} {l:List bU}
def nH {e:Int} (h:e=0) (s t:ag) : ms e s t=t:=if_pos h
def Out.named (h:Out cp s l) : mQ s:=by
 refine ⟨h.sys,?_⟩;unfold mO;rw [h.shape];intro j hj;obtain ⟨e0,e1,e2,e3,e4,e5⟩:=JQ;rcases (show j=0∨j=1∨j=2∨j=3∨j=4∨j=5 by omega) with rfl|rfl|rfl|rfl|rfl|rfl
 ·exact ⟨([eJ 1],1),by simp [eR],by rw [e0];decide +kernel,e0.symm⟩
 ·exact ⟨([eJ 2,dN],2),by simp [eR],by rw [e1];decide +kernel,e1.symm⟩
 ·exact ⟨([eJ 4],4),by simp [eR],by rw [e2];decide +kernel,e2.symm⟩
 ·exact ⟨([eJ 8],8),by simp [eR],by rw [e3];decide +kernel,e3.symm⟩
 ·exact ⟨([eJ 16],16),by simp [eR],by rw [e4];decide +kernel,e4.symm⟩
 ·exact ⟨([eJ 32],32),by simp [eR],by rw [e5];decide +kernel,e5.symm⟩
def Vr (o:Int) : 0<=pw o:=by unfold pw;exact Int.le_of_lt (Int.pow_pos (by decide))
def fv.pos {c n:Int} {u:ag×Int×Int} (h:fv s c n u) (h0:u.2.2=0) : 1<=n:=by
 cases h with
 | bad|range|size=>simp at h0
 | obj _ hn _=>exact hn.1
 | fault _ hn _ _|bD _ hn _ _=>omega
def nW.pos {c n:Int} {u:ag×Int×Int} (h:nW s c a n u) (h0:u.2.2=0) : 1<=n:=by
 cases h with
 | size _ he=>exact absurd h0 he
 | range=>simp at h0
 | stay _ _ hc _=>exact hc.2
 | fault _ _ hc _ _ _=>exact hc.2
 | free _ _ hc _ _ _ _ _=>exact hc.2
 | ok _ _ hc _ _ _ _ _=>exact hc.2
def Ew (h:Out cp s l) {a:cr} (hk:a.Kind=8) (hu:cu s a u) (h0:u.2.Code=0) : Out cp u.1 (l++[⟨u.2.N,a.N,8,⟨#[]⟩,0,false⟩]):=by
 obtain ⟨v,hv,rfl⟩:=hu.of8 hk;simp only at h0 ⊢;rw [nH h0];obtain ⟨q,h1,h2,h3,h4,h5⟩:=hv.step h.sys h0
 have hq:a.N<=jC s q∧we s q:=by
  rcases h5 with ⟨i,rfl,hn,hi⟩|⟨rfl,hn⟩
  ·obtain ⟨j,hj,e1,e2⟩:=xv h.shape hn;obtain rfl:i=j:=by omega
   exact ⟨e2,JS h.shape hj⟩
  ·exact ⟨Df hn,Gi s _⟩
 exact h.more h1 h3 h2 ⟨by have:=hv.pos h0;simp only;omega,hq.1⟩ (.inr (.inl ⟨rfl,hq.2⟩)) (fun _=>rfl) rfl
def Iz (h:Out cp s l) {a:cr} (hk:a.Kind=1) (hu:cu s a u) (h0:u.2.Code=0) : Out cp u.1 (l++[⟨u.2.N*16,16*pw a.N,1,⟨#[]⟩,0,false⟩]):=by
 obtain ⟨v,hv,rfl⟩:=hu.Z4 hk;simp only at h0 ⊢;rw [nH h0];have h1:=Bb h.sys.may hv h0;have h2:=fun q=>v8 h.sys.may hv h0 q
 have e : 16*v.2.1=v.2.1*16:=by omega
 rw [e] at h1 h2;exact h.more h1 (Ev h.sys hv h0) h2 ⟨by have:=Vr a.N;simp only;omega,agl _⟩ (.inl ⟨rfl,_,rfl⟩) (fun _=>rfl) rfl
def Ex (h:Out cp s l) : idxOf (dr nt) s.aa=(6:Int)∧pC s 6=5:=by
 rw [v9,tL,h.shape];exact ⟨by decide +kernel,by decide +kernel⟩
def Gj (h:Out cp s l) : idxOf (dr dN) s.aa=(1:Int)∧pC s 1=2:=by
 rw [v9,tL,h.shape];exact ⟨by decide +kernel,by decide +kernel⟩
def oR (n:ByteArray) : Int:=if n=nt then 5 else if n=dN then 2 else 0
def Qc:dN≠nt:=by decide +kernel
def N8 (h:Out cp s l) {a:cr} (hk:a.Kind=5) (hn:a.Name=nt∨a.Name=dN) (hu:cu s a u) (h0:u.2.Code=0) : Out cp u.1 (l++[⟨u.2.N,oR a.Name,5,a.Name,0,false⟩]):=by
 obtain ⟨v,hv,rfl⟩:=hu.of5 hk;simp only at h0 ⊢;rw [nH h0];obtain ⟨i,e,h1,h2⟩:=hv.step h.sys h0;have hI:=hv.JM h.sys h0;rcases hn with hn|hn
 ·rw [hn] at e ⊢;obtain ⟨e1,e2⟩:=Ex h;obtain rfl:i=6:=by omega
  exact h.more h1 hI h2 (by simp only [oR,if_true,jC,e2];decide) (.inr (.inr ⟨rfl,.inl ⟨rfl,rfl⟩⟩)) (fun h=>absurd rfl h) rfl
 ·rw [hn] at e ⊢;obtain ⟨e1,e2⟩:=Gj h;obtain rfl:i=1:=by omega
  exact h.more h1 hI h2 (by simp only [oR,if_neg Qc,if_true,jC,e2];decide) (.inr (.inr ⟨rfl,.inr ⟨rfl,rfl⟩⟩)) (fun h=>absurd rfl h) rfl
def Lq (h:Out cp s l) {a:cr} (hk:a.Kind=15) (hn:a.Name=nt) (hu:cu s a u) (h0:u.2.Code=0) : Out cp u.1 (l++u.2.L.map fun p=>⟨p,5,5,a.Name,0,false⟩)∧(u.2.L.length:Int)=a.N:=by
 obtain ⟨v,hv,rfl⟩:=hu.Ys hk;simp only at h0 ⊢;rw [nH h0];obtain ⟨i,e,h1,h2,h3,h4,h5⟩:=hv.step h.sys h0;rw [hn] at e ⊢;obtain ⟨e1,e2⟩:=Ex h;obtain rfl:i=6:=by omega
 exact ⟨h.many h4 h5 h1 h3 (by rw [e2];decide) (.inl ⟨rfl,rfl⟩),h2⟩
def xw (h:Out cp s l) {a:cr} (hk:a.Kind=12∨a.Kind=7∨a.Kind=14) (hu:cu s a u) : Out cp u.1 l:=by
 by_cases h0:u.2.Code=0
 ·rcases hk with hk|hk|hk
  ·have:=hu.Vq hk
   subst this;simp only at h0 ⊢;rw [nH h0];have hI:=rG hk s _ h.sys (.drain hk);rw [nH h0] at hI;exact h.same (It h.sys.may) hI
  ·have:=hu.of7 hk
   subst this;simp only at h0 ⊢;rw [nH h0];obtain ⟨h1,h2,_⟩:=pE h.sys h0;exact h.same h1 h2
  ·obtain ⟨v,hv,rfl⟩:=hu.Z7 (.inr hk);simp only at h0 ⊢;rw [nH h0];cases hv with
   | no=>simp at h0
   | read=>exact h
   | range=>simp at h0
   | write _ SV=>exact absurd hk SV
 ·rw [hu.fail h0];exact h
def tO (h:Out cp s l) (hi:i<l.length) {a:cr} (hk:(a.Kind=9∨a.Kind=6)∧a.At=l[i].At∨a.Kind=2∧a.At*16=l[i].At) (hu:cu s a u) (h0:u.2.Code=0) : Out cp u.1 (l.eraseIdx i):=by
 rcases hk with ⟨hk|hk,e⟩|⟨hk,e⟩
 ·obtain ⟨v,hv,rfl⟩:=hu.Z6 hk;simp only at h0 ⊢;rw [nH h0];obtain ⟨h1,h2⟩:=hv.step h.sys h0;rw [e] at h1;exact h.less hi h1 h2
 ·obtain ⟨v,hv,rfl⟩:=hu.Z9 hk;simp only at h0 ⊢;rw [nH h0];have h1:=(hv.step h.sys h0).1;rw [e] at h1;exact h.less hi h1 (hv.jQ h.sys h0)
 ·have hs:=xX hk s _ h.sys hu;obtain ⟨v,hv,rfl⟩:=hu.Z5 hk;simp only at h0 hs ⊢;rw [nH h0] at hs ⊢;cases hv with
  | range|no=>simp at h0
  | fault _ _ he=>exact absurd h0 he
  | ok hr hw he =>
    have hm:=h.sys.may.heap;obtain ⟨hf,_,_⟩:=dG hw;rw [show a.At*16 / 16=a.At by omega] at hf;by_cases hc : 0<=a.gl∧a.gl<s.Heap.bJ
    ·rw [lS (bT.2 hm) hc hf] at hs ⊢;have h1:=Dc h.sys.may hc hw;rw [e] at h1;exact h.less hi h1 hs
    ·rw [yW (bT.2 hm) hc] at he;exact absurd he (by simp)
def Lr (h:Out cp s l) (hi:i<l.length) {a:cr} (hk:a.Kind=11) (ht:l[i].Kind=8) (e:a.At=l[i].At) (hu:cu s a u) (h0:u.2.Code=0) : Out cp u.1 (l.set i ⟨u.2.N,a.N,l[i].Kind,l[i].Name,l[i].Word,l[i].uu⟩):=by
 obtain ⟨v,hv,rfl⟩:=hu.Yr hk;simp only at h0 ⊢;rw [nH h0];obtain ⟨q,hq⟩:=h.fits _ (aet hi)
 have hm:we s q:=by
  rcases hq.kind with ⟨h1,_⟩|⟨_,h2⟩|⟨h1,_⟩
  ·omega
  ·exact h2
  ·omega
 have kb : 0<=a.N:=by have:=hv.pos h0;omega
 rw [e] at hv
 rcases hv.step h.sys hq.nA hm (fun i hn hi=>by
  obtain ⟨j,_,e1,e2⟩:=xv h.shape hn;obtain rfl:i=j:=by omega
  exact e2) h0 with ⟨rfl,hn⟩|⟨r,h1,h2,h3,h4,h5,h6,h7⟩
 ·simp only;have hr:=fi h.sys.may hq.nA;obtain ⟨_,hw⟩:=xu h.sys hq.nA (a:=l[i].At) (m:=s.Words.getD l[i].At.toNat 0) (agl _) (by omega)
  have es:(⟨s.Words.set l[i].At.toNat (s.Words.getD l[i].At.toNat 0),s.Heap,s.aa⟩ : ag)=s:=by
   have e8:l[i].At.toNat<s.Words.length:=by have:=h.sys.may.words;omega
   have:s.Words.getD l[i].At.toNat 0=s.Words[l[i].At.toNat]:=by simp [List.getD,e8]
   rw [this,afb]
  rw [es] at hw;exact h.put hi (q:=q) (z:=⟨l[i].At,a.N,l[i].Kind,l[i].Name,l[i].Word,l[i].uu⟩) hw h.sys (.inl rfl) ⟨hq.nA,⟨kb,hn⟩,hq.kind,hq.name,hq.word⟩
 ·refine h.put hi (q:=r) h1 h2 (.inr h5) ⟨(h1.aw r v.2.1).2 (.inr ⟨rfl,rfl⟩),by rw [h1.ext];exact ⟨kb,h3⟩,.inr (.inl ⟨ht,?_⟩),hq.name,fun hw => ?_⟩
  ·rcases h7 with ⟨j,rfl,hn,hj⟩|⟨rfl,hn⟩
   ·obtain ⟨k,hk6,e1,e2⟩:=xv h.shape hn;obtain rfl:j=k:=by omega
    exact (JS h.shape hk6).j9 h1.shape
   ·exact Gi _ _
  ·simp only;rw [h6];exact hq.word hw
def IA (h:Out cp s l) (hi:i<l.length) {a:cr} (hk:a.Kind=13) (e:a.At=l[i].At) (hu:cu s a u) (h0:u.2.Code=0) : Out cp u.1 (l.set i ⟨l[i].At,l[i].ay,l[i].Kind,l[i].Name,a.M,true⟩):=by
 obtain ⟨v,hv,rfl⟩:=hu.Z7 (.inl hk);simp only at h0 ⊢;rw [nH h0];obtain ⟨q,hq⟩:=h.fits _ (aet hi);have hr:=fi h.sys.may hq.nA;cases hv with
 | no=>simp at h0
 | range=>simp at h0
 | read _ SV=>omega
 | write hw bP hm =>
   simp only;rw [e];obtain ⟨h1,h2⟩:=xu h.sys hq.nA (a:=l[i].At) (m:=a.M) (agl _) (by omega);refine h.put hi (q:=q) (z:=⟨l[i].At,l[i].ay,l[i].Kind,l[i].Name,a.M,true⟩) h2 h1 (.inl rfl) ⟨(h2.aw q _).2 (.inr ⟨rfl,rfl⟩),by rw [h2.ext];exact hq.size,?_,hq.name,fun _ => ?_⟩
   ·rcases hq.kind with h3|⟨h3,h4⟩|h3
    ·exact .inl h3
    ·exact .inr (.inl ⟨h3,h4.j9 h2.shape⟩)
    ·exact .inr (.inr h3)
   ·simp only;rw [afA (by have:=h.sys.may.words;omega)]
end
def Gk (A:Option Addr) (n c:Nat) (l:List Region) (w:World) (hl:Sl w 2 iB A n l) (hn:n<=9223372036854775807) :
 bI prog 73 [.slice A n c] w fun v _=>v = .bool (fg l):=by
 refine Wj func73 ntmps73 ?_;have hw:=Ext.refl w;have hA:=hl.base;have mx:=hl.len;repeat' (first|refine Wz ?_|(refine CW.vd rfl (fun h => ?_) (fun h => ?_)))
 ·refine ae.bh rfl rfl ⟨_,rfl,hw,?_⟩;rw [qX (fun h=>by have:=h.1;omega)]
 ·refine CW.loop (fun k:Nat=>[(0,.slice A n c),(8,.slice A n c),(9,.int .i64 (n:Int)),(10,.int .i64 (k:Int))]) (fun k w'=>k<=n∧Ext w w' ∧ ∀ (i:Nat) (h:i<l.length),i<k->(l[i]).ok ∧ ∀ (h0 : 0<i),(l[i-1]'(by omega)).aT+(l[i-1]'(by omega)).ay<(l[i]).aT)
   (fun k=>n-k) 0 ⟨rfl,rfl,rfl,rfl,trivial⟩ ⟨by omega,hw,fun i h hi=>by omega⟩ ?_
  clear hw;rintro k w' ⟨hk,hw,hI⟩
  by_cases gC:k<n
  ·have iR:=hl.lt gC;have fP:∀ {w1 w2:World} {b:Nat},Ext w w1->w.heap.size<=b->w1.grownBy w2 (some b)->Ext w w2:=fun h1 h2 hg=>aD h1 hg (aew _) (fun k e=>by cases e;exact h2)
   by_cases mm:(l[k]).ok
   ·by_cases BG:k=0
    ·subst BG;repeat' (first|refine Wz ?_|refine Wo hw ((hl.all gC)) ?_)
     refine SW.alloc rfl fun b w1 ah hb hB => ?_
     have EG:=hw.up hb
     have hw:=hw.trans ah;refine Wz ?_;refine Wg hB (iK.one (enc:=iB) _) fun w2 qO hg => ?_
     have hw:=fP hw EG hg;repeat' (first|refine Wz ?_|((apply CW.bH mixed;(· kernel_rfl);rotate_left;intro w1 ah;obtain ⟨hw,qO⟩:=cT ah hw qO;clear ah;rotate_right))|refine SW.dI rfl rfl (fun w1 ah=>(sv mm _)) ?_|exact SW.eU rfl)
     refine ae.again (0+1) ⟨rfl,rfl,rfl,rfl,trivial⟩ (by omega) ⟨by omega,hw,fun i h hi => ?_⟩;obtain rfl:i=0:=by omega
     exact ⟨mm,fun h0=>by omega⟩
    ·obtain ⟨j,rfl⟩ : ∃ j,k=j+1:=⟨k-1,by omega⟩;have hj:j<n:=by omega
     have hp:=(hI j (hl.lt hj) (by omega)).1;by_cases e8:(l[j]'(hl.lt hj)).aT+(l[j]'(hl.lt hj)).ay<(l[j+1]).aT
     all_goals
      repeat' (first|refine Wz ?_|refine Wo hw ((hl.all gC)) ?_)
      refine SW.alloc rfl fun b w1 ah hb hB => ?_
      have EG:=hw.up hb
      have hw:=hw.trans ah;refine Wz ?_;refine Wg hB (iK.one (enc:=iB) _) fun w2 qO hg => ?_
      have hw:=fP hw EG hg;repeat' (first|refine Wz ?_|((apply CW.bH mixed;(· kernel_rfl);rotate_left;intro w1 ah;obtain ⟨hw,qO⟩:=cT ah hw qO;clear ah;rotate_right))|refine SW.st (cn (j) rfl rfl (by assumption) (by omega) (by omega)) rfl ?_|refine Wo hw ((hl.all hj)) ?_|refine SW.dI rfl rfl (fun w1 ah=>(sv mm _)) ?_|refine SW.dI rfl rfl (fun w1 ah=>(zK hp _)) ?_|exact SW.eU rfl)
     ·refine ae.again (j+1+1) ⟨rfl,rfl,rfl,rfl,trivial⟩ (by omega) ⟨by omega,hw,fun i h hi => ?_⟩;by_cases o6:i=j+1
      ·subst o6;exact ⟨mm,fun _=>e8⟩
      ·exact hI i h (by omega)
     ·refine ae.bh rfl rfl ⟨_,rfl,hw,?_⟩;rw [qX (fun h=>e8 ((h.2 (j+1) iR).2 (by omega)))]
   ·repeat' (first|refine Wz ?_|refine Wo hw ((hl.all gC)) ?_)
    refine SW.alloc rfl fun b w1 ah hb hB => ?_
    have EG:=hw.up hb
    have hw:=hw.trans ah;refine Wz ?_;refine Wg hB (iK.one (enc:=iB) _) fun w2 qO hg => ?_
    have hw:=fP hw EG hg;repeat' (first|refine Wz ?_|((apply CW.bH mixed;(· kernel_rfl);rotate_left;intro w1 ah;obtain ⟨hw,qO⟩:=cT ah hw qO;clear ah;rotate_right))|refine SW.dI rfl rfl (fun w1 ah=>(zJ mm _)) ?_|exact SW.eU rfl)
    refine ae.bh rfl rfl ⟨_,rfl,hw,?_⟩;rw [qX (fun h=>mm (h.2 k iR).1)]
  ·refine Wz ?_;refine ae.bh rfl rfl ⟨_,rfl,hw,?_⟩;rw [mB ⟨by omega,fun i h=>hI i h (by omega)⟩]
def qJ (A:Option Addr) (n c:Nat) (B:Option Addr) (m d:Nat) : List Value:=[.slice A n c,.slice B m d]
noncomputable def qK (x y:List Region) : Bool:=fg x && fg y
def Dh (A:Option Addr) (n c:Nat) (B:Option Addr) (m d:Nat) (x y:List Region) (w:World) (hx:Sl w 2 iB A n x) (hy:Sl w 2 iB B m y) (hn:n<=9223372036854775807) (hm:m<=9223372036854775807) :
 bI prog 36 [.agg (qJ A n c B m d).toArray] w fun v _=>v = .int .i64 (if qK x y then 0 else 8):=by
 refine Wj func36 ntmps36 ?_;refine Ww fun b w1 hw hb hB => ?_;obtain ⟨bx,hxb⟩ : ∃ b,fg x=b:=⟨_,rfl⟩;obtain ⟨bY,hyb⟩ : ∃ b,fg y=b:=⟨_,rfl⟩;have l1:∀ w',Ext w w'->bI prog 73 [.slice A n c] w' fun v _=>v = .bool bx:=fun w' h=>by have:=Gk A n c x w' (hx.ext h) hn;rwa [hxb] at this
 have l2:∀ w',Ext w w'->bI prog 73 [.slice B m d] w' fun v _=>v = .bool bY:=fun w' h=>by have:=Gk B m d y w' (hy.ext h) hm;rwa [hyb] at this
 cases bx<;>cases bY
 all_goals
  repeat' (first|refine Wz ?_|(first|refine CW.gG rfl ?_|refine CW.gj rfl ?_)|refine SW.want rfl rfl ?_|refine SW.skip rfl rfl rfl rfl ?_|((first|refine Wk (l1 _ hw) ?_|refine Wk (l2 _ hw) ?_);intro v w1 ah hv;subst hv;obtain ⟨hw,hB⟩:=cT ah hw hB;clear ah))
  refine ae.bh rfl rfl ⟨_,rfl,hw,?_⟩;simp [qK,hxb,hyb]
def IB {l:List Region} (hk:k<l.length) (i:Int) : eX (l.take (k+1)) i=(eX (l.take k) i || (decide ((l[k]).aT<=i) && decide (i<(l[k]).aT+(l[k]).ay))):=by
 unfold eX;rw [aeA hk,List.any_append];simp only [List.any_cons,List.any_nil,Bool.or_false]
def SY:marksOf (fun i=>eX [] i) 256=List.replicate 256 false:=by
 apply afj (by rw [E5,afv]);intro j h1 h2;rw [m8,List.getElem_replicate]
 rfl
def Bi (A:Option Addr) (n c:Nat) (l:List Region) (w:World) (hl:Sl w 2 iB A n l) (mm:∀ r∈l,r.ok) (hn:n<=9223372036854775807) :
 bI prog 37 [.slice A n c] w fun v w' => ∃ B d,v = .slice B 256 d∧Own w' w.heap.size 4 1 uI B 256 d (marksOf (fun i=>eX l i) 256):=by
 refine Wj func37 ntmps37 ?_;have hw:=Ext.refl w;have hA:=hl.base;refine Wz ?_;refine SW.make (enc:=uI) (k:=256) false rfl rfl rfl (by omega) (by omega) rfl fun B d w1 ah hS => ?_
 have dt:=hw.size;have hw:=hw.trans ah;have hS:=Own.low hS dt;have hBs:=hS.sl.base;refine Wz ?_
 refine CW.loop (fun k:Nat=>[(3,.slice B 256 d),(8,.slice A n c),(9,.int .i64 (n:Int)),(10,.int .i64 (k:Int))])
  (fun k w'=>k<=n∧Ext w w'∧Own w' w.heap.size 4 1 uI B 256 d (marksOf (fun i=>eX (l.take k) i) 256)) (fun k=>n-k) 0 ⟨rfl,rfl,rfl,rfl,trivial⟩ ⟨by omega,hw,by
    have e:marksOf (fun i=>eX (l.take 0) i) 256=List.replicate 256 false:=SY
    rw [e];exact hS⟩ ?_
 clear hw hS;rintro k w' ⟨hk,hw,hO⟩
 by_cases gC:k<n
 ·have iR:=hl.lt gC;have Bj:=mm (l[k]) (aet iR);obtain ⟨f,hf⟩:=aeE Bj.1;obtain ⟨s,hs⟩:=aeE (show 0<=(l[k]).ay by have:=Bj.2.1;omega);have aca:=Bj.2.2.2;repeat' (first|refine Wz ?_|refine Wo hw ((hl.all gC)) ?_)
  refine SW.alloc rfl fun b w1 ah hb hB => ?_
  have EG:=hw.up hb
  obtain ⟨hw,hO⟩:=cT ah hw hO;skip;refine Wg hB (iK.one (enc:=iB) _) fun w2 qO hg => ?_
  have hw:=hw.own EG hg;have hO:=hO.grown hg (.inr (hO.fr hB rfl));refine Wz ?_
  refine CW.loop (fun j:Nat=>[(3,.slice B 256 d),(5,.pointer (some ⟨b,0,none⟩)),(6,.int .i64 ((f+j:Nat) : Int)),(8,.slice A n c),(9,.int .i64 (n:Int)),(10,.int .i64 (k:Int))])
   (fun j w'=>j<=s∧Ext w w'∧aR w' b 79 (iB (l[k]))∧Own w' w.heap.size 4 1 uI B 256 d (marksOf (fun i=>eX (l.take k) i || (decide (f<=i) && decide (i<f+j))) 256)) (fun j=>s-j) 0
   ⟨rfl,rfl,by rw [hf];rfl,rfl,rfl,rfl,trivial⟩ ⟨by omega,hw,qO,by
    have e:marksOf (fun i=>eX (l.take k) i || (decide (f<=i) && decide (i<f+0))) 256=marksOf (fun i=>eX (l.take k) i) 256:=iP fun i _=>by
     have:(decide (f<=i) && decide (i<f+0))=false:=by
      rcases ae5 i f with h|h
      ·rw [decide_eq_false (by omega : ¬ f<=i)];rfl
      ·rw [decide_eq_false (by omega : ¬ i<f+0),Bool.and_false]
     rw [this,Bool.or_false]
    rw [e];exact hO⟩ ?_
  clear hw hO hB qO hg ah;rintro j w' ⟨hj,hw,qO,hO⟩
  by_cases Wx:j<s
  ·repeat' (first|refine Wz ?_|(refine Wk (zK Bj _) ?_;intro v w1 ah hv;subst hv;obtain ⟨hw,qO,hO⟩:=cd ah hw qO hO;clear ah))
   refine SW.gH (f+j) 0 true hO rfl rfl rfl (by omega) (by omega) (by rw [add_zero]) rfl fun w3 BM hg => ?_
   have hw:=aD hw hg (aew _) hO.aW;have qO:=qO.grown hg (fun e=>hO.fr qO rfl e.symm);rw [sA] at BM;refine Wz ?_;refine ae.again (j+1) ⟨rfl,rfl,rfl,rfl,rfl,rfl,trivial⟩ (by omega) ⟨by omega,hw,qO,?_⟩
   have e:marksOf (fun i=>eX (l.take k) i || (decide (f<=i) && decide (i<f+(j+1)))) 256=marksOf (fun i=>if i=f+j then true else eX (l.take k) i || (decide (f<=i) && decide (i<f+j))) 256:=iP fun i _=>by
    by_cases hi:i=f+j
    ·subst hi;have h1:f<=f+j:=by omega
     have h2:f+j<f+(j+1):=by omega
     simp [h1,h2]
    ·have e2:decide (i<f+(j+1))=decide (i<f+j):=by rw [decide_eq_decide];omega
     simp [hi,e2]
   rw [e];exact BM
  ·obtain rfl:j=s:=by omega
   repeat' (first|refine Wz ?_|(refine Wk (zK Bj _) ?_;intro v w1 ah hv;subst hv;obtain ⟨hw,qO,hO⟩:=cd ah hw qO hO;clear ah))
   refine ae.again (k+1) ⟨rfl,rfl,rfl,rfl,trivial⟩ (by omega) ⟨by omega,hw,?_⟩
   have e:marksOf (fun i=>eX (l.take (k+1)) i) 256=marksOf (fun i=>eX (l.take k) i || (decide (f<=i) && decide (i<f+j))) 256:=iP fun i _=>by
    rw [IB iR,hf,hs];have e1:decide (((f:Nat) : Int)<=(i:Int))=decide (f<=i):=by rw [decide_eq_decide];omega
    have e2:decide ((i:Int)<((f:Nat) : Int)+((j:Nat) : Int))=decide (i<f+j):=by rw [decide_eq_decide];omega
    rw [e1,e2]
   rw [e];exact hO
 ·refine Wz ?_;obtain rfl:k=n:=by omega
  refine ae.bh rfl rfl ⟨_,rfl,hw,B,d,rfl,?_⟩;rwa [aeF (by have:=hl.len;omega)] at hO
variable {b:Nat} {t:TypeId} {w:World}
def JT (lo:Nat) (l:List Region) (v:Value) (w:World) : Prop := ∃ A c,v = .slice A l.length c∧Own w lo 79 2 iB A l.length c l
def aR.slR {r:Region} {vs:List Value} (h:aR w b t vs) (e:vs=iB r) : Sl w 2 iB (some ⟨b,0,none⟩) 1 [r]:=by subst e;exact aR.wv h
def Ey (A:Option Addr) (c N:Nat) (hN:N=256) (p:Nat->Bool) (w:World) (hl:Sl w 1 uI A N (marksOf p N)) :
 bI prog 38 [.slice A N c] w (JT w.heap.size (runs p N)):=by
 refine Wj func38 ntmps38 ?_;have hw:=Ext.refl w;have hA:=hl.base;have xF:∀ k,k<N->w.cell? ((A.getD default).add (k*1))=some (.bool (p k)):=fun k hk=>hl.one hk (by rw [m8];rfl)
 refine Wz ?_
 refine CW.loop (fun s:Nat×Option Addr×Nat=>[(3,.slice s.2.1 (runs p s.1).length s.2.2),(7,.slice A N c),(8,.int .i64 (N:Int)),(9,.int .i64 (s.1:Int))])
  (fun s w'=>s.1<=N∧Ext w w'∧Own w' w.heap.size 79 2 iB s.2.1 (runs p s.1).length s.2.2 (runs p s.1)) (fun s=>N-s.1) (0,none,0) ⟨rfl,rfl,rfl,rfl,trivial⟩ ⟨by omega,hw,Own.fC _ _ _ _ _ _⟩ ?_
 clear hw;rintro ⟨k,A1,c1⟩ w' ⟨hk,hw,hO⟩
 simp only at hk hO ⊢;have mm:=vt p k;have hlen:=mm.len;by_cases gC:k<N
 ·obtain ⟨bk,Cr⟩ : ∃ b,p k=b:=⟨_,rfl⟩;have hc:=xF k gC;rw [Cr] at hc;cases bk
  ·have e:runs p (k+1)=runs p k:=by simp [runs,Cr]
   repeat' (first|refine Wz ?_|(refine CW.gG rfl ?_)|refine SW.st (mX hw rfl hc) rfl ?_)
   refine ae.again (k+1,A1,c1) ⟨by rw [e];rfl,rfl,rfl,rfl,trivial⟩ (by simp only;omega) ⟨by simp only;omega,hw,by simp only;rw [e];exact hO⟩
  ·by_cases hq : 0<k∧p (k-1)=true
   ·obtain ⟨init,r,hr,hre⟩:=mm.last hq.1 hq.2;have e:runs p (k+1)=init++[⟨r.aT,r.ay+1⟩]:=by simp [runs,Cr,hq,hr,pj]
    have yZ:=mm.Qz r (by rw [hr];simp);have Bj:r.ok:=⟨yZ.1,yZ.2.1,by omega,by omega⟩
    rw [hr] at hO hlen ⊢;have tU:(init++[r]).length=init.length+1:=by simp
    rw [tU] at hO hlen;rw [tU];have pr:=hO.sl.base;have ig:(init++[r])[init.length]'(by simp)=r:=by simp
    have fc:=hO.sl.all (i:=init.length) (by omega);rw [ig] at fc;have SZ:(init++[r]).set init.length ⟨r.aT,r.ay+1⟩=init++[⟨r.aT,r.ay+1⟩]:=by simp
    refine CW.seq ?_;repeat' (first|refine Wz ?_|(refine CW.gj rfl ?_)|refine SW.st (cn (init.length) rfl rfl (by assumption) (by omega) (by omega)) rfl ?_|refine SW.st (mX hw rfl hc) rfl ?_)
    refine SW.st (aY rfl rfl fc) rfl ?_;repeat' (first|refine Wz ?_|refine SW.st (cn (init.length) rfl rfl (by assumption) (by omega) (by omega)) rfl ?_|(refine SW.call rfl rfl (zK Bj _) ?_;intro v w1 ah hv;subst hv;have hw:=hw.trans ah;have hO:=hO.ext ah;clear ah))
    have fc:=hO.sl.all (i:=init.length) (by omega);rw [ig] at fc;refine SW.st (aP rfl (fc 1 (.int .i64 r.ay) rfl)) rfl ?_;repeat' (first|refine Wz ?_|refine SW.st (cn (init.length) rfl rfl (by assumption) (by omega) (by omega)) rfl ?_)
    refine SW.gH init.length 1 ⟨r.aT,r.ay+1⟩ hO rfl rfl rfl (by omega) (by omega) rfl (by rw [ig];rfl) fun w2 bg hg => ?_
    have hw:=aD hw hg (aew _) hO.aW;refine Wz ?_;refine ae.again (k+1,A1,c1) ⟨by simp only [e];simp [get];rfl,rfl,rfl,rfl,trivial⟩ (by simp only;omega) ⟨by simp only;omega,hw,?_⟩;simp only [e];rw [SZ] at bg;simpa using bg
   ·have e:runs p (k+1)=runs p k++[⟨(k:Int),1⟩]:=by
     simp only [runs,Cr,if_true];rw [if_neg hq]
    have rC:∀ r∈runs p k,r.aT+r.ay<(k:Int):=mm.below fun h0=>by
     cases hh:p (k-1) with
     | false=>rfl
     | true=>exact absurd ⟨h0,hh⟩ hq
    have pr:=hO.sl.base;rcases afL (runs p k) with hn|⟨init,r,hr⟩
    ·rw [hn] at hO hlen e ⊢;simp only [List.length_nil];repeat' (first|refine Wz ?_|(refine CW.gj rfl ?_)|refine SW.st (mX hw rfl hc) rfl ?_)
     refine SW.dR rfl rfl rfl rfl rfl fun b w1 ah hb hB => ?_
     have hw:=hw.trans ah;have hO:=hO.ext ah;refine SW.append hO (aR.slR (r:=⟨(k:Int),1⟩) hB rfl) hw.size rfl rfl rfl (by simp) (by simp) fun A2 c2 w2 lO hg => ?_
     have hw:=aD hw hg (aew _) hO.aW;refine Wz ?_;refine ae.again (k+1,A2,c2) ⟨by simp only [e];rfl,rfl,rfl,rfl,trivial⟩ (by simp only;omega) ⟨by simp only;omega,hw,?_⟩;simp only [e];exact lO
    ·have qN:runs p k=init++[r]:=by simpa using hr
     have yZ:=mm.Qz r (by rw [qN];simp);have Bj:r.ok:=⟨yZ.1,yZ.2.1,by omega,by omega⟩
     have QG:=rC r (by rw [qN];simp);rw [qN] at hO hlen e ⊢;have tU:(init++[r]).length=init.length+1:=by simp
     rw [tU] at hO hlen;rw [tU];have pr:=hO.sl.base;have ig:(init++[r])[init.length]'(by simp)=r:=by simp
     have fc:=hO.sl.all (i:=init.length) (by omega);rw [ig] at fc;repeat' (first|refine Wz ?_|(refine CW.gj rfl ?_)|refine SW.st (cn (init.length) rfl rfl (by assumption) (by omega) (by omega)) rfl ?_|refine SW.st (mX hw rfl hc) rfl ?_)
     refine SW.st (aY rfl rfl fc) rfl ?_;repeat' (first|refine Wz ?_|(refine SW.call rfl rfl (zK Bj _) ?_;intro v w1 ah hv;subst hv;have hw:=hw.trans ah;have hO:=hO.ext ah;clear ah))
     refine SW.dR rfl rfl rfl rfl rfl fun b w1 ah hb hB => ?_
     have hw:=hw.trans ah;have hO:=hO.ext ah;refine SW.append hO (aR.slR (r:=⟨(k:Int),1⟩) hB rfl) hw.size rfl rfl rfl (by omega) (by omega) fun A2 c2 w2 lO hg => ?_
     have hw:=aD hw hg (aew _) hO.aW;refine Wz ?_;refine ae.again (k+1,A2,c2) ⟨by simp only [e];simp [get];rfl,rfl,rfl,rfl,trivial⟩ (by simp only;omega) ⟨by simp only;omega,hw,?_⟩;simp only [e];simpa using lO
 ·refine Wz ?_;obtain rfl:k=N:=by omega
  exact ae.bh rfl rfl ⟨_,rfl,hw,A1,c1,rfl,hO⟩
variable {β:Type} {N d lo oV m sz sz':Nat} {A B:Option Addr} {e e':TypeId} {w':World} {enc:α -> List Value} {Xw:β -> List Value}
def Own.S0 {c:Nat} {l:List α} {l':List β}
 (hO:Own w lo e sz enc A m c l) (hS:Own w' oV e' sz' Xw B k d l') (hle:w.heap.size<=oV) : (aG A c=none∨aG A c≠aG B d)∧(aG B d=none∨aG B d≠aG A c):=by
 rcases hO.row with ⟨_,rfl⟩|⟨hc,g,ka,rfl,_,h2,_⟩
 ·refine ⟨.inl (by simp [aG]),?_⟩;rcases hS.row with ⟨_,rfl⟩|⟨hd,g',Yt,rfl,_,nI,_⟩
  ·exact .inl (by simp [aG])
  ·exact .inr (by simp [aG,Nat.pos_iff_ne_zero.1 hd])
 ·have hg:g<w.heap.size:=(aeJ.1 h2).1
  rcases hS.row with ⟨_,rfl⟩|⟨hd,g',Yt,rfl,dt,nI,_⟩
  ·exact ⟨.inr (by simp [aG,Nat.pos_iff_ne_zero.1 hc]),.inl (by simp [aG])⟩
  ·have bG:g≠g':=by omega
   exact ⟨.inr (by simp [aG,Nat.pos_iff_ne_zero.1 hc,Nat.pos_iff_ne_zero.1 hd,bG]),.inr (by simp [aG,Nat.pos_iff_ne_zero.1 hc,Nat.pos_iff_ne_zero.1 hd,bG.symm])⟩
def lC (x y:List Region) (i:Nat) : Bool:=eX x i && !eX y i
def N9 {x y:List Region} (h:qK x y=true) : (∀ r∈x,r.ok)∧(∀ r∈y,r.ok):=by
 simp only [qK,Bool.and_eq_true,vl] at h
 have key:∀ l:List Region,iw l -> ∀ r∈l,r.ok:=fun l hl r hr=>by
  obtain ⟨i,hi,rfl⟩:=aeu hr;exact (hl.2 i hi).1
 exact ⟨key x h.1,key y h.2⟩
noncomputable def jD (N:Nat) (x y:List Region) : Int×List Region:=if qK x y then (0,runs (lC x y) N) else (8,[])
def Ls (lo:Nat) (r:Int×List Region) (v:Value) (w:World) : Prop := ∃ A c,v = .tuple #[.slice A r.2.length c,.int .i64 r.1]∧Own w lo 79 2 iB A r.2.length c r.2
def xy {x y:List Region} (h:qK x y=true) : jD N x y=(0,runs (lC x y) N):=by simp [jD,h]
def Di {x y:List Region} (h:qK x y=false) : jD N x y=(8,[]):=by simp [jD,h]
def IC (A:Option Addr) (n c:Nat) (B:Option Addr) (m d:Nat) (x y:List Region) (N:Nat) (hN:N=256) (w:World) (hx:Sl w 2 iB A n x) (hy:Sl w 2 iB B m y) (hn:n<=9223372036854775807) (hm:m<=9223372036854775807) :
 bI prog 14 [.agg (qJ A n c B m d).toArray] w (Ls w.heap.size (jD N x y)):=by
 refine Wj func14 ntmps14 ?_;refine Ww fun b w1 hw hb hB => ?_;obtain ⟨q,hq⟩ : ∃ b,qK x y=b:=⟨_,rfl⟩;have c1:∀ w',Ext w w'->bI prog 36 [.agg (qJ A n c B m d).toArray] w' fun v _=>v = .int .i64 (if q then 0 else 8):=fun w' h=>by have:=Dh A n c B m d x y w' (hx.ext h) (hy.ext h) hn hm;rwa [hq] at this
 cases q
 ·simp only [Bool.false_eq_true,if_false] at c1;rw [Di hq];repeat' (first|refine Wz ?_|(refine Wk (c1 _ hw) ?_;intro v w1 ah hv;subst hv;obtain ⟨hw,hB⟩:=cT ah hw hB;clear ah))
  exact ae.dl rfl rfl rfl ⟨_,rfl,hw,none,0,rfl,Own.fC _ _ _ _ _ _⟩
 ·simp only [if_true] at c1;rw [xy hq];obtain ⟨hxo,hyo⟩:=N9 hq;repeat' (first|refine Wz ?_|(refine Wk (c1 _ hw) ?_;intro v w1 ah hv;subst hv;obtain ⟨hw,hB⟩:=cT ah hw hB;clear ah))
  refine CW.cut (fun L' w' => ∃ M d1 M2 d2,iM L' [(5,.slice M 256 d1),(6,.slice M2 256 d2)]∧Ext w w'∧Own w' w.heap.size 4 1 uI M 256 d1 (marksOf (fun i=>eX x i) 256)∧Own w' w.heap.size 4 1 uI M2 256 d2 (marksOf (fun i=>eX y i) 256)∧(aG M2 d2=none∨aG M2 d2≠aG M d1)) ?_ ?_
  ·refine CW.any 6 mixed (db (by kernel_rfl)) rfl fun w1 ah aI => ?_
   obtain ⟨hw,hB⟩:=cT ah hw hB;clear ah;refine Wa ?_;refine SA.bZ 2 ?_;refine Wk (Bi _ _ _ _ _ (hx.ext hw) hxo hn) fun v w2 ar hv => ?_
   obtain ⟨M,d1,rfl,hM⟩:=hv;have hM:=hM.low hw.size;obtain ⟨hw,hB⟩:=cT ar hw hB;refine SW.nil (ae.sa ar ?_);refine SA.bZ 5 ?_;refine Wk (Bi _ _ _ _ _ (hy.ext hw) hyo hm) fun v w3 ar hv => ?_
   obtain ⟨M2,d2,rfl,vB⟩:=hv;have bG:=(hM.S0 vB (aew _)).2;have vB:=vB.low hw.size;obtain ⟨hM,hw,hB⟩:=cd ar hM hw hB;refine SW.nil (ae.sa ar ?_);refine SA.fZ ?_;refine Wz ?_;exact ae.cut (K:=fun L' w' => ∃ M d1 M2 d2,iM L' [(5,.slice M 256 d1),(6,.slice M2 256 d2)]∧Ext w w'∧Own w' w.heap.size 4 1 uI M 256 d1 (marksOf (fun i=>eX x i) 256)∧Own w' w.heap.size 4 1 uI M2 256 d2 (marksOf (fun i=>eX y i) 256)∧(aG M2 d2=none∨aG M2 d2≠aG M d1)) ⟨M,d1,M2,d2,⟨rfl,rfl,trivial⟩,hw,hM,vB,bG⟩
  ·clear hB hw c1;rintro L' w' ⟨M,d1,M2,d2,hs,hw,hM,vB,bG⟩
   refine ae.sub hs ?_;have hMb:=hM.sl.base;have ace:=vB.sl.base;have e0:marksOf (fun i=>eX x i) 256=marksOf (fun i=>if i<0 then lC x y i else eX x i) 256:=iP fun i _=>by rw [if_neg (by omega)]
   rw [e0] at hM;clear e0;refine Wz ?_
   refine CW.loop (fun k:Nat=>[(5,.slice M 256 d1),(6,.slice M2 256 d2),(20,.int .i64 256),(21,.int .i64 (k:Int))])
    (fun k w'=>k<=256∧Ext w w'∧Own w' w.heap.size 4 1 uI M 256 d1 (marksOf (fun i=>if i<k then lC x y i else eX x i) 256)∧Own w' w.heap.size 4 1 uI M2 256 d2 (marksOf (fun i=>eX y i) 256)) (fun k=>256-k) 0 ⟨rfl,rfl,rfl,rfl,trivial⟩ ⟨by omega,hw,hM,vB⟩ ?_
   clear hw hM vB;rintro k w' ⟨hk,hw,hM,vB⟩
   by_cases gC:k<256
   ·obtain ⟨bx,Wh⟩ : ∃ b,eX x k=b:=⟨_,rfl⟩;obtain ⟨bY,yL⟩ : ∃ b,eX y k=b:=⟨_,rfl⟩;have h1:w'.cell? ((M.getD default).add (k*1))=some (.bool bx):=hM.sl.one gC (by rw [m8,if_neg (by omega),Wh];rfl)
    have h2:w'.cell? ((M2.getD default).add (k*1))=some (.bool bY):=vB.sl.one gC (by rw [m8,yL];rfl)
    have hf:lC x y k=(bx && !bY):=by simp [lC,Wh,yL]
    have e1:marksOf (fun i=>if i<k+1 then lC x y i else eX x i) 256=marksOf (fun i=>if i=k then (bx && !bY) else if i<k then lC x y i else eX x i) 256:=iP fun i _=>by
     by_cases hi:i=k
     ·subst hi;rw [if_pos (by omega),if_pos rfl,hf]
     ·rw [if_neg hi];by_cases h2:i<k
      ·rw [if_pos (by omega),if_pos h2]
      ·rw [if_neg (by omega),if_neg h2]
    cases bx<;>cases bY
    all_goals
     repeat' (first|refine Wz ?_|refine Wl h1 ?_|refine Wl h2 ?_)
     first
      | refine SW.gH k 0 true hM rfl rfl rfl gC (by omega) (by rw [add_zero]) rfl fun w3 BM hg => ?_
      | refine SW.gH k 0 false hM rfl rfl rfl gC (by omega) (by rw [add_zero]) rfl fun w3 BM hg => ?_
     have hw:=aD hw hg (aew _) hM.aW;have vB:=vB.grown hg bG;rw [sA] at BM;refine Wz ?_;exact ae.again (k+1) ⟨rfl,rfl,rfl,rfl,trivial⟩ (by omega) ⟨by omega,hw,by rw [e1];exact BM,vB⟩
   ·have e:marksOf (fun i=>if i<k then lC x y i else eX x i) 256=marksOf (lC x y) 256:=iP fun i hi=>by rw [if_pos (by omega)]
    rw [e] at hM
    have Vs:∀ w',Sl w' 1 uI M 256 (marksOf (lC x y) 256)->bI prog 38 [.slice M 256 d1] w' (JT w'.heap.size (runs (lC x y) N)):=fun w' h=>by
     have E2:Sl w' 1 uI M N (marksOf (lC x y) N):=by rw [hN];exact h
     have h1:=Ey M d1 N hN (lC x y) _ E2;rwa [show Value.slice M N d1 = .slice M 256 d1 by rw [hN]] at h1
    refine Wz ?_;refine Wk (Vs _ hM.sl) fun v w3 nL hv => ?_
    obtain ⟨A2,c2,rfl,bg⟩:=hv;have dt:=hw.size;have hw:=hw.trans nL;refine Wz ?_;exact ae.dl rfl rfl rfl ⟨_,rfl,hw,A2,c2,rfl,bg.low dt⟩
set_option maxHeartbeats 4000000 in
def Lt (r:eG) (z:aj) (f s:Int) (w:World) (hr:Hb w r z) (hf:(r.ai.n+1)*24<=140737488355328) (ht:r.Types.n*8<=140737488355328) (h1 : -9223372036854775808<=r.aT∧r.aT<=9223372036854775807) (h2 : -9223372036854775808<=r.To∧r.To<=9223372036854775807) :
 bI prog 40 [.agg (dq r).toArray,.int .i64 f,.int .i64 s] w (yN w.heap.size (qe z f s)):=by
 refine Wj func40 ntmps40 ?_;refine Ww fun b3 w1 hw cg ao => ?_;refine SW.alloc rfl fun b6 w2 bq dv ap => ?_
 have cQ:=hw.up dv
 have pi:b3≠b6:=by have:=ao.lt;omega
 (obtain ⟨hw,ao⟩:=cT bq hw ao);have eF:=hr.from_;have eT:=hr.pJ;have O8:=hr.free.len;have T0:=hr.types.len;obtain ⟨q,hq⟩ : ∃ q,fT z=q:=⟨_,rfl⟩
 have c1:∀ w',Ext w w'->bI prog 75 [.agg (dq r).toArray] w' fun v _=>v = .int .i64 (if q then 0 else 8):=fun w' h=>by
  have:=lh r z w' (hr.ext h) (by omega) (by omega) h1 h2
  rwa [hq] at this
 cases q
 ·simp only [Bool.false_eq_true,if_false] at c1;rw [Jc hq];repeat' (first|refine Wz ?_|(refine Wk (c1 _ hw) ?_;intro v w1 ah hv;subst hv;obtain ⟨hw,ao,ap⟩:=cd ah hw ao ap;clear ah))
  refine Wg ap (fU .zero) fun w5 cK hg => ?_
  have hw:=hw.own cQ hg;refine Wz ?_;exact ae.dj rfl rfl rfl cK rfl ⟨_,rfl,hw,.zero,rfl,iS.zero _ _⟩
 ·simp only [if_true] at c1;have hz:=fD.1 hq;obtain ⟨o1,o2,o3,o4,o5⟩:=hz.ok;have Hv:=kO hz;by_cases Gl:m7 z f s
  ·obtain ⟨a1,a2,a3,a4⟩:=id Gl;obtain ⟨n,rfl⟩:=aeE a1;rw [Je hq Gl];repeat' (first|refine Wz ?_|(refine Wk (c1 _ hw) ?_;intro v w1 ah hv;subst hv;obtain ⟨hw,ao,ap⟩:=cd ah hw ao ap;clear ah))
   all_goals try omega
   refine Wk (tp r z _ (hr.ext hw) (by omega) ht) fun v w4 kN hv => ?_
   obtain ⟨u,rfl,hs,_,_⟩:=hv;have hs:=hs.low hw.size;(obtain ⟨hw,ao,ap⟩:=cd kN hw ao ap);clear c1;skip;refine Wg ao (fU u) fun w5 ef hg => ?_
   have hG:=ao.gr hg;have hw:=hw.own cg hg;have hs:=hs.eV ao hg rfl rfl;have ap:=ap.grown hg (by simpa using pi.symm);have ao:=ef;clear ef hg hG;refine Wz ?_
   refine CW.loop (fun t:Nat×aj×eG=>[(1,.int .i64 f),(2,.int .i64 (n:Int)),(3,.pointer (some ⟨b3,0,none⟩)),(6,.pointer (some ⟨b6,0,none⟩)),(9,.int .i64 (f+(t.1:Int)))])
    (fun t w'=>t.1<=n∧Ext w w'∧aR w' b3 113 (dq t.2.2)∧aR w' b6 113 (dq .zero)∧iS w' w.heap.size t.2.2 t.2.1∧vr n z f=vr (n-t.1) t.2.1 (f+(t.1:Int))∧t.2.1.ai.length<=257∧t.2.1.Types.length<=32∧t.2.1.aT=z.aT∧t.2.1.To=z.To) (fun t=>n-t.1) (0,z,u)
    ⟨rfl,rfl,rfl,rfl,congrArg (fun x=>some (Value.int .i64 x)) (by simp),trivial⟩ ⟨by omega,hw,ao,ap,hs,by simp,by simp only;omega,by simp only;omega,rfl,rfl⟩ ?_
   clear hw ao ap hs;rintro ⟨k,zc,u⟩ w' ⟨hk,hw,ao,ap,hs,EI,BQ,Um,XU,hl4⟩
   simp only at hk ao hs EI BQ Um XU hl4 ⊢;by_cases gC:k<n
   ·have e1:=hs.free.sl.len;have e2:=hs.types.sl.len;have e3:=hs.from_;have e4:=hs.pJ;have rC:=mE zc (f+(k:Int)) 0;refine Wz ?_;refine Wk (qf u zc (f+(k:Int)) 0 _ hs.rd (aev (aeW 24 (show u.ai.n+1<=258 by omega)) (by decide)) (by omega) ⟨by omega,by omega⟩ ⟨by omega,by omega⟩) fun v w5 oX hv => ?_
    obtain ⟨o,ho⟩ : ∃ o,ga zc (f+(k:Int)) 0=o:=⟨_,rfl⟩;rw [ho] at hv rC;obtain ⟨u',rfl,nJ⟩:=hv;have nJ:=nJ.low hw.size;(obtain ⟨hw,ao,ap,hs⟩:=dJ oX hw ao ap hs);refine Wz ?_;refine SW.alloc rfl fun oF w1 ah nb aC => ?_
    skip;refine Wg aC (fU _) fun w2 bA hg => ?_
    have ar:=ah.own nb hg;have il:=hw.up nb
    obtain ⟨hw,ao,ap,hs,nJ⟩:=fH ar hw ao ap hs nJ;have aC:=bA;clear bA ah hg ar;have aae:=ao.lt;obtain ⟨m,hm⟩ : ∃ m,n-k=m+1:=⟨n-k-1,by omega⟩;rw [hm] at EI;simp only [vr,ho] at EI;by_cases PG:o.1=0
    ·rw [if_pos PG] at EI;rw [PG];refine Wz ?_;refine Wg ao (fU u') fun w6 ef hg => ?_
     have hw:=hw.own cg hg;have nJ:=nJ.eV ao hg rfl rfl;have ap:=ap.grown hg (by simpa using pi.symm);refine Wz ?_;obtain ⟨q1,q2,q3⟩:=rC.2.2 PG;have e9:f+(k:Int)+1=f+((k+1:Nat) : Int):=by omega
     have e10:m=n-(k+1):=by omega
     exact ae.again (k+1,o.2,u') ⟨rfl,rfl,rfl,rfl,congrArg (fun x=>some (Value.int .i64 x)) e9,trivial⟩ (by simp only;omega) ⟨by simp only;omega,hw,ef,ap,nJ,by simp only;rw [<- e9,<- e10];exact EI,rC.1,rC.2.1,by simp only;omega,by simp only;omega⟩
    ·rw [if_neg PG] at EI;rw [EI];refine Wz ?_;refine Wg ap (fU .zero) fun w5 cK hg => ?_
     have hw:=hw.own cQ hg;refine Wz ?_;exact ae.dj rfl rfl rfl cK rfl ⟨_,rfl,hw,.zero,rfl,iS.zero _ _⟩
   ·have e0:n-k=0:=by omega
    rw [e0] at EI;simp only [vr] at EI;rw [EI];refine Wz ?_;refine Wg ap (fU u) fun w5 cK hg => ?_
    have hw:=hw.own cQ hg;have hs:=hs.eV ap hg rfl rfl;refine Wz ?_;exact ae.dj rfl rfl rfl cK rfl ⟨_,rfl,hw,u,rfl,hs⟩
  ·rw [Jd hq Gl];unfold m7 at Gl;repeat' (first|refine Wz ?_|refine SW.gp rfl rfl rfl (fun h => ?_) (fun h => ?_)|(refine Wk (c1 _ hw) ?_;intro v w1 ah hv;subst hv;obtain ⟨hw,ao,ap⟩:=cd ah hw ao ap;clear ah))
   all_goals
    first
     | (exfalso;omega)
     | (refine Wg ap (fU .zero) fun w5 cK hg => ?_
        have hw:=hw.own cQ hg;refine Wz ?_;exact ae.dj rfl rfl rfl cK rfl ⟨_,rfl,hw,.zero,rfl,iS.zero _ _⟩)
variable {z:aj}
noncomputable def nj (z:aj) (p:Int) : aj:=(ga z p 0).2
noncomputable def mh:Nat->aj->Int->aj
 | 0,z,_=>z
 | k+1,z,p=>mh k (nj z p) (p+1)
def uR:∀ (k:Nat) (z:aj) (p:Int),mh (k+1) z p=nj (mh k z p) (p+k)
 | 0,z,p=>by simp [mh]
 | k+1,z,p=>by
   rw [mh,uR k,mh];congr 1
   omega
def Bl {p:Int} (h:(ga z p o).1≠0) : (ga z p o).2 = .zero:=by
 cases hq:fT z
 ·rw [vp hq]
 ·by_cases hf:ky z.aT z.To p o
  ·cases ho:kz z.ai p o
   ·exfalso;obtain ⟨⟨l,a',o'⟩,hj⟩ : ∃ u,jm 5 z.ai p o=u:=⟨_,rfl⟩;rw [yR hq hf ho hj rfl] at h;exact h rfl
   ·rw [DN hq hf ho]
  ·rw [yQ hq hf]
def Bm {p:Int} (h:p<z.aT∨z.To<=p) : nj z p = .zero:=by
 unfold nj;cases hq:fT z
 ·rw [vp hq]
 ·rw [yQ hq (fun hf=>by unfold ky at hf;omega)]
def Lu (p:Int) : nj .zero p = .zero:=Bm (by simp only [aj.zero];omega)
def fold_zero:∀ (k:Nat) (p:Int),mh k .zero p = .zero
 | 0,_=>rfl
 | k+1,p=>by rw [mh,Lu,fold_zero k]
def Bn:∀ (k:Nat) (z:aj) (p:Int),(vr k z p).2=mh k z p
 | 0,_,_=>rfl
 | k+1,z,p=>by
   rw [vr,mh];split
   ·exact Bn k _ _
   ·rename_i h;rw [nj,Bl h,fold_zero]
def Gm:∀ (k:Nat) (z:aj) (p:Int),p<=z.To->z.To<p+k->mh k z p = .zero
 | 0,z,p,h1,h2=>by omega
 | k+1,z,p,h1,h2=>by
   rw [mh];by_cases e:p=z.To
   ·rw [Bm (by omega),fold_zero]
   ·by_cases h:(ga z p 0).1=0
    ·have:=((mE z p 0).2.2 h).2.1
     exact Gm k _ _ (by rw [nj];omega) (by rw [nj];omega)
    ·rw [nj,Bl h,fold_zero]
def Dj (z:aj) (p:Int) (h : 0<k) : (qe z p (k:Int)).2=mh k z p:=by
 obtain ⟨k,rfl⟩ : ∃ m,k=m+1:=⟨k-1,by omega⟩;cases hq:fT z
 ·rw [Jc hq,mh,nj,vp hq,fold_zero]
 ·by_cases ha:m7 z p ((k+1:Nat) : Int)
  ·rw [Je hq ha,Bn]
  ·rw [Jd hq ha];unfold m7 at ha;by_cases h1:p<z.aT∨z.To<=p
   ·rw [mh,Bm h1,fold_zero]
   ·exact (Gm _ _ _ (by omega) (by omega)).symm
noncomputable def ia (l:List Region) (split:Int) : Nat->aj×aj
 | 0=>((jG 0 split).2,(jG split 256).2)
 | p+1=>if eX l p then (if (p:Int)<split then (nj (ia l split p).1 p,(ia l split p).2) else ((ia l split p).1,nj (ia l split p).2 p)) else ia l split p
def xz {l:List Region} {split:Int} {p:Nat}:∀ n:Nat,(∀ i:Nat,i<n->eX l ((p+i:Nat) : Int)=false)->ia l split (p+n)=ia l split p
 | 0,_=>rfl
 | n+1,h=>by
   rw [<- ags,ia,h n (by omega),if_neg (by simp)];exact xz n fun i hi=>h i (by omega)
def Gn {l:List Region} {split:Int} {p:Nat}:∀ n:Nat,(∀ i:Nat,i<n->eX l ((p+i:Nat) : Int)=true∧((p+i:Nat) : Int)<split)->ia l split (p+n)=(mh n (ia l split p).1 p,(ia l split p).2)
 | 0,_=>rfl
 | n+1,h=>by
   rw [<- ags,ia,(h n (by omega)).1,if_pos rfl,if_pos (h n (by omega)).2,Gn n fun i hi=>h i (by omega),uR];simp
def Dk {l:List Region} {split:Int} {p:Nat}:∀ n:Nat,(∀ i:Nat,i<n->eX l ((p+i:Nat) : Int)=true∧split<=((p+i:Nat) : Int))->ia l split (p+n)=((ia l split p).1,mh n (ia l split p).2 p)
 | 0,_=>rfl
 | n+1,h=>by
   rw [<- ags,ia,(h n (by omega)).1,if_pos rfl,if_neg (by have:=(h n (by omega)).2;omega),Dk n fun i hi=>h i (by omega),uR];simp
def dO (l:List Region) (k:Nat) : Int:=match k with
 | 0=>0
 | k+1=>if h:k<l.length then l[k].aT+l[k].ay else 256
def tP {l:List Region} (h:iw l) : ∀ (j:Nat) (hj:j<l.length) (i:Nat) (hi:i<j),(l[i]'(af3 hi hj)).aT+(l[i]'(af3 hi hj)).ay<l[j].aT
 | 0,_,i,hi=>by omega
 | j+1,hj,i,hi=>by
   have h1:=(h.2 (j+1) hj).2 (by omega);simp only [Nat.add_sub_cancel] at h1;by_cases e:i=j
   ·subst e;exact h1
   ·have h2:=tP h j (by omega) i (by omega);have h3:=(h.2 j (by omega)).1;unfold Region.ok at h3;omega
def Lv {l:List Region} (hk:k<l.length) : dO l (k+1)=l[k].aT+l[k].ay:=by simp only [dO,dif_pos hk]
def Oa {l:List Region} (h:iw l) (hk:k<l.length) : 0<=dO l k∧dO l k<=l[k].aT:=by
 have h0:=(h.2 k hk).1;unfold Region.ok at h0;cases k with
 | zero=>simp only [dO];omega
 | succ k =>
   have h1:=(h.2 k (by omega)).1;unfold Region.ok at h1;have h2:=tP h (k+1) hk k (by omega);simp only [dO,dif_pos (show k<l.length by omega)];omega
def uv {l:List Region} (h:iw l) (hk:k<=l.length) {p:Int} (h1:dO l k<=p) (h2:∀ hk:k<l.length,p<l[k].aT) : eX l p=false:=by
 unfold eX;rw [aeS];intro r hr;obtain ⟨j,hj,rfl⟩:=aeu hr;have h0:=(h.2 j hj).1;unfold Region.ok at h0;simp only [Bool.and_eq_true,decide_eq_true_eq,not_and];intro h3 h4;by_cases my:j<k
 ·obtain ⟨m,rfl⟩ : ∃ m,k=m+1:=⟨k-1,by omega⟩;simp only [dO,dif_pos (show m<l.length by omega)] at h1;by_cases e:j=m
  ·subst e;omega
  ·have h5:=tP h m (by omega) j (by omega);have h6:=(h.2 m (by omega)).1;unfold Region.ok at h6;omega
 ·have h5:=h2 (by omega);by_cases e:k=j
  ·subst e;omega
  ·have h6:=tP h j hj k (by omega);have h7:=(h.2 k (by omega)).1;unfold Region.ok at h7;omega
def Gp {l:List Region} (hk:k<l.length) {p:Int} (h1:l[k].aT<=p) (h2:p<l[k].aT+l[k].ay) : eX l p=true:=by
 unfold eX;rw [aeG];exact ⟨l[k],aet hk,by simp;omega⟩
def ld (r:Region) (split:Int) : Int:=max 0 (min (r.aT+r.ay) split-r.aT)
noncomputable def nB (l:List Region) (split:Int) (k:Nat) : aj×aj:=ia l split (dO l k).toNat
noncomputable def uS (z:aj) (f s:Int) : aj:=if 0<s then (qe z f s).2 else z
def Bo {s:Int} (h : 0<s) : (qe z f s).2=uS z f s:=by rw [uS,if_pos h]
def Gq {s:Int} (h : ¬ 0<s) : z=uS z f s:=by rw [uS,if_neg h]
def ID {l:List Region} (h:iw l) {split:Int} (hk:k<l.length) :
 nB l split (k+1)=(uS (nB l split k).1 l[k].aT (ld l[k] split),uS (nB l split k).2 (l[k].aT+ld l[k] split) (l[k].ay-ld l[k] split)):=by
 have h0:=(h.2 k hk).1;unfold Region.ok at h0;have hs:=Oa h hk;have hb : 0<=ld l[k] split∧ld l[k] split<=l[k].ay∧(0<ld l[k] split->l[k].aT+ld l[k] split<=split)∧(ld l[k] split<l[k].ay->split<=l[k].aT+ld l[k] split):=by unfold ld;omega
 obtain ⟨b,Yj⟩ : ∃ b,ld l[k] split=b:=⟨_,rfl⟩;rw [Yj] at hb ⊢;obtain ⟨b1,b2,b3,b4⟩:=hb;unfold nB
 have e1:(dO l (k+1)).toNat=((dO l k).toNat+(l[k].aT-dO l k).toNat+b.toNat)+(l[k].ay-b).toNat:=by
  rw [Lv hk];omega
 have e2:((dO l k).toNat+(l[k].aT-dO l k).toNat:Nat)=l[k].aT.toNat:=by omega
 rw [e1,Dk (p:=(dO l k).toNat+(l[k].aT-dO l k).toNat+b.toNat) (l[k].ay-b).toNat,Gn (p:=(dO l k).toNat+(l[k].aT-dO l k).toNat) b.toNat,xz (p:=(dO l k).toNat) (l[k].aT-dO l k).toNat]
 ·rw [e2];unfold uS
  have g1:mh b.toNat (ia l split (dO l k).toNat).1 (l[k].aT.toNat:Int)=if 0<b then (qe (ia l split (dO l k).toNat).1 l[k].aT b).2 else (ia l split (dO l k).toNat).1:=by
   split
   ·have:=Dj (k:=b.toNat) (ia l split (dO l k).toNat).1 l[k].aT (by omega)
    rw [ae1 b1] at this;rw [this,ae1 (by omega)]
   ·rw [show b.toNat=0 by omega];rfl
  have g2:mh (l[k].ay-b).toNat (ia l split (dO l k).toNat).2 ((l[k].aT.toNat+b.toNat:Nat) : Int)=if 0<l[k].ay-b then (qe (ia l split (dO l k).toNat).2 (l[k].aT+b) (l[k].ay-b)).2 else (ia l split (dO l k).toNat).2:=by
   split
   ·have:=Dj (k:=(l[k].ay-b).toNat) (ia l split (dO l k).toNat).2 (l[k].aT+b) (by omega)
    rw [ae1 (by omega)] at this;rw [this,show ((l[k].aT.toNat+b.toNat:Nat) : Int)=l[k].aT+b by omega]
   ·rw [show (l[k].ay-b).toNat=0 by omega];rfl
  simp only [g1,g2]
 ·intro i hi;exact uv (k:=k) h (by omega) (by omega) (fun _=>by omega)
 ·intro i hi;rw [e2];exact ⟨Gp hk (by omega) (by omega),by omega⟩
 ·intro i hi;rw [e2];exact ⟨Gp hk (by omega) (by omega),by omega⟩
def Lw {l:List Region} (h:iw l) (split:Int) : nB l split l.length=ia l split 256:=by
 have hs : 0<=dO l l.length∧dO l l.length<=256:=by
  cases he:l.length with
  | zero=>simp [dO]
  | succ k =>
    have h0:=(h.2 k (by omega)).1;unfold Region.ok at h0;simp only [dO,dif_pos (show k<l.length by omega)];omega
 unfold nB;have:=xz (l:=l) (split:=split) (p:=(dO l l.length).toNat) (256-(dO l l.length).toNat) fun i hi=>uv (k:=l.length) h (aew _) (by omega) (fun hk=>absurd hk (Nat.lt_irrefl _))
 rw [<- this];congr 1
 omega
structure td (z:aj) : Prop where
 free:z.ai.length<=257
 types:z.Types.length<=32
 from_ : 0<=z.aT∧z.aT<=256
 pJ : 0<=z.To∧z.To<=256
def IE:td .zero:=by constructor<;>simp [aj.zero]
def Bp (h:td z) (p:Int) : td (nj z p):=by
 unfold nj;by_cases e:(ga z p 0).1=0
 ·obtain ⟨h1,h2,h3⟩:=mE z p 0;obtain ⟨h4,h5,_⟩:=h3 e;exact ⟨h1,h2,by rw [h4];exact h.from_,by rw [h5];exact h.pJ⟩
 ·rw [Bl e];exact IE
def Dl {t:Int} (h:fR f t) : td (jG f t).2:=by
 rw [mC h];unfold fR at h;exact ⟨by simp,by simp;omega,by simp only;omega,by simp only;omega⟩
def Gr {split:Int}:fR split 256↔fR 0 split:=by unfold fR;omega
def rI {l:List Region} {split:Int} (h:fR 0 split) : ∀ p,td (ia l split p).1∧td (ia l split p).2
 | 0=>⟨Dl h,Dl (Gr.2 h)⟩
 | p+1=>by
   have ih:=rI (l:=l) h p;unfold ia;split
   ·split
    ·exact ⟨Bp ih.1 _,ih.2⟩
    ·exact ⟨ih.1,Bp ih.2 _⟩
   ·exact ih
def mW (split least cpus:Int) : Prop:=fR 0 split∧(0<=least∧least<=256)∧(1<=cpus∧cpus<=4)
instance (a b c:Int) : Decidable (mW a b c):=inferInstanceAs (Decidable (_∧_))
def rJ (z:aj×aj) (least cpus:Int) : Heap:=⟨[z.1,z.2],[least,least],cpus,[],[]⟩
noncomputable def ib (l:List Region) (split least cpus:Int) : Int×Heap :=
 if fg l then (if mW split least cpus then (0,rJ (ia l split 256) least cpus) else (1,⟨[],[],0,[],[]⟩)) else (8,⟨[],[],0,[],[]⟩)
def uT {l:List Region} {b c:Int} (h:fg l=false) : ib l a b c=(8,⟨[],[],0,[],[]⟩):=by simp [ib,h]
def rK {l:List Region} {b c:Int} (h:fg l=true) (ha : ¬ mW a b c) : ib l a b c=(1,⟨[],[],0,[],[]⟩):=by simp [ib,h,ha]
def rL {l:List Region} {b c:Int} (h:fg l=true) (ha:mW a b c) : ib l a b c=(0,rJ (ia l a 256) b c):=by simp [ib,h,ha]
def iS.small {r:eG} (h:iS w lo r z) (hs:td z) : (r.ai.n+1)*24<=140737488355328∧r.Types.n*8<=140737488355328∧(-9223372036854775808<=r.aT∧r.aT<=9223372036854775807)∧(-9223372036854775808<=r.To∧r.To<=9223372036854775807):=by
 have e1:=h.free.sl.len;have e2:=h.types.sl.len;have e3:=h.from_;have e4:=h.pJ;obtain ⟨h1,h2,h3,h4⟩:=hs;refine ⟨aev (aeW 24 (show r.ai.n+1<=258 by omega)) (by decide),by omega,by omega,by omega⟩
def Ob {r:eG} (f s:Int) (h:iS w' lo r z) (hs:td z) : bI prog 40 [.agg (dq r).toArray,.int .i64 f,.int .i64 s] w' (yN w'.heap.size (qe z f s)):=by
 obtain ⟨h1,h2,h3,h4⟩:=h.small hs;exact Lt r z f s w' h.rd h1 h2 h3 h4
set_option maxHeartbeats 4000000 in
def Oc (A:Option Addr) (n c:Nat) (l:List Region) (split least cpus:Int) (w:World) (hl:Sl w 2 iB A n l) (hn:n<=9223372036854775807) (Me : -9223372036854775808<=split∧split<=9223372036854775807) :
 bI prog 15 [.slice A n c,.int .i64 split,.int .i64 least,.int .i64 cpus] w (k9 w.heap.size (ib l split least cpus)):=by
 refine Wj func15 ntmps15 ?_;refine CW.seq (CW.region (SW.alloc rfl fun b8 w1 hw nV bf => ?_));have gq:=nV;obtain ⟨q,hq⟩ : ∃ q,fg l=q:=⟨_,rfl⟩
 have c1:∀ w',Ext w w'->bI prog 36 [.agg (qJ A n c none 0 0).toArray] w' fun v _=>v = .int .i64 (if q then 0 else 8):=fun w' h=>by
  have:=Dh A n c none 0 0 l [] w' (hl.ext h) (Sl.fC _ _ _ _) hn (by omega)
  have e:qK l []=q:=by
   have:fg []=true:=mB ⟨by simp,fun i h=>by simp at h⟩
   simp [qK,this,hq]
  rwa [e] at this
 cases q
 ·simp only [Bool.false_eq_true,if_false] at c1;rw [uT hq];repeat' (first|refine Wy ?_|(refine Wk (c1 _ hw) ?_;intro v w1 ah hv;subst hv;obtain ⟨hw,bf⟩:=cT ah hw bf;clear ah))
  refine Wg bf (ed .zero) fun w5 cK hg => ?_
  have hw:=hw.own gq hg;repeat' (first|refine Wy ?_|fail);exact ae.dj rfl rfl rfl cK rfl ⟨_,rfl,hw,k9.zero 8 _ _⟩
 ·simp only [if_true] at c1;have mm:=vl.1 hq;repeat' (first|refine Wy ?_|(refine Wk (c1 _ hw) ?_;intro v w1 ah hv;subst hv;obtain ⟨hw,bf⟩:=cT ah hw bf;clear ah))
  refine Wk (zL 0 split _ (by omega) Me) fun v w4 kN hv => ?_
  obtain ⟨o1,NR⟩ : ∃ o,jG 0 split=o:=⟨_,rfl⟩;rw [NR] at hv;obtain ⟨u1,rfl,kD⟩:=hv;have kD:=kD.low hw.size;(obtain ⟨hw,bf⟩:=cT kN hw bf);clear c1;have ach:=bf.lt;repeat' (first|refine Wy ?_|fail);refine SW.alloc rfl fun oF w1 ah nb aC => ?_
  skip;refine Wg aC (fU u1) fun w2 bA hg => ?_
  have ar:=ah.own nb hg;have il:=hw.up nb
  obtain ⟨hw,bf,kD⟩:=cd ar hw bf kD;have aC:=bA;clear bA ah hg ar;have Od:b8≠oF:=by omega
  repeat' (first|refine Wy ?_|fail);refine Wk (zL split 256 _ Me (by omega)) fun v w4 kN hv => ?_
  obtain ⟨o2,Yu⟩ : ∃ o,jG split 256=o:=⟨_,rfl⟩;rw [Yu] at hv;obtain ⟨u2,rfl,ij⟩:=hv;have ij:=ij.low hw.size;(obtain ⟨hw,bf,aC,kD⟩:=dJ kN hw bf aC kD);repeat' (first|refine Wy ?_|fail);have aaf:=aC.lt;have aci:=bf.lt;refine SW.alloc rfl fun vV w1 ah lZ cb => ?_
  skip;refine Wg cb (fU u2) fun w2 lB hg => ?_
  have ar:=ah.own lZ hg;have nf:=hw.up lZ
  obtain ⟨hw,bf,aC,kD,ij⟩:=fH ar hw bf aC kD ij;have cb:=lB;clear lB ah hg ar;have Ez:oF≠vV:=by omega
  have S1:b8≠vV:=by omega
  by_cases hz:fR 0 split
  ·have g1:o1.1=0:=by rw [<- NR,mC hz]
   have g2:o2.1=0:=by rw [<- Yu,mC (Gr.2 hz)]
   rw [g1,g2];by_cases ha:mW split least cpus
   ·obtain ⟨_,⟨a1,a2⟩,a3,a4⟩:=id ha;obtain ⟨z1,z2,z3,z4,z5⟩:=id hz;rw [rL hq ha];have hA:=hl.base;have mx:=hl.len;repeat' (first|refine Wy ?_|fail);have i1:o1.2=(nB l split 0).1:=by rw [<- NR];rfl
    have i2:o2.2=(nB l split 0).2:=by rw [<- Yu];rfl
    rw [i1] at kD;rw [i2] at ij
    refine CW.loop (fun t:Nat×eG×eG=>[(1,.int .i64 split),(2,.int .i64 least),(3,.int .i64 cpus),(8,.pointer (some ⟨b8,0,none⟩)),(10,.pointer (some ⟨oF,0,none⟩)),(12,.pointer (some ⟨vV,0,none⟩)),(55,.slice A n c),(56,.int .i64 (n:Int)),(57,.int .i64 (t.1:Int))])
     (fun t w'=>t.1<=n∧Ext w w'∧aR w' b8 41 (dD .zero)∧aR w' oF 113 (dq t.2.1)∧aR w' vV 113 (dq t.2.2)∧iS w' w.heap.size t.2.1 (nB l split t.1).1∧iS w' w.heap.size t.2.2 (nB l split t.1).2) (fun t=>n-t.1) (0,u1,u2)
     ⟨rfl,rfl,rfl,rfl,rfl,rfl,rfl,rfl,rfl,trivial⟩ ⟨by omega,hw,bf,aC,cb,kD,ij⟩ ?_
    clear hw bf aC cb kD ij;rintro ⟨k,u1,u2⟩ w' ⟨hk,hw,bf,aC,cb,kD,ij⟩
    simp only at hk aC cb kD ij ⊢;have hm:=rI (l:=l) hz (dO l k).toNat;by_cases gC:k<n
    ·have iR:=hl.lt gC;have Bj:=(mm.2 k iR).1;unfold Region.ok at Bj;have RT:=ID mm (split:=split) iR;obtain ⟨e1,TO⟩ : ∃ e,ld l[k] split=e:=⟨_,rfl⟩;have Yv:max 0 (min (l[k].aT+l[k].ay) split-l[k].aT)=e1:=TO
     have Xj : 0<=e1∧e1<=l[k].ay:=by omega
     rw [TO] at RT;repeat' (first|refine Wy ?_|refine Wo hw ((hl.all gC)) ?_)
     have l10:=aC.lt;have l12:=cb.lt;refine SW.alloc rfl fun Fa w1 ah FM dS => ?_
     skip;refine Wg dS (iK.one (enc:=iB) _) fun w2 pn hg => ?_
     have ar:=ah.own FM hg;have UI:=hw.up FM
     obtain ⟨hw,bf,aC,cb,kD,ij⟩:=jh ar hw bf aC cb kD ij;have dS:=pn;clear pn ah hg ar;have d10:oF≠Fa:=by omega
     have d12:vV≠Fa:=by omega
     by_cases h2:e1<l[k].ay
     ·by_cases h1 : 0<e1
      case' pos =>
       repeat' (first|refine Wy ?_|refine Wl (dS.cell rfl) ?_|refine Wm ((fun _ _=>aC.cell)) ?_|(refine SW.st (DE rfl rfl) rfl ?_)|(refine SW.st (DD rfl rfl) rfl ?_))
       rw [Yv];refine Wk (Ob l[k].aT e1 kD hm.1) fun v w4 kN hv => ?_
       obtain ⟨u3,rfl,u9⟩:=hv;have u9:=u9.low hw.size;(obtain ⟨hw,bf,aC,cb,dS,kD,ij⟩:=ue kN hw bf aC cb dS kD ij);repeat' (first|refine Wy ?_|fail);refine Wg aC (fU u3) fun w5 bA hg => ?_
       have hw:=hw.own il hg;have ij:=ij.eV aC hg rfl rfl;have u9:=u9.eV aC hg rfl rfl;have bf:=bf.grown hg (by simpa using Od);have cb:=cb.grown hg (by simpa using Ne.symm Ez);have dS:=dS.grown hg (by simpa using Ne.symm d10);have aC:=bA;clear bA hg kD;have kD:=u9;rw [Bo h1] at kD;clear u9;repeat' (first|refine Wy ?_|fail)
      case' neg =>
       repeat' (first|refine Wy ?_|refine Wl (dS.cell rfl) ?_|(refine SW.st (DE rfl rfl) rfl ?_)|(refine SW.st (DD rfl rfl) rfl ?_))
       rw [Yv];have u9:=kD;clear kD;obtain ⟨u3,WD⟩ : ∃ u,u=u1:=⟨_,rfl⟩;rw [<- WD] at u9 aC;have kD:=u9;rw [Gq (z:=(nB l split k).1) (f:=l[k].aT) h1] at kD;clear u9
      all_goals
       repeat' (first|refine Wy ?_|refine Wl (dS.cell rfl) ?_|refine Wm ((fun _ _=>cb.cell)) ?_)
       refine Wk (Ob (l[k].aT+e1) (l[k].ay-e1) ij hm.2) fun v w4 kN hv => ?_
       obtain ⟨u4,rfl,u9⟩:=hv;have u9:=u9.low hw.size;(obtain ⟨hw,bf,aC,cb,dS,kD,ij⟩:=ue kN hw bf aC cb dS kD ij);repeat' (first|refine Wy ?_|fail);refine Wg cb (fU u4) fun w5 lB hg => ?_
       have hw:=hw.own nf hg;have kD:=kD.eV cb hg rfl rfl;have u9:=u9.eV cb hg rfl rfl;have bf:=bf.grown hg (by simpa using S1);have aC:=aC.grown hg (by simpa using Ez);have cb:=lB;clear lB hg ij;have ij:=u9;rw [Bo (by omega)] at ij;clear u9;repeat' (first|refine Wy ?_|fail)
      all_goals
       refine ae.again (k+1,u3,u4) ⟨rfl,rfl,rfl,rfl,rfl,rfl,rfl,rfl,rfl,trivial⟩ (by simp only;omega) ⟨by simp only;omega,hw,bf,aC,cb,?_,?_⟩
       ·simp only;rw [RT];exact kD
       ·simp only;rw [RT];exact ij
     ·have h1 : 0<e1:=by omega
      repeat' (first|refine Wy ?_|refine Wl (dS.cell rfl) ?_|refine Wm ((fun _ _=>aC.cell)) ?_|(refine SW.st (DE rfl rfl) rfl ?_)|(refine SW.st (DD rfl rfl) rfl ?_))
      rw [Yv];refine Wk (Ob l[k].aT e1 kD hm.1) fun v w4 kN hv => ?_
      obtain ⟨u3,rfl,u9⟩:=hv;have u9:=u9.low hw.size;(obtain ⟨hw,bf,aC,cb,dS,kD,ij⟩:=ue kN hw bf aC cb dS kD ij);repeat' (first|refine Wy ?_|fail);refine Wg aC (fU u3) fun w5 bA hg => ?_
      have hw:=hw.own il hg;have ij:=ij.eV aC hg rfl rfl;have u9:=u9.eV aC hg rfl rfl;have bf:=bf.grown hg (by simpa using Od);have cb:=cb.grown hg (by simpa using Ne.symm Ez);have dS:=dS.grown hg (by simpa using Ne.symm d10);have aC:=bA;clear bA hg kD;have kD:=u9;rw [Bo h1] at kD;clear u9;repeat' (first|refine Wy ?_|fail);repeat' (first|refine Wy ?_|refine Wl (dS.cell rfl) ?_)
      have u9:=ij;clear ij;obtain ⟨u4,Yw⟩ : ∃ u,u=u2:=⟨_,rfl⟩;rw [<- Yw] at u9 cb;have ij:=u9;rw [Gq (z:=(nB l split k).2) (f:=l[k].aT+e1) (s:=l[k].ay-e1) (by omega)] at ij;clear u9;refine ae.again (k+1,u3,u4) ⟨rfl,rfl,rfl,rfl,rfl,rfl,rfl,rfl,rfl,trivial⟩ (by simp only;omega) ⟨by simp only;omega,hw,bf,aC,cb,?_,?_⟩
      ·simp only;rw [RT];exact kD
      ·simp only;rw [RT];exact ij
    ·have ek:k=l.length:=by omega
     have Vt:=Lw mm split;rw [<- ek] at Vt;rw [Vt] at kD ij;repeat' (first|refine Wy ?_|refine Wm ((fun _ _=>aC.cell)) ?_|refine Wm ((fun _ _=>cb.cell)) ?_)
     refine SW.xb (enc:=dq) u1 u2 rfl rfl rfl rfl rfl rfl fun g w2 dB XG hZ => ?_
     have hZ:=hZ.low hw.size;(obtain ⟨hw,bf,kD,ij⟩:=dJ dB hw bf kD ij);repeat' (first|refine Wy ?_|fail);refine SW.xb (enc:=bt) least least rfl rfl rfl rfl rfl rfl fun g' w3 oZ acj hM => ?_
     have hM:=hM.low hw.size;(obtain ⟨hw,bf,kD,ij,hZ⟩:=fH oZ hw bf kD ij hZ);repeat' (first|refine Wy ?_|fail);refine Wg bf (ed ⟨⟨some ⟨g,0,none⟩,2,2⟩,⟨some ⟨g',0,none⟩,2,2⟩,cpus,.nil,.nil⟩) fun w5 cK hg => ?_
     have hw:=hw.own gq hg;have kD:=kD.eV bf hg rfl rfl;have ij:=ij.eV bf hg rfl rfl;have hZ:=hZ.grown hg (.inr (hZ.fr bf rfl));have hM:=hM.grown hg (.inr (hM.fr bf rfl));repeat' (first|refine Wy ?_|fail);exact ae.dj rfl rfl rfl cK rfl ⟨_,rfl,hw,⟨⟨some ⟨g,0,none⟩,2,2⟩,⟨some ⟨g',0,none⟩,2,2⟩,cpus,.nil,.nil⟩,rfl,⟨rfl,hM,Own.fC _ _ _ _ _ _,⟨[u1,u2],⟨hZ,fK.two kD ij⟩⟩,⟨[],.nil _ _⟩⟩⟩
   ·rw [rK hq ha];have mR : ¬ ((0<=least∧least<=256)∧1<=cpus∧cpus<=4):=fun h=>ha ⟨hz,h⟩
    repeat' (first|refine Wy ?_|refine SW.gp rfl rfl rfl (fun h => ?_) (fun h => ?_))
    all_goals try omega
    all_goals
     refine Wg bf (ed .zero) fun w5 cK hg => ?_
     have hw:=hw.own gq hg;repeat' (first|refine Wy ?_|fail);exact ae.dj rfl rfl rfl cK rfl ⟨_,rfl,hw,k9.zero 1 _ _⟩
  ·have g1:o1.1=1:=by rw [<- NR,uD hz]
   rw [g1,rK hq (fun h=>hz h.1)];repeat' (first|refine Wy ?_|fail);refine Wg bf (ed .zero) fun w5 cK hg => ?_
   have hw:=hw.own gq hg;repeat' (first|refine Wy ?_|fail);exact ae.dj rfl rfl rfl cK rfl ⟨_,rfl,hw,k9.zero 1 _ _⟩
def Bq (l:List Region) (split least cpus:Int) : (ib l split least cpus).2.small:=by
 cases hq:fg l
 ·rw [uT hq];constructor<;>simp
 ·by_cases ha:mW split least cpus
  ·rw [rL hq ha];obtain ⟨h1,h2⟩:=rI (l:=l) ha.1 256;constructor<;>simp [rJ]
   exact ⟨⟨by have:=h1.free;omega,by have:=h1.types;omega⟩,by have:=h2.free;omega,by have:=h2.types;omega⟩
  ·rw [rK hq ha];constructor<;>simp
variable {cpus least:Int} {s0:ag}
inductive wh (s0:ag) : Nat->ag->Prop where
 | zero:wh s0 0 s0
 | succ {j:Nat} {s:ag} {u:ag×Int} (m:wh s0 j s) (h:lU s (eJ (kP j)) (kP j) 1 u) : wh s0 (j+1) u.1
def ag.Dm:ag.zero.cS:=⟨ag.kh,by simp [ag.zero,Heap.zero],by simp [ag.zero],by simp [ag.zero]⟩
def lU.cS {align:Int} (a:lU s n size align u) (hf:s.cS) (hn:n.size<=140737488351232) : u.1.cS:=by
 have ri:=a.small hf.small;cases a with
 | bad|form|range|gQ|full=>exact ag.Dm
 | @u7 i h kA nJ ht hi hz ha =>
   refine ⟨ri,hf.cq,fun c hm => ?_,fun c hm => ?_⟩
   ·rcases aeI hm with hm|rfl
    ·exact hf.aB c hm
    ·exact hf.aB s.aa[i] (aet hi)
   ·rcases aeI hm with hm|rfl
    ·exact hf.names c hm
    ·intro m xm;simp only [dF] at xm;unfold aM at xm;simp only [List.mem_append,List.mem_singleton] at xm;rcases xm with (xm|rfl)|xm
     ·exact hf.names _ (aet hi) _ (aeX xm)
     ·exact hn
     ·exact hf.names _ (aet hi) _ (afa xm)
 | new h kA nJ ht hz hc =>
   refine ⟨ri,hf.cq,fun c hm => ?_,fun c hm => ?_⟩
   ·rcases aeC.1 hm with hm|hm
    ·exact hf.aB c hm
    ·simp only [List.mem_singleton] at hm;subst hm;simp [dW]
   ·rcases aeC.1 hm with hm|hm
    ·exact hf.names c hm
    ·simp only [List.mem_singleton] at hm;subst hm;simpa [dW] using hn
def wh.cS (x:wh s0 j s) : s0.cS->j<=6->s.cS:=by
 induction x with
 | zero=>exact fun h _=>h
 | succ m h ih=>exact fun hf hj=>h.cS (ih hf (by omega)) (C0 (by omega))
def IF (h:Heap) : ag:=⟨List.replicate 4096 0,h,[]⟩
def Oe {l:List Region} {split:Int} (h:fR 0 split) : ∀ z∈[(ia l split 256).1,(ia l split 256).2],fV z:=by
 obtain ⟨h1,h2⟩:=rI (l:=l) h 256;have a1:=h1.from_;have a2:=h1.pJ;have a3:=h2.from_;have a4:=h2.pJ
 refine y5 ⟨?_,?_⟩<;>(unfold fV;omega)
inductive ja (o:Int×List Region) (split least cpus:Int) : ag×Int->Prop where
 | S3 (h:o.1≠0) : ja o split least cpus (.zero,o.1)
 | heap (h:o.1=0) (h2:(ib o.2 split least cpus).1≠0) : ja o split least cpus (.zero,(ib o.2 split least cpus).1)
 | made {t:ag} (h:o.1=0) (h2:(ib o.2 split least cpus).1=0) (m:wh (IF (ib o.2 split least cpus).2) 6 t) : ja o split least cpus (t,0)
def Dn {l:List Region} {split:Int} (h:(ib l split least cpus).1=0) : (IF (ib l split least cpus).2).cS:=by
 have ri:=Bq l split least cpus;refine ⟨⟨by unfold IF;rw [afv];omega,ri,afc _,fun c h=>absurd h agF⟩,?_,fun c h=>absurd h agF,fun c h=>absurd h agF⟩;cases hq:fg l
 ·rw [uT hq] at h;simp at h
 ·by_cases ha:mW split least cpus
  ·rw [rL hq ha];exact Oe ha.1
  ·rw [rK hq ha] at h;simp at h
def ja.cS {o:Int×List Region} {split:Int} (a:ja o split least cpus u) : u.1.cS:=by
 cases a with
 | S3|heap=>exact ag.Dm
 | made h h2 m=>exact m.cS (Dn h2) (by omega)
def Gs (N:Nat) (x y:List Region) : (jD N x y).2.length<=N:=by
 cases h:qK x y
 ·rw [Di h];exact afc _
 ·rw [xy h];exact (vt _ _).len
end Go.Proofs.YtenhkiaaebnggaaGreatDoor
