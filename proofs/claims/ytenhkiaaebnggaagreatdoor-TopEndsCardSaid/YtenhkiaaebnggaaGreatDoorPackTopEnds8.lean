/- Part 8 of what topEnds_holds leans on. -/
import Derived.Test.YtenhkiaaebnggaaGreatDoorPackTopEnds7
set_option linter.unusedVariables false
set_option linter.unusedSimpArgs false
set_option linter.defProp false
open Go.Proofs.Tryz
namespace Go.Proofs.YtenhkiaaebnggaaGreatDoor
open Go.RowKit
variable {a cpus f least:Int} {s:ag} {u:ag×Int} {i j:Nat}
def bR (n m:Int) : Int:=(if n<0 then -(n+1) else n).tmod m
def dk {n m:Int} (hm : 0<m) : 0<=bR n m∧bR n m<m:=by
 unfold bR;have h : 0<=(if n<0 then -(n+1) else n):=by split<;>omega
 exact ⟨Int.tmod_nonneg _ h,Int.tmod_lt_of_pos _ hm⟩
def te (a b c:Int) : List Region:=[⟨bR a 20,40+bR b 60⟩,⟨130+bR c 10,16+bR a 90⟩]
def tf (a b c:Int) : List Region:=[⟨bR a 20+bR c 30,1+bR a 7⟩,⟨150+bR b 9,1+bR c 5⟩]
def Re {x y:Region} (hx:x.ok) (hy:y.ok) (h:x.aT+x.ay<y.aT) : iw [x,y]:=by
 refine ⟨by simp,fun i hi => ?_⟩;simp only [List.length_cons,List.length_nil] at hi;rcases (show i=0∨i=1 by omega) with rfl|rfl
 ·exact ⟨hx,fun h0=>by omega⟩
 ·exact ⟨hy,fun _=>h⟩
def IG (a b c:Int) : qK (te a b c) (tf a b c)=true:=by
 have h1:=dk (n:=a) (m:=20) (by omega);have h2:=dk (n:=b) (m:=60) (by omega);have h3:=dk (n:=c) (m:=10) (by omega);have h4:=dk (n:=a) (m:=90) (by omega);have h5:=dk (n:=c) (m:=30) (by omega);have h6:=dk (n:=a) (m:=7) (by omega);have h7:=dk (n:=b) (m:=9) (by omega);have h8:=dk (n:=c) (m:=5) (by omega);unfold qK te tf;rw [mB (Re (by unfold Region.ok;simp only;omega) (by unfold Region.ok;simp only;omega) (by simp only;omega)),mB (Re (by unfold Region.ok;simp only;omega) (by unfold Region.ok;simp only;omega) (by simp only;omega))]
 rfl
def Br {p:Nat->Bool} {b c d:Int} (h:∀ k:Nat,p k=true->(k=0∨p (k-1)=false)->(k:Int)=a∨(k:Int)=b∨(k:Int)=c∨(k:Int)=d) :
 ∀ k:Nat,(runs p k).length<=(if a<(k:Int) then 1 else 0)+(if b<(k:Int) then 1 else 0)+(if c<(k:Int) then 1 else 0)+(if d<(k:Int) then 1 else 0)
 | 0=>by simp [runs]
 | k+1=>by
   have ih:=Br h k;have Cn:∀ x:Int,(if x<(k:Int) then 1 else 0)<=(if x<((k+1:Nat) : Int) then 1 else 0):=fun x=>by split<;>split<;>omega
   have pH:∀ x:Int,(k:Int)=x->(if x<(k:Int) then 1 else 0)+1<=(if x<((k+1:Nat) : Int) then 1 else 0):=fun x e=>by rw [if_neg (by omega),if_pos (by omega)];omega
   have ma:=Cn a;have mb:=Cn b;have mc:=Cn c;have md:=Cn d;cases hp:p k
   ·have e:runs p (k+1)=runs p k:=by simp [runs,hp]
    rw [e];omega
   ·by_cases hk : 0<k∧p (k-1)=true
    ·have e:runs p (k+1)=bump (runs p k):=by simp only [runs,hp,if_true,if_pos hk]
     obtain ⟨init,r,hr,_⟩:=(vt p k).last hk.1 hk.2;rw [e,hr,pj];rw [hr] at ih;simp only [List.length_append,List.length_singleton] at ih ⊢;omega
    ·have e:runs p (k+1)=runs p k++[⟨(k:Int),1⟩]:=by simp only [runs,hp,if_true,if_neg hk]
     have BF:=h k hp (by cases hq:p (k-1)<;>simp_all<;>omega);rw [e];simp only [List.length_append,List.length_singleton];rcases BF with e|e|e|e<;>have:=pH _ e<;>omega
def Og (x y:Region) (i:Int) : eX [x,y] i=true↔(x.aT<=i∧i<x.aT+x.ay)∨(y.aT<=i∧i<y.aT+y.ay):=by
 unfold eX;simp
def IH (a b c:Int) : fg (runs (lC (te a b c) (tf a b c)) 256)=true:=by
 have hr:=vt (lC (te a b c) (tf a b c)) 256;refine mB ⟨?_,fun i hi=>⟨?_,fun h0 => ?_⟩⟩
 ·have h1:=dk (n:=a) (m:=20) (by omega);have h2:=dk (n:=b) (m:=60) (by omega);have h3:=dk (n:=c) (m:=10) (by omega);have h4:=dk (n:=a) (m:=90) (by omega)
  have:=Br (p:=lC (te a b c) (tf a b c)) (a:=bR a 20) (b:=130+bR c 10) (c:=bR a 20+bR c 30+(1+bR a 7)) (d:=150+bR b 9+(1+bR c 5)) (fun k hk D9=>by
   have key:∀ i:Nat,lC (te a b c) (tf a b c) i=true↔((bR a 20<=(i:Int)∧(i:Int)<bR a 20+(40+bR b 60))∨(130+bR c 10<=(i:Int)∧(i:Int)<130+bR c 10+(16+bR a 90))) ∧ ¬ ((bR a 20+bR c 30<=(i:Int)∧(i:Int)<bR a 20+bR c 30+(1+bR a 7))∨(150+bR b 9<=(i:Int)∧(i:Int)<150+bR b 9+(1+bR c 5))):=fun i=>by
    unfold lC te tf;rw [ae9,agw,<- Bool.not_eq_true,Og,Og]
   rw [key] at hk;rcases D9 with rfl|D9
   ·omega
   ·rw [<- Bool.not_eq_true,key] at D9;by_cases h0:k=0
    ·subst h0;omega
    ·omega) 256
  have e1:∀ x:Int,(if x<((256:Nat) : Int) then 1 else 0)<=1:=fun x=>by split<;>omega
  have a1:=e1 (bR a 20);have a2:=e1 (130+bR c 10);have a3:=e1 (bR a 20+bR c 30+(1+bR a 7));have a4:=e1 (150+bR b 9+(1+bR c 5));omega
 ·have:=hr.Qz _ (aet hi)
  unfold Region.ok;omega
 ·have:=hr.sep
  rw [aeB] at this;exact this (i-1) i (by omega) hi (by omega)
def y9 (l:List Region) : Nat->List Block
 | 0=>[]
 | p+1=>if eX l p then y9 l p++[ct p] else y9 l p
def EA (l:List Region) : ∀ p:Nat,∀ b∈y9 l p,0<=b.At∧b.At<(p:Int)∧b.Order=0
 | 0=>by simp [y9]
 | p+1=>fun b hb=>by
   unfold y9 at hb;split at hb
   ·rcases aeC.1 hb with hb|hb
    ·have:=EA l p b hb;omega
    ·simp only [List.mem_singleton] at hb;subst hb;refine ⟨?_,?_,rfl⟩<;>simp only [ct]<;>omega
   ·have:=EA l p b hb;omega
def Oh (l:List Region) {p:Nat} (hp:p<256) : qo (y9 l p) (ct p):=by
 refine ⟨by simp [ct],by simp only [ct];omega,by simp only [ct,jv];omega,⟨by simp only [ct];omega,by simp only [ct,jv];omega,?_⟩,fun x hx => ?_⟩
 ·unfold kz;rw [aeS];intro x hx;have:=EA l p x hx
  rw [this.2.2,jv];intro hh;simp only [ct,Bool.and_eq_true,decide_eq_true_eq] at hh;have h2:=of_decide_eq_true hh.2;omega
 ·have:=EA l p x hx
  rw [this.2.2,jv];omega
def Gt {t:Int} (h:fR f t) : bW (jG f t).2∧(jG f t).2.aT=f∧(jG f t).2.To=t∧(jG f t).2.ai=[]:=by
 rw [mC h];have h':=h;unfold fR at h';refine ⟨⟨h,by simp only [List.length_replicate];omega,fun x hx => ?_,fun i hi=>by simp at hi,fun i hi=>by simp at hi⟩,rfl,rfl,rfl⟩;have:=List.eq_of_mem_replicate hx
 subst this;unfold lf;omega
def Gu {l:List Region} {split:Int} (hs:fR 0 split) : ∀ p:Nat,p<=256->rf (ia l split p) (y9 l p)∧(ia l split p).1.To=split
 | 0,_=>by
   have ij:fR split 256:=by unfold fR at hs ⊢;omega
   obtain ⟨a1,a2,a3,a4⟩:=Gt hs;obtain ⟨b1,b2,b3,b4⟩:=Gt ij;refine ⟨⟨a1,b1,a2,a3.trans b2.symm,b3,fun i => ?_⟩,a3⟩;simp only [ia,y9,a4,b4]
   rfl
 | p+1,hp=>by
   obtain ⟨D,EJ⟩:=Gu hs p (by omega);have hb:=D.back (Oh l (by omega));rw [ia,y9];cases hi:eX l p
   ·simp only [Bool.false_eq_true,if_false];exact ⟨D,EJ⟩
   ·simp only [if_true]
    have e:(if (p:Int)<split then (nj (ia l split p).1 p,(ia l split p).2) else ((ia l split p).1,nj (ia l split p).2 p))=gJ (ia l split p) (ct p):=by
     unfold gJ nj;simp only [ct,EJ]
    rw [e];exact ⟨hb.1,hb.2.trans EJ⟩
def Qd {l:List Region} {split:Int} (ha:mW split least cpus) : bK (rJ (ia l split 256) least cpus):=by
 obtain ⟨D,EJ⟩:=Gu (l:=l) ha.1 256 (aew _);refine qC (s:=ia l split 256) rfl D.vs (kU.nil _ _) ⟨least,least,rfl,ha.2.1,ha.2.1⟩ ha.2.2 (Er (by simp [rJ]) (by simp [rJ])) fun i => ?_
 have h1:=AJ D.vs i;have h2:∀ b:Bool,b.toNat<=1:=fun b=>by cases b<;>simp
 have h3:=h2 (eI (ia l split 256).1.ai i || eI (ia l split 256).2.ai i);have h4:jA [] i=0:=rfl
 unfold uN;simp only [rJ,y7];omega
def jg (h:Heap) (i:Nat) : aN:=⟨[eJ (kP i)],kP i,(dp (kP i)).2.1,(dp (kP i)).1,[],List.replicate h.bJ.toNat (-1)⟩
structure nC (h:Heap) (j:Nat) (s:ag) : Prop where
 words:s.Words=List.replicate 4096 0
 heap:s.Heap=h
 bo:s.aa=(List.range j).map (jg h)
def six {P:Nat->Prop} (h0:P 0) (h1:P 1) (h2:P 2) (h3:P 3) (h4:P 4) (h5:P 5) (h:i<6) : P i:=by
 rcases (show i=0∨i=1∨i=2∨i=3∨i=4∨i=5 by omega) with rfl|rfl|rfl|rfl|rfl|rfl
 ·exact h0
 ·exact h1
 ·exact h2
 ·exact h3
 ·exact h4
 ·exact h5
def Dp (h:i<6) : gx (eJ (kP i))=true:=six (P:=fun i=>gx (eJ (kP i))=true) (by decide) (by decide) (by decide) (by decide) (by decide) (by decide) h
def Rf (h:i<6) (hj:j<i) : kP j≠kP i:=by
 have:∀ i,i<6 -> ∀ j,j<i->kP j≠kP i:=by unfold kP;decide
 exact this i h j hj
def JU (h:i<6) (hj:j<i) : eJ (kP j)≠eJ (kP i):=by
 have:∀ i,i<6 -> ∀ j,j<i->eJ (kP j)≠eJ (kP i):=by unfold kP;decide
 exact this i h j hj
def Dq {h:Heap} (hm:bK h) (hj:j<=6) (f:nC h j s) : aA s:=by
 refine ⟨by rw [f.words,afv],by rw [f.heap];exact hm,by rw [f.bo];simp;omega,fun i hi => ?_⟩;have mo:i<j:=by rw [f.bo] at hi;simpa using hi
 have ec:∀ (k:Nat) (hk:k<s.aa.length),s.aa[k]=jg h k:=fun k hk=>by
  have:s.aa[k]=((List.range j).map (jg h))[k]'(by rw [f.bo] at hk;exact hk):=by congr 1;exact f.bo
  rw [this];simp
 have qQ:=hm.cpus;refine ⟨⟨?_,?_,?_,fun k hk => ?_,fun k hk => ?_⟩,fun k hk => ?_,⟨fun k hk => ?_⟩,fun k hk => ?_⟩
 ·rw [ec i hi];exact six (P:=fun i=>dp (jg h i).ay=((jg h i).Order,(jg h i).bL,0)) rfl rfl rfl rfl rfl rfl (show i<6 by omega)
 ·rw [ec i hi];simp [jg]
 ·rw [ec i hi,f.heap];simp [jg];omega
 ·exfalso;rw [ec i hi] at hk;simp [jg] at hk
 ·left;have:∀ (c:aN) (e:c=jg h i) (hk:k<c.ak.length),c.ak[k] = -1:=fun c e hk=>by subst e;simp [jg]
  exact this _ (ec i hi) hk
 ·rw [ec i hi,ec k (by omega)];exact Rf (by omega) hk
 ·have key:∀ (c:aN) (e:c=jg h i) (hk:k<c.Names.length) (acc:List ByteArray),(∀ n∈acc,n≠eJ (kP i))->gx c.Names[k]=true∧c.Names[k]∉acc++c.Names.take k∧(0<k->ew (c.Names[k-1]'(by omega)) c.Names[k]=true):=fun c e hk acc ha=>by
   subst e;have BG:k=0:=by simp [jg] at hk;exact hk
   subst BG;simp only [jg,List.getElem_cons_zero,List.take_zero,List.append_nil];exact ⟨Dp (by omega),fun hh=>ha _ hh rfl,fun h=>by omega⟩
  refine key _ (ec i hi) hk _ fun n hn => ?_
  unfold ba at hn;obtain ⟨c,hc,hn⟩:=aeK.1 hn;obtain ⟨q,hq,rfl⟩:=aeu hc;simp only [List.length_take] at hq;rw [ae3,ec q (by omega)] at hn;simp only [jg,List.mem_singleton] at hn;subst hn;exact JU (by omega) (by omega)
 ·exfalso;rw [ec i hi] at hk;simp [jg] at hk
def II {h:Heap} (hm:bK h) (hj:j<6) (f:nC h j s) (hu:lU s (eJ (kP j)) (kP j) 1 u) : nC h (j+1) u.1:=by
 have hM:=Dq hm (by omega) f;obtain ⟨_,_,k3,k4⟩:=NE hj;have ez:rZ (kP j) 1=kP j:=by unfold rZ;omega
 have hn:∀ c∈s.aa,∃ q,q<j∧c=jg h q:=fun c hc=>by
  rw [f.bo] at hc;obtain ⟨q,hq,rfl⟩:=aeH.1 hc;exact ⟨q,by simpa using hq,rfl⟩
 have Io:=lU.new (s:=s) (n:=eJ (kP j)) (size:=kP j) (align:=1) (jS hM) ⟨Dp hj,.inl rfl⟩ ⟨k3,by omega⟩ (by
  rw [aeS];intro c hc;obtain ⟨q,hq,rfl⟩:=hn c hc;have:=JU hj hq
  simp [dr,nR,jg];exact fun e=>this e) (fun q hq=>by
  obtain ⟨t,ht,e⟩:=hn _ (aet hq);rw [e,ez];exact Rf hj ht) (by rw [f.bo];simp;omega)
 rw [hu.dm Io];refine ⟨f.words,f.heap,?_⟩;simp only [ez];rw [List.range_succ,aeV,<- f.bo];congr 1
 simp only [dW,List.map_cons,List.map_nil,jg,f.heap]
def IJ {h:Heap} (hm:bK h) (x:wh (IF h) j s) : j<=6->nC h j s:=by
 induction x with
 | zero=>exact fun _=>⟨rfl,rfl,rfl⟩
 | succ m hu ih=>exact fun hj=>II hm (by omega) (ih (by omega)) hu
def Bs (a b c:Int) : mW (16*bR a 9) (bR b 12) (1+bR c 4):=by
 have h1:=dk (n:=a) (m:=9) (by omega);have h2:=dk (n:=b) (m:=12) (by omega);have h3:=dk (n:=c) (m:=4) (by omega);unfold mW fR;omega
noncomputable def Lx (a b c:Int) : Heap:=rJ (ia (runs (lC (te a b c) (tf a b c)) 256) (16*bR a 9) 256) (bR b 12) (1+bR c 4)
def Gv (a b c:Int) : bK (Lx a b c):=Qd (Bs a b c)
def jO {b c:Int} (h:ja (jD 256 (te a b c) (tf a b c)) (16*bR a 9) (bR b 12) (1+bR c 4) u) : u.2=0∧nC (Lx a b c) 6 u.1∧dy u.1:=by
 have hf:=h.cS;have e1:=xy (N:=256) (IG a b c);have e2:=rL (IH a b c) (Bs a b c);cases h with
 | S3 h=>rw [e1] at h;exact absurd rfl h
 | heap h h2=>rw [e1,e2] at h2;exact absurd rfl h2
 | made h h2 m =>
   rw [e1] at m;simp only [e2] at m;have hF:=IJ (Gv a b c) m (aew _);exact ⟨rfl,hF,hf,Dq (Gv a b c) (aew _) hF⟩
def nC.eq {h:Heap} {t:ag} (a:nC h j s) (b:nC h j t) : s=t:=by
 obtain ⟨a1,a2,a3⟩:=a;obtain ⟨b1,b2,b3⟩:=b;cases s
 cases t
 simp only at *;subst a1 a2 a3 b1 b2 b3
 rfl
variable {n:ByteArray} {size:Int} {q:Src}
def Gw (hM:aA s) (h:fF s q a) : gu s a true:=by
 have hr:=fi hM h;have hlen:=hM.words;cases q with
 | obj i =>
   have hi:=h.lt;obtain ⟨k,hk⟩:=(ze hi).1 ((hU hi).1 h);have hC:=(hM.each i hi).may;have ho:=hk.obj;obtain ⟨r1,r2⟩:=mN hC.lay ho
   have hm:(a-(s.aa[i].ab[k]'hk.hk).At*16) % s.aa[i].ay=0:=by
    unfold iu at ho;simp only [Bool.and_eq_true,decide_eq_true_eq] at ho;exact ho.2
   have hF:=hk.find hM;exact gu.pQ (u:=((i:Int),(k:Int),0)) ⟨hr.1,by omega⟩ (aet hi) (aet hk.hk) (by unfold lp;omega) (by rw [hm,Int.sub_zero];exact hF)
 | pg o =>
   obtain ⟨h1,h2,b,hb,e1,e2⟩:=(j3 hM.heap.live).1 h;have hl:=(hM.heap.live.all b hb).1;have hp:=cM hl.1 hl.2
   have e:AW s.Heap.Live (a / 16)=true:=by
    unfold AW;rw [aeG];refine ⟨b,hb,?_⟩;rw [ae9,decide_eq_true_eq,decide_eq_true_eq];omega
   have:=gu.bD (s:=s) (a:=a) ⟨hr.1,by omega⟩ (fun c hc x hx cx=>by
    obtain ⟨d,hd,f1,f2⟩:=g7 hM hc hx;have:=gZ hM.heap hb hd (by rw [f1,e1];exact fun e=>h2 c hc x hx e.symm)
    rw [f1,f2] at this;unfold lp at cx;omega)
   rw [e] at this;exact this
structure yD (s:ag) : Prop where
 aB:∀ c∈s.aa,c.ab=[]
 live:s.Heap.Live=[]
def yD.none (h:yD s) (q:Src) (a:Int) : ¬ fF s q a:=fun hL=>by
 cases q with
 | obj i =>
   have hi:=hL.lt;obtain ⟨x,hx,_⟩:=(hU hi).1 hL;rw [h.aB _ (aet hi)] at hx;cases hx
 | pg o =>
   have:=(dG hL.1).1
   rw [h.live] at this;simp [bM,bE] at this
def lU.bare {align:Int} (h:lU s n size align u) (hb:yD s) (h0:u.2=0) : yD u.1:=by
 cases h with
 | bad|form|range|gQ|full=>simp at h0
 | @u7 i _ _ _ _ hi =>
   refine ⟨fun c hc => ?_,hb.live⟩;rcases (dM hi).1 hc with rfl|⟨j,hj,_,rfl⟩
   ·exact (hb.aB _ (aet hi) : s.aa[i].ab=[])
   ·exact hb.aB _ (aet hj)
 | new =>
   refine ⟨fun c hc => ?_,hb.live⟩;rcases aeC.1 hc with hc|hc
   ·exact hb.aB c hc
   ·simp only [List.mem_singleton] at hc;subst hc
    rfl
def kI:List (List ByteArray×Int):=[([eJ 1],1),([eJ 2],2),([eJ 4],4),([eJ 8],8),([eJ 16],16),([eJ 32],32)]
def Ly {h:Heap} (f:nC h 6 s) : j9 s=kI:=by
 unfold j9;rw [f.bo,agE];have e:((fun c:aN=>(c.Names,c.ay)) ∘ jg h)=fun i=>([eJ (kP i)],kP i):=rfl
 rw [e];decide +kernel
def oS (hi:i<s.aa.length) : (j9 s)[i]?=some (s.aa[i].Names,s.aa[i].ay):=by
 unfold j9;rw [af7,aez hi]
 rfl
def Qe (hI:dy s) (hb:yD s) (hs:j9 s=kI) (h:lU s nt 5 1 u) : u.2=0∧j9 u.1=kI++[([nt],5)]:=by
 have hl:s.aa.length=6:=by
  have:=congrArg List.length hs
  simpa [j9,kI] using this
 have hz:∀ j (hj:j<s.aa.length),s.aa[j].ay≠rZ 5 1:=fun j hj e=>by
  have h1:=oS hj;rw [hs] at h1
  have key:∀ j,j<6->(kI[j]?.map fun p=>decide (p.2=rZ 5 1))=some false
   | 0,_|1,_|2,_|3,_|4,_|5,_=>by decide +kernel
   | j+6,h=>by omega
  have:=key j (by omega)
  rw [h1] at this;simp [e] at this
 have ht:s.aa.any (dr nt)=false:=by rw [zf,hs];decide +kernel
 have:=h.dm (.new (jS hI.may) ⟨by decide +kernel,.inl rfl⟩ (by omega) ht hz (by omega))
 subst this;refine ⟨rfl,?_⟩;unfold j9 at hs ⊢;rw [aeV,hs]
 rfl
def Lz (hI:dy s) (hb:yD s) (hs:j9 s=kI++[([nt],5)]) (h:lU s dN 2 2 u) : u.2=0∧j9 u.1=eR:=by
 have hl:s.aa.length=7:=by
  have:=congrArg List.length hs
  simpa [j9,kI] using this
 have h1:=oS (s:=s) (i:=1) (by omega);rw [hs] at h1
 have e1:s.aa[1].Names=[eJ 2]∧s.aa[1].ay=2:=by
  have:(kI++[([nt],5)])[1]?=some ([eJ 2],(2:Int)):=by rfl
  rw [this] at h1;injection h1 with h1
  injection h1 with h1 h2
  exact ⟨h1.symm,h2.symm⟩
 have h0:=oS (s:=s) (i:=0) (by omega);rw [hs] at h0
 have e0:s.aa[0].ay=1:=by
  have:(kI++[([nt],5)])[0]?=some ([eJ 1],(1:Int)):=by rfl
  rw [this] at h0;injection h0 with h0
  injection h0 with h0 h2
  exact h2.symm
 have ht:s.aa.any (dr dN)=false:=by rw [zf,hs];decide +kernel
 have hz:s.aa[1].ay=rZ 2 2:=by rw [e1.2];decide
 have:=h.dm (.u7 (i:=1) (jS hI.may) ⟨by decide +kernel,.inr (.inl rfl)⟩ (by omega) ht (by omega) hz (fun j hj XN=>by
  obtain rfl:j=0:=by omega
  rw [e0];decide))
 subst this;refine ⟨rfl,?_⟩;unfold j9 at hs ⊢;rw [afR,hs];simp only [dF,e1.1,e1.2];decide +kernel
def lU.heap {al:Int} (h:lU s n size al u) (h0:u.2=0) : u.1.Heap=s.Heap:=by
 cases h<;>first|rfl|exact absurd h0 (by decide)
def LA (hI:dy s) (hb:yD s) (hs:j9 s=eR) : Out s.Heap.bJ s [] :=
 ⟨hI,hs,rfl,fun t ht=>(by cases ht),(by simp),fun q a h=>absurd h (hb.none q a)⟩
def IK {b c:Int} (f:nC (Lx a b c) 6 s) : yD s:=by
 refine ⟨fun c hc => ?_,?_⟩
 ·rw [f.bo] at hc;obtain ⟨i,_,rfl⟩:=aeH.1 hc
  rfl
 ·rw [f.heap];simp [Lx,rJ]
structure uU where
 act:cr
 Of:Int
def lG (t:bU) : List Value:=[.int .i64 t.At,.int .i64 t.ay,.int .i64 t.Kind,.string t.Name,.int .i64 t.Word,.bool t.uu]
instance:iK lG 6:=⟨fun _=>rfl,fun r u hu=>by simp [lG] at hu;rcases hu with rfl|rfl|rfl|rfl|rfl|rfl<;>rfl⟩
def Rg (r:bU) : ∀ v∈lG r,v.oneCell'=true:=iK.one (enc:=lG) r
def sc (x:uU) : List Value:=[.int .i64 x.act.Kind,.int .i64 x.act.gl,.int .i64 x.act.N,.int .i64 x.act.M,.int .i64 x.act.At,.int .i64 x.act.Flags,.string x.act.Name,.int .i64 x.Of]
instance:iK sc 8:=⟨fun _=>rfl,fun r u hu=>by simp [sc] at hu;rcases hu with rfl|rfl|rfl|rfl|rfl|rfl|rfl|rfl<;>rfl⟩
def Vu (r:uU) : ∀ v∈sc r,v.oneCell'=true:=iK.one (enc:=sc) r
def oT (r:de) (a t l:fY) : List Value:=[.slice r.Words.A r.Words.n r.Words.c,.slice r.Heap.bl.A r.Heap.bl.n r.Heap.bl.c,.slice r.Heap.dP.A r.Heap.dP.n r.Heap.dP.c,.int .i64 r.Heap.bJ,.slice r.Heap.au.A r.Heap.au.n r.Heap.au.c,.slice r.Heap.Live.A r.Heap.Live.n r.Heap.Live.c,.slice r.aa.A r.aa.n r.aa.c,a.v,t.v,l.v]
def Bt (a:cr) (t:bU) : Prop:=(a.Kind=2∧t.Kind=1)∨(a.Kind=6∧t.Name=a.Name∧t.Name≠⟨#[]⟩)∨((a.Kind=9∨a.Kind=11)∧t.Kind=8)∨a.Kind=13∨a.Kind=14
set_option maxHeartbeats 4000000 in
def yE (A:Option Addr) (n c lo:Nat) (l:List bU) (w:World) (hO:Own w lo 50 6 lG A n c l) (i:Nat) (hi:i<n) (hn:n<=1000000000000000000) (dt:lo<=w.heap.size) :
 iO prog 55 [.slice A n c,.int .i64 (i:Int),.int .i64 ((i+1:Nat) : Int)] w fun v w'=>v = .slice A (n-1) c∧Own w' lo 50 6 lG A (n-1) c (l.eraseIdx i)∧w.grownBy w' (aG A c):=by
 refine dc func55 rfl ntmps55 rfl ?_;have hle:=hO.le;have mx:=hO.len;have hA:=hO.sl.base;have E1:w.grownBy w (aG A c):=World.grownBy.refl _ _
 repeat' (first|refine Wz ?_|(refine SW.st (oc (i:=i) (j:=i+1) (k:=n) rfl rfl rfl rfl (by omega) (by omega) (by omega)) rfl ?_))
 all_goals try omega
 have hw:=Ext.refl w;have e0:i+(n-(i+1))=n-1:=by omega
 have el:l.take i++l.drop (i+1)=l.eraseIdx i:=by rw [aeR]
 refine CW.any 6 mixed (db (by kernel_rfl)) rfl fun w1 ah aI => ?_
 obtain ⟨hw,hO⟩:=cT ah hw hO;clear ah;refine Wa ?_;refine Wu 2 aI rfl (cW (k:=i) rfl rfl (by omega)) ?_;refine Wa ?_;refine Wu 5 aI rfl (aZ (k:=i+1) rfl rfl (by omega) (by omega)) ?_;refine SA.fZ ?_;refine SW.qd (hO.pre (i:=i) (by omega)) (hO.sl.drop (i+1) c (by omega) (by omega)) (by omega) rfl rfl rfl fun w2 bg hg => ?_
 rw [e0,el] at bg;rw [e0];have DL:=(hw.gr (aG A c));repeat' (first|refine Wz ?_|(refine SW.st (iN (i:=n-1) (j:=n) rfl rfl rfl (by omega) (by omega)) rfl ?_))
 obtain ⟨g,rest,rfl,h1,h2,h3,h4,h5,h6⟩:=bg.opened (by omega);have nK:((l.eraseIdx i).flatMap lG).length=(n-1)*6:=by rw [aQ,bg.len]
 refine SW.clear ((n-1)*6) h2 rfl (by rw [aeD,nK];omega) (fun h0 => ?_) (by decide) fun w3 cs kK hB oZ => ?_
 ·rw [if_neg (by omega)];simp [cJ]
 ·have e7:=eH ((l.eraseIdx i).flatMap lG) (rest.take ((n-(n-1))*6)) (rest.drop ((n-(n-1))*6)) cs (by rw [kK];simp;omega) (o:=(n-1)*6) nK.symm;rw [aey (List.flatMap _ _),aex] at e7;rw [e7,aey] at hB;have BM:=Own.closed (l:=l.eraseIdx i) bg.len hB (by rw [aeD,kK];simp;omega) h4 (by omega) h5 h1;rw [<- h6] at oZ;have xG:=bC (bC DL hg (.inl rfl)) oZ (.inl rfl);refine Wz ?_;exact ae.bh rfl rfl ⟨_,rfl,rfl,BM,xG⟩
set_option maxHeartbeats 8000000 in
def Oi (b:Nat) (r:de) (p q z:fY) (x:uU) (l:List bU) (w:World) (hb:aR w b 48 (oT r p q z)) (hl:Sl w 6 lG z.A z.n l) (hn:z.n<=1000000) (ho : 0<x.Of∧x.Of<=1000000) :
 bI prog 20 [.pointer (some ⟨b,0,none⟩),.agg (sc x).toArray] w fun v _ => ∃ i:Int,v = .int .i64 i∧(i = -1 ∨ ∃ j:Nat,∃ h:j<l.length,i=(j:Int)∧Bt x.act l[j]):=by
 refine Wj func20 ntmps20 ?_;refine Ww fun b3 w1 hw cg ao => ?_;have hb:=hb.ext hw;have mx:=hl.len;have hA:=hl.base;refine Wz ?_
 refine CW.loop (fun s:Nat×Option Addr×Nat×Nat×List Int=>[(0,.pointer (some ⟨b,0,none⟩)),(3,.pointer (some ⟨b3,0,none⟩)),(5,.slice s.2.1 s.2.2.1 s.2.2.2.1),(11,.slice z.A z.n z.c),(12,.int .i64 (z.n:Int)),(13,.int .i64 (s.1:Int))])
  (fun s w'=>s.1<=z.n∧s.2.2.1<=s.1∧Ext w w'∧aR w' b 48 (oT r p q z)∧aR w' b3 81 (sc x)∧Own w' w.heap.size 3 1 bt s.2.1 s.2.2.1 s.2.2.2.1 s.2.2.2.2 ∧ ∀ i∈s.2.2.2.2,∃ j:Nat,∃ h:j<l.length,i=(j:Int)∧Bt x.act l[j]) (fun s=>z.n-s.1) (0,none,0,0,[])
  ⟨rfl,rfl,rfl,rfl,rfl,rfl,trivial⟩ ⟨afc _,afc _,hw,hb,ao,Own.fC _ _ _ _ _ _,fun i hi=>by cases hi⟩ ?_
 clear hw hb ao;rintro ⟨j,Y,m,f,ys⟩ w' ⟨hj,hmj,hw,hb,ao,hY,hP⟩
 simp only at hj hmj hY hP ⊢;by_cases my:j<z.n
 ·have pZ:j<l.length:=by omega
  repeat' (first|refine Wz ?_|refine Wo hw ((hl.all my)) ?_)
  refine SW.alloc rfl fun b7 w1 ah iT bc => ?_
  refine Wz ?_;refine Wg bc (Rg l[j]) fun w2 bp hg => ?_
  have ar:=ah.own iT hg;have gn:=hw.up iT
  obtain ⟨hw,hb,ao,hY⟩:=dJ ar hw hb ao hY;have bc:=bp;clear bp ah hg ar;obtain ⟨t,ht⟩ : ∃ t,l[j]=t:=⟨_,rfl⟩;rw [ht] at bc;repeat' (first|refine Wz ?_|(refine CW.vd rfl (fun h => ?_) (fun h => ?_))|refine SW.gp rfl rfl rfl (fun h => ?_) (fun h => ?_)|(refine SW.st (lN rfl rfl) rfl ?_)|(refine SW.st (wK rfl rfl) rfl ?_))
  all_goals try exact ae.again (j+1,Y,m,f,ys) ⟨rfl,rfl,rfl,rfl,rfl,rfl,trivial⟩ (by simp only;omega) ⟨by simp only;omega,by simp only;omega,hw,hb,ao,hY,hP⟩
  all_goals
   have hp:Bt x.act t:=by
    first
     | exact .inl ⟨by assumption,by assumption⟩
     | exact .inr (.inl ⟨by assumption,by assumption,by assumption⟩)
     | exact .inr (.inr (.inl ⟨by omega,by assumption⟩))
     | exact .inr (.inr (.inr (by omega)))
   refine SW.dR rfl rfl rfl rfl rfl fun vV w9 tQ lZ cb => ?_
   (obtain ⟨hw,hb,ao,hY⟩:=dJ tQ hw hb ao hY);clear tQ;refine SW.append hY (aR.wv (enc:=bt) (x:=(j:Int)) cb) hw.size rfl rfl rfl (by omega) (by omega) fun Y2 f2 oP IL hg => ?_
   have hG:=hY.gr hg;have hw:=aD hw hg (aew _) hY.aW;(obtain ⟨hb,ao⟩:=cT hG hb ao);clear hY hg hG cb;refine Wz ?_
   exact ae.again (j+1,Y2,m+1,f2,ys++[(j:Int)]) ⟨rfl,rfl,rfl,rfl,rfl,rfl,trivial⟩ (by simp only;omega) ⟨by simp only;omega,by simp only;omega,hw,hb,ao,IL,fun i hi=>by
    rcases aeC.1 hi with hi|hi
    ·exact hP i hi
    ·simp only [List.mem_singleton] at hi;exact ⟨j,pZ,hi,by rw [ht];exact hp⟩⟩
 ·have hym:=hY.len;have hYA:=hY.sl.base;by_cases ER:m=0
  ·subst ER;refine Wz ?_;exact ae.bh rfl rfl ⟨_,rfl,hw,_,rfl,.inl rfl⟩
  ·have WE:((m:Nat) : Int)≠0:=by omega
   have BG:∃ k:Nat,x.Of.tmod (m:Int)=(k:Int)∧k<m:=by
    rw [ae7 (by omega)];have h1:=agK x.Of WE;have h2:=agp x.Of (show (0:Int)<m by omega);obtain ⟨k,hk⟩:=aeE h1;exact ⟨k,hk,by omega⟩
   obtain ⟨k,hk,Cd⟩:=BG;repeat' (first|refine Wz ?_|refine SW.st (cn (k) rfl rfl (by assumption) (by omega) (by omega)) rfl ?_|refine Wl (hY.sl.one Cd (congrArg bt (rfl:ys[k]=ys[k]))) ?_)
   exact ae.bh rfl rfl ⟨_,rfl,hw,_,rfl,.inr (hP _ (aet (by omega)))⟩
variable {s0:ag}
inductive rM (cpus:Int) : uU->Prop
 | fL {c n:Int} (hn : 1<=n∧n<=140) : rM cpus ⟨⟨8,c,n,0,0,0,⟨#[]⟩⟩,0⟩
 | kW {c o:Int} (ho : 1<=o∧o<=9) : rM cpus ⟨⟨9,c,0,0,0,0,⟨#[]⟩⟩,o⟩
 | eA {c n o:Int} (hn : 1<=n∧n<=60) (ho : 1<=o∧o<=9) : rM cpus ⟨⟨11,c,n,0,0,0,⟨#[]⟩⟩,o⟩
 | bD {c n f:Int} (hn : 0<=n∧n<=4) : rM cpus ⟨⟨1,c,n,0,0,f,⟨#[]⟩⟩,0⟩
 | nX {c o:Int} (ho : 1<=o∧o<=9) : rM cpus ⟨⟨2,c,0,0,0,0,⟨#[]⟩⟩,o⟩
 | new {c:Int} {n:ByteArray} (hn:n=nt∨n=dN) : rM cpus ⟨⟨5,c,0,0,0,0,n⟩,0⟩
 | drop {c o:Int} {n:ByteArray} (hn:n=nt∨n=dN) (ho : 1<=o∧o<=9) : rM cpus ⟨⟨6,c,0,0,0,0,n⟩,o⟩
 | tidy {c k:Int} {n:ByteArray} (hk:k=12∨k=7) (hn:n.size<=8) : rM cpus ⟨⟨k,c,0,0,0,0,n⟩,0⟩
 | bulk {c n:Int} (hn : 1<=n∧n<=30) : rM cpus ⟨⟨15,c,n,0,0,0,nt⟩,0⟩
 | write {c m o:Int} (hm : 0<=m∧m<1000) (ho : 1<=o∧o<=9) : rM cpus ⟨⟨13,c,0,m,0,0,⟨#[]⟩⟩,o⟩
 | read {c o:Int} (ho : 1<=o∧o<=9) : rM cpus ⟨⟨14,c,0,0,0,0,⟨#[]⟩⟩,o⟩
def oU:uU:=⟨⟨3,0,5,1,0,0,nt⟩,0⟩
def jE:uU:=⟨⟨3,0,2,2,0,0,dN⟩,0⟩
def dA (a:cr) (t:Int) : cr:=⟨a.Kind,a.gl,a.N,a.M,t,a.Flags,a.Name⟩
inductive qL (a:cr) (x:j8) (i:Int) (l:List bU) : List bU->Prop
 | k8 (hk:a.Kind=8) : qL a x i l (l++[⟨x.N,a.N,8,⟨#[]⟩,0,false⟩])
 | k1 (hk:a.Kind=1) (hN:(0<=x.N∧x.N<=100000)∧0<=a.N∧a.N<=4) : qL a x i l (l++[⟨x.N*16,16*pw a.N,1,⟨#[]⟩,0,false⟩])
 | k5 (hk:a.Kind=5) (hN:a.Name=nt∨a.Name=dN) : qL a x i l (l++[⟨x.N,oR a.Name,5,a.Name,0,false⟩])
 | Yx (hk:a.Kind=15) (hl:x.L.length<=1000) : qL a x i l (l++x.L.map fun p=>⟨p,5,5,a.Name,0,false⟩)
 | back {j:Nat} (hk:a.Kind=9∨a.Kind=2∨a.Kind=6) (hi:i=(j:Int)) (hj:j<l.length) : qL a x i l (l.eraseIdx j)
 | move {j:Nat} (hk:a.Kind=11) (hi:i=(j:Int)) (hj:j<l.length) : qL a x i l (l.set j ⟨x.N,a.N,l[j].Kind,l[j].Name,l[j].Word,l[j].uu⟩)
 | write {j:Nat} (hk:a.Kind=13) (hi:i=(j:Int)) (hj:j<l.length) : qL a x i l (l.set j ⟨l[j].At,l[j].ay,l[j].Kind,l[j].Name,a.M,true⟩)
 | none (hk:a.Kind=3∨a.Kind=7∨a.Kind=12∨a.Kind=14) : qL a x i l l
def qL.len {a:cr} {x:j8} {i:Int} {l l':List bU} (h:qL a x i l l') : l'.length<=l.length+1000:=by
 cases h with
 | back=>have:=afr l ‹Nat›;omega
 | move|write=>simp
 | none=>omega
 | Yx=>simp only [List.length_append,List.length_map];omega
 | k8|k1|k5=>simp
inductive Ph (s0:ag) : Nat->ag->List bU->Prop
 | p0:Ph s0 0 s0 []
 | p1 {s:ag} (hc:s.Heap.bJ=s0.Heap.bJ) (hI:dy s) (hb:yD s) (hs:j9 s=kI++[([nt],5)]) : Ph s0 1 s []
 | go {j:Nat} {s:ag} {l:List bU} (h : 2<=j) (ho:Out s0.Heap.bJ s l) : Ph s0 j s l
def kJ:List Int:=[8,11,5,3,6,9,7,1,2,12,15]
structure pX (s0:ag) (j:Nat) (s:ag) (l:List bU) (a:cr) (i:Int) : Prop where
 kinds:a.Kind∈kJ∨a.Kind=13∨a.Kind=14
 at_ : -100000<=a.At∧a.At<=100000
 name:a.Name.size<=8
 nX:a.Kind=2->(0<=a.At∧a.At<256)∧cV s (a.At*16)=true
 word:a.Kind=13∨a.Kind=14->gu s a.At true
 room:a.Kind=13->rF a.M
 out:∀ u,cu s a u->u.2.Code=0 -> ∃ l',qL a u.2 i l l'∧Ph s0 (j+1) u.1 l'
 fail:∀ u,cu s a u->u.2.Code≠0->Ph s0 (j+1) u.1 l
def pX.of {l:List bU} {a:cr} {i:Int} (hk:a.Kind∈kJ) (h2:a.Kind≠2) (kZ : -100000<=a.At∧a.At<=100000) (hn:a.Name.size<=8) (ho:∀ u,cu s a u->u.2.Code=0 -> ∃ l',qL a u.2 i l l'∧Ph s0 (j+1) u.1 l') (hf:∀ u,cu s a u->u.2.Code≠0->Ph s0 (j+1) u.1 l) : pX s0 j s l a i:=by
 have h13:a.Kind≠13∧a.Kind≠14:=by
  simp only [kJ,List.mem_cons,List.not_mem_nil,or_false] at hk;omega
 exact ⟨.inl hk,kZ,hn,fun h=>absurd h h2,fun h=>by omega,fun h=>absurd h h13.1,ho,hf⟩
def Gx:(⟨#[]⟩ : ByteArray).size<=8:=by decide
def wi:nt.size<=8∧dN.size<=8:=by decide
def Oj (hI:dy s) (hb:yD s) (hs:j9 s=kI) : pX s 0 s [] oU.act (-1):=by
 have key:∀ u,cu s oU.act u->u.2.Code=0∧Ph s 1 u.1 []:=fun u hu=>by
  obtain ⟨v,hv,rfl⟩:=hu.Z8 rfl;obtain ⟨h0,h1⟩:=Qe hI hb hs hv;simp only;rw [nH h0];exact ⟨h0,.p1 (by rw [hv.heap h0]) (hv.jQ hI h0).1 (hv.bare hb h0) h1⟩
 exact .of (by simp [oU,kJ]) (by simp [oU]) (by simp [oU]) wi.1 (fun u hu h0=>⟨[],.none (.inl rfl),(key u hu).2⟩) (fun u hu h0=>absurd (key u hu).1 h0)
def Ok (hc:s.Heap.bJ=s0.Heap.bJ) (hI:dy s) (hb:yD s) (hs:j9 s=kI++[([nt],5)]) : pX s0 1 s [] jE.act (-1):=by
 have key:∀ u,cu s jE.act u->u.2.Code=0∧Ph s0 2 u.1 []:=fun u hu=>by
  obtain ⟨v,hv,rfl⟩:=hu.Z8 rfl;obtain ⟨h0,h1⟩:=Lz hI hb hs hv;simp only;rw [nH h0];have ho:=LA (hv.jQ hI h0).1 (hv.bare hb h0) h1;rw [hv.heap h0,hc] at ho;exact ⟨h0,.go (aew _) ho⟩
 exact .of (by simp [jE,kJ]) (by simp [jE]) (by simp [jE]) wi.2 (fun u hu h0=>⟨[],.none (.inl rfl),(key u hu).2⟩) (fun u hu h0=>absurd (key u hu).1 h0)
section
variable {s0 s:ag} {l:List bU} {j:Nat} {cpus:Int}
def mi (hj : 2<=j) (h:Out s0.Heap.bJ s l) {a:cr}:∀ u,cu s a u->u.2.Code≠0->Ph s0 (j+1) u.1 l:=fun u hu h0=>by
 rw [hu.fail h0];exact .go (by omega) h
def Ol (hj : 2<=j) (h:Out s0.Heap.bJ s l) {x:uU} (hx:rM cpus x) (h0 : ¬ 0<x.Of) : pX s0 j s l x.act (-1):=by
 cases hx with
 | kW ho|eA _ ho|nX ho|drop _ ho|write _ ho|read ho=>exact absurd (show (0:Int)<_ by simp only;omega) h0
 | fL hn=>exact .of (by simp [kJ]) (by simp) (by simp) Gx (fun u hu h0=>⟨_,.k8 rfl,.go (by omega) (Ew h rfl hu h0)⟩) (mi hj h)
 | bD hn =>
   refine .of (by simp [kJ]) (by simp) (by simp) Gx (fun u hu h0 => ?_) (mi hj h);obtain ⟨v,hv,e⟩:=hu.Z4 rfl
   have h2 : 0<=u.2.N∧u.2.N<=100000:=by
    rw [e] at h0 ⊢;have:=hv.at_ h0
    simp only;omega
   exact ⟨_,.k1 rfl ⟨h2,hn⟩,.go (by omega) (Iz h rfl hu h0)⟩
 | new hn =>
   have hz:=wi;exact .of (by simp [kJ]) (by simp) (by simp) (by rcases hn with rfl|rfl<;>simp [hz]) (fun u hu h0=>⟨_,.k5 rfl hn,.go (by omega) (N8 h rfl hn hu h0)⟩) (mi hj h)
 | tidy hk hn=>exact .of (by simp only [kJ,List.mem_cons];omega) (by simp only;omega) (by simp) hn (fun u hu h0=>⟨_,.none (by simp only;omega),.go (by omega) (xw h (by simp only;omega) hu)⟩) (mi hj h)
 | bulk hn =>
   refine .of (by simp [kJ]) (by simp) (by simp) wi.1 (fun u hu h0 => ?_) (mi hj h);obtain ⟨h1,h2⟩:=Lq h rfl rfl hu h0;exact ⟨_,.Yx rfl (by simp only at h2;omega),.go (by omega) h1⟩
def tg (a:cr) (t:bU) : Int:=if a.Kind=2 then t.At / 16 else t.At
def Om (hj : 2<=j) (h:Out s0.Heap.bJ s l) {x:uU} (hx:rM cpus x) (h0 : 0<x.Of) (hi:i<l.length) (hp:Bt x.act l[i]) : pX s0 j s l (dA x.act (tg x.act l[i])) (i:Int):=by
 obtain ⟨q,hq⟩:=h.fits _ (aet hi);have hr:=fi h.sys.may hq.nA;have hw:=Gw h.sys.may hq.nA;cases hx with
 | fL|bD|new|tidy|bulk=>exact absurd h0 (by simp)
 | kW ho =>
   exact .of (by simp [dA,kJ]) (by simp [dA]) (by simp [dA,tg];omega) (by simp [dA];decide) (fun u hu h0=>⟨_,.back (.inl rfl) rfl hi,.go (by omega) (tO h hi (.inl ⟨.inl rfl,by simp [dA,tg]⟩) hu h0)⟩) (mi hj h)
 | eA hn ho =>
   have hk:l[i].Kind=8:=by unfold Bt at hp;simp only at hp;omega
   exact .of (by simp [dA,kJ]) (by simp [dA]) (by simp [dA,tg];omega) (by simp [dA];decide) (fun u hu h0=>⟨_,.move rfl rfl hi,.go (by omega) (Lr h hi rfl hk (by simp [dA,tg]) hu h0)⟩) (mi hj h)
 | @nX c o ho =>
   have hk:l[i].Kind=1:=by unfold Bt at hp;simp only at hp;omega
   have wS:∃ o,q = .pg o:=by
    rcases hq.kind with ⟨_,h⟩|⟨h,_⟩|⟨h,_⟩
    ·exact h
    ·omega
    ·omega
   obtain ⟨o,rfl⟩:=wS;have Yn:=(dG hq.nA.1).2.2;have e:l[i].At / 16*16=l[i].At:=by omega
   have ea:tg (⟨2,c,0,0,0,0,⟨#[]⟩⟩ : cr) l[i]=l[i].At / 16:=by simp [tg]
   have h2:(0<=l[i].At / 16∧l[i].At / 16<256)∧cV s (l[i].At / 16*16)=true:=by
    rw [e];exact ⟨by omega,hq.nA.1⟩
   exact ⟨.inl (by simp [dA,kJ]),by simp only [dA,ea];omega,by simp [dA];decide,fun _=>by simp only [dA,ea];exact h2,fun h=>by simp [dA] at h,fun h=>by simp [dA] at h,fun u hu h0=>⟨_,.back (.inr (.inl rfl)) rfl hi,.go (by omega) (tO h hi (.inr ⟨rfl,by simp only [dA,ea];exact e⟩) hu h0)⟩,mi hj h⟩
 | drop hn ho =>
   have hz:=wi;exact .of (by simp [dA,kJ]) (by simp [dA]) (by simp [dA,tg];omega) (by rcases hn with rfl|rfl<;>simp [dA,hz]) (fun u hu h0=>⟨_,.back (.inr (.inr rfl)) rfl hi,.go (by omega) (tO h hi (.inl ⟨.inr rfl,by simp [dA,tg]⟩) hu h0)⟩) (mi hj h)
 | write hm ho =>
   exact ⟨.inr (.inl rfl),by simp [dA,tg];omega,by simp [dA];decide,fun h=>by simp [dA] at h,fun _=>by simpa [dA,tg] using hw,fun _=>by unfold rF;simp only [dA];omega,fun u hu h0=>⟨_,.write rfl rfl hi,.go (by omega) (IA h hi rfl (by simp [dA,tg]) hu h0)⟩,mi hj h⟩
 | read ho =>
   exact ⟨.inr (.inr rfl),by simp [dA,tg];omega,by simp [dA];decide,fun h=>by simp [dA] at h,fun _=>by simpa [dA,tg] using hw,fun h=>by simp [dA] at h,fun u hu h0=>⟨_,.none (.inr (.inr (.inr rfl))),.go (by omega) (xw h (.inr (.inr rfl)) hu)⟩,mi hj h⟩
end
set_option maxHeartbeats 4000000 in
def On (r:de) (s:ag) (a:cr) (lo:Nat) (w:World) (hO:jj w lo r s) (dt:lo<=w.heap.size) (hI:dy s) :
 bI prog 24 [.agg (aK r).toArray,.agg (dZ a).toArray] w fun v w' => ∃ u,pB s a u ∧ ∃ q,v = .tuple #[.agg (aK q).toArray,.int .i64 u.2]∧jj w' lo q u.1:=by
 obtain ⟨k,cpu,n,m,At,fl,nm⟩:=a;have hf:=hI.cS;have hs:=hf.small;have hM:=hI.may;refine Wj func24 ntmps24 ?_;refine Ww fun b2 w1 hw eW aq => ?_;have l2:=aq.lt;refine SW.box rfl rfl fun b3 w2 bq cg ao => ?_
 have gm:=hw.up cg
 (obtain ⟨hw,aq⟩:=cT bq hw aq);clear bq;have l3:=ao.lt;refine SW.alloc rfl fun b4 w2 bq fw aE => ?_
 have dQ:=hw.up fw
 (obtain ⟨hw,aq,ao⟩:=cd bq hw aq ao);clear bq;have Oo:b4≠b2:=by omega
 by_cases h1 : 0<=At∧At<256
 ·obtain ⟨h11,SS⟩:=h1;have h1 : 0<=At∧At<256:=⟨h11,SS⟩
  repeat' (first|refine Wy ?_|refine Wl (ao.cell (i:=4) (v := .int .i64 At) rfl) ?_|refine Wm ((fun _ _=>aq.cell)) ?_)
  refine Wk (tH r s (At*16) _ (hO.rd.ext hw) hs hM (by omega)) fun v w6 FP hv => ?_
  obtain ⟨ix,rfl,oe⟩:=hv;(obtain ⟨hw,aq,ao,aE⟩:=dJ FP hw aq ao aE);cases hW:cV s (At*16)
  ·have bg:=hO.ext hw;repeat' (first|refine Wy ?_|(refine CW.gG rfl ?_)|refine Wm ((fun _ _=>aq.cell)) ?_)
   refine Wg aE (aU r) fun w7 hR hg => ?_
   have hG:=aE.gr hg;have hw:=hw.own dQ hg;(have bg:=bg.aJ hG rfl);repeat' (first|refine Wy ?_|fail);exact ae.dj rfl rfl rfl hR rfl ⟨_,rfl,hw,_,.no h1 hW,r,rfl,bg⟩
  ·repeat' (first|refine Wy ?_|(refine CW.gj rfl ?_)|refine Wm ((mH aq)) ?_|refine Wl (ao.cell (i:=1) (v := .int .i64 cpu) rfl) ?_|refine Wl (ao.cell (i:=4) (v := .int .i64 At) rfl) ?_)
   refine Wk (vL r.Heap s.Heap cpu At _ (hO.rd.heap.ext hw) hs.heap hf.cq (by omega)) fun v w7 iV hv => ?_
   obtain ⟨H,rfl,hH⟩:=hv;have hH:=hH.low (aev dt hw.size);(obtain ⟨hw,aq,ao,aE⟩:=dJ iV hw aq ao aE);have G3:=fun he=>pB.ok (s:=s) (a:=⟨k,cpu,n,m,At,fl,nm⟩) h1 hW he
   have cK:=fun he=>pB.fault (s:=s) (a:=⟨k,cpu,n,m,At,fl,nm⟩) h1 hW he
   simp only at G3 cK;generalize fq s.Heap cpu At=u at hH G3 cK ⊢
   obtain ⟨e,u1⟩:=u;simp only at hH G3 cK ⊢;by_cases he:e=0
   ·subst he;repeat' (first|refine Wy ?_|fail);have bg:=hO.ext hw;refine SW.alloc rfl fun b8 w1 ah nV bf => ?_
    skip;refine Wg bf (ed H) fun w2 rD hg => ?_
    have ar:=ah.own nV hg;have gq:=hw.up nV
    obtain ⟨hw,aq,ao,aE,hH,bg⟩:=jh ar hw aq ao aE hH bg;have bf:=rD;clear rD ah hg ar;repeat' (first|refine Wy ?_|refine Wm ((fun _ _=>bf.cell)) ?_)
    refine SW.gE 1 aq rfl rfl rfl (ae2 rfl) (ed H) (aK ⟨r.Words,H,r.aa⟩) rfl fun qH lF hg => ?_
    have hG:=aq.gr hg;have aE:=aE.grown hg (by simpa using Oo);have hw:=hw.own eW hg;(obtain ⟨hH,bg⟩:=cT hG hH bg);repeat' (first|refine Wy ?_|refine Wm ((fun _ _=>lF.cell)) ?_)
    refine Wg aE (aU ⟨r.Words,H,r.aa⟩) fun w7 hR hg => ?_
    have hG:=aE.gr hg;have hw:=hw.own dQ hg;(obtain ⟨hH,bg⟩:=cT hG hH bg);repeat' (first|refine Wy ?_|fail);exact ae.dj rfl rfl rfl hR rfl ⟨_,rfl,hw,_,G3 rfl,⟨r.Words,H,r.aa⟩,rfl,bg.words,hH,bg.bo⟩
   ·repeat' (first|refine Wy ?_|fail);have bg:=hO.ext hw;refine SW.alloc rfl fun b8 w1 ah nV bf => ?_
    skip;refine Wg bf (ed H) fun w2 rD hg => ?_
    have ar:=ah.own nV hg;have gq:=hw.up nV
    obtain ⟨hw,aq,ao,aE,hH,bg⟩:=jh ar hw aq ao aE hH bg;have bf:=rD;clear rD ah hg ar;repeat' (first|refine Wy ?_|refine Wm ((fun _ _=>aq.cell)) ?_)
    refine Wg aE (aU r) fun w7 hR hg => ?_
    have hG:=aE.gr hg;have hw:=hw.own dQ hg;(have bg:=bg.aJ hG rfl);repeat' (first|refine Wy ?_|fail);exact ae.dj rfl rfl rfl hR rfl ⟨_,rfl,hw,_,cK he,r,rfl,bg⟩
 ·have hc:At<0∨(0<=At∧256<=At):=by omega
  rcases hc with h2|h2
  all_goals repeat' (first|refine Wy ?_|refine Wl (ao.cell (i:=4) (v := .int .i64 At) rfl) ?_|refine Wm ((fun _ _=>aq.cell)) ?_)
  all_goals
   have bg:=hO.ext hw;refine Wg aE (aU r) fun w7 hR hg => ?_
   have hG:=aE.gr hg;have hw:=hw.own dQ hg;(have bg:=bg.aJ hG rfl);repeat' (first|refine Wy ?_|fail);exact ae.dj rfl rfl rfl hR rfl ⟨_,rfl,hw,_,.range h1,r,rfl,bg⟩
set_option maxHeartbeats 4000000 in
def Oq (a:cr) (hk:a.Kind=1) : fM dy a:=by
 intro r s lo w hO dt hI hS fh
 obtain ⟨k,cpu,n,m,At,fl,nm⟩:=a
 simp only at hk
 subst hk
 have hf:=hI.cS
 have hs:=hf.small
 have hM:=hI.may
 refine Wj func12 ntmps12 ?_
 refine Ww fun b2 w1 hw eW aq => ?_
 have l2:=aq.lt
 refine SW.box rfl rfl fun b3 w2 bq cg ao => ?_
 have gm:=hw.up cg
 (obtain ⟨hw,aq⟩:=cT bq hw aq)
 clear bq
 have l3:=ao.lt
 refine SW.alloc rfl fun b4 w2 bq fw aE => ?_
 have dQ:=hw.up fw
 (obtain ⟨hw,aq,ao⟩:=cd bq hw aq ao)
 clear bq
 have l4:=aE.lt
 refine SW.alloc rfl fun b5 w2 bq gI aL => ?_
 have jR:=hw.up gI
 (obtain ⟨hw,aq,ao,aE⟩:=dJ bq hw aq ao aE)
 clear bq
 have l5:=aL.lt
 repeat' (first|(first|refine CW.seq ?_|refine CW.region ?_)|(refine ae.seq ?_)|refine SW.nil ?_|(show SW _ _ _ _ (⟨_,Op.load _ _,_,_,_,none⟩::_) _ _;refine Wm ((fun _ _=>aq.cell)) ?_))
 refine SW.alloc rfl fun b6 w1 ah dv ap => ?_
 skip
 refine Wg ap (aU r) fun w2 bQ hg => ?_
 have ar:=ah.own dv hg
 have cQ:=hw.up dv
 have hw:=hw.trans ar
 have aq:=aq.ext ar
 have ao:=ao.ext ar
 have aE:=aE.ext ar
 have aL:=aL.ext ar
 have ap:=bQ
 clear bQ ah hg ar
 have l6:=ap.lt
 repeat' (first|(first|refine CW.seq ?_|refine CW.region ?_)|(refine ae.seq ?_)|refine SW.nil ?_|(show SW _ _ _ _ (⟨_,Op.build _ _,_,_,_,none⟩::_) _ _;refine SW.st (jb rfl rfl) rfl ?_))
 refine SW.alloc rfl fun b7 w1 ah iT bc => ?_
 skip
 refine Wg bc (fE ⟨0,0,.nil⟩) fun w2 bp hg => ?_
 have ar:=ah.own iT hg
 have gn:=hw.up iT
 have hw:=hw.trans ar
 have aq:=aq.ext ar
 have ao:=ao.ext ar
 have aE:=aE.ext ar
 have aL:=aL.ext ar
 have ap:=ap.ext ar
 have bc:=bp
 clear bp ah hg ar
 have yb:b2≠b6:=by omega
 have yd:b4≠b6:=by omega
 have Oo:b2≠b4:=by omega
 have rN:b5≠b7:=by omega
 clear l2 l3 l4 l5 l6
 repeat' (first|(first|refine CW.seq ?_|refine CW.region ?_|refine CW.block ?_|refine CW.ve rfl (by omega) ?_)|(refine ae.seq ?_)|refine SW.nil ?_|refine SW.pure rfl rfl ?_|(show SW _ _ _ _ (⟨_,Op.fieldAddr _ _ _,_,_,_,none⟩::_) _ _;refine SW.st (az rfl) rfl ?_)|(show SW _ _ _ _ (⟨_,Op.load _ _,_,_,_,none⟩::_) _ _;first|refine Wm ((mH aq)) ?_|refine Wl (ao.cell (i:=1) (v := .int .i64 cpu) rfl) ?_|refine Wl (ao.cell (i:=2) (v := .int .i64 n) rfl) ?_|refine Wl (ao.cell (i:=5) (v := .int .i64 fl) rfl) ?_|refine Wl (ao.cell (i:=0) (v := .int .i64 1) rfl) ?_))
 refine Wk (qG r.Heap s.Heap cpu n fl _ (hO.rd.heap.ext hw) hs.heap hf.cq (fh.ext hw)) fun v w7 iV hv => ?_
 obtain ⟨u,hu,H,rfl,hH⟩:=hv
 have hH:=hH.low (aev dt hw.size)
 (obtain ⟨hw,aq,ao,aE,aL,ap,bc⟩:=ue iV hw aq ao aE aL ap bc)
 clear iV
 have bg:=hO.ext hw
 have hA:=cu.bD (s:=s) (a:=⟨1,cpu,n,m,At,fl,nm⟩) rfl hu
 obtain ⟨u1,N,e⟩:=u
 simp only at hA hH ⊢
 by_cases he:e=0
 ·rw [ms,if_pos he,he] at hA
  rw [he]
  repeat' (first|refine SW.pure rfl rfl ?_|(show SW _ _ _ _ (⟨_,Op.fieldAddr _ _ _,_,_,_,none⟩::_) _ _;refine SW.st (az rfl) rfl ?_))
  refine SW.gE 1 ap rfl rfl rfl (ae2 rfl) (ed H) (aK ⟨r.Words,H,r.aa⟩) rfl fun qH bQ hg => ?_
  have hG:=ap.gr hg
  have aq:=aq.grown hg (by simpa using yb)
  have aE:=aE.grown hg (by simpa using yd)
  have hw:=hw.own cQ hg
  (obtain ⟨ao,aL,bc,bg,hH⟩:=fH hG ao aL bc bg hH)
  have ap:=bQ
  clear bQ hG hg
  repeat' ((show SW _ _ _ _ (⟨_,Op.fieldAddr _ _ _,_,_,_,none⟩::_) _ _;refine SW.st (az rfl) rfl ?_))
  refine Wb (i:=1) bc fun iZ bp hg => ?_
  have hG:=bc.gr hg
  have aL:=aL.grown hg (by simpa using rN)
  have hw:=hw.own gn hg
  (obtain ⟨aq,ao,aE,ap,bg,hH⟩:=jh hG aq ao aE ap bg hH)
  have bc:aR _ b7 56 (ck ⟨0,N,.nil⟩):=bp
  clear bp hG hg
  repeat' ((show SW _ _ _ _ (⟨_,Op.fieldAddr _ _ _,_,_,_,none⟩::_) _ _;refine SW.st (az rfl) rfl ?_))
  refine Wb (i:=0) bc fun iZ bp hg => ?_
  have hG:=bc.gr hg
  have aL:=aL.grown hg (by simpa using rN)
  have hw:=hw.own gn hg
  (obtain ⟨aq,ao,aE,ap,bg,hH⟩:=jh hG aq ao aE ap bg hH)
  have bc:aR _ b7 56 (ck ⟨0,N,.nil⟩):=bp
  clear bp hG hg
  repeat' (first|(first|refine CW.seq ?_|refine CW.region ?_|refine CW.vg rfl (by omega) ?_|refine CW.skip ?_)|(first|refine ae.seq ?_|refine ae.eV ?_)|refine SW.nil ?_|refine SW.pure rfl rfl ?_|(show SW _ _ _ _ (⟨_,Op.fieldAddr _ _ _,_,_,_,none⟩::_) _ _;refine SW.st (az rfl) rfl ?_)|(show SW _ _ _ _ (⟨_,Op.load _ _,_,_,_,none⟩::_) _ _;refine Wl (bc.cell (i:=0) (v := .int .i64 0) rfl) ?_))
  refine CW.gB 2 3 (fun w2=>aR w2 b7 56 (ck ⟨0,N,.nil⟩)) mixed (by kernel_rfl) fun w1 ah aI => ?_
  obtain ⟨hw,aq,aE,aL,ap,bc,bg,hH⟩:=DH ah hw aq aE aL ap bc bg hH;clear ah
  refine Wt 0 [] [] aI rfl (aY rfl rfl ((fun _ _=>ap.cell))) ?_
  refine Wi 1 [] aI rfl (aY rfl rfl ((fun _ _=>bc.cell))) (fun w2 hS=>aY rfl rfl ((fun _ _=>hS.cell))) ?_
  refine SF.iA ?_
  refine Wg aE (aU ⟨r.Words,H,r.aa⟩) fun w8 df hg => ?_
  have hG:=aE.gr hg
  have hw:=hw.own dQ hg
  (obtain ⟨aL,bc,bg,hH⟩:=dJ hG aL bc bg hH)
  have hS:=bc
  refine SW.nil (ae.sg hS ?_)
  refine SG.ff ?_
  refine Wg aL (fE ⟨0,N,.nil⟩) fun w9 fa hg => ?_
  have hG:=aL.gr hg
  have hw:=hw.own jR hg
  (obtain ⟨df,bg,hH⟩:=cd hG df bg hH)
  repeat' (first|(refine CW.ret ?_)|(first|refine ae.seq ?_|refine ae.np ?_)|refine SW.nil ?_)
  exact ae.nG rfl rfl rfl df fa rfl rfl ⟨_,rfl,hw,_,hA,⟨r.Words,H,r.aa⟩,⟨0,N,.nil⟩,rfl,⟨bg.words,hH,bg.bo⟩,kH.plain _ _ _ _⟩
 ·rw [ms,if_neg he] at hA
  repeat' (first|refine SW.pure rfl rfl ?_|(show SW _ _ _ _ (⟨_,Op.fieldAddr _ _ _,_,_,_,none⟩::_) _ _;refine SW.st (az rfl) rfl ?_))
  refine SW.gE 1 ap rfl rfl rfl (ae2 rfl) (ed H) (aK ⟨r.Words,H,r.aa⟩) rfl fun qH bQ hg => ?_
  have hG:=ap.gr hg
  have aq:=aq.grown hg (by simpa using yb)
  have aE:=aE.grown hg (by simpa using yd)
  have hw:=hw.own cQ hg
  (obtain ⟨ao,aL,bc,bg,hH⟩:=fH hG ao aL bc bg hH)
  have ap:=bQ
  clear bQ hG hg
  repeat' ((show SW _ _ _ _ (⟨_,Op.fieldAddr _ _ _,_,_,_,none⟩::_) _ _;refine SW.st (az rfl) rfl ?_))
  refine Wb (i:=1) bc fun iZ bp hg => ?_
  have hG:=bc.gr hg
  have aL:=aL.grown hg (by simpa using rN)
  have hw:=hw.own gn hg
  (obtain ⟨aq,ao,aE,ap,bg,hH⟩:=jh hG aq ao aE ap bg hH)
  have bc:aR _ b7 56 (ck ⟨0,N,.nil⟩):=bp
  clear bp hG hg
  repeat' ((show SW _ _ _ _ (⟨_,Op.fieldAddr _ _ _,_,_,_,none⟩::_) _ _;refine SW.st (az rfl) rfl ?_))
  refine Wb (i:=0) bc fun iZ bp hg => ?_
  have hG:=bc.gr hg
  have aL:=aL.grown hg (by simpa using rN)
  have hw:=hw.own gn hg
  (obtain ⟨aq,ao,aE,ap,bg,hH⟩:=jh hG aq ao aE ap bg hH)
  have bc:aR _ b7 56 (ck ⟨e,N,.nil⟩):=bp
  clear bp hG hg
  repeat' (first|(first|refine CW.seq ?_|refine CW.region ?_|refine CW.vf rfl (by omega) ?_)|(first|refine ae.seq ?_|refine ae.eV ?_)|refine SW.nil ?_|refine SW.pure rfl rfl ?_|(show SW _ _ _ _ (⟨_,Op.fieldAddr _ _ _,_,_,_,none⟩::_) _ _;refine SW.st (az rfl) rfl ?_)|(show SW _ _ _ _ (⟨_,Op.load _ _,_,_,_,none⟩::_) _ _;refine Wl (bc.cell (i:=0) (v := .int .i64 e) rfl) ?_))
  refine CW.gB 2 3 (fun w2=>aR w2 b7 56 (ck ⟨e,N,.nil⟩)) mixed (by kernel_rfl) fun w1 ah aI => ?_
  obtain ⟨hw,aq,aE,aL,ap,bc,bg,hH⟩:=DH ah hw aq aE aL ap bc bg hH;clear ah
  refine Wt 0 [] [] aI rfl (aY rfl rfl ((fun _ _=>aq.cell))) ?_
  refine Wi 1 [] aI rfl (aY rfl rfl ((fun _ _=>bc.cell))) (fun w2 hS=>aY rfl rfl ((fun _ _=>hS.cell))) ?_
  refine SF.iA ?_
  refine Wg aE (aU r) fun w8 df hg => ?_
  have hG:=aE.gr hg
  have hw:=hw.own dQ hg
  (obtain ⟨aL,bc,bg,hH⟩:=dJ hG aL bc bg hH)
  have hS:=bc
  refine SW.nil (ae.sg hS ?_)
  refine SG.ff ?_
  refine Wg aL (fE ⟨e,N,.nil⟩) fun w9 fa hg => ?_
  have hG:=aL.gr hg
  have hw:=hw.own jR hg
  (obtain ⟨df,bg,hH⟩:=cd hG df bg hH)
  repeat' (first|(refine CW.ret ?_)|(first|refine ae.seq ?_|refine ae.va ?_|refine ae.np ?_)|refine SW.nil ?_)
  exact ae.nG rfl rfl rfl df fa rfl rfl ⟨_,rfl,hw,_,hA,r,⟨e,N,.nil⟩,rfl,bg,kH.plain _ _ _ _⟩
set_option maxHeartbeats 4000000 in
def Gy (a:cr) (hk:a.Kind=2) : fM dy a:=by
 intro r s lo w hO dt hI hS fh;obtain ⟨k,cpu,n,m,At,fl,nm⟩:=a;simp only at hk;subst hk;have hf:=hI.cS;have hs:=hf.small;have hM:=hI.may;refine uA func12 rfl ntmps12 rfl ?_;refine CW.seq (CW.region (SW.box rfl rfl fun b2 w1 hw eW aq => ?_));have l2:=aq.lt;refine SW.box rfl rfl fun b3 w2 bq cg ao => ?_
 have gm:=hw.up cg
 (obtain ⟨hw,aq⟩:=cT bq hw aq);clear bq;have l3:=ao.lt;refine SW.alloc rfl fun b4 w2 bq fw aE => ?_
 have dQ:=hw.up fw
 (obtain ⟨hw,aq,ao⟩:=cd bq hw aq ao);clear bq;have l4:=aE.lt;refine SW.alloc rfl fun b5 w2 bq gI aL => ?_
 have jR:=hw.up gI
 (obtain ⟨hw,aq,ao,aE⟩:=dJ bq hw aq ao aE);clear bq;have l5:=aL.lt;repeat' (first|refine Wy ?_|refine Wm ((fun _ _=>aq.cell)) ?_)
 refine SW.alloc rfl fun b6 w1 ah dv ap => ?_
 skip;refine SW.bw ap rfl rfl rfl rfl (aU r) fun w2 bQ hg => ?_
 have ar:=ah.own dv hg;have cQ:=hw.up dv
 obtain ⟨hw,aq,ao,aE,aL⟩:=fH ar hw aq ao aE aL;have ap:=bQ;clear bQ ah hg ar;have l6:=ap.lt;repeat' (first|refine Wy ?_|fail);refine SW.alloc rfl fun b7 w1 ah iT bc => ?_
 skip;refine SW.bw bc rfl rfl rfl rfl (fE ⟨0,0,.nil⟩) fun w2 bp hg => ?_
 have ar:=ah.own iT hg;have gn:=hw.up iT
 obtain ⟨hw,aq,ao,aE,aL,ap⟩:=jh ar hw aq ao aE aL ap;have bc:=bp;clear bp ah hg ar;have yb:b2≠b6:=by omega
 have yd:b4≠b6:=by omega
 have Oo:b2≠b4:=by omega
 have rN:b5≠b7:=by omega
 clear l2 l3 l4 l5 l6;repeat' (first|refine Wy ?_|refine Wm ((fun _ _=>aq.cell)) ?_|refine Wm ((fun _ _=>ao.cell)) ?_|refine Wl (ao.cell (i:=0) (v := .int .i64 2) rfl) ?_)
 refine Wk (On r s ⟨2,cpu,n,m,At,fl,nm⟩ lo _ (hO.ext hw) (aev dt hw.size) hI) fun v w7 iV hv => ?_
 obtain ⟨u,hu,q,rfl,hH⟩:=hv;(obtain ⟨hw,aq,ao,aE,aL,ap,bc⟩:=ue iV hw aq ao aE aL ap bc);clear iV;have bg:=hO.ext hw;have hA:=cu.nX (s:=s) (a:=⟨2,cpu,n,m,At,fl,nm⟩) rfl hu;obtain ⟨u1,e⟩:=u;simp only at hA hH ⊢;by_cases he:e=0
 ·rw [ms,if_pos he,he] at hA;rw [he];repeat' (first|refine Wy ?_|fail);refine SW.bw ap rfl rfl rfl rfl (aU q) fun qH bQ hg => ?_
  have hG:=ap.gr hg;have aq:=aq.grown hg (by simpa using yb);have aE:=aE.grown hg (by simpa using yd);have hw:=hw.own cQ hg;(obtain ⟨ao,aL,bc,bg,hH⟩:=fH hG ao aL bc bg hH);have ap:=bQ;clear bQ hG hg;repeat' (first|refine Wy ?_|fail);refine Wb (i:=0) bc fun iZ bp hg => ?_
  have hG:=bc.gr hg;have aL:=aL.grown hg (by simpa using rN);have hw:=hw.own gn hg;(obtain ⟨aq,ao,aE,ap,bg,hH⟩:=jh hG aq ao aE ap bg hH);have bc:aR _ b7 56 (ck ⟨0,0,.nil⟩):=bp;clear bp hG hg;repeat' (first|refine Wy ?_|refine Wl (bc.cell (i:=0) (v := .int .i64 0) rfl) ?_)
  refine CW.gB 2 3 (fun w2=>aR w2 b7 56 (ck ⟨0,0,.nil⟩)) mixed (by kernel_rfl) fun w1 ah aI => ?_
  obtain ⟨hw,aq,aE,aL,ap,bc,bg,hH⟩:=DH ah hw aq aE aL ap bc bg hH;clear ah;refine Wt 0 [] [] aI rfl (aY rfl rfl ((fun _ _=>ap.cell))) ?_;refine SF.jl 1 [] aI rfl (by kernel_rfl) (by kernel_rfl) (by kernel_rfl) (aY rfl rfl ((fun _ _=>bc.cell))) (fun w2 hS=>aY rfl rfl ((fun _ _=>hS.cell))) rfl ?_;refine SF.turn rfl (by kernel_rfl) rfl ?_;refine SW.bw aE rfl rfl rfl rfl (aU q) fun w8 df hg => ?_
  have hG:=aE.gr hg;have hw:=hw.own dQ hg;(obtain ⟨aL,bc,bg,hH⟩:=dJ hG aL bc bg hH);have hS:=bc;refine SW.nil (ae.sg hS ?_);refine SG.last rfl (by kernel_rfl) (by kernel_rfl) ?_;refine SW.bw aL rfl rfl rfl rfl (fE ⟨0,0,.nil⟩) fun w9 fa hg => ?_
  have hG:=aL.gr hg;have hw:=hw.own jR hg;(obtain ⟨df,bg,hH⟩:=cd hG df bg hH);repeat' (first|refine Wy ?_|fail);exact ae.nG rfl rfl rfl df fa rfl rfl ⟨_,rfl,hw,_,hA,q,⟨0,0,.nil⟩,rfl,hH,kH.plain _ _ _ _⟩
 ·rw [ms,if_neg he] at hA;repeat' (first|refine Wy ?_|fail);refine SW.bw ap rfl rfl rfl rfl (aU q) fun qH bQ hg => ?_
  have hG:=ap.gr hg;have aq:=aq.grown hg (by simpa using yb);have aE:=aE.grown hg (by simpa using yd);have hw:=hw.own cQ hg;(obtain ⟨ao,aL,bc,bg,hH⟩:=fH hG ao aL bc bg hH);have ap:=bQ;clear bQ hG hg;repeat' (first|refine Wy ?_|fail);refine Wb (i:=0) bc fun iZ bp hg => ?_
  have hG:=bc.gr hg;have aL:=aL.grown hg (by simpa using rN);have hw:=hw.own gn hg;(obtain ⟨aq,ao,aE,ap,bg,hH⟩:=jh hG aq ao aE ap bg hH);have bc:aR _ b7 56 (ck ⟨e,0,.nil⟩):=bp;clear bp hG hg;repeat' (first|refine Wy ?_|refine Wl (bc.cell (i:=0) (v := .int .i64 e) rfl) ?_)
  refine CW.gB 2 3 (fun w2=>aR w2 b7 56 (ck ⟨e,0,.nil⟩)) mixed (by kernel_rfl) fun w1 ah aI => ?_
  obtain ⟨hw,aq,aE,aL,ap,bc,bg,hH⟩:=DH ah hw aq aE aL ap bc bg hH;clear ah;refine Wt 0 [] [] aI rfl (aY rfl rfl ((fun _ _=>aq.cell))) ?_;refine SF.jl 1 [] aI rfl (by kernel_rfl) (by kernel_rfl) (by kernel_rfl) (aY rfl rfl ((fun _ _=>bc.cell))) (fun w2 hS=>aY rfl rfl ((fun _ _=>hS.cell))) rfl ?_;refine SF.turn rfl (by kernel_rfl) rfl ?_;refine SW.bw aE rfl rfl rfl rfl (aU r) fun w8 df hg => ?_
  have hG:=aE.gr hg;have hw:=hw.own dQ hg;(obtain ⟨aL,bc,bg,hH⟩:=dJ hG aL bc bg hH);have hS:=bc;refine SW.nil (ae.sg hS ?_);refine SG.last rfl (by kernel_rfl) (by kernel_rfl) ?_;refine SW.bw aL rfl rfl rfl rfl (fE ⟨e,0,.nil⟩) fun w9 fa hg => ?_
  have hG:=aL.gr hg;have hw:=hw.own jR hg;(obtain ⟨df,bg,hH⟩:=cd hG df bg hH);repeat' (first|refine Wy ?_|fail);exact ae.nG rfl rfl rfl df fa rfl rfl ⟨_,rfl,hw,_,hA,r,⟨e,0,.nil⟩,rfl,bg,kH.plain _ _ _ _⟩
set_option maxHeartbeats 4000000 in
def xA (a:cr) (hk:a.Kind=12) : fM dy a:=by
 intro r s lo w hO dt hI hS fh;obtain ⟨k,cpu,n,m,At,fl,nm⟩:=a;simp only at hk;subst hk;have hf:=hI.cS;have hs:=hf.small;have hM:=hI.may;refine Wj func12 ntmps12 ?_;refine Ww fun b2 w1 hw eW aq => ?_;have l2:=aq.lt;refine SW.box rfl rfl fun b3 w2 bq cg ao => ?_
 have gm:=hw.up cg
 (obtain ⟨hw,aq⟩:=cT bq hw aq);clear bq;have l3:=ao.lt;refine SW.alloc rfl fun b4 w2 bq fw aE => ?_
 have dQ:=hw.up fw
 (obtain ⟨hw,aq,ao⟩:=cd bq hw aq ao);clear bq;have l4:=aE.lt;refine SW.alloc rfl fun b5 w2 bq gI aL => ?_
 have jR:=hw.up gI
 (obtain ⟨hw,aq,ao,aE⟩:=dJ bq hw aq ao aE);clear bq;have l5:=aL.lt;repeat' (first|refine Wy ?_|refine Wm ((fun _ _=>aq.cell)) ?_)
 refine SW.alloc rfl fun b6 w1 ah dv ap => ?_
 skip;refine Wg ap (aU r) fun w2 bQ hg => ?_
 have ar:=ah.own dv hg;have cQ:=hw.up dv
 obtain ⟨hw,aq,ao,aE,aL⟩:=fH ar hw aq ao aE aL;have ap:=bQ;clear bQ ah hg ar;have l6:=ap.lt;repeat' (first|refine Wy ?_|fail);refine SW.alloc rfl fun b7 w1 ah iT bc => ?_
 skip;refine Wg bc (fE ⟨0,0,.nil⟩) fun w2 bp hg => ?_
 have ar:=ah.own iT hg;have gn:=hw.up iT
 obtain ⟨hw,aq,ao,aE,aL,ap⟩:=jh ar hw aq ao aE aL ap;have bc:=bp;clear bp ah hg ar;have yb:b2≠b6:=by omega
 have yd:b4≠b6:=by omega
 have Oo:b2≠b4:=by omega
 have rN:b5≠b7:=by omega
 clear l2 l3 l4 l5 l6;repeat' (first|refine Wy ?_|refine Wm ((mH aq)) ?_|refine Wl (ao.cell (i:=0) (v := .int .i64 12) rfl) ?_)
 refine Wk (CX r.Heap s.Heap _ (hO.rd.heap.ext hw) hs.heap hf.cq) fun v w7 iV hv => ?_
 obtain ⟨H,rfl,hH⟩:=hv;have hH:=hH.low (aev dt hw.size);(obtain ⟨hw,aq,ao,aE,aL,ap,bc⟩:=ue iV hw aq ao aE aL ap bc);clear iV;have bg:=hO.ext hw;have hA:=cu.drain (s:=s) (a:=⟨12,cpu,n,m,At,fl,nm⟩) rfl;generalize ln s.Heap=u at hA hH ⊢
 obtain ⟨e,u1⟩:=u;simp only at hA hH ⊢;by_cases he:e=0
 ·rw [ms,if_pos he,he] at hA;rw [he];repeat' (first|refine Wy ?_|fail);refine SW.gE 1 ap rfl rfl rfl (ae2 rfl) (ed H) (aK ⟨r.Words,H,r.aa⟩) rfl fun qH bQ hg => ?_
  have hG:=ap.gr hg;have aq:=aq.grown hg (by simpa using yb);have aE:=aE.grown hg (by simpa using yd);have hw:=hw.own cQ hg;(obtain ⟨ao,aL,bc,bg,hH⟩:=fH hG ao aL bc bg hH);have ap:=bQ;clear bQ hG hg;repeat' (first|refine Wy ?_|fail);refine Wb (i:=0) bc fun iZ bp hg => ?_
  have hG:=bc.gr hg;have aL:=aL.grown hg (by simpa using rN);have hw:=hw.own gn hg;(obtain ⟨aq,ao,aE,ap,bg,hH⟩:=jh hG aq ao aE ap bg hH);have bc:aR _ b7 56 (ck ⟨0,0,.nil⟩):=bp;clear bp hG hg;repeat' (first|refine Wy ?_|refine Wl (bc.cell (i:=0) (v := .int .i64 0) rfl) ?_)
  refine CW.gB 2 3 (fun w2=>aR w2 b7 56 (ck ⟨0,0,.nil⟩)) mixed (by kernel_rfl) fun w1 ah aI => ?_
  obtain ⟨hw,aq,aE,aL,ap,bc,bg,hH⟩:=DH ah hw aq aE aL ap bc bg hH;clear ah;refine Wt 0 [] [] aI rfl (aY rfl rfl ((fun _ _=>ap.cell))) ?_;refine Wi 1 [] aI rfl (aY rfl rfl ((fun _ _=>bc.cell))) (fun w2 hS=>aY rfl rfl ((fun _ _=>hS.cell))) ?_;refine SF.iA ?_;refine Wg aE (aU ⟨r.Words,H,r.aa⟩) fun w8 df hg => ?_
  have hG:=aE.gr hg;have hw:=hw.own dQ hg;(obtain ⟨aL,bc,bg,hH⟩:=dJ hG aL bc bg hH);have hS:=bc;refine SW.nil (ae.sg hS ?_);refine SG.ff ?_;refine Wg aL (fE ⟨0,0,.nil⟩) fun w9 fa hg => ?_
  have hG:=aL.gr hg;have hw:=hw.own jR hg;(obtain ⟨df,bg,hH⟩:=cd hG df bg hH);repeat' (first|refine Wy ?_|fail);exact ae.nG rfl rfl rfl df fa rfl rfl ⟨_,rfl,hw,_,hA,⟨r.Words,H,r.aa⟩,⟨0,0,.nil⟩,rfl,⟨bg.words,hH,bg.bo⟩,kH.plain _ _ _ _⟩
 ·rw [ms,if_neg he] at hA;repeat' (first|refine Wy ?_|fail);refine SW.gE 1 ap rfl rfl rfl (ae2 rfl) (ed H) (aK ⟨r.Words,H,r.aa⟩) rfl fun qH bQ hg => ?_
  have hG:=ap.gr hg;have aq:=aq.grown hg (by simpa using yb);have aE:=aE.grown hg (by simpa using yd);have hw:=hw.own cQ hg;(obtain ⟨ao,aL,bc,bg,hH⟩:=fH hG ao aL bc bg hH);have ap:=bQ;clear bQ hG hg;repeat' (first|refine Wy ?_|fail);refine Wb (i:=0) bc fun iZ bp hg => ?_
  have hG:=bc.gr hg;have aL:=aL.grown hg (by simpa using rN);have hw:=hw.own gn hg;(obtain ⟨aq,ao,aE,ap,bg,hH⟩:=jh hG aq ao aE ap bg hH);have bc:aR _ b7 56 (ck ⟨e,0,.nil⟩):=bp;clear bp hG hg;repeat' (first|refine Wy ?_|refine Wl (bc.cell (i:=0) (v := .int .i64 e) rfl) ?_)
  refine CW.gB 2 3 (fun w2=>aR w2 b7 56 (ck ⟨e,0,.nil⟩)) mixed (by kernel_rfl) fun w1 ah aI => ?_
  obtain ⟨hw,aq,aE,aL,ap,bc,bg,hH⟩:=DH ah hw aq aE aL ap bc bg hH;clear ah;refine Wt 0 [] [] aI rfl (aY rfl rfl ((fun _ _=>aq.cell))) ?_;refine Wi 1 [] aI rfl (aY rfl rfl ((fun _ _=>bc.cell))) (fun w2 hS=>aY rfl rfl ((fun _ _=>hS.cell))) ?_;refine SF.iA ?_;refine Wg aE (aU r) fun w8 df hg => ?_
  have hG:=aE.gr hg;have hw:=hw.own dQ hg;(obtain ⟨aL,bc,bg,hH⟩:=dJ hG aL bc bg hH);have hS:=bc;refine SW.nil (ae.sg hS ?_);refine SG.ff ?_;refine Wg aL (fE ⟨e,0,.nil⟩) fun w9 fa hg => ?_
  have hG:=aL.gr hg;have hw:=hw.own jR hg;(obtain ⟨df,bg,hH⟩:=cd hG df bg hH);repeat' (first|refine Wy ?_|fail);exact ae.nG rfl rfl rfl df fa rfl rfl ⟨_,rfl,hw,_,hA,r,⟨e,0,.nil⟩,rfl,bg,kH.plain _ _ _ _⟩
set_option maxHeartbeats 4000000 in
def tY (A:Option Addr) (n c lo:Nat) (l:List ByteArray) (w:World) (hO:Own w lo 9 1 encStr A n c l) (i:Nat) (hi:i<=n) (x:ByteArray) (b:Nat) (hB:aR w b 9 (encStr x)) (bG:aG A c≠some b) (hn:(n+1)*16<=140737488355328) (dt:lo<=w.heap.size) :
 iO prog 47 [.slice A n c,.int .i64 (i:Int),.slice (some ⟨b,0,none⟩) 1 1] w fun v w' => ∃ A' c',v = .slice A' (n+1) c'∧Own w' lo 9 1 encStr A' (n+1) c' (aM l i x)∧w.grownBy w' (aG A c) ∧ ∀ k,aG A' c'=some k->aG A c=some k∨w.heap.size<=k:=by
 refine dc func47 rfl ntmps47 rfl ?_;have hle:=hO.le;have mx:=hO.len;have hA:=hO.sl.base;have hw:=Ext.refl w;have lj:Sl w 1 encStr (some ⟨b,0,none⟩) 1 [x]:=aR.wv hB
 have od:(encStr x).length=1:=rfl
 have nK:∀ q:List ByteArray,(q.flatMap encStr).length=q.length*1:=fun q=>aQ q
 have pH:∀ (q:List ByteArray) (v:Value),v∈q.flatMap encStr->v.oneCell'=true:=fun q v hv=>by
  obtain ⟨u,_,hu⟩:=aeK.1 hv;exact iK.one (enc:=encStr) u v hu
 by_cases cx:i=n
 ·subst cx;repeat' (first|refine Wz ?_|(refine SW.st (aZ (k:=i) rfl rfl (by omega) (by omega)) rfl ?_))
  all_goals try omega
  refine SW.yX hO lj dt (by omega) rfl rfl rfl (by omega) (by omega) fun A2 c2 w2 uj => ?_
  have jw:Own w2 lo 9 1 encStr A2 (i+1) c2 (l++[x])∧w.grownBy w2 (aG A c) ∧ ∀ k,aG A2 c2=some k->aG A c=some k∨w.heap.size<=k:=by
   rcases uj with ⟨rfl,rfl,h1,h2⟩|⟨h1,h2⟩
   ·exact ⟨h1,h2,fun k e => .inl e⟩
   ·exact ⟨h1.low dt,(aD (Ext.refl w) h2 (aew _) (fun k e=>by cases e)).gr _,fun k e => .inr (h1.aW k e)⟩
  obtain ⟨bg,hg,kb⟩:=jw;refine Wz ?_;refine ae.bh rfl rfl ⟨_,rfl,A2,c2,rfl,?_,hg,kb⟩;have e:aM l i x=l++[x]:=by unfold aM;rw [aeF (by omega),afH (by omega)];simp
  rw [e];exact bg
 ·by_cases kM:n+1<=c
  ·obtain ⟨g,rest,rfl,h1,h2,h3,h4,h5,h6⟩:=hO.opened (by omega);have EH:g≠b:=fun e=>bG (by rw [h6,e])
   have es:l.flatMap encStr++rest=(l.take i).flatMap encStr++((l.drop i).flatMap encStr++rest):=by rw [<- aey,<- aeM,aex]
   have e1:((l.take i).flatMap encStr).length=i*1:=by rw [nK];simp;omega
   have e2:((l.drop i).flatMap encStr).length=(n-i)*1:=by rw [nK];simp [mx]
   have mn:=hO.sl.drop i c (by omega) (by omega);rw [if_neg (by omega)] at mn;rw [es] at h2
   have J6:∀ w',Ext w w'->(Extern.SlicesOverlaps.overlaps #[51,51] #[4] #[.slice (some ⟨b,0,none⟩) 1 1,.slice (if c=i+1 then (some ⟨g,0,none⟩) else (some (⟨g,0,none⟩ : Addr)).map (·.add ((i+1)*1))) (n+1-(i+1)) (c-(i+1))]).run prog w' = .ok (.bool false) w':=fun w' hx=>by
    rw [if_neg (by omega),age,cJ];have b1:=hB.ext hx;have b2:=h2.ext hx;unfold aR at b1 b2
    exact Lib.run_overlaps_apart w' 51 4 9 (bu.ot (t:=51)) 1 (fun w0=>run_sizeOf (bu.size (t:=51)) w0) ⟨b,0,none⟩ ⟨g,(i+1)*1,none⟩ 1 1 _ _ (fun e=>EH e.symm) 9 9 (encStr x).toArray.size ((l.take i).flatMap encStr++((l.drop i).flatMap encStr++rest)).toArray.size
     (by simp only [World.shape?,b1]) (by simp only [World.shape?,b2]) (by simp [e1,e2];omega) (by simp [World.frozen?,b1]) (by simp [World.frozen?,b1])
   repeat' (first|refine Wz ?_|(refine CW.gG rfl ?_)|(refine SW.st (aZ (k:=i) rfl rfl (by omega) (by omega)) rfl ?_)|(refine SW.st (cW (k:=n+1) rfl rfl (by omega)) rfl ?_)|(refine SW.st (aZ (k:=i+1) rfl rfl (by omega) (by omega)) rfl ?_)|(refine SW.entry func86 (by kernel_rfl) (by kernel_rfl) (by kernel_rfl) (e:=Extern.SlicesOverlaps.overlaps #[51,51] #[4]) (by kernel_rfl) rfl rfl (J6 _ hw) ?_))
   all_goals try omega
   have nq:((n-i)+1)*1<=((l.drop i).flatMap encStr++rest).length:=by rw [aeD,e2];omega
   have e4:(l.drop i).flatMap encStr++rest=((l.drop i).flatMap encStr++rest).take 1++(((l.drop i).flatMap encStr++rest).drop 1).take ((n-i)*1)++((l.drop i).flatMap encStr++rest).drop (1+(n-i)*1):=by
    rw [aey,<- afB,aex,aex]
   generalize Hg:((l.drop i).flatMap encStr++rest).take 1=D1 at e4
   generalize Hh:(((l.drop i).flatMap encStr++rest).drop 1).take ((n-i)*1)=D2 at e4
   generalize Hi:((l.drop i).flatMap encStr++rest).drop (1+(n-i)*1)=D3 at e4
   have f1:D1.length=1:=by rw [<- Hg];simp only [List.length_take];omega
   have f2:D2.length=(n-i)*1:=by rw [<- Hh];simp only [List.length_take,List.length_drop];omega
   have f3:D3.length+1=rest.length:=by rw [<- Hi];simp only [List.length_drop,List.length_append,e2];omega
   rw [e4] at h2;refine CW.any 8 mixed (db (by kernel_rfl)) rfl fun w1 ah aI => ?_
   obtain ⟨hw,hO,hB,h2⟩:=dJ ah hw hO hB h2;clear ah;refine Wa ?_;refine Wu 4 aI rfl (aZ (k:=i+1) rfl rfl (by omega) (by omega)) ?_;refine Wa ?_;refine Wu 7 aI rfl (aZ (k:=i) rfl rfl (by omega) (by omega)) ?_;refine SA.fZ ?_;refine SW.copy (k:=n-i) ((i+1)*1) ((l.drop i).flatMap encStr) h2 rfl rfl rfl (by omega) e2 (by simp only [List.length_append,e1,e2,f1,f2];omega) (fun h0=>⟨by rw [if_neg (by omega)];simp [cJ],(⟨g,0,none⟩ : Addr).add (i*1),by rw [if_neg (by omega)];rfl,fun j v hv=>du (by omega) (mn.ext hw) j v hv⟩) (pH _) fun w3 nI oZ => ?_
   have g1:=eH ((l.take i).flatMap encStr++D1) D2 D3 ((l.drop i).flatMap encStr) (by rw [e2,f2]) (o:=(i+1)*1) (by rw [aeD,e1,f1];omega);have g0:(l.take i).flatMap encStr++(D1++D2++D3)=(l.take i).flatMap encStr++D1++D2++D3:=by simp only [List.append_assoc]
   rw [g0,g1] at nI;have DL:=bC (hw.gr (aG (some ⟨g,0,none⟩) c)) oZ (.inl h6.symm);have RG:=hB.grown oZ (by simpa using fun e=>EH e.symm);repeat' (first|refine Wz ?_|(refine SW.st (aZ (k:=i) rfl rfl (by omega) (by omega)) rfl ?_))
   refine SW.copy (k:=1) (i*1) (encStr x) nI rfl rfl rfl (by omega) od (by simp only [List.length_append,e1,e2,f1,od];omega) (fun h0=>⟨by rw [if_neg (by omega)];simp [cJ],⟨b,0,none⟩,rfl,fun j v hv=>RG.cell hv⟩) (iK.one (enc:=encStr) x) fun w4 oy yi => ?_
   have g2:=eH ((l.take i).flatMap encStr) D1 ((l.drop i).flatMap encStr++D3) (encStr x) (by rw [od,f1]) (o:=i*1) e1.symm;have g3:(l.take i).flatMap encStr++D1++(l.drop i).flatMap encStr++D3=(l.take i).flatMap encStr++D1++((l.drop i).flatMap encStr++D3):=by simp only [List.append_assoc]
   have g4:(l.take i).flatMap encStr++encStr x++((l.drop i).flatMap encStr++D3)=(aM l i x).flatMap encStr++D3:=by unfold aM;simp only [List.flatMap_append,List.flatMap_cons,List.flatMap_nil,List.append_nil,List.append_assoc]
   rw [g3,g2,g4] at oy;have E2:=Own.closed (n:=n+1) (c:=c) (l:=aM l i x) (by unfold aM;simp;omega) oy (by omega) kM (by omega) h5 h1;have eE:=bC DL yi (.inl h6.symm);refine Wz ?_;exact ae.bh rfl rfl ⟨_,rfl,_,_,rfl,E2,eE,fun k e => .inl e⟩
  ·have Tt:c=n:=by omega
   have mn:=hO.sl.drop i c (by omega) (by omega);have BP:=hO.sl.pre (i:=i) (by omega);repeat' (first|refine Wz ?_|(refine SW.st (aZ (k:=i) rfl rfl (by omega) (by omega)) rfl ?_)|(refine SW.st (cW (k:=i) rfl rfl (by omega)) rfl ?_))
   all_goals try omega
   refine SW.yO (k:=n+1-i) BP Tryz.underlying3 rfl rfl (by omega) rfl (by omega) (by omega) (by omega) (by omega) fun g rest c2 w2 bq dB h2 h3 h4 h5 => ?_
   have e1:((l.take i).flatMap encStr).length=i*1:=by rw [nK];simp;omega
   have e2:((l.drop i).flatMap encStr).length=(n-i)*1:=by rw [nK];simp [mx]
   have nq:((n-i)+1)*1<=rest.length:=by omega
   have e4:rest=rest.take 1++(rest.drop 1).take ((n-i)*1)++rest.drop (1+(n-i)*1):=by
    rw [aey,<- afB,aex,aex]
   generalize Hg:rest.take 1=D1 at e4
   generalize Hh:(rest.drop 1).take ((n-i)*1)=D2 at e4
   generalize Hi:rest.drop (1+(n-i)*1)=D3 at e4
   have f1:D1.length=1:=by rw [<- Hg];simp only [List.length_take];omega
   have f2:D2.length=(n-i)*1:=by rw [<- Hh];simp only [List.length_take,List.length_drop];omega
   have f3:D3.length+((n-i)+1)*1=rest.length:=by rw [<- Hi];simp only [List.length_drop];omega
   rw [e4] at h2;have fP:aG A c≠some g:=fun e=>by have:=hO.lt_size _ e;omega
   have EH:b≠g:=by have:=hB.lt;omega
   obtain ⟨mn,hB,hw⟩:=cd bq mn hB hw;repeat' (first|refine Wz ?_|(refine SW.st (aZ (k:=i) rfl rfl (by omega) (by omega)) rfl ?_))
   refine SW.copy (k:=1) (i*1) (encStr x) h2 rfl rfl rfl (by omega) od (by simp only [List.length_append,e1,f1,f2,od];omega) (fun h0=>⟨by rw [if_neg (by omega)];simp [cJ],⟨b,0,none⟩,rfl,fun j v hv=>hB.cell hv⟩) (iK.one (enc:=encStr) x) fun w3 nI oZ => ?_
   have g2:=eH ((l.take i).flatMap encStr) D1 (D2++D3) (encStr x) (by rw [od,f1]) (o:=i*1) e1.symm;have g3:(l.take i).flatMap encStr++(D1++D2++D3)=(l.take i).flatMap encStr++D1++(D2++D3):=by simp only [List.append_assoc]
   rw [g3,g2] at nI;have MA:Ext w w3:=hw.own dB oZ
   have lK:Sl w3 1 encStr (if c=i then A else A.map (·.add (i*1))) (n-i) (l.drop i):=(hO.sl.drop i c (by omega) (by omega)).ext MA
   have hw:=MA;refine Wz ?_;refine CW.any 8 mixed (db (by kernel_rfl)) rfl fun w1 ah aI => ?_
   obtain ⟨hw,nI,lK⟩:=cd ah hw nI lK;clear ah;refine Wa ?_;refine Wu 4 aI rfl (aZ (k:=i+1) rfl rfl (by omega) (by omega)) ?_;refine Wa ?_;refine Wu 7 aI rfl (aZ (k:=i) rfl rfl (by omega) (by omega)) ?_;refine SA.fZ ?_;refine SW.copy (k:=n-i) ((i+1)*1) ((l.drop i).flatMap encStr) nI rfl rfl rfl (by omega) e2 (by simp only [List.length_append,e1,e2,f2,od];omega) (fun h0=>⟨by rw [if_neg (by omega)];simp [cJ],(if c=i then A else A.map (·.add (i*1))).getD default,?_,fun j v hv=>du (by omega) lK j v hv⟩) (pH _) fun w4 oy yi => ?_
   ·obtain ⟨a,ha⟩:=aeZ.1 (lK.base h0);rw [ha];rfl
   ·have g4:=eH ((l.take i).flatMap encStr++encStr x) D2 D3 ((l.drop i).flatMap encStr) (by rw [e2,f2]) (o:=(i+1)*1) (by rw [aeD,e1,od];omega);have g5:(l.take i).flatMap encStr++encStr x++(D2++D3)=(l.take i).flatMap encStr++encStr x++D2++D3:=by simp only [List.append_assoc]
    have g6:(l.take i).flatMap encStr++encStr x++(l.drop i).flatMap encStr++D3=(aM l i x).flatMap encStr++D3:=by unfold aM;simp only [List.flatMap_append,List.flatMap_cons,List.flatMap_nil,List.append_nil,List.append_assoc]
    rw [g5,g4,g6] at oy;have E2:=Own.closed (n:=n+1) (c:=c2) (lo:=lo) (l:=aM l i x) (by unfold aM;simp;omega) oy (by omega) (by omega) (by omega) h5 (by omega);have kN:Ext w w4:=hw.own dB yi
    have e9:i+(n+1-i)=n+1:=by omega
    refine Wz ?_;rw [e9]
    exact ae.bh rfl rfl ⟨_,rfl,_,_,rfl,E2,kN.gr _,fun k e => .inr (by
     have:k=g:=by
      unfold aG at e;split at e
      ·cases e
      ·simpa using e.symm
     omega)⟩
variable {α:Type} {y:Operand} {t ty:TypeId} {p:α -> Bool}
section
variable {P:Program} {L:Env} {w:World} {d:Option Nat} {T:TypeId} {pos:String} {af:Array Edge} {g:Option (Nat×Bool)}
def S4 (a:Int) : Int:=((a.toNat &&& (a-1).toNat:Nat) : Int)
def zg {x:Operand} (hx:cy L x=some (.int .i64 a)) (hy:cy L y=some (.int .i64 (a-1))) (h : 1<=a∧a<=8) : St P ⟨d,.binOp .and t x y ty,T,pos,af,g⟩ L w (.int .i64 (S4 a)) :=
 JA a.toNat (a-1).toNat hx hy (by omega) (by omega) (by omega) (by omega)
end
def Qf (h : 1<=a∧a<=8) : S4 a=0↔jX a:=by
 rcases (show a=1∨a=2∨a=3∨a=4∨a=5∨a=6∨a=7∨a=8 by omega) with rfl|rfl|rfl|rfl|rfl|rfl|rfl|rfl<;>unfold jX<;>decide
def Gz {l:List α} (h:l.any p=true) : ∃ (i:Nat) (hi:i<l.length),p l[i]=true∧(∀ (j:Nat) (hj:j<l.length),j<i->p l[j]=false)∧idxOf p l=(i:Int):=by
 have h1:l.findIdx p<l.length:=List.findIdx_lt_length_of_exists (by simpa using h)
 exact ⟨l.findIdx p,h1,List.findIdx_getElem (w:=h1),fun j hj ji=>by simpa using List.not_of_lt_findIdx ji,by unfold idxOf;rw [if_pos h]⟩
def Ot {a b:fY} (h:apart a b∨apart b a) : aG b.A b.c=none∨aG b.A b.c≠aG a.A a.c:=by
 cases e:aG b.A b.c with
 | none=>exact .inl rfl
 | some g =>
   right;intro e2;rcases h with h|h
   ·exact h g e2.symm e
   ·exact h g e e2.symm
def yx.ne {x:fY} {cs:List dT} (h:yx x cs) (hi:i<cs.length) (hj:j<cs.length) (o6:j≠i) : lV cs[i] cs[j]∨lV cs[j] cs[i]:=by
 have hp:=aeB.1 h.pair;rcases ae5 i j with g|g
 ·exact .inl (hp i j hi hj g)
 ·exact .inr (hp j i hj hi (by omega))
def LB (x:dT) (b3:Nat) (z:Int) (w:World) (h3:aR w b3 3 [.int .i64 z]) :
 bI prog 45 ([.agg (fu x).toArray]++[.pointer (some ⟨b3,0,none⟩)]) w fun v _=>v = .bool (decide (x.ay=z)):=by
 refine Wj func45 ntmps45 ?_;refine Ww fun b1 w1 hw lD aX => ?_;have h3:=h3.ext hw;have QL:=h3.cell (i:=0) (v := .int .i64 z) rfl;rw [add_zero] at QL;repeat' (first|refine Wz ?_|refine Wl QL ?_)
 exact ae.bh rfl rfl ⟨_,rfl,hw,rfl⟩
set_option maxHeartbeats 8000000 in
def uV (r:de) (s:ag) (n:ByteArray) (size align:Int) (w:World) (hr:zU w r s) (hf:s.cS) (Mi:n.size<=140737488351232) :
 bI prog 17 [.agg (aK r).toArray,.string n,.int .i64 size,.int .i64 align] w fun v w' => ∃ u,lU s n size align u∧gR w.heap.size u v w':=by
 refine Wj func17 ntmps17 ?_;have hs:=hf.small;refine Ww fun b4 w1 hw fw aE => ?_;have dQ:=fw;refine SW.Mv rfl rfl rfl fun b6 w2 bq dv ap => ?_
 have cQ:=hw.up dv
 (obtain ⟨hw,aE⟩:=cT bq hw aE);refine SW.alloc rfl fun b8 w3 nL nV bf => ?_
 have gq:=hw.up nV
 have AP:b4≠b8:=by have:=aE.lt;omega
 (obtain ⟨hw,aE,ap⟩:=cd nL hw aE ap)
 have K4:∀ (w':World) (z:Int),aR w' b6 3 [.int .i64 z]->w'.cell? ⟨b6,0,none⟩=some (.int .i64 z):=fun w' z h=>by
  have:=h.cell (i:=0) (v := .int .i64 z) rfl
  rwa [add_zero] at this
 obtain ⟨q,hq⟩ : ∃ q,gg s=q:=⟨_,rfl⟩
 have c1:∀ w',Ext w w'->bI prog 41 [.agg (aK r).toArray] w' fun v _=>v = .int .i64 (if q then 0 else 8):=fun w' hx=>by
  have:=mI r s w' (hr.ext hx) hf
  rwa [hq] at this
 cases q
 ·simp only [Bool.false_eq_true,if_false] at c1;repeat' (first|refine Wz ?_|(refine Wk (c1 _ hw) ?_;intro v w1 ah hv;subst hv;obtain ⟨hw,aE,bf⟩:=cd ah hw aE bf;clear ah))
  refine Wg bf (aU .zero) fun w5 cK hg => ?_
  have hw:=hw.own gq hg;refine Wz ?_;exact ae.dj rfl rfl rfl cK rfl ⟨_,rfl,hw,_,.bad hq,gR.zero 8 _ _⟩
 ·simp only [if_true] at c1;have hM:=iE.1 hq;obtain ⟨p,hp⟩ : ∃ p,gx n=p:=⟨_,rfl⟩
  have c2:∀ w',bI prog 42 [.string n] w' fun v _=>v = .bool p:=fun w'=>by
   have:=Ff n w' Mi
   rwa [hp] at this
  obtain ⟨gv,Vv⟩ : ∃ gv,S4 align=gv:=⟨_,rfl⟩;have Vt : 1<=align∧align<=8->(gv=0↔jX align):=fun h=>by rw [<- Vv];exact Qf h
  by_cases KT:p=true∧jX align
  ·obtain ⟨rfl,KT⟩:=KT;have Yy:=KT;unfold jX at Yy;have E1:gv=0:=(Vt (by omega)).2 KT
   have S5:gx n=true∧jX align:=⟨hp,KT⟩
   by_cases nq : 1<=size∧size<=64
   ·obtain ⟨t,ht⟩ : ∃ t,s.aa.any (dr n)=t:=⟨_,rfl⟩;obtain ⟨ix,oe⟩ : ∃ ix,idxOf (dr n) s.aa=ix:=⟨_,rfl⟩
    have c3:∀ w',Ext w w'->bI prog 43 [.agg (aK r).toArray,.string n] w' fun v _=>v = .tuple #[.int .i64 ix,.bool t]:=fun w' hx=>by
     have:=CJ r s n w' (hr.ext hx) hs
     rwa [ht,oe] at this
    have hu:=Jq KT nq;have Yz:rZ size align=(size+align-1) / align*align:=rfl
    rw [Yz] at hu;cases t
    ·repeat' (first|refine Wz ?_|(refine CW.gj rfl ?_)|refine SW.want rfl rfl ?_|refine Wl (K4 _ _ ap) ?_|((first|refine Wk (c1 _ hw) ?_|refine Wk (c2 _) ?_|refine Wk (c3 _ hw) ?_);intro v w1 ah hv;subst hv;obtain ⟨hw,aE,ap,bf⟩:=dJ ah hw aE ap bf;clear ah)|(refine SW.st ((zg rfl rfl (by omega)).eq (congrArg (Value.int .i64) Vv)) rfl ?_))
     all_goals try omega
     clear c1 c2 c3;refine Wb (i:=0) ap fun w5 bQ hg => ?_
     have hG:=ap.gr hg;have hw:=hw.own cQ hg;(obtain ⟨aE,bf⟩:=cT hG aE bf);obtain ⟨z,hz⟩ : ∃ z,rZ size align=z:=⟨_,rfl⟩;have ap:aR w5 b6 3 [.int .i64 z]:=by rw [<- hz,Yz];exact bQ
     clear bQ hg hG;have D8 : 1<=z∧z<=64:=by rw [<- hz,Yz];omega
     clear hu;refine Wz ?_;refine Wk (HT r s _ (hr.ext hw) hs) fun v w6 ar hv => ?_
     obtain ⟨q,zr,rfl,hO⟩:=hv;have hO:=hO.low hw.size;(obtain ⟨hw,aE,ap,bf⟩:=dJ ar hw aE ap bf);obtain ⟨hX,hY,hC,yq⟩:=hO;skip;refine Wg aE (aU q) fun w7 df hg => ?_
     have hG:=aE.gr hg;have hw:=hw.own dQ hg;have bf:=bf.grown hg (by simpa using fun e=>AP e.symm);(obtain ⟨ap,hX,hY,hC⟩:=dJ hG ap hX hY hC);have aE:=df;clear df hg hG;obtain ⟨z1,z2⟩:=hC.rd.len;have m3:=hs.bo
     have qs:=nc (p:=fun x:dT=>decide (x.ay=z)) (q:=Ap z) (l:=zr) (m:=s.aa) (by omega) fun k h1 h2=>by
      have:=(hC.each.get k h1 h2).size
      simp only [Ap,this]
     repeat' (first|refine Wz ?_|(refine SW.st (iX (vs:=[.pointer (some ⟨b6,0,none⟩)]) rfl) rfl ?_))
     refine Wk (lP _ _ _ _ _ hC.row.sl _ [.pointer (some ⟨b6,0,none⟩)] (fun x=>decide (x.ay=z)) (fun x => .agg (fu x).toArray) (fun x=>rfl) (fun x hx w1 lj=>LB x b6 z w1 (ap.ext lj)) (by omega)) fun v w8 ar hv => ?_
     subst hv;rw [qs.1];(obtain ⟨hw,aE,ap,bf,hX,hY,hC⟩:=ue ar hw aE ap bf hX hY hC);cases iU:s.aa.any (Ap z)
     ·obtain ⟨hI,_⟩:=lg (p:=Ap z) (l:=s.aa) (fun j hj=>by
       have:=aeS.1 iU _ (aet hj)
       simpa using this)
      rw [hI]
      have ov:∀ (j:Nat) (hj:j<s.aa.length),s.aa[j].ay≠z:=fun j hj=>by
       have:=aeS.1 iU _ (aet hj)
       simpa [Ap] using this
      by_cases h20:s.aa.length=20
      ·refine Wz ?_;refine Wg bf (aU .zero) fun w5 cK hg => ?_
       have hw:=hw.own gq hg;refine Wz ?_;exact ae.dj rfl rfl rfl cK rfl ⟨_,rfl,hw,_,.full hq S5 nq ht (by rw [hz];exact ov) h20,gR.zero 9 _ _⟩
      ·have h19:s.aa.length<20:=by
        have:=hM.most
        omega
       obtain ⟨o,per,e,YA⟩ : ∃ o per e,dp z=(o,per,e):=⟨_,_,_,rfl⟩;have cL:∀ w',bI prog 48 [.int .i64 z] w' fun v _=>v = .tuple #[.int .i64 o,.int .i64 per,.int .i64 e]:=fun w'=>CE (zV z w') YA
       have qQ:=hM.heap.cpus;have eC:=hY.cpus;repeat' (first|refine Wz ?_|refine Wl (K4 _ _ ap) ?_|(refine Wk (cL _) ?_;intro v w1 ah hv;subst hv;obtain ⟨hw,aE,ap,bf,hX,hY,hC⟩:=ue ah hw aE ap bf hX hY hC;clear ah))
       clear cL;refine SW.dR (vs:=[.string n]) rfl rfl rfl rfl rfl fun bn w9 ar U2 P2 => ?_
       have YB:=hw.up U2
       (obtain ⟨hw,aE,ap,bf,hX,hY,hC⟩:=ue ar hw aE ap bf hX hY hC);have hN:Own w9 w.heap.size 9 1 encStr (some ⟨bn,0,none⟩) 1 1 [n]:=Own.closed (rest:=[]) rfl P2 rfl (by omega) (by omega) (by simp [maxLen]) YB
       repeat' (first|refine Wz ?_|refine Wl (K4 _ _ ap) ?_)
       have YC:Ext w w9:=hw
       refine SW.alloc rfl fun Rh oP YD ye pd => ?_
       skip;refine Wg pd (Cz ⟨⟨some ⟨bn,0,none⟩,1,1⟩,z,per,o,.nil,.nil⟩) fun qH JV hg => ?_
       have hw:=YD.own ye hg;have pd:=JV;clear JV hg;repeat' (first|refine Wz ?_|refine Wn hw (aE.cell (i:=3) (v := .int .i64 q.Heap.bJ) rfl) ?_)
       obtain ⟨C,hCp⟩:=aeE (show 0<=q.Heap.bJ by omega);rw [hCp]
       refine CW.loop (fun t:Nat×Option Addr×Nat=>[(4,.pointer (some ⟨b4,0,none⟩)),(8,.pointer (some ⟨b8,0,none⟩)),(20,.pointer (some ⟨Rh,0,none⟩)),(121,.int .i64 (C:Int)),(122,.int .i64 (t.1:Int))])
        (fun t w'=>t.1<=C∧Ext w9 w'∧aR w' Rh 103 (fu ⟨⟨some ⟨bn,0,none⟩,1,1⟩,z,per,o,.nil,⟨t.2.1,t.1,t.2.2⟩⟩)∧Own w' w9.heap.size 3 1 bt t.2.1 t.1 t.2.2 (List.replicate t.1 (-1))) (fun t=>C-t.1) (0,none,0)
        ⟨rfl,rfl,rfl,rfl,rfl,trivial⟩ ⟨by omega,hw,pd,Own.fC _ _ _ _ _ _⟩ ?_
       clear hw pd;rintro ⟨k,A,c⟩ iZ ⟨hk,hw,pd,hA⟩
       simp only at hk pd hA ⊢;by_cases hkC:k<C
       ·refine Wz ?_;refine SW.dR rfl rfl rfl rfl rfl fun b w1 ar hb hB => ?_
        (obtain ⟨hw,pd,hA⟩:=cd ar hw pd hA);refine SW.append hA (aR.wv (enc:=bt) hB) hw.size rfl rfl rfl (by omega) (by omega) fun A2 c2 w5 lO hg => ?_
        have hG:=hA.gr hg;have hw:=aD hw hg (aew _) hA.aW;(have pd:=pd.aJ hG rfl);refine Wz ?_;refine Wb (i:=5) pd fun w6 JV hg => ?_
        have hG:=pd.gr hg;have hw:=hw.own ye hg;(have lO:=lO.aJ hG rfl);refine Wz ?_;refine ae.again (k+1,A2,c2) ⟨rfl,rfl,rfl,rfl,rfl,trivial⟩ (by simp only;omega) ⟨by simp only;omega,hw,JV,?_⟩;simp only;rw [List.replicate_succ'];exact lO
       ·obtain rfl:k=C:=by omega
        have hwN:=hw;have hw:=YC;(obtain ⟨hw,aE,ap,bf,hX,hY,hC,hN⟩:=DH hwN hw aE ap bf hX hY hC hN);have hA:=hA.low YC.size;have aai:w.heap.size<=Rh:=aev YC.size ye
        refine Wz ?_;refine SW.dR rfl rfl rfl rfl rfl fun b w13 ar hb hB => ?_
        (obtain ⟨hw,aE,bf,hX,hY,hC,hN,hA⟩:=DH ar hw aE bf hX hY hC hN hA);refine SW.append hC.row (aR.wv (enc:=fu) (x:=⟨⟨some ⟨bn,0,none⟩,1,1⟩,z,per,o,.nil,⟨A,k,c⟩⟩) hB) hw.size rfl rfl rfl (by omega) (by omega) fun A2 c2 w14 lO hg => ?_
        have hG:=hC.row.gr hg;have hw:=aD hw hg (aew _) hC.row.aW;(obtain ⟨aE,bf,hX,hY,hN,hA⟩:=jh hG aE bf hX hY hN hA);have hE:=hC.each.mono fun _ _ h=>h.aJ hG rfl
        refine Wz ?_;refine Wb (i:=6) aE fun w15 df hg => ?_
        have hG:=aE.gr hg;have hw:=hw.own dQ hg;have bf:=bf.grown hg (by simpa using fun e=>AP e.symm);(obtain ⟨hX,hY,hN,hA,lO⟩:=fH hG hX hY hN hA lO);have hE:=hE.mono fun _ _ h=>h.aJ hG rfl
        refine Wz ?_;refine Wg bf (aU ⟨q.Words,q.Heap,⟨A2,q.aa.n+1,c2⟩⟩) fun w16 cK hg => ?_
        have hG:=bf.gr hg;have hw:=hw.own gq hg;(obtain ⟨hX,hY,hN,hA,lO⟩:=fH hG hX hY hN hA lO);have hE:=hE.mono fun _ _ h=>h.aJ hG rfl
        refine Wz ?_;refine ae.dj rfl rfl rfl cK rfl ⟨_,rfl,hw,_,.new hq S5 nq ht (by rw [hz];exact ov) h19,⟨q.Words,q.Heap,⟨A2,q.aa.n+1,c2⟩⟩,rfl,hX,hY,_,lO,?_⟩;rw [hz];refine hE.snoc ⟨rfl,?_,?_,hN,Own.fC _ _ _ _ _ _,?_⟩
        ·simp only [dW,YA]
        ·simp only [dW,YA]
        ·have e9:s.Heap.bJ.toNat=k:=by omega
         simp only [dW,e9];exact hA
     ·obtain ⟨i,hi,hiz,hib,oe⟩:=Gz iU;rw [oe];have YE:s.aa[i].ay=z:=by simpa [Ap] using hiz
      have cx:i<q.aa.n:=by omega
      have Ib:i<zr.length:=by omega
      have kf:=hC.each.get i Ib hi;have hNi:=(hM.each i hi).names;have G1:=hC.row.sl.base;have q1:=kf.names.sl.len;have q2:=(hM.each i hi).xa hM.heap (fun j h=>hM.each j h);have VT:=vH s.aa[i].Names n;repeat' (first|refine Wz ?_|refine Wl (hC.row.sl.jF cx (j:=0) (u := .slice zr[i].Names.A zr[i].Names.n zr[i].Names.c) rfl) ?_)
      refine Wk (Aq _ _ _ _ n _ kf.names.sl hNi.lT (by omega)) fun v w9 ar hv => ?_
      obtain ⟨bb,rfl⟩:=hv;(obtain ⟨hw,aE,bf,hX,hY,hC⟩:=jh ar hw aE bf hX hY hC);repeat' (first|refine Wz ?_|refine Wl (hC.row.sl.jF cx (j:=0) (u := .slice zr[i].Names.A zr[i].Names.n zr[i].Names.c) rfl) ?_)
      refine SW.dR (vs:=[.string n]) rfl rfl rfl rfl rfl fun bn oP ar U2 P2 => ?_
      have e8:=(hC.each.get i Ib hi).names.lt_size;have wJ:aG zr[i].Names.A zr[i].Names.c≠some bn:=fun e=>by have:=e8 _ e;omega
      (obtain ⟨hw,aE,bf,hX,hY,hC⟩:=jh ar hw aE bf hX hY hC);have hN:=(hC.each.get i Ib hi).names;refine SW.dK rfl rfl (tY _ _ _ w.heap.size s.aa[i].Names _ hN (kg s.aa[i].Names n) (by omega) n bn P2 wJ (by omega) hw.size) fun v qH hv => ?_
      obtain ⟨A2,c2,rfl,bg,hg,kb⟩:=hv;have hG:=hN.gr hg;have hw:=aD hw hg (aew _) hN.aW;have fP:=hC.row.aJ hG rfl
      have hE:=fK.setAt (R':=o7 qH w.heap.size) (i:=i) hC.each (x:=⟨⟨A2,zr[i].Names.n+1,c2⟩,zr[i].ay,zr[i].bL,zr[i].Order,zr[i].ab,zr[i].ak⟩) (y:=dF s.aa[i] n)
       ⟨(hC.each.get i Ib hi).size,(hC.each.get i Ib hi).per,(hC.each.get i Ib hi).order,bg,(hC.each.get i Ib hi).aB.aJ hG rfl,(hC.each.get i Ib hi).aV.aJ hG rfl⟩
       (fun j h1 h2 ji ho=>⟨ho.size,ho.per,ho.order,ho.names.grown hg (Ot ((yq.ne Ib h1 ji).imp (·.names) (·.names))),ho.aB.aJ hG rfl,ho.aV.aJ hG rfl⟩)
      (obtain ⟨aE,bf,hX,hY⟩:=dJ hG aE bf hX hY);clear hC;refine Wz ?_;refine SW.gH i 0 ⟨⟨A2,zr[i].Names.n+1,c2⟩,zr[i].ay,zr[i].bL,zr[i].Order,zr[i].ab,zr[i].ak⟩ fP rfl rfl rfl cx (by decide) rfl rfl fun iZ ke uB => ?_
      have yY:=fP.gr uB;have hw:=aD hw uB (aew _) fP.aW;(obtain ⟨aE,bf,hX,hY⟩:=dJ yY aE bf hX hY);have hE:=hE.mono fun _ _ h=>h.aJ yY rfl
      refine Wz ?_;refine Wg bf (aU q) fun w13 cK hg => ?_
      have hG:=bf.gr hg;have hw:=hw.own gq hg;(obtain ⟨hX,hY,ke⟩:=cd hG hX hY ke);have hE:=hE.mono fun _ _ h=>h.aJ hG rfl
      refine Wz ?_;refine ae.dj rfl rfl rfl cK rfl ⟨_,rfl,hw,_,.u7 hq S5 nq ht hi (by rw [hz];exact YE) (fun j hj ji => ?_),q,rfl,hX,hY,_,ke,hE⟩;rw [hz];simpa [Ap] using hib j hj ji
    ·repeat' (first|refine Wz ?_|(refine CW.gG rfl ?_)|refine SW.want rfl rfl ?_|refine Wl (K4 _ _ ap) ?_|((first|refine Wk (c1 _ hw) ?_|refine Wk (c2 _) ?_|refine Wk (c3 _ hw) ?_);intro v w1 ah hv;subst hv;obtain ⟨hw,aE,ap,bf⟩:=dJ ah hw aE ap bf;clear ah)|(refine SW.st ((zg rfl rfl (by omega)).eq (congrArg (Value.int .i64) Vv)) rfl ?_))
     all_goals try omega
     refine Wg bf (aU .zero) fun w5 cK hg => ?_
     have hw:=hw.own gq hg;refine Wz ?_;exact ae.dj rfl rfl rfl cK rfl ⟨_,rfl,hw,_,.gQ hq S5 nq ht,gR.zero 5 _ _⟩
   ·rcases (show size<1∨(1<=size∧64<size) by omega) with g|g
    all_goals
     repeat' (first|refine Wz ?_|refine SW.want rfl rfl ?_|refine Wl (K4 _ _ ap) ?_|((first|refine Wk (c1 _ hw) ?_|refine Wk (c2 _) ?_);intro v w1 ah hv;subst hv;obtain ⟨hw,aE,ap,bf⟩:=dJ ah hw aE ap bf;clear ah)|(refine SW.st ((zg rfl rfl (by omega)).eq (congrArg (Value.int .i64) Vv)) rfl ?_))
     all_goals try omega
     refine Wg bf (aU .zero) fun w5 cK hg => ?_
     have hw:=hw.own gq hg;refine Wz ?_;exact ae.dj rfl rfl rfl cK rfl ⟨_,rfl,hw,_,.range hq S5 nq,gR.zero 1 _ _⟩
  ·have S5 : ¬ (gx n=true∧jX align):=by rw [hp];exact KT
   rcases (show p=false∨(p=true∧align<1)∨(p=true∧1<=align∧8<align)∨(p=true∧(1<=align∧align<=8)∧gv≠0) by
    cases p
    ·exact .inl rfl
    ·right;by_cases a1:align<1
     ·exact .inl ⟨rfl,a1⟩
     ·by_cases a2 : 8<align
      ·exact .inr (.inl ⟨rfl,by omega,a2⟩)
      ·exact .inr (.inr ⟨rfl,by omega,fun h=>KT ⟨rfl,(Vt (by omega)).1 h⟩⟩)) with rfl|⟨rfl,g⟩|⟨rfl,g⟩|⟨rfl,g,g0⟩
   all_goals
    repeat' (first|refine Wz ?_|refine SW.want rfl rfl ?_|refine SW.skip rfl rfl rfl rfl ?_|((first|refine Wk (c1 _ hw) ?_|refine Wk (c2 _) ?_);intro v w1 ah hv;subst hv;obtain ⟨hw,aE,ap,bf⟩:=dJ ah hw aE ap bf;clear ah)|(refine SW.st ((zg rfl rfl (by omega)).eq (congrArg (Value.int .i64) Vv)) rfl ?_))
    all_goals try omega
    refine Wg bf (aU .zero) fun w5 cK hg => ?_
    have hw:=hw.own gq hg;refine Wz ?_;exact ae.dj rfl rfl rfl cK rfl ⟨_,rfl,hw,_,.form hq S5,gR.zero 3 _ _⟩
section
variable {P:Program} {n:Nat} {ops:Array Oper} {Q:Exit->Act->World->Prop} {rest:List Oper} {L:Env} {w:World}
end
variable {b d m:Nat} {A B:Option Addr} {w:World}
def fj (A:Option Addr) (n c:Nat) (B:Option Addr) (m d:Nat) (split least cpus:Int) : List Value:=[.slice A n c,.slice B m d,.int .i64 split,.int .i64 least,.int .i64 cpus]
def S6 {t:Nat} {n c:Nat} {split:Int} (h:aR w b t (fj A n c B m d split least cpus)) : ∀ j v,(qJ A n c B m d)[j]?=some v->w.cell? ((((⟨b,0,none⟩ : Addr)).add 0).add j)=some v:=fun j v hv=>by
 rw [add_add];refine h.cell (i:=0+j) ?_
 match j,hv with
 | 0,hv=>exact hv
 | 1,hv=>exact hv
set_option maxHeartbeats 4000000 in
def Bu (A:Option Addr) (n c:Nat) (B:Option Addr) (m d:Nat) (x y:List Region) (split least cpus:Int) (w:World) (hx:Sl w 2 iB A n x) (hy:Sl w 2 iB B m y) (hn:n<=9223372036854775807) (hm:m<=9223372036854775807) (Me : -9223372036854775808<=split∧split<=9223372036854775807) (hS:iQ w) :
 bI prog 8 [.agg (fj A n c B m d split least cpus).toArray] w fun v w' => ∃ u,ja (jD 256 x y) split least cpus u∧gR w.heap.size u v w':=by
 refine Wj func8 ntmps8 ?_;refine Ww fun b1 w1 hw lD aX => ?_;refine SW.alloc rfl fun b2 w2 bq eW aq => ?_
 have vo:=hw.up eW
 (obtain ⟨hw,aX⟩:=cT bq hw aX);have hlen:=Gs 256 x y;repeat' (first|refine Wz ?_|refine Wm ((S6 aX)) ?_)
 refine Wk (IC A n c B m d x y 256 rfl _ (hx.ext hw) (hy.ext hw) hn hm) fun v w5 oX hv => ?_
 obtain ⟨o,ho⟩ : ∃ o,jD 256 x y=o:=⟨_,rfl⟩;rw [ho] at hv hlen ⊢;clear ho;obtain ⟨A1,c1,rfl,hO⟩:=hv;have hO:=hO.low hw.size;(obtain ⟨hw,aX,aq⟩:=cd oX hw aX aq);by_cases h0:o.1=0
 ·rw [h0];refine Wz ?_;refine Wk (Oc A1 o.2.length c1 o.2 split least cpus _ hO.sl (by omega) Me) fun v w6 FP hv => ?_
  have Ri:=fun h2=>Dn (l:=o.2) (split:=split) (least:=least) (cpus:=cpus) h2
  obtain ⟨e,he⟩ : ∃ e,ib o.2 split least cpus=e:=⟨_,rfl⟩;have G3:=fun h2=>ja.heap (o:=o) (split:=split) (least:=least) (cpus:=cpus) h0 h2
  have cK:=fun (t:ag) h2 m=>ja.made (o:=o) (split:=split) (least:=least) (cpus:=cpus) (t:=t) h0 h2 m
  rw [he] at hv Ri G3 cK;clear he;obtain ⟨H,rfl,hH⟩:=hv;have hH:=hH.low hw.size;(obtain ⟨hw,aX,aq⟩:=cd FP hw aX aq);clear hO;by_cases h2:e.1=0
  ·rw [h2];refine Wz ?_;refine SW.alloc rfl fun b6 w1 ah dv ap => ?_
   skip;refine Wg ap (ed H) fun w2 bQ hg => ?_
   have ar:=ah.own dv hg;have cQ:=hw.up dv
   obtain ⟨hw,aX,aq,hH⟩:=dJ ar hw aX aq hH;have ap:=bQ;clear bQ ah hg ar;refine Wz ?_;refine Wk (O6 256 _) fun v w7 iV hv => ?_
   rw [if_pos ⟨by decide,by decide⟩] at hv;obtain ⟨A2,c2,rfl,hX⟩:=hv;have hX:Own w7 w.heap.size 3 1 bt A2 4096 c2 (List.replicate 4096 0):=hX.low hw.size;(obtain ⟨hw,aX,aq,ap,hH⟩:=fH iV hw aX aq ap hH);refine Wz ?_;have Um:=aq.lt;refine SW.alloc rfl fun b9 w1 ah oz bF => ?_
   skip;refine Wg bF (aU ⟨⟨A2,4096,c2⟩,H,.nil⟩) fun w2 j5 hg => ?_
   have ar:=ah.own oz hg;have sy:=hw.up oz
   obtain ⟨hw,aX,aq,ap,hH,hX⟩:=jh ar hw aX aq ap hH hX;have bF:=j5;clear j5 ah hg ar;have bG:b2≠b9:=by omega
   have F2:jj _ w.heap.size ⟨⟨A2,4096,c2⟩,H,.nil⟩ (IF e.2):=⟨hX,hH,⟨[],fI.nil _ _⟩⟩
   clear hX hH aX ap;repeat' (first|refine Wz ?_|refine Wo hw ((CZ hS)) ?_)
   refine CW.loop (fun s:Nat×de×ag=>[(2,.pointer (some ⟨b2,0,none⟩)),(9,.pointer (some ⟨b9,0,none⟩)),(44,.agg (kL.map (Value.int .i64)).toArray),(45,.int .i64 (s.1:Int))])
    (fun s w'=>s.1<=6∧Ext w w'∧aR w' b2 44 (aK .zero)∧aR w' b9 44 (aK s.2.1)∧jj w' w.heap.size s.2.1 s.2.2∧wh (IF e.2) s.1 s.2.2) (fun s=>6-s.1) (0,⟨⟨A2,4096,c2⟩,H,.nil⟩,IF e.2)
    ⟨rfl,rfl,rfl,rfl,trivial⟩ ⟨by omega,hw,aq,bF,F2,.zero⟩ ?_
   clear hw aq bF F2;rintro ⟨j,r,s⟩ w' ⟨hj,hw,aq,bF,F2,hM⟩
   simp only at hj bF F2 hM ⊢;by_cases Rj:j<6
   ·obtain ⟨k1,k2,k3,k4⟩:=NE Rj;have pY:=C0 Rj;have hf:=hM.cS (Ri h2) hj;have kS:=PW j;obtain ⟨z,hz⟩ : ∃ z,kP j=z:=⟨_,rfl⟩;have hMk:=fun (u:ag×Int) (h:lU s (eJ z) z 1 u)=>wh.succ (u:=u) hM (hz ▸ h)
    rw [hz] at k1 k2 k3 k4 pY kS;have OU:(kL.map (Value.int .i64))[j]?=some (.int .i64 z):=by rw [af7,k2];rfl
    repeat' (first|refine Wz ?_|(refine SW.st (rb j rfl rfl rfl Rj OU) rfl ?_))
    refine CW.gB 8 8 (fun _=>True) mixed (by kernel_rfl) fun w1 ah aI => ?_
    obtain ⟨hw,aq,bF,F2⟩:=dJ ah hw aq bF F2;clear ah;refine Wf ?_;refine SF.bZ 2 ?_;refine Wk (xc z k1 _) fun v w4 ar hv => ?_
    subst hv;(obtain ⟨hw,aq,bF,F2⟩:=dJ ar hw aq bF F2);refine SW.nil (ae.sf ar ?_);refine SF.bZ 4 ?_;refine Wk (uV r s (eJ z) z 1 _ F2.rd hf pY) fun v w4 ar hv => ?_
    obtain ⟨u,hu,q,rfl,hq⟩:=hv;have hq:=hq.low hw.size;(obtain ⟨hw,aq,bF⟩:=cd ar hw aq bF);refine SW.nil (ae.sf ar ?_);refine Wf ?_;refine SF.Cq 7 aI rfl (by kernel_rfl) (by kernel_rfl) rfl (fun _=>bi rfl) rfl ?_;refine SF.ff ?_;refine Wg bF (aU q) fun w6 j5 hg => ?_
    have hG:=bF.gr hg;have aq:=aq.grown hg (by simpa using bG);have hw:=hw.own sy hg;(have hq:=hq.aJ hG rfl);refine Wz ?_;exact ae.again (j+1,q,u.1) ⟨rfl,rfl,rfl,rfl,trivial⟩ (by simp only;omega) ⟨by simp only;omega,hw,aq,j5,hq,hMk u hu⟩
   ·obtain rfl:j=6:=by omega
    refine Wz ?_;refine Wg aq (aU r) fun w6 hR hg => ?_
    have hG:=aq.gr hg;have hw:=hw.own vo hg;(have F2:=F2.aJ hG rfl);refine Wz ?_;exact ae.dj rfl rfl rfl hR rfl ⟨_,rfl,hw,_,cK s h2 hM,r,rfl,F2⟩
  ·have hv:=G3 h2;obtain ⟨e1,TO⟩ : ∃ e1,e.1=e1:=⟨_,rfl⟩;rw [TO] at h2 hv ⊢;refine Wz ?_;refine SW.alloc rfl fun b6 w1 ah dv ap => ?_
   skip;refine Wg ap (ed H) fun w2 bQ hg => ?_
   have ar:=ah.own dv hg;have cQ:=hw.up dv
   obtain ⟨hw,aq⟩:=cT ar hw aq;have ap:=bQ;clear bQ ah hg ar;refine Wz ?_;refine Wg aq (aU .zero) fun w7 hR hg => ?_
   have hw:=hw.own vo hg;refine Wz ?_;exact ae.dj rfl rfl rfl hR rfl ⟨_,rfl,hw,_,hv,gR.zero _ _ _⟩
 ·have hv:=ja.S3 (split:=split) (least:=least) (cpus:=cpus) h0;obtain ⟨e1,TO⟩ : ∃ e1,o.1=e1:=⟨_,rfl⟩;rw [TO] at h0 hv ⊢;refine Wz ?_;refine Wg aq (aU .zero) fun w7 hR hg => ?_
  have hw:=hw.own vo hg;refine Wz ?_;exact ae.dj rfl rfl rfl hR rfl ⟨_,rfl,hw,_,hv,gR.zero _ _ _⟩
variable {R:Ending->World->Prop} {fn:Func} {cs:List Value} {P:Program}
inductive LC (o:Int×List Region) (split least cpus:Int) (l:List cr) : Int×List j8×ag->Prop
 | fault {u:ag×Int} (h:ja o split least cpus u) (he:u.2≠0) : LC o split least cpus l (u.2,[],.zero)
 | ran {u:ag×Int} {xs:List j8} {t:ag} (h:ja o split least cpus u) (he:u.2=0) (hr:jN u.1 l xs t) : LC o split least cpus l (0,xs,t)
def S7 (lo:Nat) (o:Int×List j8×ag) (v:Value) (w:World) : Prop := ∃ A n c rs q,v = .tuple #[.slice A n c,.agg (aK q).toArray,.int .i64 o.1]∧jf w lo A n c rs o.2.1∧jj w lo q o.2.2
def ae.IM {n:Nat} {L:Env} {t u q ty tb:Nat} {x y:Value} [c:fG P ty m] (hr:fn.results = #[.tmp u,.cell t ty,.tmp q]) (hx:get L u=some x) (hv:get L t=some (.pointer (some ⟨b,0,none⟩))) (hy:get L q=some y) (hB:aR w b tb cs) (hl:Nat.beq cs.length m=true) (h:R (.returned (.tuple #[x,.agg cs.toArray,y])) w) : ae n (bodyPost P fn R) .ret L w :=
 ⟨fun a ha=>⟨ha.defers,_,by simpa using mY.results (rs:=[.tmp u,.cell t ty,.tmp q]) hr (.tmp hx (.cell c hv hB (aeY hl) (.tmp hy .nil))) ha,h⟩⟩
def jf.fC (w:World) (lo:Nat) (A:Option Addr) : jf w lo A 0 0 [] []:=⟨Own.fC _ _ _ _ _ _,.nil⟩
structure Vw where
 j:Nat
 A:Option Addr
 c:Nat
 rs:List qI
 xs:List j8
 q:de
 t:ag
set_option maxHeartbeats 4000000 in
def JW (I:ag->Prop) (A:Option Addr) (n c:Nat) (B:Option Addr) (m d:Nat) (x y:List Region) (split least cpus:Int) (X:Option Addr) (k e:Nat) (l:List cr) (w:World) (hx:Sl w 2 iB A n x) (hy:Sl w 2 iB B m y) (hn:n<=9223372036854775807) (hm:m<=9223372036854775807) (Me : -9223372036854775808<=split∧split<=9223372036854775807) (hS:iQ w) (fh:m9 w)
 (hl:Sl w 7 dZ X k l) (hk:k<=300) (hI:∀ u,ja (jD 256 x y) split least cpus u->u.2=0->I u.1) (hF:∀ s,I s->s.cS) (hG:∀ a∈l,fM I a) (hP:∀ a∈l,s9 I a) :
 bI prog 7 [.agg (fj A n c B m d split least cpus).toArray,.slice X k e] w fun v w' => ∃ o,LC (jD 256 x y) split least cpus l o∧S7 w.heap.size o v w':=by
 refine Wj func7 ntmps7 ?_;refine Ww fun b2 w1 hw eW aq => ?_;have mx:=hl.len;have hlA:=hl.base;have l2:=aq.lt;refine Wz ?_;refine SW.alloc rfl fun b5 w2 bq gI aL => ?_
 have jR:w.heap.size<=b5:=aev hw.size gI
 (replace hw:=Ext.trans hw bq;replace aq:=aq.ext bq);refine Wz ?_;refine Wk (Bu A n c B m d x y split least cpus _ (hx.ext hw) (hy.ext hw) hn hm Me (hS.ext hw)) fun v w5 oX hv => ?_
 obtain ⟨u,hu,s1,rfl,kD⟩:=hv;replace kD:=kD.low hw.size;(replace hw:=Ext.trans hw oX;replace aq:=aq.ext oX;replace aL:=aL.ext oX);obtain ⟨u1,u2⟩:=u;simp only at kD ⊢;refine Wz ?_;have l5:=aL.lt;refine SW.alloc rfl fun b7 w1 ah iT bc => ?_
 skip;refine Wg bc (aU s1) fun w2 bp hg => ?_
 have ar:=ah.own iT hg;have gn:w.heap.size<=b7:=aev hw.size iT
 replace hw:=Ext.trans hw ar;replace aq:=aq.ext ar;replace aL:=aL.ext ar;replace kD:=kD.ext ar;replace bc:=bp;clear bp ah hg ar;have rN:b5≠b7:=by omega
 by_cases he:u2=0
 ·have QB:=hI _ hu he;have hR0:=fun xs t h=>LC.ran (l:=l) (xs:=xs) (t:=t) hu he h
  simp only at QB hR0;subst he;refine Wz ?_
  refine CW.loop (fun s:Vw=>[(5,.pointer (some ⟨b5,0,none⟩)),(7,.pointer (some ⟨b7,0,none⟩)),(9,.slice s.A s.j s.c),(26,.slice X k e),(27,.int .i64 (k:Int)),(28,.int .i64 (s.j:Int))])
   (fun s w'=>s.j<=k∧Ext w w'∧aR w' b5 44 (aK .zero)∧aR w' b7 44 (aK s.q)∧jj w' w.heap.size s.q s.t∧jf w' w.heap.size s.A s.j s.c s.rs s.xs∧jN u1 (l.take s.j) s.xs s.t∧I s.t) (fun s=>k-s.j) ⟨0,none,0,[],[],s1,u1⟩
   ⟨rfl,rfl,rfl,rfl,rfl,rfl,trivial⟩ ⟨afc _,hw,aL,bc,kD,jf.fC _ _ _,by rw [List.take_zero];exact .nil _,QB⟩ ?_
  clear hw aL bc kD aq;rintro ⟨j,Y,f,rs,xs,q,t⟩ w' ⟨hj,hw,aL,bc,hq,hY,hR,Rb⟩
  simp only at hj bc hq hY hR Rb ⊢;by_cases my:j<k
  ·have pZ:j<l.length:=by omega
   repeat' (first|refine Wz ?_|refine Wo hw ((hl.all my)) ?_)
   refine SW.alloc rfl fun Pj w1 ah sR ir => ?_
   skip;refine Wg ir (Q7 l[j]) fun w2 pk hg => ?_
   have ar:=ah.own sR hg;have Nf:w.heap.size<=Pj:=aev hw.size sR
   replace hw:=Ext.trans hw ar;replace aL:=aL.ext ar;replace bc:=bc.ext ar;replace hq:=hq.ext ar;replace hY:=hY.ext ar;replace ir:=pk;clear pk ah hg ar;refine Wz ?_;have l7:=hY.row.lt_size;refine SW.alloc rfl fun vV w2 bq lZ cb => ?_
   have nf:w.heap.size<=vV:=aev hw.size lZ
   (replace hw:=Ext.trans hw bq;replace aL:=aL.ext bq;replace bc:=bc.ext bq;replace ir:=ir.ext bq;replace hq:=hq.ext bq;replace hY:=hY.ext bq);clear bq;refine Wz ?_;refine Wk (hG l[j] (aet pZ) q t w.heap.size _ hq hw.size Rb (hS.ext hw) (fh.ext hw)) fun v w7 iV hv => ?_
   obtain ⟨o,ho,q',x',rfl,OY,pe⟩:=hv;(replace hw:=Ext.trans hw iV;replace aL:=aL.ext iV;replace bc:=bc.ext iV;replace ir:=ir.ext iV;replace cb:=cb.ext iV;replace hY:=hY.ext iV);clear iV hq;obtain ⟨o1,o2⟩:=o;simp only at OY pe ⊢;have hIo:=hP l[j] (aet pZ) t _ Rb ho;refine Wz ?_;refine Wg bc (aU q') fun w8 bp hg => ?_
   have vZ:=bc.gr hg;replace aL:=aL.grown hg (by simpa using rN);replace hw:=hw.own gn hg;(replace ir:=ir.aJ vZ rfl;replace cb:=cb.aJ vZ rfl;replace hY:=hY.aJ vZ rfl;replace OY:=OY.aJ vZ rfl;replace pe:=pe.aJ vZ rfl);clear vZ hg bc;refine Wg cb (fE x') fun w8 lB hg => ?_
   have vZ:=cb.gr hg;have hY2:jf w8 w.heap.size Y j f rs xs:=⟨hY.row.grown hg (.inr (fun e=>by have:=l7 _ e;omega)),hY.each.mono fun _ _ h=>h.aJ vZ rfl⟩
   replace hw:=hw.own nf hg;(replace aL:=aL.aJ vZ rfl;replace bp:=bp.aJ vZ rfl;replace ir:=ir.aJ vZ rfl;replace OY:=OY.aJ vZ rfl;replace pe:=pe.aJ vZ rfl);clear hY vZ hg cb l7 lZ;have bc:=bp;have cb:=lB;have hY:=hY2;clear bp lB hY2;refine Wz ?_;refine SW.dR rfl rfl rfl rfl rfl fun tZ w9 tQ mj cw => ?_
   (replace hw:=Ext.trans hw tQ;replace aL:=aL.ext tQ;replace bc:=bc.ext tQ;replace OY:=OY.ext tQ;replace pe:=pe.ext tQ;replace hY:=hY.ext tQ);clear tQ;refine SW.append hY.row (aR.wv (enc:=ck) cw) hw.size rfl rfl rfl (by omega) (by omega) fun Y2 f2 oP IL hg => ?_
   have vZ:=hY.row.gr hg;replace hw:=aD hw hg (aew _) hY.row.aW;have hYe:=hY.each.mono fun _ _ h=>h.aJ (t:=56) vZ rfl
   (replace aL:=aL.aJ vZ rfl;replace bc:=bc.aJ vZ rfl;replace OY:=OY.aJ vZ rfl;replace pe:=pe.aJ vZ rfl);clear vZ hg hY;refine Wz ?_;have cK:=jN.snoc hR ho;rw [<- aeA pZ] at cK;exact ae.again ⟨j+1,Y2,f2,rs++[x'],xs++[o2],q',o1⟩ ⟨rfl,rfl,rfl,rfl,rfl,rfl,trivial⟩ (by simp only;omega) ⟨by simp only;omega,hw,aL,bc,OY,⟨IL,hYe.snoc pe⟩,cK,hIo⟩
  ·obtain rfl:j=k:=by omega
   rw [aeF (by omega)] at hR;refine Wz ?_;refine Wk (mM q t _ hq.rd (hF t Rb).small) fun v w9 tQ hv => ?_
   obtain ⟨p,cs',rfl,Ou,_⟩:=hv;have hP:=Ou.xd.low hw.size;clear Ou;(replace hw:=Ext.trans hw tQ;replace aL:=aL.ext tQ;replace bc:=bc.ext tQ;replace hY:=hY.ext tQ);refine Wz ?_;refine Wg aL (aU p) fun iZ YF hg => ?_
   have vZ:=aL.gr hg;replace hw:=hw.own jR hg;(replace hP:=hP.aJ vZ rfl;replace hY:=hY.aJ vZ rfl);refine Wz ?_;exact ae.IM rfl rfl rfl rfl YF rfl ⟨_,rfl,hw,_,hR0 _ _ hR,Y,j,f,rs,p,rfl,hY,hP⟩
 ·have hv:=LC.fault (l:=l) hu he;simp only at hv;refine Wz ?_;refine Wg aL (aU .zero) fun w7 hR hg => ?_
  replace hw:=hw.own jR hg;refine Wz ?_;exact ae.IM rfl rfl rfl rfl hR rfl ⟨_,rfl,hw,_,hv,none,0,0,[],.zero,rfl,jf.fC _ _ _,Own.fC _ _ _ _ _ _,jP.zero _ _,⟨[],fI.nil _ _⟩⟩
variable {af:Array Edge} {g:Option (Nat×Bool)} {T:TypeId}
def S8 {L:Env} {d:Option Nat} {pos:String} {x:Operand} {i:Int} (hx:cy L x=some (.int .i64 i)) (h1 : -9223372036854775808 <= -i) (h2 : -i<=9223372036854775807) : St P ⟨d,.unOp .neg t x,T,pos,af,g⟩ L w (.int .i64 (-i)) :=
 ⟨fun _ a ha w' _=>by have e1:=ha.eval hx;have:=ju h1 h2;generalize a.eval = ρ at *;simp [go_sem,e1,Op.unary,this]⟩
def gi (n m:Int) (w:World) (hn : -9223372036854775808<=n∧n<=9223372036854775807) (hm : 0<m) : bI prog 19 [.int .i64 n,.int .i64 m] w fun v _=>v = .int .i64 (bR n m):=by
 refine Wj func19 ntmps19 ?_;have hw:=Ext.refl w;have ER:m≠0:=by omega
 by_cases h0:n<0
 ·have e:bR n m=(-(n+1)).tmod m:=by unfold bR;rw [if_pos h0]
  rw [e];repeat' (first|refine Wz ?_|(refine SW.st (S8 rfl (by omega) (by omega)) rfl ?_))
  exact ae.bh rfl rfl ⟨_,rfl,hw,rfl⟩
 ·have e:bR n m=n.tmod m:=by unfold bR;rw [if_neg h0]
  rw [e];refine Wz ?_;exact ae.bh rfl rfl ⟨_,rfl,hw,rfl⟩
def wj (A:Option Addr) (n c:Nat) (B:Option Addr) (m d:Nat) (x y z:Int) : ∀ v∈fj A n c B m d x y z,v.oneCell'=true:=fun v hv=>by
 simp only [fj,List.mem_cons,List.not_mem_nil,or_false] at hv;rcases hv with rfl|rfl|rfl|rfl|rfl<;>rfl
set_option maxHeartbeats 4000000 in
def Bv (a b c:Int) (w:World) (ha : -9223372036854775808<=a∧a<=9223372036854775807) (hb : -9223372036854775808<=b∧b<=9223372036854775807) (hc : -9223372036854775808<=c∧c<=9223372036854775807) :
 bI prog 9 [.int .i64 a,.int .i64 b,.int .i64 c] w fun v w' => ∃ A B,v = .agg (fj A 2 2 B 2 2 (16*bR a 9) (bR b 12) (1+bR c 4)).toArray∧Own w' w.heap.size 79 2 iB A 2 2 (te a b c)∧Own w' w.heap.size 79 2 iB B 2 2 (tf a b c):=by
 refine Wj func9 ntmps9 ?_;refine CW.seq (CW.region (SW.alloc rfl fun b6 w1 hw dv ap => ?_));have cQ:=dv;have h1:=dk (n:=a) (m:=20) (by omega);have h2:=dk (n:=b) (m:=60) (by omega);have h3:=dk (n:=c) (m:=10) (by omega);have h4:=dk (n:=a) (m:=90) (by omega);have h5:=dk (n:=c) (m:=30) (by omega);have h6:=dk (n:=a) (m:=7) (by omega);have h7:=dk (n:=b) (m:=9) (by omega);have h8:=dk (n:=c) (m:=5) (by omega);have h9:=dk (n:=a) (m:=9) (by omega);have h10:=dk (n:=b) (m:=12) (by omega);have h11:=dk (n:=c) (m:=4) (by omega);repeat' (first|refine Wz ?_|((first|refine SW.call rfl rfl (gi a _ _ ha (by decide)) ?_|refine SW.call rfl rfl (gi b _ _ hb (by decide)) ?_|refine SW.call rfl rfl (gi c _ _ hc (by decide)) ?_);intro v w1 ah hv;subst hv;have hw:=hw.trans ah;have ap:=ap.ext ah;clear ah))
 have l6:=ap.lt;refine SW.alloc rfl fun b7 w1 ah iT bc => ?_
 skip;refine Wg bc (wj none 0 0 none 0 0 (16*bR a 9) (bR b 12) (1+bR c 4)) fun w2 bp hg => ?_
 have ar:=ah.own iT hg;have gn:=hw.up iT
 have hw:=hw.trans ar;have ap:=ap.ext ar;have bc:=bp;clear bp ah hg ar;have n67:b6≠b7:=by omega
 clear l6;repeat' (first|refine Wz ?_|((first|refine SW.call rfl rfl (gi a _ _ ha (by decide)) ?_|refine SW.call rfl rfl (gi b _ _ hb (by decide)) ?_|refine SW.call rfl rfl (gi c _ _ hc (by decide)) ?_);intro v w1 ah hv;subst hv;have hw:=hw.trans ah;have ap:=ap.ext ah;have bc:=bc.ext ah;clear ah))
 refine SW.xb (enc:=iB) ⟨bR a 20,40+bR b 60⟩ ⟨130+bR c 10,16+bR a 90⟩ rfl rfl rfl rfl rfl rfl fun g1 w2 bq YG hA => ?_
 have hA:=hA.low hw.size;(have hw:=hw.trans bq;have ap:=ap.ext bq;have bc:=bc.ext bq);clear bq;refine Wz ?_;refine SW.su (i:=0) bc rfl rfl rfl rfl fun w3 bp hg => ?_
 have hG:=bc.gr hg;have ap:=ap.grown hg (by simpa using n67);have hw:=hw.own gn hg;(have hA:=hA.aJ hG rfl);have bc:aR _ b7 29 (fj (some ⟨g1,0,none⟩) 2 2 none 0 0 (16*bR a 9) (bR b 12) (1+bR c 4)):=bp;clear hG hg bp;repeat' (first|refine Wz ?_|((first|refine SW.call rfl rfl (gi a _ _ ha (by decide)) ?_|refine SW.call rfl rfl (gi b _ _ hb (by decide)) ?_|refine SW.call rfl rfl (gi c _ _ hc (by decide)) ?_);intro v w1 ah hv;subst hv;have hw:=hw.trans ah;have ap:=ap.ext ah;have bc:=bc.ext ah;have hA:=hA.ext ah;clear ah))
 refine SW.xb (enc:=iB) ⟨bR a 20+bR c 30,1+bR a 7⟩ ⟨150+bR b 9,1+bR c 5⟩ rfl rfl rfl rfl rfl rfl fun g2 w2 bq acy hB => ?_
 have hB:=hB.low hw.size;(have hw:=hw.trans bq;have ap:=ap.ext bq;have bc:=bc.ext bq;have hA:=hA.ext bq);clear bq;refine Wz ?_;refine SW.su (i:=1) bc rfl rfl rfl rfl fun w3 bp hg => ?_
 have hG:=bc.gr hg;have ap:=ap.grown hg (by simpa using n67);have hw:=hw.own gn hg;(have hA:=hA.aJ hG rfl;have hB:=hB.aJ hG rfl);have bc:aR _ b7 29 (fj (some ⟨g1,0,none⟩) 2 2 (some ⟨g2,0,none⟩) 2 2 (16*bR a 9) (bR b 12) (1+bR c 4)):=bp;clear hG hg bp;refine Wz ?_;refine Wg ap (wj (some ⟨g1,0,none⟩) 2 2 (some ⟨g2,0,none⟩) 2 2 (16*bR a 9) (bR b 12) (1+bR c 4)) fun w3 hR hg => ?_
 have hG:=ap.gr hg;have hw:=hw.own cQ hg;(have hA:=hA.aJ hG rfl;have hB:=hB.aJ hG rfl);refine Wz ?_;exact ae.EW rfl rfl hR rfl ⟨_,rfl,hw,_,_,rfl,hA,hB⟩
def Dr (a b c:Int) (w:World) (ha : -9223372036854775808<=a∧a<=9223372036854775807) (hb : -9223372036854775808<=b∧b<=9223372036854775807) (hc : -9223372036854775808<=c∧c<=9223372036854775807) :
 bI prog 9 [.int .i64 a,.int .i64 b,.int .i64 c] w fun v w' => ∃ A B,v = .agg (fj A 2 2 B 2 2 (16*bR a 9) (bR b 12) (1+bR c 4)).toArray∧Sl w' 2 iB A 2 (te a b c)∧Sl w' 2 iB B 2 (tf a b c) :=
 (Bv a b c w ha hb hc).mono fun v w' _ ⟨A,B,e,hA,hB⟩=>⟨A,B,e,hA.sl,hB.sl⟩
def Rk (k:Int) : cr:=⟨k,0,0,0,0,0,⟨#[]⟩⟩
def JX {b c:Int} {l:List cr} {o:Int×List j8×ag} (h:LC (jD 256 (te a b c) (tf a b c)) (16*bR a 9) (bR b 12) (1+bR c 4) l o) : o.1=0 ∧ ∃ s,nC (Lx a b c) 6 s∧dy s∧jN s l o.2.1 o.2.2:=by
 cases h with
 | fault h he=>exact absurd (jO h).1 he
 | ran h he hr=>exact ⟨rfl,_,(jO h).2.1,(jO h).2.2,hr⟩
set_option maxHeartbeats 4000000 in
def LD (w:World) (hS:iQ w) (fh:m9 w) : bI prog 4 [] w fun v _=>v = .bool true:=by
 refine Wj func4 ntmps4 ?_;have hw:=Ext.refl w;refine Wz ?_;refine SW.call rfl rfl (Dr 0 0 0 _ (by decide) (by decide) (by decide)) fun v w2 bq hv => ?_
 obtain ⟨A,B,rfl,hA,hB⟩:=hv;have hw:=hw.trans bq;clear bq;have hp:=dk (n:=0) (m:=9) (by omega);refine SW.call rfl rfl (Bu A 2 2 B 2 2 _ _ _ _ _ _ hA hB (by decide) (by decide) (by omega) (hS.ext hw)) fun v w3 nL hv => ?_
 obtain ⟨u,hu,q,rfl,hq⟩:=hv;obtain ⟨e0,hF,hI⟩:=jO hu;have hq:=hq.low hw.size;have hw:=hw.trans nL;clear nL hA hB;rw [e0];refine Wz ?_;refine SW.alloc rfl fun b1 w1 ah lD aX => ?_
 skip;refine Wg aX (aU q) fun w2 tT hg => ?_
 have ar:=ah.own lD hg;have Nb:=hw.up lD
 have hw:=hw.trans ar;have hq:=hq.ext ar;have aX:=tT;clear tT ah hg ar;refine Wz ?_;refine SW.call rfl rfl (Dr 0 0 0 _ (by decide) (by decide) (by decide)) fun v w2 bq hv => ?_
 obtain ⟨A,B,rfl,hA,hB⟩:=hv;(have hw:=hw.trans bq;have aX:=aX.ext bq;have hq:=hq.ext bq);clear bq;refine Wz ?_;refine SW.dR rfl rfl rfl rfl rfl fun XT w9 tQ vU qF => ?_
 (have hw:=hw.trans tQ;have aX:=aX.ext tQ;have hq:=hq.ext tQ;have hA:=hA.ext tQ;have hB:=hB.ext tQ);clear tQ;refine SW.call rfl rfl (JW dy A 2 2 B 2 2 _ _ _ _ _ _ 1 1 [Rk 12] _ hA hB (by decide) (by decide) (by omega) (hS.ext hw) (fh.ext hw) (aR.wv (enc:=dZ) (x:=Rk 12) qF) (by decide) (fun u h _=>(jO h).2.2) (fun s h=>h.cS) (fun a ha=>by simp only [List.mem_singleton] at ha;subst ha;exact xA _ rfl) (fun a ha=>by simp only [List.mem_singleton] at ha;subst ha;exact rG rfl)) fun v w3 nL hv => ?_
 obtain ⟨o,ho,X,n,c,rs,q2,rfl,hX,vq⟩:=hv;obtain ⟨e1,s,_,_,hR⟩:=JX ho;have hn:=hX.len;have hl:=hR.len;simp only [List.length_singleton] at hl;obtain rfl:n=1:=by omega
 rw [e1];have hX:=hX.low hw.size;have vq:=vq.low hw.size;(have hw:=hw.trans nL;have aX:=aX.ext nL;have hq:=hq.ext nL);clear nL hA hB qF;refine Wz ?_;refine SW.alloc rfl fun b4 w1 ah fw aE => ?_
 refine Wz ?_;refine Wg aE (aU q2) fun w2 df hg => ?_
 have ar:=ah.own fw hg;have dQ:=hw.up fw
 have hw:=hw.trans ar;have aX:=aX.ext ar;have hq:=hq.ext ar;have vq:=vq.ext ar;have hX:=hX.ext ar;have aE:=df;clear df ah hg ar;have ZR:=hq.words.len;rw [hF.words,afv] at ZR;refine Wz ?_;all_goals try omega
 exact ae.bh rfl rfl ⟨_,rfl,hw,rfl⟩
variable {sz:Nat}
def Ds:∀ (us:List Value) (k:Nat) (D Z:List Value),(∀ u∈us,u.cells.size=sz)->D.length=k*sz->Z.length=us.length*sz ->
 Instr.fill (fun i=>some (i*sz,sz)) (D++Z).toArray ((us.zipIdx k).map fun p=>(p.2,p.1))=some (D++us.flatMap fun u=>u.cells.toList).toArray
 | [],k,D,Z,_,_,hZ=>by
   have:Z=[]:=aeN (by simpa using hZ)
   subst this;simp [Instr.fill]
 | u::us,k,D,Z,hu,hD,hZ=>by
   have h1:=hu u (by simp);have hl:Z.length=sz+us.length*sz:=by rw [hZ,List.length_cons,afi];omega
   have fold:∀ (x:Value) (off:Nat) (X:List Value),Array.foldl (fun (cs:Array Value) (p:Value×Nat)=>cs.setIfInBounds (off+p.2) p.1) X.toArray x.cells.zipIdx=(setAt X off x.cells.toList).toArray:=fun x off X=>by
    have:=qU x.cells.toList 0 off X
    rw [agf] at this;rw [<- this,<- agm];simp [Array.toList_zipIdx]
   have hs:setAt (D++Z) (k*sz) u.cells.toList=D++u.cells.toList++Z.drop sz:=by
    have:=tA u.cells.toList D (Z.take sz) (Z.drop sz) (by simp [h1];omega)
    rw [aey,aex,hD] at this;exact this
   simp only [List.zipIdx_cons,List.map_cons,Instr.fill];rw [if_neg (by simp [h1];omega),fold u (k*sz) (D++Z),hs,Ds us (k+1) (D++u.cells.toList) (Z.drop sz) (fun x hx=>hu x (by simp [hx])) (by simp [hD,h1,Nat.add_mul]) (by simp;omega)];simp
section
variable {α:Type} {P:Program} {n:Nat} {ops:Array Oper} {Q:Exit->Act->World->Prop} {rest:List Oper} {L:Env} {w:World} {d:Nat} {T:TypeId} {pos:String} {af:Array Edge}
def SW.th {t e:TypeId} {z:Value} {sz bytes len:Nat} {enc : α -> List Value} {parts:Array (Nat×Operand)} [S:bu P t e sz] [E:dn P e z sz bytes] [C:iK enc sz] (xs:List Operand) {us:List Value} (vz:List α)
 (hp:parts.toList=(xs.zipIdx 0).map fun p=>(p.2,p.1)) (hx:uy L xs=some us) (hu:us.map (fun u=>u.cells.toList)=vz.map enc) (hlen:Nat.beq len vz.length=true) (kb:Nat.blt 0 len=true) (hle:Nat.ble len 100=true) (hs:Nat.ble sz 1000=true)
 (hn:Nat.blt d n=true) (h:∀ g w',Ext w w'->w.heap.size<=g->Own w' w.heap.size e sz enc (some ⟨g,0,none⟩) len len vz->SW P n ops (.gd Q) rest ((d,.slice (some ⟨g,0,none⟩) len len)::L) w') :
 SW P n ops (.gd Q) (⟨some d,.buildSlice t len parts,T,pos,af,none⟩::rest) L w :=
 ⟨fun q hq=>by
  obtain ⟨i,hi,hz,nJ,yL⟩:=eM P e (z:=z) (sz:=sz) (bytes:=bytes);have kD:sz<=1000:=by simpa using hs
  have BQ:len<=100:=by simpa using hle
  have Cc : 0<len:=by simpa using kb
  have hl:len=vz.length:=aeY hlen
  have nq : 0<sz:=E.pos
  have aap : 0<len*sz:=Nat.mul_pos Cc nq
  have ZX:len*sz<=100*1000:=Nat.mul_le_mul BQ kD
  have hul:us.length=len:=by have:=congrArg List.length hu;simpa [hl] using this
  have hev:xs.map q.eval=us:=hq.vh hx
  have kK:∀ u∈us,u.cells.size=sz:=fun u hm=>by
   have:u.cells.toList∈vz.map enc:=by rw [<- hu];exact List.mem_map_of_mem hm
   obtain ⟨a,_,ha⟩:=aeH.1 this;rw [<- afF,<- ha,C.len]
  have nK:(us.flatMap fun u=>u.cells.toList)=vz.flatMap enc:=by rw [afT,afT,hu]
  simp only [swp];refine wpList_buildSlice rfl t e len _ rfl (vz.flatMap enc).toArray i z S.ot hi hz (by rw [nJ];omega) (by rw [nJ];omega) ?_ ?_
  ·have e1:(Array.map (fun (p:Nat×Operand)=>(p.1,q.eval p.2)) parts).toList=(us.zipIdx 0).map fun p=>(p.2,p.1):=by
    rw [Array.toList_map,hp,<- hev,List.zipIdx_map,agE,agE]
    rfl
   have e2:∀ X:Array Value,X=([]++X.toList).toArray:=fun X=>rfl
   rw [e1,e2 (Array.map _ (Array.range _)),nJ,Ds us 0 [] _ kK (by simp) (by simp [hul]),afn,nK]
  ·refine (h w.heap.size _ (Ext.alloc w _) (aew _) ⟨hl.symm,.inr ⟨Cc,w.heap.size,_,rfl,aew _,aR.new w e (vz.flatMap enc),aew _,by simp only [maxLen];omega,by simp [aQ (enc:=enc),hl],?_⟩⟩).out _ (hq.put hn _);have:(vz.flatMap enc).length=len*sz:=by rw [aQ (enc:=enc),hl]
   exact aeF (Nat.le_of_eq this)⟩
end
section
variable {P:Program} {L:Env} {w:World} {d:Option Nat} {T:TypeId} {pos:String} {af:Array Edge} {g:Option (Nat×Bool)}
end
structure IN where
 Kind:Int
 A:Int
 B:Int
 C:Int
def WG (i:Int) : Prop := -9223372036854775808<=i∧i<=9223372036854775807
structure JY (x:IN) : Prop where
 kind:WG x.Kind
 a:WG x.A
 b:WG x.B
 c:WG x.C
def GA (x:IN) : List Value:=[.int .i64 x.Kind,.int .i64 x.A,.int .i64 x.B,.int .i64 x.C]
instance:iK GA 4:=⟨fun _=>rfl,fun r u hu=>by simp [GA] at hu;rcases hu with rfl|rfl|rfl|rfl<;>rfl⟩
def Vx (r:IN) : ∀ v∈GA r,v.oneCell'=true:=iK.one (enc:=GA) r
def YH:ByteArray:=⟨#[107,52]⟩
def tR {P : α -> Prop} {l:List α} (h:∀ x∈l,P x) {i:Int} (hi : 0<=i∧i<(l.length:Int)) : ∃ (k:Nat) (hk:k<l.length),i=(k:Int)∧P l[k]:=by
 obtain ⟨k,hk⟩:=aeE hi.1;exact ⟨k,by omega,hk,h _ (aet _)⟩
def iJ (n m:Int) (hn : -9223372036854775808<=n∧n<=9223372036854775807) (hm : 0<m) : ∃ p,(0<=p∧p<m) ∧ ∀ w',bI prog 19 [.int .i64 n,.int .i64 m] w' fun v _=>v = .int .i64 p:=⟨bR n m,dk hm,fun w'=>gi n m w' hn hm⟩
def Qg (cpus:Int) (m lo:Nat) (v:Value) (w:World) : Prop := ∃ (z:fY) (l:List uU),v = .slice z.A z.n z.c∧Own w lo 81 8 sc z.A z.n z.c ([oU,jE]++l)∧(∀ x∈l,rM cpus x)∧l.length<=m
set_option maxHeartbeats 16000000 in
def Ov (cpus:Int) (A:Option Addr) (n c:Nat) (l:List IN) (w:World) (hl:Sl w 4 GA A n l) (hn:n<=9000000000000000000) (hr:∀ x∈l,JY x) (hc : 0<cpus) :
 bI prog 11 [.slice A n c,.int .i64 cpus,.int .i64 40] w fun v w'=>Qg cpus 40 w.heap.size v w':=by
 refine Wj func11 ntmps11 ?_;have hw:=Ext.refl w;have mx:=hl.len;have hlA:=hl.base;refine Wz ?_;refine SW.xb (enc:=sc) oU jE rfl rfl rfl rfl rfl rfl fun g1 w2 bq YG hO => ?_
 have hO:=hO.low hw.size;(have hw:=hw.trans bq);clear bq;refine Wz ?_
 refine CW.loop (fun s:Nat×fY×List uU=>[(0,.slice A n c),(1,.int .i64 cpus),(2,.int .i64 40),(7,.slice s.2.1.A s.2.1.n s.2.1.c),(8,.int .i64 (s.1:Int))])
  (fun s w'=>s.1<=n∧s.1<=40∧s.2.1.n=2+s.1∧s.2.2.length=s.1∧Ext w w'∧Own w' w.heap.size 81 8 sc s.2.1.A s.2.1.n s.2.1.c ([oU,jE]++s.2.2) ∧ ∀ x∈s.2.2,rM cpus x) (fun s=>n-s.1) (0,⟨some ⟨g1,0,none⟩,2,2⟩,[])
  ⟨rfl,rfl,rfl,rfl,rfl,trivial⟩ ⟨afc _,afc _,rfl,rfl,hw,hO,fun x hx=>by cases hx⟩ ?_
 clear hw hO;rintro ⟨j,z,ys⟩ w' ⟨hj,Zz,hz,hy,hw,hO,hR⟩
 simp only at hj Zz hz hy hO hR ⊢;by_cases my:j<n∧j<40
 ·obtain ⟨p7,acB⟩:=my;have pZ:j<l.length:=by omega
  obtain ⟨x,ex⟩ : ∃ x,l[j]=x:=⟨_,rfl⟩;have hx:=hr _ (aet pZ);rw [ex] at hx;obtain ⟨⟨hK1,S9⟩,⟨pr,GZ⟩,⟨hB1,qO⟩,⟨Ta,Ce⟩⟩:=hx;have fc:=hl.all p7;rw [ex] at fc;obtain ⟨K,A1,B1,C1⟩:=x;simp only at hK1 S9 pr GZ hB1 qO Ta Ce;repeat' (first|refine Wz ?_|refine Wo hw fc ?_)
  refine SW.alloc rfl fun b9 w1 ah oz bF => ?_
  skip;refine Wg bF (Vx ⟨K,A1,B1,C1⟩) fun w2 j5 hg => ?_
  have ar:=ah.own oz hg;have sy:=hw.up oz
  obtain ⟨hw,hO⟩:=cT ar hw hO;have bF:=j5;clear j5 ah hg ar;repeat' (first|refine Wz ?_|(refine Wk (gi B1 cpus _ ⟨hB1,qO⟩ hc) ?_;intro v w1 ah hv;subst hv;obtain ⟨hw,bF,hO⟩:=cd ah hw bF hO;clear ah))
  obtain ⟨cpu,YI⟩ : ∃ q,bR B1 cpus=q:=⟨_,rfl⟩;rw [YI];have l9:=bF.lt;refine SW.alloc rfl fun oF w1 ah nb aC => ?_
  skip;refine Wg aC (Q7 ⟨0,cpu,0,0,0,0,⟨#[]⟩⟩) fun w2 bA hg => ?_
  have ar:=ah.own nb hg;have il:=hw.up nb
  obtain ⟨hw,bF,hO⟩:=cd ar hw bF hO;have aC:=bA;clear bA ah hg ar;have acC:b9≠oF:=by omega
  clear l9;refine Wz ?_;refine Wk (gi K 24 _ ⟨hK1,S9⟩ (by decide)) fun v w5 oX hv => ?_
  subst hv;(obtain ⟨hw,bF,aC,hO⟩:=dJ oX hw bF aC hO);clear oX;have hk:=dk (n:=K) (m:=24) (by omega);obtain ⟨k,ek⟩ : ∃ q,bR K 24=q:=⟨_,rfl⟩;rw [ek] at hk ⊢;refine SW.pure rfl rfl (SW.nil (ae.seq ?_));obtain ⟨KK,BR⟩ : ∃ KK:Env->World->Prop,KK=fun L' w' => ∃ a o,iM L' [(0,.slice A n c),(1,.int .i64 cpus),(2,.int .i64 40),(7,.slice z.A z.n z.c),(8,.int .i64 (j:Int)),(10,.pointer (some ⟨oF,0,none⟩)),(11,.int .i64 o)]∧Ext w w'∧aR w' oF 35 (dZ a)∧Own w' w.heap.size 81 8 sc z.A z.n z.c ([oU,jE]++ys)∧rM cpus ⟨a,o⟩:=⟨_,rfl⟩
  refine CW.block (CW.J5 KK ?_ ?_)
  ·rcases (show k<5∨(5<=k∧k<9)∨k=9∨(10<=k∧k<13)∨(13<=k∧k<16)∨(16<=k∧k<18)∨k=18∨k=19∨k=20∨(21<=k∧k<23)∨k=23 by omega) with h|h|h|h|h|h|h|h|h|h|h
   ·obtain ⟨q,hq,cC⟩:=iJ C1 3 ⟨Ta,Ce⟩ (by decide);obtain ⟨ls,Dt⟩ : ∃ ls:List Int,[4,40,140]=ls:=⟨_,rfl⟩;have EL:∀ x∈ls,x=4∨x=40∨x=140:=by rw [<- Dt];intro x hx;simpa using hx
    have WH:ls.length=3:=by rw [<- Dt];rfl
    obtain ⟨i,hi,rfl,hm⟩:=tR EL (i:=q) (by omega);obtain ⟨LF,uW⟩ : ∃ x,ls[i]=x:=⟨_,rfl⟩;rw [uW] at hm;have cx:i<3:=by omega
    obtain ⟨p,hp,cA⟩:=iJ A1 LF ⟨pr,GZ⟩ (by omega);refine Wz ?_;refine Wb (i:=0) aC fun iZ bA dB => ?_
    have eE:=aC.gr dB;have hw:=hw.own il dB;(obtain ⟨bF,hO⟩:=cT eE bF hO);have aC:aR _ oF 35 (dZ ⟨8,cpu,0,0,0,0,⟨#[]⟩⟩):=bA;clear bA eE dB;refine Wz ?_
    focus
     refine CW.any 9 mixed (db (by kernel_rfl)) rfl fun w1 ah aI => ?_
     obtain ⟨hw,bF,aC,hO⟩:=dJ ah hw bF aC hO;clear ah;refine Wa ?_;refine SA.two 2 5 rfl rfl (by kernel_rfl) rfl rfl ?_ ?_
     focus
      refine SW.th (enc:=bt) (xs:=[.const (.int .i64 4),.const (.int .i64 40),.const (.int .i64 140)]) [4,40,140] rfl rfl rfl rfl rfl rfl rfl rfl fun g3 w9 ar Vy hL => ?_
      rw [Dt] at hL;have OS:=hL.sl.base;(obtain ⟨hw,bF,aC,hO⟩:=dJ ar hw bF aC hO);refine SW.nil (ae.sa ar ?_);refine SA.bZ 5 ?_;refine Wk (cC _) fun v w5 ar hv => ?_
      subst hv;(try have hL:=hL.ext ar);(obtain ⟨hw,bF,aC,hO⟩:=dJ ar hw bF aC hO);refine SW.nil (ae.sa ar ?_);refine Wa ?_;refine Wu 7 aI rfl (aP rfl (hL.sl.one cx (congrArg bt uW))) ?_;refine SA.bZ 8 ?_;refine Wk (cA _) fun v w5 ar hv => ?_
      subst hv;(obtain ⟨hw,bF,aC,hO,hL⟩:=fH ar hw bF aC hO hL);refine SW.nil (ae.sa ar ?_)
     rotate_left
     focus
      refine Wk (cC _) fun v w5 ar hv => ?_
      subst hv;(try have hL:=hL.ext ar);(obtain ⟨hw,bF,aC,hO⟩:=dJ ar hw bF aC hO);refine SW.nil (ae.sa ar ?_);refine SA.bZ 2 ?_;refine SW.th (enc:=bt) (xs:=[.const (.int .i64 4),.const (.int .i64 40),.const (.int .i64 140)]) [4,40,140] rfl rfl rfl rfl rfl rfl rfl rfl fun g3 w9 ar Vy hL => ?_
      rw [Dt] at hL;have OS:=hL.sl.base;(obtain ⟨hw,bF,aC,hO⟩:=dJ ar hw bF aC hO);refine SW.nil (ae.sa ar ?_);refine Wa ?_;refine Wu 7 aI rfl (aP rfl (hL.sl.one cx (congrArg bt uW))) ?_;refine SA.bZ 8 ?_;refine Wk (cA _) fun v w5 ar hv => ?_
      subst hv;(obtain ⟨hw,bF,aC,hO,hL⟩:=fH ar hw bF aC hO hL);refine SW.nil (ae.sa ar ?_)
     rotate_left
     all_goals
      refine SA.fZ ?_;refine Wz ?_;refine Wb (i:=2) aC fun iZ bA dB => ?_
      have eE:=aC.gr dB;have hw:=hw.own il dB;(obtain ⟨bF,hO⟩:=cT eE bF hO);have aC:aR _ oF 35 (dZ ⟨8,cpu,(1+p),0,0,0,⟨#[]⟩⟩):=bA;clear bA eE dB;refine Wz ?_;exact ae.mD (K:=KK) (by rw [BR];exact ⟨⟨8,cpu,(1+p),0,0,0,⟨#[]⟩⟩,0,⟨rfl,rfl,rfl,rfl,rfl,rfl,rfl,trivial⟩,hw,aC,hO,.fL (by omega)⟩)
   ·obtain ⟨p,hp,cA⟩:=iJ A1 9 ⟨pr,GZ⟩ (by decide);refine Wz ?_;refine Wb (i:=0) aC fun iZ bA dB => ?_
    have eE:=aC.gr dB;have hw:=hw.own il dB;(obtain ⟨bF,hO⟩:=cT eE bF hO);have aC:aR _ oF 35 (dZ ⟨9,cpu,0,0,0,0,⟨#[]⟩⟩):=bA;clear bA eE dB;repeat' (first|refine Wz ?_|(refine Wk (cA _) ?_;intro v w1 ah hv;subst hv;obtain ⟨hw,bF,aC,hO⟩:=dJ ah hw bF aC hO;clear ah))
    exact ae.mD (K:=KK) (by rw [BR];exact ⟨⟨9,cpu,0,0,0,0,⟨#[]⟩⟩,1+p,⟨rfl,rfl,rfl,rfl,rfl,rfl,rfl,trivial⟩,hw,aC,hO,.kW (by omega)⟩)
   ·obtain ⟨p,hp,cA⟩:=iJ A1 60 ⟨pr,GZ⟩ (by decide);obtain ⟨q,hq,cC⟩:=iJ C1 6 ⟨Ta,Ce⟩ (by decide);refine Wz ?_;refine Wb (i:=0) aC fun iZ bA dB => ?_
    have eE:=aC.gr dB;have hw:=hw.own il dB;(obtain ⟨bF,hO⟩:=cT eE bF hO);have aC:aR _ oF 35 (dZ ⟨11,cpu,0,0,0,0,⟨#[]⟩⟩):=bA;clear bA eE dB;repeat' (first|refine Wz ?_|(refine Wk (cA _) ?_;intro v w1 ah hv;subst hv;obtain ⟨hw,bF,aC,hO⟩:=dJ ah hw bF aC hO;clear ah))
    refine Wb (i:=2) aC fun iZ bA dB => ?_
    have eE:=aC.gr dB;have hw:=hw.own il dB;(obtain ⟨bF,hO⟩:=cT eE bF hO);have aC:aR _ oF 35 (dZ ⟨11,cpu,(1+p),0,0,0,⟨#[]⟩⟩):=bA;clear bA eE dB;repeat' (first|refine Wz ?_|(refine Wk (cC _) ?_;intro v w1 ah hv;subst hv;obtain ⟨hw,bF,aC,hO⟩:=dJ ah hw bF aC hO;clear ah))
    exact ae.mD (K:=KK) (by rw [BR];exact ⟨⟨11,cpu,(1+p),0,0,0,⟨#[]⟩⟩,1+q,⟨rfl,rfl,rfl,rfl,rfl,rfl,rfl,trivial⟩,hw,aC,hO,.eA (by omega) (by omega)⟩)
   ·obtain ⟨p,hp,cA⟩:=iJ A1 5 ⟨pr,GZ⟩ (by decide);obtain ⟨q,hq,cC⟩:=iJ C1 7 ⟨Ta,Ce⟩ (by decide);obtain ⟨ls,Dt⟩ : ∃ ls:List Int,[0,2,4,1,8,3,10]=ls:=⟨_,rfl⟩;have EL:∀ x∈ls,x∈([0,2,4,1,8,3,10] : List Int):=by rw [<- Dt];intro x hx;simpa using hx
    have WH:ls.length=7:=by rw [<- Dt];rfl
    obtain ⟨i,hi,rfl,hm⟩:=tR EL (i:=q) (by omega);obtain ⟨LF,uW⟩ : ∃ x,ls[i]=x:=⟨_,rfl⟩;rw [uW] at hm;have cx:i<7:=by omega
    refine Wz ?_;refine Wb (i:=0) aC fun iZ bA dB => ?_
    have eE:=aC.gr dB;have hw:=hw.own il dB;(obtain ⟨bF,hO⟩:=cT eE bF hO);have aC:aR _ oF 35 (dZ ⟨1,cpu,0,0,0,0,⟨#[]⟩⟩):=bA;clear bA eE dB;repeat' (first|refine Wz ?_|(refine Wk (cA _) ?_;intro v w1 ah hv;subst hv;obtain ⟨hw,bF,aC,hO⟩:=dJ ah hw bF aC hO;clear ah))
    refine Wb (i:=2) aC fun iZ bA dB => ?_
    have eE:=aC.gr dB;have hw:=hw.own il dB;(obtain ⟨bF,hO⟩:=cT eE bF hO);have aC:aR _ oF 35 (dZ ⟨1,cpu,p,0,0,0,⟨#[]⟩⟩):=bA;clear bA eE dB;refine Wz ?_;refine SW.th (enc:=bt) (xs:=[.const (.int .i64 0),.const (.int .i64 2),.const (.int .i64 4),.const (.int .i64 1),.const (.int .i64 8),.const (.int .i64 3),.const (.int .i64 10)]) [0,2,4,1,8,3,10] rfl rfl rfl rfl rfl rfl rfl rfl fun g3 w9 ar Vy hL => ?_
    rw [Dt] at hL;have OS:=hL.sl.base;(obtain ⟨hw,bF,aC,hO⟩:=dJ ar hw bF aC hO);clear ar;repeat' (first|refine Wz ?_|refine Wl (hL.sl.one cx (congrArg bt uW)) ?_|(refine Wk (cC _) ?_;intro v w1 ah hv;subst hv;obtain ⟨hw,bF,aC,hO,hL⟩:=fH ah hw bF aC hO hL;clear ah))
    refine Wb (i:=5) aC fun iZ bA dB => ?_
    have eE:=aC.gr dB;have hw:=hw.own il dB;(obtain ⟨bF,hO⟩:=cT eE bF hO);have aC:aR _ oF 35 (dZ ⟨1,cpu,p,0,0,LF,⟨#[]⟩⟩):=bA;clear bA eE dB;refine Wz ?_;exact ae.mD (K:=KK) (by rw [BR];exact ⟨⟨1,cpu,p,0,0,LF,⟨#[]⟩⟩,0,⟨rfl,rfl,rfl,rfl,rfl,rfl,rfl,trivial⟩,hw,aC,hO,.bD (by omega)⟩)
   ·obtain ⟨p,hp,cA⟩:=iJ A1 9 ⟨pr,GZ⟩ (by decide);refine Wz ?_;refine Wb (i:=0) aC fun iZ bA dB => ?_
    have eE:=aC.gr dB;have hw:=hw.own il dB;(obtain ⟨bF,hO⟩:=cT eE bF hO);have aC:aR _ oF 35 (dZ ⟨2,cpu,0,0,0,0,⟨#[]⟩⟩):=bA;clear bA eE dB;repeat' (first|refine Wz ?_|(refine Wk (cA _) ?_;intro v w1 ah hv;subst hv;obtain ⟨hw,bF,aC,hO⟩:=dJ ah hw bF aC hO;clear ah))
    exact ae.mD (K:=KK) (by rw [BR];exact ⟨⟨2,cpu,0,0,0,0,⟨#[]⟩⟩,1+p,⟨rfl,rfl,rfl,rfl,rfl,rfl,rfl,trivial⟩,hw,aC,hO,.nX (by omega)⟩)
   ·obtain ⟨q,hq,cA⟩:=iJ A1 2 ⟨pr,GZ⟩ (by decide);obtain ⟨ls,Dt⟩ : ∃ ls:List ByteArray,[nt,dN]=ls:=⟨_,rfl⟩;have EL:∀ x∈ls,x=nt∨x=dN:=by rw [<- Dt];intro x hx;simpa using hx
    have WH:ls.length=2:=by rw [<- Dt];rfl
    obtain ⟨i,hi,rfl,hm⟩:=tR EL (i:=q) (by omega);obtain ⟨LF,uW⟩ : ∃ x,ls[i]=x:=⟨_,rfl⟩;rw [uW] at hm;have cx:i<2:=by omega
    refine Wz ?_;refine Wb (i:=0) aC fun iZ bA dB => ?_
    have eE:=aC.gr dB;have hw:=hw.own il dB;(obtain ⟨bF,hO⟩:=cT eE bF hO);have aC:aR _ oF 35 (dZ ⟨5,cpu,0,0,0,0,⟨#[]⟩⟩):=bA;clear bA eE dB;refine Wz ?_;refine SW.th (enc:=encStr) (xs:=[.const (.string ⟨#[111,98]⟩),.const (.string ⟨#[112,97,105,114]⟩)]) [nt,dN] rfl rfl rfl rfl rfl rfl rfl rfl fun g3 w9 ar Vy hL => ?_
    rw [Dt] at hL;have OS:=hL.sl.base;(obtain ⟨hw,bF,aC,hO⟩:=dJ ar hw bF aC hO);clear ar;repeat' (first|refine Wz ?_|refine Wl (hL.sl.one cx (congrArg encStr uW)) ?_|(refine Wk (cA _) ?_;intro v w1 ah hv;subst hv;obtain ⟨hw,bF,aC,hO,hL⟩:=fH ah hw bF aC hO hL;clear ah))
    refine Wb (i:=6) aC fun iZ bA dB => ?_
    have eE:=aC.gr dB;have hw:=hw.own il dB;(obtain ⟨bF,hO⟩:=cT eE bF hO);have aC:aR _ oF 35 (dZ ⟨5,cpu,0,0,0,0,LF⟩):=bA;clear bA eE dB;refine Wz ?_;exact ae.mD (K:=KK) (by rw [BR];exact ⟨⟨5,cpu,0,0,0,0,LF⟩,0,⟨rfl,rfl,rfl,rfl,rfl,rfl,rfl,trivial⟩,hw,aC,hO,.new hm⟩)
   ·obtain ⟨q,hq,cC⟩:=iJ C1 2 ⟨Ta,Ce⟩ (by decide);obtain ⟨p,hp,cA⟩:=iJ A1 9 ⟨pr,GZ⟩ (by decide);obtain ⟨ls,Dt⟩ : ∃ ls:List ByteArray,[nt,dN]=ls:=⟨_,rfl⟩;have EL:∀ x∈ls,x=nt∨x=dN:=by rw [<- Dt];intro x hx;simpa using hx
    have WH:ls.length=2:=by rw [<- Dt];rfl
    obtain ⟨i,hi,rfl,hm⟩:=tR EL (i:=q) (by omega);obtain ⟨LF,uW⟩ : ∃ x,ls[i]=x:=⟨_,rfl⟩;rw [uW] at hm;have cx:i<2:=by omega
    refine Wz ?_;refine Wb (i:=0) aC fun iZ bA dB => ?_
    have eE:=aC.gr dB;have hw:=hw.own il dB;(obtain ⟨bF,hO⟩:=cT eE bF hO);have aC:aR _ oF 35 (dZ ⟨6,cpu,0,0,0,0,⟨#[]⟩⟩):=bA;clear bA eE dB;refine Wz ?_;refine SW.th (enc:=encStr) (xs:=[.const (.string ⟨#[111,98]⟩),.const (.string ⟨#[112,97,105,114]⟩)]) [nt,dN] rfl rfl rfl rfl rfl rfl rfl rfl fun g3 w9 ar Vy hL => ?_
    rw [Dt] at hL;have OS:=hL.sl.base;(obtain ⟨hw,bF,aC,hO⟩:=dJ ar hw bF aC hO);clear ar;repeat' (first|refine Wz ?_|refine Wl (hL.sl.one cx (congrArg encStr uW)) ?_|(refine Wk (cC _) ?_;intro v w1 ah hv;subst hv;obtain ⟨hw,bF,aC,hO,hL⟩:=fH ah hw bF aC hO hL;clear ah))
    refine Wb (i:=6) aC fun iZ bA dB => ?_
    have eE:=aC.gr dB;have hw:=hw.own il dB;(obtain ⟨bF,hO⟩:=cT eE bF hO);have aC:aR _ oF 35 (dZ ⟨6,cpu,0,0,0,0,LF⟩):=bA;clear bA eE dB;repeat' (first|refine Wz ?_|(refine Wk (cA _) ?_;intro v w1 ah hv;subst hv;obtain ⟨hw,bF,aC,hO⟩:=dJ ah hw bF aC hO;clear ah))
    exact ae.mD (K:=KK) (by rw [BR];exact ⟨⟨6,cpu,0,0,0,0,LF⟩,1+p,⟨rfl,rfl,rfl,rfl,rfl,rfl,rfl,trivial⟩,hw,aC,hO,.drop hm (by omega)⟩)
   ·obtain ⟨q,hq,cA⟩:=iJ A1 2 ⟨pr,GZ⟩ (by decide);obtain ⟨r,hr,cC⟩:=iJ C1 3 ⟨Ta,Ce⟩ (by decide);obtain ⟨ks,YJ⟩ : ∃ ls:List Int,[12,7]=ls:=⟨_,rfl⟩;have pY:∀ x∈ks,x=12∨x=7:=by rw [<- YJ];intro x hx;simpa using hx
    have nks:ks.length=2:=by rw [<- YJ];rfl
    obtain ⟨i,hi,rfl,hm⟩:=tR pY (i:=q) (by omega);obtain ⟨YK,Vz⟩ : ∃ x,ks[i]=x:=⟨_,rfl⟩;rw [Vz] at hm;have cx:i<2:=by omega
    obtain ⟨ls,Dt⟩ : ∃ ls:List ByteArray,[nt,dN,YH]=ls:=⟨_,rfl⟩;have EL:∀ x∈ls,x=nt∨x=dN∨x=YH:=by rw [<- Dt];intro x hx;simpa using hx
    have WH:ls.length=3:=by rw [<- Dt];rfl
    obtain ⟨j2,Z3,rfl,xm⟩:=tR EL (i:=r) (by omega);obtain ⟨LF,uW⟩ : ∃ x,ls[j2]=x:=⟨_,rfl⟩;rw [uW] at xm;have YL:j2<3:=by omega
    refine Wz ?_;refine SW.th (enc:=bt) (xs:=[.const (.int .i64 12),.const (.int .i64 7)]) [12,7] rfl rfl rfl rfl rfl rfl rfl rfl fun g3 w9 ar Vy hL => ?_
    rw [YJ] at hL;have OS:=hL.sl.base;(obtain ⟨hw,bF,aC,hO⟩:=dJ ar hw bF aC hO);clear ar;repeat' (first|refine Wz ?_|refine Wl (hL.sl.one cx (congrArg bt Vz)) ?_|(refine Wk (cA _) ?_;intro v w1 ah hv;subst hv;obtain ⟨hw,bF,aC,hO,hL⟩:=fH ah hw bF aC hO hL;clear ah))
    refine Wb (i:=0) aC fun iZ bA dB => ?_
    have eE:=aC.gr dB;have hw:=hw.own il dB;(obtain ⟨bF,hO⟩:=cT eE bF hO);have aC:aR _ oF 35 (dZ ⟨YK,cpu,0,0,0,0,⟨#[]⟩⟩):=bA;clear bA eE dB;clear hL OS;refine Wz ?_;refine SW.th (enc:=encStr) (xs:=[.const (.string ⟨#[111,98]⟩),.const (.string ⟨#[112,97,105,114]⟩),.const (.string ⟨#[107,52]⟩)]) [nt,dN,YH] rfl rfl rfl rfl rfl rfl rfl rfl fun g4 w9 ar g4b hL => ?_
    rw [Dt] at hL;have OS:=hL.sl.base;(obtain ⟨hw,bF,aC,hO⟩:=dJ ar hw bF aC hO);clear ar;repeat' (first|refine Wz ?_|refine Wl (hL.sl.one YL (congrArg encStr uW)) ?_|(refine Wk (cC _) ?_;intro v w1 ah hv;subst hv;obtain ⟨hw,bF,aC,hO,hL⟩:=fH ah hw bF aC hO hL;clear ah))
    refine Wb (i:=6) aC fun iZ bA dB => ?_
    have eE:=aC.gr dB;have hw:=hw.own il dB;(obtain ⟨bF,hO⟩:=cT eE bF hO);have aC:aR _ oF 35 (dZ ⟨YK,cpu,0,0,0,0,LF⟩):=bA;clear bA eE dB;refine Wz ?_;exact ae.mD (K:=KK) (by rw [BR];exact ⟨⟨YK,cpu,0,0,0,0,LF⟩,0,⟨rfl,rfl,rfl,rfl,rfl,rfl,rfl,trivial⟩,hw,aC,hO,.tidy hm (by rcases xm with e|e|e<;>(rw [e];decide))⟩)
   ·obtain ⟨p,hp,cA⟩:=iJ A1 30 ⟨pr,GZ⟩ (by decide);refine Wz ?_;refine Wb (i:=0) aC fun iZ bA dB => ?_
    have eE:=aC.gr dB;have hw:=hw.own il dB;(obtain ⟨bF,hO⟩:=cT eE bF hO);have aC:aR _ oF 35 (dZ ⟨15,cpu,0,0,0,0,⟨#[]⟩⟩):=bA;clear bA eE dB;refine Wz ?_;refine Wb (i:=6) aC fun iZ bA dB => ?_
    have eE:=aC.gr dB;have hw:=hw.own il dB;(obtain ⟨bF,hO⟩:=cT eE bF hO);have aC:aR _ oF 35 (dZ ⟨15,cpu,0,0,0,0,nt⟩):=bA;clear bA eE dB;repeat' (first|refine Wz ?_|(refine Wk (cA _) ?_;intro v w1 ah hv;subst hv;obtain ⟨hw,bF,aC,hO⟩:=dJ ah hw bF aC hO;clear ah))
    refine Wb (i:=2) aC fun iZ bA dB => ?_
    have eE:=aC.gr dB;have hw:=hw.own il dB;(obtain ⟨bF,hO⟩:=cT eE bF hO);have aC:aR _ oF 35 (dZ ⟨15,cpu,(1+p),0,0,0,nt⟩):=bA;clear bA eE dB;refine Wz ?_;exact ae.mD (K:=KK) (by rw [BR];exact ⟨⟨15,cpu,(1+p),0,0,0,nt⟩,0,⟨rfl,rfl,rfl,rfl,rfl,rfl,rfl,trivial⟩,hw,aC,hO,.bulk (by omega)⟩)
   ·obtain ⟨q,hq,cC⟩:=iJ C1 1000 ⟨Ta,Ce⟩ (by decide);obtain ⟨p,hp,cA⟩:=iJ A1 9 ⟨pr,GZ⟩ (by decide);refine Wz ?_;refine Wb (i:=0) aC fun iZ bA dB => ?_
    have eE:=aC.gr dB;have hw:=hw.own il dB;(obtain ⟨bF,hO⟩:=cT eE bF hO);have aC:aR _ oF 35 (dZ ⟨13,cpu,0,0,0,0,⟨#[]⟩⟩):=bA;clear bA eE dB;repeat' (first|refine Wz ?_|(refine Wk (cC _) ?_;intro v w1 ah hv;subst hv;obtain ⟨hw,bF,aC,hO⟩:=dJ ah hw bF aC hO;clear ah))
    refine Wb (i:=3) aC fun iZ bA dB => ?_
    have eE:=aC.gr dB;have hw:=hw.own il dB;(obtain ⟨bF,hO⟩:=cT eE bF hO);have aC:aR _ oF 35 (dZ ⟨13,cpu,0,q,0,0,⟨#[]⟩⟩):=bA;clear bA eE dB;repeat' (first|refine Wz ?_|(refine Wk (cA _) ?_;intro v w1 ah hv;subst hv;obtain ⟨hw,bF,aC,hO⟩:=dJ ah hw bF aC hO;clear ah))
    exact ae.mD (K:=KK) (by rw [BR];exact ⟨⟨13,cpu,0,q,0,0,⟨#[]⟩⟩,1+p,⟨rfl,rfl,rfl,rfl,rfl,rfl,rfl,trivial⟩,hw,aC,hO,.write (by omega) (by omega)⟩)
   ·obtain ⟨p,hp,cA⟩:=iJ A1 9 ⟨pr,GZ⟩ (by decide);refine Wz ?_;refine Wb (i:=0) aC fun iZ bA dB => ?_
    have eE:=aC.gr dB;have hw:=hw.own il dB;(obtain ⟨bF,hO⟩:=cT eE bF hO);have aC:aR _ oF 35 (dZ ⟨14,cpu,0,0,0,0,⟨#[]⟩⟩):=bA;clear bA eE dB;repeat' (first|refine Wz ?_|(refine Wk (cA _) ?_;intro v w1 ah hv;subst hv;obtain ⟨hw,bF,aC,hO⟩:=dJ ah hw bF aC hO;clear ah))
    exact ae.mD (K:=KK) (by rw [BR];exact ⟨⟨14,cpu,0,0,0,0,⟨#[]⟩⟩,1+p,⟨rfl,rfl,rfl,rfl,rfl,rfl,rfl,trivial⟩,hw,aC,hO,.read (by omega)⟩)
  ·clear hw bF aC hO;subst BR;rintro L' w' ⟨a,o,jc,hw,aC,hO,hx⟩
   refine ae.sub jc ?_;refine Wz ?_;refine SW.dR rfl rfl rfl rfl rfl fun acD w9 tQ YM VA => ?_
   (obtain ⟨hw,hO⟩:=cT tQ hw hO);clear tQ;refine SW.append hO (aR.wv (enc:=sc) (x:=⟨a,o⟩) VA) hw.size rfl rfl rfl (by omega) (by omega) fun Y f oP lO hg => ?_
   have hw:=aD hw hg (aew _) hO.aW;clear hO hg;rw [aey] at lO;refine Wz ?_
   exact ae.again (j+1,⟨Y,z.n+1,f⟩,ys++[⟨a,o⟩]) ⟨rfl,rfl,rfl,rfl,rfl,trivial⟩ (by simp only;omega) ⟨by simp only;omega,by simp only;omega,by simp only;omega,by simp [hy],hw,lO,fun x pe=>by
    rcases aeC.1 pe with h|h
    ·exact hR x h
    ·simp only [List.mem_singleton] at h;rw [h];exact hx⟩
 ·repeat' (first|refine Wz ?_|refine SW.gp rfl rfl rfl (fun h => ?_) (fun h => ?_))
  all_goals try omega
  all_goals exact ae.bh rfl rfl ⟨_,rfl,hw,z,ys,rfl,hO,hR,by omega⟩
set_option maxRecDepth 100000
open Go.ChangeShapes Go.WideShapes Go.ChangeAt Go.RowKit Go.Deep Go.Joins
variable {H:Type} {held:Bool} {fuel:Nat} {spare:Nat->Bool} {W:World}
def Tb {enc:TypeId×Value->H} {base:Nat} {x:DataW H×List MemPlace}
 (h:DataW.trod enc prog W base spare held fuel 85 cs=some x) : ∃ r:IN,cs=GA r∧JY r:=by
 obtain ⟨xs,n,_,_,hlen,od,hf⟩:=DataW.trod_struct Tryz.underlying85 h;have hc:prog.cellsOf 85=4:=by kernel_rfl
 have hi:prog.cellsOf 3=1:=by kernel_rfl
 rw [hc] at hlen
 match cs,hlen with
 | [c0,c1,c2,c3],_ =>
   match xs,od with
   | [y0,y1,y2,y3],_ =>
     have h0:DataW.trod enc prog W base spare held n 3 (List.take (prog.cellsOf 3) (List.drop 0 [c0,c1,c2,c3]))=some y0:=hf 0 _ rfl
     have h1:DataW.trod enc prog W base spare held n 3 (List.take (prog.cellsOf 3) (List.drop 1 [c0,c1,c2,c3]))=some y1:=hf 1 _ rfl
     have h2:DataW.trod enc prog W base spare held n 3 (List.take (prog.cellsOf 3) (List.drop 2 [c0,c1,c2,c3]))=some y2:=hf 2 _ rfl
     have h3:DataW.trod enc prog W base spare held n 3 (List.take (prog.cellsOf 3) (List.drop 3 [c0,c1,c2,c3]))=some y3:=hf 3 _ rfl
     rw [hi] at h0 h1 h2 h3;obtain ⟨a,ha,wa⟩:=Eg Tryz.underlying3 h0;obtain ⟨b,hb,wb⟩:=Eg Tryz.underlying3 h1;obtain ⟨c,XO,wc⟩:=Eg Tryz.underlying3 h2;obtain ⟨d,hd,wd⟩:=Eg Tryz.underlying3 h3;simp [bt] at ha hb XO hd;subst ha hb XO hd;exact ⟨⟨a,b,c,d⟩,rfl,⟨wa,wb,wc,wd⟩⟩
structure Start (s:ag) : Prop where
 sys:dy s
 bare:yD s
 shape:j9 s=kI
def Ph.sys {l:List bU} (h:Ph s0 j s l) (h0:Start s0) : dy s:=by
 cases h with
 | p0=>exact h0.sys
 | p1 _ h _ _=>exact h
 | go _ h=>exact h.sys
structure VB (s0:ag) (j:Nat) (s:ag) (l:List bU) (x:uU) : Prop where
 free : ¬ 0<x.Of->pX s0 j s l x.act (-1)
 top:x.Of<=9
 pass : 0<x.Of->Ph s0 (j+1) s l
 at_:∀ (i:Nat) (hi:i<l.length),0<=l[i].At∧l[i].At<=100000
 pick : 0<x.Of -> ∀ (i:Nat) (hi:i<l.length),Bt x.act l[i]->pX s0 j s l (dA x.act (tg x.act l[i])) (i:Int)
def asked {l:List bU} {l':List uU} (hP:Ph s0 j s l) (h0:Start s0) (hR:∀ x∈l',rM cpus x) {x:uU} (hj:j<([oU,jE]++l').length) (hx:([oU,jE]++l')[j]=x) : VB s0 j s l x:=by
 cases hP with
 | p0 =>
   have e:oU=x:=hx
   subst e;exact ⟨fun _=>Oj h0.sys h0.bare h0.shape,by decide,fun h=>absurd h (by decide),(fun i hi=>by cases hi),fun h=>absurd h (by decide)⟩
 | p1 hc hI hb hs =>
   have e:jE=x:=hx
   subst e;exact ⟨fun _=>Ok hc hI hb hs,by decide,fun h=>absurd h (by decide),(fun i hi=>by cases hi),fun h=>absurd h (by decide)⟩
 | go h2 ho =>
   have hm:rM cpus x:=by
    refine hR x ?_;rw [<- hx,agz (by simpa using h2)];exact aet _
   refine ⟨fun h=>Ol h2 ho hm h,?_,fun _ => .go (by omega) ho,fun i hi => ?_,fun h i hi hp=>Om h2 ho hm h hi hp⟩
   ·cases hm<;>simp only<;>omega
   ·obtain ⟨q,hq⟩:=ho.fits _ (aet hi);have:=fi ho.sys.may hq.nA
    omega
def LG (A:Option Addr) (n c:Nat) (l:List Int) (x y:Int) (w:World) (hl:Sl w 1 bt A n l) (hn:n*8<=140737488355328) :
 bI prog 70 [.slice A n c,.int .i64 x,.int .i64 y] w fun v w' =>
  if 0<=x∧x<n then ∃ A c,v = .tuple #[.slice A n c,.int .i64 0]∧Own w' w.heap.size 3 1 bt A n c (l.set x.toNat y) else v = .tuple #[.slice none 0 0,.int .i64 1]:=by
 refine Wj func70 ntmps70 ?_;have hw:=Ext.refl w;have kA:n<=2305843009213693952:=by omega
 by_cases hx : 0<=x∧x<n
 ·obtain ⟨k,rfl⟩:=aeE hx.1;have hk:k<n:=by omega
  repeat' (first|refine Wz ?_|(refine Wk (qW _ _ _ _ _ _ kA) ?_;intro v w1 ah hv;subst hv;have hw:=hw.trans ah;clear ah))
  refine Wk (dC _ _ _ _ _ (hl.ext hw) hn) fun v w1 ah hv => ?_
  obtain ⟨A1,c1,rfl,hO⟩:=hv;have dt:=hw.size;have hw:=hw.trans ah;have pr:=hO.sl.base;refine Wz ?_;refine SW.qT k hO rfl rfl hk fun w2 bg hg => ?_
  have hw:=aD hw hg dt hO.aW;refine Wz ?_;refine ae.dl rfl rfl rfl ⟨_,rfl,hw,?_⟩;rw [if_pos hx];exact ⟨A1,c1,rfl,Own.low bg dt⟩
 ·repeat' (first|refine Wz ?_|(refine Wk (qW _ _ _ _ _ _ kA) ?_;intro v w1 ah hv;subst hv;have hw:=hw.trans ah;clear ah))
  refine ae.dl rfl rfl rfl ⟨_,rfl,hw,?_⟩;rw [if_neg hx]
def Qh (t:Int) (b8:Nat) (x:Block) (w:World) (h8:aR w b8 3 [.int .i64 t]) (hx : 0<=x.At∧x.At<=255) (ho : 0<=x.Order∧x.Order<=4) :
 bI prog 124 ([.agg (aO x).toArray]++[.pointer (some ⟨b8,0,none⟩)]) w fun v _=>v = .bool (decide (x.At<=t) && decide (t<x.At+pw x.Order)):=by
 refine Wj func124 ntmps124 ?_;refine Ww fun b2 w1 hw eW aq => ?_;have h8:=h8.ext hw;have AQ:=h8.cell (i:=0) (v := .int .i64 t) rfl;rw [add_zero] at AQ;have hp:=cM ho.1 ho.2;by_cases h1:x.At<=t
 ·repeat' (first|refine Wz ?_|((apply CW.bH mixed;(· kernel_rfl);rotate_left;intro w1 ah;obtain ⟨hw,aq,h8⟩:=cd ah hw aq h8;clear ah;rotate_right))|refine Wl AQ ?_|(refine SW.st (fO (r:=pw x.Order) rfl rfl (by omega) (by omega) (by simp [pw]) (by omega) (by omega)) rfl ?_)|exact SW.eU rfl)
  exact ae.bh rfl rfl ⟨_,rfl,hw,by simp [h1]⟩
 ·repeat' (first|refine Wz ?_|((apply CW.bH mixed;(· kernel_rfl);rotate_left;intro w1 ah;obtain ⟨hw,aq,h8⟩:=cd ah hw aq h8;clear ah;rotate_right))|refine Wl AQ ?_|exact SW.eU rfl)
  exact ae.bh rfl rfl ⟨_,rfl,hw,by simp [h1]⟩
set_option maxHeartbeats 4000000 in
def IP (r:de) (s:ag) (a:Int) (w:World) (hr:zU w r s) (hf:s.cS) (hM:aA s) (ha : -9223372036854775808<=a∧a<=9223372036854775807) :
 bI prog 69 [.agg (aK r).toArray,.int .i64 a] w fun v _ => ∃ b,gu s a b∧v = .bool b:=by
 refine Wj func69 ntmps69 ?_;refine Ww fun b2 w1 hw eW aq => ?_;have hs:=hf.small;obtain ⟨cs,hc⟩:=hr.bo;obtain ⟨z1,z2⟩:=hc.len;have wl:=hr.words.len;have m1:=hs.words;have m3:=hs.bo;by_cases hb : 0<=a∧a<s.Words.length
 rotate_left
 ·have kK:a<0∨(0<=a∧(s.Words.length:Int)<=a):=by omega
  rcases kK with h|h
  all_goals refine Wz ?_
  all_goals exact ae.bh rfl rfl ⟨_,rfl,hw,_,.out hb,rfl⟩
 obtain ⟨aX,ao⟩:=id hb;refine Wz ?_
 refine CW.loop (fun k:Nat=>[(1,.int .i64 a),(2,.pointer (some ⟨b2,0,none⟩)),(24,.slice r.aa.A r.aa.n r.aa.c),(25,.int .i64 (r.aa.n:Int)),(26,.int .i64 (k:Int))])
  (fun k w'=>k<=r.aa.n∧Ext w w'∧aR w' b2 44 (aK r) ∧ ∀ (j:Nat) (h:j<s.aa.length),j<k -> ∀ x∈s.aa[j].ab,¬ lp s.aa[j] x a) (fun k=>r.aa.n-k) 0
  ⟨rfl,rfl,rfl,rfl,rfl,trivial⟩ ⟨by omega,hw,aq,fun j h h'=>by omega⟩ ?_
 clear hw aq;rintro i w' ⟨hk,hw,aq,hI⟩
 have hA:=hc.row.base;by_cases cx:i<r.aa.n
 ·have ol:i<cs.length:=by omega
  have tU:i<s.aa.length:=by omega
  have kf:=hc.each.get i ol tU;have sm:=hs.each _ (aet tU);have QN:=(hM.each i tU).may;obtain ⟨l1,l2,l3⟩:=bV QN.lay;have eS:=kf.size;have eO:=kf.order;have n2:=kf.aB.len;have m2:=sm.aB;have hS : 1<=cs[i].ay∧cs[i].ay<=64:=by omega
  have hO : 0<=cs[i].Order∧cs[i].Order<=4:=by omega
  have hp:=cM hO.1 hO.2;repeat' (first|refine Wz ?_|refine SW.st (wx hw rfl rfl ((hc.row.all cx))) rfl ?_)
  refine SW.alloc rfl fun b6 w1 ah dv ap => ?_
  skip;refine Wg ap (Cz _) fun w2 bQ hg => ?_
  have ar:=ah.own dv hg;have cQ:=hw.up dv
  have hw:=hw.trans ar;have aq:=aq.ext ar;have ap:=bQ;clear bQ ah hg ar;refine Wz ?_
  refine CW.loop (fun k:Nat=>[(1,.int .i64 a),(2,.pointer (some ⟨b2,0,none⟩)),(6,.pointer (some ⟨b6,0,none⟩)),(24,.slice r.aa.A r.aa.n r.aa.c),(25,.int .i64 (r.aa.n:Int)),(26,.int .i64 (i:Int)),(31,.slice cs[i].ab.A cs[i].ab.n cs[i].ab.c),(32,.int .i64 (cs[i].ab.n:Int)),(33,.int .i64 (k:Int))])
   (fun k w'=>k<=cs[i].ab.n∧Ext w w'∧aR w' b2 44 (aK r)∧aR w' b6 103 (fu cs[i]) ∧ ∀ (j:Nat) (h:j<s.aa[i].ab.length),j<k -> ¬ lp s.aa[i] s.aa[i].ab[j] a) (fun k=>cs[i].ab.n-k) 0
   ⟨rfl,rfl,rfl,rfl,rfl,rfl,rfl,rfl,rfl,trivial⟩ ⟨by omega,hw,aq,ap,fun j h h'=>by omega⟩ ?_
  clear hw aq ap;rintro k w' ⟨hk,hw,aq,ap,hJ⟩
  have pr:=kf.aB.base;by_cases gC:k<cs[i].ab.n
  ·have iR:k<s.aa[i].ab.length:=by omega
   obtain ⟨x,hx⟩ : ∃ x,s.aa[i].ab[k]=x:=⟨_,rfl⟩;have Tu:x∈s.aa[i].ab:=by rw [<- hx];exact aet iR
   have gS:=kf.aB.all gC;rw [hx] at gS;have ht:=(QN.px (hM.heap)) x Tu;repeat' (first|refine Wz ?_|refine SW.st (wx hw rfl rfl gS) rfl ?_)
   refine SW.alloc rfl fun b8 w1 ah nV bf => ?_
   skip;refine Wg bf (iK.one (enc:=bd) _) fun w2 rD hg => ?_
   have ar:=ah.own nV hg;have gq:=hw.up nV
   have hw:=hw.trans ar;have aq:=aq.ext ar;have ap:=ap.ext ar;have bf:=rD;clear rD ah hg ar;by_cases ox:lp s.aa[i] x a
   ·have Lh:=ox;unfold lp at Lh;rw [<- eO] at Lh;have XS:(a-x.At*16).tmod cs[i].ay=(a-x.At*16) % cs[i].ay:=ae7 (by omega)
    have HV:=agK (a-x.At*16) (show cs[i].ay≠0 by omega);have xm:=agp (a-x.At*16) (show 0<cs[i].ay by omega);have F2:cs[i].ay≠0:=by omega
    repeat' (first|refine Wz ?_|(refine SW.st (fO (r:=16*pw cs[i].Order) rfl rfl (by omega) (by omega) (by simp [pw]) (by omega) (by omega)) rfl ?_))
    refine CW.any 14 mixed (db (by kernel_rfl)) rfl fun w1 ah aI => ?_
    have hw:=hw.trans ah;have aq:=aq.ext ah;have ap:=ap.ext ah;have bf:=bf.ext ah;clear ah;refine Wa ?_;refine SA.bZ 7 ?_;refine SW.call rfl rfl (vM r s _ _ (hr.ext hw) hf (by rw [XS];omega)) fun v w4 ar hv => ?_
    obtain ⟨u,hu,rfl⟩:=hv;obtain ⟨u1,u2,u3⟩:=u;simp only [CO];(have hw:=hw.trans ar;have aq:=aq.ext ar;have ap:=ap.ext ar;have bf:=bf.ext ar);refine SW.nil (ae.sa ar ?_);refine Wa ?_;refine SA.fZ ?_;rw [XS,eS] at hu;have hW:=gu.pQ hb (aet tU) Tu ox hu;by_cases h0:u3=0
    ·refine Wz ?_;exact ae.bh rfl rfl ⟨_,rfl,hw,_,hW,by simp [h0]⟩
    ·refine Wz ?_;exact ae.bh rfl rfl ⟨_,rfl,hw,_,hW,by simp [h0]⟩
   ·have Lh:=ox;unfold lp at Lh;rw [<- eO] at Lh;have kK:a-x.At*16<0∨(0<=a-x.At*16∧16*pw cs[i].Order<=a-x.At*16):=by omega
    have xJ:∀ (j:Nat) (h:j<s.aa[i].ab.length),j<k+1 -> ¬ lp s.aa[i] s.aa[i].ab[j] a:=fun j h h'=>by
     by_cases e:j=k
     ·subst e;rw [hx];exact ox
     ·exact hJ j h (by omega)
    rcases kK with h|h
    all_goals repeat' (first|refine Wz ?_|(refine SW.st (fO (r:=16*pw cs[i].Order) rfl rfl (by omega) (by omega) (by simp [pw]) (by omega) (by omega)) rfl ?_))
    all_goals exact ae.again (k+1) ⟨rfl,rfl,rfl,rfl,rfl,rfl,rfl,rfl,rfl,trivial⟩ (by omega) ⟨by omega,hw,aq,ap,xJ⟩
  ·refine Wz ?_
   exact ae.again (i+1) ⟨rfl,rfl,rfl,rfl,rfl,trivial⟩ (by omega) ⟨by omega,hw,aq,fun j h h'=>by
    by_cases e:j=i
    ·subst e;intro x hx;obtain ⟨q,hq,rfl⟩:=aeu hx;exact hJ q hq (by omega)
    ·exact hI j h (by omega)⟩
 ·have ov:∀ c∈s.aa,∀ x∈c.ab,¬ lp c x a:=fun c hc x hx=>by
   obtain ⟨j,hj,rfl⟩:=aeu hc;exact hI j hj (by omega) x hx
  have hq:a.tdiv 16=a / 16:=agr aX
  obtain ⟨t,ht⟩ : ∃ t,a / 16=t:=⟨_,rfl⟩;have mx:=hr.heap.live.len;have m5:=hs.heap.live;refine Wz ?_;refine SW.alloc rfl fun tZ w2 bq YN cw => ?_
  have YO:=hw.up YN
  (have hw:=hw.trans bq;have aq:=aq.ext bq);skip;refine SW.su (i:=0) cw rfl rfl rfl rfl fun w3 ml hg => ?_
  have hG:=cw.gr hg;have hw:=hw.own YO hg;(have aq:=aq.aJ hG rfl);have cw:aR w3 tZ 3 [.int .i64 t]:=by rw [<- ht];exact ml
  clear ml hg hG;repeat' (first|refine Wz ?_|(refine SW.st (iX (vs:=[.pointer (some ⟨tZ,0,none⟩)]) rfl) rfl ?_))
  refine SW.call rfl rfl (mu _ _ _ s.Heap.Live _ (hr.heap.live.ext hw) _ [.pointer (some ⟨tZ,0,none⟩)] (fun b=>decide (b.At<=t) && decide (t<b.At+pw b.Order)) (fun x => .agg (aO x).toArray) (fun x=>rfl)
   (fun x Tu w1 lj=>by
     obtain ⟨k,hk,rfl⟩:=aeu Tu;have hl:=hM.heap.live.each k hk;exact Qh t tZ _ w1 (cw.ext lj) hl.2.1 hl.1) (by omega)) fun v w4 kN hv => ?_
  subst hv;have hw:=hw.trans kN;have hW:=gu.bD hb ov;unfold AW at hW;rw [ht] at hW;refine Wz ?_;exact ae.bh rfl rfl ⟨_,rfl,hw,_,hW,rfl⟩
set_option maxHeartbeats 4000000 in
def GC (r:de) (s:ag) (a:cr) (lo:Nat) (w:World) (hO:jj w lo r s) (dt:lo<=w.heap.size) (hI:dy s) (Ch : -9223372036854775808<=a.At∧a.At<=9223372036854775807) :
 bI prog 31 [.agg (aK r).toArray,.agg (dZ a).toArray] w fun v w' => ∃ u,mw s a u ∧ ∃ q,v = .tuple #[.agg (aK q).toArray,.int .i64 u.2.1,.int .i64 u.2.2]∧jj w' lo q u.1:=by
 obtain ⟨k,cpu,n,m,At,fl,nm⟩:=a;simp only at Ch;have hf:=hI.cS;have hs:=hf.small;have hM:=hI.may;have TC:=hM.words;have wl:=hO.words.len;refine Wj func31 ntmps31 ?_;refine Ww fun b2 w1 hw eW aq => ?_;have l2:=aq.lt;refine SW.box rfl rfl fun b3 w2 bq cg ao => ?_
 have gm:=hw.up cg
 (obtain ⟨hw,aq⟩:=cT bq hw aq);clear bq;have l3:=ao.lt;refine SW.alloc rfl fun b4 w2 bq fw aE => ?_
 have dQ:=hw.up fw
 (obtain ⟨hw,aq,ao⟩:=cd bq hw aq ao);clear bq;have Oo:b2≠b4:=by omega
 have LH:b4≠b2:=by omega
 repeat' (first|refine Wy ?_|refine Wm ((fun _ _=>aq.cell)) ?_|refine Wl (ao.cell (i:=4) (v := .int .i64 At) rfl) ?_)
 refine Wk (IP r s At _ (hO.rd.ext hw) hf hM Ch) fun v w3 nL hv => ?_
 obtain ⟨b,hb,rfl⟩:=hv;(obtain ⟨hw,aq,ao,aE⟩:=dJ nL hw aq ao aE);clear nL;have bg:=hO.ext hw;cases b
 ·have hR:=mw.no (a:=⟨k,cpu,n,m,At,fl,nm⟩) hb;repeat' (first|refine Wy ?_|(refine CW.gG rfl ?_)|refine Wm ((fun _ _=>aq.cell)) ?_)
  refine Wg aE (aU r) fun w7 jw hg => ?_
  have hG:=aE.gr hg;have hw:=hw.own dQ hg;(have bg:=bg.aJ hG rfl);repeat' (first|refine Wy ?_|fail);exact ae.fp rfl rfl rfl rfl jw rfl ⟨_,rfl,hw,_,hR,r,rfl,bg⟩
 have cx : 0<=At∧At<4096:=by
  generalize e:true=b at hb
  cases hb with
  | out=>cases e
  | pQ h=>omega
  | bD h=>omega
 obtain ⟨an,rfl⟩:=aeE cx.1;have NS:an<r.Words.n:=by omega
 have NT:an<s.Words.length:=by omega
 have hWA:=hO.words.sl.base;by_cases SV:k=14
 ·have hR:=mw.read (a:=⟨k,cpu,n,m,an,fl,nm⟩) hb SV;have Qs:=hO.words.sl.one NS (congrArg bt (rfl:s.Words[an]=s.Words[an]));have e1:s.Words.getD ((an:Nat) : Int).toNat 0=s.Words[an]:=by simp [List.getD,NT]
  simp only [Int.ofNat_eq_natCast] at hR;rw [e1] at hR;subst SV;repeat' (first|refine Wy ?_|(refine CW.gj rfl ?_)|refine Wl (ao.cell (i:=0) (v := .int .i64 14) rfl) ?_)
  refine CW.gB 7 9 (fun w2=>jj w2 lo r s∧aR w2 b2 44 (aK r)∧aR w2 b3 35 (dZ ⟨14,cpu,n,m,an,fl,nm⟩)) mixed (by kernel_rfl) fun w1 ah aI => ?_
  obtain ⟨hw,aq,ao,aE,bg⟩:=fH ah hw aq ao aE bg;clear ah;refine Wt 0 [] [] aI rfl (aY rfl rfl ((fun _ _=>aq.cell))) ?_;refine Wi 1 [] aI rfl (az rfl) (fun w2 hS=>az rfl) ?_;refine SF.jl 2 [] aI rfl (by kernel_rfl) (by kernel_rfl) (by kernel_rfl) (aP rfl (aq.cell (i:=0) (v := .slice r.Words.A r.Words.n r.Words.c) rfl)) (fun w2 hS=>aP rfl (hS.2.1.cell (i:=0) (v := .slice r.Words.A r.Words.n r.Words.c) rfl)) rfl ?_;refine Wi 3 [] aI rfl (az rfl) (fun w2 hS=>az rfl) ?_;refine SF.jl 4 [] aI rfl (by kernel_rfl) (by kernel_rfl) (by kernel_rfl) (aP rfl (ao.cell (i:=4) (v := .int .i64 (an:Int)) rfl)) (fun w2 hS=>aP rfl (hS.2.2.cell (i:=4) (v := .int .i64 (an:Int)) rfl)) rfl ?_;refine Wi 5 [] aI rfl (cf rfl rfl (by assumption) (by omega)) (fun w2 hS=>cf rfl rfl (by assumption) (by omega)) ?_;refine Wi 6 [] aI rfl (aP rfl (bg.words.sl.one NS (congrArg bt (rfl:s.Words[an]=s.Words[an])))) (fun w2 hS=>aP rfl (hS.1.words.sl.one NS (congrArg bt (rfl:s.Words[an]=s.Words[an])))) ?_;refine SF.iA ?_;refine Wg aE (aU r) fun w8 df hg => ?_
  have hG:=aE.gr hg;have aq:=aq.grown hg (by simpa using Oo);have hw:=hw.own dQ hg;(obtain ⟨bg,ao⟩:=cT hG bg ao);have hS:=And.intro bg (And.intro aq ao);refine SW.nil (ae.sg hS ?_);refine SG.bZ 8 ?_;repeat (refine SW.pure rfl rfl ?_)
  refine SW.nil (ae.sg hS ?_);refine SG.ff ?_;repeat' (first|refine Wy ?_|fail);exact ae.fp rfl rfl rfl rfl df rfl ⟨_,rfl,hw,_,hR,r,rfl,bg⟩
 by_cases hm:rF m
 rotate_left
 ·have hR:=mw.range (a:=⟨k,cpu,n,m,an,fl,nm⟩) hb SV hm;have xm:=hm;unfold rF at xm;have kK:m < -1099511627776∨(-1099511627776<=m∧1099511627776<m):=by omega
  rcases kK with h|h
  all_goals repeat' (first|refine Wy ?_|(refine CW.gj rfl ?_)|refine Wl (ao.cell (i:=0) (v := .int .i64 k) rfl) ?_|refine Wl (ao.cell (i:=3) (v := .int .i64 m) rfl) ?_|refine Wm ((fun _ _=>aq.cell)) ?_)
  all_goals
   refine Wg aE (aU r) fun w7 jw hg => ?_
   have hG:=aE.gr hg;have hw:=hw.own dQ hg;(have bg:=bg.aJ hG rfl);repeat' (first|refine Wy ?_|fail);exact ae.fp rfl rfl rfl rfl jw rfl ⟨_,rfl,hw,_,hR,r,rfl,bg⟩
 have hR:=mw.write (a:=⟨k,cpu,n,m,an,fl,nm⟩) hb SV hm;have xm:=hm;unfold rF at xm;repeat' (first|refine Wy ?_|(refine CW.gj rfl ?_)|refine Wl (ao.cell (i:=0) (v := .int .i64 k) rfl) ?_|refine Wl (ao.cell (i:=3) (v := .int .i64 m) rfl) ?_|refine Wl (ao.cell (i:=4) (v := .int .i64 (an:Int)) rfl) ?_|refine Wl (aq.cell (i:=0) (v := .slice r.Words.A r.Words.n r.Words.c) rfl) ?_)
 refine Wk (LG r.Words.A r.Words.n r.Words.c s.Words an m _ (hO.words.sl.ext hw) (by omega)) fun v w4 kN hv => ?_
 rw [if_pos (by omega)] at hv;obtain ⟨A,c,rfl,Tc⟩:=hv;have Tc:=Tc.low (aev dt hw.size);(obtain ⟨hw,aq,ao,aE,bg⟩:=fH kN hw aq ao aE bg);clear kN;repeat' (first|refine Wy ?_|fail);refine Wb (i:=0) aq fun w5 lF hg => ?_
 have hG:=aq.gr hg;have aE:=aE.grown hg (by simpa using LH);have hw:=hw.own eW hg;(obtain ⟨ao,bg,Tc⟩:=cd hG ao bg Tc);have aq:aR w5 b2 44 (aK ⟨⟨A,r.Words.n,c⟩,r.Heap,r.aa⟩):=lF;clear lF hG hg;repeat' (first|refine Wy ?_|refine Wm ((fun _ _=>aq.cell)) ?_)
 refine Wg aE (aU ⟨⟨A,r.Words.n,c⟩,r.Heap,r.aa⟩) fun w7 jw hg => ?_
 have hG:=aE.gr hg;have hw:=hw.own dQ hg;(obtain ⟨bg,Tc⟩:=cT hG bg Tc);repeat' (first|refine Wy ?_|fail);exact ae.fp rfl rfl rfl rfl jw rfl ⟨_,rfl,hw,_,hR,⟨⟨A,r.Words.n,c⟩,r.Heap,r.aa⟩,rfl,Tc,bg.heap,bg.bo⟩
end Go.Proofs.YtenhkiaaebnggaaGreatDoor
