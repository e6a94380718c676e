/- Part 12 of what topWords_holds leans on. -/
import Derived.Test.YtohigmjjbgpfmaaGreatDoorPackTopWords11
set_option linter.unusedVariables false
set_option linter.unusedSimpArgs false
set_option linter.defProp false
open Go.Proofs.Tryz
namespace Go.Proofs.YtohigmjjbgpfmaaGreatDoor
open Go.RowKit
variable {a cpus f least:Int} {s:ah} {u:ah×Int} {i j:Nat}
def bR (n m:Int) : Int:=(if n<0 then -(n+1) else n).tmod m
theorem di {n m:Int} (hm : 0<m) : 0<=bR n m∧bR n m<m:=by
 unfold bR;have h : 0<=(if n<0 then -(n+1) else n):=by split<;>omega
 exact ⟨Int.tmod_nonneg _ h,Int.tmod_lt_of_pos _ hm⟩
def tv (a b c:Int) : List Region:=[⟨bR a 20,40+bR b 60⟩,⟨130+bR c 10,16+bR a 90⟩]
def tw (a b c:Int) : List Region:=[⟨bR a 20+bR c 30,1+bR a 7⟩,⟨150+bR b 9,1+bR c 5⟩]
theorem P6 {x y:Region} (hx:x.ok) (hy:y.ok) (h:x.aU+x.aA<y.aU) : gZ [x,y]:=by
 refine ⟨by simp,fun i hi => ?_⟩;simp only [List.length_cons,List.length_nil] at hi;rcases (show i=0∨i=1 by omega) with rfl|rfl
 ·exact ⟨hx,fun h0=>by omega⟩
 ·exact ⟨hy,fun _=>h⟩
theorem Hv (a b c:Int) : qb (tv a b c) (tw a b c)=true:=by
 have h1:=di (n:=a) (m:=20) (by omega);have h2:=di (n:=b) (m:=60) (by omega);have h3:=di (n:=c) (m:=10) (by omega);have h4:=di (n:=a) (m:=90) (by omega);have h5:=di (n:=c) (m:=30) (by omega);have h6:=di (n:=a) (m:=7) (by omega);have h7:=di (n:=b) (m:=9) (by omega);have h8:=di (n:=c) (m:=5) (by omega);unfold qb tv tw;rw [lU (P6 (by unfold Region.ok;simp only;omega) (by unfold Region.ok;simp only;omega) (by simp only;omega)),lU (P6 (by unfold Region.ok;simp only;omega) (by unfold Region.ok;simp only;omega) (by simp only;omega))]
 rfl
theorem Av {p:Nat->Bool} {b c d:Int} (h:∀ k:Nat,p k=true->(k=0∨p (k-1)=false)->(k:Int)=a∨(k:Int)=b∨(k:Int)=c∨(k:Int)=d) :
 ∀ k:Nat,(runs p k).length<=(if a<(k:Int) then 1 else 0)+(if b<(k:Int) then 1 else 0)+(if c<(k:Int) then 1 else 0)+(if d<(k:Int) then 1 else 0)
 | 0=>by simp [runs]
 | k+1=>by
   have ih:=Av h k;have Bo:∀ x:Int,(if x<(k:Int) then 1 else 0)<=(if x<((k+1:Nat) : Int) then 1 else 0):=fun x=>by split<;>split<;>omega
   have oY:∀ x:Int,(k:Int)=x->(if x<(k:Int) then 1 else 0)+1<=(if x<((k+1:Nat) : Int) then 1 else 0):=fun x e=>by rw [if_neg (by omega),if_pos (by omega)];omega
   have ma:=Bo a;have mb:=Bo b;have mc:=Bo c;have md:=Bo d;cases hp:p k
   ·have e:runs p (k+1)=runs p k:=by simp [runs,hp]
    rw [e];omega
   ·by_cases hk : 0<k∧p (k-1)=true
    ·have e:runs p (k+1)=bump (runs p k):=by simp only [runs,hp,if_true,if_pos hk]
     obtain ⟨init,r,hr,_⟩:=(uQ p k).last hk.1 hk.2;rw [e,hr,oH];rw [hr] at ih;simp only [List.length_append,List.length_singleton] at ih ⊢;omega
    ·have e:runs p (k+1)=runs p k++[⟨(k:Int),1⟩]:=by simp only [runs,hp,if_true,if_neg hk]
     have AH:=h k hp (by cases hq:p (k-1)<;>simp_all<;>omega);rw [e];simp only [List.length_append,List.length_singleton];rcases AH with e|e|e|e<;>have:=oY _ e<;>omega
theorem Nb (x y:Region) (i:Int) : ew [x,y] i=true↔(x.aU<=i∧i<x.aU+x.aA)∨(y.aU<=i∧i<y.aU+y.aA):=by
 unfold ew;simp
theorem Hw (a b c:Int) : eR (runs (k9 (tv a b c) (tw a b c)) 256)=true:=by
 have hr:=uQ (k9 (tv a b c) (tw a b c)) 256;refine lU ⟨?_,fun i hi=>⟨?_,fun h0 => ?_⟩⟩
 ·have h1:=di (n:=a) (m:=20) (by omega);have h2:=di (n:=b) (m:=60) (by omega);have h3:=di (n:=c) (m:=10) (by omega);have h4:=di (n:=a) (m:=90) (by omega)
  have:=Av (p:=k9 (tv a b c) (tw a b c)) (a:=bR a 20) (b:=130+bR c 10) (c:=bR a 20+bR c 30+(1+bR a 7)) (d:=150+bR b 9+(1+bR c 5)) (fun k hk Dc=>by
   have key:∀ i:Nat,k9 (tv a b c) (tw a b c) i=true↔((bR a 20<=(i:Int)∧(i:Int)<bR a 20+(40+bR b 60))∨(130+bR c 10<=(i:Int)∧(i:Int)<130+bR c 10+(16+bR a 90))) ∧ ¬ ((bR a 20+bR c 30<=(i:Int)∧(i:Int)<bR a 20+bR c 30+(1+bR a 7))∨(150+bR b 9<=(i:Int)∧(i:Int)<150+bR b 9+(1+bR c 5))):=fun i=>by
    unfold k9 tv tw;rw [adG,ae1,<- Bool.not_eq_true,Nb,Nb]
   rw [key] at hk;rcases Dc with rfl|Dc
   ·omega
   ·rw [<- Bool.not_eq_true,key] at Dc;by_cases h0:k=0
    ·subst h0;omega
    ·omega) 256
  have e1:∀ x:Int,(if x<((256:Nat) : Int) then 1 else 0)<=1:=fun x=>by split<;>omega
  have a1:=e1 (bR a 20);have a2:=e1 (130+bR c 10);have a3:=e1 (bR a 20+bR c 30+(1+bR a 7));have a4:=e1 (150+bR b 9+(1+bR c 5));omega
 ·have:=hr.Pv _ (ac0 hi)
  unfold Region.ok;omega
 ·have:=hr.sep
  rw [ac8] at this;exact this (i-1) i (by omega) hi (by omega)
def yn (l:List Region) : Nat->List Block
 | 0=>[]
 | p+1=>if ew l p then yn l p++[ct p] else yn l p
theorem DC (l:List Region) : ∀ p:Nat,∀ b∈yn l p,0<=b.At∧b.At<(p:Int)∧b.Order=0
 | 0=>by simp [yn]
 | p+1=>fun b hb=>by
   unfold yn at hb;split at hb
   ·rcases ac9.1 hb with hb|hb
    ·have:=DC l p b hb;omega
    ·simp only [List.mem_singleton] at hb;subst hb;refine ⟨?_,?_,rfl⟩<;>simp only [ct]<;>omega
   ·have:=DC l p b hb;omega
theorem Nc (l:List Region) {p:Nat} (hp:p<256) : pL (yn l p) (ct p):=by
 refine ⟨by simp [ct],by simp only [ct];omega,by simp only [ct,jh];omega,⟨by simp only [ct];omega,by simp only [ct,jh];omega,?_⟩,fun x hx => ?_⟩
 ·unfold ka;rw [ado];intro x hx;have:=DC l p x hx
  rw [this.2.2,jh];intro hh;simp only [ct,Bool.and_eq_true,decide_eq_true_eq] at hh;have h2:=of_decide_eq_true hh.2;omega
 ·have:=DC l p x hx
  rw [this.2.2,jh];omega
theorem Fz {t:Int} (h:fC f t) : bU (jt f t).2∧(jt f t).2.aU=f∧(jt f t).2.To=t∧(jt f t).2.aj=[]:=by
 rw [lV h];have h':=h;unfold fC at h';refine ⟨⟨h,by simp only [List.length_replicate];omega,fun x hx => ?_,fun i hi=>by simp at hi,fun i hi=>by simp at hi⟩,rfl,rfl,rfl⟩;have:=List.eq_of_mem_replicate hx
 subst this;unfold kH;omega
theorem FA {l:List Region} {split:Int} (hs:fC 0 split) : ∀ p:Nat,p<=256->qC (gE l split p) (yn l p)∧(gE l split p).1.To=split
 | 0,_=>by
   have gH:fC split 256:=by unfold fC at hs ⊢;omega
   obtain ⟨a1,a2,a3,a4⟩:=Fz hs;obtain ⟨b1,b2,b3,b4⟩:=Fz gH;refine ⟨⟨a1,b1,a2,a3.trans b2.symm,b3,fun i => ?_⟩,a3⟩;simp only [gE,yn,a4,b4]
   rfl
 | p+1,hp=>by
   obtain ⟨D,DN⟩:=FA hs p (by omega);have hb:=D.back (Nc l (by omega));rw [gE,yn];cases hi:ew l p
   ·simp only [Bool.false_eq_true,if_false];exact ⟨D,DN⟩
   ·simp only [if_true]
    have e:(if (p:Int)<split then (mN (gE l split p).1 p,(gE l split p).2) else ((gE l split p).1,mN (gE l split p).2 p))=gp (gE l split p) (ct p):=by
     unfold gp mN;simp only [ct,DN]
    rw [e];exact ⟨hb.1,hb.2.trans DN⟩
theorem O5 {l:List Region} {split:Int} (ha:ms split least cpus) : bJ (ra (gE l split 256) least cpus):=by
 obtain ⟨D,DN⟩:=FA (l:=l) ha.1 256 (ac3 _);refine pY (s:=gE l split 256) rfl D.vs (kx.nil _ _) ⟨least,least,rfl,ha.2.1,ha.2.1⟩ ha.2.2 (Ds (by simp [ra]) (by simp [ra])) fun i => ?_
 have h1:=zR D.vs i;have h2:∀ b:Bool,b.toNat<=1:=fun b=>by cases b<;>simp
 have h3:=h2 (ed (gE l split 256).1.aj i || ed (gE l split 256).2.aj i);have h4:jm [] i=0:=rfl
 unfold ud;simp only [ra,yl];omega
def iR (h:Heap) (i:Nat) : aQ:=⟨[gx (kP i)],kP i,(dl (kP i)).2.1,(dl (kP i)).1,[],List.replicate h.bG.toNat (-1)⟩
structure mZ (h:Heap) (j:Nat) (s:ah) : Prop where
 words:s.Words=List.replicate 4096 0
 heap:s.Heap=h
 br:s.aa=(List.range j).map (iR h)
theorem YQ {P:Nat->Prop} (h0:P 0) (h1:P 1) (h2:P 2) (h3:P 3) (h4:P 4) (h5:P 5) (h:i<6) : P i:=by
 rcases (show i=0∨i=1∨i=2∨i=3∨i=4∨i=5 by omega) with rfl|rfl|rfl|rfl|rfl|rfl
 ·exact h0
 ·exact h1
 ·exact h2
 ·exact h3
 ·exact h4
 ·exact h5
theorem Cw (h:i<6) : gn (gx (kP i))=true:=YQ (P:=fun i=>gn (gx (kP i))=true) (by decide) (by decide) (by decide) (by decide) (by decide) (by decide) h
theorem P7 (h:i<6) (hj:j<i) : kP j≠kP i:=by
 have:∀ i,i<6 -> ∀ j,j<i->kP j≠kP i:=by unfold kP;decide
 exact this i h j hj
theorem IU (h:i<6) (hj:j<i) : gx (kP j)≠gx (kP i):=by
 have:∀ i,i<6 -> ∀ j,j<i->gx (kP j)≠gx (kP i):=by unfold kP;decide
 exact this i h j hj
theorem Cx {h:Heap} (hm:bJ h) (hj:j<=6) (f:mZ h j s) : aB s:=by
 refine ⟨by rw [f.words,ad3],by rw [f.heap];exact hm,by rw [f.br];simp;omega,fun i hi => ?_⟩;have nO:i<j:=by rw [f.br] at hi;simpa using hi
 have ec:∀ (k:Nat) (hk:k<s.aa.length),s.aa[k]=iR h k:=fun k hk=>by
  have:s.aa[k]=((List.range j).map (iR h))[k]'(by rw [f.br] at hk;exact hk):=by congr 1;exact f.br
  rw [this];simp
 have qj:=hm.cpus;refine ⟨⟨?_,?_,?_,fun k hk => ?_,fun k hk => ?_⟩,fun k hk => ?_,⟨fun k hk => ?_⟩,fun k hk => ?_⟩
 ·rw [ec i hi];exact YQ (P:=fun i=>dl (iR h i).aA=((iR h i).Order,(iR h i).bK,0)) rfl rfl rfl rfl rfl rfl (show i<6 by omega)
 ·rw [ec i hi];simp [iR]
 ·rw [ec i hi,f.heap];simp [iR];omega
 ·exfalso;rw [ec i hi] at hk;simp [iR] at hk
 ·left;have:∀ (c:aQ) (e:c=iR h i) (hk:k<c.ao.length),c.ao[k] = -1:=fun c e hk=>by subst e;simp [iR]
  exact this _ (ec i hi) hk
 ·rw [ec i hi,ec k (by omega)];exact P7 (by omega) hk
 ·have key:∀ (c:aQ) (e:c=iR h i) (hk:k<c.Names.length) (acc:List ByteArray),(∀ n∈acc,n≠gx (kP i))->gn c.Names[k]=true∧c.Names[k]∉acc++c.Names.take k∧(0<k->eA (c.Names[k-1]'(by omega)) c.Names[k]=true):=fun c e hk acc ha=>by
   subst e;have AI:k=0:=by simp [iR] at hk;exact hk
   subst AI;simp only [iR,List.getElem_cons_zero,List.take_zero,List.append_nil];exact ⟨Cw (by omega),fun hh=>ha _ hh rfl,fun h=>by omega⟩
  refine key _ (ec i hi) hk _ fun n hn => ?_
  unfold bl at hn;obtain ⟨c,hc,hn⟩:=adm.1 hn;obtain ⟨q,hq,rfl⟩:=ac1 hc;simp only [List.length_take] at hq;rw [adH,ec q (by omega)] at hn;simp only [iR,List.mem_singleton] at hn;subst hn;exact IU (by omega) (by omega)
 ·exfalso;rw [ec i hi] at hk;simp [iR] at hk
theorem Hx {h:Heap} (hm:bJ h) (hj:j<6) (f:mZ h j s) (hu:lx s (gx (kP j)) (kP j) 1 u) : mZ h (j+1) u.1:=by
 have hM:=Cx hm (by omega) f;obtain ⟨_,_,k3,k4⟩:=Mw hj;have ez:rz (kP j) 1=kP j:=by unfold rz;omega
 have hn:∀ c∈s.aa,∃ q,q<j∧c=iR h q:=fun c hc=>by
  rw [f.br] at hc;obtain ⟨q,hq,rfl⟩:=adk.1 hc;exact ⟨q,by simpa using hq,rfl⟩
 have Hf:=lx.new (s:=s) (n:=gx (kP j)) (size:=kP j) (align:=1) (nX hM) ⟨Cw hj,.inl rfl⟩ ⟨k3,by omega⟩ (by
  rw [ado];intro c hc;obtain ⟨q,hq,rfl⟩:=hn c hc;have:=IU hj hq
  simp [dO,tq,iR];exact fun e=>this e) (fun q hq=>by
  obtain ⟨t,ht,e⟩:=hn _ (ac0 hq);rw [e,ez];exact P7 hj ht) (by rw [f.br];simp;omega)
 rw [hu.dm Hf];refine ⟨f.words,f.heap,?_⟩;simp only [ez];rw [List.range_succ,adr,<- f.br];congr 1
 simp only [dP,List.map_cons,List.map_nil,iR,f.heap]
theorem Hy {h:Heap} (hm:bJ h) (x:vy (Hu h) j s) : j<=6->mZ h j s:=by
 induction x with
 | zero=>exact fun _=>⟨rfl,rfl,rfl⟩
 | succ m hu ih=>exact fun hj=>Hx hm (by omega) (ih (by omega)) hu
theorem Aw (a b c:Int) : ms (16*bR a 9) (bR b 12) (1+bR c 4):=by
 have h1:=di (n:=a) (m:=9) (by omega);have h2:=di (n:=b) (m:=12) (by omega);have h3:=di (n:=c) (m:=4) (by omega);unfold ms fC;omega
noncomputable def Kn (a b c:Int) : Heap:=ra (gE (runs (k9 (tv a b c) (tw a b c)) 256) (16*bR a 9) 256) (bR b 12) (1+bR c 4)
theorem FB (a b c:Int) : bJ (Kn a b c):=O5 (Aw a b c)
theorem jB {b c:Int} (h:iG (jq 256 (tv a b c) (tw a b c)) (16*bR a 9) (bR b 12) (1+bR c 4) u) : u.2=0∧mZ (Kn a b c) 6 u.1∧dI u.1:=by
 have hf:=h.cV;have e1:=wL (N:=256) (Hv a b c);have e2:=rc (Hw a b c) (Aw a b c);cases h with
 | RL h=>rw [e1] at h;exact absurd rfl h
 | heap h h2=>rw [e1,e2] at h2;exact absurd rfl h2
 | made h h2 m =>
   rw [e1] at m;simp only [e2] at m;have hF:=Hy (FB a b c) m (ac3 _);exact ⟨rfl,hF,hf,Cx (FB a b c) (ac3 _) hF⟩
theorem mZ.eq {h:Heap} {t:ah} (a:mZ h j s) (b:mZ h j t) : s=t:=by
 obtain ⟨a1,a2,a3⟩:=a;obtain ⟨b1,b2,b3⟩:=b;cases s
 cases t
 simp only at *;subst a1 a2 a3 b1 b2 b3
 rfl
variable {n:ByteArray} {size:Int} {q:Src}
theorem xq (hM:aB s) (h:fq s q a) : gb s a true:=by
 have hr:=fR hM h;have hlen:=hM.words;cases q with
 | obj i =>
   have hi:=h.lt;obtain ⟨k,hk⟩:=(IL hi).1 ((iQ hi).1 h);have hC:=(hM.each i hi).may;have ho:=hk.obj;obtain ⟨r1,r2⟩:=mj hC.lay ho
   have hm:(a-(s.aa[i].ab[k]'hk.hk).At*16) % s.aa[i].aA=0:=by
    unfold ic at ho;simp only [Bool.and_eq_true,decide_eq_true_eq] at ho;exact ho.2
   have hF:=hk.find hM;exact gb.pi (u:=((i:Int),(k:Int),0)) ⟨hr.1,by omega⟩ (ac0 hi) (ac0 hk.hk) (by unfold kR;omega) (by rw [hm,Int.sub_zero];exact hF)
 | pg o =>
   obtain ⟨h1,h2,b,hb,e1,e2⟩:=(j6 hM.heap.live).1 h;have hl:=(hM.heap.live.all b hb).1;have hp:=cy hl.1 hl.2
   have e:z8 s.Heap.Live (a / 16)=true:=by
    unfold z8;rw [ade];refine ⟨b,hb,?_⟩;rw [adG,decide_eq_true_eq,decide_eq_true_eq];omega
   have:=gb.bC (s:=s) (a:=a) ⟨hr.1,by omega⟩ (fun c hc x hx cQ=>by
    obtain ⟨d,hd,f1,f2⟩:=gC hM hc hx;have:=gB hM.heap hb hd (by rw [f1,e1];exact fun e=>h2 c hc x hx e.symm)
    rw [f1,f2] at this;unfold kR at cQ;omega)
   rw [e] at this;exact this
structure xM (s:ah) : Prop where
 aD:∀ c∈s.aa,c.ab=[]
 live:s.Heap.Live=[]
theorem xM.none (h:xM s) (q:Src) (a:Int) : ¬ fq s q a:=fun hL=>by
 cases q with
 | obj i =>
   have hi:=hL.lt;obtain ⟨x,hx,_⟩:=(iQ hi).1 hL;rw [h.aD _ (ac0 hi)] at hx;cases hx
 | pg o =>
   have:=(eW hL.1).1
   rw [h.live] at this;simp [bO,bE] at this
theorem lx.bare {align:Int} (h:lx s n size align u) (hb:xM s) (h0:u.2=0) : xM u.1:=by
 cases h with
 | bad|form|range|gw|full=>simp at h0
 | @uw i _ _ _ _ hi =>
   refine ⟨fun c hc => ?_,hb.live⟩;rcases (eE hi).1 hc with rfl|⟨j,hj,_,rfl⟩
   ·exact (hb.aD _ (ac0 hi) : s.aa[i].ab=[])
   ·exact hb.aD _ (ac0 hj)
 | new =>
   refine ⟨fun c hc => ?_,hb.live⟩;rcases ac9.1 hc with hc|hc
   ·exact hb.aD c hc
   ·simp only [List.mem_singleton] at hc;subst hc
    rfl
def lF:List (List ByteArray×Int):=[([gx 1],1),([gx 2],2),([gx 4],4),([gx 8],8),([gx 16],16),([gx 32],32)]
theorem Ko {h:Heap} (f:mZ h 6 s) : kk s=lF:=by
 unfold kk;rw [f.br,ae8];have e:((fun c:aQ=>(c.Names,c.aA)) ∘ iR h)=fun i=>([gx (kP i)],kP i):=rfl
 rw [e];decide +kernel
theorem Ax (hi:i<s.aa.length) : (kk s)[i]?=some (s.aa[i].Names,s.aa[i].aA):=by
 unfold kk;rw [aeC,ac7 hi]
 rfl
theorem O6 (hI:dI s) (hb:xM s) (hs:kk s=lF) (h:lx s pr 5 1 u) : u.2=0∧kk u.1=lF++[([pr],5)]:=by
 have hl:s.aa.length=6:=by
  have:=congrArg List.length hs
  simpa [kk,lF] using this
 have hz:∀ j (hj:j<s.aa.length),s.aa[j].aA≠rz 5 1:=fun j hj e=>by
  have h1:=Ax hj;rw [hs] at h1
  have key:∀ j,j<6->(lF[j]?.map fun p=>decide (p.2=rz 5 1))=some false
   | 0,_|1,_|2,_|3,_|4,_|5,_=>by decide +kernel
   | j+6,h=>by omega
  have:=key j (by omega)
  rw [h1] at this;simp [e] at this
 have ht:s.aa.any (dO pr)=false:=by rw [IR,hs];decide +kernel
 have:=h.dm (.new (nX hI.may) ⟨by decide +kernel,.inl rfl⟩ (by omega) ht hz (by omega))
 subst this;refine ⟨rfl,?_⟩;unfold kk at hs ⊢;rw [adr,hs]
 rfl
theorem Kp (hI:dI s) (hb:xM s) (hs:kk s=lF++[([pr],5)]) (h:lx s gf 2 2 u) : u.2=0∧kk u.1=kT:=by
 have hl:s.aa.length=7:=by
  have:=congrArg List.length hs
  simpa [kk,lF] using this
 have h1:=Ax (s:=s) (i:=1) (by omega);rw [hs] at h1
 have e1:s.aa[1].Names=[gx 2]∧s.aa[1].aA=2:=by
  have:(lF++[([pr],5)])[1]?=some ([gx 2],(2:Int)):=by rfl
  rw [this] at h1;injection h1 with h1
  injection h1 with h1 h2
  exact ⟨h1.symm,h2.symm⟩
 have h0:=Ax (s:=s) (i:=0) (by omega);rw [hs] at h0
 have e0:s.aa[0].aA=1:=by
  have:(lF++[([pr],5)])[0]?=some ([gx 1],(1:Int)):=by rfl
  rw [this] at h0;injection h0 with h0
  injection h0 with h0 h2
  exact h2.symm
 have ht:s.aa.any (dO gf)=false:=by rw [IR,hs];decide +kernel
 have hz:s.aa[1].aA=rz 2 2:=by rw [e1.2];decide
 have:=h.dm (.uw (i:=1) (nX hI.may) ⟨by decide +kernel,.inr (.inl rfl)⟩ (by omega) ht (by omega) hz (fun j hj Wc=>by
  obtain rfl:j=0:=by omega
  rw [e0];decide))
 subst this;refine ⟨rfl,?_⟩;unfold kk at hs ⊢;rw [aem,hs];simp only [dD,e1.1,e1.2];decide +kernel
theorem lx.heap {al:Int} (h:lx s n size al u) (h0:u.2=0) : u.1.Heap=s.Heap:=by
 cases h<;>first|rfl|exact absurd h0 (by decide)
theorem Kq (hI:dI s) (hb:xM s) (hs:kk s=kT) : Out s.Heap.bG s [] :=
 ⟨hI,hs,rfl,fun t ht=>(by cases ht),(by simp),fun q a h=>absurd h (hb.none q a)⟩
theorem Hz {b c:Int} (f:mZ (Kn a b c) 6 s) : xM s:=by
 refine ⟨fun c hc => ?_,?_⟩
 ·rw [f.br] at hc;obtain ⟨i,_,rfl⟩:=adk.1 hc
  rfl
 ·rw [f.heap];simp [Kn,ra]
structure uk where
 act:cJ
 Of:Int
def kU (t:bT) : List Value:=[.int .i64 t.At,.int .i64 t.aA,.int .i64 t.Kind,.string t.Name,.int .i64 t.Word,.bool t.nb]
instance:im kU 6:=⟨fun _=>rfl,fun r u hu=>by simp [kU] at hu;rcases hu with rfl|rfl|rfl|rfl|rfl|rfl<;>rfl⟩
theorem Nd (r:bT) : ∀ v∈kU r,v.oneCell'=true:=im.one (enc:=kU) r
def rE (x:uk) : List Value:=[.int .i64 x.act.Kind,.int .i64 x.act.fV,.int .i64 x.act.N,.int .i64 x.act.M,.int .i64 x.act.At,.int .i64 x.act.Flags,.string x.act.Name,.int .i64 x.Of]
instance:im rE 8:=⟨fun _=>rfl,fun r u hu=>by simp [rE] at hu;rcases hu with rfl|rfl|rfl|rfl|rfl|rfl|rfl|rfl<;>rfl⟩
theorem Ui (r:uk) : ∀ v∈rE r,v.oneCell'=true:=im.one (enc:=rE) r
def oo (r:db) (a t l:ga) : List Value:=[.slice r.Words.A r.Words.n r.Words.c,.slice r.Heap.bp.A r.Heap.bp.n r.Heap.bp.c,.slice r.Heap.dK.A r.Heap.dK.n r.Heap.dK.c,.int .i64 r.Heap.bG,.slice r.Heap.av.A r.Heap.av.n r.Heap.av.c,.slice r.Heap.Live.A r.Heap.Live.n r.Heap.Live.c,.slice r.aa.A r.aa.n r.aa.c,a.v,t.v,l.v]
def Ay (a:cJ) (t:bT) : Prop:=(a.Kind=2∧t.Kind=1)∨(a.Kind=6∧t.Name=a.Name∧t.Name≠⟨#[]⟩)∨((a.Kind=9∨a.Kind=11)∧t.Kind=8)∨a.Kind=13∨a.Kind=14
set_option maxHeartbeats 4000000 in
theorem xN (A:Option Addr) (n c lo:Nat) (l:List bT) (w:World) (hO:Own w lo 50 6 kU A n c l) (i:Nat) (hi:i<n) (hn:n<=1000000000000000000) (dz:lo<=w.heap.size) :
 iI prog 60 [.slice A n c,.int .i64 (i:Int),.int .i64 ((i+1:Nat) : Int)] w fun v w'=>v = .slice A (n-1) c∧Own w' lo 50 6 kU A (n-1) c (l.eraseIdx i)∧w.grownBy w' (aI A c):=by
 refine dh func60 rfl ntmps60 rfl ?_;have hle:=hO.le;have mv:=hO.len;have hA:=hO.sl.base;have Gb:w.grownBy w (aI A c):=World.grownBy.refl _ _
 repeat' (first|refine Wz ?_|(refine SW.st (sN (i:=i) (j:=i+1) (k:=n) rfl rfl rfl rfl (by omega) (by omega) (by omega)) rfl ?_))
 all_goals try omega
 have hw:=Ext.refl w;have e0:i+(n-(i+1))=n-1:=by omega
 have el:l.take i++l.drop (i+1)=l.eraseIdx i:=by rw [adB]
 refine CW.any 6 mixed (dg (by kernel_rfl)) rfl fun w1 ai aJ => ?_
 obtain ⟨hw,hO⟩:=cX ai hw hO;clear ai;refine Wa ?_;refine Wu 2 aJ rfl (dk (k:=i) rfl rfl (by omega)) ?_;refine Wa ?_;refine Wu 5 aJ rfl (bc (k:=i+1) rfl rfl (by omega) (by omega)) ?_;refine SA.done (by kernel_rfl) ?_;refine SW.uN (hO.pre (i:=i) (by omega)) (hO.sl.drop (i+1) c (by omega) (by omega)) (by omega) rfl rfl rfl fun w2 bh hg => ?_
 rw [e0,el] at bh;rw [e0];have Gc:=(hw.gr (aI A c));repeat' (first|refine Wz ?_|(refine SW.st (jP (i:=n-1) (j:=n) rfl rfl rfl (by omega) (by omega)) rfl ?_))
 obtain ⟨g,rest,rfl,h1,h2,h3,h4,h5,h6⟩:=bh.opened (by omega);have oZ:((l.eraseIdx i).flatMap kU).length=(n-1)*6:=by rw [aV,bh.len]
 refine SW.clear ((n-1)*6) h2 rfl (by rw [adb,oZ];omega) (fun h0 => ?_) (by decide) fun w3 cs lJ hB qo => ?_
 ·rw [if_neg (by omega)];simp [cU]
 ·have e7:=eU ((l.eraseIdx i).flatMap kU) (rest.take ((n-(n-1))*6)) (rest.drop ((n-(n-1))*6)) cs (by rw [lJ];simp;omega) (o:=(n-1)*6) oZ.symm;rw [ac6 (List.flatMap _ _),ac4] at e7;rw [e7,ac6] at hB;have D4:=Own.closed (l:=l.eraseIdx i) bh.len hB (by rw [adb,lJ];simp;omega) h4 (by omega) h5 h1;rw [<- h6] at qo;have AK:=bQ (bQ Gc hg (.inl rfl)) qo (.inl rfl);refine Wz ?_;exact ae.bj rfl rfl ⟨_,rfl,rfl,D4,AK⟩
set_option maxHeartbeats 8000000 in
theorem Nf (b:Nat) (r:db) (p q z:ga) (x:uk) (l:List bT) (w:World) (hb:aS w b 48 (oo r p q z)) (hl:Sl w 6 kU z.A z.n l) (hn:z.n<=1000000) (ho : 0<x.Of∧x.Of<=1000000) :
 bI prog 25 [.pointer (some ⟨b,0,none⟩),.agg (rE x).toArray] w fun v _ => ∃ i:Int,v = .int .i64 i∧(i = -1 ∨ ∃ j:Nat,∃ h:j<l.length,i=(j:Int)∧Ay x.act l[j]):=by
 refine aE func25 rfl ntmps25 rfl ?_;refine CW.seq (CW.region (SW.box rfl rfl fun b3 w1 hw cg ap => ?_));have hb:=hb.ext hw;have mv:=hl.len;have hA:=hl.base;refine Wz ?_
 refine CW.loop (fun s:Nat×Option Addr×Nat×Nat×List Int=>[(0,.pointer (some ⟨b,0,none⟩)),(3,.pointer (some ⟨b3,0,none⟩)),(5,.slice s.2.1 s.2.2.1 s.2.2.2.1),(11,.slice z.A z.n z.c),(12,.int .i64 (z.n:Int)),(13,.int .i64 (s.1:Int))])
  (fun s w'=>s.1<=z.n∧s.2.2.1<=s.1∧Ext w w'∧aS w' b 48 (oo r p q z)∧aS w' b3 84 (rE x)∧Own w' w.heap.size 3 1 bw s.2.1 s.2.2.1 s.2.2.2.1 s.2.2.2.2 ∧ ∀ i∈s.2.2.2.2,∃ j:Nat,∃ h:j<l.length,i=(j:Int)∧Ay x.act l[j]) (fun s=>z.n-s.1) (0,none,0,0,[])
  ⟨rfl,rfl,rfl,rfl,rfl,rfl,trivial⟩ ⟨adO _,adO _,hw,hb,ap,Own.fv _ _ _ _ _ _,fun i hi=>by cases hi⟩ ?_
 clear hw hb ap;rintro ⟨j,Y,m,f,ys⟩ w' ⟨hj,hmj,hw,hb,ap,hY,hP⟩
 simp only at hj hmj hY hP ⊢;by_cases mO:j<z.n
 ·have pA:j<l.length:=by omega
  repeat' (first|refine Wz ?_|refine Wo hw ((hl.all mO)) ?_)
  refine SW.alloc rfl fun b7 w1 ai iB bd => ?_
  refine Wz ?_;refine SW.ag bd rfl rfl rfl rfl (Nd l[j]) fun w2 bq hg => ?_
  have ar:=ai.own iB hg;have fX:=hw.up iB
  obtain ⟨hw,hb,ap,hY⟩:=dG ar hw hb ap hY;have bd:=bq;clear bq ai hg ar;obtain ⟨t,ht⟩ : ∃ t,l[j]=t:=⟨_,rfl⟩;rw [ht] at bd;repeat' (first|refine Wz ?_|(refine CW.uA rfl (fun h => ?_) (fun h => ?_))|refine SW.fZ rfl rfl rfl (fun h => ?_) (fun h => ?_)|(refine SW.st (mE rfl rfl) rfl ?_)|(refine SW.st (vR rfl rfl) rfl ?_))
  all_goals try exact ae.again (j+1,Y,m,f,ys) ⟨rfl,rfl,rfl,rfl,rfl,rfl,trivial⟩ (by simp only;omega) ⟨by simp only;omega,by simp only;omega,hw,hb,ap,hY,hP⟩
  all_goals
   have hp:Ay x.act t:=by
    first
     | exact .inl ⟨by assumption,by assumption⟩
     | exact .inr (.inl ⟨by assumption,by assumption,by assumption⟩)
     | exact .inr (.inr (.inl ⟨by omega,by assumption⟩))
     | exact .inr (.inr (.inr (by omega)))
   refine SW.dR rfl rfl rfl rfl rfl fun vq w9 th lB bX => ?_
   (obtain ⟨hw,hb,ap,hY⟩:=dG th hw hb ap hY);clear th;refine SW.append hY (aS.vF (enc:=bw) (x:=(j:Int)) bX) hw.size rfl rfl rfl (by omega) (by omega) fun Y2 f2 qU Ss hg => ?_
   have hG:=hY.gr hg;have hw:=aF hw hg (ac3 _) hY.ba;(obtain ⟨hb,ap⟩:=cX hG hb ap);clear hY hg hG bX;refine Wz ?_
   exact ae.again (j+1,Y2,m+1,f2,ys++[(j:Int)]) ⟨rfl,rfl,rfl,rfl,rfl,rfl,trivial⟩ (by simp only;omega) ⟨by simp only;omega,by simp only;omega,hw,hb,ap,Ss,fun i hi=>by
    rcases ac9.1 hi with hi|hi
    ·exact hP i hi
    ·simp only [List.mem_singleton] at hi;exact ⟨j,pA,hi,by rw [ht];exact hp⟩⟩
 ·have hym:=hY.len;have hYA:=hY.sl.base;by_cases DU:m=0
  ·subst DU;refine Wz ?_;exact ae.bj rfl rfl ⟨_,rfl,hw,_,rfl,.inl rfl⟩
  ·have hmi:((m:Nat) : Int)≠0:=by omega
   have AI:∃ k:Nat,x.Of.tmod (m:Int)=(k:Int)∧k<m:=by
    rw [adE (by omega)];have h1:=afe x.Of hmi;have h2:=aeU x.Of (show (0:Int)<m by omega);obtain ⟨k,hk⟩:=ada h1;exact ⟨k,hk,by omega⟩
   obtain ⟨k,hk,Bg⟩:=AI;repeat' (first|refine Wz ?_|refine SW.st (cm (k) rfl rfl (by assumption) (by omega) (by omega)) rfl ?_|refine Wl (hY.sl.one Bg (congrArg bw (rfl:ys[k]=ys[k]))) ?_)
   exact ae.bj rfl rfl ⟨_,rfl,hw,_,rfl,.inr (hP _ (ac0 (by omega)))⟩
variable {s0:ah}
inductive re (cpus:Int) : uk->Prop
 | fp {c n:Int} (hn : 1<=n∧n<=140) : re cpus ⟨⟨8,c,n,0,0,0,⟨#[]⟩⟩,0⟩
 | kA {c o:Int} (ho : 1<=o∧o<=9) : re cpus ⟨⟨9,c,0,0,0,0,⟨#[]⟩⟩,o⟩
 | dX {c n o:Int} (hn : 1<=n∧n<=60) (ho : 1<=o∧o<=9) : re cpus ⟨⟨11,c,n,0,0,0,⟨#[]⟩⟩,o⟩
 | bC {c n f:Int} (hn : 0<=n∧n<=4) : re cpus ⟨⟨1,c,n,0,0,f,⟨#[]⟩⟩,0⟩
 | nw {c o:Int} (ho : 1<=o∧o<=9) : re cpus ⟨⟨2,c,0,0,0,0,⟨#[]⟩⟩,o⟩
 | new {c:Int} {n:ByteArray} (hn:n=pr∨n=gf) : re cpus ⟨⟨5,c,0,0,0,0,n⟩,0⟩
 | drop {c o:Int} {n:ByteArray} (hn:n=pr∨n=gf) (ho : 1<=o∧o<=9) : re cpus ⟨⟨6,c,0,0,0,0,n⟩,o⟩
 | tidy {c k:Int} {n:ByteArray} (hk:k=12∨k=7) (hn:n.size<=8) : re cpus ⟨⟨k,c,0,0,0,0,n⟩,0⟩
 | bulk {c n:Int} (hn : 1<=n∧n<=30) : re cpus ⟨⟨15,c,n,0,0,0,pr⟩,0⟩
 | write {c m o:Int} (hm : 0<=m∧m<1000) (ho : 1<=o∧o<=9) : re cpus ⟨⟨13,c,0,m,0,0,⟨#[]⟩⟩,o⟩
 | read {c o:Int} (ho : 1<=o∧o<=9) : re cpus ⟨⟨14,c,0,0,0,0,⟨#[]⟩⟩,o⟩
def oq:uk:=⟨⟨3,0,5,1,0,0,pr⟩,0⟩
def jr:uk:=⟨⟨3,0,2,2,0,0,gf⟩,0⟩
def dy (a:cJ) (t:Int) : cJ:=⟨a.Kind,a.fV,a.N,a.M,t,a.Flags,a.Name⟩
inductive qd (a:cJ) (x:kz) (i:Int) (l:List bT) : List bT->Prop
 | k8 (hk:a.Kind=8) : qd a x i l (l++[⟨x.N,a.N,8,⟨#[]⟩,0,false⟩])
 | k1 (hk:a.Kind=1) (hN:(0<=x.N∧x.N<=100000)∧0<=a.N∧a.N<=4) : qd a x i l (l++[⟨x.N*16,16*pw a.N,1,⟨#[]⟩,0,false⟩])
 | k5 (hk:a.Kind=5) (hN:a.Name=pr∨a.Name=gf) : qd a x i l (l++[⟨x.N,om a.Name,5,a.Name,0,false⟩])
 | Xb (hk:a.Kind=15) (hl:x.L.length<=1000) : qd a x i l (l++x.L.map fun p=>⟨p,5,5,a.Name,0,false⟩)
 | back {j:Nat} (hk:a.Kind=9∨a.Kind=2∨a.Kind=6) (hi:i=(j:Int)) (hj:j<l.length) : qd a x i l (l.eraseIdx j)
 | move {j:Nat} (hk:a.Kind=11) (hi:i=(j:Int)) (hj:j<l.length) : qd a x i l (l.set j ⟨x.N,a.N,l[j].Kind,l[j].Name,l[j].Word,l[j].nb⟩)
 | write {j:Nat} (hk:a.Kind=13) (hi:i=(j:Int)) (hj:j<l.length) : qd a x i l (l.set j ⟨l[j].At,l[j].aA,l[j].Kind,l[j].Name,a.M,true⟩)
 | none (hk:a.Kind=3∨a.Kind=7∨a.Kind=12∨a.Kind=14) : qd a x i l l
theorem qd.len {a:cJ} {x:kz} {i:Int} {l l':List bT} (h:qd a x i l l') : l'.length<=l.length+1000:=by
 cases h with
 | back=>have:=aep l ‹Nat›;omega
 | move|write=>simp
 | none=>omega
 | Xb=>simp only [List.length_append,List.length_map];omega
 | k8|k1|k5=>simp
inductive Ph (s0:ah) : Nat->ah->List bT->Prop
 | p0:Ph s0 0 s0 []
 | p1 {s:ah} (hc:s.Heap.bG=s0.Heap.bG) (hI:dI s) (hb:xM s) (hs:kk s=lF++[([pr],5)]) : Ph s0 1 s []
 | go {j:Nat} {s:ah} {l:List bT} (h : 2<=j) (ho:Out s0.Heap.bG s l) : Ph s0 j s l
def km:List Int:=[8,11,5,3,6,9,7,1,2,12,15]
structure pu (s0:ah) (j:Nat) (s:ah) (l:List bT) (a:cJ) (i:Int) : Prop where
 kinds:a.Kind∈km∨a.Kind=13∨a.Kind=14
 at_ : -100000<=a.At∧a.At<=100000
 name:a.Name.size<=8
 nw:a.Kind=2->(0<=a.At∧a.At<256)∧df s (a.At*16)=true
 word:a.Kind=13∨a.Kind=14->gb s a.At true
 room:a.Kind=13->qW a.M
 out:∀ u,cx s a u->u.2.Code=0 -> ∃ l',qd a u.2 i l l'∧Ph s0 (j+1) u.1 l'
 fail:∀ u,cx s a u->u.2.Code≠0->Ph s0 (j+1) u.1 l
theorem pu.of {l:List bT} {a:cJ} {i:Int} (hk:a.Kind∈km) (h2:a.Kind≠2) (kX : -100000<=a.At∧a.At<=100000) (hn:a.Name.size<=8) (ho:∀ u,cx s a u->u.2.Code=0 -> ∃ l',qd a u.2 i l l'∧Ph s0 (j+1) u.1 l') (hf:∀ u,cx s a u->u.2.Code≠0->Ph s0 (j+1) u.1 l) : pu s0 j s l a i:=by
 have h13:a.Kind≠13∧a.Kind≠14:=by
  simp only [km,List.mem_cons,List.not_mem_nil,or_false] at hk;omega
 exact ⟨.inl hk,kX,hn,fun h=>absurd h h2,fun h=>by omega,fun h=>absurd h h13.1,ho,hf⟩
theorem FC:(⟨#[]⟩ : ByteArray).size<=8:=by decide
theorem vA:pr.size<=8∧gf.size<=8:=by decide
theorem Ng (hI:dI s) (hb:xM s) (hs:kk s=lF) : pu s 0 s [] oq.act (-1):=by
 have key:∀ u,cx s oq.act u->u.2.Code=0∧Ph s 1 u.1 []:=fun u hu=>by
  obtain ⟨v,hv,rfl⟩:=hu.YK rfl;obtain ⟨h0,h1⟩:=O6 hI hb hs hv;simp only;rw [ol h0];exact ⟨h0,.p1 (by rw [hv.heap h0]) (hv.jS hI h0).1 (hv.bare hb h0) h1⟩
 exact .of (by simp [oq,km]) (by simp [oq]) (by simp [oq]) vA.1 (fun u hu h0=>⟨[],.none (.inl rfl),(key u hu).2⟩) (fun u hu h0=>absurd (key u hu).1 h0)
theorem Nh (hc:s.Heap.bG=s0.Heap.bG) (hI:dI s) (hb:xM s) (hs:kk s=lF++[([pr],5)]) : pu s0 1 s [] jr.act (-1):=by
 have key:∀ u,cx s jr.act u->u.2.Code=0∧Ph s0 2 u.1 []:=fun u hu=>by
  obtain ⟨v,hv,rfl⟩:=hu.YK rfl;obtain ⟨h0,h1⟩:=Kp hI hb hs hv;simp only;rw [ol h0];have ho:=Kq (hv.jS hI h0).1 (hv.bare hb h0) h1;rw [hv.heap h0,hc] at ho;exact ⟨h0,.go (ac3 _) ho⟩
 exact .of (by simp [jr,km]) (by simp [jr]) (by simp [jr]) vA.2 (fun u hu h0=>⟨[],.none (.inl rfl),(key u hu).2⟩) (fun u hu h0=>absurd (key u hu).1 h0)
section
variable {s0 s:ah} {l:List bT} {j:Nat} {cpus:Int}
theorem lG (hj : 2<=j) (h:Out s0.Heap.bG s l) {a:cJ}:∀ u,cx s a u->u.2.Code≠0->Ph s0 (j+1) u.1 l:=fun u hu h0=>by
 rw [hu.fail h0];exact .go (by omega) h
theorem Ni (hj : 2<=j) (h:Out s0.Heap.bG s l) {x:uk} (hx:re cpus x) (h0 : ¬ 0<x.Of) : pu s0 j s l x.act (-1):=by
 cases hx with
 | kA ho|dX _ ho|nw ho|drop _ ho|write _ ho|read ho=>exact absurd (show (0:Int)<_ by simp only;omega) h0
 | fp hn=>exact .of (by simp [km]) (by simp) (by simp) FC (fun u hu h0=>⟨_,.k8 rfl,.go (by omega) (Dz h rfl hu h0)⟩) (lG hj h)
 | bC hn =>
   refine .of (by simp [km]) (by simp) (by simp) FC (fun u hu h0 => ?_) (lG hj h);obtain ⟨v,hv,e⟩:=hu.YJ rfl
   have h2 : 0<=u.2.N∧u.2.N<=100000:=by
    rw [e] at h0 ⊢;have:=hv.at_ h0
    simp only;omega
   exact ⟨_,.k1 rfl ⟨h2,hn⟩,.go (by omega) (Ho h rfl hu h0)⟩
 | new hn =>
   have hz:=vA;exact .of (by simp [km]) (by simp) (by simp) (by rcases hn with rfl|rfl<;>simp [hz]) (fun u hu h0=>⟨_,.k5 rfl hn,.go (by omega) (M4 h rfl hn hu h0)⟩) (lG hj h)
 | tidy hk hn=>exact .of (by simp only [km,List.mem_cons];omega) (by simp only;omega) (by simp) hn (fun u hu h0=>⟨_,.none (by simp only;omega),.go (by omega) (Co h (by simp only;omega) hu)⟩) (lG hj h)
 | bulk hn =>
   refine .of (by simp [km]) (by simp) (by simp) vA.1 (fun u hu h0 => ?_) (lG hj h);obtain ⟨h1,h2⟩:=Kg h rfl rfl hu h0;exact ⟨_,.Xb rfl (by simp only at h2;omega),.go (by omega) h1⟩
def sC (a:cJ) (t:bT) : Int:=if a.Kind=2 then t.At / 16 else t.At
theorem Nj (hj : 2<=j) (h:Out s0.Heap.bG s l) {x:uk} (hx:re cpus x) (h0 : 0<x.Of) (hi:i<l.length) (hp:Ay x.act l[i]) : pu s0 j s l (dy x.act (sC x.act l[i])) (i:Int):=by
 obtain ⟨q,hq⟩:=h.fits _ (ac0 hi);have hr:=fR h.sys.may hq.rD;have hw:=xq h.sys.may hq.rD;cases hx with
 | fp|bC|new|tidy|bulk=>exact absurd h0 (by simp)
 | kA ho =>
   exact .of (by simp [dy,km]) (by simp [dy]) (by simp [dy,sC];omega) (by simp [dy];decide) (fun u hu h0=>⟨_,.back (.inl rfl) rfl hi,.go (by omega) (wK h hi (.inl ⟨.inl rfl,by simp [dy,sC]⟩) hu h0)⟩) (lG hj h)
 | dX hn ho =>
   have hk:l[i].Kind=8:=by unfold Ay at hp;simp only at hp;omega
   exact .of (by simp [dy,km]) (by simp [dy]) (by simp [dy,sC];omega) (by simp [dy];decide) (fun u hu h0=>⟨_,.move rfl rfl hi,.go (by omega) (Kh h hi rfl hk (by simp [dy,sC]) hu h0)⟩) (lG hj h)
 | @nw c o ho =>
   have hk:l[i].Kind=1:=by unfold Ay at hp;simp only at hp;omega
   have vZ:∃ o,q = .pg o:=by
    rcases hq.kind with ⟨_,h⟩|⟨h,_⟩|⟨h,_⟩
    ·exact h
    ·omega
    ·omega
   obtain ⟨o,rfl⟩:=vZ;have h16:=(eW hq.rD.1).2.2;have e:l[i].At / 16*16=l[i].At:=by omega
   have ea:sC (⟨2,c,0,0,0,0,⟨#[]⟩⟩ : cJ) l[i]=l[i].At / 16:=by simp [sC]
   have h2:(0<=l[i].At / 16∧l[i].At / 16<256)∧df s (l[i].At / 16*16)=true:=by
    rw [e];exact ⟨by omega,hq.rD.1⟩
   exact ⟨.inl (by simp [dy,km]),by simp only [dy,ea];omega,by simp [dy];decide,fun _=>by simp only [dy,ea];exact h2,fun h=>by simp [dy] at h,fun h=>by simp [dy] at h,fun u hu h0=>⟨_,.back (.inr (.inl rfl)) rfl hi,.go (by omega) (wK h hi (.inr ⟨rfl,by simp only [dy,ea];exact e⟩) hu h0)⟩,lG hj h⟩
 | drop hn ho =>
   have hz:=vA;exact .of (by simp [dy,km]) (by simp [dy]) (by simp [dy,sC];omega) (by rcases hn with rfl|rfl<;>simp [dy,hz]) (fun u hu h0=>⟨_,.back (.inr (.inr rfl)) rfl hi,.go (by omega) (wK h hi (.inl ⟨.inr rfl,by simp [dy,sC]⟩) hu h0)⟩) (lG hj h)
 | write hm ho =>
   exact ⟨.inr (.inl rfl),by simp [dy,sC];omega,by simp [dy];decide,fun h=>by simp [dy] at h,fun _=>by simpa [dy,sC] using hw,fun _=>by unfold qW;simp only [dy];omega,fun u hu h0=>⟨_,.write rfl rfl hi,.go (by omega) (Hp h hi rfl (by simp [dy,sC]) hu h0)⟩,lG hj h⟩
 | read ho =>
   exact ⟨.inr (.inr rfl),by simp [dy,sC];omega,by simp [dy];decide,fun h=>by simp [dy] at h,fun _=>by simpa [dy,sC] using hw,fun h=>by simp [dy] at h,fun u hu h0=>⟨_,.none (.inr (.inr (.inr rfl))),.go (by omega) (Co h (.inr (.inr rfl)) hu)⟩,lG hj h⟩
end
set_option maxHeartbeats 4000000 in
theorem Nk (r:db) (s:ah) (a:cJ) (lo:Nat) (w:World) (hO:iT w lo r s) (dz:lo<=w.heap.size) (hI:dI s) :
 bI prog 29 [.agg (aP r).toArray,.agg (eB a).toArray] w fun v w' => ∃ u,oU s a u ∧ ∃ q,v = .tuple #[.agg (aP q).toArray,.int .i64 u.2]∧iT w' lo q u.1:=by
 obtain ⟨k,cpu,n,m,At,fl,nm⟩:=a;have hf:=hI.cV;have hs:=hf.small;have hM:=hI.may;refine aE func29 rfl ntmps29 rfl ?_;refine CW.seq (CW.region (SW.box rfl rfl fun b2 w1 hw fk au => ?_));have l2:=au.lt;refine SW.box rfl rfl fun b3 w2 bt cg ap => ?_
 have fW:=hw.up cg
 (obtain ⟨hw,au⟩:=cX bt hw au);clear bt;have l3:=ap.lt;refine SW.alloc rfl fun b4 w2 bt fJ aH => ?_
 have eu:=hw.up fJ
 (obtain ⟨hw,au,ap⟩:=cj bt hw au ap);clear bt;have Nl:b4≠b2:=by omega
 by_cases h1 : 0<=At∧At<256
 ·obtain ⟨YR,RE⟩:=h1;have h1 : 0<=At∧At<256:=⟨YR,RE⟩
  repeat' (first|refine Wy ?_|refine Wl (ap.cell (i:=4) (v := .int .i64 At) rfl) ?_|refine Wm ((fun _ _=>au.cell)) ?_)
  refine Wk (s8 r s (At*16) _ (hO.rd.ext hw) hs hM (by omega)) fun v w6 EV hv => ?_
  obtain ⟨ix,rfl,rG⟩:=hv;(obtain ⟨hw,au,ap,aH⟩:=dG EV hw au ap aH);cases hW:df s (At*16)
  ·have bh:=hO.ext hw;repeat' (first|refine Wy ?_|(refine CW.gj rfl ?_)|refine Wm ((fun _ _=>au.cell)) ?_)
   refine SW.ag aH rfl rfl rfl rfl (aY r) fun w7 hR hg => ?_
   have hG:=aH.gr hg;have hw:=hw.own eu hg;(have bh:=bh.aN hG rfl);repeat' (first|refine Wy ?_|fail);exact ae.dw rfl rfl rfl hR rfl ⟨_,rfl,hw,_,.no h1 hW,r,rfl,bh⟩
  ·repeat' (first|refine Wy ?_|(refine CW.fU rfl ?_)|refine Wm ((me au)) ?_|refine Wl (ap.cell (i:=1) (v := .int .i64 cpu) rfl) ?_|refine Wl (ap.cell (i:=4) (v := .int .i64 At) rfl) ?_)
   refine Wk (ve r.Heap s.Heap cpu At _ (hO.rd.heap.ext hw) hs.heap hf.cr (by omega)) fun v w7 je hv => ?_
   obtain ⟨H,rfl,hH⟩:=hv;have hH:=hH.low (ac2 dz hw.size);(obtain ⟨hw,au,ap,aH⟩:=dG je hw au ap aH);have FY:=fun he=>oU.ok (s:=s) (a:=⟨k,cpu,n,m,At,fl,nm⟩) h1 hW he
   have cS:=fun he=>oU.fault (s:=s) (a:=⟨k,cpu,n,m,At,fl,nm⟩) h1 hW he
   simp only at FY cS;generalize fa s.Heap cpu At=u at hH FY cS ⊢
   obtain ⟨e,u1⟩:=u;simp only at hH FY cS ⊢;by_cases he:e=0
   ·subst he;repeat' (first|refine Wy ?_|fail);have bh:=hO.ext hw;refine SW.alloc rfl fun b8 w1 ai oC bg => ?_
    skip;refine SW.ag bg rfl rfl rfl rfl (dU H) fun w2 tu hg => ?_
    have ar:=ai.own oC hg;have gz:=hw.up oC
    obtain ⟨hw,au,ap,aH,hH,bh⟩:=iS ar hw au ap aH hH bh;have bg:=tu;clear tu ai hg ar;repeat' (first|refine Wy ?_|refine Wm ((fun _ _=>bg.cell)) ?_)
    refine SW.gi 1 au rfl rfl rfl (ady rfl) (dU H) (aP ⟨r.Words,H,r.aa⟩) rfl fun rq oe hg => ?_
    have hG:=au.gr hg;have aH:=aH.grown hg (by simpa using Nl);have hw:=hw.own fk hg;(obtain ⟨hH,bh⟩:=cX hG hH bh);repeat' (first|refine Wy ?_|refine Wm ((fun _ _=>oe.cell)) ?_)
    refine SW.ag aH rfl rfl rfl rfl (aY ⟨r.Words,H,r.aa⟩) fun w7 hR hg => ?_
    have hG:=aH.gr hg;have hw:=hw.own eu hg;(obtain ⟨hH,bh⟩:=cX hG hH bh);repeat' (first|refine Wy ?_|fail);exact ae.dw rfl rfl rfl hR rfl ⟨_,rfl,hw,_,FY rfl,⟨r.Words,H,r.aa⟩,rfl,bh.words,hH,bh.br⟩
   ·repeat' (first|refine Wy ?_|fail);have bh:=hO.ext hw;refine SW.alloc rfl fun b8 w1 ai oC bg => ?_
    skip;refine SW.ag bg rfl rfl rfl rfl (dU H) fun w2 tu hg => ?_
    have ar:=ai.own oC hg;have gz:=hw.up oC
    obtain ⟨hw,au,ap,aH,hH,bh⟩:=iS ar hw au ap aH hH bh;have bg:=tu;clear tu ai hg ar;repeat' (first|refine Wy ?_|refine Wm ((fun _ _=>au.cell)) ?_)
    refine SW.ag aH rfl rfl rfl rfl (aY r) fun w7 hR hg => ?_
    have hG:=aH.gr hg;have hw:=hw.own eu hg;(have bh:=bh.aN hG rfl);repeat' (first|refine Wy ?_|fail);exact ae.dw rfl rfl rfl hR rfl ⟨_,rfl,hw,_,cS he,r,rfl,bh⟩
 ·have hc:At<0∨(0<=At∧256<=At):=by omega
  rcases hc with h2|h2
  all_goals repeat' (first|refine Wy ?_|refine Wl (ap.cell (i:=4) (v := .int .i64 At) rfl) ?_|refine Wm ((fun _ _=>au.cell)) ?_)
  all_goals
   have bh:=hO.ext hw;refine SW.ag aH rfl rfl rfl rfl (aY r) fun w7 hR hg => ?_
   have hG:=aH.gr hg;have hw:=hw.own eu hg;(have bh:=bh.aN hG rfl);repeat' (first|refine Wy ?_|fail);exact ae.dw rfl rfl rfl hR rfl ⟨_,rfl,hw,_,.range h1,r,rfl,bh⟩
set_option maxHeartbeats 4000000 in
theorem Nm (a:cJ) (hk:a.Kind=1) : jn dI a:=by
 intro r s lo w hO dz hI hS eY
 obtain ⟨k,cpu,n,m,At,fl,nm⟩:=a
 simp only at hk
 subst hk
 have hf:=hI.cV
 have hs:=hf.small
 have hM:=hI.may
 refine aE func16 rfl ntmps16 rfl ?_
 refine CW.seq (CW.region (SW.box rfl rfl fun b2 w1 hw fk au => ?_))
 have l2:=au.lt
 refine SW.box rfl rfl fun b3 w2 bt cg ap => ?_
 have fW:=hw.up cg
 (obtain ⟨hw,au⟩:=cX bt hw au)
 clear bt
 have l3:=ap.lt
 refine SW.alloc rfl fun b4 w2 bt fJ aH => ?_
 have eu:=hw.up fJ
 (obtain ⟨hw,au,ap⟩:=cj bt hw au ap)
 clear bt
 have l4:=aH.lt
 refine SW.alloc rfl fun b5 w2 bt gm aL => ?_
 have jD:=hw.up gm
 (obtain ⟨hw,au,ap,aH⟩:=dG bt hw au ap aH)
 clear bt
 have l5:=aL.lt
 repeat' (first|(first|refine CW.seq ?_|refine CW.region ?_)|(refine ae.seq ?_)|refine SW.nil ?_|(show SW _ _ _ _ (⟨_,Op.load _ _,_,_,_,none⟩::_) _ _;refine Wm ((fun _ _=>au.cell)) ?_))
 refine SW.alloc rfl fun b6 w1 ai dt aq => ?_
 skip
 refine SW.ag aq rfl rfl rfl rfl (aY r) fun w2 bP hg => ?_
 have ar:=ai.own dt hg
 have cG:=hw.up dt
 have hw:=hw.trans ar
 have au:=au.ext ar
 have ap:=ap.ext ar
 have aH:=aH.ext ar
 have aL:=aL.ext ar
 have aq:=bP
 clear bP ai hg ar
 have l6:=aq.lt
 repeat' (first|(first|refine CW.seq ?_|refine CW.region ?_)|(refine ae.seq ?_)|refine SW.nil ?_|(show SW _ _ _ _ (⟨_,Op.build _ _,_,_,_,none⟩::_) _ _;refine SW.st (iH rfl rfl) rfl ?_))
 refine SW.alloc rfl fun b7 w1 ai iB bd => ?_
 skip
 refine SW.ag bd rfl rfl rfl rfl (fh ⟨0,0,.nil⟩) fun w2 bq hg => ?_
 have ar:=ai.own iB hg
 have fX:=hw.up iB
 have hw:=hw.trans ar
 have au:=au.ext ar
 have ap:=ap.ext ar
 have aH:=aH.ext ar
 have aL:=aL.ext ar
 have aq:=aq.ext ar
 have bd:=bq
 clear bq ai hg ar
 have xr:b2≠b6:=by omega
 have xt:b4≠b6:=by omega
 have Nl:b2≠b4:=by omega
 have rf:b5≠b7:=by omega
 clear l2 l3 l4 l5 l6
 repeat' (first|(first|refine CW.seq ?_|refine CW.region ?_|refine CW.block ?_|refine CW.uB rfl (by omega) ?_)|(refine ae.seq ?_)|refine SW.nil ?_|refine SW.pure rfl rfl ?_|(show SW _ _ _ _ (⟨_,Op.fieldAddr _ _ _,_,_,_,none⟩::_) _ _;refine SW.st (az rfl) rfl ?_)|(show SW _ _ _ _ (⟨_,Op.load _ _,_,_,_,none⟩::_) _ _;first|refine Wm ((me au)) ?_|refine Wl (ap.cell (i:=1) (v := .int .i64 cpu) rfl) ?_|refine Wl (ap.cell (i:=2) (v := .int .i64 n) rfl) ?_|refine Wl (ap.cell (i:=5) (v := .int .i64 fl) rfl) ?_|refine Wl (ap.cell (i:=0) (v := .int .i64 1) rfl) ?_))
 refine Wk (pZ r.Heap s.Heap cpu n fl _ (hO.rd.heap.ext hw) hs.heap hf.cr (eY.ext hw)) fun v w7 je hv => ?_
 obtain ⟨u,hu,H,rfl,hH⟩:=hv
 have hH:=hH.low (ac2 dz hw.size)
 (obtain ⟨hw,au,ap,aH,aL,aq,bd⟩:=ur je hw au ap aH aL aq bd)
 clear je
 have bh:=hO.ext hw
 have hA:=cx.bC (s:=s) (a:=⟨1,cpu,n,m,At,fl,nm⟩) rfl hu
 obtain ⟨u1,N,e⟩:=u
 simp only at hA hH ⊢
 by_cases he:e=0
 ·rw [mW,if_pos he,he] at hA
  rw [he]
  repeat' (first|refine SW.pure rfl rfl ?_|(show SW _ _ _ _ (⟨_,Op.fieldAddr _ _ _,_,_,_,none⟩::_) _ _;refine SW.st (az rfl) rfl ?_))
  refine SW.gi 1 aq rfl rfl rfl (ady rfl) (dU H) (aP ⟨r.Words,H,r.aa⟩) rfl fun rq bP hg => ?_
  have hG:=aq.gr hg
  have au:=au.grown hg (by simpa using xr)
  have aH:=aH.grown hg (by simpa using xt)
  have hw:=hw.own cG hg
  (obtain ⟨ap,aL,bd,bh,hH⟩:=fI hG ap aL bd bh hH)
  have aq:=bP
  clear bP hG hg
  repeat' ((show SW _ _ _ _ (⟨_,Op.fieldAddr _ _ _,_,_,_,none⟩::_) _ _;refine SW.st (az rfl) rfl ?_))
  refine Wb (i:=1) bd fun jb bq hg => ?_
  have hG:=bd.gr hg
  have aL:=aL.grown hg (by simpa using rf)
  have hw:=hw.own fX hg
  (obtain ⟨au,ap,aH,aq,bh,hH⟩:=iS hG au ap aH aq bh hH)
  have bd:aS _ b7 55 (cb ⟨0,N,.nil⟩):=bq
  clear bq hG hg
  repeat' ((show SW _ _ _ _ (⟨_,Op.fieldAddr _ _ _,_,_,_,none⟩::_) _ _;refine SW.st (az rfl) rfl ?_))
  refine Wb (i:=0) bd fun jb bq hg => ?_
  have hG:=bd.gr hg
  have aL:=aL.grown hg (by simpa using rf)
  have hw:=hw.own fX hg
  (obtain ⟨au,ap,aH,aq,bh,hH⟩:=iS hG au ap aH aq bh hH)
  have bd:aS _ b7 55 (cb ⟨0,N,.nil⟩):=bq
  clear bq hG hg
  repeat' (first|(first|refine CW.seq ?_|refine CW.region ?_|refine CW.uD rfl (by omega) ?_|refine CW.skip ?_)|(first|refine ae.seq ?_|refine ae.eG ?_)|refine SW.nil ?_|refine SW.pure rfl rfl ?_|(show SW _ _ _ _ (⟨_,Op.fieldAddr _ _ _,_,_,_,none⟩::_) _ _;refine SW.st (az rfl) rfl ?_)|(show SW _ _ _ _ (⟨_,Op.load _ _,_,_,_,none⟩::_) _ _;refine Wl (bd.cell (i:=0) (v := .int .i64 0) rfl) ?_))
  refine CW.gl 2 3 (fun w2=>aS w2 b7 55 (cb ⟨0,N,.nil⟩)) mixed (by kernel_rfl) fun w1 ai aJ => ?_
  obtain ⟨hw,au,aH,aL,aq,bd,bh,hH⟩:=DJ ai hw au aH aL aq bd bh hH;clear ai
  refine Wt 0 [] [] aJ rfl (aX rfl rfl ((fun _ _=>aq.cell))) ?_
  refine SF.cq 1 [] aJ rfl (by kernel_rfl) (by kernel_rfl) (by kernel_rfl) (aX rfl rfl ((fun _ _=>bd.cell))) (fun w2 hS=>aX rfl rfl ((fun _ _=>hS.cell))) rfl ?_
  refine SF.turn rfl (by kernel_rfl) rfl ?_
  refine SW.ag aH rfl rfl rfl rfl (aY ⟨r.Words,H,r.aa⟩) fun w8 cW hg => ?_
  have hG:=aH.gr hg
  have hw:=hw.own eu hg
  (obtain ⟨aL,bd,bh,hH⟩:=dG hG aL bd bh hH)
  have hS:=bd
  refine SW.nil (ae.sg hS ?_)
  refine SG.last rfl (by kernel_rfl) (by kernel_rfl) ?_
  refine SW.ag aL rfl rfl rfl rfl (fh ⟨0,N,.nil⟩) fun w9 eJ hg => ?_
  have hG:=aL.gr hg
  have hw:=hw.own jD hg
  (obtain ⟨cW,bh,hH⟩:=cj hG cW bh hH)
  repeat' (first|(refine CW.ret ?_)|(first|refine ae.seq ?_|refine ae.np ?_)|refine SW.nil ?_)
  exact ae.na rfl rfl rfl cW eJ rfl rfl ⟨_,rfl,hw,_,hA,⟨r.Words,H,r.aa⟩,⟨0,N,.nil⟩,rfl,⟨bh.words,hH,bh.br⟩,kj.plain _ _ _ _⟩
 ·rw [mW,if_neg he] at hA
  repeat' (first|refine SW.pure rfl rfl ?_|(show SW _ _ _ _ (⟨_,Op.fieldAddr _ _ _,_,_,_,none⟩::_) _ _;refine SW.st (az rfl) rfl ?_))
  refine SW.gi 1 aq rfl rfl rfl (ady rfl) (dU H) (aP ⟨r.Words,H,r.aa⟩) rfl fun rq bP hg => ?_
  have hG:=aq.gr hg
  have au:=au.grown hg (by simpa using xr)
  have aH:=aH.grown hg (by simpa using xt)
  have hw:=hw.own cG hg
  (obtain ⟨ap,aL,bd,bh,hH⟩:=fI hG ap aL bd bh hH)
  have aq:=bP
  clear bP hG hg
  repeat' ((show SW _ _ _ _ (⟨_,Op.fieldAddr _ _ _,_,_,_,none⟩::_) _ _;refine SW.st (az rfl) rfl ?_))
  refine Wb (i:=1) bd fun jb bq hg => ?_
  have hG:=bd.gr hg
  have aL:=aL.grown hg (by simpa using rf)
  have hw:=hw.own fX hg
  (obtain ⟨au,ap,aH,aq,bh,hH⟩:=iS hG au ap aH aq bh hH)
  have bd:aS _ b7 55 (cb ⟨0,N,.nil⟩):=bq
  clear bq hG hg
  repeat' ((show SW _ _ _ _ (⟨_,Op.fieldAddr _ _ _,_,_,_,none⟩::_) _ _;refine SW.st (az rfl) rfl ?_))
  refine Wb (i:=0) bd fun jb bq hg => ?_
  have hG:=bd.gr hg
  have aL:=aL.grown hg (by simpa using rf)
  have hw:=hw.own fX hg
  (obtain ⟨au,ap,aH,aq,bh,hH⟩:=iS hG au ap aH aq bh hH)
  have bd:aS _ b7 55 (cb ⟨e,N,.nil⟩):=bq
  clear bq hG hg
  repeat' (first|(first|refine CW.seq ?_|refine CW.region ?_|refine CW.uC rfl (by omega) ?_)|(first|refine ae.seq ?_|refine ae.eG ?_)|refine SW.nil ?_|refine SW.pure rfl rfl ?_|(show SW _ _ _ _ (⟨_,Op.fieldAddr _ _ _,_,_,_,none⟩::_) _ _;refine SW.st (az rfl) rfl ?_)|(show SW _ _ _ _ (⟨_,Op.load _ _,_,_,_,none⟩::_) _ _;refine Wl (bd.cell (i:=0) (v := .int .i64 e) rfl) ?_))
  refine CW.gl 2 3 (fun w2=>aS w2 b7 55 (cb ⟨e,N,.nil⟩)) mixed (by kernel_rfl) fun w1 ai aJ => ?_
  obtain ⟨hw,au,aH,aL,aq,bd,bh,hH⟩:=DJ ai hw au aH aL aq bd bh hH;clear ai
  refine Wt 0 [] [] aJ rfl (aX rfl rfl ((fun _ _=>au.cell))) ?_
  refine SF.cq 1 [] aJ rfl (by kernel_rfl) (by kernel_rfl) (by kernel_rfl) (aX rfl rfl ((fun _ _=>bd.cell))) (fun w2 hS=>aX rfl rfl ((fun _ _=>hS.cell))) rfl ?_
  refine SF.turn rfl (by kernel_rfl) rfl ?_
  refine SW.ag aH rfl rfl rfl rfl (aY r) fun w8 cW hg => ?_
  have hG:=aH.gr hg
  have hw:=hw.own eu hg
  (obtain ⟨aL,bd,bh,hH⟩:=dG hG aL bd bh hH)
  have hS:=bd
  refine SW.nil (ae.sg hS ?_)
  refine SG.last rfl (by kernel_rfl) (by kernel_rfl) ?_
  refine SW.ag aL rfl rfl rfl rfl (fh ⟨e,N,.nil⟩) fun w9 eJ hg => ?_
  have hG:=aL.gr hg
  have hw:=hw.own jD hg
  (obtain ⟨cW,bh,hH⟩:=cj hG cW bh hH)
  repeat' (first|(refine CW.ret ?_)|(first|refine ae.seq ?_|refine ae.ux ?_|refine ae.np ?_)|refine SW.nil ?_)
  exact ae.na rfl rfl rfl cW eJ rfl rfl ⟨_,rfl,hw,_,hA,r,⟨e,N,.nil⟩,rfl,bh,kj.plain _ _ _ _⟩
set_option maxHeartbeats 4000000 in
theorem Nn (a:cJ) (hk:a.Kind=2) : jn dI a:=by
 intro r s lo w hO dz hI hS eY;obtain ⟨k,cpu,n,m,At,fl,nm⟩:=a;simp only at hk;subst hk;have hf:=hI.cV;have hs:=hf.small;have hM:=hI.may;refine aE func16 rfl ntmps16 rfl ?_;refine CW.seq (CW.region (SW.box rfl rfl fun b2 w1 hw fk au => ?_));have l2:=au.lt;refine SW.box rfl rfl fun b3 w2 bt cg ap => ?_
 have fW:=hw.up cg
 (obtain ⟨hw,au⟩:=cX bt hw au);clear bt;have l3:=ap.lt;refine SW.alloc rfl fun b4 w2 bt fJ aH => ?_
 have eu:=hw.up fJ
 (obtain ⟨hw,au,ap⟩:=cj bt hw au ap);clear bt;have l4:=aH.lt;refine SW.alloc rfl fun b5 w2 bt gm aL => ?_
 have jD:=hw.up gm
 (obtain ⟨hw,au,ap,aH⟩:=dG bt hw au ap aH);clear bt;have l5:=aL.lt;repeat' (first|refine Wy ?_|refine Wm ((fun _ _=>au.cell)) ?_)
 refine SW.alloc rfl fun b6 w1 ai dt aq => ?_
 skip;refine SW.ag aq rfl rfl rfl rfl (aY r) fun w2 bP hg => ?_
 have ar:=ai.own dt hg;have cG:=hw.up dt
 obtain ⟨hw,au,ap,aH,aL⟩:=fI ar hw au ap aH aL;have aq:=bP;clear bP ai hg ar;have l6:=aq.lt;repeat' (first|refine Wy ?_|fail);refine SW.alloc rfl fun b7 w1 ai iB bd => ?_
 skip;refine SW.ag bd rfl rfl rfl rfl (fh ⟨0,0,.nil⟩) fun w2 bq hg => ?_
 have ar:=ai.own iB hg;have fX:=hw.up iB
 obtain ⟨hw,au,ap,aH,aL,aq⟩:=iS ar hw au ap aH aL aq;have bd:=bq;clear bq ai hg ar;have xr:b2≠b6:=by omega
 have xt:b4≠b6:=by omega
 have Nl:b2≠b4:=by omega
 have rf:b5≠b7:=by omega
 clear l2 l3 l4 l5 l6;repeat' (first|refine Wy ?_|refine Wm ((fun _ _=>au.cell)) ?_|refine Wm ((fun _ _=>ap.cell)) ?_|refine Wl (ap.cell (i:=0) (v := .int .i64 2) rfl) ?_)
 refine Wk (Nk r s ⟨2,cpu,n,m,At,fl,nm⟩ lo _ (hO.ext hw) (ac2 dz hw.size) hI) fun v w7 je hv => ?_
 obtain ⟨u,hu,q,rfl,hH⟩:=hv;(obtain ⟨hw,au,ap,aH,aL,aq,bd⟩:=ur je hw au ap aH aL aq bd);clear je;have bh:=hO.ext hw;have hA:=cx.nw (s:=s) (a:=⟨2,cpu,n,m,At,fl,nm⟩) rfl hu;obtain ⟨u1,e⟩:=u;simp only at hA hH ⊢;by_cases he:e=0
 ·rw [mW,if_pos he,he] at hA;rw [he];repeat' (first|refine Wy ?_|fail);refine SW.ag aq rfl rfl rfl rfl (aY q) fun rq bP hg => ?_
  have hG:=aq.gr hg;have au:=au.grown hg (by simpa using xr);have aH:=aH.grown hg (by simpa using xt);have hw:=hw.own cG hg;(obtain ⟨ap,aL,bd,bh,hH⟩:=fI hG ap aL bd bh hH);have aq:=bP;clear bP hG hg;repeat' (first|refine Wy ?_|fail);refine Wb (i:=0) bd fun jb bq hg => ?_
  have hG:=bd.gr hg;have aL:=aL.grown hg (by simpa using rf);have hw:=hw.own fX hg;(obtain ⟨au,ap,aH,aq,bh,hH⟩:=iS hG au ap aH aq bh hH);have bd:aS _ b7 55 (cb ⟨0,0,.nil⟩):=bq;clear bq hG hg;repeat' (first|refine Wy ?_|refine Wl (bd.cell (i:=0) (v := .int .i64 0) rfl) ?_)
  refine CW.gl 2 3 (fun w2=>aS w2 b7 55 (cb ⟨0,0,.nil⟩)) mixed (by kernel_rfl) fun w1 ai aJ => ?_
  obtain ⟨hw,au,aH,aL,aq,bd,bh,hH⟩:=DJ ai hw au aH aL aq bd bh hH;clear ai;refine Wt 0 [] [] aJ rfl (aX rfl rfl ((fun _ _=>aq.cell))) ?_;refine SF.cq 1 [] aJ rfl (by kernel_rfl) (by kernel_rfl) (by kernel_rfl) (aX rfl rfl ((fun _ _=>bd.cell))) (fun w2 hS=>aX rfl rfl ((fun _ _=>hS.cell))) rfl ?_;refine SF.turn rfl (by kernel_rfl) rfl ?_;refine SW.ag aH rfl rfl rfl rfl (aY q) fun w8 cW hg => ?_
  have hG:=aH.gr hg;have hw:=hw.own eu hg;(obtain ⟨aL,bd,bh,hH⟩:=dG hG aL bd bh hH);have hS:=bd;refine SW.nil (ae.sg hS ?_);refine SG.last rfl (by kernel_rfl) (by kernel_rfl) ?_;refine SW.ag aL rfl rfl rfl rfl (fh ⟨0,0,.nil⟩) fun w9 eJ hg => ?_
  have hG:=aL.gr hg;have hw:=hw.own jD hg;(obtain ⟨cW,bh,hH⟩:=cj hG cW bh hH);repeat' (first|refine Wy ?_|fail);exact ae.na rfl rfl rfl cW eJ rfl rfl ⟨_,rfl,hw,_,hA,q,⟨0,0,.nil⟩,rfl,hH,kj.plain _ _ _ _⟩
 ·rw [mW,if_neg he] at hA;repeat' (first|refine Wy ?_|fail);refine SW.ag aq rfl rfl rfl rfl (aY q) fun rq bP hg => ?_
  have hG:=aq.gr hg;have au:=au.grown hg (by simpa using xr);have aH:=aH.grown hg (by simpa using xt);have hw:=hw.own cG hg;(obtain ⟨ap,aL,bd,bh,hH⟩:=fI hG ap aL bd bh hH);have aq:=bP;clear bP hG hg;repeat' (first|refine Wy ?_|fail);refine Wb (i:=0) bd fun jb bq hg => ?_
  have hG:=bd.gr hg;have aL:=aL.grown hg (by simpa using rf);have hw:=hw.own fX hg;(obtain ⟨au,ap,aH,aq,bh,hH⟩:=iS hG au ap aH aq bh hH);have bd:aS _ b7 55 (cb ⟨e,0,.nil⟩):=bq;clear bq hG hg;repeat' (first|refine Wy ?_|refine Wl (bd.cell (i:=0) (v := .int .i64 e) rfl) ?_)
  refine CW.gl 2 3 (fun w2=>aS w2 b7 55 (cb ⟨e,0,.nil⟩)) mixed (by kernel_rfl) fun w1 ai aJ => ?_
  obtain ⟨hw,au,aH,aL,aq,bd,bh,hH⟩:=DJ ai hw au aH aL aq bd bh hH;clear ai;refine Wt 0 [] [] aJ rfl (aX rfl rfl ((fun _ _=>au.cell))) ?_;refine SF.cq 1 [] aJ rfl (by kernel_rfl) (by kernel_rfl) (by kernel_rfl) (aX rfl rfl ((fun _ _=>bd.cell))) (fun w2 hS=>aX rfl rfl ((fun _ _=>hS.cell))) rfl ?_;refine SF.turn rfl (by kernel_rfl) rfl ?_;refine SW.ag aH rfl rfl rfl rfl (aY r) fun w8 cW hg => ?_
  have hG:=aH.gr hg;have hw:=hw.own eu hg;(obtain ⟨aL,bd,bh,hH⟩:=dG hG aL bd bh hH);have hS:=bd;refine SW.nil (ae.sg hS ?_);refine SG.last rfl (by kernel_rfl) (by kernel_rfl) ?_;refine SW.ag aL rfl rfl rfl rfl (fh ⟨e,0,.nil⟩) fun w9 eJ hg => ?_
  have hG:=aL.gr hg;have hw:=hw.own jD hg;(obtain ⟨cW,bh,hH⟩:=cj hG cW bh hH);repeat' (first|refine Wy ?_|fail);exact ae.na rfl rfl rfl cW eJ rfl rfl ⟨_,rfl,hw,_,hA,r,⟨e,0,.nil⟩,rfl,bh,kj.plain _ _ _ _⟩
set_option maxHeartbeats 4000000 in
theorem Cy (a:cJ) (hk:a.Kind=12) : jn dI a:=by
 intro r s lo w hO dz hI hS eY;obtain ⟨k,cpu,n,m,At,fl,nm⟩:=a;simp only at hk;subst hk;have hf:=hI.cV;have hs:=hf.small;have hM:=hI.may;refine aE func16 rfl ntmps16 rfl ?_;refine CW.seq (CW.region (SW.box rfl rfl fun b2 w1 hw fk au => ?_));have l2:=au.lt;refine SW.box rfl rfl fun b3 w2 bt cg ap => ?_
 have fW:=hw.up cg
 (obtain ⟨hw,au⟩:=cX bt hw au);clear bt;have l3:=ap.lt;refine SW.alloc rfl fun b4 w2 bt fJ aH => ?_
 have eu:=hw.up fJ
 (obtain ⟨hw,au,ap⟩:=cj bt hw au ap);clear bt;have l4:=aH.lt;refine SW.alloc rfl fun b5 w2 bt gm aL => ?_
 have jD:=hw.up gm
 (obtain ⟨hw,au,ap,aH⟩:=dG bt hw au ap aH);clear bt;have l5:=aL.lt;repeat' (first|refine Wy ?_|refine Wm ((fun _ _=>au.cell)) ?_)
 refine SW.alloc rfl fun b6 w1 ai dt aq => ?_
 skip;refine SW.ag aq rfl rfl rfl rfl (aY r) fun w2 bP hg => ?_
 have ar:=ai.own dt hg;have cG:=hw.up dt
 obtain ⟨hw,au,ap,aH,aL⟩:=fI ar hw au ap aH aL;have aq:=bP;clear bP ai hg ar;have l6:=aq.lt;repeat' (first|refine Wy ?_|fail);refine SW.alloc rfl fun b7 w1 ai iB bd => ?_
 skip;refine SW.ag bd rfl rfl rfl rfl (fh ⟨0,0,.nil⟩) fun w2 bq hg => ?_
 have ar:=ai.own iB hg;have fX:=hw.up iB
 obtain ⟨hw,au,ap,aH,aL,aq⟩:=iS ar hw au ap aH aL aq;have bd:=bq;clear bq ai hg ar;have xr:b2≠b6:=by omega
 have xt:b4≠b6:=by omega
 have Nl:b2≠b4:=by omega
 have rf:b5≠b7:=by omega
 clear l2 l3 l4 l5 l6;repeat' (first|refine Wy ?_|refine Wm ((me au)) ?_|refine Wl (ap.cell (i:=0) (v := .int .i64 12) rfl) ?_)
 refine Wk (BY r.Heap s.Heap _ (hO.rd.heap.ext hw) hs.heap hf.cr) fun v w7 je hv => ?_
 obtain ⟨H,rfl,hH⟩:=hv;have hH:=hH.low (ac2 dz hw.size);(obtain ⟨hw,au,ap,aH,aL,aq,bd⟩:=ur je hw au ap aH aL aq bd);clear je;have bh:=hO.ext hw;have hA:=cx.drain (s:=s) (a:=⟨12,cpu,n,m,At,fl,nm⟩) rfl;generalize kO s.Heap=u at hA hH ⊢
 obtain ⟨e,u1⟩:=u;simp only at hA hH ⊢;by_cases he:e=0
 ·rw [mW,if_pos he,he] at hA;rw [he];repeat' (first|refine Wy ?_|fail);refine SW.gi 1 aq rfl rfl rfl (ady rfl) (dU H) (aP ⟨r.Words,H,r.aa⟩) rfl fun rq bP hg => ?_
  have hG:=aq.gr hg;have au:=au.grown hg (by simpa using xr);have aH:=aH.grown hg (by simpa using xt);have hw:=hw.own cG hg;(obtain ⟨ap,aL,bd,bh,hH⟩:=fI hG ap aL bd bh hH);have aq:=bP;clear bP hG hg;repeat' (first|refine Wy ?_|fail);refine Wb (i:=0) bd fun jb bq hg => ?_
  have hG:=bd.gr hg;have aL:=aL.grown hg (by simpa using rf);have hw:=hw.own fX hg;(obtain ⟨au,ap,aH,aq,bh,hH⟩:=iS hG au ap aH aq bh hH);have bd:aS _ b7 55 (cb ⟨0,0,.nil⟩):=bq;clear bq hG hg;repeat' (first|refine Wy ?_|refine Wl (bd.cell (i:=0) (v := .int .i64 0) rfl) ?_)
  refine CW.gl 2 3 (fun w2=>aS w2 b7 55 (cb ⟨0,0,.nil⟩)) mixed (by kernel_rfl) fun w1 ai aJ => ?_
  obtain ⟨hw,au,aH,aL,aq,bd,bh,hH⟩:=DJ ai hw au aH aL aq bd bh hH;clear ai;refine Wt 0 [] [] aJ rfl (aX rfl rfl ((fun _ _=>aq.cell))) ?_;refine SF.cq 1 [] aJ rfl (by kernel_rfl) (by kernel_rfl) (by kernel_rfl) (aX rfl rfl ((fun _ _=>bd.cell))) (fun w2 hS=>aX rfl rfl ((fun _ _=>hS.cell))) rfl ?_;refine SF.turn rfl (by kernel_rfl) rfl ?_;refine SW.ag aH rfl rfl rfl rfl (aY ⟨r.Words,H,r.aa⟩) fun w8 cW hg => ?_
  have hG:=aH.gr hg;have hw:=hw.own eu hg;(obtain ⟨aL,bd,bh,hH⟩:=dG hG aL bd bh hH);have hS:=bd;refine SW.nil (ae.sg hS ?_);refine SG.last rfl (by kernel_rfl) (by kernel_rfl) ?_;refine SW.ag aL rfl rfl rfl rfl (fh ⟨0,0,.nil⟩) fun w9 eJ hg => ?_
  have hG:=aL.gr hg;have hw:=hw.own jD hg;(obtain ⟨cW,bh,hH⟩:=cj hG cW bh hH);repeat' (first|refine Wy ?_|fail);exact ae.na rfl rfl rfl cW eJ rfl rfl ⟨_,rfl,hw,_,hA,⟨r.Words,H,r.aa⟩,⟨0,0,.nil⟩,rfl,⟨bh.words,hH,bh.br⟩,kj.plain _ _ _ _⟩
 ·rw [mW,if_neg he] at hA;repeat' (first|refine Wy ?_|fail);refine SW.gi 1 aq rfl rfl rfl (ady rfl) (dU H) (aP ⟨r.Words,H,r.aa⟩) rfl fun rq bP hg => ?_
  have hG:=aq.gr hg;have au:=au.grown hg (by simpa using xr);have aH:=aH.grown hg (by simpa using xt);have hw:=hw.own cG hg;(obtain ⟨ap,aL,bd,bh,hH⟩:=fI hG ap aL bd bh hH);have aq:=bP;clear bP hG hg;repeat' (first|refine Wy ?_|fail);refine Wb (i:=0) bd fun jb bq hg => ?_
  have hG:=bd.gr hg;have aL:=aL.grown hg (by simpa using rf);have hw:=hw.own fX hg;(obtain ⟨au,ap,aH,aq,bh,hH⟩:=iS hG au ap aH aq bh hH);have bd:aS _ b7 55 (cb ⟨e,0,.nil⟩):=bq;clear bq hG hg;repeat' (first|refine Wy ?_|refine Wl (bd.cell (i:=0) (v := .int .i64 e) rfl) ?_)
  refine CW.gl 2 3 (fun w2=>aS w2 b7 55 (cb ⟨e,0,.nil⟩)) mixed (by kernel_rfl) fun w1 ai aJ => ?_
  obtain ⟨hw,au,aH,aL,aq,bd,bh,hH⟩:=DJ ai hw au aH aL aq bd bh hH;clear ai;refine Wt 0 [] [] aJ rfl (aX rfl rfl ((fun _ _=>au.cell))) ?_;refine SF.cq 1 [] aJ rfl (by kernel_rfl) (by kernel_rfl) (by kernel_rfl) (aX rfl rfl ((fun _ _=>bd.cell))) (fun w2 hS=>aX rfl rfl ((fun _ _=>hS.cell))) rfl ?_;refine SF.turn rfl (by kernel_rfl) rfl ?_;refine SW.ag aH rfl rfl rfl rfl (aY r) fun w8 cW hg => ?_
  have hG:=aH.gr hg;have hw:=hw.own eu hg;(obtain ⟨aL,bd,bh,hH⟩:=dG hG aL bd bh hH);have hS:=bd;refine SW.nil (ae.sg hS ?_);refine SG.last rfl (by kernel_rfl) (by kernel_rfl) ?_;refine SW.ag aL rfl rfl rfl rfl (fh ⟨e,0,.nil⟩) fun w9 eJ hg => ?_
  have hG:=aL.gr hg;have hw:=hw.own jD hg;(obtain ⟨cW,bh,hH⟩:=cj hG cW bh hH);repeat' (first|refine Wy ?_|fail);exact ae.na rfl rfl rfl cW eJ rfl rfl ⟨_,rfl,hw,_,hA,r,⟨e,0,.nil⟩,rfl,bh,kj.plain _ _ _ _⟩
set_option maxHeartbeats 4000000 in
theorem tx (A:Option Addr) (n c lo:Nat) (l:List ByteArray) (w:World) (hO:Own w lo 9 1 encStr A n c l) (i:Nat) (hi:i<=n) (x:ByteArray) (b:Nat) (hB:aS w b 9 (encStr x)) (bL:aI A c≠some b) (hn:(n+1)*16<=140737488355328) (dz:lo<=w.heap.size) :
 iI prog 52 [.slice A n c,.int .i64 (i:Int),.slice (some ⟨b,0,none⟩) 1 1] w fun v w' => ∃ A' c',v = .slice A' (n+1) c'∧Own w' lo 9 1 encStr A' (n+1) c' (aM l i x)∧w.grownBy w' (aI A c) ∧ ∀ k,aI A' c'=some k->aI A c=some k∨w.heap.size<=k:=by
 refine dh func52 rfl ntmps52 rfl ?_;have hle:=hO.le;have mv:=hO.len;have hA:=hO.sl.base;have hw:=Ext.refl w;have lf:Sl w 1 encStr (some ⟨b,0,none⟩) 1 [x]:=aS.vF hB
 have nF:(encStr x).length=1:=rfl
 have oZ:∀ q:List ByteArray,(q.flatMap encStr).length=q.length*1:=fun q=>aV q
 have oY:∀ (q:List ByteArray) (v:Value),v∈q.flatMap encStr->v.oneCell'=true:=fun q v hv=>by
  obtain ⟨u,_,hu⟩:=adm.1 hv;exact im.one (enc:=encStr) u v hu
 by_cases cQ:i=n
 ·subst cQ;repeat' (first|refine Wz ?_|(refine SW.st (bc (k:=i) rfl rfl (by omega) (by omega)) rfl ?_))
  all_goals try omega
  refine SW.yg hO lf dz (by omega) rfl rfl rfl (by omega) (by omega) fun A2 c2 w2 wX => ?_
  have jT:Own w2 lo 9 1 encStr A2 (i+1) c2 (l++[x])∧w.grownBy w2 (aI A c) ∧ ∀ k,aI A2 c2=some k->aI A c=some k∨w.heap.size<=k:=by
   rcases wX with ⟨rfl,rfl,h1,h2⟩|⟨h1,h2⟩
   ·exact ⟨h1,h2,fun k e => .inl e⟩
   ·exact ⟨h1.low dz,(aF (Ext.refl w) h2 (ac3 _) (fun k e=>by cases e)).gr _,fun k e => .inr (h1.ba k e)⟩
  obtain ⟨bh,hg,kg⟩:=jT;refine Wz ?_;refine ae.bj rfl rfl ⟨_,rfl,A2,c2,rfl,?_,hg,kg⟩;have e:aM l i x=l++[x]:=by unfold aM;rw [adf (by omega),aec (by omega)];simp
  rw [e];exact bh
 ·by_cases kn:n+1<=c
  ·obtain ⟨g,rest,rfl,h1,h2,h3,h4,h5,h6⟩:=hO.opened (by omega);have DL:g≠b:=fun e=>bL (by rw [h6,e])
   have es:l.flatMap encStr++rest=(l.take i).flatMap encStr++((l.drop i).flatMap encStr++rest):=by rw [<- ac6,<- adi,ac4]
   have e1:((l.take i).flatMap encStr).length=i*1:=by rw [oZ];simp;omega
   have e2:((l.drop i).flatMap encStr).length=(n-i)*1:=by rw [oZ];simp [mv]
   have lL:=hO.sl.drop i c (by omega) (by omega);rw [if_neg (by omega)] at lL;rw [es] at h2
   have I5:∀ w',Ext w w'->(Extern.SlicesOverlaps.overlaps #[89,89] #[4] #[.slice (some ⟨b,0,none⟩) 1 1,.slice (if c=i+1 then (some ⟨g,0,none⟩) else (some (⟨g,0,none⟩ : Addr)).map (·.add ((i+1)*1))) (n+1-(i+1)) (c-(i+1))]).run prog w' = .ok (.bool false) w':=fun w' hx=>by
    rw [if_neg (by omega),aeL,cU];have b1:=hB.ext hx;have b2:=h2.ext hx;unfold aS at b1 b2
    exact Lib.run_overlaps_apart w' 89 4 9 (bz.ou (t:=89)) 1 (fun w0=>run_sizeOf (bz.size (t:=89)) w0) ⟨b,0,none⟩ ⟨g,(i+1)*1,none⟩ 1 1 _ _ (fun e=>DL e.symm) 9 9 (encStr x).toArray.size ((l.take i).flatMap encStr++((l.drop i).flatMap encStr++rest)).toArray.size
     (by simp only [World.shape?,b1]) (by simp only [World.shape?,b2]) (by simp [e1,e2];omega) (by simp [World.frozen?,b1]) (by simp [World.frozen?,b1])
   repeat' (first|refine Wz ?_|(refine CW.gj rfl ?_)|(refine SW.st (bc (k:=i) rfl rfl (by omega) (by omega)) rfl ?_)|(refine SW.st (dk (k:=n+1) rfl rfl (by omega)) rfl ?_)|(refine SW.st (bc (k:=i+1) rfl rfl (by omega) (by omega)) rfl ?_)|(refine SW.entry func91 (by kernel_rfl) (by kernel_rfl) (by kernel_rfl) (e:=Extern.SlicesOverlaps.overlaps #[89,89] #[4]) (by kernel_rfl) rfl rfl (I5 _ hw) ?_))
   all_goals try omega
   have oy:((n-i)+1)*1<=((l.drop i).flatMap encStr++rest).length:=by rw [adb,e2];omega
   have e4:(l.drop i).flatMap encStr++rest=((l.drop i).flatMap encStr++rest).take 1++(((l.drop i).flatMap encStr++rest).drop 1).take ((n-i)*1)++((l.drop i).flatMap encStr++rest).drop (1+(n-i)*1):=by
    rw [ac6,<- ad6,ac4,ac4]
   generalize Gd:((l.drop i).flatMap encStr++rest).take 1=D1 at e4
   generalize Ge:(((l.drop i).flatMap encStr++rest).drop 1).take ((n-i)*1)=D2 at e4
   generalize Gf:((l.drop i).flatMap encStr++rest).drop (1+(n-i)*1)=D3 at e4
   have f1:D1.length=1:=by rw [<- Gd];simp only [List.length_take];omega
   have f2:D2.length=(n-i)*1:=by rw [<- Ge];simp only [List.length_take,List.length_drop];omega
   have f3:D3.length+1=rest.length:=by rw [<- Gf];simp only [List.length_drop,List.length_append,e2];omega
   rw [e4] at h2;refine CW.any 8 mixed (dg (by kernel_rfl)) rfl fun w1 ai aJ => ?_
   obtain ⟨hw,hO,hB,h2⟩:=dG ai hw hO hB h2;clear ai;refine Wa ?_;refine Wu 4 aJ rfl (bc (k:=i+1) rfl rfl (by omega) (by omega)) ?_;refine Wa ?_;refine Wu 7 aJ rfl (bc (k:=i) rfl rfl (by omega) (by omega)) ?_;refine SA.done (by kernel_rfl) ?_;refine SW.copy (k:=n-i) ((i+1)*1) ((l.drop i).flatMap encStr) h2 rfl rfl rfl (by omega) e2 (by simp only [List.length_append,e1,e2,f1,f2];omega) (fun h0=>⟨by rw [if_neg (by omega)];simp [cU],(⟨g,0,none⟩ : Addr).add (i*1),by rw [if_neg (by omega)];rfl,fun j v hv=>dr (by omega) (lL.ext hw) j v hv⟩) (oY _) fun w3 nc qo => ?_
   have g1:=eU ((l.take i).flatMap encStr++D1) D2 D3 ((l.drop i).flatMap encStr) (by rw [e2,f2]) (o:=(i+1)*1) (by rw [adb,e1,f1];omega);have g0:(l.take i).flatMap encStr++(D1++D2++D3)=(l.take i).flatMap encStr++D1++D2++D3:=by simp only [List.append_assoc]
   rw [g0,g1] at nc;have Gc:=bQ (hw.gr (aI (some ⟨g,0,none⟩) c)) qo (.inl h6.symm);have Qw:=hB.grown qo (by simpa using fun e=>DL e.symm);repeat' (first|refine Wz ?_|(refine SW.st (bc (k:=i) rfl rfl (by omega) (by omega)) rfl ?_))
   refine SW.copy (k:=1) (i*1) (encStr x) nc rfl rfl rfl (by omega) nF (by simp only [List.length_append,e1,e2,f1,nF];omega) (fun h0=>⟨by rw [if_neg (by omega)];simp [cU],⟨b,0,none⟩,rfl,fun j v hv=>Qw.cell hv⟩) (im.one (enc:=encStr) x) fun w4 nP xv => ?_
   have g2:=eU ((l.take i).flatMap encStr) D1 ((l.drop i).flatMap encStr++D3) (encStr x) (by rw [nF,f1]) (o:=i*1) e1.symm;have g3:(l.take i).flatMap encStr++D1++(l.drop i).flatMap encStr++D3=(l.take i).flatMap encStr++D1++((l.drop i).flatMap encStr++D3):=by simp only [List.append_assoc]
   have g4:(l.take i).flatMap encStr++encStr x++((l.drop i).flatMap encStr++D3)=(aM l i x).flatMap encStr++D3:=by unfold aM;simp only [List.flatMap_append,List.flatMap_cons,List.flatMap_nil,List.append_nil,List.append_assoc]
   rw [g3,g2,g4] at nP;have D8:=Own.closed (n:=n+1) (c:=c) (l:=aM l i x) (by unfold aM;simp;omega) nP (by omega) kn (by omega) h5 h1;have dY:=bQ Gc xv (.inl h6.symm);refine Wz ?_;exact ae.bj rfl rfl ⟨_,rfl,_,_,rfl,D8,dY,fun k e => .inl e⟩
  ·have R3:c=n:=by omega
   have lL:=hO.sl.drop i c (by omega) (by omega);have AU:=hO.sl.pre (i:=i) (by omega);repeat' (first|refine Wz ?_|(refine SW.st (bc (k:=i) rfl rfl (by omega) (by omega)) rfl ?_)|(refine SW.st (dk (k:=i) rfl rfl (by omega)) rfl ?_))
   all_goals try omega
   refine SW.xX (k:=n+1-i) AU Tryz.underlying3 rfl rfl (by omega) rfl (by omega) (by omega) (by omega) (by omega) fun g rest c2 w2 bt dA h2 h3 h4 h5 => ?_
   have e1:((l.take i).flatMap encStr).length=i*1:=by rw [oZ];simp;omega
   have e2:((l.drop i).flatMap encStr).length=(n-i)*1:=by rw [oZ];simp [mv]
   have oy:((n-i)+1)*1<=rest.length:=by omega
   have e4:rest=rest.take 1++(rest.drop 1).take ((n-i)*1)++rest.drop (1+(n-i)*1):=by
    rw [ac6,<- ad6,ac4,ac4]
   generalize Gd:rest.take 1=D1 at e4
   generalize Ge:(rest.drop 1).take ((n-i)*1)=D2 at e4
   generalize Gf:rest.drop (1+(n-i)*1)=D3 at e4
   have f1:D1.length=1:=by rw [<- Gd];simp only [List.length_take];omega
   have f2:D2.length=(n-i)*1:=by rw [<- Ge];simp only [List.length_take,List.length_drop];omega
   have f3:D3.length+((n-i)+1)*1=rest.length:=by rw [<- Gf];simp only [List.length_drop];omega
   rw [e4] at h2;have gg:aI A c≠some g:=fun e=>by have:=hO.lt_size _ e;omega
   have DL:b≠g:=by have:=hB.lt;omega
   obtain ⟨lL,hB,hw⟩:=cj bt lL hB hw;repeat' (first|refine Wz ?_|(refine SW.st (bc (k:=i) rfl rfl (by omega) (by omega)) rfl ?_))
   refine SW.copy (k:=1) (i*1) (encStr x) h2 rfl rfl rfl (by omega) nF (by simp only [List.length_append,e1,f1,f2,nF];omega) (fun h0=>⟨by rw [if_neg (by omega)];simp [cU],⟨b,0,none⟩,rfl,fun j v hv=>hB.cell hv⟩) (im.one (enc:=encStr) x) fun w3 nc qo => ?_
   have g2:=eU ((l.take i).flatMap encStr) D1 (D2++D3) (encStr x) (by rw [nF,f1]) (o:=i*1) e1.symm;have g3:(l.take i).flatMap encStr++(D1++D2++D3)=(l.take i).flatMap encStr++D1++(D2++D3):=by simp only [List.append_assoc]
   rw [g3,g2] at nc;have Lm:Ext w w3:=hw.own dA qo
   have lh:Sl w3 1 encStr (if c=i then A else A.map (·.add (i*1))) (n-i) (l.drop i):=(hO.sl.drop i c (by omega) (by omega)).ext Lm
   have hw:=Lm;refine Wz ?_;refine CW.any 8 mixed (dg (by kernel_rfl)) rfl fun w1 ai aJ => ?_
   obtain ⟨hw,nc,lh⟩:=cj ai hw nc lh;clear ai;refine Wa ?_;refine Wu 4 aJ rfl (bc (k:=i+1) rfl rfl (by omega) (by omega)) ?_;refine Wa ?_;refine Wu 7 aJ rfl (bc (k:=i) rfl rfl (by omega) (by omega)) ?_;refine SA.done (by kernel_rfl) ?_;refine SW.copy (k:=n-i) ((i+1)*1) ((l.drop i).flatMap encStr) nc rfl rfl rfl (by omega) e2 (by simp only [List.length_append,e1,e2,f2,nF];omega) (fun h0=>⟨by rw [if_neg (by omega)];simp [cU],(if c=i then A else A.map (·.add (i*1))).getD default,?_,fun j v hv=>dr (by omega) lh j v hv⟩) (oY _) fun w4 nP xv => ?_
   ·obtain ⟨a,ha⟩:=adw.1 (lh.base h0);rw [ha];rfl
   ·have g4:=eU ((l.take i).flatMap encStr++encStr x) D2 D3 ((l.drop i).flatMap encStr) (by rw [e2,f2]) (o:=(i+1)*1) (by rw [adb,e1,nF];omega);have g5:(l.take i).flatMap encStr++encStr x++(D2++D3)=(l.take i).flatMap encStr++encStr x++D2++D3:=by simp only [List.append_assoc]
    have g6:(l.take i).flatMap encStr++encStr x++(l.drop i).flatMap encStr++D3=(aM l i x).flatMap encStr++D3:=by unfold aM;simp only [List.flatMap_append,List.flatMap_cons,List.flatMap_nil,List.append_nil,List.append_assoc]
    rw [g5,g4,g6] at nP;have D8:=Own.closed (n:=n+1) (c:=c2) (lo:=lo) (l:=aM l i x) (by unfold aM;simp;omega) nP (by omega) (by omega) (by omega) h5 (by omega);have ko:Ext w w4:=hw.own dA xv
    have e9:i+(n+1-i)=n+1:=by omega
    refine Wz ?_;rw [e9]
    exact ae.bj rfl rfl ⟨_,rfl,_,_,rfl,D8,ko.gr _,fun k e => .inr (by
     have:k=g:=by
      unfold aI at e;split at e
      ·cases e
      ·simpa using e.symm
     omega)⟩
variable {α:Type} {y:Operand} {t ty:TypeId} {p:α -> Bool}
section
variable {P:Program} {L:Env} {w:World} {d:Option Nat} {T:TypeId} {pos:String} {af:Array Edge} {g:Option (Nat×Bool)}
def RM (a:Int) : Int:=((a.toNat &&& (a-1).toNat:Nat) : Int)
theorem yv {x:Operand} (hx:cK L x=some (.int .i64 a)) (hy:cK L y=some (.int .i64 (a-1))) (h : 1<=a∧a<=8) : St P ⟨d,.binOp .and t x y ty,T,pos,af,g⟩ L w (.int .i64 (RM a)) :=
 Iy a.toNat (a-1).toNat hx hy (by omega) (by omega) (by omega) (by omega)
end
theorem O7 (h : 1<=a∧a<=8) : RM a=0↔jG a:=by
 rcases (show a=1∨a=2∨a=3∨a=4∨a=5∨a=6∨a=7∨a=8 by omega) with rfl|rfl|rfl|rfl|rfl|rfl|rfl|rfl<;>unfold jG<;>decide
theorem FD {l:List α} (h:l.any p=true) : ∃ (i:Nat) (hi:i<l.length),p l[i]=true∧(∀ (j:Nat) (hj:j<l.length),j<i->p l[j]=false)∧idxOf p l=(i:Int):=by
 have h1:l.findIdx p<l.length:=List.findIdx_lt_length_of_exists (by simpa using h)
 exact ⟨l.findIdx p,h1,List.findIdx_getElem (w:=h1),fun j hj js=>by simpa using List.not_of_lt_findIdx js,by unfold idxOf;rw [if_pos h]⟩
theorem No {a b:ga} (h:apart a b∨apart b a) : aI b.A b.c=none∨aI b.A b.c≠aI a.A a.c:=by
 cases e:aI b.A b.c with
 | none=>exact .inl rfl
 | some g =>
   right;intro e2;rcases h with h|h
   ·exact h g e2.symm e
   ·exact h g e e2.symm
theorem xG.ne {x:ga} {cs:List dN} (h:xG x cs) (hi:i<cs.length) (hj:j<cs.length) (o9:j≠i) : ly cs[i] cs[j]∨ly cs[j] cs[i]:=by
 have hp:=ac8.1 h.pair;rcases adA i j with g|g
 ·exact .inl (hp i j hi hj g)
 ·exact .inr (hp j i hj hi (by omega))
theorem Kr (x:dN) (b3:Nat) (z:Int) (w:World) (h3:aS w b3 3 [.int .i64 z]) :
 bI prog 50 ([.agg (fK x).toArray]++[.pointer (some ⟨b3,0,none⟩)]) w fun v _=>v = .bool (decide (x.aA=z)):=by
 refine aE func50 rfl ntmps50 rfl ?_;refine CW.seq (CW.region (SW.box rfl rfl fun b1 w1 hw lc aW => ?_));have h3:=h3.ext hw;have PG:=h3.cell (i:=0) (v := .int .i64 z) rfl;rw [add_zero] at PG;repeat' (first|refine Wz ?_|refine Wl PG ?_)
 exact ae.bj rfl rfl ⟨_,rfl,hw,rfl⟩
set_option maxHeartbeats 8000000 in
theorem ul (r:db) (s:ah) (n:ByteArray) (size align:Int) (w:World) (hr:AM w r s) (hf:s.cV) (NL:n.size<=140737488351232) :
 bI prog 23 [.agg (aP r).toArray,.string n,.int .i64 size,.int .i64 align] w fun v w' => ∃ u,lx s n size align u∧iN w.heap.size u v w':=by
 refine aE func23 rfl ntmps23 rfl ?_;have hs:=hf.small;refine CW.seq (CW.region (SW.box rfl rfl fun b4 w1 hw fJ aH => ?_));have eu:=fJ;refine SW.Lh rfl rfl rfl fun b6 w2 bt dt aq => ?_
 have cG:=hw.up dt
 (obtain ⟨hw,aH⟩:=cX bt hw aH);refine SW.alloc rfl fun b8 w3 nL oC bg => ?_
 have gz:=hw.up oC
 have zX:b4≠b8:=by have:=aH.lt;omega
 (obtain ⟨hw,aH,aq⟩:=cj nL hw aH aq)
 have JZ:∀ (w':World) (z:Int),aS w' b6 3 [.int .i64 z]->w'.cell? ⟨b6,0,none⟩=some (.int .i64 z):=fun w' z h=>by
  have:=h.cell (i:=0) (v := .int .i64 z) rfl
  rwa [add_zero] at this
 obtain ⟨q,hq⟩ : ∃ q,fQ s=q:=⟨_,rfl⟩
 have c1:∀ w',Ext w w'->bI prog 46 [.agg (aP r).toArray] w' fun v _=>v = .int .i64 (if q then 0 else 8):=fun w' hx=>by
  have:=mf r s w' (hr.ext hx) hf
  rwa [hq] at this
 cases q
 ·simp only [Bool.false_eq_true,if_false] at c1;repeat' (first|refine Wz ?_|(refine Wk (c1 _ hw) ?_;intro v w1 ai hv;subst hv;obtain ⟨hw,aH,bg⟩:=cj ai hw aH bg;clear ai))
  refine SW.ag bg rfl rfl rfl rfl (aY .zero) fun w5 cS hg => ?_
  have hw:=hw.own gz hg;refine Wz ?_;exact ae.dw rfl rfl rfl cS rfl ⟨_,rfl,hw,_,.bad hq,iN.zero 8 _ _⟩
 ·simp only [if_true] at c1;have hM:=iM.1 hq;obtain ⟨p,hp⟩ : ∃ p,gn n=p:=⟨_,rfl⟩
  have c2:∀ w',bI prog 47 [.string n] w' fun v _=>v = .bool p:=fun w'=>by
   have:=Ek n w' NL
   rwa [hp] at this
  obtain ⟨gv,Uj⟩ : ∃ gv,RM align=gv:=⟨_,rfl⟩;have Uh : 1<=align∧align<=8->(gv=0↔jG align):=fun h=>by rw [<- Uj];exact O7 h
  by_cases JS:p=true∧jG align
  ·obtain ⟨rfl,JS⟩:=JS;have Xd:=JS;unfold jG at Xd;have Gb:gv=0:=(Uh (by omega)).2 JS
   have RN:gn n=true∧jG align:=⟨hp,JS⟩
   by_cases oy : 1<=size∧size<=64
   ·obtain ⟨t,ht⟩ : ∃ t,s.aa.any (dO n)=t:=⟨_,rfl⟩;obtain ⟨ix,rG⟩ : ∃ ix,idxOf (dO n) s.aa=ix:=⟨_,rfl⟩
    have c3:∀ w',Ext w w'->bI prog 48 [.agg (aP r).toArray,.string n] w' fun v _=>v = .tuple #[.int .i64 ix,.bool t]:=fun w' hx=>by
     have:=BK r s n w' (hr.ext hx) hs
     rwa [ht,rG] at this
    have hu:=Io JS oy;have Xe:rz size align=(size+align-1) / align*align:=rfl
    rw [Xe] at hu;cases t
    ·repeat' (first|refine Wz ?_|(refine CW.fU rfl ?_)|refine SW.want rfl rfl ?_|refine Wl (JZ _ _ aq) ?_|((first|refine Wk (c1 _ hw) ?_|refine Wk (c2 _) ?_|refine Wk (c3 _ hw) ?_);intro v w1 ai hv;subst hv;obtain ⟨hw,aH,aq,bg⟩:=dG ai hw aH aq bg;clear ai)|(refine SW.st ((yv rfl rfl (by omega)).eq (congrArg (Value.int .i64) Uj)) rfl ?_))
     all_goals try omega
     clear c1 c2 c3;refine Wb (i:=0) aq fun w5 bP hg => ?_
     have hG:=aq.gr hg;have hw:=hw.own cG hg;(obtain ⟨aH,bg⟩:=cX hG aH bg);obtain ⟨z,hz⟩ : ∃ z,rz size align=z:=⟨_,rfl⟩;have aq:aS w5 b6 3 [.int .i64 z]:=by rw [<- hz,Xe];exact bP
     clear bP hg hG;have Db : 1<=z∧z<=64:=by rw [<- hz,Xe];omega
     clear hu;refine Wz ?_;refine Wk (GR r s _ (hr.ext hw) hs) fun v w6 ar hv => ?_
     obtain ⟨q,zr,rfl,hO⟩:=hv;have hO:=hO.low hw.size;(obtain ⟨hw,aH,aq,bg⟩:=dG ar hw aH aq bg);obtain ⟨hX,hY,hC,xB⟩:=hO;skip;refine SW.ag aH rfl rfl rfl rfl (aY q) fun w7 cW hg => ?_
     have hG:=aH.gr hg;have hw:=hw.own eu hg;have bg:=bg.grown hg (by simpa using fun e=>zX e.symm);(obtain ⟨aq,hX,hY,hC⟩:=dG hG aq hX hY hC);have aH:=cW;clear cW hg hG;obtain ⟨z1,z2⟩:=hC.rd.len;have m3:=hs.br
     have pO:=mI (p:=fun x:dN=>decide (x.aA=z)) (q:=zC z) (l:=zr) (m:=s.aa) (by omega) fun k h1 h2=>by
      have:=(hC.each.get k h1 h2).size
      simp only [zC,this]
     repeat' (first|refine Wz ?_|(refine SW.st (jg (vs:=[.pointer (some ⟨b6,0,none⟩)]) rfl) rfl ?_))
     refine Wk (lp _ _ _ _ _ hC.row.sl _ [.pointer (some ⟨b6,0,none⟩)] (fun x=>decide (x.aA=z)) (fun x => .agg (fK x).toArray) (fun x=>rfl) (fun x hx w1 lf=>Kr x b6 z w1 (aq.ext lf)) (by omega)) fun v w8 ar hv => ?_
     subst hv;rw [pO.1];(obtain ⟨hw,aH,aq,bg,hX,hY,hC⟩:=ur ar hw aH aq bg hX hY hC);cases iC:s.aa.any (zC z)
     ·obtain ⟨hI,_⟩:=kI (p:=zC z) (l:=s.aa) (fun j hj=>by
       have:=ado.1 iC _ (ac0 hj)
       simpa using this)
      rw [hI]
      have oD:∀ (j:Nat) (hj:j<s.aa.length),s.aa[j].aA≠z:=fun j hj=>by
       have:=ado.1 iC _ (ac0 hj)
       simpa [zC] using this
      by_cases h20:s.aa.length=20
      ·refine Wz ?_;refine SW.ag bg rfl rfl rfl rfl (aY .zero) fun w5 cS hg => ?_
       have hw:=hw.own gz hg;refine Wz ?_;exact ae.dw rfl rfl rfl cS rfl ⟨_,rfl,hw,_,.full hq RN oy ht (by rw [hz];exact oD) h20,iN.zero 9 _ _⟩
      ·have h19:s.aa.length<20:=by
        have:=hM.most
        omega
       obtain ⟨o,per,e,Xf⟩ : ∃ o per e,dl z=(o,per,e):=⟨_,_,_,rfl⟩;have cL:∀ w',bI prog 53 [.int .i64 z] w' fun v _=>v = .tuple #[.int .i64 o,.int .i64 per,.int .i64 e]:=fun w'=>BF (y8 z w') Xf
       have qj:=hM.heap.cpus;have eC:=hY.cpus;repeat' (first|refine Wz ?_|refine Wl (JZ _ _ aq) ?_|(refine Wk (cL _) ?_;intro v w1 ai hv;subst hv;obtain ⟨hw,aH,aq,bg,hX,hY,hC⟩:=ur ai hw aH aq bg hX hY hC;clear ai))
       clear cL;refine SW.dR (vs:=[.string n]) rfl rfl rfl rfl rfl fun bn w9 ar TQ OS => ?_
       have Xg:=hw.up TQ
       (obtain ⟨hw,aH,aq,bg,hX,hY,hC⟩:=ur ar hw aH aq bg hX hY hC);have hN:Own w9 w.heap.size 9 1 encStr (some ⟨bn,0,none⟩) 1 1 [n]:=Own.closed (rest:=[]) rfl OS rfl (by omega) (by omega) (by simp [maxLen]) Xg
       repeat' (first|refine Wz ?_|refine Wl (JZ _ _ aq) ?_)
       have Xh:Ext w w9:=hw
       refine SW.alloc rfl fun O8 qU Xi sD lO => ?_
       skip;refine SW.ag lO rfl rfl rfl rfl (BA ⟨⟨some ⟨bn,0,none⟩,1,1⟩,z,per,o,.nil,.nil⟩) fun rq Az hg => ?_
       have hw:=Xi.own sD hg;have lO:=Az;clear Az hg;repeat' (first|refine Wz ?_|refine Wn hw (aH.cell (i:=3) (v := .int .i64 q.Heap.bG) rfl) ?_)
       obtain ⟨C,hCp⟩:=ada (show 0<=q.Heap.bG by omega);rw [hCp]
       refine CW.loop (fun t:Nat×Option Addr×Nat=>[(4,.pointer (some ⟨b4,0,none⟩)),(8,.pointer (some ⟨b8,0,none⟩)),(20,.pointer (some ⟨O8,0,none⟩)),(121,.int .i64 (C:Int)),(122,.int .i64 (t.1:Int))])
        (fun t w'=>t.1<=C∧Ext w9 w'∧aS w' O8 107 (fK ⟨⟨some ⟨bn,0,none⟩,1,1⟩,z,per,o,.nil,⟨t.2.1,t.1,t.2.2⟩⟩)∧Own w' w9.heap.size 3 1 bw t.2.1 t.1 t.2.2 (List.replicate t.1 (-1))) (fun t=>C-t.1) (0,none,0)
        ⟨rfl,rfl,rfl,rfl,rfl,trivial⟩ ⟨by omega,hw,lO,Own.fv _ _ _ _ _ _⟩ ?_
       clear hw lO;rintro ⟨k,A,c⟩ jb ⟨hk,hw,lO,hA⟩
       simp only at hk lO hA ⊢;by_cases hkC:k<C
       ·refine Wz ?_;refine SW.dR rfl rfl rfl rfl rfl fun b w1 ar hb hB => ?_
        (obtain ⟨hw,lO,hA⟩:=cj ar hw lO hA);refine SW.append hA (aS.vF (enc:=bw) hB) hw.size rfl rfl rfl (by omega) (by omega) fun A2 c2 w5 lm hg => ?_
        have hG:=hA.gr hg;have hw:=aF hw hg (ac3 _) hA.ba;(have lO:=lO.aN hG rfl);refine Wz ?_;refine Wb (i:=5) lO fun w6 Az hg => ?_
        have hG:=lO.gr hg;have hw:=hw.own sD hg;(have lm:=lm.aN hG rfl);refine Wz ?_;refine ae.again (k+1,A2,c2) ⟨rfl,rfl,rfl,rfl,rfl,trivial⟩ (by simp only;omega) ⟨by simp only;omega,hw,Az,?_⟩;simp only;rw [List.replicate_succ'];exact lm
       ·obtain rfl:k=C:=by omega
        have hwN:=hw;have hw:=Xh;(obtain ⟨hw,aH,aq,bg,hX,hY,hC,hN⟩:=DJ hwN hw aH aq bg hX hY hC hN);have hA:=hA.low Xh.size;have Uk:w.heap.size<=O8:=ac2 Xh.size sD
        refine Wz ?_;refine SW.dR rfl rfl rfl rfl rfl fun b w13 ar hb hB => ?_
        (obtain ⟨hw,aH,bg,hX,hY,hC,hN,hA⟩:=DJ ar hw aH bg hX hY hC hN hA);refine SW.append hC.row (aS.vF (enc:=fK) (x:=⟨⟨some ⟨bn,0,none⟩,1,1⟩,z,per,o,.nil,⟨A,k,c⟩⟩) hB) hw.size rfl rfl rfl (by omega) (by omega) fun A2 c2 w14 lm hg => ?_
        have hG:=hC.row.gr hg;have hw:=aF hw hg (ac3 _) hC.row.ba;(obtain ⟨aH,bg,hX,hY,hN,hA⟩:=iS hG aH bg hX hY hN hA);have hE:=hC.each.mono fun _ _ h=>h.aN hG rfl
        refine Wz ?_;refine Wb (i:=6) aH fun w15 cW hg => ?_
        have hG:=aH.gr hg;have hw:=hw.own eu hg;have bg:=bg.grown hg (by simpa using fun e=>zX e.symm);(obtain ⟨hX,hY,hN,hA,lm⟩:=fI hG hX hY hN hA lm);have hE:=hE.mono fun _ _ h=>h.aN hG rfl
        refine Wz ?_;refine SW.ag bg rfl rfl rfl rfl (aY ⟨q.Words,q.Heap,⟨A2,q.aa.n+1,c2⟩⟩) fun w16 cS hg => ?_
        have hG:=bg.gr hg;have hw:=hw.own gz hg;(obtain ⟨hX,hY,hN,hA,lm⟩:=fI hG hX hY hN hA lm);have hE:=hE.mono fun _ _ h=>h.aN hG rfl
        refine Wz ?_;refine ae.dw rfl rfl rfl cS rfl ⟨_,rfl,hw,_,.new hq RN oy ht (by rw [hz];exact oD) h19,⟨q.Words,q.Heap,⟨A2,q.aa.n+1,c2⟩⟩,rfl,hX,hY,_,lm,?_⟩;rw [hz];refine hE.snoc ⟨rfl,?_,?_,hN,Own.fv _ _ _ _ _ _,?_⟩
        ·simp only [dP,Xf]
        ·simp only [dP,Xf]
        ·have e9:s.Heap.bG.toNat=k:=by omega
         simp only [dP,e9];exact hA
     ·obtain ⟨i,hi,hiz,hib,rG⟩:=FD iC;rw [rG];have Xj:s.aa[i].aA=z:=by simpa [zC] using hiz
      have cQ:i<q.aa.n:=by omega
      have G5:i<zr.length:=by omega
      have jU:=hC.each.get i G5 hi;have hNi:=(hM.each i hi).names;have NK:=hC.row.sl.base;have q1:=jU.names.sl.len;have q2:=(hM.each i hi).BJ hM.heap (fun j h=>hM.each j h);have UD:=u9 s.aa[i].Names n;repeat' (first|refine Wz ?_|refine Wl (hC.row.sl.jL cQ (j:=0) (u := .slice zr[i].Names.A zr[i].Names.n zr[i].Names.c) rfl) ?_)
      refine Wk (GP _ _ _ _ n _ jU.names.sl hNi.nV (by omega)) fun v w9 ar hv => ?_
      obtain ⟨bb,rfl⟩:=hv;(obtain ⟨hw,aH,bg,hX,hY,hC⟩:=iS ar hw aH bg hX hY hC);repeat' (first|refine Wz ?_|refine Wl (hC.row.sl.jL cQ (j:=0) (u := .slice zr[i].Names.A zr[i].Names.n zr[i].Names.c) rfl) ?_)
      refine SW.dR (vs:=[.string n]) rfl rfl rfl rfl rfl fun bn qU ar TQ OS => ?_
      have eQ:=(hC.each.get i G5 hi).names.lt_size;have vQ:aI zr[i].Names.A zr[i].Names.c≠some bn:=fun e=>by have:=eQ _ e;omega
      (obtain ⟨hw,aH,bg,hX,hY,hC⟩:=iS ar hw aH bg hX hY hC);have hN:=(hC.each.get i G5 hi).names;refine SW.dT rfl rfl (tx _ _ _ w.heap.size s.aa[i].Names _ hN (mH s.aa[i].Names n) (by omega) n bn OS vQ (by omega) hw.size) fun v rq hv => ?_
      obtain ⟨A2,c2,rfl,bh,hg,kg⟩:=hv;have hG:=hN.gr hg;have hw:=aF hw hg (ac3 _) hN.ba;have gg:=hC.row.aN hG rfl
      have hE:=fY.setAt (R':=oz rq w.heap.size) (i:=i) hC.each (x:=⟨⟨A2,zr[i].Names.n+1,c2⟩,zr[i].aA,zr[i].bK,zr[i].Order,zr[i].ab,zr[i].ao⟩) (y:=dD s.aa[i] n)
       ⟨(hC.each.get i G5 hi).size,(hC.each.get i G5 hi).per,(hC.each.get i G5 hi).order,bh,(hC.each.get i G5 hi).aD.aN hG rfl,(hC.each.get i G5 hi).aZ.aN hG rfl⟩
       (fun j h1 h2 js ho=>⟨ho.size,ho.per,ho.order,ho.names.grown hg (No ((xB.ne G5 h1 js).imp (·.names) (·.names))),ho.aD.aN hG rfl,ho.aZ.aN hG rfl⟩)
      (obtain ⟨aH,bg,hX,hY⟩:=dG hG aH bg hX hY);clear hC;refine Wz ?_;refine SW.gM i 0 ⟨⟨A2,zr[i].Names.n+1,c2⟩,zr[i].aA,zr[i].bK,zr[i].Order,zr[i].ab,zr[i].ao⟩ gg rfl rfl rfl cQ (by decide) rfl rfl fun jb kv tR => ?_
      have yh:=gg.gr tR;have hw:=aF hw tR (ac3 _) gg.ba;(obtain ⟨aH,bg,hX,hY⟩:=dG yh aH bg hX hY);have hE:=hE.mono fun _ _ h=>h.aN yh rfl
      refine Wz ?_;refine SW.ag bg rfl rfl rfl rfl (aY q) fun w13 cS hg => ?_
      have hG:=bg.gr hg;have hw:=hw.own gz hg;(obtain ⟨hX,hY,kv⟩:=cj hG hX hY kv);have hE:=hE.mono fun _ _ h=>h.aN hG rfl
      refine Wz ?_;refine ae.dw rfl rfl rfl cS rfl ⟨_,rfl,hw,_,.uw hq RN oy ht hi (by rw [hz];exact Xj) (fun j hj js => ?_),q,rfl,hX,hY,_,kv,hE⟩;rw [hz];simpa [zC] using hib j hj js
    ·repeat' (first|refine Wz ?_|(refine CW.gj rfl ?_)|refine SW.want rfl rfl ?_|refine Wl (JZ _ _ aq) ?_|((first|refine Wk (c1 _ hw) ?_|refine Wk (c2 _) ?_|refine Wk (c3 _ hw) ?_);intro v w1 ai hv;subst hv;obtain ⟨hw,aH,aq,bg⟩:=dG ai hw aH aq bg;clear ai)|(refine SW.st ((yv rfl rfl (by omega)).eq (congrArg (Value.int .i64) Uj)) rfl ?_))
     all_goals try omega
     refine SW.ag bg rfl rfl rfl rfl (aY .zero) fun w5 cS hg => ?_
     have hw:=hw.own gz hg;refine Wz ?_;exact ae.dw rfl rfl rfl cS rfl ⟨_,rfl,hw,_,.gw hq RN oy ht,iN.zero 5 _ _⟩
   ·rcases (show size<1∨(1<=size∧64<size) by omega) with g|g
    all_goals
     repeat' (first|refine Wz ?_|refine SW.want rfl rfl ?_|refine Wl (JZ _ _ aq) ?_|((first|refine Wk (c1 _ hw) ?_|refine Wk (c2 _) ?_);intro v w1 ai hv;subst hv;obtain ⟨hw,aH,aq,bg⟩:=dG ai hw aH aq bg;clear ai)|(refine SW.st ((yv rfl rfl (by omega)).eq (congrArg (Value.int .i64) Uj)) rfl ?_))
     all_goals try omega
     refine SW.ag bg rfl rfl rfl rfl (aY .zero) fun w5 cS hg => ?_
     have hw:=hw.own gz hg;refine Wz ?_;exact ae.dw rfl rfl rfl cS rfl ⟨_,rfl,hw,_,.range hq RN oy,iN.zero 1 _ _⟩
  ·have RN : ¬ (gn n=true∧jG align):=by rw [hp];exact JS
   rcases (show p=false∨(p=true∧align<1)∨(p=true∧1<=align∧8<align)∨(p=true∧(1<=align∧align<=8)∧gv≠0) by
    cases p
    ·exact .inl rfl
    ·right;by_cases a1:align<1
     ·exact .inl ⟨rfl,a1⟩
     ·by_cases a2 : 8<align
      ·exact .inr (.inl ⟨rfl,by omega,a2⟩)
      ·exact .inr (.inr ⟨rfl,by omega,fun h=>JS ⟨rfl,(Uh (by omega)).1 h⟩⟩)) with rfl|⟨rfl,g⟩|⟨rfl,g⟩|⟨rfl,g,g0⟩
   all_goals
    repeat' (first|refine Wz ?_|refine SW.want rfl rfl ?_|refine SW.skip rfl rfl rfl rfl ?_|((first|refine Wk (c1 _ hw) ?_|refine Wk (c2 _) ?_);intro v w1 ai hv;subst hv;obtain ⟨hw,aH,aq,bg⟩:=dG ai hw aH aq bg;clear ai)|(refine SW.st ((yv rfl rfl (by omega)).eq (congrArg (Value.int .i64) Uj)) rfl ?_))
    all_goals try omega
    refine SW.ag bg rfl rfl rfl rfl (aY .zero) fun w5 cS hg => ?_
    have hw:=hw.own gz hg;refine Wz ?_;exact ae.dw rfl rfl rfl cS rfl ⟨_,rfl,hw,_,.form hq RN,iN.zero 3 _ _⟩
section
variable {P:Program} {n:Nat} {ops:Array Oper} {Q:Exit->Act->World->Prop} {rest:List Oper} {L:Env} {w:World}
end
variable {b d m:Nat} {A B:Option Addr} {w:World}
def fi (A:Option Addr) (n c:Nat) (B:Option Addr) (m d:Nat) (split least cpus:Int) : List Value:=[.slice A n c,.slice B m d,.int .i64 split,.int .i64 least,.int .i64 cpus]
theorem RO {t:Nat} {n c:Nat} {split:Int} (h:aS w b t (fi A n c B m d split least cpus)) : ∀ j v,(qa A n c B m d)[j]?=some v->w.cell? ((((⟨b,0,none⟩ : Addr)).add 0).add j)=some v:=fun j v hv=>by
 rw [add_add];refine h.cell (i:=0+j) ?_
 match j,hv with
 | 0,hv=>exact hv
 | 1,hv=>exact hv
set_option maxHeartbeats 4000000 in
theorem AA (A:Option Addr) (n c:Nat) (B:Option Addr) (m d:Nat) (x y:List Region) (split least cpus:Int) (w:World) (hx:Sl w 2 iz A n x) (hy:Sl w 2 iz B m y) (hn:n<=9223372036854775807) (hm:m<=9223372036854775807) (KS : -9223372036854775808<=split∧split<=9223372036854775807) (hS:iv w) :
 bI prog 12 [.agg (fi A n c B m d split least cpus).toArray] w fun v w' => ∃ u,iG (jq 256 x y) split least cpus u∧iN w.heap.size u v w':=by
 refine aE func12 rfl ntmps12 rfl ?_;refine CW.seq (CW.region (SW.box rfl rfl fun b1 w1 hw lc aW => ?_));refine SW.alloc rfl fun b2 w2 bt fk au => ?_
 have uM:=hw.up fk
 (obtain ⟨hw,aW⟩:=cX bt hw aW);have hlen:=Fy 256 x y;repeat' (first|refine Wz ?_|refine Wm ((RO aW)) ?_)
 refine Wk (Hr A n c B m d x y 256 rfl _ (hx.ext hw) (hy.ext hw) hn hm) fun v w5 ox hv => ?_
 obtain ⟨o,ho⟩ : ∃ o,jq 256 x y=o:=⟨_,rfl⟩;rw [ho] at hv hlen ⊢;clear ho;obtain ⟨A1,c1,rfl,hO⟩:=hv;have hO:=hO.low hw.size;(obtain ⟨hw,aW,au⟩:=cj ox hw aW au);by_cases h0:o.1=0
 ·rw [h0];refine Wz ?_;refine Wk (M8 A1 o.2.length c1 o.2 split least cpus _ hO.sl (by omega) KS) fun v w6 EV hv => ?_
  have P8:=fun h2=>Cv (l:=o.2) (split:=split) (least:=least) (cpus:=cpus) h2
  obtain ⟨e,he⟩ : ∃ e,gG o.2 split least cpus=e:=⟨_,rfl⟩;have FY:=fun h2=>iG.heap (o:=o) (split:=split) (least:=least) (cpus:=cpus) h0 h2
  have cS:=fun (t:ah) h2 m=>iG.made (o:=o) (split:=split) (least:=least) (cpus:=cpus) (t:=t) h0 h2 m
  rw [he] at hv P8 FY cS;clear he;obtain ⟨H,rfl,hH⟩:=hv;have hH:=hH.low hw.size;(obtain ⟨hw,aW,au⟩:=cj EV hw aW au);clear hO;by_cases h2:e.1=0
  ·rw [h2];refine Wz ?_;refine SW.alloc rfl fun b6 w1 ai dt aq => ?_
   skip;refine SW.ag aq rfl rfl rfl rfl (dU H) fun w2 bP hg => ?_
   have ar:=ai.own dt hg;have cG:=hw.up dt
   obtain ⟨hw,aW,au,hH⟩:=dG ar hw aW au hH;have aq:=bP;clear bP ai hg ar;refine Wz ?_;refine Wk (NX 256 _) fun v w7 je hv => ?_
   rw [if_pos ⟨by decide,by decide⟩] at hv;obtain ⟨A2,c2,rfl,hX⟩:=hv;have hX:Own w7 w.heap.size 3 1 bw A2 4096 c2 (List.replicate 4096 0):=hX.low hw.size;(obtain ⟨hw,aW,au,aq,hH⟩:=fI je hw aW au aq hH);refine Wz ?_;have VB:=au.lt;refine SW.alloc rfl fun b9 w1 ai nQ bD => ?_
   skip;refine SW.ag bD rfl rfl rfl rfl (aY ⟨⟨A2,4096,c2⟩,H,.nil⟩) fun w2 jM hg => ?_
   have ar:=ai.own nQ hg;have rU:=hw.up nQ
   obtain ⟨hw,aW,au,aq,hH,hX⟩:=iS ar hw aW au aq hH hX;have bD:=jM;clear jM ai hg ar;have bL:b2≠b9:=by omega
   have E7:iT _ w.heap.size ⟨⟨A2,4096,c2⟩,H,.nil⟩ (Hu e.2):=⟨hX,hH,⟨[],fj.nil _ _⟩⟩
   clear hX hH aW aq;repeat' (first|refine Wz ?_|refine Wo hw ((B9 hS)) ?_)
   refine CW.loop (fun s:Nat×db×ah=>[(2,.pointer (some ⟨b2,0,none⟩)),(9,.pointer (some ⟨b9,0,none⟩)),(44,.agg (kL.map (Value.int .i64)).toArray),(45,.int .i64 (s.1:Int))])
    (fun s w'=>s.1<=6∧Ext w w'∧aS w' b2 44 (aP .zero)∧aS w' b9 44 (aP s.2.1)∧iT w' w.heap.size s.2.1 s.2.2∧vy (Hu e.2) s.1 s.2.2) (fun s=>6-s.1) (0,⟨⟨A2,4096,c2⟩,H,.nil⟩,Hu e.2)
    ⟨rfl,rfl,rfl,rfl,trivial⟩ ⟨by omega,hw,au,bD,E7,.zero⟩ ?_
   clear hw au bD E7;rintro ⟨j,r,s⟩ w' ⟨hj,hw,au,bD,E7,hM⟩
   simp only at hj bD E7 hM ⊢;by_cases P9:j<6
   ·obtain ⟨k1,k2,k3,k4⟩:=Mw P9;have px:=Ca P9;have hf:=hM.cV (P8 h2) hj;have kS:=ON j;obtain ⟨z,hz⟩ : ∃ z,kP j=z:=⟨_,rfl⟩;have hMk:=fun (u:ah×Int) (h:lx s (gx z) z 1 u)=>vy.succ (u:=u) hM (hz ▸ h)
    rw [hz] at k1 k2 k3 k4 px kS;have NJ:(kL.map (Value.int .i64))[j]?=some (.int .i64 z):=by rw [aeC,k2];rfl
    repeat' (first|refine Wz ?_|(refine SW.st (qz j rfl rfl rfl P9 NJ) rfl ?_))
    refine CW.gl 8 8 (fun _=>True) mixed (by kernel_rfl) fun w1 ai aJ => ?_
    obtain ⟨hw,au,bD,E7⟩:=dG ai hw au bD E7;clear ai;refine Wf ?_;refine SF.one 2 rfl (by kernel_rfl) rfl ?_;refine Wk (wi z k1 _) fun v w4 ar hv => ?_
    subst hv;(obtain ⟨hw,au,bD,E7⟩:=dG ar hw au bD E7);refine SW.nil (ae.sf ar ?_);refine SF.one 4 rfl (by kernel_rfl) rfl ?_;refine Wk (ul r s (gx z) z 1 _ E7.rd hf px) fun v w4 ar hv => ?_
    obtain ⟨u,hu,q,rfl,hq⟩:=hv;have hq:=hq.low hw.size;(obtain ⟨hw,au,bD⟩:=cj ar hw au bD);refine SW.nil (ae.sf ar ?_);refine Wf ?_;refine SF.Br 7 aJ rfl (by kernel_rfl) (by kernel_rfl) rfl (fun _=>bi rfl) rfl ?_;refine SF.last rfl (by kernel_rfl) (by kernel_rfl) ?_;refine SW.ag bD rfl rfl rfl rfl (aY q) fun w6 jM hg => ?_
    have hG:=bD.gr hg;have au:=au.grown hg (by simpa using bL);have hw:=hw.own rU hg;(have hq:=hq.aN hG rfl);refine Wz ?_;exact ae.again (j+1,q,u.1) ⟨rfl,rfl,rfl,rfl,trivial⟩ (by simp only;omega) ⟨by simp only;omega,hw,au,jM,hq,hMk u hu⟩
   ·obtain rfl:j=6:=by omega
    refine Wz ?_;refine SW.ag au rfl rfl rfl rfl (aY r) fun w6 hR hg => ?_
    have hG:=au.gr hg;have hw:=hw.own uM hg;(have E7:=E7.aN hG rfl);refine Wz ?_;exact ae.dw rfl rfl rfl hR rfl ⟨_,rfl,hw,_,cS s h2 hM,r,rfl,E7⟩
  ·have hv:=FY h2;obtain ⟨e1,Sr⟩ : ∃ e1,e.1=e1:=⟨_,rfl⟩;rw [Sr] at h2 hv ⊢;refine Wz ?_;refine SW.alloc rfl fun b6 w1 ai dt aq => ?_
   skip;refine SW.ag aq rfl rfl rfl rfl (dU H) fun w2 bP hg => ?_
   have ar:=ai.own dt hg;have cG:=hw.up dt
   obtain ⟨hw,au⟩:=cX ar hw au;have aq:=bP;clear bP ai hg ar;refine Wz ?_;refine SW.ag au rfl rfl rfl rfl (aY .zero) fun w7 hR hg => ?_
   have hw:=hw.own uM hg;refine Wz ?_;exact ae.dw rfl rfl rfl hR rfl ⟨_,rfl,hw,_,hv,iN.zero _ _ _⟩
 ·have hv:=iG.RL (split:=split) (least:=least) (cpus:=cpus) h0;obtain ⟨e1,Sr⟩ : ∃ e1,o.1=e1:=⟨_,rfl⟩;rw [Sr] at h0 hv ⊢;refine Wz ?_;refine SW.ag au rfl rfl rfl rfl (aY .zero) fun w7 hR hg => ?_
  have hw:=hw.own uM hg;refine Wz ?_;exact ae.dw rfl rfl rfl hR rfl ⟨_,rfl,hw,_,hv,iN.zero _ _ _⟩
variable {R:Ending->World->Prop} {fn:Func} {cs:List Value} {P:Program}
inductive Ks (o:Int×List Region) (split least cpus:Int) (l:List cJ) : Int×List kz×ah->Prop
 | fault {u:ah×Int} (h:iG o split least cpus u) (he:u.2≠0) : Ks o split least cpus l (u.2,[],.zero)
 | YS {u:ah×Int} {xs:List kz} {t:ah} (h:iG o split least cpus u) (he:u.2=0) (hr:lC u.1 l xs t) : Ks o split least cpus l (0,xs,t)
def RP (lo:Nat) (o:Int×List kz×ah) (v:Value) (w:World) : Prop := ∃ A n c rs q,v = .tuple #[.slice A n c,.agg (aP q).toArray,.int .i64 o.1]∧iP w lo A n c rs o.2.1∧iT w lo q o.2.2
theorem ae.HA {n:Nat} {L:Env} {t u q ty tb:Nat} {x y:Value} [c:fu P ty m] (hr:fn.results = #[.tmp u,.cell t ty,.tmp q]) (hx:get L u=some x) (hv:get L t=some (.pointer (some ⟨b,0,none⟩))) (hy:get L q=some y) (hB:aS w b tb cs) (hl:Nat.beq cs.length m=true) (h:R (.returned (.tuple #[x,.agg cs.toArray,y])) w) : ae n (bodyPost P fn R) .ret L w :=
 ⟨fun a ha=>⟨ha.defers,_,by simpa using mw.results (rs:=[.tmp u,.cell t ty,.tmp q]) hr (.tmp hx (.cell c hv hB (adv hl) (.tmp hy .nil))) ha,h⟩⟩
theorem iP.fv (w:World) (lo:Nat) (A:Option Addr) : iP w lo A 0 0 [] []:=⟨Own.fv _ _ _ _ _ _,.nil⟩
structure Ul where
 j:Nat
 A:Option Addr
 c:Nat
 rs:List p9
 xs:List kz
 q:db
 t:ah
set_option maxHeartbeats 4000000 in
theorem IV (I:ah->Prop) (A:Option Addr) (n c:Nat) (B:Option Addr) (m d:Nat) (x y:List Region) (split least cpus:Int) (X:Option Addr) (k e:Nat) (l:List cJ) (w:World) (hx:Sl w 2 iz A n x) (hy:Sl w 2 iz B m y) (hn:n<=9223372036854775807) (hm:m<=9223372036854775807) (KS : -9223372036854775808<=split∧split<=9223372036854775807) (hS:iv w) (eY:mD w)
 (hl:Sl w 7 eB X k l) (hk:k<=300) (hI:∀ u,iG (jq 256 x y) split least cpus u->u.2=0->I u.1) (hF:∀ s,I s->s.cV) (hG:∀ a∈l,jn I a) (hP:∀ a∈l,wC I a) :
 bI prog 8 [.agg (fi A n c B m d split least cpus).toArray,.slice X k e] w fun v w' => ∃ o,Ks (jq 256 x y) split least cpus l o∧RP w.heap.size o v w':=by
 refine aE func8 rfl ntmps8 rfl ?_;refine CW.seq (CW.region (SW.box rfl rfl fun b2 w1 hw fk au => ?_));have mv:=hl.len;have YT:=hl.base;have l2:=au.lt;refine Wz ?_;refine SW.alloc rfl fun b5 w2 bt gm aL => ?_
 have jD:w.heap.size<=b5:=ac2 hw.size gm
 (replace hw:=Ext.trans hw bt;replace au:=au.ext bt);refine Wz ?_;refine Wk (AA A n c B m d x y split least cpus _ (hx.ext hw) (hy.ext hw) hn hm KS (hS.ext hw)) fun v w5 ox hv => ?_
 obtain ⟨u,hu,s1,rfl,ke⟩:=hv;replace ke:=ke.low hw.size;(replace hw:=Ext.trans hw ox;replace au:=au.ext ox;replace aL:=aL.ext ox);obtain ⟨u1,u2⟩:=u;simp only at ke ⊢;refine Wz ?_;have l5:=aL.lt;refine SW.alloc rfl fun b7 w1 ai iB bd => ?_
 skip;refine SW.ag bd rfl rfl rfl rfl (aY s1) fun w2 bq hg => ?_
 have ar:=ai.own iB hg;have fX:w.heap.size<=b7:=ac2 hw.size iB
 replace hw:=Ext.trans hw ar;replace au:=au.ext ar;replace aL:=aL.ext ar;replace ke:=ke.ext ar;replace bd:=bq;clear bq ai hg ar;have rf:b5≠b7:=by omega
 by_cases he:u2=0
 ·have Px:=hI _ hu he;have YU:=fun xs t h=>Ks.YS (l:=l) (xs:=xs) (t:=t) hu he h
  simp only at Px YU;subst he;refine Wz ?_
  refine CW.loop (fun s:Ul=>[(5,.pointer (some ⟨b5,0,none⟩)),(7,.pointer (some ⟨b7,0,none⟩)),(9,.slice s.A s.j s.c),(26,.slice X k e),(27,.int .i64 (k:Int)),(28,.int .i64 (s.j:Int))])
   (fun s w'=>s.j<=k∧Ext w w'∧aS w' b5 44 (aP .zero)∧aS w' b7 44 (aP s.q)∧iT w' w.heap.size s.q s.t∧iP w' w.heap.size s.A s.j s.c s.rs s.xs∧lC u1 (l.take s.j) s.xs s.t∧I s.t) (fun s=>k-s.j) ⟨0,none,0,[],[],s1,u1⟩
   ⟨rfl,rfl,rfl,rfl,rfl,rfl,trivial⟩ ⟨adO _,hw,aL,bd,ke,iP.fv _ _ _,by rw [List.take_zero];exact .nil _,Px⟩ ?_
  clear hw aL bd ke au;rintro ⟨j,Y,f,rs,xs,q,t⟩ w' ⟨hj,hw,aL,bd,hq,hY,hR,P4⟩
  simp only at hj bd hq hY hR P4 ⊢;by_cases mO:j<k
  ·have pA:j<l.length:=by omega
   repeat' (first|refine Wz ?_|refine Wo hw ((hl.all mO)) ?_)
   refine SW.alloc rfl fun N9 w1 ai so gR => ?_
   skip;refine SW.ag gR rfl rfl rfl rfl (P1 l[j]) fun w2 oI hg => ?_
   have ar:=ai.own so hg;have L5:w.heap.size<=N9:=ac2 hw.size so
   replace hw:=Ext.trans hw ar;replace aL:=aL.ext ar;replace bd:=bd.ext ar;replace hq:=hq.ext ar;replace hY:=hY.ext ar;replace gR:=oI;clear oI ai hg ar;refine Wz ?_;have l7:=hY.row.lt_size;refine SW.alloc rfl fun vq w2 bt lB bX => ?_
   have mK:w.heap.size<=vq:=ac2 hw.size lB
   (replace hw:=Ext.trans hw bt;replace aL:=aL.ext bt;replace bd:=bd.ext bt;replace gR:=gR.ext bt;replace hq:=hq.ext bt;replace hY:=hY.ext bt);clear bt;refine Wz ?_;refine Wk (hG l[j] (ac0 pA) q t w.heap.size _ hq hw.size P4 (hS.ext hw) (eY.ext hw)) fun v w7 je hv => ?_
   obtain ⟨o,ho,q',x',rfl,NO,py⟩:=hv;(replace hw:=Ext.trans hw je;replace aL:=aL.ext je;replace bd:=bd.ext je;replace gR:=gR.ext je;replace bX:=bX.ext je;replace hY:=hY.ext je);clear je hq;obtain ⟨o1,o2⟩:=o;simp only at NO py ⊢;have hIo:=hP l[j] (ac0 pA) t _ P4 ho;refine Wz ?_;refine SW.ag bd rfl rfl rfl rfl (aY q') fun w8 bq hg => ?_
   have wz:=bd.gr hg;replace aL:=aL.grown hg (by simpa using rf);replace hw:=hw.own fX hg;(replace gR:=gR.aN wz rfl;replace bX:=bX.aN wz rfl;replace hY:=hY.aN wz rfl;replace NO:=NO.aN wz rfl;replace py:=py.aN wz rfl);clear wz hg bd;refine SW.ag bX rfl rfl rfl rfl (fh x') fun w8 k7 hg => ?_
   have wz:=bX.gr hg;have YV:iP w8 w.heap.size Y j f rs xs:=⟨hY.row.grown hg (.inr (fun e=>by have:=l7 _ e;omega)),hY.each.mono fun _ _ h=>h.aN wz rfl⟩
   replace hw:=hw.own mK hg;(replace aL:=aL.aN wz rfl;replace bq:=bq.aN wz rfl;replace gR:=gR.aN wz rfl;replace NO:=NO.aN wz rfl;replace py:=py.aN wz rfl);clear hY wz hg bX l7 lB;have bd:=bq;have bX:=k7;have hY:=YV;clear bq k7 YV;refine Wz ?_;refine SW.dR rfl rfl rfl rfl rfl fun tz w9 th lH cw => ?_
   (replace hw:=Ext.trans hw th;replace aL:=aL.ext th;replace bd:=bd.ext th;replace NO:=NO.ext th;replace py:=py.ext th;replace hY:=hY.ext th);clear th;refine SW.append hY.row (aS.vF (enc:=cb) cw) hw.size rfl rfl rfl (by omega) (by omega) fun Y2 f2 qU Ss hg => ?_
   have wz:=hY.row.gr hg;replace hw:=aF hw hg (ac3 _) hY.row.ba;have hYe:=hY.each.mono fun _ _ h=>h.aN (t:=55) wz rfl
   (replace aL:=aL.aN wz rfl;replace bd:=bd.aN wz rfl;replace NO:=NO.aN wz rfl;replace py:=py.aN wz rfl);clear wz hg hY;refine Wz ?_;have cS:=lC.snoc hR ho;rw [<- ac5 pA] at cS;exact ae.again ⟨j+1,Y2,f2,rs++[x'],xs++[o2],q',o1⟩ ⟨rfl,rfl,rfl,rfl,rfl,rfl,trivial⟩ (by simp only;omega) ⟨by simp only;omega,hw,aL,bd,NO,⟨Ss,hYe.snoc py⟩,cS,hIo⟩
  ·obtain rfl:j=k:=by omega
   rw [adf (by omega)] at hR;refine Wz ?_;refine Wk (mi q t _ hq.rd (hF t P4).small) fun v w9 th hv => ?_
   obtain ⟨p,cs',rfl,Np,_⟩:=hv;have hP:=Np.xH.low hw.size;clear Np;(replace hw:=Ext.trans hw th;replace aL:=aL.ext th;replace bd:=bd.ext th;replace hY:=hY.ext th);refine Wz ?_;refine SW.ag aL rfl rfl rfl rfl (aY p) fun jb Xk hg => ?_
   have wz:=aL.gr hg;replace hw:=hw.own jD hg;(replace hP:=hP.aN wz rfl;replace hY:=hY.aN wz rfl);refine Wz ?_;exact ae.HA rfl rfl rfl rfl Xk rfl ⟨_,rfl,hw,_,YU _ _ hR,Y,j,f,rs,p,rfl,hY,hP⟩
 ·have hv:=Ks.fault (l:=l) hu he;simp only at hv;refine Wz ?_;refine SW.ag aL rfl rfl rfl rfl (aY .zero) fun w7 hR hg => ?_
  replace hw:=hw.own jD hg;refine Wz ?_;exact ae.HA rfl rfl rfl rfl hR rfl ⟨_,rfl,hw,_,hv,none,0,0,[],.zero,rfl,iP.fv _ _ _,Own.fv _ _ _ _ _ _,jC.zero _ _,⟨[],fj.nil _ _⟩⟩
end Go.Proofs.YtohigmjjbgpfmaaGreatDoor
