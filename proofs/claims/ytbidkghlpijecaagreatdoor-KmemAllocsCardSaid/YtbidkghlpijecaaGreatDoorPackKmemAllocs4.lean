/-
  Texts of the claim KmemAllocs, part 4: what its theorem leans on.
-/
import Derived.Test.YtbidkghlpijecaaGreatDoorPackKmemAllocs3
import Derived.Test.YtbidkghlpijecaaGreatDoorPackKmemAllocs2
import Derived.Test.YtbidkghlpijecaaGreatDoorPackKmemAllocs1
import Derived.Lib.AppendZerosOnto
import Derived.Lib.Overlaps
import Derived.Room.Entries
set_option linter.unusedVariables false
set_option linter.unusedSimpArgs false
namespace Go.Proofs.YtbidkghlpijecaaGreatDoor
open Go.RowKit
def z8 (f:Int) (l:List Block) : Nat→Int
 | 0=>f
 | k+1=>match l[k]? with
   | some b=>b.At+pw b.Order
   | none=>0
theorem ov (f:Int) (l:List Block) (k:Nat) (h:k<l.length) : z8 f l (k+1)=l[k].At+pw l[k].Order:=by simp [z8,List.getElem?_eq_getElem h]
set_option maxHeartbeats 4000000 in
theorem kE (r:cy) (z:ar) (w:World) (hr:uj w r z) (hf:r.ag.n≤2305843009213693952) (ht:r.Types.n≤1000000000000000000) (h1 : -9223372036854775808≤r.aX∧r.aX≤9223372036854775807) (h2 : -9223372036854775808≤r.To∧r.To≤9223372036854775807) :
 bo Tryz.prog 195 [.agg (bp r).toArray] w fun v _=>v = .bool (ed z):=by
 refine aI Tryz.func195 rfl Tryz.ntmps195 rfl ?_;refine CW.seq (CW.region (SW.box rfl rfl fun b1 w1 hw gV aB => ?_));have eF:=hr.from_;have eT:=hr.j6;have CA:=hr.free.len;have HU:=hr.types.len;refine Wz ?_;refine SW.call rfl rfl (wP r.aX r.To _ h1 h2) fun v w2 cq hv => ?_
 (replace hw:=Ext.trans hw cq;replace aB:=aB.ext cq);by_cases jh:jz r.aX r.To
 ·rw [lS jh] at hv;obtain ⟨s,rfl,hs⟩:=hv;obtain ⟨o1,o2,o3,o4,o5⟩:=id jh;by_cases IC : 8*(z.Types.length:Int)=z.To-z.aX
  ·refine Wz ?_;refine SW.alloc rfl fun b3 w1 ab bH aq => ?_
   have cw:w.heap.size≤b3:=Nat.le_trans hw.size bH
   have j9:b1≠b3:=by have:=aB.lt;omega
   replace hw:=Ext.trans hw ab;replace aB:=aB.ext ab;replace hs:=hs.ext ab;refine SW.ak aq rfl rfl rfl rfl (cJ _) fun w2 cK hg => ?_
   replace hw:=hw.own cw hg;replace hs:=hs.c8 aq hg rfl rfl;replace aB:=aB.grown hg (by simpa using j9);replace aq:=cK;clear cK ab hg bH;refine Wz ?_
   refine CW.loop (fun k:Nat=>[(1,.pointer (some ⟨b1,0,none⟩)),(5,.int .i64 (k:Int))]) (fun k w'=>k≤r.Types.n∧Ext w w'∧aJ w' b1 139 (bp r) ∧ ∀ (j:Nat) (hj:j<z.Types.length),j<k→fp z.Types[j]) (fun k=>r.Types.n-k) 0
    ⟨rfl,rfl,trivial⟩ ⟨by omega,hw,aB,fun j _ h=>by omega⟩ ?_
   clear hw aB aq hs;rintro k w' ⟨hk,hw,aB,hI⟩
   have hA:=hr.types.base;by_cases cb:k<r.Types.n
   ·have dk:=hr.types.lt cb;by_cases nC:fp (z.Types[k])
    ·obtain ⟨t1,t2⟩:=id nC;repeat' (first|refine Wz ?_|refine SW.st (ap hw rfl (hr.types.one cb rfl)) rfl ?_|(refine SW.call rfl rfl (bP _ _ _ _) ?_;intro v w1 ab hv;subst hv;replace hw:=Ext.trans hw ab;replace aB:=aB.ext ab;clear ab))
     all_goals try omega
     refine ae.again (k+1) ⟨rfl,rfl,trivial⟩ (by omega) ⟨by omega,hw,aB,fun j hj h => ?_⟩;by_cases lg:j=k
     ·subst lg;exact nC
     ·exact hI j hj (by omega)
    ·have hn : ¬ (0≤z.Types[k]∧z.Types[k]≤2):=nC
     repeat' (first|refine Wz ?_|refine SW.st (ap hw rfl (hr.types.one cb rfl)) rfl ?_|(refine SW.call rfl rfl (bP _ _ _ _) ?_;intro v w1 ab hv;subst hv;replace hw:=Ext.trans hw ab;replace aB:=aB.ext ab;clear ab))
     all_goals try omega
     refine ae.aO rfl rfl ⟨_,rfl,hw,?_⟩;rw [gg (fun h=>nC (h.types _ (List.getElem_mem dk)))]
   ·have nC:∀ t∈z.Types,fp t:=fun t CB=>by
     obtain ⟨j,hj,rfl⟩:=List.getElem_of_mem CB;exact hI j hj (by omega)
    clear hI hA;refine Wz ?_
    refine CW.loop (fun k:Nat=>[(1,.pointer (some ⟨b1,0,none⟩)),(6,.int .i64 (z8 z.aX z.ag k)),(7,.int .i64 (k:Int))])
     (fun k w'=>k≤r.ag.n∧Ext w w'∧aJ w' b1 139 (bp r)∧(∀ (i:Nat) (h:i<z.ag.length),i<k→dE z.aX z.To z.ag[i])∧(∀ (i:Nat) (h:i+1<z.ag.length),i+1<k→gU z.ag[i] z.ag[i+1]))
     (fun k=>r.ag.n-k) 0 ⟨rfl,by rw [eF];rfl,rfl,trivial⟩ ⟨by omega,hw,aB,fun i h hi=>by omega,fun i h hi=>by omega⟩ ?_
    clear hw aB hk cb;rintro k w' ⟨hk,hw,aB,hI,hN⟩
    have hA:=hr.free.base;by_cases cb:k<r.ag.n
    ·have dk:=hr.free.lt cb
     have cM:∀ w',bo Tryz.prog 211 [.agg (bp r).toArray,.int .i64 (z.ag[k]).At,.int .i64 (z.ag[k]).Order] w' fun v _=>v = .bool (decide (eX z.aX z.To (z.ag[k]).At (z.ag[k]).Order)):=fun w'=>by
      have:=o9 r (z.ag[k]).At (z.ag[k]).Order w' ⟨by omega,by omega⟩ ⟨by omega,by omega⟩
      rwa [eF,eT] at this
     repeat' (first|refine Wz ?_|refine SW.st (aH hw rfl rfl ((hr.free.all cb))) rfl ?_)
     refine SW.alloc rfl fun b7 w3 jW lm jY => ?_
     have rr:w.heap.size≤b7:=Nat.le_trans hw.size lm
     have cG:b1≠b7:=by have:=aB.lt;omega
     (replace hw:=Ext.trans hw jW;replace aB:=aB.ext jW);skip;refine SW.ak jY rfl rfl rfl rfl (fw.one (enc:=aA) _) fun w4 dJ hg => ?_
     replace hw:=hw.own rr hg;replace aB:=aB.grown hg (by simpa using cG);by_cases mR:dE z.aX z.To z.ag[k]
     ·obtain ⟨AJ,t1,t2⟩:=id mR;obtain ⟨f1,f2,f3,f4,f5⟩:=id AJ;have hp:=bE f1 f2;have KD:=jf f1 f2;rw [decide_eq_true AJ] at cM;by_cases p7:k=0
      ·subst p7;have Gw:z8 z.aX z.ag 0=z.aX:=rfl
       repeat' (first|refine Wz ?_|((apply CW.aP mixed;(· kernel_rfl);rotate_left;intro w1 ab;replace hw:=Ext.trans hw ab;replace aB:=aB.ext ab;replace dJ:=dJ.ext ab;clear ab;rotate_right))|refine SW.want rfl rfl ?_|((first|refine SW.call rfl rfl (cM _) ?_|refine SW.call rfl rfl (bP _ _ _ _) ?_);intro v w1 ab hv;subst hv;replace hw:=Ext.trans hw ab;replace aB:=aB.ext ab;replace dJ:=dJ.ext ab;clear ab)|refine SW.br rfl rfl (fun w1 ab=>(c9 _ (by omega) _)) ?_|exact SW.bx rfl)
       all_goals try omega
       refine ae.again (0+1) ⟨rfl,by rw [ov _ _ _ dk];rfl,rfl,trivial⟩ (by omega) ⟨by omega,hw,aB,fun i h hi => ?_,fun i h hi=>by omega⟩;obtain rfl:i=0:=by omega
       exact mR
      ·obtain ⟨j,rfl⟩ : ∃ j,k=j+1:=⟨k-1,by omega⟩;have hj:j<r.ag.n:=by omega
       have kV:=hr.free.lt hj;have ID:=hI j kV (by omega);obtain ⟨⟨g1,g2,g3,g4,g5⟩,_⟩:=id ID;have Gw:=ov z.aX z.ag j kV;have em:(z.ag[j]).At.tmod (pw ((z.ag[j+1]).Order+1))=(z.ag[j]).At % (pw ((z.ag[j+1]).Order+1)):=Int.tmod_eq_emod_of_nonneg (by omega)
       by_cases de:(z.ag[j]).At+pw (z.ag[j]).Order≤(z.ag[j+1]).At
       ·have J8:=Cy ID mR de;by_cases CC:(z.ag[j+1]).Order<4∧(z.ag[j]).Order=(z.ag[j+1]).Order∧(z.ag[j]).At+pw (z.ag[j+1]).Order=(z.ag[j+1]).At∧(z.ag[j]).At % pw ((z.ag[j+1]).Order+1)=0
        ·have nP:=J8.2 CC;obtain ⟨u1,u2,u3,u4⟩:=id CC;clear J8;repeat' (first|refine Wz ?_|((apply CW.aP mixed;(· kernel_rfl);rotate_left;intro w1 ab;replace hw:=Ext.trans hw ab;replace aB:=aB.ext ab;replace dJ:=dJ.ext ab;clear ab;rotate_right))|refine SW.st (bc (j) rfl rfl (by assumption) (by omega) (by omega)) rfl ?_|refine SW.st (ap hw rfl (hr.free.dA hj rfl)) rfl ?_|((first|refine SW.call rfl rfl (cM _) ?_|refine SW.call rfl rfl (bP _ _ _ _) ?_);intro v w1 ab hv;subst hv;replace hw:=Ext.trans hw ab;replace aB:=aB.ext ab;replace dJ:=dJ.ext ab;clear ab)|refine SW.br rfl rfl (fun w1 ab=>(c9 _ (by omega) _)) ?_|exact SW.bx rfl)
         all_goals try omega
         refine ae.aO rfl rfl ⟨_,rfl,hw,?_⟩;rw [gg (fun h=>(h.next j dk).2 nP)]
        ·have KE:gU z.ag[j] z.ag[j+1]:=⟨de,fun h=>CC (J8.1 h)⟩
         have hd:(¬ (z.ag[j+1]).Order<4)∨((z.ag[j+1]).Order<4 ∧ ¬ (z.ag[j]).Order=(z.ag[j+1]).Order)∨((z.ag[j+1]).Order<4∧(z.ag[j]).Order=(z.ag[j+1]).Order ∧ ¬ (z.ag[j]).At+pw (z.ag[j+1]).Order=(z.ag[j+1]).At) ∨
          ((z.ag[j+1]).Order<4∧(z.ag[j]).Order=(z.ag[j+1]).Order∧(z.ag[j]).At+pw (z.ag[j+1]).Order=(z.ag[j+1]).At ∧ ¬ (z.ag[j]).At % pw ((z.ag[j+1]).Order+1)=0):=by
          by_cases u1:(z.ag[j+1]).Order<4
          ·by_cases u2:(z.ag[j]).Order=(z.ag[j+1]).Order
           ·by_cases u3:(z.ag[j]).At+pw (z.ag[j+1]).Order=(z.ag[j+1]).At
            ·exact .inr (.inr (.inr ⟨u1,u2,u3,fun u4=>CC ⟨u1,u2,u3,u4⟩⟩))
            ·exact .inr (.inr (.inl ⟨u1,u2,u3⟩))
           ·exact .inr (.inl ⟨u1,u2⟩)
          ·exact .inl u1
         clear J8
         have jK:∀ (i:Nat) (h:i+1<z.ag.length),i+1<j+1+1→gU z.ag[i] z.ag[i+1]:=fun i h hi=>by
          by_cases kW:i=j
          ·subst kW;exact KE
          ·exact hN i h (by omega)
         have KF:∀ (i:Nat) (h:i<z.ag.length),i<j+1+1→dE z.aX z.To z.ag[i]:=fun i h hi=>by
          by_cases kW:i=j+1
          ·subst kW;exact mR
          ·exact hI i h (by omega)
         rcases hd with u1|⟨u1,u2⟩|⟨u1,u2,u3⟩|⟨u1,u2,u3,u4⟩
         all_goals
          repeat' (first|refine Wz ?_|((apply CW.aP mixed;(· kernel_rfl);rotate_left;intro w1 ab;replace hw:=Ext.trans hw ab;replace aB:=aB.ext ab;replace dJ:=dJ.ext ab;clear ab;rotate_right))|refine SW.want rfl rfl ?_|refine SW.st (bc (j) rfl rfl (by assumption) (by omega) (by omega)) rfl ?_|refine SW.st (ap hw rfl (hr.free.dA hj rfl)) rfl ?_|((first|refine SW.call rfl rfl (cM _) ?_|refine SW.call rfl rfl (bP _ _ _ _) ?_);intro v w1 ab hv;subst hv;replace hw:=Ext.trans hw ab;replace aB:=aB.ext ab;replace dJ:=dJ.ext ab;clear ab)|refine SW.br rfl rfl (fun w1 ab=>(c9 _ (by omega) _)) ?_|exact SW.bx rfl)
          all_goals try omega
          exact ae.again (j+1+1) ⟨rfl,by rw [ov _ _ _ dk];rfl,rfl,trivial⟩ (by omega) ⟨by omega,hw,aB,KF,jK⟩
       ·repeat' (first|refine Wz ?_|refine SW.want rfl rfl ?_|((first|refine SW.call rfl rfl (cM _) ?_|refine SW.call rfl rfl (bP _ _ _ _) ?_);intro v w1 ab hv;subst hv;replace hw:=Ext.trans hw ab;replace aB:=aB.ext ab;replace dJ:=dJ.ext ab;clear ab))
        all_goals try omega
        refine ae.aO rfl rfl ⟨_,rfl,hw,?_⟩;rw [gg (fun h=>de (h.next j dk).1)]
     ·have wQ:ed z=false:=gg (fun h=>mR (h.c8 k dk))
      by_cases AJ:eX z.aX z.To (z.ag[k]).At (z.ag[k]).Order
      ·have ru : ¬ (0≤(z.ag[k]).Ty∧(z.ag[k]).Ty≤2):=fun h=>mR ⟨AJ,h⟩
       rw [decide_eq_true AJ] at cM;repeat' (first|refine Wz ?_|refine SW.want rfl rfl ?_|((first|refine SW.call rfl rfl (cM _) ?_|refine SW.call rfl rfl (bP _ _ _ _) ?_);intro v w1 ab hv;subst hv;replace hw:=Ext.trans hw ab;replace aB:=aB.ext ab;replace dJ:=dJ.ext ab;clear ab))
       all_goals try omega
       exact ae.aO rfl rfl ⟨_,rfl,hw,by rw [wQ]⟩
      ·rw [decide_eq_false AJ] at cM;repeat' (first|refine Wz ?_|refine SW.skip rfl rfl rfl rfl ?_|(refine SW.call rfl rfl (cM _) ?_;intro v w1 ab hv;subst hv;replace hw:=Ext.trans hw ab;replace aB:=aB.ext ab;replace dJ:=dJ.ext ab;clear ab))
       exact ae.aO rfl rfl ⟨_,rfl,hw,by rw [wQ]⟩
    ·refine Wz ?_;refine ae.aO rfl rfl ⟨_,rfl,hw,?_⟩;rw [rP ⟨by rw [← eF,← eT];exact jh,IC,nC,fun i h=>hI i h (by omega),fun i h=>hN i h (by omega)⟩]
  ·refine Wz ?_;refine SW.alloc rfl fun b3 w1 ab bH aq => ?_
   have cw:w.heap.size≤b3:=Nat.le_trans hw.size bH
   have j9:b1≠b3:=by have:=aB.lt;omega
   replace hw:=Ext.trans hw ab;replace aB:=aB.ext ab;replace hs:=hs.ext ab;refine SW.ak aq rfl rfl rfl rfl (cJ _) fun w2 cK hg => ?_
   replace hw:=hw.own cw hg;replace hs:=hs.c8 aq hg rfl rfl;replace aB:=aB.grown hg (by simpa using j9);replace aq:=cK;clear cK ab hg bH;refine Wz ?_;refine ae.aO rfl rfl ⟨_,rfl,hw,?_⟩;rw [gg (fun h=>IC h.len)]
 ·rw [lR jh] at hv;obtain ⟨s,rfl,hs⟩:=hv;refine Wz ?_;refine SW.alloc rfl fun b3 w1 ab bH aq => ?_
  have cw:w.heap.size≤b3:=Nat.le_trans hw.size bH
  have j9:b1≠b3:=by have:=aB.lt;omega
  replace hw:=Ext.trans hw ab;replace aB:=aB.ext ab;replace hs:=hs.ext ab;refine SW.ak aq rfl rfl rfl rfl (cJ _) fun w2 cK hg => ?_
  replace hw:=hw.own cw hg;replace hs:=hs.c8 aq hg rfl rfl;replace aB:=aB.grown hg (by simpa using j9);replace aq:=cK;clear cK ab hg bH;refine Wz ?_;refine ae.aO rfl rfl ⟨_,rfl,hw,?_⟩;rw [gg (fun h=>jh (by rw [eF,eT];exact h.ok))]
def rv (a o:Int) (b:Block) : Bool:=decide (b.At=a) && decide (b.Order=o)
def dc (l:List Block) (a o:Int) : List Block:=l.filter fun b => !rv a o b
def ic:Nat→List Block→Int→Int→List Block×Int×Int
 | 0,l,a,o=>(l,a,o)
 | f+1,l,a,o=>if o<4 then (if l.any (rv (beside a o) o) then ic f (dc l (beside a o) o) (min a (beside a o)) (o+1) else (l,a,o)) else (l,a,o)
def bG (l:List Block) (a:Int) : Nat:=l.findIdx fun b=>decide (a≤b.At)
def aV {α:Type} (l:List α) (i:Nat) (b : α) : List α := l.take i++[b]++l.drop i
def e8 (l:List Block) (a o:Int) : Bool:=l.any fun x=>decide (x.At<a+pw o) && decide (a<x.At+pw x.Order)
def nQ (l:List Block) : Prop:=l.Pairwise fun x y=>x.At+pw x.Order≤y.At
structure vC (f t:Int) (l:List Block) (a o:Int) : Prop where
 nQ:nQ l
 c8:∀ b∈l,dE f t b
 fit:eX f t a o
 Cb:∀ b∈l,b.At+pw b.Order≤a∨a+pw o≤b.At
theorem fr {l:List Block} (h:nQ l) {i j:Nat} (hj:j<l.length) (kW:i<j) : (l[i]'(by omega)).At+pw (l[i]'(by omega)).Order≤l[j].At:=by
 unfold nQ at h;rw [List.pairwise_iff_getElem] at h;exact h i j (by omega) hj kW
theorem ln {z:ar} (h:bU z) : nQ z.ag:=by
 have key:∀ (d i:Nat) (hj:i+d+1<z.ag.length),(z.ag[i]'(by omega)).At+pw (z.ag[i]'(by omega)).Order≤z.ag[i+d+1].At:=by
  intro d;induction d with
  | zero=>intro i hj;exact (h.next i hj).1
  | succ d ih =>
    intro i hj;have h1:=ih i (by omega);have h2:=(h.next (i+d+1) (by omega)).1;have hb:=(h.c8 (i+d+1) (by omega)).1;have:=bE hb.1 hb.2.1
    have e:z.ag[i+(d+1)+1]=z.ag[i+d+1+1]'(by omega):=rfl
    rw [e];omega
 unfold nQ;rw [List.pairwise_iff_getElem];intro i j hi hj kW;have:=key (j-i-1) i (by omega)
 have e:i+(j-i-1)+1=j:=by omega
 simp only [e] at this;exact this
theorem CD {f t:Int} {l:List Block} (h:nQ l) (hb:∀ b∈l,dE f t b) {x y:Block} (hx:x∈l) (hy:y∈l) : x=y∨x.At+pw x.Order≤y.At∨y.At+pw y.Order≤x.At:=by
 obtain ⟨i,hi,rfl⟩:=List.getElem_of_mem hx;obtain ⟨j,hj,rfl⟩:=List.getElem_of_mem hy;rcases Nat.lt_trichotomy i j with h1|h1|h1
 ·exact .inr (.inl (fr h hj h1))
 ·subst h1;exact .inl rfl
 ·exact .inr (.inr (fr h hi h1))
theorem Gx {f t:Int} {l:List Block} (h:nQ l) (hb:∀ b∈l,dE f t b) {i j:Nat} (hi:i<l.length) (hj:j<l.length) (e:l[i].At=l[j].At) : i=j:=by
 have p1:=hb _ (List.getElem_mem hi);have p2:=hb _ (List.getElem_mem hj);have q1:=bE p1.1.1 p1.1.2.1;have q2:=bE p2.1.1 p2.1.2.1;rcases Nat.lt_trichotomy i j with h1|h1|h1
 ·have:=fr h hj h1;omega
 ·exact h1
 ·have:=fr h hi h1;omega
theorem ow {a o:Int} (h : 0≤a) (h0 : 0≤o) (h4:o<4) (hm:a % pw o=0) : (min a (beside a o)) % pw (o+1)=0∧(beside a o=a+pw o∨beside a o=a-pw o)∧(beside a o) % pw o=0:=by
 rw [jf h0 (by omega)];unfold beside;have hp:=ev h0 (show o≤4 by omega);generalize pw o=q at *
 rcases hp with ⟨e,rfl⟩|⟨e,rfl⟩|⟨e,rfl⟩|⟨e,rfl⟩|⟨e,rfl⟩<;>split<;>omega
theorem gH {a o:Int} {b:Block}:rv a o b=true↔b.At=a∧b.Order=o:=by simp [rv]
theorem vC.step {f t:Int} {l:List Block} {a o:Int} (h:vC f t l a o) (h0 : 0≤f) (ho:o<4) (dU:l.any (rv (beside a o) o)=true) : vC f t (dc l (beside a o) o) (min a (beside a o)) (o+1):=by
 obtain ⟨b,hb,hi⟩:=List.any_eq_true.1 dU;obtain ⟨e1,e2⟩:=gH.1 hi;obtain ⟨f1,f2,f3,f4,f5⟩:=h.fit;obtain ⟨g1,g2,g3,g4,g5⟩:=(h.c8 b hb).1;obtain ⟨k1,k2,k3⟩:=ow (by omega) f1 ho f5;have hp:=jf f1 f2;have FG:=bE f1 f2;refine ⟨h.nQ.sublist List.filter_sublist,fun x hx=>h.c8 x ((List.mem_filter.1 hx).1),⟨by omega,by omega,by omega,by omega,k1⟩,fun x hx => ?_⟩;have jx:=(List.mem_filter.1 hx).1
 have Mp:rv (beside a o) o x=false:=by
  have:=(List.mem_filter.1 hx).2
  simpa using this
 have hd:=h.Cb x jx;have Pp:=bE (h.c8 x jx).1.1 (h.c8 x jx).1.2.1;rcases CD h.nQ h.c8 hb jx with e|e|e
 ·subst e;rw [hi] at Mp;cases Mp
 ·rw [hp];rw [e2] at e;omega
 ·rw [hp];omega
theorem z9 {l:List Block} {a:Int} {i:Nat} (hi:i≤l.length) (h1:∀ (k:Nat) (h:k<l.length),k<i→l[k].At<a) (h2:∀ h:i<l.length,a≤l[i].At) : bG l a=i:=by
 unfold bG;by_cases h:i<l.length
 ·exact (List.findIdx_eq h).2 ⟨by simpa using h2 h,fun j hj=>by simpa using h1 j (by omega) hj⟩
 ·have e:i=l.length:=by omega
  subst e;rw [List.findIdx_eq_length];intro x hx;obtain ⟨k,hk,rfl⟩:=List.getElem_of_mem hx;simpa using h1 k hk hk
theorem Aa (l:List Block) (a:Int) : bG l a≤l.length:=List.findIdx_le_length
theorem mS {l:List Block} {a:Int} {k:Nat} (hk:k<bG l a) : (l[k]'(Nat.lt_of_lt_of_le hk (Aa l a))).At<a:=by
 have:=List.not_of_lt_findIdx hk
 simpa using this
theorem Ab {l:List Block} {a:Int} (h:bG l a<l.length) : a≤(l[bG l a]).At:=by
 have:=List.findIdx_getElem (w:=h)
 exact of_decide_eq_true this
def p9 (l:List Block) (a o:Int) : Bool:=if h:bG l a<l.length then decide ((l[bG l a]).At=a∧(l[bG l a]).Order=o) else false
theorem AK {f t:Int} {l:List Block} (hu:nQ l) (hb:∀ b∈l,dE f t b) (a o:Int) : l.any (rv a o)=p9 l a o:=by
 unfold p9;by_cases h:bG l a<l.length
 ·rw [dif_pos h];by_cases hh:(l[bG l a]).At=a∧(l[bG l a]).Order=o
  ·rw [decide_eq_true hh];exact List.any_eq_true.2 ⟨_,List.getElem_mem h,gH.2 hh⟩
  ·rw [decide_eq_false hh,List.any_eq_false];intro x hx hi;obtain ⟨e1,e2⟩:=gH.1 hi;obtain ⟨j,hj,rfl⟩:=List.getElem_of_mem hx;have h1:=Ab h;rcases Nat.lt_trichotomy j (bG l a) with de|de|de
   ·have:=mS de;omega
   ·subst de;exact hh ⟨e1,e2⟩
   ·have:=fr hu hj de
    have hp:=hb _ (List.getElem_mem h);have:=bE hp.1.1 hp.1.2.1
    omega
 ·rw [dif_neg h,List.any_eq_false];intro x hx hi;obtain ⟨e1,e2⟩:=gH.1 hi;obtain ⟨j,hj,rfl⟩:=List.getElem_of_mem hx;have:=mS (show j<bG l a by omega)
  omega
theorem n9 {f t:Int} {l:List Block} (hu:nQ l) (hb:∀ b∈l,dE f t b) {a o:Int} {i:Nat} (hi:i<l.length) (h1:l[i].At=a) (h2:l[i].Order=o) : l.eraseIdx i=dc l a o:=by
 have cG:∀ (j:Nat) (hj:j<l.length),j≠i→rv a o l[j]=false:=fun j hj iL=>by
  cases hh:rv a o l[j] with
  | false=>rfl
  | true =>
    obtain ⟨e1,e2⟩:=gH.1 hh;exact absurd (Gx hu hb hj hi (by omega)) iL
 have e:l=l.take i++l[i]::l.drop (i+1):=by simp
 have hL:∀ x∈l.take i,rv a o x=false:=fun x hx=>by
  obtain ⟨j,hj,rfl⟩:=List.getElem_of_mem hx;simp at hj;rw [List.getElem_take];exact cG j (by omega) (by omega)
 have hR:∀ x∈l.drop (i+1),rv a o x=false:=fun x hx=>by
  obtain ⟨j,hj,rfl⟩:=List.getElem_of_mem hx;simp at hj;rw [List.getElem_drop];exact cG _ (by omega) (by omega)
 have hm:rv a o l[i]=true:=gH.2 ⟨h1,h2⟩
 unfold dc;rw [List.eraseIdx_eq_take_drop_succ]
 conv=>rhs;rw [e]
 rw [List.filter_append,List.filter_cons];simp only [hm,Bool.not_true,Bool.false_eq_true,if_false];rw [List.filter_eq_self.2 (fun x hx=>by simp [hL x hx]),List.filter_eq_self.2 (fun x hx=>by simp [hR x hx])]
noncomputable def iM (z:ar) (a o:Int) : Int×ar :=
 if ed z then (if eX z.aX z.To a o then (if e8 z.ag a o then (5,⟨0,0,[],[]⟩) else
  (0,⟨z.aX,z.To,aV (ic 5 z.ag a o).1 (bG (ic 5 z.ag a o).1 (ic 5 z.ag a o).2.1) ⟨(ic 5 z.ag a o).2.1,(ic 5 z.ag a o).2.2,z.Types.getD (((ic 5 z.ag a o).2.1-z.aX) / 8).toNat 0⟩,z.Types⟩)) else (1,⟨0,0,[],[]⟩)) else (8,⟨0,0,[],[]⟩)
theorem ss {f t:Int} {z:ar} {a o:Int} (hz:bU z) (hf:eX z.aX z.To a o) (h:e8 z.ag a o=false) : vC z.aX z.To z.ag a o:=by
 refine ⟨ln hz,fun b hb => ?_,hf,fun b hb => ?_⟩
 ·obtain ⟨i,hi,rfl⟩:=List.getElem_of_mem hb;exact hz.c8 i hi
 ·unfold e8 at h;rw [List.any_eq_false] at h;have:=h b hb
  simp at this;omega
open Go.RowKit
theorem pb (A:Option Addr) (n c:Nat) (l:List Block) (f t a o:Int) (w:World) (hl:Sl w 3 aA A n l) (hb:∀ b∈l,dE f t b) (h0 : 0≤f) (ht:t≤256) (hn:n≤1000000000000000000) (ha : -1000≤a∧a≤1000) (ho : 0≤o∧o≤4) :
 bo Tryz.prog 197 [.slice A n c,.int .i64 a,.int .i64 o] w fun v _=>v = .bool (e8 l a o):=by
 refine aI Tryz.func197 rfl Tryz.ntmps197 rfl ?_;have hw:=Ext.refl w;have hA:=hl.base;have mn:=hl.len;have hp:=bE ho.1 ho.2;refine Wz ?_;refine CW.loop (fun k:Nat=>[(0,.slice A n c),(1,.int .i64 a),(2,.int .i64 o),(7,.int .i64 (k:Int))]) (fun k w'=>k≤n∧Ext w w' ∧ ∀ (j:Nat) (h:j<l.length),j<k → ¬ (l[j].At<a+pw o∧a<l[j].At+pw l[j].Order)) (fun k=>n-k) 0 ⟨rfl,rfl,rfl,rfl,trivial⟩ ⟨by omega,hw,fun j _ h=>by omega⟩ ?_;clear hw;rintro k w' ⟨hk,hw,hI⟩
 by_cases cb:k<n
 ·have dk:=hl.lt cb;have mR:=(hb _ (List.getElem_mem dk)).1;obtain ⟨f1,f2,f3,f4,f5⟩:=id mR;have FG:=bE f1 f2;by_cases h1:l[k].At<a+pw o
  ·by_cases h2:a<l[k].At+pw l[k].Order
   ·repeat' (first|refine Wz ?_|((apply CW.aP mixed;(· kernel_rfl);rotate_left;intro w1 ab;replace hw:=Ext.trans hw ab;clear ab;rotate_right))|refine SW.st (ap hw rfl (hl.dA cb rfl)) rfl ?_|refine SW.br rfl rfl (fun w1 ab=>(c9 _ (by omega) _)) ?_|exact SW.bx rfl)
    refine ae.aO rfl rfl ⟨_,rfl,hw,?_⟩;have:e8 l a o=true:=List.any_eq_true.2 ⟨l[k],List.getElem_mem dk,by simp [h1,h2]⟩
    rw [this]
   ·repeat' (first|refine Wz ?_|((apply CW.aP mixed;(· kernel_rfl);rotate_left;intro w1 ab;replace hw:=Ext.trans hw ab;clear ab;rotate_right))|refine SW.st (ap hw rfl (hl.dA cb rfl)) rfl ?_|refine SW.br rfl rfl (fun w1 ab=>(c9 _ (by omega) _)) ?_|exact SW.bx rfl)
    refine ae.again (k+1) ⟨rfl,rfl,rfl,rfl,trivial⟩ (by omega) ⟨by omega,hw,fun j hj h => ?_⟩;by_cases e:j=k
    ·subst e;exact fun h=>h2 h.2
    ·exact hI j hj (by omega)
  ·repeat' (first|refine Wz ?_|((apply CW.aP mixed;(· kernel_rfl);rotate_left;intro w1 ab;replace hw:=Ext.trans hw ab;clear ab;rotate_right))|refine SW.st (ap hw rfl (hl.dA cb rfl)) rfl ?_|refine SW.br rfl rfl (fun w1 ab=>(c9 _ (by omega) _)) ?_|exact SW.bx rfl)
   refine ae.again (k+1) ⟨rfl,rfl,rfl,rfl,trivial⟩ (by omega) ⟨by omega,hw,fun j hj h => ?_⟩;by_cases e:j=k
   ·subst e;exact fun h=>h1 h.1
   ·exact hI j hj (by omega)
 ·refine Wz ?_;refine ae.aO rfl rfl ⟨_,rfl,hw,?_⟩
  have:e8 l a o=false:=by
   unfold e8;rw [List.any_eq_false];intro x hx;obtain ⟨j,hj,rfl⟩:=List.getElem_of_mem hx;have:=hI j hj (by omega)
   simpa using this
  rw [this]
open Go.RowKit
section
variable {P:Program} {n:Nat} {Q:Exit→Act→World→Prop} {L:Env} {w:World}
def EK (n:Nat) (K:Env→World→Prop) (Q:Exit→Act→World→Prop) : Exit→Act→World→Prop
 | .normal,a,w' => ∃ L',Fit n a L'∧K L' w'
 | e,a,w'=>Q e a w'
theorem CW.KG {c:Code} (K:Env→World→Prop) (h:CW P n c (EK n K Q) L w) (k:∀ L' w',K L' w'→ae n Q .normal L' w') : CW P n c Q L w :=
 ⟨fun a ha=>wp_mono (h.out a ha) fun e a' w' h'=>by
  cases e with
  | normal=>obtain ⟨L',hf,hk⟩:=h';exact (k L' w' hk).out a' hf
  | _=>exact h'⟩
theorem CW.wR {c:Code} {id:Nat} (K:Env→World→Prop) (h:CW P n c (Exit.inBlock id (EK n K Q)) L w) (k:∀ L' w',K L' w'→ae n Q .normal L' w') : CW P n c (Exit.inBlock id Q) L w :=
 ⟨fun a ha=>wp_mono (h.out a ha) fun e a' w' h'=>by
  cases e with
  | normal=>obtain ⟨L',hf,hk⟩:=h';exact (k L' w' hk).out a' hf
  | exit j =>
    simp only [Exit.inBlock] at h' ⊢;split
    ·rename_i hj;rw [if_pos hj] at h';obtain ⟨L',hf,hk⟩:=h';exact (k L' w' hk).out a' hf
    ·rename_i hj;rw [if_neg hj] at h';exact h'
  | _=>exact h'⟩
theorem ae.kx {K:Env→World→Prop} (h:K L w) : ae n (EK n K Q) .normal L w:=⟨fun _ ha=>⟨L,ha,h⟩⟩
theorem ae.Ac {K:Env→World→Prop} (h:ae n Q .ret L w) : ae n (EK n K Q) .ret L w:=⟨fun a ha=>h.out a ha⟩
end
open Go.RowKit
def lay (gd:List Value) (o:Nat) (cs:List Value) : List Value:=gd.take o++cs++gd.drop (o+cs.length)
theorem Ad (gd:List Value) (o:Nat) : lay gd o []=gd:=by simp [lay]
theorem eR (X Y Z cs:List Value) (h:cs.length=Y.length) {o:Nat} (ho:o=X.length) : lay (X++Y++Z) o cs=X++cs++Z:=by
 subst ho;unfold lay;rw [List.append_assoc X Y Z,List.take_left,h];congr 1
 rw [← List.append_assoc,List.drop_append];have e:List.drop (X.length+Y.length) (X++Y)=[]:=List.drop_eq_nil_of_le (by simp)
 rw [e];simp
theorem Own.opened {α:Type} {w:World} {lo:Nat} {e:TypeId} {sz:Nat} {enc : α → List Value} [E:fw enc sz] {A:Option Addr} {n c:Nat} {l:List α} (h:Own w lo e sz enc A n c l) (hc : 0<c) :
 ∃ g rest,A=some ⟨g,0,none⟩∧lo≤g∧aJ w g e (l.flatMap enc++rest)∧n*sz+rest.length=c*sz∧n≤c∧c≤maxLen∧aU A c=some g:=by
 rcases h.row with ⟨_,h0⟩|⟨_,g,gd,rfl,h1,h2,h3,h4,h5,h6⟩
 ·omega
 ·refine ⟨g,gd.toList.drop (n*sz),rfl,h1,?_,?_,h3,h4,by simp [aU,Nat.pos_iff_ne_zero.1 hc]⟩
  ·unfold aJ;rw [← h6,List.take_append_drop];simpa using h2
  ·have:n*sz≤c*sz:=Nat.mul_le_mul_right _ h3
   simp;omega
theorem Own.closed {α:Type} {w:World} {lo:Nat} {e:TypeId} {sz:Nat} {enc : α → List Value} [E:fw enc sz] {n c g:Nat} {l:List α} {rest:List Value} (hl:l.length=n) (hB:aJ w g e (l.flatMap enc++rest)) (hr:n*sz+rest.length=c*sz) (hn:n≤c) (hc : 0<c) (hm:c≤maxLen) (fy:lo≤g) :
 Own w lo e sz enc (some ⟨g,0,none⟩) n c l:=by
 have oQ:(l.flatMap enc).length=n*sz:=by rw [a9,hl]
 refine ⟨hl,.inr ⟨hc,g,_,rfl,fy,hB,hn,hm,?_,?_⟩⟩
 ·simp [oQ];omega
 ·rw [← oQ];simp
theorem Own.pre {α:Type} {w:World} {lo:Nat} {e:TypeId} {sz:Nat} {enc : α → List Value} [E:fw enc sz] {A:Option Addr} {n c:Nat} {l:List α} (h:Own w lo e sz enc A n c l) {i:Nat} (hi:i≤n) : Own w lo e sz enc A i c (l.take i):=by
 rcases Nat.eq_zero_or_pos c with hc|hc
 ·have h1:=h.le.1;have:n=0:=by omega
  subst hc this;obtain rfl:i=0:=by omega
  simpa using Own.eJ w lo e sz enc A
 ·obtain ⟨g,rest,rfl,h1,h2,h3,h4,h5,_⟩:=h.opened hc;refine Own.closed (rest:=(l.drop i).flatMap enc++rest) (by simp [h.len];omega) ?_ ?_ (by omega) hc h5 h1
  ·rw [← List.append_assoc,← List.flatMap_append,List.take_append_drop];exact h2
  ·have e1:((l.drop i).flatMap enc).length=(n-i)*sz:=by rw [a9];simp [h.len]
   have e2:i+(n-i)=n:=by omega
   rw [List.length_append,e1,← h3,← Nat.add_assoc,← Nat.add_mul,e2]
theorem Sl.drop {α:Type} {w:World} {sz:Nat} {enc : α → List Value} {A:Option Addr} {n:Nat} {l:List α} (h:Sl w sz enc A n l) (i c:Nat) (hi:i≤n) (hc:n≤c) : Sl w sz enc (if c=i then A else A.map (·.add (i*sz))) (n-i) (l.drop i):=by
 refine ⟨by simp [h.len],fun hn => ?_,fun j hj k u hu => ?_⟩
 ·have:=h.base (by omega)
  split
  ·exact this
  ·simpa using this
 ·simp at hj;have hl:=h.len;rw [if_neg (by omega)];have hb:=h.base (by omega);obtain ⟨a,rfl⟩:=Option.isSome_iff_exists.1 hb;have qM:=h.cell (i+j) (by omega) k u (by simpa using hu);simp only [Option.getD_some,Option.map_some,add_add] at qM ⊢;rw [← qM];congr 2
  rw [Nat.add_mul]
theorem Sl.pre {α:Type} {w:World} {sz:Nat} {enc : α → List Value} {A:Option Addr} {n:Nat} {l:List α} (h:Sl w sz enc A n l) {i:Nat} (hi:i≤n) : Sl w sz enc A i (l.take i):=by
 refine ⟨by simp [h.len];omega,fun hn=>h.base (by omega),fun j hj k u hu => ?_⟩;simp at hj;exact h.cell j (by omega) k u (by simpa using hu)
section
variable {P:Program} {w:World}
theorem ew {g:Nat} {e:TypeId} {gd cs:List Value} (h:aJ w g e gd) : aJ (w.setRow g cs.toArray) g e cs∧w.grownBy (w.setRow g cs.toArray) (some g) :=
 ⟨setRow_heap w g _ _ e (0,0) h,⟨rfl,rfl,rfl,by simp,fun j _ hj=>by
  show (w.setRow g _).heap[j]?=_
  simp only [World.setRow,Array.getElem?_modify];rw [if_neg (fun e=>hj (by simp [e]))]⟩⟩
theorem vD {t e:TypeId} {z:Value} {sz bytes:Nat} [S:bu P t e sz] [T:df P e z sz bytes] (ty:TypeId) {A X:Option Addr} {n c m c2 k g o:Nat} {gd cs:List Value} (hk:min m n=k) (hlen:cs.length=k*sz) (hB:aJ w g e gd) (iT:o+cs.length≤gd.length)
 (kU : 0<k→A=some ⟨g,o,none⟩ ∧ ∃ ad,X=some ad ∧ ∀ j v,cs[j]?=some v→w.cell? (ad.add j)=some v) (h1:∀ v∈cs,v.oneCell'=true) :
 ∃ w',(Builtin.copy_ #[t,t] ty #[.slice A n c,.slice X m c2]).run P w = .ok (.int .i64 (k:Int)) w'∧aJ w' g e (lay gd o cs)∧w.grownBy w' (some g):=by
 obtain ⟨i,hi,hz,hs,ue⟩:=dG P e (z:=z) (sz:=sz) (bytes:=bytes);have AL:Nat.min m n=k:=hk
 by_cases h0:k=0
 ·have gG:cs=[]:=List.eq_nil_of_length_eq_zero (by rw [hlen,h0];simp)
  subst gG;refine ⟨w,?_,by rw [Ad];exact hB,World.grownBy.refl _ _⟩;cases A<;>cases X<;>simp [Builtin.copy_,run_underlying S.j3,Builtin.lenOf,Builtin.firstCells,sizeOf,typeInfo,hi,AL,h0,loadCells,loadCellsFrom,storeCells,goInt]
 ·obtain ⟨rfl,ad,rfl,lT⟩:=kU (by omega);have hl:=run_loadCells_list (P:=P) w ad cs lT;have rO:=run_storeCells_at P g o e cs 0 gd.toArray w hB (by simpa using iT) h1;have e1:(gd.toArray.toList.take (o+0)++cs++gd.toArray.toList.drop (o+0+cs.length))=lay gd o cs:=by simp [lay]
  rw [e1] at rO;rw [hlen] at hl;refine ⟨_,?_,(ew hB).1,(ew hB).2⟩;simp [Builtin.copy_,run_underlying S.j3,Builtin.lenOf,Builtin.firstCells,sizeOf,typeInfo,hi,hs,AL,hl,rO,goInt]
theorem uk {t e:TypeId} {z:Value} {sz bytes:Nat} [S:bu P t e sz] [T:df P e z sz bytes] (ty:TypeId) {A:Option Addr} {n c g o:Nat} {gd:List Value} (hB:aJ w g e gd) (iT:o+n*sz≤gd.length) (kU : 0<n→A=some ⟨g,o,none⟩) (Cc:∀ v∈z.cells.toList,v.oneCell'=true) :
 ∃ w' cs,(Builtin.clear_ #[t] ty #[.slice A n c]).run P w = .ok (.tuple #[]) w'∧cs.length=n*sz∧aJ w' g e (lay gd o cs)∧w.grownBy w' (some g):=by
 obtain ⟨i,hi,hz,hs,ue⟩:=dG P e (z:=z) (sz:=sz) (bytes:=bytes);by_cases h0:n=0
 ·subst h0;refine ⟨w,[],?_,by simp,by rw [Ad];exact hB,World.grownBy.refl _ _⟩;cases A<;>simp [Builtin.clear_,run_underlying S.j3]
 ·obtain rfl:=kU (by omega);obtain ⟨k,rfl⟩ : ∃ k,n=k+1:=⟨n-1,by omega⟩;have hlen:(Builtin.zeroCells z.cells (k+1)).toList.length=(k+1)*sz:=by simp [Go.size_zeroCells,T.zc]
  have h1:∀ v∈(Builtin.zeroCells z.cells (k+1)).toList,v.oneCell'=true:=by
   intro v hv;simp only [Builtin.zeroCells,Array.toList_map,Array.toList_range,List.mem_map] at hv;obtain ⟨j,hj,rfl⟩:=hv;have hp:=T.pos;have:j % z.cells.size<z.cells.size:=Nat.mod_lt _ (by rw [T.zc];exact hp)
   rw [getElem!_pos z.cells _ this];exact Cc _ (Array.getElem_mem_toList _)
  have rO:=run_storeCells_at P g o e (Builtin.zeroCells z.cells (k+1)).toList 0 gd.toArray w hB (by rw [hlen];simpa using iT) h1;have e1:(gd.toArray.toList.take (o+0)++(Builtin.zeroCells z.cells (k+1)).toList++gd.toArray.toList.drop (o+0+(Builtin.zeroCells z.cells (k+1)).toList.length))=lay gd o (Builtin.zeroCells z.cells (k+1)).toList:=by simp [lay]
  rw [e1] at rO;refine ⟨_,_,?_,hlen,(ew hB).1,(ew hB).2⟩;simp [Builtin.clear_,run_underlying S.j3,zeroValue,typeInfo,hi,hz,rO]
end
section
variable {P:Program} {n:Nat} {ops:Array Oper} {Q:Exit→Act→World→Prop} {rest:List Oper} {L:Env} {w:World} {d:Option Nat} {T:TypeId} {pos:String} {af:Array Edge} {g:Option (Nat×Bool)}
theorem SW.copy {d:Nat} {t e:TypeId} {z:Value} {sz bytes:Nat} [S:bu P t e sz] [E:df P e z sz bytes] {x y:Operand} {A X:Option Addr} {m c m2 c2 k g:Nat} (o:Nat) {gd:List Value} (cs:List Value) (hB:aJ w g e gd) (hx:bR L x=some (.slice A m c)) (hy:bR L y=some (.slice X m2 c2)) (hn:Nat.blt d n=true)
 (hk:min m2 m=k) (hlen:cs.length=k*sz) (iT:o+cs.length≤gd.length) (kU : 0<k→A=some ⟨g,o,none⟩ ∧ ∃ ad,X=some ad ∧ ∀ j v,cs[j]?=some v→w.cell? (ad.add j)=some v) (h1:∀ v∈cs,v.oneCell'=true)
 (h:∀ w',aJ w' g e (lay gd o cs)→w.grownBy w' (some g)→SW P n ops (.ff Q) rest ((d,.int .i64 (k:Int))::L) w') :
 SW P n ops (.ff Q) (⟨some d,.call ⟨.builtin .copy,#[x,y],#[t,t]⟩,T,pos,af,none⟩::rest) L w :=
 ⟨fun a ha=>by
  obtain ⟨w',hr,h2,h3⟩:=vD (P:=P) (t:=t) T (c:=c) (c2:=c2) hk hlen hB iT kU h1;simp only [swp,wpList,Region.wanted,if_true];refine .inl ?_;unfold Oper.wp
  have:(execOp a.eval ⟨some d,.call ⟨.builtin .copy,#[x,y],#[t,t]⟩,T,pos,af,none⟩).run P w = .ok (.value (.int .i64 (k:Int))) w':=by
   simp [execOp,resolve,invoke,builtin,ha.eval hx,ha.eval hy,hr]
  rw [this,Oper.upon_value];exact (h w' h2 h3).out _ (ha.put hn _)⟩
theorem SW.clear {t e:TypeId} {z:Value} {sz bytes:Nat} [S:bu P t e sz] [E:df P e z sz bytes] {x:Operand} {A:Option Addr} {m c g:Nat} (o:Nat) {gd:List Value} (hB:aJ w g e gd) (hx:bR L x=some (.slice A m c)) (iT:o+m*sz≤gd.length) (kU : 0<m→A=some ⟨g,o,none⟩) (Cc:∀ v∈z.cells.toList,v.oneCell'=true)
 (h:∀ w' cs,cs.length=m*sz→aJ w' g e (lay gd o cs)→w.grownBy w' (some g)→SW P n ops (.ff Q) rest L w') :
 SW P n ops (.ff Q) (⟨none,.call ⟨.builtin .clear,#[x],#[t]⟩,T,pos,af,none⟩::rest) L w :=
 ⟨fun a ha=>by
  obtain ⟨w',cs,hr,h1,h2,h3⟩:=uk (P:=P) (t:=t) T (c:=c) hB iT kU Cc;simp only [swp,wpList,Region.wanted,if_true];refine .inl ?_;unfold Oper.wp
  have:(execOp a.eval ⟨none,.call ⟨.builtin .clear,#[x],#[t]⟩,T,pos,af,none⟩).run P w = .ok (.value (.tuple #[])) w':=by
   simp [execOp,resolve,invoke,builtin,ha.eval hx,hr]
  rw [this,Oper.upon_value];exact (h w' cs h1 h2 h3).out _ (ha.Cn _)⟩
theorem su {t e:TypeId} {sz:Nat} [c:bu P t e sz] {x y u:Operand} {A:Option Addr} {m cap i j:Nat} (hx:bR L x=some (.slice A m cap)) (hy:bR L y=some (.int .i64 (i:Int))) (hu:bR L u=some (.int .i64 (j:Int))) (hi:i≤j) (hj:j≤cap) :
 St P ⟨d,.slice t x (some y) (some u) none,T,pos,af,g⟩ L w (.slice (if cap=i then A else A.map (·.add (i*sz))) (j-i) (cap-i)) :=
 ⟨fun _ a ha w' _=>by
  have e1:=ha.eval hx;have e2:=ha.eval hy;have e3:=ha.eval hu;generalize a.eval = ρ at *
  simp [execOp,e1,e2,e3,Instr.sliceAt,Instr.slice,Instr.sliceBounds,Instr.sliceBound,asIntOf,run_underlying c.j3,run_sizeOf c.size,hi,hj]⟩
theorem uN {t e:TypeId} {sz:Nat} [c:bu P t e sz] {x y u v:Operand} {A:Option Addr} {m cap i j k:Nat} (hx:bR L x=some (.slice A m cap)) (hy:bR L y=some (.int .i64 (i:Int))) (hu:bR L u=some (.int .i64 (j:Int))) (hv:bR L v=some (.int .i64 (k:Int))) (hi:i≤j) (hj:j≤k) (hk:k≤cap) :
 St P ⟨d,.slice t x (some y) (some u) (some v),T,pos,af,g⟩ L w (.slice (if k=i then A else A.map (·.add (i*sz))) (j-i) (k-i)) :=
 ⟨fun _ a ha w' _=>by
  have e1:=ha.eval hx;have e2:=ha.eval hy;have e3:=ha.eval hu;have e4:=ha.eval hv;generalize a.eval = ρ at *
  simp [execOp,e1,e2,e3,e4,Instr.sliceAt,Instr.slice,Instr.sliceBounds,Instr.sliceBound,asIntOf,run_underlying c.j3,run_sizeOf c.size,hi,hj,hk]⟩
end
section
variable {P:Program} {n:Nat} {ops:Array Oper} {Q:Exit→Act→World→Prop} {rest:List Oper} {L:Env} {w:World}
structure gX (P:Program) (f:FuncId) (args:List Value) (w:World) (R:Value→World→Prop) : Prop where
 out:Calls P f args.toArray w fun e w' => ∃ v,e = .returned v∧R v w'
theorem SW.da {d:Nat} {f:FuncId} {xs:List Operand} {vs:List Value} {ts:Array TypeId} {T:TypeId} {pos:String} {af:Array Edge} {R:Value→World→Prop}
 [Body P f] (hx:pS L xs=some vs) (hn:Nat.blt d n=true) (hc:gX P f vs w R) (h:∀ v w',R v w'→SW P n ops (.ff Q) rest ((d,v)::L) w') :
 SW P n ops (.ff Q) (⟨some d,.call ⟨.value (.func f),xs.toArray,ts⟩,T,pos,af,none⟩::rest) L w :=
 ⟨fun a ha=>by
  simp only [swp,wpList,Region.wanted,if_true];refine .inl ?_;unfold Oper.wp;rw [r7,Oper.upon_enter,ha.oV hx];refine Calls.mono hc.out ?_;rintro e w' ⟨v,rfl,hv⟩
  exact (h v w' hv).out _ (ha.put hn v)⟩
theorem dB {fn:Func} {f:FuncId} {c:Code} {args:List Value} {R:Value→World→Prop} (hf:P.funcs[f]?=some fn) (hb:fn.body=some c) (hn:fn.ntmps=n) (hl:Nat.ble args.length n=true)
 (h:CW P n c (bodyPost P fn fun e w' => ∃ v,e = .returned v∧R v w') (nz 0 args) w) : gX P f args w R:=by
 have yx:args.length≤n:=by simpa using hl
 refine ⟨calls_of_wp hf hb (h.out _ ⟨?_,rfl,?_⟩)⟩
 ·simp [hn];omega
 ·intro i v hi;obtain ⟨_,h2⟩:=mK args 0 i v hi;simp only [Nat.sub_zero] at h2
  have de:i<args.length:=by
   rcases Nat.lt_or_ge i args.length with h|h
   ·exact h
   ·rw [List.getElem?_eq_none h] at h2;cases h2
  rw [Array.getD_eq_getD_getElem?,Array.getElem?_append_left (by simpa using de)];simp [h2]
theorem SW.entry {d:Nat} {f:FuncId} {fn:Func} {e:Array Value→Sem Value} {xs:List Operand} {vs:List Value} {v:Value} {ts:Array TypeId} {T:TypeId} {pos:String} {af:Array Edge}
 (hf : P.funcs[f]? = some fn) (IE : (fn.name == "runtime.NumGoroutine") = false) (hb : fn.body.isNone = true) (EI : Extern.findNext fn = none) (he : Extern.find fn = some e) (hx : pS L xs = some vs) (hn : Nat.blt d n = true)
 (hr:(e vs.toArray).run P w = .ok v w) (h:SW P n ops (.ff Q) rest ((d,v)::L) w) :
 SW P n ops (.ff Q) (⟨some d,.call ⟨.value (.func f),xs.toArray,ts⟩,T,pos,af,none⟩::rest) L w :=
 ⟨fun a ha=>by
  simp only [swp,wpList,Region.wanted,if_true];refine .inl ?_;unfold Oper.wp;have h1:=run_callFunc_extern (P:=P) hf IE hb EI he vs.toArray w
  have:(execOp a.eval ⟨some d,.call ⟨.value (.func f),xs.toArray,ts⟩,T,pos,af,none⟩).run P w = .ok (.value v) w:=by
   have e2:=ha.oV hx;simp only [execOp,resolve,Deferred.ofValue,Act.eval,Sem.run_bind,Result.andThen,invoke,List.map_toArray,e2];rw [hr] at h1;simpa [Result.andThen] using h1
  rw [this,Oper.upon_value];exact h.out _ (ha.put hn v)⟩
end
theorem Ext.gr {w w':World} (h:Ext w w') (row:Option Nat) : w.grownBy w' row:=⟨h.os,h.tape,h.output,h.size,fun k hk _=>h.block k hk⟩
theorem bQ {w w1 w2:World} {row Gy:Option Nat} (h:w.grownBy w1 row) (k:w1.grownBy w2 Gy) (hr:Gy=row ∨ ∀ i,Gy=some i→w.heap.size≤i) : w.grownBy w2 row :=
 ⟨k.os.trans h.os,k.tape.trans h.tape,k.output.trans h.output,Nat.le_trans h.size k.size,fun i hi cG=>by
  have qa:i<w1.heap.size:=Nat.lt_of_lt_of_le hi h.size
  rcases hr with e|e
  ·subst e;rw [k.block i qa cG,h.block i hi cG]
  ·rw [k.block i qa (fun e'=>by have:=e i e'.symm;omega),h.block i hi cG]⟩
theorem SW.wS {α:Type} {P:Program} {n:Nat} {ops:Array Oper} {Q:Exit→Act→World→Prop} {rest:List Oper} {L:Env} {w:World} {dd:Nat} {T:TypeId} {pos:String} {af:Array Edge}
 {lo:Nat} {t e:TypeId} {z:Value} {sz bytes:Nat} {enc : α → List Value} {A X:Option Addr} {k c m c2:Nat} {l ys:List α} [S:bu P t e sz] [T':df P e z sz bytes] [E:fw enc sz] {x y:Operand}
 (hO:Own w lo e sz enc A k c l) (hS:Sl w sz enc X m ys) (jq:k+m≤c) (hx:bR L x=some (.slice A k c)) (hy:bR L y=some (.slice X m c2)) (hn:Nat.blt dd n=true)
 (h:∀ w',Own w' lo e sz enc A (k+m) c (l++ys)→w.grownBy w' (aU A c)→SW P n ops (.ff Q) rest ((dd,.slice A (k+m) c)::L) w') :
 SW P n ops (.ff Q) (⟨some dd,.call ⟨.builtin .append,#[x,y],#[t,t]⟩,T,pos,af,none⟩::rest) L w :=
 ⟨fun a ha=>by
  obtain ⟨i,hi,hz,hs,ue⟩:=dG P e (z:=z) (sz:=sz) (bytes:=bytes);have Ca:(ys.flatMap enc).length=m*sz:=by rw [a9,hS.len]
  have nO:∀ u∈ys.flatMap enc,u.oneCell'=true:=fun u hu=>by
   obtain ⟨x,_,hx⟩:=List.mem_flatMap.1 hu;exact E.one x u hx
  have key:∃ w',(Builtin.append_ #[t,t] T #[.slice A k c,.slice X m c2]).run P w = .ok (.slice A (k+m) c) w'∧Own w' lo e sz enc A (k+m) c (l++ys)∧w.grownBy w' (aU A c):=by
   by_cases r9:m=0
   ·subst r9;have NA:ys=[]:=List.eq_nil_of_length_eq_zero hS.len
    subst NA;refine ⟨w,?_,by simpa using hO,World.grownBy.refl _ _⟩;have ul:k≤c:=by omega
    cases A<;>cases X<;>simp [Builtin.append_,run_underlying S.j3,sizeOf,typeInfo,hi,Builtin.lenOf,ul,Builtin.firstCells,loadCells,loadCellsFrom,storeCells]
   ·obtain ⟨ad,rfl⟩:=Option.isSome_iff_exists.1 (hS.base (by omega));have oX:=dq T'.pos hS;obtain ⟨g,rest,rfl,h1,h2,h3,h4,h5,h6⟩:=hO.opened (by omega);have iT:(k+m)*sz≤c*sz:=Nat.mul_le_mul_right _ jq
    have oQ:(l.flatMap enc).length=k*sz:=by rw [a9,hO.len]
    rw [Nat.add_mul] at iT;have hr:=run_append_room (P:=P) w t T e i S.j3 hi g k c (l.flatMap enc++rest).toArray h2 ad m c2 (ys.flatMap enc) (by rw [hs];exact Ca) oX nO jq (by rw [hs,Ca];simp [oQ];omega)
    have e1:(l.flatMap enc++rest).toArray.toList.take (k*i.size)++ys.flatMap enc++(l.flatMap enc++rest).toArray.toList.drop (k*i.size+(ys.flatMap enc).length)=(l++ys).flatMap enc++rest.drop (m*sz):=by
     rw [hs];have h7:=eR (l.flatMap enc) (rest.take (m*sz)) (rest.drop (m*sz)) (ys.flatMap enc) (by rw [Ca];simp;omega) (o:=k*sz) oQ.symm;rw [List.append_assoc (l.flatMap enc),List.take_append_drop] at h7;rw [List.flatMap_append];exact h7
    rw [e1] at hr;refine ⟨_,hr,?_,?_⟩
    ·exact Own.closed (by rw [List.length_append,hO.len,hS.len]) (ew h2).1 (by rw [Nat.add_mul];simp;omega) jq (by omega) h5 h1
    ·rw [h6];exact (ew h2).2
  obtain ⟨w',hr,h1,h2⟩:=key;simp only [swp,wpList,Region.wanted,if_true];refine .inl ?_;unfold Oper.wp
  have:(execOp a.eval ⟨some dd,.call ⟨.builtin .append,#[x,y],#[t,t]⟩,T,pos,af,none⟩).run P w = .ok (.value (.slice A (k+m) c)) w':=by
   simp [execOp,resolve,invoke,builtin,ha.eval hx,ha.eval hy,hr]
  rw [this,Oper.upon_value];exact (h w' h1 h2).out _ (ha.put hn _)⟩
theorem SW.vE {α:Type} {P:Program} {n:Nat} {ops:Array Oper} {Q:Exit→Act→World→Prop} {rest:List Oper} {L:Env} {w:World} {d:Nat} {T:TypeId} {pos:String} {af:Array Edge}
 {t tn e:TypeId} {z:Value} {sz bytes:Nat} {enc : α → List Value} {A:Option Addr} {m c k:Nat} {l:List α} {lk:IntKind} [S:bu P t e sz] [T':df P e z sz bytes] [E:fw enc sz] {x y:Operand}
 {j:Int} (hS:Sl w sz enc A m l) (NB:P.underlying tn=some (.int lk)) (hx:bR L x=some (.slice A m c)) (hy:bR L y=some (.int .i64 j)) (hj:j=(k:Int)) (hn:Nat.blt d n=true) (hk : 0<k) (jq:c<m+k) (hb:(m+k)*bytes≤140737488355328) (hm:m+k≤9223372036854775807)
 (h:∀ g FH c' w',Ext w w'→w.heap.size≤g→aJ w' g e (l.flatMap enc++FH)→m*sz+FH.length=c'*sz→m+k≤c'→c'≤maxLen→SW P n ops (.ff Q) rest ((d,.slice (some ⟨g,0,none⟩) (m+k) c')::L) w') :
 SW P n ops (.ff Q) (⟨some d,.call ⟨.builtin .append,#[x,y],#[t,tn]⟩,T,pos,af,none⟩::rest) L w :=
 ⟨fun a ha=>by
  subst hj;obtain ⟨i,hi,hz,hs,ue⟩:=dG P e (z:=z) (sz:=sz) (bytes:=bytes);have hp:=T'.pos;have Gz:=dq hp hS;have hlen:(l.flatMap enc).length=m*sz:=by rw [a9,hS.len]
  have hold:(Builtin.firstCells i.size m (.slice A m c)).run P w.drew = .ok (l.flatMap enc).toArray w.drew:=by
   rw [hs];cases A with
   | none =>
     have h0:m=0:=by
      rcases Nat.eq_zero_or_pos m with h0|h0
      ·exact h0
      ·have:=hS.base h0;simp at this
     subst h0;have:l=[]:=List.eq_nil_of_length_eq_zero hS.len
     subst this;simp [Builtin.firstCells]
   | some ad =>
     simp only [Builtin.firstCells];rw [← hlen];exact run_loadCells_list (P:=P) w.drew ad _ (fun j v hv=>Gz j v hv)
  have GA:=Room.nextslicecap_le' jq
  have iT:Builtin.nextslicecap (m+k) c*i.bytes≤281474976710656:=by
   rw [ue]
   calc Builtin.nextslicecap (m+k) c*bytes≤2*(m+k)*bytes:=Nat.mul_le_mul_right _ GA
    _≤281474976710656:=by rw [Nat.mul_assoc];omega
  have NC:k*i.bytes≤281474976710656:=by
   rw [ue];have:k*bytes≤(m+k)*bytes:=Nat.mul_le_mul_right _ (by omega)
   omega
  have hr:=Lib.run_append_grow_zeros (P:=P) w t tn T e i z .i64 lk S.j3 NB hi hz A m c _ hold k hk (by rw [hs];exact hp) jq (by omega) NC iT;simp only [swp,wpList,Region.wanted,if_true];refine .inl ?_;unfold Oper.wp
  have:(execOp a.eval ⟨some d,.call ⟨.builtin .append,#[x,y],#[t,tn]⟩,T,pos,af,none⟩).run P w = .ok (.value (.slice (some ⟨w.heap.size,0,none⟩) (m+k) (grownCap w (m+k) c e))) (w.drew.alloc (.cells ((l.flatMap enc).toArray++Builtin.zeroCells z.cells k++Builtin.zeroCells z.cells (grownCap w (m+k) c e-(m+k))) e)):=by
   simp [execOp,resolve,invoke,builtin,ha.eval hx,ha.eval hy,hr]
  rw [this,Oper.upon_value];have hg:=grownCap_ge w (m+k) c e;refine (h w.heap.size ((Builtin.zeroCells z.cells k).toList++(Builtin.zeroCells z.cells (grownCap w (m+k) c e-(m+k))).toList) _ _ (Ext.trans (Ext.drew w) (Ext.alloc _ _)) (Nat.le_refl _) ?_ ?_ hg (grownCap_le_maxLen w _ _ _ (by simp only [maxLen];omega))).out _ (ha.put hn _)
  ·have:=aJ.new w.drew e (l.flatMap enc++((Builtin.zeroCells z.cells k).toList++(Builtin.zeroCells z.cells (grownCap w (m+k) c e-(m+k))).toList))
   have e1:(l.flatMap enc++((Builtin.zeroCells z.cells k).toList++(Builtin.zeroCells z.cells (grownCap w (m+k) c e-(m+k))).toList)).toArray=(l.flatMap enc).toArray++Builtin.zeroCells z.cells k++Builtin.zeroCells z.cells (grownCap w (m+k) c e-(m+k)):=by
    apply Array.ext';simp
   rw [e1] at this;exact this
  ·simp only [List.length_append,Array.length_toList,Go.size_zeroCells,T'.zc];rw [← Nat.add_mul,← Nat.add_mul];congr 1;omega⟩
open Go.RowKit
def oa (w w':World) (t:TypeId) : Prop := ∃ row,w.grownBy w' row ∧ ∀ k,row=some k → ∃ cs,w.heap[k]?=some (.cells cs t (0,0))
theorem Own.gr {α:Type} {w w':World} {lo:Nat} {e:TypeId} {sz:Nat} {enc : α → List Value} {A:Option Addr} {n c:Nat} {l:List α} (h:Own w lo e sz enc A n c l) (hg:w.grownBy w' (aU A c)) : oa w w' e:=by
 refine ⟨_,hg,fun k hk => ?_⟩;rcases h.row with ⟨_,rfl⟩|⟨hc,g,gd,rfl,_,h2,_⟩
 ·simp [aU] at hk
 ·simp [aU,Nat.pos_iff_ne_zero.1 hc] at hk;subst hk;exact ⟨gd,h2⟩
theorem aJ.gr {w w':World} {b:Nat} {t:TypeId} {cs:List Value} (h:aJ w b t cs) (hg:w.grownBy w' (some b)) : oa w w' t:=⟨_,hg,fun k hk=>by cases hk;exact ⟨_,h⟩⟩
theorem Own.ay {α:Type} {w w':World} {t lo:Nat} {e:TypeId} {sz:Nat} {enc : α → List Value} {A:Option Addr} {n c:Nat} {l:List α} (h:Own w lo e sz enc A n c l) (hG:oa w w' t) (cG:Nat.beq t e=false) : Own w' lo e sz enc A n c l:=by
 obtain ⟨row,hg,hr⟩:=hG;refine h.grown hg ?_;rcases h.row with ⟨_,rfl⟩|⟨hc,g,gd,rfl,_,h2,_⟩
 ·simp [aU]
 ·right;rintro rfl;obtain ⟨cs,h3⟩:=hr g (by simp [aU,Nat.pos_iff_ne_zero.1 hc]);rw [h2] at h3;injection h3 with h3
  injection h3 with _ h _
  subst h;simp at cG
theorem aJ.ay {w w':World} {b t:Nat} {t':TypeId} {cs:List Value} (h:aJ w b t' cs) (hG:oa w w' t) (cG:Nat.beq t t'=false) : aJ w' b t' cs:=by
 obtain ⟨row,hg,hr⟩:=hG;refine h.grown hg ?_;rintro rfl;obtain ⟨cs,h3⟩:=hr b rfl;unfold aJ at h;rw [h] at h3;injection h3 with h3
 injection h3 with _ h _
 subst h;simp at cG
theorem Own.lt_size {α:Type} {w:World} {lo:Nat} {e:TypeId} {sz:Nat} {enc : α → List Value} {A:Option Addr} {n c:Nat} {l:List α} (h:Own w lo e sz enc A n c l) : ∀ k,aU A c=some k→k<w.heap.size:=by
 intro k hk;rcases h.row with ⟨_,rfl⟩|⟨hc,g,gd,rfl,_,h2,_⟩
 ·simp [aU] at hk
 ·simp [aU,Nat.pos_iff_ne_zero.1 hc] at hk;subst hk;exact (Array.getElem?_eq_some_iff.1 h2).1
structure eA {α β:Type} (R : α → β → Prop) (xs:List α) (ys:List β) : Prop where
 len:xs.length=ys.length
 get:∀ (i:Nat) (h1:i<xs.length) (h2:i<ys.length),R xs[i] ys[i]
theorem eA.mono {α β:Type} {R R' : α → β → Prop} {xs:List α} {ys:List β} (h:eA R xs ys) (hm:∀ a b,R a b→R' a b) : eA R' xs ys:=⟨h.len,fun i h1 h2=>hm _ _ (h.get i h1 h2)⟩
theorem eA.nil {α β:Type} {R : α → β → Prop}:eA R ([] : List α) ([] : List β):=⟨rfl,fun i h1 h2=>by simp at h1⟩
theorem eA.snoc {α β:Type} {R : α → β → Prop} {xs:List α} {ys:List β} (h:eA R xs ys) {x : α} {y : β} (hr:R x y) : eA R (xs++[x]) (ys++[y]):=by
 refine ⟨by simp [h.len],fun i h1 h2 => ?_⟩;have hl:=h.len;by_cases hi:i<xs.length
 ·rw [List.getElem_append_left hi,List.getElem_append_left (by omega)];exact h.get i hi (by omega)
 ·have e:i=xs.length:=by simp at h1;omega
  subst e;simp [hl];exact hr
structure bM where
 dO:Int
 ar:Int
 Ty:Int
 ax:fF
def bq (r:bM) : List Value:=[.int .i64 r.dO,.int .i64 r.ar,.int .i64 r.Ty,r.ax.v]
instance:fw bq 4:=⟨fun _=>rfl,fun r u hu=>by simp [bq,fF.v] at hu;rcases hu with rfl|rfl|rfl|rfl<;>rfl⟩
structure eB where
 aQ:fF
 bJ:fF
 bY:Int
 av:fF
 Live:fF
def bm (r:eB) : List Value:=[r.aQ.v,r.bJ.v,.int .i64 r.bY,r.av.v,r.Live.v]
instance:fw bm 5:=⟨fun _=>rfl,fun r u hu=>by simp [bm,fF.v] at hu;rcases hu with rfl|rfl|rfl|rfl|rfl<;>rfl⟩
def eB.zero:eB:=⟨.nil,.nil,0,.nil,.nil⟩
def Heap.zero:Heap:=⟨[],[],0,[],[]⟩
structure FI (w:World) (r:bM) (l:aC) : Prop where
 cpu:r.dO=l.dO
 fu:r.ar=l.ar
 ty:r.Ty=l.Ty
 bL:Sl w 1 bd r.ax.A r.ax.n l.ax
structure ky (w:World) (lo:Nat) (r:bM) (l:aC) : Prop where
 cpu:r.dO=l.dO
 fu:r.ar=l.ar
 ty:r.Ty=l.Ty
 bL:Own w lo 3 1 bd r.ax.A r.ax.n r.ax.c l.ax
theorem FI.ext {w w':World} {r:bM} {l:aC} (h:FI w r l) (hx:Ext w w') : FI w' r l:=⟨h.cpu,h.fu,h.ty,h.bL.ext hx⟩
theorem ky.ext {w w':World} {lo:Nat} {r:bM} {l:aC} (h:ky w lo r l) (hx:Ext w w') : ky w' lo r l:=⟨h.cpu,h.fu,h.ty,h.bL.ext hx⟩
theorem ky.low {w:World} {lo mm:Nat} {r:bM} {l:aC} (h:ky w lo r l) (hl:mm≤lo) : ky w mm r l:=⟨h.cpu,h.fu,h.ty,h.bL.low hl⟩
theorem ky.rd {w:World} {lo:Nat} {r:bM} {l:aC} (h:ky w lo r l) : FI w r l:=⟨h.cpu,h.fu,h.ty,h.bL.sl⟩
theorem ky.ay {w w':World} {t lo:Nat} {r:bM} {l:aC} (h:ky w lo r l) (hG:oa w w' t) (cG:Nat.beq t 3=false) : ky w' lo r l:=⟨h.cpu,h.fu,h.ty,h.bL.ay hG cG⟩
theorem eY.ay {w w':World} {t lo:Nat} {r:cy} {z:ar} (h:eY w lo r z) (hG:oa w w' t) (cG:(Nat.beq t 3 || Nat.beq t 165)=false) : eY w' lo r z:=by
 simp only [Bool.or_eq_false_iff] at cG;exact ⟨h.from_,h.j6,h.free.ay hG cG.2,h.types.ay hG cG.1⟩
structure yF (w:World) (s:fF) (zs:List cy) (l:List ar) : Prop where
 row:Sl w 4 bp s.A s.n zs
 each:eA (uj w) zs l
structure fV (w:World) (lo:Nat) (s:fF) (zs:List cy) (l:List ar) : Prop where
 row:Own w lo 139 4 bp s.A s.n s.c zs
 each:eA (eY w lo) zs l
structure sv (w:World) (s:fF) (ls:List bM) (l:List aC) : Prop where
 row:Sl w 4 bq s.A s.n ls
 each:eA (FI w) ls l
structure cX (w:World) (lo:Nat) (s:fF) (ls:List bM) (l:List aC) : Prop where
 row:Own w lo 142 4 bq s.A s.n s.c ls
 each:eA (ky w lo) ls l
section
variable {w w':World} {lo mm t:Nat} {s:fF} {zs:List cy} {z:List ar} {ls:List bM} {l:List aC}
theorem yF.ext (h:yF w s zs z) (hx:Ext w w') : yF w' s zs z:=⟨h.row.ext hx,h.each.mono fun _ _ h=>h.ext hx⟩
theorem sv.ext (h:sv w s ls l) (hx:Ext w w') : sv w' s ls l:=⟨h.row.ext hx,h.each.mono fun _ _ h=>h.ext hx⟩
theorem fV.ext (h:fV w lo s zs z) (hx:Ext w w') : fV w' lo s zs z:=⟨h.row.ext hx,h.each.mono fun _ _ h=>h.ext hx⟩
theorem cX.ext (h:cX w lo s ls l) (hx:Ext w w') : cX w' lo s ls l:=⟨h.row.ext hx,h.each.mono fun _ _ h=>h.ext hx⟩
theorem fV.low (h:fV w lo s zs z) (hl:mm≤lo) : fV w mm s zs z:=⟨h.row.low hl,h.each.mono fun _ _ h=>h.low hl⟩
theorem cX.low (h:cX w lo s ls l) (hl:mm≤lo) : cX w mm s ls l:=⟨h.row.low hl,h.each.mono fun _ _ h=>h.low hl⟩
theorem fV.rd (h:fV w lo s zs z) : yF w s zs z:=⟨h.row.sl,h.each.mono fun _ _ h=>h.rd⟩
theorem cX.rd (h:cX w lo s ls l) : sv w s ls l:=⟨h.row.sl,h.each.mono fun _ _ h=>h.rd⟩
theorem fV.ay (h:fV w lo s zs z) (hG:oa w w' t) (cG:(Nat.beq t 139 || (Nat.beq t 3 || Nat.beq t 165))=false) : fV w' lo s zs z:=by
 rw [Bool.or_eq_false_iff] at cG;exact ⟨h.row.ay hG cG.1,h.each.mono fun _ _ h=>h.ay hG cG.2⟩
theorem cX.ay (h:cX w lo s ls l) (hG:oa w w' t) (cG:(Nat.beq t 142 || Nat.beq t 3)=false) : cX w' lo s ls l:=by
 rw [Bool.or_eq_false_iff] at cG;exact ⟨h.row.ay hG cG.1,h.each.mono fun _ _ h=>h.ay hG cG.2⟩
theorem fV.nil (w:World) (lo:Nat) : fV w lo .nil [] []:=⟨Own.eJ _ _ _ _ _ _,.nil⟩
theorem cX.nil (w:World) (lo:Nat) : cX w lo .nil [] []:=⟨Own.eJ _ _ _ _ _ _,.nil⟩
theorem yF.len (h:yF w s zs z) : zs.length=s.n∧z.length=s.n:=⟨h.row.len,by rw [← h.each.len,h.row.len]⟩
theorem sv.len (h:sv w s ls l) : ls.length=s.n∧l.length=s.n:=⟨h.row.len,by rw [← h.each.len,h.row.len]⟩
end
structure wI (w:World) (r:eB) (h:Heap) : Prop where
 dY:r.bY=h.bY
 ck:Sl w 1 bd r.bJ.A r.bJ.n h.bJ
 live:Sl w 3 aA r.Live.A r.Live.n h.Live
 cQ:∃ zs,yF w r.aQ zs h.aQ
 lists:∃ ls,sv w r.av ls h.av
structure iD (w:World) (lo:Nat) (r:eB) (h:Heap) : Prop where
 dY:r.bY=h.bY
 ck:Own w lo 3 1 bd r.bJ.A r.bJ.n r.bJ.c h.bJ
 live:Own w lo 165 3 aA r.Live.A r.Live.n r.Live.c h.Live
 cQ:∃ zs,fV w lo r.aQ zs h.aQ
 lists:∃ ls,cX w lo r.av ls h.av
section
variable {w w':World} {lo mm t:Nat} {r:eB} {h:Heap}
theorem wI.ext (a:wI w r h) (hx:Ext w w') : wI w' r h:=by
 obtain ⟨zs,hz⟩:=a.cQ;obtain ⟨ls,hl⟩:=a.lists;exact ⟨a.dY,a.ck.ext hx,a.live.ext hx,⟨zs,hz.ext hx⟩,⟨ls,hl.ext hx⟩⟩
theorem iD.ext (a:iD w lo r h) (hx:Ext w w') : iD w' lo r h:=by
 obtain ⟨zs,hz⟩:=a.cQ;obtain ⟨ls,hl⟩:=a.lists;exact ⟨a.dY,a.ck.ext hx,a.live.ext hx,⟨zs,hz.ext hx⟩,⟨ls,hl.ext hx⟩⟩
theorem iD.low (a:iD w lo r h) (yx:mm≤lo) : iD w mm r h:=by
 obtain ⟨zs,hz⟩:=a.cQ;obtain ⟨ls,hl⟩:=a.lists;exact ⟨a.dY,a.ck.low yx,a.live.low yx,⟨zs,hz.low yx⟩,⟨ls,hl.low yx⟩⟩
theorem iD.rd (a:iD w lo r h) : wI w r h:=by
 obtain ⟨zs,hz⟩:=a.cQ;obtain ⟨ls,hl⟩:=a.lists;exact ⟨a.dY,a.ck.sl,a.live.sl,⟨zs,hz.rd⟩,⟨ls,hl.rd⟩⟩
theorem iD.ay (a:iD w lo r h) (hG:oa w w' t) (cG:(Nat.beq t 3 || (Nat.beq t 165 || (Nat.beq t 139 || Nat.beq t 142)))=false) : iD w' lo r h:=by
 obtain ⟨zs,hz⟩:=a.cQ;obtain ⟨ls,hl⟩:=a.lists;simp only [Bool.or_eq_false_iff] at cG;obtain ⟨h1,h2,h3,h4⟩:=cG;exact ⟨a.dY,a.ck.ay hG h1,a.live.ay hG h2,⟨zs,hz.ay hG (by simp [h1,h2,h3])⟩,⟨ls,hl.ay hG (by simp [h1,h4])⟩⟩
theorem iD.zero (w:World) (lo:Nat) : iD w lo .zero .zero:=⟨rfl,Own.eJ _ _ _ _ _ _,Own.eJ _ _ _ _ _ _,⟨[],.nil _ _⟩,⟨[],.nil _ _⟩⟩
end
structure Heap.small (h:Heap) : Prop where
 cQ:h.aQ.length*64≤140737488355328
 ck:h.bJ.length*8≤140737488355328
 lists:h.av.length*48≤140737488355328
 live:h.Live.length*24≤140737488355328
 free:∀ z∈h.aQ,z.ag.length*24≤140737488355328∧z.Types.length*8≤140737488355328
 bL:∀ l∈h.av,l.ax.length*8≤140737488355328
end Go.Proofs.YtbidkghlpijecaaGreatDoor
