/-
  Texts of the claim SlabBulks, part 4: what its theorem leans on.
-/
import Derived.Test.YtjimadiidbkohaaGreatDoorPackSlabBulks3
import Derived.Test.YtjimadiidbkohaaGreatDoorPackSlabBulks2
import Derived.Test.YtjimadiidbkohaaGreatDoorPackSlabBulks1
import Derived.Lib.AppendZerosOnto
import Derived.Lib.Overlaps
import Derived.Room.Entries
set_option linter.unusedVariables false
set_option linter.unusedSimpArgs false
namespace Go.Proofs.YtjimadiidbkohaaGreatDoor
open Go.RowKit
def zX (f:Int) (l:List Block) : Nat→Int
 | 0=>f
 | k+1=>match l[k]? with
   | some b=>b.At+pw b.Order
   | none=>0
theorem og (f:Int) (l:List Block) (k:Nat) (h:k<l.length) : zX f l (k+1)=l[k].At+pw l[k].Order:=by simp [zX,List.getElem?_eq_getElem h]
set_option maxHeartbeats 4000000 in
theorem kG (r:ct) (z:aq) (w:World) (hr:tY w r z) (hf:r.ag.n≤2305843009213693952) (ht:r.Types.n≤1000000000000000000) (h1 : -9223372036854775808≤r.aV∧r.aV≤9223372036854775807) (h2 : -9223372036854775808≤r.To∧r.To≤9223372036854775807) :
 bt Tryz.prog 78 [.agg (bo r).toArray] w fun v _=>v = .bool (ev z):=by
 refine aM Tryz.func78 rfl Tryz.ntmps78 rfl ?_;refine CW.seq (CW.region (SW.box rfl rfl fun b1 w1 hw ik aB => ?_));have eF:=hr.from_;have eT:=hr.ka;have Co:=hr.free.len;have Hs:=hr.types.len;refine Wz ?_;refine SW.call rfl rfl (wP r.aV r.To _ h1 h2) fun v w2 cJ hv => ?_
 (replace hw:=Ext.trans hw cJ;replace aB:=aB.ext cJ);by_cases iT:jH r.aV r.To
 ·rw [lU iT] at hv;obtain ⟨s,rfl,hs⟩:=hv;obtain ⟨o1,o2,o3,o4,o5⟩:=id iT;by_cases H4 : 8*(z.Types.length:Int)=z.To-z.aV
  ·refine Wz ?_;refine SW.alloc rfl fun b3 w1 ab bM ar => ?_
   have cr:w.heap.size≤b3:=Nat.le_trans hw.size bM
   have ke:b1≠b3:=by have:=aB.lt;omega
   replace hw:=Ext.trans hw ab;replace aB:=aB.ext ab;replace hs:=hs.ext ab;refine SW.ap ar rfl rfl rfl rfl (cw _) fun w2 cU hg => ?_
   replace hw:=hw.own cr hg;replace hs:=hs.cV ar hg rfl rfl;replace aB:=aB.grown hg (by simpa using ke);replace ar:=cU;clear cU ab hg bM;refine Wz ?_
   refine CW.loop (fun k:Nat=>[(1,.pointer (some ⟨b1,0,none⟩)),(5,.int .i64 (k:Int))]) (fun k w'=>k≤r.Types.n∧Ext w w'∧aI w' b1 59 (bo r) ∧ ∀ (j:Nat) (hj:j<z.Types.length),j<k→fy z.Types[j]) (fun k=>r.Types.n-k) 0
    ⟨rfl,rfl,trivial⟩ ⟨by omega,hw,aB,fun j _ h=>by omega⟩ ?_
   clear hw aB ar hs;rintro k w' ⟨hk,hw,aB,hI⟩
   have hA:=hr.types.base;by_cases cb:k<r.Types.n
   ·have di:=hr.types.lt cb;by_cases nz:fy (z.Types[k])
    ·obtain ⟨t1,t2⟩:=id nz;repeat' (first|refine Wz ?_|refine SW.st (ao hw rfl (hr.types.one cb rfl)) rfl ?_|(refine SW.call rfl rfl (bK _ _ _ _) ?_;intro v w1 ab hv;subst hv;replace hw:=Ext.trans hw ab;replace aB:=aB.ext ab;clear ab))
     all_goals try omega
     refine ae.again (k+1) ⟨rfl,rfl,trivial⟩ (by omega) ⟨by omega,hw,aB,fun j hj h => ?_⟩;by_cases kx:j=k
     ·subst kx;exact nz
     ·exact hI j hj (by omega)
    ·have hn : ¬ (0≤z.Types[k]∧z.Types[k]≤2):=nz
     repeat' (first|refine Wz ?_|refine SW.st (ao hw rfl (hr.types.one cb rfl)) rfl ?_|(refine SW.call rfl rfl (bK _ _ _ _) ?_;intro v w1 ab hv;subst hv;replace hw:=Ext.trans hw ab;replace aB:=aB.ext ab;clear ab))
     all_goals try omega
     refine ae.aO rfl rfl ⟨_,rfl,hw,?_⟩;rw [gx (fun h=>nz (h.types _ (List.getElem_mem di)))]
   ·have nz:∀ t∈z.Types,fy t:=fun t Cp=>by
     obtain ⟨j,hj,rfl⟩:=List.getElem_of_mem Cp;exact hI j hj (by omega)
    clear hI hA;refine Wz ?_
    refine CW.loop (fun k:Nat=>[(1,.pointer (some ⟨b1,0,none⟩)),(6,.int .i64 (zX z.aV z.ag k)),(7,.int .i64 (k:Int))])
     (fun k w'=>k≤r.ag.n∧Ext w w'∧aI w' b1 59 (bo r)∧(∀ (i:Nat) (h:i<z.ag.length),i<k→dG z.aV z.To z.ag[i])∧(∀ (i:Nat) (h:i+1<z.ag.length),i+1<k→ij z.ag[i] z.ag[i+1]))
     (fun k=>r.ag.n-k) 0 ⟨rfl,by rw [eF];rfl,rfl,trivial⟩ ⟨by omega,hw,aB,fun i h hi=>by omega,fun i h hi=>by omega⟩ ?_
    clear hw aB hk cb;rintro k w' ⟨hk,hw,aB,hI,hN⟩
    have hA:=hr.free.base;by_cases cb:k<r.ag.n
    ·have di:=hr.free.lt cb
     have cM:∀ w',bt Tryz.prog 111 [.agg (bo r).toArray,.int .i64 (z.ag[k]).At,.int .i64 (z.ag[k]).Order] w' fun v _=>v = .bool (decide (e8 z.aV z.To (z.ag[k]).At (z.ag[k]).Order)):=fun w'=>by
      have:=oU r (z.ag[k]).At (z.ag[k]).Order w' ⟨by omega,by omega⟩ ⟨by omega,by omega⟩
      rwa [eF,eT] at this
     repeat' (first|refine Wz ?_|refine SW.st (aH hw rfl rfl ((hr.free.all cb))) rfl ?_)
     refine SW.alloc rfl fun b7 w3 j2 lu j4 => ?_
     have q9:w.heap.size≤b7:=Nat.le_trans hw.size lu
     have cG:b1≠b7:=by have:=aB.lt;omega
     (replace hw:=Ext.trans hw j2;replace aB:=aB.ext j2);skip;refine SW.ap j4 rfl rfl rfl rfl (fO.one (enc:=az) _) fun w4 dL hg => ?_
     replace hw:=hw.own q9 hg;replace aB:=aB.grown hg (by simpa using cG);by_cases mO:dG z.aV z.To z.ag[k]
     ·obtain ⟨AD,t1,t2⟩:=id mO;obtain ⟨f1,f2,f3,f4,f5⟩:=id AD;have hp:=bH f1 f2;have J9:=jq f1 f2;rw [decide_eq_true AD] at cM;by_cases pS:k=0
      ·subst pS;have Ga:zX z.aV z.ag 0=z.aV:=rfl
       repeat' (first|refine Wz ?_|((apply CW.aP mixed;(· kernel_rfl);rotate_left;intro w1 ab;replace hw:=Ext.trans hw ab;replace aB:=aB.ext ab;replace dL:=dL.ext ab;clear ab;rotate_right))|refine SW.want rfl rfl ?_|((first|refine SW.call rfl rfl (cM _) ?_|refine SW.call rfl rfl (bK _ _ _ _) ?_);intro v w1 ab hv;subst hv;replace hw:=Ext.trans hw ab;replace aB:=aB.ext ab;replace dL:=dL.ext ab;clear ab)|refine SW.bq rfl rfl (fun w1 ab=>(dh _ (by omega) _)) ?_|exact SW.bx rfl)
       all_goals try omega
       refine ae.again (0+1) ⟨rfl,by rw [og _ _ _ di];rfl,rfl,trivial⟩ (by omega) ⟨by omega,hw,aB,fun i h hi => ?_,fun i h hi=>by omega⟩;obtain rfl:i=0:=by omega
       exact mO
      ·obtain ⟨j,rfl⟩ : ∃ j,k=j+1:=⟨k-1,by omega⟩;have hj:j<r.ag.n:=by omega
       have kW:=hr.free.lt hj;have H7:=hI j kW (by omega);obtain ⟨⟨g1,g2,g3,g4,g5⟩,_⟩:=id H7;have Ga:=og z.aV z.ag j kW;have em:(z.ag[j]).At.tmod (pw ((z.ag[j+1]).Order+1))=(z.ag[j]).At % (pw ((z.ag[j+1]).Order+1)):=Int.tmod_eq_emod_of_nonneg (by omega)
       by_cases c8:(z.ag[j]).At+pw (z.ag[j]).Order≤(z.ag[j+1]).At
       ·have JC:=Cm H7 mO c8;by_cases Cq:(z.ag[j+1]).Order<4∧(z.ag[j]).Order=(z.ag[j+1]).Order∧(z.ag[j]).At+pw (z.ag[j+1]).Order=(z.ag[j+1]).At∧(z.ag[j]).At % pw ((z.ag[j+1]).Order+1)=0
        ·have nN:=JC.2 Cq;obtain ⟨u1,u2,u3,u4⟩:=id Cq;clear JC;repeat' (first|refine Wz ?_|((apply CW.aP mixed;(· kernel_rfl);rotate_left;intro w1 ab;replace hw:=Ext.trans hw ab;replace aB:=aB.ext ab;replace dL:=dL.ext ab;clear ab;rotate_right))|refine SW.st (aZ (j) rfl rfl (by assumption) (by omega) (by omega)) rfl ?_|refine SW.st (ao hw rfl (hr.free.dA hj rfl)) rfl ?_|((first|refine SW.call rfl rfl (cM _) ?_|refine SW.call rfl rfl (bK _ _ _ _) ?_);intro v w1 ab hv;subst hv;replace hw:=Ext.trans hw ab;replace aB:=aB.ext ab;replace dL:=dL.ext ab;clear ab)|refine SW.bq rfl rfl (fun w1 ab=>(dh _ (by omega) _)) ?_|exact SW.bx rfl)
         all_goals try omega
         refine ae.aO rfl rfl ⟨_,rfl,hw,?_⟩;rw [gx (fun h=>(h.next j di).2 nN)]
        ·have Ka:ij z.ag[j] z.ag[j+1]:=⟨c8,fun h=>Cq (JC.1 h)⟩
         have hd:(¬ (z.ag[j+1]).Order<4)∨((z.ag[j+1]).Order<4 ∧ ¬ (z.ag[j]).Order=(z.ag[j+1]).Order)∨((z.ag[j+1]).Order<4∧(z.ag[j]).Order=(z.ag[j+1]).Order ∧ ¬ (z.ag[j]).At+pw (z.ag[j+1]).Order=(z.ag[j+1]).At) ∨
          ((z.ag[j+1]).Order<4∧(z.ag[j]).Order=(z.ag[j+1]).Order∧(z.ag[j]).At+pw (z.ag[j+1]).Order=(z.ag[j+1]).At ∧ ¬ (z.ag[j]).At % pw ((z.ag[j+1]).Order+1)=0):=by
          by_cases u1:(z.ag[j+1]).Order<4
          ·by_cases u2:(z.ag[j]).Order=(z.ag[j+1]).Order
           ·by_cases u3:(z.ag[j]).At+pw (z.ag[j+1]).Order=(z.ag[j+1]).At
            ·exact .inr (.inr (.inr ⟨u1,u2,u3,fun u4=>Cq ⟨u1,u2,u3,u4⟩⟩))
            ·exact .inr (.inr (.inl ⟨u1,u2,u3⟩))
           ·exact .inr (.inl ⟨u1,u2⟩)
          ·exact .inl u1
         clear JC
         have jS:∀ (i:Nat) (h:i+1<z.ag.length),i+1<j+1+1→ij z.ag[i] z.ag[i+1]:=fun i h hi=>by
          by_cases kX:i=j
          ·subst kX;exact Ka
          ·exact hN i h (by omega)
         have Kb:∀ (i:Nat) (h:i<z.ag.length),i<j+1+1→dG z.aV z.To z.ag[i]:=fun i h hi=>by
          by_cases kX:i=j+1
          ·subst kX;exact mO
          ·exact hI i h (by omega)
         rcases hd with u1|⟨u1,u2⟩|⟨u1,u2,u3⟩|⟨u1,u2,u3,u4⟩
         all_goals
          repeat' (first|refine Wz ?_|((apply CW.aP mixed;(· kernel_rfl);rotate_left;intro w1 ab;replace hw:=Ext.trans hw ab;replace aB:=aB.ext ab;replace dL:=dL.ext ab;clear ab;rotate_right))|refine SW.want rfl rfl ?_|refine SW.st (aZ (j) rfl rfl (by assumption) (by omega) (by omega)) rfl ?_|refine SW.st (ao hw rfl (hr.free.dA hj rfl)) rfl ?_|((first|refine SW.call rfl rfl (cM _) ?_|refine SW.call rfl rfl (bK _ _ _ _) ?_);intro v w1 ab hv;subst hv;replace hw:=Ext.trans hw ab;replace aB:=aB.ext ab;replace dL:=dL.ext ab;clear ab)|refine SW.bq rfl rfl (fun w1 ab=>(dh _ (by omega) _)) ?_|exact SW.bx rfl)
          all_goals try omega
          exact ae.again (j+1+1) ⟨rfl,by rw [og _ _ _ di];rfl,rfl,trivial⟩ (by omega) ⟨by omega,hw,aB,Kb,jS⟩
       ·repeat' (first|refine Wz ?_|refine SW.want rfl rfl ?_|((first|refine SW.call rfl rfl (cM _) ?_|refine SW.call rfl rfl (bK _ _ _ _) ?_);intro v w1 ab hv;subst hv;replace hw:=Ext.trans hw ab;replace aB:=aB.ext ab;replace dL:=dL.ext ab;clear ab))
        all_goals try omega
        refine ae.aO rfl rfl ⟨_,rfl,hw,?_⟩;rw [gx (fun h=>c8 (h.next j di).1)]
     ·have wQ:ev z=false:=gx (fun h=>mO (h.cV k di))
      by_cases AD:e8 z.aV z.To (z.ag[k]).At (z.ag[k]).Order
      ·have ra : ¬ (0≤(z.ag[k]).Ty∧(z.ag[k]).Ty≤2):=fun h=>mO ⟨AD,h⟩
       rw [decide_eq_true AD] at cM;repeat' (first|refine Wz ?_|refine SW.want rfl rfl ?_|((first|refine SW.call rfl rfl (cM _) ?_|refine SW.call rfl rfl (bK _ _ _ _) ?_);intro v w1 ab hv;subst hv;replace hw:=Ext.trans hw ab;replace aB:=aB.ext ab;replace dL:=dL.ext ab;clear ab))
       all_goals try omega
       exact ae.aO rfl rfl ⟨_,rfl,hw,by rw [wQ]⟩
      ·rw [decide_eq_false AD] at cM;repeat' (first|refine Wz ?_|refine SW.skip rfl rfl rfl rfl ?_|(refine SW.call rfl rfl (cM _) ?_;intro v w1 ab hv;subst hv;replace hw:=Ext.trans hw ab;replace aB:=aB.ext ab;replace dL:=dL.ext ab;clear ab))
       exact ae.aO rfl rfl ⟨_,rfl,hw,by rw [wQ]⟩
    ·refine Wz ?_;refine ae.aO rfl rfl ⟨_,rfl,hw,?_⟩;rw [rA ⟨by rw [← eF,← eT];exact iT,H4,nz,fun i h=>hI i h (by omega),fun i h=>hN i h (by omega)⟩]
  ·refine Wz ?_;refine SW.alloc rfl fun b3 w1 ab bM ar => ?_
   have cr:w.heap.size≤b3:=Nat.le_trans hw.size bM
   have ke:b1≠b3:=by have:=aB.lt;omega
   replace hw:=Ext.trans hw ab;replace aB:=aB.ext ab;replace hs:=hs.ext ab;refine SW.ap ar rfl rfl rfl rfl (cw _) fun w2 cU hg => ?_
   replace hw:=hw.own cr hg;replace hs:=hs.cV ar hg rfl rfl;replace aB:=aB.grown hg (by simpa using ke);replace ar:=cU;clear cU ab hg bM;refine Wz ?_;refine ae.aO rfl rfl ⟨_,rfl,hw,?_⟩;rw [gx (fun h=>H4 h.len)]
 ·rw [lT iT] at hv;obtain ⟨s,rfl,hs⟩:=hv;refine Wz ?_;refine SW.alloc rfl fun b3 w1 ab bM ar => ?_
  have cr:w.heap.size≤b3:=Nat.le_trans hw.size bM
  have ke:b1≠b3:=by have:=aB.lt;omega
  replace hw:=Ext.trans hw ab;replace aB:=aB.ext ab;replace hs:=hs.ext ab;refine SW.ap ar rfl rfl rfl rfl (cw _) fun w2 cU hg => ?_
  replace hw:=hw.own cr hg;replace hs:=hs.cV ar hg rfl rfl;replace aB:=aB.grown hg (by simpa using ke);replace ar:=cU;clear cU ab hg bM;refine Wz ?_;refine ae.aO rfl rfl ⟨_,rfl,hw,?_⟩;rw [gx (fun h=>iT (by rw [eF,eT];exact h.ok))]
def rb (a o:Int) (b:Block) : Bool:=decide (b.At=a) && decide (b.Order=o)
def da (l:List Block) (a o:Int) : List Block:=l.filter fun b => !rb a o b
def iy:Nat→List Block→Int→Int→List Block×Int×Int
 | 0,l,a,o=>(l,a,o)
 | f+1,l,a,o=>if o<4 then (if l.any (rb (beside a o) o) then iy f (da l (beside a o) o) (min a (beside a o)) (o+1) else (l,a,o)) else (l,a,o)
def bF (l:List Block) (a:Int) : Nat:=l.findIdx fun b=>decide (a≤b.At)
def aU {α:Type} (l:List α) (i:Nat) (b : α) : List α := l.take i++[b]++l.drop i
def fc (l:List Block) (a o:Int) : Bool:=l.any fun x=>decide (x.At<a+pw o) && decide (a<x.At+pw x.Order)
def nO (l:List Block) : Prop:=l.Pairwise fun x y=>x.At+pw x.Order≤y.At
structure vw (f t:Int) (l:List Block) (a o:Int) : Prop where
 nO:nO l
 cV:∀ b∈l,dG f t b
 fit:e8 f t a o
 BZ:∀ b∈l,b.At+pw b.Order≤a∨a+pw o≤b.At
theorem fB {l:List Block} (h:nO l) {i j:Nat} (hj:j<l.length) (kX:i<j) : (l[i]'(by omega)).At+pw (l[i]'(by omega)).Order≤l[j].At:=by
 unfold nO at h;rw [List.pairwise_iff_getElem] at h;exact h i j (by omega) hj kX
theorem lx {z:aq} (h:bT z) : nO z.ag:=by
 have key:∀ (d i:Nat) (hj:i+d+1<z.ag.length),(z.ag[i]'(by omega)).At+pw (z.ag[i]'(by omega)).Order≤z.ag[i+d+1].At:=by
  intro d;induction d with
  | zero=>intro i hj;exact (h.next i hj).1
  | succ d ih =>
    intro i hj;have h1:=ih i (by omega);have h2:=(h.next (i+d+1) (by omega)).1;have hb:=(h.cV (i+d+1) (by omega)).1;have:=bH hb.1 hb.2.1
    have e:z.ag[i+(d+1)+1]=z.ag[i+d+1+1]'(by omega):=rfl
    rw [e];omega
 unfold nO;rw [List.pairwise_iff_getElem];intro i j hi hj kX;have:=key (j-i-1) i (by omega)
 have e:i+(j-i-1)+1=j:=by omega
 simp only [e] at this;exact this
theorem Cr {f t:Int} {l:List Block} (h:nO l) (hb:∀ b∈l,dG f t b) {x y:Block} (hx:x∈l) (hy:y∈l) : x=y∨x.At+pw x.Order≤y.At∨y.At+pw y.Order≤x.At:=by
 obtain ⟨i,hi,rfl⟩:=List.getElem_of_mem hx;obtain ⟨j,hj,rfl⟩:=List.getElem_of_mem hy;rcases Nat.lt_trichotomy i j with h1|h1|h1
 ·exact .inr (.inl (fB h hj h1))
 ·subst h1;exact .inl rfl
 ·exact .inr (.inr (fB h hi h1))
theorem Gb {f t:Int} {l:List Block} (h:nO l) (hb:∀ b∈l,dG f t b) {i j:Nat} (hi:i<l.length) (hj:j<l.length) (e:l[i].At=l[j].At) : i=j:=by
 have p1:=hb _ (List.getElem_mem hi);have p2:=hb _ (List.getElem_mem hj);have q1:=bH p1.1.1 p1.1.2.1;have q2:=bH p2.1.1 p2.1.2.1;rcases Nat.lt_trichotomy i j with h1|h1|h1
 ·have:=fB h hj h1;omega
 ·exact h1
 ·have:=fB h hi h1;omega
theorem oh {a o:Int} (h : 0≤a) (h0 : 0≤o) (h4:o<4) (hm:a % pw o=0) : (min a (beside a o)) % pw (o+1)=0∧(beside a o=a+pw o∨beside a o=a-pw o)∧(beside a o) % pw o=0:=by
 rw [jq h0 (by omega)];unfold beside;have hp:=dZ h0 (show o≤4 by omega);generalize pw o=q at *
 rcases hp with ⟨e,rfl⟩|⟨e,rfl⟩|⟨e,rfl⟩|⟨e,rfl⟩|⟨e,rfl⟩<;>split<;>omega
theorem ib {a o:Int} {b:Block}:rb a o b=true↔b.At=a∧b.Order=o:=by simp [rb]
theorem vw.step {f t:Int} {l:List Block} {a o:Int} (h:vw f t l a o) (h0 : 0≤f) (ho:o<4) (dO:l.any (rb (beside a o) o)=true) : vw f t (da l (beside a o) o) (min a (beside a o)) (o+1):=by
 obtain ⟨b,hb,hi⟩:=List.any_eq_true.1 dO;obtain ⟨e1,e2⟩:=ib.1 hi;obtain ⟨f1,f2,f3,f4,f5⟩:=h.fit;obtain ⟨g1,g2,g3,g4,g5⟩:=(h.cV b hb).1;obtain ⟨k1,k2,k3⟩:=oh (by omega) f1 ho f5;have hp:=jq f1 f2;have Fj:=bH f1 f2;refine ⟨h.nO.sublist List.filter_sublist,fun x hx=>h.cV x ((List.mem_filter.1 hx).1),⟨by omega,by omega,by omega,by omega,k1⟩,fun x hx => ?_⟩;have kH:=(List.mem_filter.1 hx).1
 have LU:rb (beside a o) o x=false:=by
  have:=(List.mem_filter.1 hx).2
  simpa using this
 have hd:=h.BZ x kH;have OL:=bH (h.cV x kH).1.1 (h.cV x kH).1.2.1;rcases Cr h.nO h.cV hb kH with e|e|e
 ·subst e;rw [hi] at LU;cases LU
 ·rw [hp];rw [e2] at e;omega
 ·rw [hp];omega
theorem zY {l:List Block} {a:Int} {i:Nat} (hi:i≤l.length) (h1:∀ (k:Nat) (h:k<l.length),k<i→l[k].At<a) (h2:∀ h:i<l.length,a≤l[i].At) : bF l a=i:=by
 unfold bF;by_cases h:i<l.length
 ·exact (List.findIdx_eq h).2 ⟨by simpa using h2 h,fun j hj=>by simpa using h1 j (by omega) hj⟩
 ·have e:i=l.length:=by omega
  subst e;rw [List.findIdx_eq_length];intro x hx;obtain ⟨k,hk,rfl⟩:=List.getElem_of_mem hx;simpa using h1 k hk hk
theorem zZ (l:List Block) (a:Int) : bF l a≤l.length:=List.findIdx_le_length
theorem mP {l:List Block} {a:Int} {k:Nat} (hk:k<bF l a) : (l[k]'(Nat.lt_of_lt_of_le hk (zZ l a))).At<a:=by
 have:=List.not_of_lt_findIdx hk
 simpa using this
theorem z5 {l:List Block} {a:Int} (h:bF l a<l.length) : a≤(l[bF l a]).At:=by
 have:=List.findIdx_getElem (w:=h)
 exact of_decide_eq_true this
def pT (l:List Block) (a o:Int) : Bool:=if h:bF l a<l.length then decide ((l[bF l a]).At=a∧(l[bF l a]).Order=o) else false
theorem AE {f t:Int} {l:List Block} (hu:nO l) (hb:∀ b∈l,dG f t b) (a o:Int) : l.any (rb a o)=pT l a o:=by
 unfold pT;by_cases h:bF l a<l.length
 ·rw [dif_pos h];by_cases hh:(l[bF l a]).At=a∧(l[bF l a]).Order=o
  ·rw [decide_eq_true hh];exact List.any_eq_true.2 ⟨_,List.getElem_mem h,ib.2 hh⟩
  ·rw [decide_eq_false hh,List.any_eq_false];intro x hx hi;obtain ⟨e1,e2⟩:=ib.1 hi;obtain ⟨j,hj,rfl⟩:=List.getElem_of_mem hx;have h1:=z5 h;rcases Nat.lt_trichotomy j (bF l a) with c8|c8|c8
   ·have:=mP c8;omega
   ·subst c8;exact hh ⟨e1,e2⟩
   ·have:=fB hu hj c8
    have hp:=hb _ (List.getElem_mem h);have:=bH hp.1.1 hp.1.2.1
    omega
 ·rw [dif_neg h,List.any_eq_false];intro x hx hi;obtain ⟨e1,e2⟩:=ib.1 hi;obtain ⟨j,hj,rfl⟩:=List.getElem_of_mem hx;have:=mP (show j<bF l a by omega)
  omega
theorem nX {f t:Int} {l:List Block} (hu:nO l) (hb:∀ b∈l,dG f t b) {a o:Int} {i:Nat} (hi:i<l.length) (h1:l[i].At=a) (h2:l[i].Order=o) : l.eraseIdx i=da l a o:=by
 have cG:∀ (j:Nat) (hj:j<l.length),j≠i→rb a o l[j]=false:=fun j hj iY=>by
  cases hh:rb a o l[j] with
  | false=>rfl
  | true =>
    obtain ⟨e1,e2⟩:=ib.1 hh;exact absurd (Gb hu hb hj hi (by omega)) iY
 have e:l=l.take i++l[i]::l.drop (i+1):=by simp
 have hL:∀ x∈l.take i,rb a o x=false:=fun x hx=>by
  obtain ⟨j,hj,rfl⟩:=List.getElem_of_mem hx;simp at hj;rw [List.getElem_take];exact cG j (by omega) (by omega)
 have hR:∀ x∈l.drop (i+1),rb a o x=false:=fun x hx=>by
  obtain ⟨j,hj,rfl⟩:=List.getElem_of_mem hx;simp at hj;rw [List.getElem_drop];exact cG _ (by omega) (by omega)
 have hm:rb a o l[i]=true:=ib.2 ⟨h1,h2⟩
 unfold da;rw [List.eraseIdx_eq_take_drop_succ]
 conv=>rhs;rw [e]
 rw [List.filter_append,List.filter_cons];simp only [hm,Bool.not_true,Bool.false_eq_true,if_false];rw [List.filter_eq_self.2 (fun x hx=>by simp [hL x hx]),List.filter_eq_self.2 (fun x hx=>by simp [hR x hx])]
noncomputable def iZ (z:aq) (a o:Int) : Int×aq :=
 if ev z then (if e8 z.aV z.To a o then (if fc z.ag a o then (5,⟨0,0,[],[]⟩) else
  (0,⟨z.aV,z.To,aU (iy 5 z.ag a o).1 (bF (iy 5 z.ag a o).1 (iy 5 z.ag a o).2.1) ⟨(iy 5 z.ag a o).2.1,(iy 5 z.ag a o).2.2,z.Types.getD (((iy 5 z.ag a o).2.1-z.aV) / 8).toNat 0⟩,z.Types⟩)) else (1,⟨0,0,[],[]⟩)) else (8,⟨0,0,[],[]⟩)
theorem r9 {f t:Int} {z:aq} {a o:Int} (hz:bT z) (hf:e8 z.aV z.To a o) (h:fc z.ag a o=false) : vw z.aV z.To z.ag a o:=by
 refine ⟨lx hz,fun b hb => ?_,hf,fun b hb => ?_⟩
 ·obtain ⟨i,hi,rfl⟩:=List.getElem_of_mem hb;exact hz.cV i hi
 ·unfold fc at h;rw [List.any_eq_false] at h;have:=h b hb
  simp at this;omega
open Go.RowKit
theorem oX (A:Option Addr) (n c:Nat) (l:List Block) (f t a o:Int) (w:World) (hl:Sl w 3 az A n l) (hb:∀ b∈l,dG f t b) (h0 : 0≤f) (ht:t≤256) (hn:n≤1000000000000000000) (ha : -1000≤a∧a≤1000) (ho : 0≤o∧o≤4) :
 bt Tryz.prog 80 [.slice A n c,.int .i64 a,.int .i64 o] w fun v _=>v = .bool (fc l a o):=by
 refine aM Tryz.func80 rfl Tryz.ntmps80 rfl ?_;have hw:=Ext.refl w;have hA:=hl.base;have kB:=hl.len;have hp:=bH ho.1 ho.2;refine Wz ?_;refine CW.loop (fun k:Nat=>[(0,.slice A n c),(1,.int .i64 a),(2,.int .i64 o),(7,.int .i64 (k:Int))]) (fun k w'=>k≤n∧Ext w w' ∧ ∀ (j:Nat) (h:j<l.length),j<k → ¬ (l[j].At<a+pw o∧a<l[j].At+pw l[j].Order)) (fun k=>n-k) 0 ⟨rfl,rfl,rfl,rfl,trivial⟩ ⟨by omega,hw,fun j _ h=>by omega⟩ ?_;clear hw;rintro k w' ⟨hk,hw,hI⟩
 by_cases cb:k<n
 ·have di:=hl.lt cb;have mO:=(hb _ (List.getElem_mem di)).1;obtain ⟨f1,f2,f3,f4,f5⟩:=id mO;have Fj:=bH f1 f2;by_cases h1:l[k].At<a+pw o
  ·by_cases h2:a<l[k].At+pw l[k].Order
   ·repeat' (first|refine Wz ?_|((apply CW.aP mixed;(· kernel_rfl);rotate_left;intro w1 ab;replace hw:=Ext.trans hw ab;clear ab;rotate_right))|refine SW.st (ao hw rfl (hl.dA cb rfl)) rfl ?_|refine SW.bq rfl rfl (fun w1 ab=>(dh _ (by omega) _)) ?_|exact SW.bx rfl)
    refine ae.aO rfl rfl ⟨_,rfl,hw,?_⟩;have:fc l a o=true:=List.any_eq_true.2 ⟨l[k],List.getElem_mem di,by simp [h1,h2]⟩
    rw [this]
   ·repeat' (first|refine Wz ?_|((apply CW.aP mixed;(· kernel_rfl);rotate_left;intro w1 ab;replace hw:=Ext.trans hw ab;clear ab;rotate_right))|refine SW.st (ao hw rfl (hl.dA cb rfl)) rfl ?_|refine SW.bq rfl rfl (fun w1 ab=>(dh _ (by omega) _)) ?_|exact SW.bx rfl)
    refine ae.again (k+1) ⟨rfl,rfl,rfl,rfl,trivial⟩ (by omega) ⟨by omega,hw,fun j hj h => ?_⟩;by_cases e:j=k
    ·subst e;exact fun h=>h2 h.2
    ·exact hI j hj (by omega)
  ·repeat' (first|refine Wz ?_|((apply CW.aP mixed;(· kernel_rfl);rotate_left;intro w1 ab;replace hw:=Ext.trans hw ab;clear ab;rotate_right))|refine SW.st (ao hw rfl (hl.dA cb rfl)) rfl ?_|refine SW.bq rfl rfl (fun w1 ab=>(dh _ (by omega) _)) ?_|exact SW.bx rfl)
   refine ae.again (k+1) ⟨rfl,rfl,rfl,rfl,trivial⟩ (by omega) ⟨by omega,hw,fun j hj h => ?_⟩;by_cases e:j=k
   ·subst e;exact fun h=>h1 h.1
   ·exact hI j hj (by omega)
 ·refine Wz ?_;refine ae.aO rfl rfl ⟨_,rfl,hw,?_⟩
  have:fc l a o=false:=by
   unfold fc;rw [List.any_eq_false];intro x hx;obtain ⟨j,hj,rfl⟩:=List.getElem_of_mem hx;have:=hI j hj (by omega)
   simpa using this
  rw [this]
open Go.RowKit
section
variable {P:Program} {n:Nat} {Q:Exit→Act→World→Prop} {L:Env} {w:World}
def Er (n:Nat) (K:Env→World→Prop) (Q:Exit→Act→World→Prop) : Exit→Act→World→Prop
 | .normal,a,w' => ∃ L',Fit n a L'∧K L' w'
 | e,a,w'=>Q e a w'
theorem CW.Kc {c:Code} (K:Env→World→Prop) (h:CW P n c (Er n K Q) L w) (k:∀ L' w',K L' w'→ae n Q .normal L' w') : CW P n c Q L w :=
 ⟨fun a ha=>wp_mono (h.out a ha) fun e a' w' h'=>by
  cases e with
  | normal=>obtain ⟨L',hf,hk⟩:=h';exact (k L' w' hk).out a' hf
  | _=>exact h'⟩
theorem CW.wR {c:Code} {id:Nat} (K:Env→World→Prop) (h:CW P n c (Exit.inBlock id (Er n K Q)) L w) (k:∀ L' w',K L' w'→ae n Q .normal L' w') : CW P n c (Exit.inBlock id Q) L w :=
 ⟨fun a ha=>wp_mono (h.out a ha) fun e a' w' h'=>by
  cases e with
  | normal=>obtain ⟨L',hf,hk⟩:=h';exact (k L' w' hk).out a' hf
  | exit j =>
    simp only [Exit.inBlock] at h' ⊢;split
    ·rename_i hj;rw [if_pos hj] at h';obtain ⟨L',hf,hk⟩:=h';exact (k L' w' hk).out a' hf
    ·rename_i hj;rw [if_neg hj] at h';exact h'
  | _=>exact h'⟩
theorem ae.kz {K:Env→World→Prop} (h:K L w) : ae n (Er n K Q) .normal L w:=⟨fun _ ha=>⟨L,ha,h⟩⟩
theorem ae.z6 {K:Env→World→Prop} (h:ae n Q .ret L w) : ae n (Er n K Q) .ret L w:=⟨fun a ha=>h.out a ha⟩
end
open Go.RowKit
def lay (gb:List Value) (o:Nat) (cs:List Value) : List Value:=gb.take o++cs++gb.drop (o+cs.length)
theorem z7 (gb:List Value) (o:Nat) : lay gb o []=gb:=by simp [lay]
theorem eW (X Y Z cs:List Value) (h:cs.length=Y.length) {o:Nat} (ho:o=X.length) : lay (X++Y++Z) o cs=X++cs++Z:=by
 subst ho;unfold lay;rw [List.append_assoc X Y Z,List.take_left,h];congr 1
 rw [← List.append_assoc,List.drop_append];have e:List.drop (X.length+Y.length) (X++Y)=[]:=List.drop_eq_nil_of_le (by simp)
 rw [e];simp
theorem Own.opened {α:Type} {w:World} {lo:Nat} {e:TypeId} {sz:Nat} {enc : α → List Value} [E:fO enc sz] {A:Option Addr} {n c:Nat} {l:List α} (h:Own w lo e sz enc A n c l) (hc : 0<c) :
 ∃ g rest,A=some ⟨g,0,none⟩∧lo≤g∧aI w g e (l.flatMap enc++rest)∧n*sz+rest.length=c*sz∧n≤c∧c≤maxLen∧aQ A c=some g:=by
 rcases h.row with ⟨_,h0⟩|⟨_,g,gb,rfl,h1,h2,h3,h4,h5,h6⟩
 ·omega
 ·refine ⟨g,gb.toList.drop (n*sz),rfl,h1,?_,?_,h3,h4,by simp [aQ,Nat.pos_iff_ne_zero.1 hc]⟩
  ·unfold aI;rw [← h6,List.take_append_drop];simpa using h2
  ·have:n*sz≤c*sz:=Nat.mul_le_mul_right _ h3
   simp;omega
theorem Own.closed {α:Type} {w:World} {lo:Nat} {e:TypeId} {sz:Nat} {enc : α → List Value} [E:fO enc sz] {n c g:Nat} {l:List α} {rest:List Value} (hl:l.length=n) (hB:aI w g e (l.flatMap enc++rest)) (hr:n*sz+rest.length=c*sz) (hn:n≤c) (hc : 0<c) (hm:c≤maxLen) (fG:lo≤g) :
 Own w lo e sz enc (some ⟨g,0,none⟩) n c l:=by
 have oI:(l.flatMap enc).length=n*sz:=by rw [bc,hl]
 refine ⟨hl,.inr ⟨hc,g,_,rfl,fG,hB,hn,hm,?_,?_⟩⟩
 ·simp [oI];omega
 ·rw [← oI];simp
theorem Own.pre {α:Type} {w:World} {lo:Nat} {e:TypeId} {sz:Nat} {enc : α → List Value} [E:fO enc sz] {A:Option Addr} {n c:Nat} {l:List α} (h:Own w lo e sz enc A n c l) {i:Nat} (hi:i≤n) : Own w lo e sz enc A i c (l.take i):=by
 rcases Nat.eq_zero_or_pos c with hc|hc
 ·have h1:=h.le.1;have:n=0:=by omega
  subst hc this;obtain rfl:i=0:=by omega
  simpa using Own.dS w lo e sz enc A
 ·obtain ⟨g,rest,rfl,h1,h2,h3,h4,h5,_⟩:=h.opened hc;refine Own.closed (rest:=(l.drop i).flatMap enc++rest) (by simp [h.len];omega) ?_ ?_ (by omega) hc h5 h1
  ·rw [← List.append_assoc,← List.flatMap_append,List.take_append_drop];exact h2
  ·have e1:((l.drop i).flatMap enc).length=(n-i)*sz:=by rw [bc];simp [h.len]
   have e2:i+(n-i)=n:=by omega
   rw [List.length_append,e1,← h3,← Nat.add_assoc,← Nat.add_mul,e2]
theorem Sl.drop {α:Type} {w:World} {sz:Nat} {enc : α → List Value} {A:Option Addr} {n:Nat} {l:List α} (h:Sl w sz enc A n l) (i c:Nat) (hi:i≤n) (hc:n≤c) : Sl w sz enc (if c=i then A else A.map (·.add (i*sz))) (n-i) (l.drop i):=by
 refine ⟨by simp [h.len],fun hn => ?_,fun j hj k u hu => ?_⟩
 ·have:=h.base (by omega)
  split
  ·exact this
  ·simpa using this
 ·simp at hj;have hl:=h.len;rw [if_neg (by omega)];have hb:=h.base (by omega);obtain ⟨a,rfl⟩:=Option.isSome_iff_exists.1 hb;have uF:=h.cell (i+j) (by omega) k u (by simpa using hu);simp only [Option.getD_some,Option.map_some,add_add] at uF ⊢;rw [← uF];congr 2
  rw [Nat.add_mul]
theorem Sl.pre {α:Type} {w:World} {sz:Nat} {enc : α → List Value} {A:Option Addr} {n:Nat} {l:List α} (h:Sl w sz enc A n l) {i:Nat} (hi:i≤n) : Sl w sz enc A i (l.take i):=by
 refine ⟨by simp [h.len];omega,fun hn=>h.base (by omega),fun j hj k u hu => ?_⟩;simp at hj;exact h.cell j (by omega) k u (by simpa using hu)
section
variable {P:Program} {w:World}
theorem eB {g:Nat} {e:TypeId} {gb cs:List Value} (h:aI w g e gb) : aI (w.setRow g cs.toArray) g e cs∧w.grownBy (w.setRow g cs.toArray) (some g) :=
 ⟨setRow_heap w g _ _ e (0,0) h,⟨rfl,rfl,rfl,by simp,fun j _ hj=>by
  show (w.setRow g _).heap[j]?=_
  simp only [World.setRow,Array.getElem?_modify];rw [if_neg (fun e=>hj (by simp [e]))]⟩⟩
theorem vx {t e:TypeId} {z:Value} {sz bytes:Nat} [S:bw P t e sz] [T:dl P e z sz bytes] (ty:TypeId) {A X:Option Addr} {n c m c2 k g o:Nat} {gb cs:List Value} (hk:min m n=k) (hlen:cs.length=k*sz) (hB:aI w g e gb) (jg:o+cs.length≤gb.length)
 (kV : 0<k→A=some ⟨g,o,none⟩ ∧ ∃ ad,X=some ad ∧ ∀ j v,cs[j]?=some v→w.cell? (ad.add j)=some v) (h1:∀ v∈cs,v.oneCell'=true) :
 ∃ w',(Builtin.copy_ #[t,t] ty #[.slice A n c,.slice X m c2]).run P w = .ok (.int .i64 (k:Int)) w'∧aI w' g e (lay gb o cs)∧w.grownBy w' (some g):=by
 obtain ⟨i,hi,hz,hs,uC⟩:=dT P e (z:=z) (sz:=sz) (bytes:=bytes);have AF:Nat.min m n=k:=hk
 by_cases h0:k=0
 ·have gU:cs=[]:=List.eq_nil_of_length_eq_zero (by rw [hlen,h0];simp)
  subst gU;refine ⟨w,?_,by rw [z7];exact hB,World.grownBy.refl _ _⟩;cases A<;>cases X<;>simp [Builtin.copy_,run_underlying S.ky,Builtin.lenOf,Builtin.firstCells,sizeOf,typeInfo,hi,AF,h0,loadCells,loadCellsFrom,storeCells,goInt]
 ·obtain ⟨rfl,ad,rfl,lV⟩:=kV (by omega);have hl:=run_loadCells_list (P:=P) w ad cs lV;have rz:=run_storeCells_at P g o e cs 0 gb.toArray w hB (by simpa using jg) h1;have e1:(gb.toArray.toList.take (o+0)++cs++gb.toArray.toList.drop (o+0+cs.length))=lay gb o cs:=by simp [lay]
  rw [e1] at rz;rw [hlen] at hl;refine ⟨_,?_,(eB hB).1,(eB hB).2⟩;simp [Builtin.copy_,run_underlying S.ky,Builtin.lenOf,Builtin.firstCells,sizeOf,typeInfo,hi,hs,AF,hl,rz,goInt]
theorem tZ {t e:TypeId} {z:Value} {sz bytes:Nat} [S:bw P t e sz] [T:dl P e z sz bytes] (ty:TypeId) {A:Option Addr} {n c g o:Nat} {gb:List Value} (hB:aI w g e gb) (jg:o+n*sz≤gb.length) (kV : 0<n→A=some ⟨g,o,none⟩) (B0:∀ v∈z.cells.toList,v.oneCell'=true) :
 ∃ w' cs,(Builtin.clear_ #[t] ty #[.slice A n c]).run P w = .ok (.tuple #[]) w'∧cs.length=n*sz∧aI w' g e (lay gb o cs)∧w.grownBy w' (some g):=by
 obtain ⟨i,hi,hz,hs,uC⟩:=dT P e (z:=z) (sz:=sz) (bytes:=bytes);by_cases h0:n=0
 ·subst h0;refine ⟨w,[],?_,by simp,by rw [z7];exact hB,World.grownBy.refl _ _⟩;cases A<;>simp [Builtin.clear_,run_underlying S.ky]
 ·obtain rfl:=kV (by omega);obtain ⟨k,rfl⟩ : ∃ k,n=k+1:=⟨n-1,by omega⟩;have hlen:(Builtin.zeroCells z.cells (k+1)).toList.length=(k+1)*sz:=by simp [Go.size_zeroCells,T.zc]
  have h1:∀ v∈(Builtin.zeroCells z.cells (k+1)).toList,v.oneCell'=true:=by
   intro v hv;simp only [Builtin.zeroCells,Array.toList_map,Array.toList_range,List.mem_map] at hv;obtain ⟨j,hj,rfl⟩:=hv;have hp:=T.pos;have:j % z.cells.size<z.cells.size:=Nat.mod_lt _ (by rw [T.zc];exact hp)
   rw [getElem!_pos z.cells _ this];exact B0 _ (Array.getElem_mem_toList _)
  have rz:=run_storeCells_at P g o e (Builtin.zeroCells z.cells (k+1)).toList 0 gb.toArray w hB (by rw [hlen];simpa using jg) h1;have e1:(gb.toArray.toList.take (o+0)++(Builtin.zeroCells z.cells (k+1)).toList++gb.toArray.toList.drop (o+0+(Builtin.zeroCells z.cells (k+1)).toList.length))=lay gb o (Builtin.zeroCells z.cells (k+1)).toList:=by simp [lay]
  rw [e1] at rz;refine ⟨_,_,?_,hlen,(eB hB).1,(eB hB).2⟩;simp [Builtin.clear_,run_underlying S.ky,zeroValue,typeInfo,hi,hz,rz]
end
section
variable {P:Program} {n:Nat} {ops:Array Oper} {Q:Exit→Act→World→Prop} {rest:List Oper} {L:Env} {w:World} {d:Option Nat} {T:TypeId} {pos:String} {af:Array Edge} {g:Option (Nat×Bool)}
theorem SW.copy {d:Nat} {t e:TypeId} {z:Value} {sz bytes:Nat} [S:bw P t e sz] [E:dl P e z sz bytes] {x y:Operand} {A X:Option Addr} {m c m2 c2 k g:Nat} (o:Nat) {gb:List Value} (cs:List Value) (hB:aI w g e gb) (hx:cd L x=some (.slice A m c)) (hy:cd L y=some (.slice X m2 c2)) (hn:Nat.blt d n=true)
 (hk:min m2 m=k) (hlen:cs.length=k*sz) (jg:o+cs.length≤gb.length) (kV : 0<k→A=some ⟨g,o,none⟩ ∧ ∃ ad,X=some ad ∧ ∀ j v,cs[j]?=some v→w.cell? (ad.add j)=some v) (h1:∀ v∈cs,v.oneCell'=true)
 (h:∀ w',aI w' g e (lay gb o cs)→w.grownBy w' (some g)→SW P n ops (.fF Q) rest ((d,.int .i64 (k:Int))::L) w') :
 SW P n ops (.fF Q) (⟨some d,.call ⟨.builtin .copy,#[x,y],#[t,t]⟩,T,pos,af,none⟩::rest) L w :=
 ⟨fun a ha=>by
  obtain ⟨w',hr,h2,h3⟩:=vx (P:=P) (t:=t) T (c:=c) (c2:=c2) hk hlen hB jg kV h1;simp only [swp,wpList,Region.wanted,if_true];refine .inl ?_;unfold Oper.wp
  have:(execOp a.eval ⟨some d,.call ⟨.builtin .copy,#[x,y],#[t,t]⟩,T,pos,af,none⟩).run P w = .ok (.value (.int .i64 (k:Int))) w':=by
   simp [execOp,resolve,invoke,builtin,ha.eval hx,ha.eval hy,hr]
  rw [this,Oper.upon_value];exact (h w' h2 h3).out _ (ha.put hn _)⟩
theorem SW.clear {t e:TypeId} {z:Value} {sz bytes:Nat} [S:bw P t e sz] [E:dl P e z sz bytes] {x:Operand} {A:Option Addr} {m c g:Nat} (o:Nat) {gb:List Value} (hB:aI w g e gb) (hx:cd L x=some (.slice A m c)) (jg:o+m*sz≤gb.length) (kV : 0<m→A=some ⟨g,o,none⟩) (B0:∀ v∈z.cells.toList,v.oneCell'=true)
 (h:∀ w' cs,cs.length=m*sz→aI w' g e (lay gb o cs)→w.grownBy w' (some g)→SW P n ops (.fF Q) rest L w') :
 SW P n ops (.fF Q) (⟨none,.call ⟨.builtin .clear,#[x],#[t]⟩,T,pos,af,none⟩::rest) L w :=
 ⟨fun a ha=>by
  obtain ⟨w',cs,hr,h1,h2,h3⟩:=tZ (P:=P) (t:=t) T (c:=c) hB jg kV B0;simp only [swp,wpList,Region.wanted,if_true];refine .inl ?_;unfold Oper.wp
  have:(execOp a.eval ⟨none,.call ⟨.builtin .clear,#[x],#[t]⟩,T,pos,af,none⟩).run P w = .ok (.value (.tuple #[])) w':=by
   simp [execOp,resolve,invoke,builtin,ha.eval hx,hr]
  rw [this,Oper.upon_value];exact (h w' cs h1 h2 h3).out _ (ha.Cb _)⟩
theorem sb {t e:TypeId} {sz:Nat} [c:bw P t e sz] {x y u:Operand} {A:Option Addr} {m cap i j:Nat} (hx:cd L x=some (.slice A m cap)) (hy:cd L y=some (.int .i64 (i:Int))) (hu:cd L u=some (.int .i64 (j:Int))) (hi:i≤j) (hj:j≤cap) :
 St P ⟨d,.slice t x (some y) (some u) none,T,pos,af,g⟩ L w (.slice (if cap=i then A else A.map (·.add (i*sz))) (j-i) (cap-i)) :=
 ⟨fun _ a ha w' _=>by
  have e1:=ha.eval hx;have e2:=ha.eval hy;have e3:=ha.eval hu;generalize a.eval = ρ at *
  simp [execOp,e1,e2,e3,Instr.sliceAt,Instr.slice,Instr.sliceBounds,Instr.sliceBound,asIntOf,run_underlying c.ky,run_sizeOf c.size,hi,hj]⟩
theorem uG {t e:TypeId} {sz:Nat} [c:bw P t e sz] {x y u v:Operand} {A:Option Addr} {m cap i j k:Nat} (hx:cd L x=some (.slice A m cap)) (hy:cd L y=some (.int .i64 (i:Int))) (hu:cd L u=some (.int .i64 (j:Int))) (hv:cd L v=some (.int .i64 (k:Int))) (hi:i≤j) (hj:j≤k) (hk:k≤cap) :
 St P ⟨d,.slice t x (some y) (some u) (some v),T,pos,af,g⟩ L w (.slice (if k=i then A else A.map (·.add (i*sz))) (j-i) (k-i)) :=
 ⟨fun _ a ha w' _=>by
  have e1:=ha.eval hx;have e2:=ha.eval hy;have e3:=ha.eval hu;have e4:=ha.eval hv;generalize a.eval = ρ at *
  simp [execOp,e1,e2,e3,e4,Instr.sliceAt,Instr.slice,Instr.sliceBounds,Instr.sliceBound,asIntOf,run_underlying c.ky,run_sizeOf c.size,hi,hj,hk]⟩
end
section
variable {P:Program} {n:Nat} {ops:Array Oper} {Q:Exit→Act→World→Prop} {rest:List Oper} {L:Env} {w:World}
structure il (P:Program) (f:FuncId) (args:List Value) (w:World) (R:Value→World→Prop) : Prop where
 out:Calls P f args.toArray w fun e w' => ∃ v,e = .returned v∧R v w'
theorem SW.db {d:Nat} {f:FuncId} {xs:List Operand} {vs:List Value} {ts:Array TypeId} {T:TypeId} {pos:String} {af:Array Edge} {R:Value→World→Prop}
 [Body P f] (hx:pK L xs=some vs) (hn:Nat.blt d n=true) (hc:il P f vs w R) (h:∀ v w',R v w'→SW P n ops (.fF Q) rest ((d,v)::L) w') :
 SW P n ops (.fF Q) (⟨some d,.call ⟨.value (.func f),xs.toArray,ts⟩,T,pos,af,none⟩::rest) L w :=
 ⟨fun a ha=>by
  simp only [swp,wpList,Region.wanted,if_true];refine .inl ?_;unfold Oper.wp;rw [rS,Oper.upon_enter,ha.oM hx];refine Calls.mono hc.out ?_;rintro e w' ⟨v,rfl,hv⟩
  exact (h v w' hv).out _ (ha.put hn v)⟩
theorem dC {fn:Func} {f:FuncId} {c:Code} {args:List Value} {R:Value→World→Prop} (hf:P.funcs[f]?=some fn) (hb:fn.body=some c) (hn:fn.ntmps=n) (hl:Nat.ble args.length n=true)
 (h:CW P n c (bodyPost P fn fun e w' => ∃ v,e = .returned v∧R v w') (nu 0 args) w) : il P f args w R:=by
 have yr:args.length≤n:=by simpa using hl
 refine ⟨calls_of_wp hf hb (h.out _ ⟨?_,rfl,?_⟩)⟩
 ·simp [hn];omega
 ·intro i v hi;obtain ⟨_,h2⟩:=mH args 0 i v hi;simp only [Nat.sub_zero] at h2
  have c8:i<args.length:=by
   rcases Nat.lt_or_ge i args.length with h|h
   ·exact h
   ·rw [List.getElem?_eq_none h] at h2;cases h2
  rw [Array.getD_eq_getD_getElem?,Array.getElem?_append_left (by simpa using c8)];simp [h2]
theorem SW.entry {d:Nat} {f:FuncId} {fn:Func} {e:Array Value→Sem Value} {xs:List Operand} {vs:List Value} {v:Value} {ts:Array TypeId} {T:TypeId} {pos:String} {af:Array Edge}
 (hf : P.funcs[f]? = some fn) (H9 : (fn.name == "runtime.NumGoroutine") = false) (hb : fn.body.isNone = true) (Eo : Extern.findNext fn = none) (he : Extern.find fn = some e) (hx : pK L xs = some vs) (hn : Nat.blt d n = true)
 (hr:(e vs.toArray).run P w = .ok v w) (h:SW P n ops (.fF Q) rest ((d,v)::L) w) :
 SW P n ops (.fF Q) (⟨some d,.call ⟨.value (.func f),xs.toArray,ts⟩,T,pos,af,none⟩::rest) L w :=
 ⟨fun a ha=>by
  simp only [swp,wpList,Region.wanted,if_true];refine .inl ?_;unfold Oper.wp;have h1:=run_callFunc_extern (P:=P) hf H9 hb Eo he vs.toArray w
  have:(execOp a.eval ⟨some d,.call ⟨.value (.func f),xs.toArray,ts⟩,T,pos,af,none⟩).run P w = .ok (.value v) w:=by
   have e2:=ha.oM hx;simp only [execOp,resolve,Deferred.ofValue,Act.eval,Sem.run_bind,Result.andThen,invoke,List.map_toArray,e2];rw [hr] at h1;simpa [Result.andThen] using h1
  rw [this,Oper.upon_value];exact h.out _ (ha.put hn v)⟩
end
theorem Ext.gr {w w':World} (h:Ext w w') (row:Option Nat) : w.grownBy w' row:=⟨h.os,h.tape,h.output,h.size,fun k hk _=>h.block k hk⟩
theorem bP {w w1 w2:World} {row Gc:Option Nat} (h:w.grownBy w1 row) (k:w1.grownBy w2 Gc) (hr:Gc=row ∨ ∀ i,Gc=some i→w.heap.size≤i) : w.grownBy w2 row :=
 ⟨k.os.trans h.os,k.tape.trans h.tape,k.output.trans h.output,Nat.le_trans h.size k.size,fun i hi cG=>by
  have ol:i<w1.heap.size:=Nat.lt_of_lt_of_le hi h.size
  rcases hr with e|e
  ·subst e;rw [k.block i ol cG,h.block i hi cG]
  ·rw [k.block i ol (fun e'=>by have:=e i e'.symm;omega),h.block i hi cG]⟩
theorem SW.wS {α:Type} {P:Program} {n:Nat} {ops:Array Oper} {Q:Exit→Act→World→Prop} {rest:List Oper} {L:Env} {w:World} {dd:Nat} {T:TypeId} {pos:String} {af:Array Edge}
 {lo:Nat} {t e:TypeId} {z:Value} {sz bytes:Nat} {enc : α → List Value} {A X:Option Addr} {k c m c2:Nat} {l ys:List α} [S:bw P t e sz] [T':dl P e z sz bytes] [E:fO enc sz] {x y:Operand}
 (hO:Own w lo e sz enc A k c l) (hS:Sl w sz enc X m ys) (jz:k+m≤c) (hx:cd L x=some (.slice A k c)) (hy:cd L y=some (.slice X m c2)) (hn:Nat.blt dd n=true)
 (h:∀ w',Own w' lo e sz enc A (k+m) c (l++ys)→w.grownBy w' (aQ A c)→SW P n ops (.fF Q) rest ((dd,.slice A (k+m) c)::L) w') :
 SW P n ops (.fF Q) (⟨some dd,.call ⟨.builtin .append,#[x,y],#[t,t]⟩,T,pos,af,none⟩::rest) L w :=
 ⟨fun a ha=>by
  obtain ⟨i,hi,hz,hs,uC⟩:=dT P e (z:=z) (sz:=sz) (bytes:=bytes);have BX:(ys.flatMap enc).length=m*sz:=by rw [bc,hS.len]
  have nL:∀ u∈ys.flatMap enc,u.oneCell'=true:=fun u hu=>by
   obtain ⟨x,_,hx⟩:=List.mem_flatMap.1 hu;exact E.one x u hx
  have key:∃ w',(Builtin.append_ #[t,t] T #[.slice A k c,.slice X m c2]).run P w = .ok (.slice A (k+m) c) w'∧Own w' lo e sz enc A (k+m) c (l++ys)∧w.grownBy w' (aQ A c):=by
   by_cases tS:m=0
   ·subst tS;have M3:ys=[]:=List.eq_nil_of_length_eq_zero hS.len
    subst M3;refine ⟨w,?_,by simpa using hO,World.grownBy.refl _ _⟩;have ua:k≤c:=by omega
    cases A<;>cases X<;>simp [Builtin.append_,run_underlying S.ky,sizeOf,typeInfo,hi,Builtin.lenOf,ua,Builtin.firstCells,loadCells,loadCellsFrom,storeCells]
   ·obtain ⟨ad,rfl⟩:=Option.isSome_iff_exists.1 (hS.base (by omega));have oO:=dq T'.pos hS;obtain ⟨g,rest,rfl,h1,h2,h3,h4,h5,h6⟩:=hO.opened (by omega);have jg:(k+m)*sz≤c*sz:=Nat.mul_le_mul_right _ jz
    have oI:(l.flatMap enc).length=k*sz:=by rw [bc,hO.len]
    rw [Nat.add_mul] at jg;have hr:=run_append_room (P:=P) w t T e i S.ky hi g k c (l.flatMap enc++rest).toArray h2 ad m c2 (ys.flatMap enc) (by rw [hs];exact BX) oO nL jz (by rw [hs,BX];simp [oI];omega)
    have e1:(l.flatMap enc++rest).toArray.toList.take (k*i.size)++ys.flatMap enc++(l.flatMap enc++rest).toArray.toList.drop (k*i.size+(ys.flatMap enc).length)=(l++ys).flatMap enc++rest.drop (m*sz):=by
     rw [hs];have h7:=eW (l.flatMap enc) (rest.take (m*sz)) (rest.drop (m*sz)) (ys.flatMap enc) (by rw [BX];simp;omega) (o:=k*sz) oI.symm;rw [List.append_assoc (l.flatMap enc),List.take_append_drop] at h7;rw [List.flatMap_append];exact h7
    rw [e1] at hr;refine ⟨_,hr,?_,?_⟩
    ·exact Own.closed (by rw [List.length_append,hO.len,hS.len]) (eB h2).1 (by rw [Nat.add_mul];simp;omega) jz (by omega) h5 h1
    ·rw [h6];exact (eB h2).2
  obtain ⟨w',hr,h1,h2⟩:=key;simp only [swp,wpList,Region.wanted,if_true];refine .inl ?_;unfold Oper.wp
  have:(execOp a.eval ⟨some dd,.call ⟨.builtin .append,#[x,y],#[t,t]⟩,T,pos,af,none⟩).run P w = .ok (.value (.slice A (k+m) c)) w':=by
   simp [execOp,resolve,invoke,builtin,ha.eval hx,ha.eval hy,hr]
  rw [this,Oper.upon_value];exact (h w' h1 h2).out _ (ha.put hn _)⟩
theorem SW.vy {α:Type} {P:Program} {n:Nat} {ops:Array Oper} {Q:Exit→Act→World→Prop} {rest:List Oper} {L:Env} {w:World} {d:Nat} {T:TypeId} {pos:String} {af:Array Edge}
 {t tn e:TypeId} {z:Value} {sz bytes:Nat} {enc : α → List Value} {A:Option Addr} {m c k:Nat} {l:List α} {lk:IntKind} [S:bw P t e sz] [T':dl P e z sz bytes] [E:fO enc sz] {x y:Operand}
 {j:Int} (hS:Sl w sz enc A m l) (M4:P.underlying tn=some (.int lk)) (hx:cd L x=some (.slice A m c)) (hy:cd L y=some (.int .i64 j)) (hj:j=(k:Int)) (hn:Nat.blt d n=true) (hk : 0<k) (jz:c<m+k) (hb:(m+k)*bytes≤140737488355328) (hm:m+k≤9223372036854775807)
 (h:∀ g Fk c' w',Ext w w'→w.heap.size≤g→aI w' g e (l.flatMap enc++Fk)→m*sz+Fk.length=c'*sz→m+k≤c'→c'≤maxLen→SW P n ops (.fF Q) rest ((d,.slice (some ⟨g,0,none⟩) (m+k) c')::L) w') :
 SW P n ops (.fF Q) (⟨some d,.call ⟨.builtin .append,#[x,y],#[t,tn]⟩,T,pos,af,none⟩::rest) L w :=
 ⟨fun a ha=>by
  subst hj;obtain ⟨i,hi,hz,hs,uC⟩:=dT P e (z:=z) (sz:=sz) (bytes:=bytes);have hp:=T'.pos;have Gd:=dq hp hS;have hlen:(l.flatMap enc).length=m*sz:=by rw [bc,hS.len]
  have hold:(Builtin.firstCells i.size m (.slice A m c)).run P w.drew = .ok (l.flatMap enc).toArray w.drew:=by
   rw [hs];cases A with
   | none =>
     have h0:m=0:=by
      rcases Nat.eq_zero_or_pos m with h0|h0
      ·exact h0
      ·have:=hS.base h0;simp at this
     subst h0;have:l=[]:=List.eq_nil_of_length_eq_zero hS.len
     subst this;simp [Builtin.firstCells]
   | some ad =>
     simp only [Builtin.firstCells];rw [← hlen];exact run_loadCells_list (P:=P) w.drew ad _ (fun j v hv=>Gd j v hv)
  have Ge:=Room.nextslicecap_le' jz
  have jg:Builtin.nextslicecap (m+k) c*i.bytes≤281474976710656:=by
   rw [uC]
   calc Builtin.nextslicecap (m+k) c*bytes≤2*(m+k)*bytes:=Nat.mul_le_mul_right _ Ge
    _≤281474976710656:=by rw [Nat.mul_assoc];omega
  have M5:k*i.bytes≤281474976710656:=by
   rw [uC];have:k*bytes≤(m+k)*bytes:=Nat.mul_le_mul_right _ (by omega)
   omega
  have hr:=Lib.run_append_grow_zeros (P:=P) w t tn T e i z .i64 lk S.ky M4 hi hz A m c _ hold k hk (by rw [hs];exact hp) jz (by omega) M5 jg;simp only [swp,wpList,Region.wanted,if_true];refine .inl ?_;unfold Oper.wp
  have:(execOp a.eval ⟨some d,.call ⟨.builtin .append,#[x,y],#[t,tn]⟩,T,pos,af,none⟩).run P w = .ok (.value (.slice (some ⟨w.heap.size,0,none⟩) (m+k) (grownCap w (m+k) c e))) (w.drew.alloc (.cells ((l.flatMap enc).toArray++Builtin.zeroCells z.cells k++Builtin.zeroCells z.cells (grownCap w (m+k) c e-(m+k))) e)):=by
   simp [execOp,resolve,invoke,builtin,ha.eval hx,ha.eval hy,hr]
  rw [this,Oper.upon_value];have hg:=grownCap_ge w (m+k) c e;refine (h w.heap.size ((Builtin.zeroCells z.cells k).toList++(Builtin.zeroCells z.cells (grownCap w (m+k) c e-(m+k))).toList) _ _ (Ext.trans (Ext.drew w) (Ext.alloc _ _)) (Nat.le_refl _) ?_ ?_ hg (grownCap_le_maxLen w _ _ _ (by simp only [maxLen];omega))).out _ (ha.put hn _)
  ·have:=aI.new w.drew e (l.flatMap enc++((Builtin.zeroCells z.cells k).toList++(Builtin.zeroCells z.cells (grownCap w (m+k) c e-(m+k))).toList))
   have e1:(l.flatMap enc++((Builtin.zeroCells z.cells k).toList++(Builtin.zeroCells z.cells (grownCap w (m+k) c e-(m+k))).toList)).toArray=(l.flatMap enc).toArray++Builtin.zeroCells z.cells k++Builtin.zeroCells z.cells (grownCap w (m+k) c e-(m+k)):=by
    apply Array.ext';simp
   rw [e1] at this;exact this
  ·simp only [List.length_append,Array.length_toList,Go.size_zeroCells,T'.zc];rw [← Nat.add_mul,← Nat.add_mul];congr 1;omega⟩
open Go.RowKit
def nY (w w':World) (t:TypeId) : Prop := ∃ row,w.grownBy w' row ∧ ∀ k,row=some k → ∃ cs,w.heap[k]?=some (.cells cs t (0,0))
theorem Own.gr {α:Type} {w w':World} {lo:Nat} {e:TypeId} {sz:Nat} {enc : α → List Value} {A:Option Addr} {n c:Nat} {l:List α} (h:Own w lo e sz enc A n c l) (hg:w.grownBy w' (aQ A c)) : nY w w' e:=by
 refine ⟨_,hg,fun k hk => ?_⟩;rcases h.row with ⟨_,rfl⟩|⟨hc,g,gb,rfl,_,h2,_⟩
 ·simp [aQ] at hk
 ·simp [aQ,Nat.pos_iff_ne_zero.1 hc] at hk;subst hk;exact ⟨gb,h2⟩
theorem aI.gr {w w':World} {b:Nat} {t:TypeId} {cs:List Value} (h:aI w b t cs) (hg:w.grownBy w' (some b)) : nY w w' t:=⟨_,hg,fun k hk=>by cases hk;exact ⟨_,h⟩⟩
theorem Own.ay {α:Type} {w w':World} {t lo:Nat} {e:TypeId} {sz:Nat} {enc : α → List Value} {A:Option Addr} {n c:Nat} {l:List α} (h:Own w lo e sz enc A n c l) (hG:nY w w' t) (cG:Nat.beq t e=false) : Own w' lo e sz enc A n c l:=by
 obtain ⟨row,hg,hr⟩:=hG;refine h.grown hg ?_;rcases h.row with ⟨_,rfl⟩|⟨hc,g,gb,rfl,_,h2,_⟩
 ·simp [aQ]
 ·right;rintro rfl;obtain ⟨cs,h3⟩:=hr g (by simp [aQ,Nat.pos_iff_ne_zero.1 hc]);rw [h2] at h3;injection h3 with h3
  injection h3 with _ h _
  subst h;simp at cG
theorem aI.ay {w w':World} {b t:Nat} {t':TypeId} {cs:List Value} (h:aI w b t' cs) (hG:nY w w' t) (cG:Nat.beq t t'=false) : aI w' b t' cs:=by
 obtain ⟨row,hg,hr⟩:=hG;refine h.grown hg ?_;rintro rfl;obtain ⟨cs,h3⟩:=hr b rfl;unfold aI at h;rw [h] at h3;injection h3 with h3
 injection h3 with _ h _
 subst h;simp at cG
theorem Own.lt_size {α:Type} {w:World} {lo:Nat} {e:TypeId} {sz:Nat} {enc : α → List Value} {A:Option Addr} {n c:Nat} {l:List α} (h:Own w lo e sz enc A n c l) : ∀ k,aQ A c=some k→k<w.heap.size:=by
 intro k hk;rcases h.row with ⟨_,rfl⟩|⟨hc,g,gb,rfl,_,h2,_⟩
 ·simp [aQ] at hk
 ·simp [aQ,Nat.pos_iff_ne_zero.1 hc] at hk;subst hk;exact (Array.getElem?_eq_some_iff.1 h2).1
structure eH {α β:Type} (R : α → β → Prop) (xs:List α) (ys:List β) : Prop where
 len:xs.length=ys.length
 get:∀ (i:Nat) (h1:i<xs.length) (h2:i<ys.length),R xs[i] ys[i]
theorem eH.mono {α β:Type} {R R' : α → β → Prop} {xs:List α} {ys:List β} (h:eH R xs ys) (hm:∀ a b,R a b→R' a b) : eH R' xs ys:=⟨h.len,fun i h1 h2=>hm _ _ (h.get i h1 h2)⟩
theorem eH.nil {α β:Type} {R : α → β → Prop}:eH R ([] : List α) ([] : List β):=⟨rfl,fun i h1 h2=>by simp at h1⟩
theorem eH.snoc {α β:Type} {R : α → β → Prop} {xs:List α} {ys:List β} (h:eH R xs ys) {x : α} {y : β} (hr:R x y) : eH R (xs++[x]) (ys++[y]):=by
 refine ⟨by simp [h.len],fun i h1 h2 => ?_⟩;have hl:=h.len;by_cases hi:i<xs.length
 ·rw [List.getElem_append_left hi,List.getElem_append_left (by omega)];exact h.get i hi (by omega)
 ·have e:i=xs.length:=by simp at h1;omega
  subst e;simp [hl];exact hr
structure bO where
 dU:Int
 aq:Int
 Ty:Int
 aw:fR
def bp (r:bO) : List Value:=[.int .i64 r.dU,.int .i64 r.aq,.int .i64 r.Ty,r.aw.v]
instance:fO bp 4:=⟨fun _=>rfl,fun r u hu=>by simp [bp,fR.v] at hu;rcases hu with rfl|rfl|rfl|rfl<;>rfl⟩
structure eI where
 aN:fR
 bJ:fR
 bX:Int
 av:fR
 Live:fR
def bm (r:eI) : List Value:=[r.aN.v,r.bJ.v,.int .i64 r.bX,r.av.v,r.Live.v]
instance:fO bm 5:=⟨fun _=>rfl,fun r u hu=>by simp [bm,fR.v] at hu;rcases hu with rfl|rfl|rfl|rfl|rfl<;>rfl⟩
def eI.zero:eI:=⟨.nil,.nil,0,.nil,.nil⟩
def Heap.zero:Heap:=⟨[],[],0,[],[]⟩
structure Fl (w:World) (r:bO) (l:aA) : Prop where
 cpu:r.dU=l.dU
 fC:r.aq=l.aq
 ty:r.Ty=l.Ty
 cu:Sl w 1 bf r.aw.A r.aw.n l.aw
structure kA (w:World) (lo:Nat) (r:bO) (l:aA) : Prop where
 cpu:r.dU=l.dU
 fC:r.aq=l.aq
 ty:r.Ty=l.Ty
 cu:Own w lo 3 1 bf r.aw.A r.aw.n r.aw.c l.aw
theorem Fl.ext {w w':World} {r:bO} {l:aA} (h:Fl w r l) (hx:Ext w w') : Fl w' r l:=⟨h.cpu,h.fC,h.ty,h.cu.ext hx⟩
theorem kA.ext {w w':World} {lo:Nat} {r:bO} {l:aA} (h:kA w lo r l) (hx:Ext w w') : kA w' lo r l:=⟨h.cpu,h.fC,h.ty,h.cu.ext hx⟩
theorem kA.low {w:World} {lo nw:Nat} {r:bO} {l:aA} (h:kA w lo r l) (hl:nw≤lo) : kA w nw r l:=⟨h.cpu,h.fC,h.ty,h.cu.low hl⟩
theorem kA.rd {w:World} {lo:Nat} {r:bO} {l:aA} (h:kA w lo r l) : Fl w r l:=⟨h.cpu,h.fC,h.ty,h.cu.sl⟩
theorem kA.ay {w w':World} {t lo:Nat} {r:bO} {l:aA} (h:kA w lo r l) (hG:nY w w' t) (cG:Nat.beq t 3=false) : kA w' lo r l:=⟨h.cpu,h.fC,h.ty,h.cu.ay hG cG⟩
theorem fa.ay {w w':World} {t lo:Nat} {r:ct} {z:aq} (h:fa w lo r z) (hG:nY w w' t) (cG:(Nat.beq t 3 || Nat.beq t 77)=false) : fa w' lo r z:=by
 simp only [Bool.or_eq_false_iff] at cG;exact ⟨h.from_,h.ka,h.free.ay hG cG.2,h.types.ay hG cG.1⟩
structure yB (w:World) (s:fR) (zs:List ct) (l:List aq) : Prop where
 row:Sl w 4 bo s.A s.n zs
 each:eH (tY w) zs l
structure gj (w:World) (lo:Nat) (s:fR) (zs:List ct) (l:List aq) : Prop where
 row:Own w lo 59 4 bo s.A s.n s.c zs
 each:eH (fa w lo) zs l
structure sc (w:World) (s:fR) (ls:List bO) (l:List aA) : Prop where
 row:Sl w 4 bp s.A s.n ls
 each:eH (Fl w) ls l
structure cQ (w:World) (lo:Nat) (s:fR) (ls:List bO) (l:List aA) : Prop where
 row:Own w lo 62 4 bp s.A s.n s.c ls
 each:eH (kA w lo) ls l
section
variable {w w':World} {lo nw t:Nat} {s:fR} {zs:List ct} {z:List aq} {ls:List bO} {l:List aA}
theorem yB.ext (h:yB w s zs z) (hx:Ext w w') : yB w' s zs z:=⟨h.row.ext hx,h.each.mono fun _ _ h=>h.ext hx⟩
theorem sc.ext (h:sc w s ls l) (hx:Ext w w') : sc w' s ls l:=⟨h.row.ext hx,h.each.mono fun _ _ h=>h.ext hx⟩
theorem gj.ext (h:gj w lo s zs z) (hx:Ext w w') : gj w' lo s zs z:=⟨h.row.ext hx,h.each.mono fun _ _ h=>h.ext hx⟩
theorem cQ.ext (h:cQ w lo s ls l) (hx:Ext w w') : cQ w' lo s ls l:=⟨h.row.ext hx,h.each.mono fun _ _ h=>h.ext hx⟩
theorem gj.low (h:gj w lo s zs z) (hl:nw≤lo) : gj w nw s zs z:=⟨h.row.low hl,h.each.mono fun _ _ h=>h.low hl⟩
theorem cQ.low (h:cQ w lo s ls l) (hl:nw≤lo) : cQ w nw s ls l:=⟨h.row.low hl,h.each.mono fun _ _ h=>h.low hl⟩
theorem gj.rd (h:gj w lo s zs z) : yB w s zs z:=⟨h.row.sl,h.each.mono fun _ _ h=>h.rd⟩
theorem cQ.rd (h:cQ w lo s ls l) : sc w s ls l:=⟨h.row.sl,h.each.mono fun _ _ h=>h.rd⟩
theorem gj.ay (h:gj w lo s zs z) (hG:nY w w' t) (cG:(Nat.beq t 59 || (Nat.beq t 3 || Nat.beq t 77))=false) : gj w' lo s zs z:=by
 rw [Bool.or_eq_false_iff] at cG;exact ⟨h.row.ay hG cG.1,h.each.mono fun _ _ h=>h.ay hG cG.2⟩
theorem cQ.ay (h:cQ w lo s ls l) (hG:nY w w' t) (cG:(Nat.beq t 62 || Nat.beq t 3)=false) : cQ w' lo s ls l:=by
 rw [Bool.or_eq_false_iff] at cG;exact ⟨h.row.ay hG cG.1,h.each.mono fun _ _ h=>h.ay hG cG.2⟩
theorem gj.nil (w:World) (lo:Nat) : gj w lo .nil [] []:=⟨Own.dS _ _ _ _ _ _,.nil⟩
theorem cQ.nil (w:World) (lo:Nat) : cQ w lo .nil [] []:=⟨Own.dS _ _ _ _ _ _,.nil⟩
theorem yB.len (h:yB w s zs z) : zs.length=s.n∧z.length=s.n:=⟨h.row.len,by rw [← h.each.len,h.row.len]⟩
theorem sc.len (h:sc w s ls l) : ls.length=s.n∧l.length=s.n:=⟨h.row.len,by rw [← h.each.len,h.row.len]⟩
end
structure wH (w:World) (r:eI) (h:Heap) : Prop where
 er:r.bX=h.bX
 cn:Sl w 1 bf r.bJ.A r.bJ.n h.bJ
 live:Sl w 3 az r.Live.A r.Live.n h.Live
 cx:∃ zs,yB w r.aN zs h.aN
 lists:∃ ls,sc w r.av ls h.av
structure iU (w:World) (lo:Nat) (r:eI) (h:Heap) : Prop where
 er:r.bX=h.bX
 cn:Own w lo 3 1 bf r.bJ.A r.bJ.n r.bJ.c h.bJ
 live:Own w lo 77 3 az r.Live.A r.Live.n r.Live.c h.Live
 cx:∃ zs,gj w lo r.aN zs h.aN
 lists:∃ ls,cQ w lo r.av ls h.av
section
variable {w w':World} {lo nw t:Nat} {r:eI} {h:Heap}
theorem wH.ext (a:wH w r h) (hx:Ext w w') : wH w' r h:=by
 obtain ⟨zs,hz⟩:=a.cx;obtain ⟨ls,hl⟩:=a.lists;exact ⟨a.er,a.cn.ext hx,a.live.ext hx,⟨zs,hz.ext hx⟩,⟨ls,hl.ext hx⟩⟩
theorem iU.ext (a:iU w lo r h) (hx:Ext w w') : iU w' lo r h:=by
 obtain ⟨zs,hz⟩:=a.cx;obtain ⟨ls,hl⟩:=a.lists;exact ⟨a.er,a.cn.ext hx,a.live.ext hx,⟨zs,hz.ext hx⟩,⟨ls,hl.ext hx⟩⟩
theorem iU.low (a:iU w lo r h) (yr:nw≤lo) : iU w nw r h:=by
 obtain ⟨zs,hz⟩:=a.cx;obtain ⟨ls,hl⟩:=a.lists;exact ⟨a.er,a.cn.low yr,a.live.low yr,⟨zs,hz.low yr⟩,⟨ls,hl.low yr⟩⟩
theorem iU.rd (a:iU w lo r h) : wH w r h:=by
 obtain ⟨zs,hz⟩:=a.cx;obtain ⟨ls,hl⟩:=a.lists;exact ⟨a.er,a.cn.sl,a.live.sl,⟨zs,hz.rd⟩,⟨ls,hl.rd⟩⟩
theorem iU.ay (a:iU w lo r h) (hG:nY w w' t) (cG:(Nat.beq t 3 || (Nat.beq t 77 || (Nat.beq t 59 || Nat.beq t 62)))=false) : iU w' lo r h:=by
 obtain ⟨zs,hz⟩:=a.cx;obtain ⟨ls,hl⟩:=a.lists;simp only [Bool.or_eq_false_iff] at cG;obtain ⟨h1,h2,h3,h4⟩:=cG;exact ⟨a.er,a.cn.ay hG h1,a.live.ay hG h2,⟨zs,hz.ay hG (by simp [h1,h2,h3])⟩,⟨ls,hl.ay hG (by simp [h1,h4])⟩⟩
theorem iU.zero (w:World) (lo:Nat) : iU w lo .zero .zero:=⟨rfl,Own.dS _ _ _ _ _ _,Own.dS _ _ _ _ _ _,⟨[],.nil _ _⟩,⟨[],.nil _ _⟩⟩
end
structure Heap.small (h:Heap) : Prop where
 cx:h.aN.length*64≤140737488355328
 cn:h.bJ.length*8≤140737488355328
 lists:h.av.length*48≤140737488355328
 live:h.Live.length*24≤140737488355328
 free:∀ z∈h.aN,z.ag.length*24≤140737488355328∧z.Types.length*8≤140737488355328
 cu:∀ l∈h.av,l.aw.length*8≤140737488355328
end Go.Proofs.YtjimadiidbkohaaGreatDoor
