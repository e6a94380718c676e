/-
  Texts of the claim SlabAllocs, part 4: what its theorem leans on.
-/
import Derived.Test.YtjimadiidbkohaaGreatDoorPackSlabAllocs3
import Derived.Test.YtjimadiidbkohaaGreatDoorPackSlabAllocs2
import Derived.Test.YtjimadiidbkohaaGreatDoorPackSlabAllocs1
import Derived.Lib.AppendZerosOnto
import Derived.Lib.Overlaps
import Derived.Room.Entries
set_option linter.unusedVariables false
set_option linter.unusedSimpArgs false
namespace Go.Proofs.YtjimadiidbkohaaGreatDoor
open Go.RowKit
def zw (f:Int) (l:List Block) : Nat→Int
 | 0=>f
 | k+1=>match l[k]? with
   | some b=>b.At+pw b.Order
   | none=>0
theorem n7 (f:Int) (l:List Block) (k:Nat) (h:k<l.length) : zw f l (k+1)=l[k].At+pw l[k].Order:=by simp [zw,List.getElem?_eq_getElem h]
set_option maxHeartbeats 4000000 in
theorem ky (r:cq) (z:aq) (w:World) (hr:tN w r z) (hf:r.ag.n≤2305843009213693952) (ht:r.Types.n≤1000000000000000000) (h1 : -9223372036854775808≤r.aW∧r.aW≤9223372036854775807) (h2 : -9223372036854775808≤r.To∧r.To≤9223372036854775807) :
 bt Tryz.prog 78 [.agg (bo r).toArray] w fun v _=>v = .bool (dZ z):=by
 refine aL Tryz.func78 rfl Tryz.ntmps78 rfl ?_;refine CW.seq (CW.region (SW.box rfl rfl fun b1 w1 hw gK aA => ?_));have eF:=hr.from_;have eT:=hr.jZ;have BW:=hr.free.len;have G5:=hr.types.len;refine Wz ?_;refine SW.call rfl rfl (wm r.aW r.To _ h1 h2) fun v w2 cw hv => ?_
 (replace hw:=Ext.trans hw cw;replace aA:=aA.ext cw);by_cases jc:jt r.aW r.To
 ·rw [lJ jc] at hv;obtain ⟨s,rfl,hs⟩:=hv;obtain ⟨o1,o2,o3,o4,o5⟩:=id jc;by_cases HC : 8*(z.Types.length:Int)=z.To-z.aW
  ·refine Wz ?_;refine SW.alloc rfl fun b3 w1 ab bK ar => ?_
   have cn:w.heap.size≤b3:=Nat.le_trans hw.size bK
   have j2:b1≠b3:=by have:=aA.lt;omega
   replace hw:=Ext.trans hw ab;replace aA:=aA.ext ab;replace hs:=hs.ext ab;refine SW.ap ar rfl rfl rfl rfl (ct _) fun w2 cS hg => ?_
   replace hw:=hw.own cn hg;replace hs:=hs.cU ar hg rfl rfl;replace aA:=aA.grown hg (by simpa using j2);replace ar:=cS;clear cS ab hg bK;refine Wz ?_
   refine CW.loop (fun k:Nat=>[(1,.pointer (some ⟨b1,0,none⟩)),(5,.int .i64 (k:Int))]) (fun k w'=>k≤r.Types.n∧Ext w w'∧aJ w' b1 59 (bo r) ∧ ∀ (j:Nat) (hj:j<z.Types.length),j<k→fi z.Types[j]) (fun k=>r.Types.n-k) 0
    ⟨rfl,rfl,trivial⟩ ⟨by omega,hw,aA,fun j _ h=>by omega⟩ ?_
   clear hw aA ar hs;rintro k w' ⟨hk,hw,aA,hI⟩
   have hA:=hr.types.base;by_cases bY:k<r.Types.n
   ·have de:=hr.types.lt bY;by_cases nn:fi (z.Types[k])
    ·obtain ⟨t1,t2⟩:=id nn;repeat' (first|refine Wz ?_|refine SW.st (ao hw rfl (hr.types.one bY rfl)) rfl ?_|(refine SW.call rfl rfl (bM _ _ _ _) ?_;intro v w1 ab hv;subst hv;replace hw:=Ext.trans hw ab;replace aA:=aA.ext ab;clear ab))
     all_goals try omega
     refine ae.again (k+1) ⟨rfl,rfl,trivial⟩ (by omega) ⟨by omega,hw,aA,fun j hj h => ?_⟩;by_cases k7:j=k
     ·subst k7;exact nn
     ·exact hI j hj (by omega)
    ·have hn : ¬ (0≤z.Types[k]∧z.Types[k]≤2):=nn
     repeat' (first|refine Wz ?_|refine SW.st (ao hw rfl (hr.types.one bY rfl)) rfl ?_|(refine SW.call rfl rfl (bM _ _ _ _) ?_;intro v w1 ab hv;subst hv;replace hw:=Ext.trans hw ab;replace aA:=aA.ext ab;clear ab))
     all_goals try omega
     refine ae.aN rfl rfl ⟨_,rfl,hw,?_⟩;rw [gf (fun h=>nn (h.types _ (List.getElem_mem de)))]
   ·have nn:∀ t∈z.Types,fi t:=fun t BX=>by
     obtain ⟨j,hj,rfl⟩:=List.getElem_of_mem BX;exact hI j hj (by omega)
    clear hI hA;refine Wz ?_
    refine CW.loop (fun k:Nat=>[(1,.pointer (some ⟨b1,0,none⟩)),(6,.int .i64 (zw z.aW z.ag k)),(7,.int .i64 (k:Int))])
     (fun k w'=>k≤r.ag.n∧Ext w w'∧aJ w' b1 59 (bo r)∧(∀ (i:Nat) (h:i<z.ag.length),i<k→dB z.aW z.To z.ag[i])∧(∀ (i:Nat) (h:i+1<z.ag.length),i+1<k→gI z.ag[i] z.ag[i+1]))
     (fun k=>r.ag.n-k) 0 ⟨rfl,by rw [eF];rfl,rfl,trivial⟩ ⟨by omega,hw,aA,fun i h hi=>by omega,fun i h hi=>by omega⟩ ?_
    clear hw aA hk bY;rintro k w' ⟨hk,hw,aA,hI,hN⟩
    have hA:=hr.free.base;by_cases bY:k<r.ag.n
    ·have de:=hr.free.lt bY
     have cM:∀ w',bt Tryz.prog 111 [.agg (bo r).toArray,.int .i64 (z.ag[k]).At,.int .i64 (z.ag[k]).Order] w' fun v _=>v = .bool (decide (eU z.aW z.To (z.ag[k]).At (z.ag[k]).Order)):=fun w'=>by
      have:=oN r (z.ag[k]).At (z.ag[k]).Order w' ⟨by omega,by omega⟩ ⟨by omega,by omega⟩
      rwa [eF,eT] at this
     repeat' (first|refine Wz ?_|refine SW.st (aH hw rfl rfl ((hr.free.all bY))) rfl ?_)
     refine SW.alloc rfl fun b7 w3 jQ lc jS => ?_
     have qS:w.heap.size≤b7:=Nat.le_trans hw.size lc
     have cG:b1≠b7:=by have:=aA.lt;omega
     (replace hw:=Ext.trans hw jQ;replace aA:=aA.ext jQ);skip;refine SW.ap jS rfl rfl rfl rfl (fB.one (enc:=az) _) fun w4 dF hg => ?_
     replace hw:=hw.own qS hg;replace aA:=aA.grown hg (by simpa using cG);by_cases mG:dB z.aW z.To z.ag[k]
     ·obtain ⟨Ab,t1,t2⟩:=id mG;obtain ⟨f1,f2,f3,f4,f5⟩:=id Ab;have hp:=bG f1 f2;have JJ:=ja f1 f2;rw [decide_eq_true Ab] at cM;by_cases pJ:k=0
      ·subst pJ;have FL:zw z.aW z.ag 0=z.aW:=rfl
       repeat' (first|refine Wz ?_|((apply CW.aO mixed;(· kernel_rfl);rotate_left;intro w1 ab;replace hw:=Ext.trans hw ab;replace aA:=aA.ext ab;replace dF:=dF.ext ab;clear ab;rotate_right))|refine SW.want rfl rfl ?_|((first|refine SW.call rfl rfl (cM _) ?_|refine SW.call rfl rfl (bM _ _ _ _) ?_);intro v w1 ab hv;subst hv;replace hw:=Ext.trans hw ab;replace aA:=aA.ext ab;replace dF:=dF.ext ab;clear ab)|refine SW.bq rfl rfl (fun w1 ab=>(dc _ (by omega) _)) ?_|exact SW.bx rfl)
       all_goals try omega
       refine ae.again (0+1) ⟨rfl,by rw [n7 _ _ _ de];rfl,rfl,trivial⟩ (by omega) ⟨by omega,hw,aA,fun i h hi => ?_,fun i h hi=>by omega⟩;obtain rfl:i=0:=by omega
       exact mG
      ·obtain ⟨j,rfl⟩ : ∃ j,k=j+1:=⟨k-1,by omega⟩;have hj:j<r.ag.n:=by omega
       have kO:=hr.free.lt hj;have HD:=hI j kO (by omega);obtain ⟨⟨g1,g2,g3,g4,g5⟩,_⟩:=id HD;have FL:=n7 z.aW z.ag j kO;have em:(z.ag[j]).At.tmod (pw ((z.ag[j+1]).Order+1))=(z.ag[j]).At % (pw ((z.ag[j+1]).Order+1)):=Int.tmod_eq_emod_of_nonneg (by omega)
       by_cases c9:(z.ag[j]).At+pw (z.ag[j]).Order≤(z.ag[j+1]).At
       ·have Je:=BU HD mG c9;by_cases BY:(z.ag[j+1]).Order<4∧(z.ag[j]).Order=(z.ag[j+1]).Order∧(z.ag[j]).At+pw (z.ag[j+1]).Order=(z.ag[j+1]).At∧(z.ag[j]).At % pw ((z.ag[j+1]).Order+1)=0
        ·have nC:=Je.2 BY;obtain ⟨u1,u2,u3,u4⟩:=id BY;clear Je;repeat' (first|refine Wz ?_|((apply CW.aO mixed;(· kernel_rfl);rotate_left;intro w1 ab;replace hw:=Ext.trans hw ab;replace aA:=aA.ext ab;replace dF:=dF.ext ab;clear ab;rotate_right))|refine SW.st (aY (j) rfl rfl (by assumption) (by omega) (by omega)) rfl ?_|refine SW.st (ao hw rfl (hr.free.dv hj rfl)) rfl ?_|((first|refine SW.call rfl rfl (cM _) ?_|refine SW.call rfl rfl (bM _ _ _ _) ?_);intro v w1 ab hv;subst hv;replace hw:=Ext.trans hw ab;replace aA:=aA.ext ab;replace dF:=dF.ext ab;clear ab)|refine SW.bq rfl rfl (fun w1 ab=>(dc _ (by omega) _)) ?_|exact SW.bx rfl)
         all_goals try omega
         refine ae.aN rfl rfl ⟨_,rfl,hw,?_⟩;rw [gf (fun h=>(h.next j de).2 nC)]
        ·have JK:gI z.ag[j] z.ag[j+1]:=⟨c9,fun h=>BY (Je.1 h)⟩
         have hd:(¬ (z.ag[j+1]).Order<4)∨((z.ag[j+1]).Order<4 ∧ ¬ (z.ag[j]).Order=(z.ag[j+1]).Order)∨((z.ag[j+1]).Order<4∧(z.ag[j]).Order=(z.ag[j+1]).Order ∧ ¬ (z.ag[j]).At+pw (z.ag[j+1]).Order=(z.ag[j+1]).At) ∨
          ((z.ag[j+1]).Order<4∧(z.ag[j]).Order=(z.ag[j+1]).Order∧(z.ag[j]).At+pw (z.ag[j+1]).Order=(z.ag[j+1]).At ∧ ¬ (z.ag[j]).At % pw ((z.ag[j+1]).Order+1)=0):=by
          by_cases u1:(z.ag[j+1]).Order<4
          ·by_cases u2:(z.ag[j]).Order=(z.ag[j+1]).Order
           ·by_cases u3:(z.ag[j]).At+pw (z.ag[j+1]).Order=(z.ag[j+1]).At
            ·exact .inr (.inr (.inr ⟨u1,u2,u3,fun u4=>BY ⟨u1,u2,u3,u4⟩⟩))
            ·exact .inr (.inr (.inl ⟨u1,u2,u3⟩))
           ·exact .inr (.inl ⟨u1,u2⟩)
          ·exact .inl u1
         clear Je
         have jF:∀ (i:Nat) (h:i+1<z.ag.length),i+1<j+1+1→gI z.ag[i] z.ag[i+1]:=fun i h hi=>by
          by_cases kP:i=j
          ·subst kP;exact JK
          ·exact hN i h (by omega)
         have JL:∀ (i:Nat) (h:i<z.ag.length),i<j+1+1→dB z.aW z.To z.ag[i]:=fun i h hi=>by
          by_cases kP:i=j+1
          ·subst kP;exact mG
          ·exact hI i h (by omega)
         rcases hd with u1|⟨u1,u2⟩|⟨u1,u2,u3⟩|⟨u1,u2,u3,u4⟩
         all_goals
          repeat' (first|refine Wz ?_|((apply CW.aO mixed;(· kernel_rfl);rotate_left;intro w1 ab;replace hw:=Ext.trans hw ab;replace aA:=aA.ext ab;replace dF:=dF.ext ab;clear ab;rotate_right))|refine SW.want rfl rfl ?_|refine SW.st (aY (j) rfl rfl (by assumption) (by omega) (by omega)) rfl ?_|refine SW.st (ao hw rfl (hr.free.dv hj rfl)) rfl ?_|((first|refine SW.call rfl rfl (cM _) ?_|refine SW.call rfl rfl (bM _ _ _ _) ?_);intro v w1 ab hv;subst hv;replace hw:=Ext.trans hw ab;replace aA:=aA.ext ab;replace dF:=dF.ext ab;clear ab)|refine SW.bq rfl rfl (fun w1 ab=>(dc _ (by omega) _)) ?_|exact SW.bx rfl)
          all_goals try omega
          exact ae.again (j+1+1) ⟨rfl,by rw [n7 _ _ _ de];rfl,rfl,trivial⟩ (by omega) ⟨by omega,hw,aA,JL,jF⟩
       ·repeat' (first|refine Wz ?_|refine SW.want rfl rfl ?_|((first|refine SW.call rfl rfl (cM _) ?_|refine SW.call rfl rfl (bM _ _ _ _) ?_);intro v w1 ab hv;subst hv;replace hw:=Ext.trans hw ab;replace aA:=aA.ext ab;replace dF:=dF.ext ab;clear ab))
        all_goals try omega
        refine ae.aN rfl rfl ⟨_,rfl,hw,?_⟩;rw [gf (fun h=>c9 (h.next j de).1)]
     ·have wo:dZ z=false:=gf (fun h=>mG (h.cU k de))
      by_cases Ab:eU z.aW z.To (z.ag[k]).At (z.ag[k]).Order
      ·have qT : ¬ (0≤(z.ag[k]).Ty∧(z.ag[k]).Ty≤2):=fun h=>mG ⟨Ab,h⟩
       rw [decide_eq_true Ab] at cM;repeat' (first|refine Wz ?_|refine SW.want rfl rfl ?_|((first|refine SW.call rfl rfl (cM _) ?_|refine SW.call rfl rfl (bM _ _ _ _) ?_);intro v w1 ab hv;subst hv;replace hw:=Ext.trans hw ab;replace aA:=aA.ext ab;replace dF:=dF.ext ab;clear ab))
       all_goals try omega
       exact ae.aN rfl rfl ⟨_,rfl,hw,by rw [wo]⟩
      ·rw [decide_eq_false Ab] at cM;repeat' (first|refine Wz ?_|refine SW.skip rfl rfl rfl rfl ?_|(refine SW.call rfl rfl (cM _) ?_;intro v w1 ab hv;subst hv;replace hw:=Ext.trans hw ab;replace aA:=aA.ext ab;replace dF:=dF.ext ab;clear ab))
       exact ae.aN rfl rfl ⟨_,rfl,hw,by rw [wo]⟩
    ·refine Wz ?_;refine ae.aN rfl rfl ⟨_,rfl,hw,?_⟩;rw [rp ⟨by rw [← eF,← eT];exact jc,HC,nn,fun i h=>hI i h (by omega),fun i h=>hN i h (by omega)⟩]
  ·refine Wz ?_;refine SW.alloc rfl fun b3 w1 ab bK ar => ?_
   have cn:w.heap.size≤b3:=Nat.le_trans hw.size bK
   have j2:b1≠b3:=by have:=aA.lt;omega
   replace hw:=Ext.trans hw ab;replace aA:=aA.ext ab;replace hs:=hs.ext ab;refine SW.ap ar rfl rfl rfl rfl (ct _) fun w2 cS hg => ?_
   replace hw:=hw.own cn hg;replace hs:=hs.cU ar hg rfl rfl;replace aA:=aA.grown hg (by simpa using j2);replace ar:=cS;clear cS ab hg bK;refine Wz ?_;refine ae.aN rfl rfl ⟨_,rfl,hw,?_⟩;rw [gf (fun h=>HC h.len)]
 ·rw [lI jc] at hv;obtain ⟨s,rfl,hs⟩:=hv;refine Wz ?_;refine SW.alloc rfl fun b3 w1 ab bK ar => ?_
  have cn:w.heap.size≤b3:=Nat.le_trans hw.size bK
  have j2:b1≠b3:=by have:=aA.lt;omega
  replace hw:=Ext.trans hw ab;replace aA:=aA.ext ab;replace hs:=hs.ext ab;refine SW.ap ar rfl rfl rfl rfl (ct _) fun w2 cS hg => ?_
  replace hw:=hw.own cn hg;replace hs:=hs.cU ar hg rfl rfl;replace aA:=aA.grown hg (by simpa using j2);replace ar:=cS;clear cS ab hg bK;refine Wz ?_;refine ae.aN rfl rfl ⟨_,rfl,hw,?_⟩;rw [gf (fun h=>jc (by rw [eF,eT];exact h.ok))]
def qU (a o:Int) (b:Block) : Bool:=decide (b.At=a) && decide (b.Order=o)
def c8 (l:List Block) (a o:Int) : List Block:=l.filter fun b => !qU a o b
def g7:Nat→List Block→Int→Int→List Block×Int×Int
 | 0,l,a,o=>(l,a,o)
 | f+1,l,a,o=>if o<4 then (if l.any (qU (beside a o) o) then g7 f (c8 l (beside a o) o) (min a (beside a o)) (o+1) else (l,a,o)) else (l,a,o)
def bE (l:List Block) (a:Int) : Nat:=l.findIdx fun b=>decide (a≤b.At)
def aV {α:Type} (l:List α) (i:Nat) (b : α) : List α := l.take i++[b]++l.drop i
def eX (l:List Block) (a o:Int) : Bool:=l.any fun x=>decide (x.At<a+pw o) && decide (a<x.At+pw x.Order)
def nD (l:List Block) : Prop:=l.Pairwise fun x y=>x.At+pw x.Order≤y.At
structure ve (f t:Int) (l:List Block) (a o:Int) : Prop where
 nD:nD l
 cU:∀ b∈l,dB f t b
 fit:eU f t a o
 Bx:∀ b∈l,b.At+pw b.Order≤a∨a+pw o≤b.At
theorem fk {l:List Block} (h:nD l) {i j:Nat} (hj:j<l.length) (kP:i<j) : (l[i]'(by omega)).At+pw (l[i]'(by omega)).Order≤l[j].At:=by
 unfold nD at h;rw [List.pairwise_iff_getElem] at h;exact h i j (by omega) hj kP
theorem ld {z:aq} (h:bR z) : nD z.ag:=by
 have key:∀ (d i:Nat) (hj:i+d+1<z.ag.length),(z.ag[i]'(by omega)).At+pw (z.ag[i]'(by omega)).Order≤z.ag[i+d+1].At:=by
  intro d;induction d with
  | zero=>intro i hj;exact (h.next i hj).1
  | succ d ih =>
    intro i hj;have h1:=ih i (by omega);have h2:=(h.next (i+d+1) (by omega)).1;have hb:=(h.cU (i+d+1) (by omega)).1;have:=bG hb.1 hb.2.1
    have e:z.ag[i+(d+1)+1]=z.ag[i+d+1+1]'(by omega):=rfl
    rw [e];omega
 unfold nD;rw [List.pairwise_iff_getElem];intro i j hi hj kP;have:=key (j-i-1) i (by omega)
 have e:i+(j-i-1)+1=j:=by omega
 simp only [e] at this;exact this
theorem BZ {f t:Int} {l:List Block} (h:nD l) (hb:∀ b∈l,dB f t b) {x y:Block} (hx:x∈l) (hy:y∈l) : x=y∨x.At+pw x.Order≤y.At∨y.At+pw y.Order≤x.At:=by
 obtain ⟨i,hi,rfl⟩:=List.getElem_of_mem hx;obtain ⟨j,hj,rfl⟩:=List.getElem_of_mem hy;rcases Nat.lt_trichotomy i j with h1|h1|h1
 ·exact .inr (.inl (fk h hj h1))
 ·subst h1;exact .inl rfl
 ·exact .inr (.inr (fk h hi h1))
theorem FM {f t:Int} {l:List Block} (h:nD l) (hb:∀ b∈l,dB f t b) {i j:Nat} (hi:i<l.length) (hj:j<l.length) (e:l[i].At=l[j].At) : i=j:=by
 have p1:=hb _ (List.getElem_mem hi);have p2:=hb _ (List.getElem_mem hj);have q1:=bG p1.1.1 p1.1.2.1;have q2:=bG p2.1.1 p2.1.2.1;rcases Nat.lt_trichotomy i j with h1|h1|h1
 ·have:=fk h hj h1;omega
 ·exact h1
 ·have:=fk h hi h1;omega
theorem n8 {a o:Int} (h : 0≤a) (h0 : 0≤o) (h4:o<4) (hm:a % pw o=0) : (min a (beside a o)) % pw (o+1)=0∧(beside a o=a+pw o∨beside a o=a-pw o)∧(beside a o) % pw o=0:=by
 rw [ja h0 (by omega)];unfold beside;have hp:=eg h0 (show o≤4 by omega);generalize pw o=q at *
 rcases hp with ⟨e,rfl⟩|⟨e,rfl⟩|⟨e,rfl⟩|⟨e,rfl⟩|⟨e,rfl⟩<;>split<;>omega
theorem gD {a o:Int} {b:Block}:qU a o b=true↔b.At=a∧b.Order=o:=by simp [qU]
theorem ve.step {f t:Int} {l:List Block} {a o:Int} (h:ve f t l a o) (h0 : 0≤f) (ho:o<4) (dS:l.any (qU (beside a o) o)=true) : ve f t (c8 l (beside a o) o) (min a (beside a o)) (o+1):=by
 obtain ⟨b,hb,hi⟩:=List.any_eq_true.1 dS;obtain ⟨e1,e2⟩:=gD.1 hi;obtain ⟨f1,f2,f3,f4,f5⟩:=h.fit;obtain ⟨g1,g2,g3,g4,g5⟩:=(h.cU b hb).1;obtain ⟨k1,k2,k3⟩:=n8 (by omega) f1 ho f5;have hp:=ja f1 f2;have EU:=bG f1 f2;refine ⟨h.nD.sublist List.filter_sublist,fun x hx=>h.cU x ((List.mem_filter.1 hx).1),⟨by omega,by omega,by omega,by omega,k1⟩,fun x hx => ?_⟩;have kz:=(List.mem_filter.1 hx).1
 have Lr:qU (beside a o) o x=false:=by
  have:=(List.mem_filter.1 hx).2
  simpa using this
 have hd:=h.Bx x kz;have Ok:=bG (h.cU x kz).1.1 (h.cU x kz).1.2.1;rcases BZ h.nD h.cU hb kz with e|e|e
 ·subst e;rw [hi] at Lr;cases Lr
 ·rw [hp];rw [e2] at e;omega
 ·rw [hp];omega
theorem zx {l:List Block} {a:Int} {i:Nat} (hi:i≤l.length) (h1:∀ (k:Nat) (h:k<l.length),k<i→l[k].At<a) (h2:∀ h:i<l.length,a≤l[i].At) : bE l a=i:=by
 unfold bE;by_cases h:i<l.length
 ·exact (List.findIdx_eq h).2 ⟨by simpa using h2 h,fun j hj=>by simpa using h1 j (by omega) hj⟩
 ·have e:i=l.length:=by omega
  subst e;rw [List.findIdx_eq_length];intro x hx;obtain ⟨k,hk,rfl⟩:=List.getElem_of_mem hx;simpa using h1 k hk hk
theorem zy (l:List Block) (a:Int) : bE l a≤l.length:=List.findIdx_le_length
theorem mH {l:List Block} {a:Int} {k:Nat} (hk:k<bE l a) : (l[k]'(Nat.lt_of_lt_of_le hk (zy l a))).At<a:=by
 have:=List.not_of_lt_findIdx hk
 simpa using this
theorem zz {l:List Block} {a:Int} (h:bE l a<l.length) : a≤(l[bE l a]).At:=by
 have:=List.findIdx_getElem (w:=h)
 exact of_decide_eq_true this
def pK (l:List Block) (a o:Int) : Bool:=if h:bE l a<l.length then decide ((l[bE l a]).At=a∧(l[bE l a]).Order=o) else false
theorem Ac {f t:Int} {l:List Block} (hu:nD l) (hb:∀ b∈l,dB f t b) (a o:Int) : l.any (qU a o)=pK l a o:=by
 unfold pK;by_cases h:bE l a<l.length
 ·rw [dif_pos h];by_cases hh:(l[bE l a]).At=a∧(l[bE l a]).Order=o
  ·rw [decide_eq_true hh];exact List.any_eq_true.2 ⟨_,List.getElem_mem h,gD.2 hh⟩
  ·rw [decide_eq_false hh,List.any_eq_false];intro x hx hi;obtain ⟨e1,e2⟩:=gD.1 hi;obtain ⟨j,hj,rfl⟩:=List.getElem_of_mem hx;have h1:=zz h;rcases Nat.lt_trichotomy j (bE l a) with c9|c9|c9
   ·have:=mH c9;omega
   ·subst c9;exact hh ⟨e1,e2⟩
   ·have:=fk hu hj c9
    have hp:=hb _ (List.getElem_mem h);have:=bG hp.1.1 hp.1.2.1
    omega
 ·rw [dif_neg h,List.any_eq_false];intro x hx hi;obtain ⟨e1,e2⟩:=gD.1 hi;obtain ⟨j,hj,rfl⟩:=List.getElem_of_mem hx;have:=mH (show j<bE l a by omega)
  omega
theorem nQ {f t:Int} {l:List Block} (hu:nD l) (hb:∀ b∈l,dB f t b) {a o:Int} {i:Nat} (hi:i<l.length) (h1:l[i].At=a) (h2:l[i].Order=o) : l.eraseIdx i=c8 l a o:=by
 have cG:∀ (j:Nat) (hj:j<l.length),j≠i→qU a o l[j]=false:=fun j hj iI=>by
  cases hh:qU a o l[j] with
  | false=>rfl
  | true =>
    obtain ⟨e1,e2⟩:=gD.1 hh;exact absurd (FM hu hb hj hi (by omega)) iI
 have e:l=l.take i++l[i]::l.drop (i+1):=by simp
 have hL:∀ x∈l.take i,qU a o x=false:=fun x hx=>by
  obtain ⟨j,hj,rfl⟩:=List.getElem_of_mem hx;simp at hj;rw [List.getElem_take];exact cG j (by omega) (by omega)
 have hR:∀ x∈l.drop (i+1),qU a o x=false:=fun x hx=>by
  obtain ⟨j,hj,rfl⟩:=List.getElem_of_mem hx;simp at hj;rw [List.getElem_drop];exact cG _ (by omega) (by omega)
 have hm:qU a o l[i]=true:=gD.2 ⟨h1,h2⟩
 unfold c8;rw [List.eraseIdx_eq_take_drop_succ]
 conv=>rhs;rw [e]
 rw [List.filter_append,List.filter_cons];simp only [hm,Bool.not_true,Bool.false_eq_true,if_false];rw [List.filter_eq_self.2 (fun x hx=>by simp [hL x hx]),List.filter_eq_self.2 (fun x hx=>by simp [hR x hx])]
noncomputable def iJ (z:aq) (a o:Int) : Int×aq :=
 if dZ z then (if eU z.aW z.To a o then (if eX z.ag a o then (5,⟨0,0,[],[]⟩) else
  (0,⟨z.aW,z.To,aV (g7 5 z.ag a o).1 (bE (g7 5 z.ag a o).1 (g7 5 z.ag a o).2.1) ⟨(g7 5 z.ag a o).2.1,(g7 5 z.ag a o).2.2,z.Types.getD (((g7 5 z.ag a o).2.1-z.aW) / 8).toNat 0⟩,z.Types⟩)) else (1,⟨0,0,[],[]⟩)) else (8,⟨0,0,[],[]⟩)
theorem rW {f t:Int} {z:aq} {a o:Int} (hz:bR z) (hf:eU z.aW z.To a o) (h:eX z.ag a o=false) : ve z.aW z.To z.ag a o:=by
 refine ⟨ld hz,fun b hb => ?_,hf,fun b hb => ?_⟩
 ·obtain ⟨i,hi,rfl⟩:=List.getElem_of_mem hb;exact hz.cU i hi
 ·unfold eX at h;rw [List.any_eq_false] at h;have:=h b hb
  simp at this;omega
open Go.RowKit
theorem oQ (A:Option Addr) (n c:Nat) (l:List Block) (f t a o:Int) (w:World) (hl:Sl w 3 az A n l) (hb:∀ b∈l,dB f t b) (h0 : 0≤f) (ht:t≤256) (hn:n≤1000000000000000000) (ha : -1000≤a∧a≤1000) (ho : 0≤o∧o≤4) :
 bt Tryz.prog 80 [.slice A n c,.int .i64 a,.int .i64 o] w fun v _=>v = .bool (eX l a o):=by
 refine aL Tryz.func80 rfl Tryz.ntmps80 rfl ?_;have hw:=Ext.refl w;have hA:=hl.base;have ma:=hl.len;have hp:=bG ho.1 ho.2;refine Wz ?_;refine CW.loop (fun k:Nat=>[(0,.slice A n c),(1,.int .i64 a),(2,.int .i64 o),(7,.int .i64 (k:Int))]) (fun k w'=>k≤n∧Ext w w' ∧ ∀ (j:Nat) (h:j<l.length),j<k → ¬ (l[j].At<a+pw o∧a<l[j].At+pw l[j].Order)) (fun k=>n-k) 0 ⟨rfl,rfl,rfl,rfl,trivial⟩ ⟨by omega,hw,fun j _ h=>by omega⟩ ?_;clear hw;rintro k w' ⟨hk,hw,hI⟩
 by_cases bY:k<n
 ·have de:=hl.lt bY;have mG:=(hb _ (List.getElem_mem de)).1;obtain ⟨f1,f2,f3,f4,f5⟩:=id mG;have EU:=bG f1 f2;by_cases h1:l[k].At<a+pw o
  ·by_cases h2:a<l[k].At+pw l[k].Order
   ·repeat' (first|refine Wz ?_|((apply CW.aO mixed;(· kernel_rfl);rotate_left;intro w1 ab;replace hw:=Ext.trans hw ab;clear ab;rotate_right))|refine SW.st (ao hw rfl (hl.dv bY rfl)) rfl ?_|refine SW.bq rfl rfl (fun w1 ab=>(dc _ (by omega) _)) ?_|exact SW.bx rfl)
    refine ae.aN rfl rfl ⟨_,rfl,hw,?_⟩;have:eX l a o=true:=List.any_eq_true.2 ⟨l[k],List.getElem_mem de,by simp [h1,h2]⟩
    rw [this]
   ·repeat' (first|refine Wz ?_|((apply CW.aO mixed;(· kernel_rfl);rotate_left;intro w1 ab;replace hw:=Ext.trans hw ab;clear ab;rotate_right))|refine SW.st (ao hw rfl (hl.dv bY rfl)) rfl ?_|refine SW.bq rfl rfl (fun w1 ab=>(dc _ (by omega) _)) ?_|exact SW.bx rfl)
    refine ae.again (k+1) ⟨rfl,rfl,rfl,rfl,trivial⟩ (by omega) ⟨by omega,hw,fun j hj h => ?_⟩;by_cases e:j=k
    ·subst e;exact fun h=>h2 h.2
    ·exact hI j hj (by omega)
  ·repeat' (first|refine Wz ?_|((apply CW.aO mixed;(· kernel_rfl);rotate_left;intro w1 ab;replace hw:=Ext.trans hw ab;clear ab;rotate_right))|refine SW.st (ao hw rfl (hl.dv bY rfl)) rfl ?_|refine SW.bq rfl rfl (fun w1 ab=>(dc _ (by omega) _)) ?_|exact SW.bx rfl)
   refine ae.again (k+1) ⟨rfl,rfl,rfl,rfl,trivial⟩ (by omega) ⟨by omega,hw,fun j hj h => ?_⟩;by_cases e:j=k
   ·subst e;exact fun h=>h1 h.1
   ·exact hI j hj (by omega)
 ·refine Wz ?_;refine ae.aN rfl rfl ⟨_,rfl,hw,?_⟩
  have:eX l a o=false:=by
   unfold eX;rw [List.any_eq_false];intro x hx;obtain ⟨j,hj,rfl⟩:=List.getElem_of_mem hx;have:=hI j hj (by omega)
   simpa using this
  rw [this]
open Go.RowKit
section
variable {P:Program} {n:Nat} {Q:Exit→Act→World→Prop} {L:Env} {w:World}
def DY (n:Nat) (K:Env→World→Prop) (Q:Exit→Act→World→Prop) : Exit→Act→World→Prop
 | .normal,a,w' => ∃ L',Fit n a L'∧K L' w'
 | e,a,w'=>Q e a w'
theorem CW.JM {c:Code} (K:Env→World→Prop) (h:CW P n c (DY n K Q) L w) (k:∀ L' w',K L' w'→ae n Q .normal L' w') : CW P n c Q L w :=
 ⟨fun a ha=>wp_mono (h.out a ha) fun e a' w' h'=>by
  cases e with
  | normal=>obtain ⟨L',hf,hk⟩:=h';exact (k L' w' hk).out a' hf
  | _=>exact h'⟩
theorem CW.wq {c:Code} {id:Nat} (K:Env→World→Prop) (h:CW P n c (Exit.inBlock id (DY n K Q)) L w) (k:∀ L' w',K L' w'→ae n Q .normal L' w') : CW P n c (Exit.inBlock id Q) L w :=
 ⟨fun a ha=>wp_mono (h.out a ha) fun e a' w' h'=>by
  cases e with
  | normal=>obtain ⟨L',hf,hk⟩:=h';exact (k L' w' hk).out a' hf
  | exit j =>
    simp only [Exit.inBlock] at h' ⊢;split
    ·rename_i hj;rw [if_pos hj] at h';obtain ⟨L',hf,hk⟩:=h';exact (k L' w' hk).out a' hf
    ·rename_i hj;rw [if_neg hj] at h';exact h'
  | _=>exact h'⟩
theorem ae.kq {K:Env→World→Prop} (h:K L w) : ae n (DY n K Q) .normal L w:=⟨fun _ ha=>⟨L,ha,h⟩⟩
theorem ae.zA {K:Env→World→Prop} (h:ae n Q .ret L w) : ae n (DY n K Q) .ret L w:=⟨fun a ha=>h.out a ha⟩
end
open Go.RowKit
def lay (ga:List Value) (o:Nat) (cs:List Value) : List Value:=ga.take o++cs++ga.drop (o+cs.length)
theorem zB (ga:List Value) (o:Nat) : lay ga o []=ga:=by simp [lay]
theorem eJ (X Y Z cs:List Value) (h:cs.length=Y.length) {o:Nat} (ho:o=X.length) : lay (X++Y++Z) o cs=X++cs++Z:=by
 subst ho;unfold lay;rw [List.append_assoc X Y Z,List.take_left,h];congr 1
 rw [← List.append_assoc,List.drop_append];have e:List.drop (X.length+Y.length) (X++Y)=[]:=List.drop_eq_nil_of_le (by simp)
 rw [e];simp
theorem Own.opened {α:Type} {w:World} {lo:Nat} {e:TypeId} {sz:Nat} {enc : α → List Value} [E:fB enc sz] {A:Option Addr} {n c:Nat} {l:List α} (h:Own w lo e sz enc A n c l) (hc : 0<c) :
 ∃ g rest,A=some ⟨g,0,none⟩∧lo≤g∧aJ w g e (l.flatMap enc++rest)∧n*sz+rest.length=c*sz∧n≤c∧c≤maxLen∧aT A c=some g:=by
 rcases h.row with ⟨_,h0⟩|⟨_,g,ga,rfl,h1,h2,h3,h4,h5,h6⟩
 ·omega
 ·refine ⟨g,ga.toList.drop (n*sz),rfl,h1,?_,?_,h3,h4,by simp [aT,Nat.pos_iff_ne_zero.1 hc]⟩
  ·unfold aJ;rw [← h6,List.take_append_drop];simpa using h2
  ·have:n*sz≤c*sz:=Nat.mul_le_mul_right _ h3
   simp;omega
theorem Own.closed {α:Type} {w:World} {lo:Nat} {e:TypeId} {sz:Nat} {enc : α → List Value} [E:fB enc sz] {n c g:Nat} {l:List α} {rest:List Value} (hl:l.length=n) (hB:aJ w g e (l.flatMap enc++rest)) (hr:n*sz+rest.length=c*sz) (hn:n≤c) (hc : 0<c) (hm:c≤maxLen) (fC:lo≤g) :
 Own w lo e sz enc (some ⟨g,0,none⟩) n c l:=by
 have oB:(l.flatMap enc).length=n*sz:=by rw [ba,hl]
 refine ⟨hl,.inr ⟨hc,g,_,rfl,fC,hB,hn,hm,?_,?_⟩⟩
 ·simp [oB];omega
 ·rw [← oB];simp
theorem Own.pre {α:Type} {w:World} {lo:Nat} {e:TypeId} {sz:Nat} {enc : α → List Value} [E:fB enc sz] {A:Option Addr} {n c:Nat} {l:List α} (h:Own w lo e sz enc A n c l) {i:Nat} (hi:i≤n) : Own w lo e sz enc A i c (l.take i):=by
 rcases Nat.eq_zero_or_pos c with hc|hc
 ·have h1:=h.le.1;have:n=0:=by omega
  subst hc this;obtain rfl:i=0:=by omega
  simpa using Own.eR w lo e sz enc A
 ·obtain ⟨g,rest,rfl,h1,h2,h3,h4,h5,_⟩:=h.opened hc;refine Own.closed (rest:=(l.drop i).flatMap enc++rest) (by simp [h.len];omega) ?_ ?_ (by omega) hc h5 h1
  ·rw [← List.append_assoc,← List.flatMap_append,List.take_append_drop];exact h2
  ·have e1:((l.drop i).flatMap enc).length=(n-i)*sz:=by rw [ba];simp [h.len]
   have e2:i+(n-i)=n:=by omega
   rw [List.length_append,e1,← h3,← Nat.add_assoc,← Nat.add_mul,e2]
theorem Sl.drop {α:Type} {w:World} {sz:Nat} {enc : α → List Value} {A:Option Addr} {n:Nat} {l:List α} (h:Sl w sz enc A n l) (i c:Nat) (hi:i≤n) (hc:n≤c) : Sl w sz enc (if c=i then A else A.map (·.add (i*sz))) (n-i) (l.drop i):=by
 refine ⟨by simp [h.len],fun hn => ?_,fun j hj k u hu => ?_⟩
 ·have:=h.base (by omega)
  split
  ·exact this
  ·simpa using this
 ·simp at hj;have hl:=h.len;rw [if_neg (by omega)];have hb:=h.base (by omega);obtain ⟨a,rfl⟩:=Option.isSome_iff_exists.1 hb;have um:=h.cell (i+j) (by omega) k u (by simpa using hu);simp only [Option.getD_some,Option.map_some,add_add] at um ⊢;rw [← um];congr 2
  rw [Nat.add_mul]
theorem Sl.pre {α:Type} {w:World} {sz:Nat} {enc : α → List Value} {A:Option Addr} {n:Nat} {l:List α} (h:Sl w sz enc A n l) {i:Nat} (hi:i≤n) : Sl w sz enc A i (l.take i):=by
 refine ⟨by simp [h.len];omega,fun hn=>h.base (by omega),fun j hj k u hu => ?_⟩;simp at hj;exact h.cell j (by omega) k u (by simpa using hu)
section
variable {P:Program} {w:World}
theorem er {g:Nat} {e:TypeId} {ga cs:List Value} (h:aJ w g e ga) : aJ (w.setRow g cs.toArray) g e cs∧w.grownBy (w.setRow g cs.toArray) (some g) :=
 ⟨setRow_heap w g _ _ e (0,0) h,⟨rfl,rfl,rfl,by simp,fun j _ hj=>by
  show (w.setRow g _).heap[j]?=_
  simp only [World.setRow,Array.getElem?_modify];rw [if_neg (fun e=>hj (by simp [e]))]⟩⟩
theorem vf {t e:TypeId} {z:Value} {sz bytes:Nat} [S:bw P t e sz] [T:dg P e z sz bytes] (ty:TypeId) {A X:Option Addr} {n c m c2 k g o:Nat} {ga cs:List Value} (hk:min m n=k) (hlen:cs.length=k*sz) (hB:aJ w g e ga) (iP:o+cs.length≤ga.length)
 (kN : 0<k→A=some ⟨g,o,none⟩ ∧ ∃ ad,X=some ad ∧ ∀ j v,cs[j]?=some v→w.cell? (ad.add j)=some v) (h1:∀ v∈cs,v.oneCell'=true) :
 ∃ w',(Builtin.copy_ #[t,t] ty #[.slice A n c,.slice X m c2]).run P w = .ok (.int .i64 (k:Int)) w'∧aJ w' g e (lay ga o cs)∧w.grownBy w' (some g):=by
 obtain ⟨i,hi,hz,hs,uj⟩:=dK P e (z:=z) (sz:=sz) (bytes:=bytes);have Ad:Nat.min m n=k:=hk
 by_cases h0:k=0
 ·have ic:cs=[]:=List.eq_nil_of_length_eq_zero (by rw [hlen,h0];simp)
  subst ic;refine ⟨w,?_,by rw [zB];exact hB,World.grownBy.refl _ _⟩;cases A<;>cases X<;>simp [Builtin.copy_,run_underlying S.ko,Builtin.lenOf,Builtin.firstCells,sizeOf,typeInfo,hi,Ad,h0,loadCells,loadCellsFrom,storeCells,goInt]
 ·obtain ⟨rfl,ad,rfl,lK⟩:=kN (by omega);have hl:=run_loadCells_list (P:=P) w ad cs lK;have rn:=run_storeCells_at P g o e cs 0 ga.toArray w hB (by simpa using iP) h1;have e1:(ga.toArray.toList.take (o+0)++cs++ga.toArray.toList.drop (o+0+cs.length))=lay ga o cs:=by simp [lay]
  rw [e1] at rn;rw [hlen] at hl;refine ⟨_,?_,(er hB).1,(er hB).2⟩;simp [Builtin.copy_,run_underlying S.ko,Builtin.lenOf,Builtin.firstCells,sizeOf,typeInfo,hi,hs,Ad,hl,rn,goInt]
theorem tO {t e:TypeId} {z:Value} {sz bytes:Nat} [S:bw P t e sz] [T:dg P e z sz bytes] (ty:TypeId) {A:Option Addr} {n c g o:Nat} {ga:List Value} (hB:aJ w g e ga) (iP:o+n*sz≤ga.length) (kN : 0<n→A=some ⟨g,o,none⟩) (By:∀ v∈z.cells.toList,v.oneCell'=true) :
 ∃ w' cs,(Builtin.clear_ #[t] ty #[.slice A n c]).run P w = .ok (.tuple #[]) w'∧cs.length=n*sz∧aJ w' g e (lay ga o cs)∧w.grownBy w' (some g):=by
 obtain ⟨i,hi,hz,hs,uj⟩:=dK P e (z:=z) (sz:=sz) (bytes:=bytes);by_cases h0:n=0
 ·subst h0;refine ⟨w,[],?_,by simp,by rw [zB];exact hB,World.grownBy.refl _ _⟩;cases A<;>simp [Builtin.clear_,run_underlying S.ko]
 ·obtain rfl:=kN (by omega);obtain ⟨k,rfl⟩ : ∃ k,n=k+1:=⟨n-1,by omega⟩;have hlen:(Builtin.zeroCells z.cells (k+1)).toList.length=(k+1)*sz:=by simp [Go.size_zeroCells,T.zc]
  have h1:∀ v∈(Builtin.zeroCells z.cells (k+1)).toList,v.oneCell'=true:=by
   intro v hv;simp only [Builtin.zeroCells,Array.toList_map,Array.toList_range,List.mem_map] at hv;obtain ⟨j,hj,rfl⟩:=hv;have hp:=T.pos;have:j % z.cells.size<z.cells.size:=Nat.mod_lt _ (by rw [T.zc];exact hp)
   rw [getElem!_pos z.cells _ this];exact By _ (Array.getElem_mem_toList _)
  have rn:=run_storeCells_at P g o e (Builtin.zeroCells z.cells (k+1)).toList 0 ga.toArray w hB (by rw [hlen];simpa using iP) h1;have e1:(ga.toArray.toList.take (o+0)++(Builtin.zeroCells z.cells (k+1)).toList++ga.toArray.toList.drop (o+0+(Builtin.zeroCells z.cells (k+1)).toList.length))=lay ga o (Builtin.zeroCells z.cells (k+1)).toList:=by simp [lay]
  rw [e1] at rn;refine ⟨_,_,?_,hlen,(er hB).1,(er hB).2⟩;simp [Builtin.clear_,run_underlying S.ko,zeroValue,typeInfo,hi,hz,rn]
end
section
variable {P:Program} {n:Nat} {ops:Array Oper} {Q:Exit→Act→World→Prop} {rest:List Oper} {L:Env} {w:World} {d:Option Nat} {T:TypeId} {pos:String} {af:Array Edge} {g:Option (Nat×Bool)}
theorem SW.copy {d:Nat} {t e:TypeId} {z:Value} {sz bytes:Nat} [S:bw P t e sz] [E:dg P e z sz bytes] {x y:Operand} {A X:Option Addr} {m c m2 c2 k g:Nat} (o:Nat) {ga:List Value} (cs:List Value) (hB:aJ w g e ga) (hx:ca L x=some (.slice A m c)) (hy:ca L y=some (.slice X m2 c2)) (hn:Nat.blt d n=true)
 (hk:min m2 m=k) (hlen:cs.length=k*sz) (iP:o+cs.length≤ga.length) (kN : 0<k→A=some ⟨g,o,none⟩ ∧ ∃ ad,X=some ad ∧ ∀ j v,cs[j]?=some v→w.cell? (ad.add j)=some v) (h1:∀ v∈cs,v.oneCell'=true)
 (h:∀ w',aJ w' g e (lay ga o cs)→w.grownBy w' (some g)→SW P n ops (.fr Q) rest ((d,.int .i64 (k:Int))::L) w') :
 SW P n ops (.fr Q) (⟨some d,.call ⟨.builtin .copy,#[x,y],#[t,t]⟩,T,pos,af,none⟩::rest) L w :=
 ⟨fun a ha=>by
  obtain ⟨w',hr,h2,h3⟩:=vf (P:=P) (t:=t) T (c:=c) (c2:=c2) hk hlen hB iP kN h1;simp only [swp,wpList,Region.wanted,if_true];refine .inl ?_;unfold Oper.wp
  have:(execOp a.eval ⟨some d,.call ⟨.builtin .copy,#[x,y],#[t,t]⟩,T,pos,af,none⟩).run P w = .ok (.value (.int .i64 (k:Int))) w':=by
   simp [execOp,resolve,invoke,builtin,ha.eval hx,ha.eval hy,hr]
  rw [this,Oper.upon_value];exact (h w' h2 h3).out _ (ha.put hn _)⟩
theorem SW.clear {t e:TypeId} {z:Value} {sz bytes:Nat} [S:bw P t e sz] [E:dg P e z sz bytes] {x:Operand} {A:Option Addr} {m c g:Nat} (o:Nat) {ga:List Value} (hB:aJ w g e ga) (hx:ca L x=some (.slice A m c)) (iP:o+m*sz≤ga.length) (kN : 0<m→A=some ⟨g,o,none⟩) (By:∀ v∈z.cells.toList,v.oneCell'=true)
 (h:∀ w' cs,cs.length=m*sz→aJ w' g e (lay ga o cs)→w.grownBy w' (some g)→SW P n ops (.fr Q) rest L w') :
 SW P n ops (.fr Q) (⟨none,.call ⟨.builtin .clear,#[x],#[t]⟩,T,pos,af,none⟩::rest) L w :=
 ⟨fun a ha=>by
  obtain ⟨w',cs,hr,h1,h2,h3⟩:=tO (P:=P) (t:=t) T (c:=c) hB iP kN By;simp only [swp,wpList,Region.wanted,if_true];refine .inl ?_;unfold Oper.wp
  have:(execOp a.eval ⟨none,.call ⟨.builtin .clear,#[x],#[t]⟩,T,pos,af,none⟩).run P w = .ok (.value (.tuple #[])) w':=by
   simp [execOp,resolve,invoke,builtin,ha.eval hx,hr]
  rw [this,Oper.upon_value];exact (h w' cs h1 h2 h3).out _ (ha.BI _)⟩
theorem rX {t e:TypeId} {sz:Nat} [c:bw P t e sz] {x y u:Operand} {A:Option Addr} {m cap i j:Nat} (hx:ca L x=some (.slice A m cap)) (hy:ca L y=some (.int .i64 (i:Int))) (hu:ca L u=some (.int .i64 (j:Int))) (hi:i≤j) (hj:j≤cap) :
 St P ⟨d,.slice t x (some y) (some u) none,T,pos,af,g⟩ L w (.slice (if cap=i then A else A.map (·.add (i*sz))) (j-i) (cap-i)) :=
 ⟨fun _ a ha w' _=>by
  have e1:=ha.eval hx;have e2:=ha.eval hy;have e3:=ha.eval hu;generalize a.eval = ρ at *
  simp [execOp,e1,e2,e3,Instr.sliceAt,Instr.slice,Instr.sliceBounds,Instr.sliceBound,asIntOf,run_underlying c.ko,run_sizeOf c.size,hi,hj]⟩
theorem uo {t e:TypeId} {sz:Nat} [c:bw P t e sz] {x y u v:Operand} {A:Option Addr} {m cap i j k:Nat} (hx:ca L x=some (.slice A m cap)) (hy:ca L y=some (.int .i64 (i:Int))) (hu:ca L u=some (.int .i64 (j:Int))) (hv:ca L v=some (.int .i64 (k:Int))) (hi:i≤j) (hj:j≤k) (hk:k≤cap) :
 St P ⟨d,.slice t x (some y) (some u) (some v),T,pos,af,g⟩ L w (.slice (if k=i then A else A.map (·.add (i*sz))) (j-i) (k-i)) :=
 ⟨fun _ a ha w' _=>by
  have e1:=ha.eval hx;have e2:=ha.eval hy;have e3:=ha.eval hu;have e4:=ha.eval hv;generalize a.eval = ρ at *
  simp [execOp,e1,e2,e3,e4,Instr.sliceAt,Instr.slice,Instr.sliceBounds,Instr.sliceBound,asIntOf,run_underlying c.ko,run_sizeOf c.size,hi,hj,hk]⟩
end
section
variable {P:Program} {n:Nat} {ops:Array Oper} {Q:Exit→Act→World→Prop} {rest:List Oper} {L:Env} {w:World}
structure gL (P:Program) (f:FuncId) (args:List Value) (w:World) (R:Value→World→Prop) : Prop where
 out:Calls P f args.toArray w fun e w' => ∃ v,e = .returned v∧R v w'
theorem SW.cV {d:Nat} {f:FuncId} {xs:List Operand} {vs:List Value} {ts:Array TypeId} {T:TypeId} {pos:String} {af:Array Edge} {R:Value→World→Prop}
 [Body P f] (hx:pB L xs=some vs) (hn:Nat.blt d n=true) (hc:gL P f vs w R) (h:∀ v w',R v w'→SW P n ops (.fr Q) rest ((d,v)::L) w') :
 SW P n ops (.fr Q) (⟨some d,.call ⟨.value (.func f),xs.toArray,ts⟩,T,pos,af,none⟩::rest) L w :=
 ⟨fun a ha=>by
  simp only [swp,wpList,Region.wanted,if_true];refine .inl ?_;unfold Oper.wp;rw [rJ,Oper.upon_enter,ha.oF hx];refine Calls.mono hc.out ?_;rintro e w' ⟨v,rfl,hv⟩
  exact (h v w' hv).out _ (ha.put hn v)⟩
theorem dw {fn:Func} {f:FuncId} {c:Code} {args:List Value} {R:Value→World→Prop} (hf:P.funcs[f]?=some fn) (hb:fn.body=some c) (hn:fn.ntmps=n) (hl:Nat.ble args.length n=true)
 (h:CW P n c (bodyPost P fn fun e w' => ∃ v,e = .returned v∧R v w') (ng 0 args) w) : gL P f args w R:=by
 have xR:args.length≤n:=by simpa using hl
 refine ⟨calls_of_wp hf hb (h.out _ ⟨?_,rfl,?_⟩)⟩
 ·simp [hn];omega
 ·intro i v hi;obtain ⟨_,h2⟩:=my args 0 i v hi;simp only [Nat.sub_zero] at h2
  have c9:i<args.length:=by
   rcases Nat.lt_or_ge i args.length with h|h
   ·exact h
   ·rw [List.getElem?_eq_none h] at h2;cases h2
  rw [Array.getD_eq_getD_getElem?,Array.getElem?_append_left (by simpa using c9)];simp [h2]
theorem SW.entry {d:Nat} {f:FuncId} {fn:Func} {e:Array Value→Sem Value} {xs:List Operand} {vs:List Value} {v:Value} {ts:Array TypeId} {T:TypeId} {pos:String} {af:Array Edge}
 (hf : P.funcs[f]? = some fn) (HE : (fn.name == "runtime.NumGoroutine") = false) (hb : fn.body.isNone = true) (DW : Extern.findNext fn = none) (he : Extern.find fn = some e) (hx : pB L xs = some vs) (hn : Nat.blt d n = true)
 (hr:(e vs.toArray).run P w = .ok v w) (h:SW P n ops (.fr Q) rest ((d,v)::L) w) :
 SW P n ops (.fr Q) (⟨some d,.call ⟨.value (.func f),xs.toArray,ts⟩,T,pos,af,none⟩::rest) L w :=
 ⟨fun a ha=>by
  simp only [swp,wpList,Region.wanted,if_true];refine .inl ?_;unfold Oper.wp;have h1:=run_callFunc_extern (P:=P) hf HE hb DW he vs.toArray w
  have:(execOp a.eval ⟨some d,.call ⟨.value (.func f),xs.toArray,ts⟩,T,pos,af,none⟩).run P w = .ok (.value v) w:=by
   have e2:=ha.oF hx;simp only [execOp,resolve,Deferred.ofValue,Act.eval,Sem.run_bind,Result.andThen,invoke,List.map_toArray,e2];rw [hr] at h1;simpa [Result.andThen] using h1
  rw [this,Oper.upon_value];exact h.out _ (ha.put hn v)⟩
end
theorem Ext.gr {w w':World} (h:Ext w w') (row:Option Nat) : w.grownBy w' row:=⟨h.os,h.tape,h.output,h.size,fun k hk _=>h.block k hk⟩
theorem bO {w w1 w2:World} {row FN:Option Nat} (h:w.grownBy w1 row) (k:w1.grownBy w2 FN) (hr:FN=row ∨ ∀ i,FN=some i→w.heap.size≤i) : w.grownBy w2 row :=
 ⟨k.os.trans h.os,k.tape.trans h.tape,k.output.trans h.output,Nat.le_trans h.size k.size,fun i hi cG=>by
  have pL:i<w1.heap.size:=Nat.lt_of_lt_of_le hi h.size
  rcases hr with e|e
  ·subst e;rw [k.block i pL cG,h.block i hi cG]
  ·rw [k.block i pL (fun e'=>by have:=e i e'.symm;omega),h.block i hi cG]⟩
theorem SW.wu {α:Type} {P:Program} {n:Nat} {ops:Array Oper} {Q:Exit→Act→World→Prop} {rest:List Oper} {L:Env} {w:World} {dd:Nat} {T:TypeId} {pos:String} {af:Array Edge}
 {lo:Nat} {t e:TypeId} {z:Value} {sz bytes:Nat} {enc : α → List Value} {A X:Option Addr} {k c m c2:Nat} {l ys:List α} [S:bw P t e sz] [T':dg P e z sz bytes] [E:fB enc sz] {x y:Operand}
 (hO:Own w lo e sz enc A k c l) (hS:Sl w sz enc X m ys) (jk:k+m≤c) (hx:ca L x=some (.slice A k c)) (hy:ca L y=some (.slice X m c2)) (hn:Nat.blt dd n=true)
 (h:∀ w',Own w' lo e sz enc A (k+m) c (l++ys)→w.grownBy w' (aT A c)→SW P n ops (.fr Q) rest ((dd,.slice A (k+m) c)::L) w') :
 SW P n ops (.fr Q) (⟨some dd,.call ⟨.builtin .append,#[x,y],#[t,t]⟩,T,pos,af,none⟩::rest) L w :=
 ⟨fun a ha=>by
  obtain ⟨i,hi,hz,hs,uj⟩:=dK P e (z:=z) (sz:=sz) (bytes:=bytes);have Bv:(ys.flatMap enc).length=m*sz:=by rw [ba,hS.len]
  have nB:∀ u∈ys.flatMap enc,u.oneCell'=true:=fun u hu=>by
   obtain ⟨x,_,hx⟩:=List.mem_flatMap.1 hu;exact E.one x u hx
  have key:∃ w',(Builtin.append_ #[t,t] T #[.slice A k c,.slice X m c2]).run P w = .ok (.slice A (k+m) c) w'∧Own w' lo e sz enc A (k+m) c (l++ys)∧w.grownBy w' (aT A c):=by
   by_cases rL:m=0
   ·subst rL;have MA:ys=[]:=List.eq_nil_of_length_eq_zero hS.len
    subst MA;refine ⟨w,?_,by simpa using hO,World.grownBy.refl _ _⟩;have tP:k≤c:=by omega
    cases A<;>cases X<;>simp [Builtin.append_,run_underlying S.ko,sizeOf,typeInfo,hi,Builtin.lenOf,tP,Builtin.firstCells,loadCells,loadCellsFrom,storeCells]
   ·obtain ⟨ad,rfl⟩:=Option.isSome_iff_exists.1 (hS.base (by omega));have oH:=dm T'.pos hS;obtain ⟨g,rest,rfl,h1,h2,h3,h4,h5,h6⟩:=hO.opened (by omega);have iP:(k+m)*sz≤c*sz:=Nat.mul_le_mul_right _ jk
    have oB:(l.flatMap enc).length=k*sz:=by rw [ba,hO.len]
    rw [Nat.add_mul] at iP;have hr:=run_append_room (P:=P) w t T e i S.ko hi g k c (l.flatMap enc++rest).toArray h2 ad m c2 (ys.flatMap enc) (by rw [hs];exact Bv) oH nB jk (by rw [hs,Bv];simp [oB];omega)
    have e1:(l.flatMap enc++rest).toArray.toList.take (k*i.size)++ys.flatMap enc++(l.flatMap enc++rest).toArray.toList.drop (k*i.size+(ys.flatMap enc).length)=(l++ys).flatMap enc++rest.drop (m*sz):=by
     rw [hs];have h7:=eJ (l.flatMap enc) (rest.take (m*sz)) (rest.drop (m*sz)) (ys.flatMap enc) (by rw [Bv];simp;omega) (o:=k*sz) oB.symm;rw [List.append_assoc (l.flatMap enc),List.take_append_drop] at h7;rw [List.flatMap_append];exact h7
    rw [e1] at hr;refine ⟨_,hr,?_,?_⟩
    ·exact Own.closed (by rw [List.length_append,hO.len,hS.len]) (er h2).1 (by rw [Nat.add_mul];simp;omega) jk (by omega) h5 h1
    ·rw [h6];exact (er h2).2
  obtain ⟨w',hr,h1,h2⟩:=key;simp only [swp,wpList,Region.wanted,if_true];refine .inl ?_;unfold Oper.wp
  have:(execOp a.eval ⟨some dd,.call ⟨.builtin .append,#[x,y],#[t,t]⟩,T,pos,af,none⟩).run P w = .ok (.value (.slice A (k+m) c)) w':=by
   simp [execOp,resolve,invoke,builtin,ha.eval hx,ha.eval hy,hr]
  rw [this,Oper.upon_value];exact (h w' h1 h2).out _ (ha.put hn _)⟩
theorem SW.vg {α:Type} {P:Program} {n:Nat} {ops:Array Oper} {Q:Exit→Act→World→Prop} {rest:List Oper} {L:Env} {w:World} {d:Nat} {T:TypeId} {pos:String} {af:Array Edge}
 {t tn e:TypeId} {z:Value} {sz bytes:Nat} {enc : α → List Value} {A:Option Addr} {m c k:Nat} {l:List α} {lk:IntKind} [S:bw P t e sz] [T':dg P e z sz bytes] [E:fB enc sz] {x y:Operand}
 {j:Int} (hS:Sl w sz enc A m l) (MB:P.underlying tn=some (.int lk)) (hx:ca L x=some (.slice A m c)) (hy:ca L y=some (.int .i64 j)) (hj:j=(k:Int)) (hn:Nat.blt d n=true) (hk : 0<k) (jk:c<m+k) (hb:(m+k)*bytes≤140737488355328) (hm:m+k≤9223372036854775807)
 (h:∀ g EV c' w',Ext w w'→w.heap.size≤g→aJ w' g e (l.flatMap enc++EV)→m*sz+EV.length=c'*sz→m+k≤c'→c'≤maxLen→SW P n ops (.fr Q) rest ((d,.slice (some ⟨g,0,none⟩) (m+k) c')::L) w') :
 SW P n ops (.fr Q) (⟨some d,.call ⟨.builtin .append,#[x,y],#[t,tn]⟩,T,pos,af,none⟩::rest) L w :=
 ⟨fun a ha=>by
  subst hj;obtain ⟨i,hi,hz,hs,uj⟩:=dK P e (z:=z) (sz:=sz) (bytes:=bytes);have hp:=T'.pos;have FO:=dm hp hS;have hlen:(l.flatMap enc).length=m*sz:=by rw [ba,hS.len]
  have hold:(Builtin.firstCells i.size m (.slice A m c)).run P w.drew = .ok (l.flatMap enc).toArray w.drew:=by
   rw [hs];cases A with
   | none =>
     have h0:m=0:=by
      rcases Nat.eq_zero_or_pos m with h0|h0
      ·exact h0
      ·have:=hS.base h0;simp at this
     subst h0;have:l=[]:=List.eq_nil_of_length_eq_zero hS.len
     subst this;simp [Builtin.firstCells]
   | some ad =>
     simp only [Builtin.firstCells];rw [← hlen];exact run_loadCells_list (P:=P) w.drew ad _ (fun j v hv=>FO j v hv)
  have FP:=Room.nextslicecap_le' jk
  have iP:Builtin.nextslicecap (m+k) c*i.bytes≤281474976710656:=by
   rw [uj]
   calc Builtin.nextslicecap (m+k) c*bytes≤2*(m+k)*bytes:=Nat.mul_le_mul_right _ FP
    _≤281474976710656:=by rw [Nat.mul_assoc];omega
  have MC:k*i.bytes≤281474976710656:=by
   rw [uj];have:k*bytes≤(m+k)*bytes:=Nat.mul_le_mul_right _ (by omega)
   omega
  have hr:=Lib.run_append_grow_zeros (P:=P) w t tn T e i z .i64 lk S.ko MB hi hz A m c _ hold k hk (by rw [hs];exact hp) jk (by omega) MC iP;simp only [swp,wpList,Region.wanted,if_true];refine .inl ?_;unfold Oper.wp
  have:(execOp a.eval ⟨some d,.call ⟨.builtin .append,#[x,y],#[t,tn]⟩,T,pos,af,none⟩).run P w = .ok (.value (.slice (some ⟨w.heap.size,0,none⟩) (m+k) (grownCap w (m+k) c e))) (w.drew.alloc (.cells ((l.flatMap enc).toArray++Builtin.zeroCells z.cells k++Builtin.zeroCells z.cells (grownCap w (m+k) c e-(m+k))) e)):=by
   simp [execOp,resolve,invoke,builtin,ha.eval hx,ha.eval hy,hr]
  rw [this,Oper.upon_value];have hg:=grownCap_ge w (m+k) c e;refine (h w.heap.size ((Builtin.zeroCells z.cells k).toList++(Builtin.zeroCells z.cells (grownCap w (m+k) c e-(m+k))).toList) _ _ (Ext.trans (Ext.drew w) (Ext.alloc _ _)) (Nat.le_refl _) ?_ ?_ hg (grownCap_le_maxLen w _ _ _ (by simp only [maxLen];omega))).out _ (ha.put hn _)
  ·have:=aJ.new w.drew e (l.flatMap enc++((Builtin.zeroCells z.cells k).toList++(Builtin.zeroCells z.cells (grownCap w (m+k) c e-(m+k))).toList))
   have e1:(l.flatMap enc++((Builtin.zeroCells z.cells k).toList++(Builtin.zeroCells z.cells (grownCap w (m+k) c e-(m+k))).toList)).toArray=(l.flatMap enc).toArray++Builtin.zeroCells z.cells k++Builtin.zeroCells z.cells (grownCap w (m+k) c e-(m+k)):=by
    apply Array.ext';simp
   rw [e1] at this;exact this
  ·simp only [List.length_append,Array.length_toList,Go.size_zeroCells,T'.zc];rw [← Nat.add_mul,← Nat.add_mul];congr 1;omega⟩
open Go.RowKit
def n9 (w w':World) (t:TypeId) : Prop := ∃ row,w.grownBy w' row ∧ ∀ k,row=some k → ∃ cs,w.heap[k]?=some (.cells cs t (0,0))
theorem Own.gr {α:Type} {w w':World} {lo:Nat} {e:TypeId} {sz:Nat} {enc : α → List Value} {A:Option Addr} {n c:Nat} {l:List α} (h:Own w lo e sz enc A n c l) (hg:w.grownBy w' (aT A c)) : n9 w w' e:=by
 refine ⟨_,hg,fun k hk => ?_⟩;rcases h.row with ⟨_,rfl⟩|⟨hc,g,ga,rfl,_,h2,_⟩
 ·simp [aT] at hk
 ·simp [aT,Nat.pos_iff_ne_zero.1 hc] at hk;subst hk;exact ⟨ga,h2⟩
theorem aJ.gr {w w':World} {b:Nat} {t:TypeId} {cs:List Value} (h:aJ w b t cs) (hg:w.grownBy w' (some b)) : n9 w w' t:=⟨_,hg,fun k hk=>by cases hk;exact ⟨_,h⟩⟩
theorem Own.ay {α:Type} {w w':World} {t lo:Nat} {e:TypeId} {sz:Nat} {enc : α → List Value} {A:Option Addr} {n c:Nat} {l:List α} (h:Own w lo e sz enc A n c l) (hG:n9 w w' t) (cG:Nat.beq t e=false) : Own w' lo e sz enc A n c l:=by
 obtain ⟨row,hg,hr⟩:=hG;refine h.grown hg ?_;rcases h.row with ⟨_,rfl⟩|⟨hc,g,ga,rfl,_,h2,_⟩
 ·simp [aT]
 ·right;rintro rfl;obtain ⟨cs,h3⟩:=hr g (by simp [aT,Nat.pos_iff_ne_zero.1 hc]);rw [h2] at h3;injection h3 with h3
  injection h3 with _ h _
  subst h;simp at cG
theorem aJ.ay {w w':World} {b t:Nat} {t':TypeId} {cs:List Value} (h:aJ w b t' cs) (hG:n9 w w' t) (cG:Nat.beq t t'=false) : aJ w' b t' cs:=by
 obtain ⟨row,hg,hr⟩:=hG;refine h.grown hg ?_;rintro rfl;obtain ⟨cs,h3⟩:=hr b rfl;unfold aJ at h;rw [h] at h3;injection h3 with h3
 injection h3 with _ h _
 subst h;simp at cG
theorem Own.lt_size {α:Type} {w:World} {lo:Nat} {e:TypeId} {sz:Nat} {enc : α → List Value} {A:Option Addr} {n c:Nat} {l:List α} (h:Own w lo e sz enc A n c l) : ∀ k,aT A c=some k→k<w.heap.size:=by
 intro k hk;rcases h.row with ⟨_,rfl⟩|⟨hc,g,ga,rfl,_,h2,_⟩
 ·simp [aT] at hk
 ·simp [aT,Nat.pos_iff_ne_zero.1 hc] at hk;subst hk;exact (Array.getElem?_eq_some_iff.1 h2).1
structure ey {α β:Type} (R : α → β → Prop) (xs:List α) (ys:List β) : Prop where
 len:xs.length=ys.length
 get:∀ (i:Nat) (h1:i<xs.length) (h2:i<ys.length),R xs[i] ys[i]
theorem ey.mono {α β:Type} {R R' : α → β → Prop} {xs:List α} {ys:List β} (h:ey R xs ys) (hm:∀ a b,R a b→R' a b) : ey R' xs ys:=⟨h.len,fun i h1 h2=>hm _ _ (h.get i h1 h2)⟩
theorem ey.nil {α β:Type} {R : α → β → Prop}:ey R ([] : List α) ([] : List β):=⟨rfl,fun i h1 h2=>by simp at h1⟩
theorem ey.snoc {α β:Type} {R : α → β → Prop} {xs:List α} {ys:List β} (h:ey R xs ys) {x : α} {y : β} (hr:R x y) : ey R (xs++[x]) (ys++[y]):=by
 refine ⟨by simp [h.len],fun i h1 h2 => ?_⟩;have hl:=h.len;by_cases hi:i<xs.length
 ·rw [List.getElem_append_left hi,List.getElem_append_left (by omega)];exact h.get i hi (by omega)
 ·have e:i=xs.length:=by simp at h1;omega
  subst e;simp [hl];exact hr
structure bL where
 dL:Int
 aq:Int
 Ty:Int
 aw:fE
def bp (r:bL) : List Value:=[.int .i64 r.dL,.int .i64 r.aq,.int .i64 r.Ty,r.aw.v]
instance:fB bp 4:=⟨fun _=>rfl,fun r u hu=>by simp [bp,fE.v] at hu;rcases hu with rfl|rfl|rfl|rfl<;>rfl⟩
structure ez where
 aQ:fE
 bH:fE
 bW:Int
 av:fE
 Live:fE
def bm (r:ez) : List Value:=[r.aQ.v,r.bH.v,.int .i64 r.bW,r.av.v,r.Live.v]
instance:fB bm 5:=⟨fun _=>rfl,fun r u hu=>by simp [bm,fE.v] at hu;rcases hu with rfl|rfl|rfl|rfl|rfl<;>rfl⟩
def ez.zero:ez:=⟨.nil,.nil,0,.nil,.nil⟩
def Heap.zero:Heap:=⟨[],[],0,[],[]⟩
structure EW (w:World) (r:bL) (l:aB) : Prop where
 cpu:r.dL=l.dL
 fp:r.aq=l.aq
 ty:r.Ty=l.Ty
 cr:Sl w 1 bh r.aw.A r.aw.n l.aw
structure kr (w:World) (lo:Nat) (r:bL) (l:aB) : Prop where
 cpu:r.dL=l.dL
 fp:r.aq=l.aq
 ty:r.Ty=l.Ty
 cr:Own w lo 3 1 bh r.aw.A r.aw.n r.aw.c l.aw
theorem EW.ext {w w':World} {r:bL} {l:aB} (h:EW w r l) (hx:Ext w w') : EW w' r l:=⟨h.cpu,h.fp,h.ty,h.cr.ext hx⟩
theorem kr.ext {w w':World} {lo:Nat} {r:bL} {l:aB} (h:kr w lo r l) (hx:Ext w w') : kr w' lo r l:=⟨h.cpu,h.fp,h.ty,h.cr.ext hx⟩
theorem kr.low {w:World} {lo nj:Nat} {r:bL} {l:aB} (h:kr w lo r l) (hl:nj≤lo) : kr w nj r l:=⟨h.cpu,h.fp,h.ty,h.cr.low hl⟩
theorem kr.rd {w:World} {lo:Nat} {r:bL} {l:aB} (h:kr w lo r l) : EW w r l:=⟨h.cpu,h.fp,h.ty,h.cr.sl⟩
theorem kr.ay {w w':World} {t lo:Nat} {r:bL} {l:aB} (h:kr w lo r l) (hG:n9 w w' t) (cG:Nat.beq t 3=false) : kr w' lo r l:=⟨h.cpu,h.fp,h.ty,h.cr.ay hG cG⟩
theorem eV.ay {w w':World} {t lo:Nat} {r:cq} {z:aq} (h:eV w lo r z) (hG:n9 w w' t) (cG:(Nat.beq t 3 || Nat.beq t 77)=false) : eV w' lo r z:=by
 simp only [Bool.or_eq_false_iff] at cG;exact ⟨h.from_,h.jZ,h.free.ay hG cG.2,h.types.ay hG cG.1⟩
structure xY (w:World) (s:fE) (zs:List cq) (l:List aq) : Prop where
 row:Sl w 4 bo s.A s.n zs
 each:ey (tN w) zs l
structure fU (w:World) (lo:Nat) (s:fE) (zs:List cq) (l:List aq) : Prop where
 row:Own w lo 59 4 bo s.A s.n s.c zs
 each:ey (eV w lo) zs l
structure rY (w:World) (s:fE) (ls:List bL) (l:List aB) : Prop where
 row:Sl w 4 bp s.A s.n ls
 each:ey (EW w) ls l
structure cJ (w:World) (lo:Nat) (s:fE) (ls:List bL) (l:List aB) : Prop where
 row:Own w lo 62 4 bp s.A s.n s.c ls
 each:ey (kr w lo) ls l
section
variable {w w':World} {lo nj t:Nat} {s:fE} {zs:List cq} {z:List aq} {ls:List bL} {l:List aB}
theorem xY.ext (h:xY w s zs z) (hx:Ext w w') : xY w' s zs z:=⟨h.row.ext hx,h.each.mono fun _ _ h=>h.ext hx⟩
theorem rY.ext (h:rY w s ls l) (hx:Ext w w') : rY w' s ls l:=⟨h.row.ext hx,h.each.mono fun _ _ h=>h.ext hx⟩
theorem fU.ext (h:fU w lo s zs z) (hx:Ext w w') : fU w' lo s zs z:=⟨h.row.ext hx,h.each.mono fun _ _ h=>h.ext hx⟩
theorem cJ.ext (h:cJ w lo s ls l) (hx:Ext w w') : cJ w' lo s ls l:=⟨h.row.ext hx,h.each.mono fun _ _ h=>h.ext hx⟩
theorem fU.low (h:fU w lo s zs z) (hl:nj≤lo) : fU w nj s zs z:=⟨h.row.low hl,h.each.mono fun _ _ h=>h.low hl⟩
theorem cJ.low (h:cJ w lo s ls l) (hl:nj≤lo) : cJ w nj s ls l:=⟨h.row.low hl,h.each.mono fun _ _ h=>h.low hl⟩
theorem fU.rd (h:fU w lo s zs z) : xY w s zs z:=⟨h.row.sl,h.each.mono fun _ _ h=>h.rd⟩
theorem cJ.rd (h:cJ w lo s ls l) : rY w s ls l:=⟨h.row.sl,h.each.mono fun _ _ h=>h.rd⟩
theorem fU.ay (h:fU w lo s zs z) (hG:n9 w w' t) (cG:(Nat.beq t 59 || (Nat.beq t 3 || Nat.beq t 77))=false) : fU w' lo s zs z:=by
 rw [Bool.or_eq_false_iff] at cG;exact ⟨h.row.ay hG cG.1,h.each.mono fun _ _ h=>h.ay hG cG.2⟩
theorem cJ.ay (h:cJ w lo s ls l) (hG:n9 w w' t) (cG:(Nat.beq t 62 || Nat.beq t 3)=false) : cJ w' lo s ls l:=by
 rw [Bool.or_eq_false_iff] at cG;exact ⟨h.row.ay hG cG.1,h.each.mono fun _ _ h=>h.ay hG cG.2⟩
theorem fU.nil (w:World) (lo:Nat) : fU w lo .nil [] []:=⟨Own.eR _ _ _ _ _ _,.nil⟩
theorem cJ.nil (w:World) (lo:Nat) : cJ w lo .nil [] []:=⟨Own.eR _ _ _ _ _ _,.nil⟩
theorem xY.len (h:xY w s zs z) : zs.length=s.n∧z.length=s.n:=⟨h.row.len,by rw [← h.each.len,h.row.len]⟩
theorem rY.len (h:rY w s ls l) : ls.length=s.n∧l.length=s.n:=⟨h.row.len,by rw [← h.each.len,h.row.len]⟩
end
structure v9 (w:World) (r:ez) (h:Heap) : Prop where
 dU:r.bW=h.bW
 cj:Sl w 1 bh r.bH.A r.bH.n h.bH
 live:Sl w 3 az r.Live.A r.Live.n h.Live
 cK:∃ zs,xY w r.aQ zs h.aQ
 lists:∃ ls,rY w r.av ls h.av
structure iH (w:World) (lo:Nat) (r:ez) (h:Heap) : Prop where
 dU:r.bW=h.bW
 cj:Own w lo 3 1 bh r.bH.A r.bH.n r.bH.c h.bH
 live:Own w lo 77 3 az r.Live.A r.Live.n r.Live.c h.Live
 cK:∃ zs,fU w lo r.aQ zs h.aQ
 lists:∃ ls,cJ w lo r.av ls h.av
section
variable {w w':World} {lo nj t:Nat} {r:ez} {h:Heap}
theorem v9.ext (a:v9 w r h) (hx:Ext w w') : v9 w' r h:=by
 obtain ⟨zs,hz⟩:=a.cK;obtain ⟨ls,hl⟩:=a.lists;exact ⟨a.dU,a.cj.ext hx,a.live.ext hx,⟨zs,hz.ext hx⟩,⟨ls,hl.ext hx⟩⟩
theorem iH.ext (a:iH w lo r h) (hx:Ext w w') : iH w' lo r h:=by
 obtain ⟨zs,hz⟩:=a.cK;obtain ⟨ls,hl⟩:=a.lists;exact ⟨a.dU,a.cj.ext hx,a.live.ext hx,⟨zs,hz.ext hx⟩,⟨ls,hl.ext hx⟩⟩
theorem iH.low (a:iH w lo r h) (xR:nj≤lo) : iH w nj r h:=by
 obtain ⟨zs,hz⟩:=a.cK;obtain ⟨ls,hl⟩:=a.lists;exact ⟨a.dU,a.cj.low xR,a.live.low xR,⟨zs,hz.low xR⟩,⟨ls,hl.low xR⟩⟩
theorem iH.rd (a:iH w lo r h) : v9 w r h:=by
 obtain ⟨zs,hz⟩:=a.cK;obtain ⟨ls,hl⟩:=a.lists;exact ⟨a.dU,a.cj.sl,a.live.sl,⟨zs,hz.rd⟩,⟨ls,hl.rd⟩⟩
theorem iH.ay (a:iH w lo r h) (hG:n9 w w' t) (cG:(Nat.beq t 3 || (Nat.beq t 77 || (Nat.beq t 59 || Nat.beq t 62)))=false) : iH w' lo r h:=by
 obtain ⟨zs,hz⟩:=a.cK;obtain ⟨ls,hl⟩:=a.lists;simp only [Bool.or_eq_false_iff] at cG;obtain ⟨h1,h2,h3,h4⟩:=cG;exact ⟨a.dU,a.cj.ay hG h1,a.live.ay hG h2,⟨zs,hz.ay hG (by simp [h1,h2,h3])⟩,⟨ls,hl.ay hG (by simp [h1,h4])⟩⟩
theorem iH.zero (w:World) (lo:Nat) : iH w lo .zero .zero:=⟨rfl,Own.eR _ _ _ _ _ _,Own.eR _ _ _ _ _ _,⟨[],.nil _ _⟩,⟨[],.nil _ _⟩⟩
end
structure Heap.small (h:Heap) : Prop where
 cK:h.aQ.length*64≤140737488355328
 cj:h.bH.length*8≤140737488355328
 lists:h.av.length*48≤140737488355328
 live:h.Live.length*24≤140737488355328
 free:∀ z∈h.aQ,z.ag.length*24≤140737488355328∧z.Types.length*8≤140737488355328
 cr:∀ l∈h.av,l.aw.length*8≤140737488355328
end Go.Proofs.YtjimadiidbkohaaGreatDoor
