/- Part 2 of what topWords_holds leans on. -/
import Derived.Test.YtohigmjjbgpfmaaGreatDoorPackTopWords1
import Derived.Lib.AppendZerosOnto
import Derived.Lib.Overlaps
import Derived.Room.Entries
set_option linter.unusedVariables false
set_option linter.unusedSimpArgs false
set_option linter.defProp false
open Go.Proofs.Tryz
namespace Go.Proofs.YtohigmjjbgpfmaaGreatDoor
open Go.RowKit
def CP (t:Int) : Bool := !decide (kH t)
theorem F7 {t:Int} (h:kH t) : CP t=false:=by simp [CP,h]
theorem F8 {t:Int} (h : ¬ kH t) : CP t=true:=by simp [CP,h]
theorem yW (t:Int) (w:World) : bI prog 131 ([.int .i64 t]++[]) w fun v _=>v = .bool (CP t):=by
 refine aE func131 rfl ntmps131 rfl ?_;have hw:=Ext.refl w;by_cases h1 : 0<=t
 ·by_cases h2:t<=2
  ·rw [F7 ⟨h1,h2⟩];refine Wz ?_;all_goals exact ae.bj rfl rfl ⟨_,rfl,hw,by simp;try omega⟩
  ·rw [F8 (fun h=>h2 h.2)];refine Wz ?_;all_goals exact ae.bj rfl rfl ⟨_,rfl,hw,by simp;try omega⟩
 ·rw [F8 (fun h=>h1 h.1)];refine Wz ?_;all_goals exact ae.bj rfl rfl ⟨_,rfl,hw,by simp;try omega⟩
set_option maxHeartbeats 4000000 in
theorem kJ (r:dZ) (z:ak) (w:World) (hr:F6 w r z) (hf:r.aj.n<=2305843009213693952) (ht:r.Types.n<=2305843009213693952) (h1 : -9223372036854775808<=r.aU∧r.aU<=9223372036854775807) (h2 : -9223372036854775808<=r.To∧r.To<=9223372036854775807) :
 bI prog 80 [.agg (dp r).toArray] w fun v _=>v = .int .i64 (if fD z then 0 else 8):=by
 refine aE func80 rfl ntmps80 rfl ?_;refine CW.seq (CW.region (SW.box rfl rfl fun b1 w1 hw lc aW => ?_));have eF:=hr.from_;have eT:=hr.o8;have NZ:=hr.free.len;have SK:=hr.types.len;refine Wz ?_;refine Wk (yV r.aU r.To _ h1 h2) fun v w2 bt hv => ?_
 (obtain ⟨hw,aW⟩:=cX bt hw aW);by_cases lP:fC r.aU r.To
 ·rw [lV lP] at hv;obtain ⟨s,rfl,hs⟩:=hv;obtain ⟨o1,o2,o3,o4,o5⟩:=id lP;have oD:∀ {p:Prop},(bU z->False)->p ∨ ¬ bU z:=fun h => .inr h
  by_cases XM : 8*(z.Types.length:Int)=z.To-z.aU
  ·refine Wz ?_;refine SW.alloc rfl fun b3 w1 ai cg ap => ?_
   have fW:=hw.up cg
   have yX:b1≠b3:=by have:=aW.lt;omega
   obtain ⟨hw,aW,hs⟩:=cj ai hw aW hs;refine SW.ag ap rfl rfl rfl rfl (fE _) fun w2 dW hg => ?_
   have hw:=hw.own fW hg;have hs:=hs.eG ap hg rfl rfl;have aW:=aW.grown hg (by simpa using yX);have ap:=dW;clear dW ai hg cg
   have cO:∀ w',Ext w w'->bI prog 105 [.slice r.Types.A r.Types.n r.Types.c,.func (.func 131) #[] ([] : List Value).toArray] w' fun v _=>v = .bool (z.Types.any CP):=fun w' h =>
    iE _ _ _ _ _ (hr.types.ext h) _ [] CP (fun x => .int .i64 x) (fun x=>rfl) (fun x _ w1 _=>yW x w1) (by omega)
   cases I2:z.Types.any CP
   ·rw [I2] at cO
    have yY:∀ t∈z.Types,kH t:=fun t R0=>by
     rw [ado] at I2;have:=I2 t R0
     simp [CP] at this;exact this
    repeat' (first|refine Wz ?_|(refine Wk (cO _ hw) ?_;intro v w1 ai hv;subst hv;obtain ⟨hw,aW⟩:=cX ai hw aW;clear ai))
    refine CW.loop (fun k:Nat=>[(1,.pointer (some ⟨b1,0,none⟩)),(5,.func (.func 131) #[] #[]),(35,.slice r.aj.A r.aj.n r.aj.c),(36,.int .i64 (r.aj.n:Int)),(37,.int .i64 (k:Int))])
     (fun k w'=>k<=r.aj.n∧Ext w w'∧aS w' b1 117 (dp r)∧(∀ (i:Nat) (h:i<z.aj.length),i<k->kV z.aU z.To z.aj[i])∧(∀ (i:Nat) (h:i+1<z.aj.length),i+1<k->mQ z.aj[i] z.aj[i+1]))
     (fun k=>r.aj.n-k) 0 ⟨rfl,rfl,rfl,rfl,rfl,trivial⟩ ⟨by omega,hw,aW,fun i h hi=>by omega,fun i h hi=>by omega⟩ ?_
    clear hw aW ap cO hs;rintro k w' ⟨hk,hw,aW,hI,hN⟩
    have hA:=hr.free.base;by_cases gh:k<r.aj.n
    ·have iw:=hr.free.lt gh;repeat' (first|refine Wz ?_|refine Wo hw ((hr.free.all gh)) ?_)
     refine SW.alloc rfl fun b7 w3 nL iB bd => ?_
     have fX:=hw.up iB
     have bL:b1≠b7:=by have:=aW.lt;omega
     (obtain ⟨hw,aW⟩:=cX nL hw aW);refine Wz ?_;refine SW.ag bd rfl rfl rfl rfl (im.one (enc:=aO) _) fun w4 bq hg => ?_
     have hw:=hw.own fX hg;have aW:=aW.grown hg (by simpa using bL);by_cases Bs:kV z.aU z.To z.aj[k]
     ·obtain ⟨R1,F9⟩:=id Bs;obtain ⟨f1,f2,f3,f4,f5⟩:=id R1;have hp:=cy f1 f2
      have cF:∀ w',Ext w w'->bI prog 132 [.agg (dp r).toArray,.agg (aO z.aj[k]).toArray] w' fun v _=>v = .bool true:=fun w' _=>by
       have:=sM r z.aj[k] w' (by omega)
       rwa [eF,eT,decide_eq_true R1] at this
      have cD:∀ w',bI prog 131 ([.int .i64 (z.aj[k]).Ty]++[]) w' fun v _=>v = .bool false:=fun w'=>by
       have:=yW (z.aj[k]).Ty w'
       rwa [F7 F9] at this
      by_cases AI:k=0
      ·subst AI;repeat' (first|refine Wz ?_|((apply CW.bF mixed;(· kernel_rfl);rotate_left;intro w1 ai;obtain ⟨hw,aW,bq⟩:=cj ai hw aW bq;clear ai;rotate_right))|refine SW.want rfl rfl ?_|refine SW.dF rfl rfl (fun w1 ai=>(cF _ (hw.trans ai))) ?_|(refine SW.tS rfl rfl rfl (fun w1 _=>cD w1) ?_)|exact SW.eI rfl)
       refine ae.again (0+1) ⟨rfl,rfl,rfl,rfl,rfl,trivial⟩ (by omega) ⟨by omega,hw,aW,fun i h hi => ?_,fun i h hi=>by omega⟩;obtain rfl:i=0:=by omega
       exact Bs
      ·obtain ⟨j,rfl⟩ : ∃ j,k=j+1:=⟨k-1,by omega⟩;have hj:j<r.aj.n:=by omega
       have pA:=hr.free.lt hj;obtain ⟨⟨g1,g2,g3,g4,g5⟩,_⟩:=hI j pA (by omega);have cE:∀ w',bI prog 133 [.agg (aO z.aj[j]).toArray] w' fun v _=>v = .int .i64 ((z.aj[j]).At+pw (z.aj[j]).Order):=fun w'=>pC _ _ ⟨g1,g2⟩ ⟨by omega,by omega⟩
       by_cases eQ:(z.aj[j]).At+pw (z.aj[j]).Order<=(z.aj[j+1]).At
       ·by_cases R2:(z.aj[j+1]).Order<4∧(z.aj[j]).Order=(z.aj[j+1]).Order∧(z.aj[j]).At=beside (z.aj[j+1]).At (z.aj[j+1]).Order
        ·obtain ⟨u1,u2,u3⟩:=id R2;repeat' (first|refine Wz ?_|((apply CW.bF mixed;(· kernel_rfl);rotate_left;intro w1 ai;obtain ⟨hw,aW,bq⟩:=cj ai hw aW bq;clear ai;rotate_right))|refine SW.st (cm (j) rfl rfl (by assumption) (by omega) (by omega)) rfl ?_|refine Wo hw ((hr.free.all hj)) ?_|refine Wn hw (hr.free.jL hj rfl) ?_|refine SW.dF rfl rfl (fun w1 ai=>(cF _ (hw.trans ai))) ?_|refine SW.dF rfl rfl (fun w1 ai=>(cE _)) ?_|(refine SW.tS rfl rfl rfl (fun w1 _=>cD w1) ?_)|(refine SW.st (fA (r:=pw (z.aj[j+1]).Order) rfl rfl (by omega) (by omega) (by simp [pw]) (by omega) (by omega)) rfl ?_)|(refine SW.st (nD (z.aj[j+1]).At (z.aj[j+1]).Order rfl rfl rfl rfl ⟨by omega,by omega,f1,u1,f5⟩) rfl ?_)|exact SW.eI rfl)
         refine ae.bj rfl rfl ⟨_,rfl,hw,?_⟩;rw [qw (fun h=>(h.next j iw).2 R2)];rfl
        ·by_cases u1:(z.aj[j+1]).Order<4
         ·by_cases u2:(z.aj[j]).Order=(z.aj[j+1]).Order
          ·have u3 : ¬ (z.aj[j]).At=beside (z.aj[j+1]).At (z.aj[j+1]).Order:=fun u3=>R2 ⟨u1,u2,u3⟩
           repeat' (first|refine Wz ?_|((apply CW.bF mixed;(· kernel_rfl);rotate_left;intro w1 ai;obtain ⟨hw,aW,bq⟩:=cj ai hw aW bq;clear ai;rotate_right))|refine SW.want rfl rfl ?_|refine SW.st (cm (j) rfl rfl (by assumption) (by omega) (by omega)) rfl ?_|refine Wo hw ((hr.free.all hj)) ?_|refine Wn hw (hr.free.jL hj rfl) ?_|refine SW.dF rfl rfl (fun w1 ai=>(cF _ (hw.trans ai))) ?_|refine SW.dF rfl rfl (fun w1 ai=>(cE _)) ?_|(refine SW.tS rfl rfl rfl (fun w1 _=>cD w1) ?_)|(refine SW.st (fA (r:=pw (z.aj[j+1]).Order) rfl rfl (by omega) (by omega) (by simp [pw]) (by omega) (by omega)) rfl ?_)|(refine SW.st (nD (z.aj[j+1]).At (z.aj[j+1]).Order rfl rfl rfl rfl ⟨by omega,by omega,f1,u1,f5⟩) rfl ?_)|exact SW.eI rfl)
           refine ae.again (j+1+1) ⟨rfl,rfl,rfl,rfl,rfl,trivial⟩ (by omega) ⟨by omega,hw,aW,fun i h hi => ?_,fun i h hi => ?_⟩
           ·by_cases o9:i=j+1
            ·subst o9;exact Bs
            ·exact hI i h (by omega)
           ·by_cases o9:i=j
            ·subst o9;exact ⟨eQ,R2⟩
            ·exact hN i h (by omega)
          ·repeat' (first|refine Wz ?_|((apply CW.bF mixed;(· kernel_rfl);rotate_left;intro w1 ai;obtain ⟨hw,aW,bq⟩:=cj ai hw aW bq;clear ai;rotate_right))|refine SW.want rfl rfl ?_|refine SW.st (cm (j) rfl rfl (by assumption) (by omega) (by omega)) rfl ?_|refine Wo hw ((hr.free.all hj)) ?_|refine Wn hw (hr.free.jL hj rfl) ?_|refine SW.dF rfl rfl (fun w1 ai=>(cF _ (hw.trans ai))) ?_|refine SW.dF rfl rfl (fun w1 ai=>(cE _)) ?_|(refine SW.tS rfl rfl rfl (fun w1 _=>cD w1) ?_)|exact SW.eI rfl)
           refine ae.again (j+1+1) ⟨rfl,rfl,rfl,rfl,rfl,trivial⟩ (by omega) ⟨by omega,hw,aW,fun i h hi => ?_,fun i h hi => ?_⟩
           ·by_cases o9:i=j+1
            ·subst o9;exact Bs
            ·exact hI i h (by omega)
           ·by_cases o9:i=j
            ·subst o9;exact ⟨eQ,R2⟩
            ·exact hN i h (by omega)
         ·repeat' (first|refine Wz ?_|((apply CW.bF mixed;(· kernel_rfl);rotate_left;intro w1 ai;obtain ⟨hw,aW,bq⟩:=cj ai hw aW bq;clear ai;rotate_right))|refine SW.want rfl rfl ?_|refine SW.st (cm (j) rfl rfl (by assumption) (by omega) (by omega)) rfl ?_|refine Wo hw ((hr.free.all hj)) ?_|refine SW.dF rfl rfl (fun w1 ai=>(cF _ (hw.trans ai))) ?_|refine SW.dF rfl rfl (fun w1 ai=>(cE _)) ?_|(refine SW.tS rfl rfl rfl (fun w1 _=>cD w1) ?_)|exact SW.eI rfl)
          refine ae.again (j+1+1) ⟨rfl,rfl,rfl,rfl,rfl,trivial⟩ (by omega) ⟨by omega,hw,aW,fun i h hi => ?_,fun i h hi => ?_⟩
          ·by_cases o9:i=j+1
           ·subst o9;exact Bs
           ·exact hI i h (by omega)
          ·by_cases o9:i=j
           ·subst o9;exact ⟨eQ,R2⟩
           ·exact hN i h (by omega)
       ·repeat' (first|refine Wz ?_|((apply CW.bF mixed;(· kernel_rfl);rotate_left;intro w1 ai;obtain ⟨hw,aW,bq⟩:=cj ai hw aW bq;clear ai;rotate_right))|refine SW.want rfl rfl ?_|refine SW.st (cm (j) rfl rfl (by assumption) (by omega) (by omega)) rfl ?_|refine Wo hw ((hr.free.all hj)) ?_|refine SW.dF rfl rfl (fun w1 ai=>(cF _ (hw.trans ai))) ?_|refine SW.dF rfl rfl (fun w1 ai=>(cE _)) ?_|(refine SW.tS rfl rfl rfl (fun w1 _=>cD w1) ?_)|exact SW.eI rfl)
        refine ae.bj rfl rfl ⟨_,rfl,hw,?_⟩;rw [qw (fun h=>eQ (h.next j iw).1)];rfl
     ·have Pr:fD z=false:=qw (fun h=>Bs (h.eG k iw))
      by_cases R1:j9 z.aU z.To (z.aj[k]).At (z.aj[k]).Order
      ·have F9 : ¬ kH (z.aj[k]).Ty:=fun h=>Bs ⟨R1,h⟩
       have cF:∀ w',Ext w w'->bI prog 132 [.agg (dp r).toArray,.agg (aO z.aj[k]).toArray] w' fun v _=>v = .bool true:=fun w' _=>by
        have:=sM r z.aj[k] w' (by omega)
        rwa [eF,eT,decide_eq_true R1] at this
       have cD:∀ w',bI prog 131 ([.int .i64 (z.aj[k]).Ty]++[]) w' fun v _=>v = .bool true:=fun w'=>by
        have:=yW (z.aj[k]).Ty w'
        rwa [F8 F9] at this
       repeat' (first|refine Wz ?_|((apply CW.bF mixed;(· kernel_rfl);rotate_left;intro w1 ai;obtain ⟨hw,aW,bq⟩:=cj ai hw aW bq;clear ai;rotate_right))|refine SW.want rfl rfl ?_|refine SW.dF rfl rfl (fun w1 ai=>(cF _ (hw.trans ai))) ?_|(refine SW.tS rfl rfl rfl (fun w1 _=>cD w1) ?_)|exact SW.eI rfl)
       exact ae.bj rfl rfl ⟨_,rfl,hw,by rw [Pr];rfl⟩
      ·have cF:∀ w',Ext w w'->bI prog 132 [.agg (dp r).toArray,.agg (aO z.aj[k]).toArray] w' fun v _=>v = .bool false:=fun w' _=>by
        have:=sM r z.aj[k] w' (by omega)
        rwa [eF,eT,decide_eq_false R1] at this
       repeat' (first|refine Wz ?_|((apply CW.bF mixed;(· kernel_rfl);rotate_left;intro w1 ai;obtain ⟨hw,aW,bq⟩:=cj ai hw aW bq;clear ai;rotate_right))|refine SW.skip rfl rfl rfl rfl ?_|refine SW.dF rfl rfl (fun w1 ai=>(cF _ (hw.trans ai))) ?_|exact SW.eI rfl)
       exact ae.bj rfl rfl ⟨_,rfl,hw,by rw [Pr];rfl⟩
    ·refine Wz ?_;refine ae.bj rfl rfl ⟨_,rfl,hw,?_⟩;rw [xV ⟨by rw [<- eF,<- eT];exact lP,XM,yY,fun i h=>hI i h (by omega),fun i h=>hN i h (by omega)⟩];rfl
   ·rw [I2] at cO;repeat' (first|refine Wz ?_|(refine Wk (cO _ hw) ?_;intro v w1 ai hv;subst hv;obtain ⟨hw,aW⟩:=cX ai hw aW;clear ai))
    refine ae.bj rfl rfl ⟨_,rfl,hw,?_⟩
    rw [qw (fun h=>by
     rw [ade] at I2;obtain ⟨t,h1,h2⟩:=I2;rw [F7 (h.types t h1)] at h2;cases h2)];rfl
  ·refine Wz ?_;refine SW.alloc rfl fun b3 w1 ai cg ap => ?_
   have fW:=hw.up cg
   have yX:b1≠b3:=by have:=aW.lt;omega
   obtain ⟨hw,aW,hs⟩:=cj ai hw aW hs;refine SW.ag ap rfl rfl rfl rfl (fE _) fun w2 dW hg => ?_
   have hw:=hw.own fW hg;have hs:=hs.eG ap hg rfl rfl;have aW:=aW.grown hg (by simpa using yX);have ap:=dW;clear dW ai hg cg;refine Wz ?_;refine ae.bj rfl rfl ⟨_,rfl,hw,?_⟩;rw [qw (fun h=>XM h.len)];rfl
 ·rw [tT lP] at hv;obtain ⟨s,rfl,hs⟩:=hv;refine Wz ?_;refine SW.alloc rfl fun b3 w1 ai cg ap => ?_
  have fW:=hw.up cg
  have yX:b1≠b3:=by have:=aW.lt;omega
  obtain ⟨hw,aW,hs⟩:=cj ai hw aW hs;refine SW.ag ap rfl rfl rfl rfl (fE _) fun w2 dW hg => ?_
  have hw:=hw.own fW hg;have hs:=hs.eG ap hg rfl rfl;have aW:=aW.grown hg (by simpa using yX);have ap:=dW;clear dW ai hg cg;refine Wz ?_;refine ae.bj rfl rfl ⟨_,rfl,hw,?_⟩;rw [qw (fun h=>lP (by rw [eF,eT];exact h.ok))];rfl
variable {α:Type} {a f o:Int} {l:List Block} {i j k:Nat} {z:ak}
def AJ (a o:Int) (b:Block) : Bool:=decide (b.At=a) && decide (b.Order=o)
def mn (l:List Block) (a o:Int) : List Block:=l.filter fun b => !AJ a o b
def iV:Nat->List Block->Int->Int->List Block×Int×Int
 | 0,l,a,o=>(l,a,o)
 | f+1,l,a,o=>if o<4 then (if l.any (AJ (beside a o) o) then iV f (mn l (beside a o) o) (min a (beside a o)) (o+1) else (l,a,o)) else (l,a,o)
def bE (l:List Block) (a:Int) : Nat:=l.findIdx fun b=>decide (a<=b.At)
def aM (l:List α) (i:Nat) (b : α) : List α := l.take i++[b]++l.drop i
def ka (l:List Block) (a o:Int) : Bool:=l.any fun x=>decide (x.At<a+pw o) && decide (a<x.At+pw x.Order)
def rT (l:List Block) : Prop:=l.Pairwise fun x y=>x.At+pw x.Order<=y.At
structure D5 (f t:Int) (l:List Block) (a o:Int) : Prop where
 rT:rT l
 eG:∀ b∈l,kV f t b
 fit:j9 f t a o
 NB:∀ b∈l,b.At+pw b.Order<=a∨a+pw o<=b.At
theorem jF (h:rT l) (hj:j<l.length) (o9:i<j) : (l[i]'(by omega)).At+pw (l[i]'(by omega)).Order<=l[j].At:=by
 unfold rT at h;rw [ac8] at h;exact h i j (by omega) hj o9
theorem pD (h:bU z) : rT z.aj:=by
 have key:∀ (d i:Nat) (hj:i+d+1<z.aj.length),(z.aj[i]'(by omega)).At+pw (z.aj[i]'(by omega)).Order<=z.aj[i+d+1].At:=by
  intro d;induction d with
  | zero=>intro i hj;exact (h.next i hj).1
  | succ d ih =>
    intro i hj;have h1:=ih i (by omega);have h2:=(h.next (i+d+1) (by omega)).1;have hb:=(h.eG (i+d+1) (by omega)).1;have:=cy hb.1 hb.2.1
    have e:z.aj[i+(d+1)+1]=z.aj[i+d+1+1]'(by omega):=rfl
    rw [e];omega
 unfold rT;rw [ac8];intro i j hi hj o9;have:=key (j-i-1) i (by omega)
 have e:i+(j-i-1)+1=j:=by omega
 simp only [e] at this;exact this
theorem Lk {t:Int} (h:rT l) (hb:∀ b∈l,kV f t b) {x y:Block} (hx:x∈l) (hy:y∈l) : x=y∨x.At+pw x.Order<=y.At∨y.At+pw y.Order<=x.At:=by
 obtain ⟨i,hi,rfl⟩:=ac1 hx;obtain ⟨j,hj,rfl⟩:=ac1 hy;rcases adD i j with h1|h1|h1
 ·exact .inr (.inl (jF h hj h1))
 ·subst h1;exact .inl rfl
 ·exact .inr (.inr (jF h hi h1))
theorem Qs {t:Int} (h:rT l) (hb:∀ b∈l,kV f t b) (hi:i<l.length) (hj:j<l.length) (e:l[i].At=l[j].At) : i=j:=by
 have p1:=hb _ (ac0 hi);have p2:=hb _ (ac0 hj);have q1:=cy p1.1.1 p1.1.2.1;have q2:=cy p2.1.1 p2.1.2.1;rcases adD i j with h1|h1|h1
 ·have:=jF h hj h1;omega
 ·exact h1
 ·have:=jF h hi h1;omega
theorem yZ (h : 0<=a) (h0 : 0<=o) (h4:o<4) (hm:a % pw o=0) : (min a (beside a o)) % pw (o+1)=0∧(beside a o=a+pw o∨beside a o=a-pw o)∧(beside a o) % pw o=0:=by
 rw [qv h0 (by omega)];unfold beside;have hp:=fB h0 (show o<=4 by omega);generalize pw o=q at *
 rcases hp with ⟨e,rfl⟩|⟨e,rfl⟩|⟨e,rfl⟩|⟨e,rfl⟩|⟨e,rfl⟩<;>split<;>omega
theorem jX {b:Block}:AJ a o b=true↔b.At=a∧b.Order=o:=by simp [AJ]
theorem D5.step {t:Int} (h:D5 f t l a o) (h0 : 0<=f) (ho:o<4) (iC:l.any (AJ (beside a o) o)=true) : D5 f t (mn l (beside a o) o) (min a (beside a o)) (o+1):=by
 obtain ⟨b,hb,hi⟩:=ade.1 iC;obtain ⟨e1,e2⟩:=jX.1 hi;obtain ⟨f1,f2,f3,f4,f5⟩:=h.fit;obtain ⟨g1,g2,g3,g4,g5⟩:=(h.eG b hb).1;obtain ⟨k1,k2,k3⟩:=yZ (by omega) f1 ho f5;have hp:=qv f1 f2;have UD:=cy f1 f2;refine ⟨h.rT.sublist List.filter_sublist,fun x hx=>h.eG x ((afb.1 hx).1),⟨by omega,by omega,by omega,by omega,k1⟩,fun x hx => ?_⟩;have lf:=(afb.1 hx).1
 have nN:AJ (beside a o) o x=false:=by
  have:=(afb.1 hx).2
  simpa using this
 have hd:=h.NB x lf;have Ve:=cy (h.eG x lf).1.1 (h.eG x lf).1.2.1;rcases Lk h.rT h.eG hb lf with e|e|e
 ·subst e;rw [hi] at nN;cases nN
 ·rw [hp];rw [e2] at e;omega
 ·rw [hp];omega
theorem D6 {t:Int} (h0 : 0<=f) : ∀ (k:Nat) {l:List Block} {a o:Int},D5 f t l a o->D5 f t (iV k l a o).1 (iV k l a o).2.1 (iV k l a o).2.2∧(iV k l a o).1.length<=l.length
 | 0,l,a,o,h=>⟨h,ac3 _⟩
 | k+1,l,a,o,h=>by
   simp only [iV];split
   ·rename_i ho;split
    ·rename_i iC;have ih:=D6 h0 k (h.step h0 ho iC);exact ⟨ih.1,ac2 ih.2 (aeH _ _)⟩
    ·exact ⟨h,ac3 _⟩
   ·exact ⟨h,ac3 _⟩
theorem HV (hi:i<=l.length) (h1:∀ (k:Nat) (h:k<l.length),k<i->l[k].At<a) (h2:∀ h:i<l.length,a<=l[i].At) : bE l a=i:=by
 unfold bE;by_cases h:i<l.length
 ·exact (List.findIdx_eq h).2 ⟨by simpa using h2 h,fun j hj=>by simpa using h1 j (by omega) hj⟩
 ·have e:i=l.length:=by omega
  subst e;rw [List.findIdx_eq_length];intro x hx;obtain ⟨k,hk,rfl⟩:=ac1 hx;simpa using h1 k hk hk
theorem HW (l:List Block) (a:Int) : bE l a<=l.length:=List.findIdx_le_length
theorem pE (hk:k<bE l a) : (l[k]'(adX hk (HW l a))).At<a:=by
 have:=List.not_of_lt_findIdx hk
 simpa using this
theorem D7 (h:bE l a<l.length) : a<=(l[bE l a]).At:=by
 have:=List.findIdx_getElem (w:=h)
 exact of_decide_eq_true this
def vK (l:List Block) (a o:Int) : Bool:=if h:bE l a<l.length then decide ((l[bE l a]).At=a∧(l[bE l a]).Order=o) else false
theorem I3 {t:Int} (hu:rT l) (hb:∀ b∈l,kV f t b) (a o:Int) : l.any (AJ a o)=vK l a o:=by
 unfold vK;by_cases h:bE l a<l.length
 ·rw [dif_pos h];by_cases hh:(l[bE l a]).At=a∧(l[bE l a]).Order=o
  ·rw [decide_eq_true hh];exact ade.2 ⟨_,ac0 h,jX.2 hh⟩
  ·rw [decide_eq_false hh,ado];intro x hx hi;obtain ⟨e1,e2⟩:=jX.1 hi;obtain ⟨j,hj,rfl⟩:=ac1 hx;have h1:=D7 h;rcases adD j (bE l a) with eQ|eQ|eQ
   ·have:=pE eQ;omega
   ·subst eQ;exact hh ⟨e1,e2⟩
   ·have:=jF hu hj eQ
    have hp:=hb _ (ac0 h);have:=cy hp.1.1 hp.1.2.1
    omega
 ·rw [dif_neg h,ado];intro x hx hi;obtain ⟨e1,e2⟩:=jX.1 hi;obtain ⟨j,hj,rfl⟩:=ac1 hx;have:=pE (show j<bE l a by omega)
  omega
theorem AS {t:Int} (hu:rT l) (hb:∀ b∈l,kV f t b) (hi:i<l.length) (h1:l[i].At=a) (h2:l[i].Order=o) : l.eraseIdx i=mn l a o:=by
 have bL:∀ (j:Nat) (hj:j<l.length),j≠i->AJ a o l[j]=false:=fun j hj js=>by
  cases hh:AJ a o l[j] with
  | false=>rfl
  | true =>
    obtain ⟨e1,e2⟩:=jX.1 hh;exact absurd (Qs hu hb hj hi (by omega)) js
 have e:l=l.take i++l[i]::l.drop (i+1):=by simp
 have hL:∀ x∈l.take i,AJ a o x=false:=fun x hx=>by
  obtain ⟨j,hj,rfl⟩:=ac1 hx;simp at hj;rw [adH];exact bL j (by omega) (by omega)
 have hR:∀ x∈l.drop (i+1),AJ a o x=false:=fun x hx=>by
  obtain ⟨j,hj,rfl⟩:=ac1 hx;simp at hj;rw [adZ];exact bL _ (by omega) (by omega)
 have hm:AJ a o l[i]=true:=jX.2 ⟨h1,h2⟩
 unfold mn;rw [adB]
 conv=>rhs;rw [e]
 rw [List.filter_append,List.filter_cons];simp only [hm,Bool.not_true,Bool.false_eq_true,if_false];rw [aex.2 (fun x hx=>by simp [hL x hx]),aex.2 (fun x hx=>by simp [hR x hx])]
noncomputable def fM (z:ak) (a o:Int) : Int×ak :=
 if fD z then (if j9 z.aU z.To a o then (if ka z.aj a o then (5,⟨0,0,[],[]⟩) else
  (0,⟨z.aU,z.To,aM (iV 5 z.aj a o).1 (bE (iV 5 z.aj a o).1 (iV 5 z.aj a o).2.1) ⟨(iV 5 z.aj a o).2.1,(iV 5 z.aj a o).2.2,z.Types.getD (((iV 5 z.aj a o).2.1-z.aU) / 8).toNat 0⟩,z.Types⟩)) else (1,⟨0,0,[],[]⟩)) else (8,⟨0,0,[],[]⟩)
theorem y4 {f t:Int} (hz:bU z) (hf:j9 z.aU z.To a o) (h:ka z.aj a o=false) : D5 z.aU z.To z.aj a o:=by
 refine ⟨pD hz,fun b hb => ?_,hf,fun b hb => ?_⟩
 ·obtain ⟨i,hi,rfl⟩:=ac1 hb;exact hz.eG i hi
 ·unfold ka at h;rw [ado] at h;have:=h b hb
  simp at this;omega
section
variable {P:Program} {n:Nat} {Q:Exit->Act->World->Prop} {L:Env} {w:World}
def N0 (n:Nat) (K:Env->World->Prop) (Q:Exit->Act->World->Prop) : Exit->Act->World->Prop
 | .normal,a,w' => ∃ L',Fit n a L'∧K L' w'
 | e,a,w'=>Q e a w'
theorem CW.Qt {c:Code} (K:Env->World->Prop) (h:CW P n c (N0 n K Q) L w) (k:∀ L' w',K L' w'->ae n Q .normal L' w') : CW P n c Q L w :=
 ⟨fun a ha=>wp_mono (h.out a ha) fun e a' w' h'=>by
  cases e with
  | normal=>obtain ⟨L',hf,hk⟩:=h';exact (k L' w' hk).out a' hf
  | _=>exact h'⟩
theorem CW.I4 {c:Code} {id:Nat} (K:Env->World->Prop) (h:CW P n c (Exit.inBlock id (N0 n K Q)) L w) (k:∀ L' w',K L' w'->ae n Q .normal L' w') : CW P n c (Exit.inBlock id Q) L w :=
 ⟨fun a ha=>wp_mono (h.out a ha) fun e a' w' h'=>by
  cases e with
  | normal=>obtain ⟨L',hf,hk⟩:=h';exact (k L' w' hk).out a' hf
  | exit j =>
    simp only [Exit.inBlock] at h' ⊢;split
    ·rename_i hj;rw [if_pos hj] at h';obtain ⟨L',hf,hk⟩:=h';exact (k L' w' hk).out a' hf
    ·rename_i hj;rw [if_neg hj] at h';exact h'
  | _=>exact h'⟩
theorem ae.lW {K:Env->World->Prop} (h:K L w) : ae n (N0 n K Q) .normal L w:=⟨fun _ ha=>⟨L,ha,h⟩⟩
theorem ae.Ll {K:Env->World->Prop} {id:Nat} (h:ae n Q (.exit id) L w) : ae n (N0 n K Q) (.exit id) L w:=⟨fun a ha=>h.out a ha⟩
end
variable {af:Array Edge} {ops:Array Oper} {ts:Array TypeId} {Q:Exit->Act->World->Prop} {fn:Func} {lk:IntKind} {args cs jO:List Value} {bytes c2 d dd lo m sz:Nat} {y:Operand} {A X:Option Addr} {row SN:Option Nat} {P:Program} {T e t tn:TypeId} {w w' w1 w2:World} {enc:α -> List Value}
def lay (jO:List Value) (o:Nat) (cs:List Value) : List Value:=jO.take o++cs++jO.drop (o+cs.length)
theorem HX (jO:List Value) (o:Nat) : lay jO o []=jO:=by simp [lay]
theorem eU (X Y Z cs:List Value) (h:cs.length=Y.length) {o:Nat} (ho:o=X.length) : lay (X++Y++Z) o cs=X++cs++Z:=by
 subst ho;unfold lay;rw [ac6 X Y Z,List.take_left,h];congr 1
 rw [<- ac6,List.drop_append];have e:List.drop (X.length+Y.length) (X++Y)=[]:=aec (by simp)
 rw [e];simp
theorem Own.opened [E:im enc sz] {n c:Nat} {l:List α} (h:Own w lo e sz enc A n c l) (hc : 0<c) :
 ∃ g rest,A=some ⟨g,0,none⟩∧lo<=g∧aS w g e (l.flatMap enc++rest)∧n*sz+rest.length=c*sz∧n<=c∧c<=maxLen∧aI A c=some g:=by
 rcases h.row with ⟨_,h0⟩|⟨_,g,jO,rfl,h1,h2,h3,h4,h5,h6⟩
 ·omega
 ·refine ⟨g,jO.toList.drop (n*sz),rfl,h1,?_,?_,h3,h4,by simp [aI,Nat.pos_iff_ne_zero.1 hc]⟩
  ·unfold aS;rw [<- h6,ac4];simpa using h2
  ·have:n*sz<=c*sz:=adt _ h3
   simp;omega
theorem Own.closed [E:im enc sz] {n c g:Nat} {l:List α} {rest:List Value} (hl:l.length=n) (hB:aS w g e (l.flatMap enc++rest)) (hr:n*sz+rest.length=c*sz) (hn:n<=c) (hc : 0<c) (hm:c<=maxLen) (dz:lo<=g) :
 Own w lo e sz enc (some ⟨g,0,none⟩) n c l:=by
 have oZ:(l.flatMap enc).length=n*sz:=by rw [aV,hl]
 refine ⟨hl,.inr ⟨hc,g,_,rfl,dz,hB,hn,hm,?_,?_⟩⟩
 ·simp [oZ];omega
 ·rw [<- oZ];simp
theorem Own.pre [E:im enc sz] {n c:Nat} {l:List α} (h:Own w lo e sz enc A n c l) (hi:i<=n) : Own w lo e sz enc A i c (l.take i):=by
 rcases adj c with hc|hc
 ·have h1:=h.le.1;have:n=0:=by omega
  subst hc this;obtain rfl:i=0:=by omega
  simpa using Own.fv w lo e sz enc A
 ·obtain ⟨g,rest,rfl,h1,h2,h3,h4,h5,_⟩:=h.opened hc;refine Own.closed (rest:=(l.drop i).flatMap enc++rest) (by simp [h.len];omega) ?_ ?_ (by omega) hc h5 h1
  ·rw [<- ac6,<- adi,ac4];exact h2
  ·have e1:((l.drop i).flatMap enc).length=(n-i)*sz:=by rw [aV];simp [h.len]
   have e2:i+(n-i)=n:=by omega
   rw [adb,e1,<- h3,<- aeX,<- adQ,e2]
theorem Sl.drop {n:Nat} {l:List α} (h:Sl w sz enc A n l) (i c:Nat) (hi:i<=n) (hc:n<=c) : Sl w sz enc (if c=i then A else A.map (·.add (i*sz))) (n-i) (l.drop i):=by
 refine ⟨by simp [h.len],fun hn => ?_,fun j hj k u hu => ?_⟩
 ·have:=h.base (by omega)
  split
  ·exact this
  ·simpa using this
 ·simp at hj;have hl:=h.len;rw [if_neg (by omega)];have hb:=h.base (by omega);obtain ⟨a,rfl⟩:=adw.1 hb;have wS:=h.cell (i+j) (by omega) k u (by simpa using hu);simp only [Option.getD_some,Option.map_some,add_add] at wS ⊢;rw [<- wS];congr 2
  rw [adQ]
theorem Sl.pre {n:Nat} {l:List α} (h:Sl w sz enc A n l) (hi:i<=n) : Sl w sz enc A i (l.take i):=by
 refine ⟨by simp [h.len];omega,fun hn=>h.base (by omega),fun j hj k u hu => ?_⟩;simp at hj;exact h.cell j (by omega) k u (by simpa using hu)
section
variable {P:Program} {w:World}
theorem ia {g:Nat} (h:aS w g e jO) : aS (w.setRow g cs.toArray) g e cs∧w.grownBy (w.setRow g cs.toArray) (some g) :=
 ⟨setRow_heap w g _ _ e (0,0) h,⟨rfl,rfl,rfl,by simp,fun j _ hj=>by
  show (w.setRow g _).heap[j]?=_
  simp only [World.setRow,Array.getElem?_modify];rw [if_neg (fun e=>hj (by simp [e]))]⟩⟩
theorem CQ {z:Value} [S:bz P t e sz] [T:dn P e z sz bytes] (ty:TypeId) {n c g o:Nat} (hk:min m n=k) (hlen:cs.length=k*sz) (hB:aS w g e jO) (pd:o+cs.length<=jO.length)
 (kg : 0<k->A=some ⟨g,o,none⟩ ∧ ∃ ad,X=some ad ∧ ∀ j v,cs[j]?=some v->w.cell? (ad.add j)=some v) (h1:∀ v∈cs,v.oneCell'=true) :
 ∃ w',(Builtin.copy_ #[t,t] ty #[.slice A n c,.slice X m c2]).run P w = .ok (.int .i64 (k:Int)) w'∧aS w' g e (lay jO o cs)∧w.grownBy w' (some g):=by
 obtain ⟨i,hi,hz,hs,xU⟩:=ee P e (z:=z) (sz:=sz) (bytes:=bytes);have N1:Nat.min m n=k:=hk
 by_cases h0:k=0
 ·have lJ:cs=[]:=adl (by rw [hlen,h0];simp)
  subst lJ;refine ⟨w,?_,by rw [HX];exact hB,World.grownBy.refl _ _⟩;cases A<;>cases X<;>simp [Builtin.copy_,run_underlying S.ou,Builtin.lenOf,Builtin.firstCells,sizeOf,typeInfo,hi,N1,h0,loadCells,loadCellsFrom,storeCells,goInt]
 ·obtain ⟨rfl,ad,rfl,lL⟩:=kg (by omega);have hl:=run_loadCells_list (P:=P) w ad cs lL;have AH:=run_storeCells_at P g o e cs 0 jO.toArray w hB (by simpa using pd) h1;have e1:(jO.toArray.toList.take (o+0)++cs++jO.toArray.toList.drop (o+0+cs.length))=lay jO o cs:=by simp [lay]
  rw [e1] at AH;rw [hlen] at hl;refine ⟨_,?_,(ia hB).1,(ia hB).2⟩;simp [Builtin.copy_,run_underlying S.ou,Builtin.lenOf,Builtin.firstCells,sizeOf,typeInfo,hi,hs,N1,hl,AH,goInt]
theorem AT {z:Value} [S:bz P t e sz] [T:dn P e z sz bytes] (ty:TypeId) {n c g o:Nat} (hB:aS w g e jO) (pd:o+n*sz<=jO.length) (kg : 0<n->A=some ⟨g,o,none⟩) (N2:∀ v∈z.cells.toList,v.oneCell'=true) :
 ∃ w' cs,(Builtin.clear_ #[t] ty #[.slice A n c]).run P w = .ok (.tuple #[]) w'∧cs.length=n*sz∧aS w' g e (lay jO o cs)∧w.grownBy w' (some g):=by
 obtain ⟨i,hi,hz,hs,xU⟩:=ee P e (z:=z) (sz:=sz) (bytes:=bytes);by_cases h0:n=0
 ·subst h0;refine ⟨w,[],?_,by simp,by rw [HX];exact hB,World.grownBy.refl _ _⟩;cases A<;>simp [Builtin.clear_,run_underlying S.ou]
 ·obtain rfl:=kg (by omega);obtain ⟨k,rfl⟩ : ∃ k,n=k+1:=⟨n-1,by omega⟩;have hlen:(Builtin.zeroCells z.cells (k+1)).toList.length=(k+1)*sz:=by simp [Go.size_zeroCells,T.zc]
  have h1:∀ v∈(Builtin.zeroCells z.cells (k+1)).toList,v.oneCell'=true:=by
   intro v hv;simp only [Builtin.zeroCells,Array.toList_map,Array.toList_range,List.mem_map] at hv;obtain ⟨j,hj,rfl⟩:=hv;have hp:=T.pos;have:j % z.cells.size<z.cells.size:=Nat.mod_lt _ (by rw [T.zc];exact hp)
   rw [getElem!_pos z.cells _ this];exact N2 _ (Array.getElem_mem_toList _)
  have AH:=run_storeCells_at P g o e (Builtin.zeroCells z.cells (k+1)).toList 0 jO.toArray w hB (by rw [hlen];simpa using pd) h1;have e1:(jO.toArray.toList.take (o+0)++(Builtin.zeroCells z.cells (k+1)).toList++jO.toArray.toList.drop (o+0+(Builtin.zeroCells z.cells (k+1)).toList.length))=lay jO o (Builtin.zeroCells z.cells (k+1)).toList:=by simp [lay]
  rw [e1] at AH;refine ⟨_,_,?_,hlen,(ia hB).1,(ia hB).2⟩;simp [Builtin.clear_,run_underlying S.ou,zeroValue,typeInfo,hi,hz,AH]
end
section
variable {P:Program} {n:Nat} {ops:Array Oper} {Q:Exit->Act->World->Prop} {rest:List Oper} {L:Env} {w:World} {d:Option Nat} {T:TypeId} {pos:String} {af:Array Edge} {g:Option (Nat×Bool)}
theorem SW.copy {d:Nat} {t e:TypeId} {z:Value} {sz bytes:Nat} [S:bz P t e sz] [E:dn P e z sz bytes] {x y:Operand} {A X:Option Addr} {m c m2 c2 k g:Nat} (o:Nat) {jO:List Value} (cs:List Value) (hB:aS w g e jO) (hx:cK L x=some (.slice A m c)) (hy:cK L y=some (.slice X m2 c2)) (hn:Nat.blt d n=true)
 (hk:min m2 m=k) (hlen:cs.length=k*sz) (pd:o+cs.length<=jO.length) (kg : 0<k->A=some ⟨g,o,none⟩ ∧ ∃ ad,X=some ad ∧ ∀ j v,cs[j]?=some v->w.cell? (ad.add j)=some v) (h1:∀ v∈cs,v.oneCell'=true)
 (h:∀ w',aS w' g e (lay jO o cs)->w.grownBy w' (some g)->SW P n ops (.gL Q) rest ((d,.int .i64 (k:Int))::L) w') :
 SW P n ops (.gL Q) (⟨some d,.call ⟨.builtin .copy,#[x,y],#[t,t]⟩,T,pos,af,none⟩::rest) L w :=
 ⟨fun a ha=>by
  obtain ⟨w',hr,h2,h3⟩:=CQ (P:=P) (t:=t) T (c:=c) (c2:=c2) hk hlen hB pd kg h1;simp only [swp,wpList,Region.wanted,if_true];refine .inl ?_;unfold Oper.wp
  have:(execOp a.eval ⟨some d,.call ⟨.builtin .copy,#[x,y],#[t,t]⟩,T,pos,af,none⟩).run P w = .ok (.value (.int .i64 (k:Int))) w':=by
   simp [execOp,resolve,invoke,builtin,ha.eval hx,ha.eval hy,hr]
  rw [this,Oper.upon_value];exact (h w' h2 h3).out _ (ha.put hn _)⟩
theorem SW.SL {d:Nat} {t e:TypeId} {z:Value} {sz bytes:Nat} [S:bz P t e sz] [E:dn P e z sz bytes] {x y:Operand} {A X:Option Addr} {m c m2 c2:Nat} (hx:cK L x=some (.slice A m c)) (hy:cK L y=some (.slice X m2 c2)) (hn:Nat.blt d n=true) (hk:min m2 m=0)
 (h:SW P n ops (.gL Q) rest ((d,.int .i64 0)::L) w) : SW P n ops (.gL Q) (⟨some d,.call ⟨.builtin .copy,#[x,y],#[t,t]⟩,T,pos,af,none⟩::rest) L w :=
 ⟨fun a ha=>by
  obtain ⟨i,hi,hz,hs,xU⟩:=ee P e (z:=z) (sz:=sz) (bytes:=bytes);have N1:Nat.min m2 m=0:=hk
  simp only [swp,wpList,Region.wanted,if_true];refine .inl ?_;unfold Oper.wp
  have hr:(Builtin.copy_ #[t,t] T #[.slice A m c,.slice X m2 c2]).run P w = .ok (.int .i64 0) w:=by
   cases A<;>cases X<;>simp [Builtin.copy_,run_underlying S.ou,Builtin.lenOf,Builtin.firstCells,sizeOf,typeInfo,hi,N1,loadCells,loadCellsFrom,storeCells,goInt]
  have:(execOp a.eval ⟨some d,.call ⟨.builtin .copy,#[x,y],#[t,t]⟩,T,pos,af,none⟩).run P w = .ok (.value (.int .i64 0)) w:=by
   simp [execOp,resolve,invoke,builtin,ha.eval hx,ha.eval hy,hr]
  rw [this,Oper.upon_value];exact h.out _ (ha.put hn _)⟩
theorem SW.clear {z:Value} [S:bz P t e sz] [E:dn P e z sz bytes] {x:Operand} {c g:Nat} (o:Nat) (hB:aS w g e jO) (hx:cK L x=some (.slice A m c)) (pd:o+m*sz<=jO.length) (kg : 0<m->A=some ⟨g,o,none⟩) (N2:∀ v∈z.cells.toList,v.oneCell'=true)
 (h:∀ w' cs,cs.length=m*sz->aS w' g e (lay jO o cs)->w.grownBy w' (some g)->SW P n ops (.gL Q) rest L w') :
 SW P n ops (.gL Q) (⟨none,.call ⟨.builtin .clear,#[x],#[t]⟩,T,pos,af,none⟩::rest) L w :=
 ⟨fun a ha=>by
  obtain ⟨w',cs,hr,h1,h2,h3⟩:=AT (P:=P) (t:=t) T (c:=c) hB pd kg N2;simp only [swp,wpList,Region.wanted,if_true];refine .inl ?_;unfold Oper.wp
  have:(execOp a.eval ⟨none,.call ⟨.builtin .clear,#[x],#[t]⟩,T,pos,af,none⟩).run P w = .ok (.value (.tuple #[])) w':=by
   simp [execOp,resolve,invoke,builtin,ha.eval hx,hr]
  rw [this,Oper.upon_value];exact (h w' cs h1 h2 h3).out _ (ha.KZ _)⟩
theorem jP [c:bz P t e sz] {x u:Operand} {cap:Nat} (hx:cK L x=some (.slice A m cap)) (hy:cK L y=some (.int .i64 (i:Int))) (hu:cK L u=some (.int .i64 (j:Int))) (hi:i<=j) (hj:j<=cap) :
 St P ⟨d,.slice t x (some y) (some u) none,T,pos,af,g⟩ L w (.slice (if cap=i then A else A.map (·.add (i*sz))) (j-i) (cap-i)) :=
 ⟨fun _ a ha w' _=>by
  have e1:=ha.eval hx;have e2:=ha.eval hy;have e3:=ha.eval hu;generalize a.eval = ρ at *
  simp [execOp,e1,e2,e3,Instr.sliceAt,Instr.slice,Instr.sliceBounds,Instr.sliceBound,asIntOf,run_underlying c.ou,run_sizeOf c.size,hi,hj]⟩
theorem sN [c:bz P t e sz] {x u v:Operand} {cap:Nat} (hx:cK L x=some (.slice A m cap)) (hy:cK L y=some (.int .i64 (i:Int))) (hu:cK L u=some (.int .i64 (j:Int))) (hv:cK L v=some (.int .i64 (k:Int))) (hi:i<=j) (hj:j<=k) (hk:k<=cap) :
 St P ⟨d,.slice t x (some y) (some u) (some v),T,pos,af,g⟩ L w (.slice (if k=i then A else A.map (·.add (i*sz))) (j-i) (k-i)) :=
 ⟨fun _ a ha w' _=>by
  have e1:=ha.eval hx;have e2:=ha.eval hy;have e3:=ha.eval hu;have e4:=ha.eval hv;generalize a.eval = ρ at *
  simp [execOp,e1,e2,e3,e4,Instr.sliceAt,Instr.slice,Instr.sliceBounds,Instr.sliceBound,asIntOf,run_underlying c.ou,run_sizeOf c.size,hi,hj,hk]⟩
end
section
variable {P:Program} {n:Nat} {ops:Array Oper} {Q:Exit->Act->World->Prop} {rest:List Oper} {L:Env} {w:World}
structure iI (P:Program) (f:FuncId) (args:List Value) (w:World) (R:Value->World->Prop) : Prop where
 out:Calls P f args.toArray w fun e w' => ∃ v,e = .returned v∧R v w'
theorem SW.dT {f:FuncId} {xs:List Operand} {vs:List Value} {pos:String} {R:Value->World->Prop}
 [Body P f] (hx:uE L xs=some vs) (hn:Nat.blt d n=true) (hc:iI P f vs w R) (h:∀ v w',R v w'->SW P n ops (.gL Q) rest ((d,v)::L) w') :
 SW P n ops (.gL Q) (⟨some d,.call ⟨.value (.func f),xs.toArray,ts⟩,T,pos,af,none⟩::rest) L w :=
 ⟨fun a ha=>by
  simp only [swp,wpList,Region.wanted,if_true];refine .inl ?_;unfold Oper.wp;rw [yE,Oper.upon_enter,ha.uF hx];refine Calls.mono hc.out ?_;rintro e w' ⟨v,rfl,hv⟩
  exact (h v w' hv).out _ (ha.put hn v)⟩
theorem dh {f:FuncId} {c:Code} {R:Value->World->Prop} (hf:P.funcs[f]?=some fn) (hb:fn.body=some c) (hn:fn.ntmps=n) (hl:Nat.ble args.length n=true)
 (h:CW P n c (bodyPost P fn fun e w' => ∃ v,e = .returned v∧R v w') (sJ 0 args) w) : iI P f args w R:=by
 have AG:args.length<=n:=by simpa using hl
 refine ⟨calls_of_wp hf hb (h.out _ ⟨?_,rfl,?_⟩)⟩
 ·simp [hn];omega
 ·intro i v hi;obtain ⟨_,h2⟩:=rN args 0 i v hi;simp only [Nat.sub_zero] at h2
  have eQ:i<args.length:=by
   rcases adA i args.length with h|h
   ·exact h
   ·rw [adP h] at h2;cases h2
  rw [aed,aeV (by simpa using eQ)];simp [h2]
theorem SW.entry {f:FuncId} {e:Array Value->Sem Value} {xs:List Operand} {vs:List Value} {v:Value} {pos:String}
 (hf : P.funcs[f]? = some fn) (SM : (fn.name == "runtime.NumGoroutine") = false) (hb : fn.body.isNone = true) (F4 : Extern.findNext fn = none) (he : Extern.find fn = some e) (hx : uE L xs = some vs) (hn : Nat.blt d n = true)
 (hr:(e vs.toArray).run P w = .ok v w) (h:SW P n ops (.gL Q) rest ((d,v)::L) w) :
 SW P n ops (.gL Q) (⟨some d,.call ⟨.value (.func f),xs.toArray,ts⟩,T,pos,af,none⟩::rest) L w :=
 ⟨fun a ha=>by
  simp only [swp,wpList,Region.wanted,if_true];refine .inl ?_;unfold Oper.wp;have h1:=run_callFunc_extern (P:=P) hf SM hb F4 he vs.toArray w
  have:(execOp a.eval ⟨some d,.call ⟨.value (.func f),xs.toArray,ts⟩,T,pos,af,none⟩).run P w = .ok (.value v) w:=by
   have e2:=ha.uF hx;simp only [execOp,resolve,Deferred.ofValue,Act.eval,Sem.run_bind,Result.andThen,invoke,List.map_toArray,e2];rw [hr] at h1;simpa [Result.andThen] using h1
  rw [this,Oper.upon_value];exact h.out _ (ha.put hn v)⟩
end
theorem Ext.gr (h:Ext w w') (row:Option Nat) : w.grownBy w' row:=⟨h.os,h.tape,h.output,h.size,fun k hk _=>h.block k hk⟩
theorem bQ (h:w.grownBy w1 row) (k:w1.grownBy w2 SN) (hr:SN=row ∨ ∀ i,SN=some i->w.heap.size<=i) : w.grownBy w2 row :=
 ⟨k.os.trans h.os,k.tape.trans h.tape,k.output.trans h.output,ac2 h.size k.size,fun i hi bL=>by
  have nO:i<w1.heap.size:=adX hi h.size
  rcases hr with e|e
  ·subst e;rw [k.block i nO bL,h.block i hi bL]
  ·rw [k.block i nO (fun e'=>by have:=e i e'.symm;omega),h.block i hi bL]⟩
theorem SW.uN {n:Nat} {rest:List Oper} {L:Env} {pos:String} {z:Value} {c:Nat} {l ys:List α} [S:bz P t e sz] [T':dn P e z sz bytes] [E:im enc sz] {x:Operand}
 (hO:Own w lo e sz enc A k c l) (hS:Sl w sz enc X m ys) (kn:k+m<=c) (hx:cK L x=some (.slice A k c)) (hy:cK L y=some (.slice X m c2)) (hn:Nat.blt dd n=true)
 (h:∀ w',Own w' lo e sz enc A (k+m) c (l++ys)->w.grownBy w' (aI A c)->SW P n ops (.gL Q) rest ((dd,.slice A (k+m) c)::L) w') :
 SW P n ops (.gL Q) (⟨some dd,.call ⟨.builtin .append,#[x,y],#[t,t]⟩,T,pos,af,none⟩::rest) L w :=
 ⟨fun a ha=>by
  obtain ⟨i,hi,hz,hs,xU⟩:=ee P e (z:=z) (sz:=sz) (bytes:=bytes);have KO:(ys.flatMap enc).length=m*sz:=by rw [aV,hS.len]
  have oY:∀ u∈ys.flatMap enc,u.oneCell'=true:=fun u hu=>by
   obtain ⟨x,_,hx⟩:=adm.1 hu;exact E.one x u hx
  have key:∃ w',(Builtin.append_ #[t,t] T #[.slice A k c,.slice X m c2]).run P w = .ok (.slice A (k+m) c) w'∧Own w' lo e sz enc A (k+m) c (l++ys)∧w.grownBy w' (aI A c):=by
   by_cases DU:m=0
   ·subst DU;have Zn:ys=[]:=adl hS.len
    subst Zn;refine ⟨w,?_,by simpa using hO,World.grownBy.refl _ _⟩;have NC:k<=c:=by omega
    cases A<;>cases X<;>simp [Builtin.append_,run_underlying S.ou,sizeOf,typeInfo,hi,Builtin.lenOf,NC,Builtin.firstCells,loadCells,loadCellsFrom,storeCells]
   ·obtain ⟨ad,rfl⟩:=adw.1 (hS.base (by omega));have uG:=dr T'.pos hS;obtain ⟨g,rest,rfl,h1,h2,h3,h4,h5,h6⟩:=hO.opened (by omega);have pd:(k+m)*sz<=c*sz:=adt _ kn
    have oZ:(l.flatMap enc).length=k*sz:=by rw [aV,hO.len]
    rw [adQ] at pd;have hr:=run_append_room (P:=P) w t T e i S.ou hi g k c (l.flatMap enc++rest).toArray h2 ad m c2 (ys.flatMap enc) (by rw [hs];exact KO) uG oY kn (by rw [hs,KO];simp [oZ];omega)
    have e1:(l.flatMap enc++rest).toArray.toList.take (k*i.size)++ys.flatMap enc++(l.flatMap enc++rest).toArray.toList.drop (k*i.size+(ys.flatMap enc).length)=(l++ys).flatMap enc++rest.drop (m*sz):=by
     rw [hs];have h7:=eU (l.flatMap enc) (rest.take (m*sz)) (rest.drop (m*sz)) (ys.flatMap enc) (by rw [KO];simp;omega) (o:=k*sz) oZ.symm;rw [ac6 (l.flatMap enc),ac4] at h7;rw [adi];exact h7
    rw [e1] at hr;refine ⟨_,hr,?_,?_⟩
    ·exact Own.closed (by rw [adb,hO.len,hS.len]) (ia h2).1 (by rw [adQ];simp;omega) kn (by omega) h5 h1
    ·rw [h6];exact (ia h2).2
  obtain ⟨w',hr,h1,h2⟩:=key;simp only [swp,wpList,Region.wanted,if_true];refine .inl ?_;unfold Oper.wp
  have:(execOp a.eval ⟨some dd,.call ⟨.builtin .append,#[x,y],#[t,t]⟩,T,pos,af,none⟩).run P w = .ok (.value (.slice A (k+m) c)) w':=by
   simp [execOp,resolve,invoke,builtin,ha.eval hx,ha.eval hy,hr]
  rw [this,Oper.upon_value];exact (h w' h1 h2).out _ (ha.put hn _)⟩
theorem SW.xX {n:Nat} {rest:List Oper} {L:Env} {pos:String} {z:Value} {c:Nat} {l:List α} [S:bz P t e sz] [T':dn P e z sz bytes] [E:im enc sz] {x:Operand}
 {j:Int} (hS:Sl w sz enc A m l) (Zo:P.underlying tn=some (.int lk)) (hx:cK L x=some (.slice A m c)) (hy:cK L y=some (.int .i64 j)) (hj:j=(k:Int)) (hn:Nat.blt d n=true) (hk : 0<k) (kn:c<m+k) (hb:(m+k)*bytes<=140737488355328) (hm:m+k<=9223372036854775807)
 (h:∀ g Ps c' w',Ext w w'->w.heap.size<=g->aS w' g e (l.flatMap enc++Ps)->m*sz+Ps.length=c'*sz->m+k<=c'->c'<=maxLen->SW P n ops (.gL Q) rest ((d,.slice (some ⟨g,0,none⟩) (m+k) c')::L) w') :
 SW P n ops (.gL Q) (⟨some d,.call ⟨.builtin .append,#[x,y],#[t,tn]⟩,T,pos,af,none⟩::rest) L w :=
 ⟨fun a ha=>by
  subst hj;obtain ⟨i,hi,hz,hs,xU⟩:=ee P e (z:=z) (sz:=sz) (bytes:=bytes);have hp:=T'.pos;have Qu:=dr hp hS;have hlen:(l.flatMap enc).length=m*sz:=by rw [aV,hS.len]
  have hold:(Builtin.firstCells i.size m (.slice A m c)).run P w.drew = .ok (l.flatMap enc).toArray w.drew:=by
   rw [hs];cases A with
   | none =>
     have h0:m=0:=by
      rcases adj m with h0|h0
      ·exact h0
      ·have:=hS.base h0;simp at this
     subst h0;have:l=[]:=adl hS.len
     subst this;simp [Builtin.firstCells]
   | some ad =>
     simp only [Builtin.firstCells];rw [<- hlen];exact run_loadCells_list (P:=P) w.drew ad _ (fun j v hv=>Qu j v hv)
  have N3:=Room.nextslicecap_le' kn
  have pd:Builtin.nextslicecap (m+k) c*i.bytes<=281474976710656:=by
   rw [xU]
   calc Builtin.nextslicecap (m+k) c*bytes<=2*(m+k)*bytes:=adt _ N3
    _<=281474976710656:=by rw [Nat.mul_assoc];omega
  have Zp:k*i.bytes<=281474976710656:=by
   rw [xU];have:k*bytes<=(m+k)*bytes:=adt _ (by omega)
   omega
  have hr:=Lib.run_append_grow_zeros (P:=P) w t tn T e i z .i64 lk S.ou Zo hi hz A m c _ hold k hk (by rw [hs];exact hp) kn (by omega) Zp pd;simp only [swp,wpList,Region.wanted,if_true];refine .inl ?_;unfold Oper.wp
  have:(execOp a.eval ⟨some d,.call ⟨.builtin .append,#[x,y],#[t,tn]⟩,T,pos,af,none⟩).run P w = .ok (.value (.slice (some ⟨w.heap.size,0,none⟩) (m+k) (grownCap w (m+k) c e))) (w.drew.alloc (.cells ((l.flatMap enc).toArray++Builtin.zeroCells z.cells k++Builtin.zeroCells z.cells (grownCap w (m+k) c e-(m+k))) e)):=by
   simp [execOp,resolve,invoke,builtin,ha.eval hx,ha.eval hy,hr]
  rw [this,Oper.upon_value];have hg:=grownCap_ge w (m+k) c e;refine (h w.heap.size ((Builtin.zeroCells z.cells k).toList++(Builtin.zeroCells z.cells (grownCap w (m+k) c e-(m+k))).toList) _ _ (Ext.trans (Ext.drew w) (Ext.alloc _ _)) (ac3 _) ?_ ?_ hg (grownCap_le_maxLen w _ _ _ (by simp only [maxLen];omega))).out _ (ha.put hn _)
  ·have:=aS.new w.drew e (l.flatMap enc++((Builtin.zeroCells z.cells k).toList++(Builtin.zeroCells z.cells (grownCap w (m+k) c e-(m+k))).toList))
   have e1:(l.flatMap enc++((Builtin.zeroCells z.cells k).toList++(Builtin.zeroCells z.cells (grownCap w (m+k) c e-(m+k))).toList)).toArray=(l.flatMap enc).toArray++Builtin.zeroCells z.cells k++Builtin.zeroCells z.cells (grownCap w (m+k) c e-(m+k)):=by
    apply Array.ext';simp
   rw [e1] at this;exact this
  ·simp only [List.length_append,Array.length_toList,Go.size_zeroCells,T'.zc];rw [<- adQ,<- adQ];congr 1;omega⟩
variable {β:Type} {ys:List β} {b ov:Nat} {t':TypeId}
def rF (w w':World) (t:TypeId) : Prop := ∃ row,w.grownBy w' row ∧ ∀ k,row=some k -> ∃ cs,w.heap[k]?=some (.cells cs t (0,0))
theorem Own.gr {n c:Nat} {l:List α} (h:Own w lo e sz enc A n c l) (hg:w.grownBy w' (aI A c)) : rF w w' e:=by
 refine ⟨_,hg,fun k hk => ?_⟩;rcases h.row with ⟨_,rfl⟩|⟨hc,g,jO,rfl,_,h2,_⟩
 ·simp [aI] at hk
 ·simp [aI,Nat.pos_iff_ne_zero.1 hc] at hk;subst hk;exact ⟨jO,h2⟩
theorem aS.gr (h:aS w b t cs) (hg:w.grownBy w' (some b)) : rF w w' t:=⟨_,hg,fun k hk=>by cases hk;exact ⟨_,h⟩⟩
theorem Own.aN {t:Nat} {n c:Nat} {l:List α} (h:Own w lo e sz enc A n c l) (hG:rF w w' t) (bL:Nat.beq t e=false) : Own w' lo e sz enc A n c l:=by
 obtain ⟨row,hg,hr⟩:=hG;refine h.grown hg ?_;rcases h.row with ⟨_,rfl⟩|⟨hc,g,jO,rfl,_,h2,_⟩
 ·simp [aI]
 ·right;rintro rfl;obtain ⟨cs,h3⟩:=hr g (by simp [aI,Nat.pos_iff_ne_zero.1 hc]);rw [h2] at h3;injection h3 with h3
  injection h3 with _ h _
  subst h;simp at bL
theorem aS.aN {t:Nat} (h:aS w b t' cs) (hG:rF w w' t) (bL:Nat.beq t t'=false) : aS w' b t' cs:=by
 obtain ⟨row,hg,hr⟩:=hG;refine h.grown hg ?_;rintro rfl;obtain ⟨cs,h3⟩:=hr b rfl;unfold aS at h;rw [h] at h3;injection h3 with h3
 injection h3 with _ h _
 subst h;simp at bL
theorem Own.lt_size {n c:Nat} {l:List α} (h:Own w lo e sz enc A n c l) : ∀ k,aI A c=some k->k<w.heap.size:=by
 intro k hk;rcases h.row with ⟨_,rfl⟩|⟨hc,g,jO,rfl,_,h2,_⟩
 ·simp [aI] at hk
 ·simp [aI,Nat.pos_iff_ne_zero.1 hc] at hk;subst hk;exact (adh.1 h2).1
structure fY {α β:Type} (R : α -> β -> Prop) (xs:List α) (ys:List β) : Prop where
 len:xs.length=ys.length
 get:∀ (i:Nat) (h1:i<xs.length) (h2:i<ys.length),R xs[i] ys[i]
theorem fY.mono {R R' : α -> β -> Prop} {xs:List α} (h:fY R xs ys) (hm:∀ a b,R a b->R' a b) : fY R' xs ys:=⟨h.len,fun i h1 h2=>hm _ _ (h.get i h1 h2)⟩
theorem fY.nil {R : α -> β -> Prop}:fY R ([] : List α) ([] : List β):=⟨rfl,fun i h1 h2=>by simp at h1⟩
theorem fY.snoc {R : α -> β -> Prop} {xs:List α} (h:fY R xs ys) {x : α} {y : β} (hr:R x y) : fY R (xs++[x]) (ys++[y]):=by
 refine ⟨by simp [h.len],fun i h1 h2 => ?_⟩;have hl:=h.len;by_cases hi:i<xs.length
 ·rw [adT hi,adT (by omega)];exact h.get i hi (by omega)
 ·have e:i=xs.length:=by simp at h1;omega
  subst e;simp [hl];exact hr
structure du where
 fV:Int
 ak:Int
 Ty:Int
 ax:ga
def ck (r:du) : List Value:=[.int .i64 r.fV,.int .i64 r.ak,.int .i64 r.Ty,r.ax.v]
instance:im ck 4:=⟨fun _=>rfl,fun r u hu=>by simp [ck,ga.v] at hu;rcases hu with rfl|rfl|rfl|rfl<;>rfl⟩
structure ju where
 bp:ga
 dK:ga
 bG:Int
 av:ga
 Live:ga
def dC (r:ju) : List Value:=[r.bp.v,r.dK.v,.int .i64 r.bG,r.av.v,r.Live.v]
instance:im dC 5:=⟨fun _=>rfl,fun r u hu=>by simp [dC,ga.v] at hu;rcases hu with rfl|rfl|rfl|rfl|rfl<;>rfl⟩
def ju.zero:ju:=⟨.nil,.nil,0,.nil,.nil⟩
def Heap.zero:Heap:=⟨[],[],0,[],[]⟩
structure Qv (w:World) (r:du) (l:aR) : Prop where
 cpu:r.fV=l.fV
 kh:r.ak=l.ak
 ty:r.Ty=l.Ty
 bC:Sl w 1 bw r.ax.A r.ax.n l.ax
structure rr (w:World) (lo:Nat) (r:du) (l:aR) : Prop where
 cpu:r.fV=l.fV
 kh:r.ak=l.ak
 ty:r.Ty=l.Ty
 bC:Own w lo 3 1 bw r.ax.A r.ax.n r.ax.c l.ax
theorem Qv.ext {r:du} {l:aR} (h:Qv w r l) (hx:Ext w w') : Qv w' r l:=⟨h.cpu,h.kh,h.ty,h.bC.ext hx⟩
theorem rr.ext {r:du} {l:aR} (h:rr w lo r l) (hx:Ext w w') : rr w' lo r l:=⟨h.cpu,h.kh,h.ty,h.bC.ext hx⟩
theorem rr.low {r:du} {l:aR} (h:rr w lo r l) (hl:ov<=lo) : rr w ov r l:=⟨h.cpu,h.kh,h.ty,h.bC.low hl⟩
theorem rr.rd {r:du} {l:aR} (h:rr w lo r l) : Qv w r l:=⟨h.cpu,h.kh,h.ty,h.bC.sl⟩
theorem rr.aN {t:Nat} {r:du} {l:aR} (h:rr w lo r l) (hG:rF w w' t) (bL:Nat.beq t 3=false) : rr w' lo r l:=⟨h.cpu,h.kh,h.ty,h.bC.aN hG bL⟩
theorem iA.aN {t:Nat} {r:dZ} (h:iA w lo r z) (hG:rF w w' t) (bL:(Nat.beq t 3 || Nat.beq t 147)=false) : iA w' lo r z:=by
 simp only [Bool.or_eq_false_iff] at bL;exact ⟨h.from_,h.o8,h.free.aN hG bL.2,h.types.aN hG bL.1⟩
structure Ga (w:World) (s:ga) (zs:List dZ) (l:List ak) : Prop where
 row:Sl w 4 dp s.A s.n zs
 each:fY (F6 w) zs l
structure kW (w:World) (lo:Nat) (s:ga) (zs:List dZ) (l:List ak) : Prop where
 row:Own w lo 117 4 dp s.A s.n s.c zs
 each:fY (iA w lo) zs l
structure y5 (w:World) (s:ga) (ls:List du) (l:List aR) : Prop where
 row:Sl w 4 ck s.A s.n ls
 each:fY (Qv w) ls l
structure gd (w:World) (lo:Nat) (s:ga) (ls:List du) (l:List aR) : Prop where
 row:Own w lo 159 4 ck s.A s.n s.c ls
 each:fY (rr w lo) ls l
section
variable {w w':World} {lo ov t:Nat} {s:ga} {zs:List dZ} {z:List ak} {ls:List du} {l:List aR}
theorem Ga.ext (h:Ga w s zs z) (hx:Ext w w') : Ga w' s zs z:=⟨h.row.ext hx,h.each.mono fun _ _ h=>h.ext hx⟩
theorem y5.ext (h:y5 w s ls l) (hx:Ext w w') : y5 w' s ls l:=⟨h.row.ext hx,h.each.mono fun _ _ h=>h.ext hx⟩
theorem kW.ext (h:kW w lo s zs z) (hx:Ext w w') : kW w' lo s zs z:=⟨h.row.ext hx,h.each.mono fun _ _ h=>h.ext hx⟩
theorem gd.ext (h:gd w lo s ls l) (hx:Ext w w') : gd w' lo s ls l:=⟨h.row.ext hx,h.each.mono fun _ _ h=>h.ext hx⟩
theorem kW.low (h:kW w lo s zs z) (hl:ov<=lo) : kW w ov s zs z:=⟨h.row.low hl,h.each.mono fun _ _ h=>h.low hl⟩
theorem gd.low (h:gd w lo s ls l) (hl:ov<=lo) : gd w ov s ls l:=⟨h.row.low hl,h.each.mono fun _ _ h=>h.low hl⟩
theorem kW.rd (h:kW w lo s zs z) : Ga w s zs z:=⟨h.row.sl,h.each.mono fun _ _ h=>h.rd⟩
theorem gd.rd (h:gd w lo s ls l) : y5 w s ls l:=⟨h.row.sl,h.each.mono fun _ _ h=>h.rd⟩
theorem kW.aN (h:kW w lo s zs z) (hG:rF w w' t) (bL:(Nat.beq t 117 || (Nat.beq t 3 || Nat.beq t 147))=false) : kW w' lo s zs z:=by
 rw [aew] at bL;exact ⟨h.row.aN hG bL.1,h.each.mono fun _ _ h=>h.aN hG bL.2⟩
theorem gd.aN (h:gd w lo s ls l) (hG:rF w w' t) (bL:(Nat.beq t 159 || Nat.beq t 3)=false) : gd w' lo s ls l:=by
 rw [aew] at bL;exact ⟨h.row.aN hG bL.1,h.each.mono fun _ _ h=>h.aN hG bL.2⟩
theorem kW.nil (w:World) (lo:Nat) : kW w lo .nil [] []:=⟨Own.fv _ _ _ _ _ _,.nil⟩
theorem gd.nil (w:World) (lo:Nat) : gd w lo .nil [] []:=⟨Own.fv _ _ _ _ _ _,.nil⟩
theorem Ga.len (h:Ga w s zs z) : zs.length=s.n∧z.length=s.n:=⟨h.row.len,by rw [<- h.each.len,h.row.len]⟩
theorem y5.len (h:y5 w s ls l) : ls.length=s.n∧l.length=s.n:=⟨h.row.len,by rw [<- h.each.len,h.row.len]⟩
end
structure HY (w:World) (r:ju) (h:Heap) : Prop where
 cpus:r.bG=h.bG
 ef:Sl w 1 bw r.dK.A r.dK.n h.dK
 live:Sl w 3 aO r.Live.A r.Live.n h.Live
 cr:∃ zs,Ga w r.bp zs h.bp
 lists:∃ ls,y5 w r.av ls h.av
structure jC (w:World) (lo:Nat) (r:ju) (h:Heap) : Prop where
 cpus:r.bG=h.bG
 ef:Own w lo 3 1 bw r.dK.A r.dK.n r.dK.c h.dK
 live:Own w lo 147 3 aO r.Live.A r.Live.n r.Live.c h.Live
 cr:∃ zs,kW w lo r.bp zs h.bp
 lists:∃ ls,gd w lo r.av ls h.av
section
variable {w w':World} {lo ov t:Nat} {r:ju} {h:Heap}
theorem HY.ext (a:HY w r h) (hx:Ext w w') : HY w' r h:=by
 obtain ⟨zs,hz⟩:=a.cr;obtain ⟨ls,hl⟩:=a.lists;exact ⟨a.cpus,a.ef.ext hx,a.live.ext hx,⟨zs,hz.ext hx⟩,⟨ls,hl.ext hx⟩⟩
theorem jC.ext (a:jC w lo r h) (hx:Ext w w') : jC w' lo r h:=by
 obtain ⟨zs,hz⟩:=a.cr;obtain ⟨ls,hl⟩:=a.lists;exact ⟨a.cpus,a.ef.ext hx,a.live.ext hx,⟨zs,hz.ext hx⟩,⟨ls,hl.ext hx⟩⟩
theorem jC.low (a:jC w lo r h) (AG:ov<=lo) : jC w ov r h:=by
 obtain ⟨zs,hz⟩:=a.cr;obtain ⟨ls,hl⟩:=a.lists;exact ⟨a.cpus,a.ef.low AG,a.live.low AG,⟨zs,hz.low AG⟩,⟨ls,hl.low AG⟩⟩
theorem jC.rd (a:jC w lo r h) : HY w r h:=by
 obtain ⟨zs,hz⟩:=a.cr;obtain ⟨ls,hl⟩:=a.lists;exact ⟨a.cpus,a.ef.sl,a.live.sl,⟨zs,hz.rd⟩,⟨ls,hl.rd⟩⟩
theorem jC.aN (a:jC w lo r h) (hG:rF w w' t) (bL:(Nat.beq t 3 || (Nat.beq t 147 || (Nat.beq t 117 || Nat.beq t 159)))=false) : jC w' lo r h:=by
 obtain ⟨zs,hz⟩:=a.cr;obtain ⟨ls,hl⟩:=a.lists;simp only [Bool.or_eq_false_iff] at bL;obtain ⟨h1,h2,h3,h4⟩:=bL;exact ⟨a.cpus,a.ef.aN hG h1,a.live.aN hG h2,⟨zs,hz.aN hG (by simp [h1,h2,h3])⟩,⟨ls,hl.aN hG (by simp [h1,h4])⟩⟩
theorem jC.zero (w:World) (lo:Nat) : jC w lo .zero .zero:=⟨rfl,Own.fv _ _ _ _ _ _,Own.fv _ _ _ _ _ _,⟨[],.nil _ _⟩,⟨[],.nil _ _⟩⟩
end
structure Heap.small (h:Heap) : Prop where
 cr:h.bp.length*64<=140737488355328
 ef:h.dK.length*8<=140737488355328
 lists:h.av.length*48<=140737488355328
 live:h.Live.length*24<=140737488355328
 free:∀ z∈h.bp,z.aj.length*24<=140737488355328∧z.Types.length*8<=140737488355328
 bC:∀ l∈h.av,l.ax.length*8<=140737488355328
set_option maxHeartbeats 4000000 in
theorem mR (A:Option Addr) (n c lo:Nat) (l:List Block) (w:World) (hO:Own w lo 147 3 aO A n c l) (i:Nat) (hi:i<n) (hn:n<=1000000000000000000) (dz:lo<=w.heap.size) :
 iI prog 94 [.slice A n c,.int .i64 (i:Int),.int .i64 ((i+1:Nat) : Int)] w fun v w'=>v = .slice A (n-1) c∧Own w' lo 147 3 aO A (n-1) c (l.eraseIdx i)∧w.grownBy w' (aI A c):=by
 refine dh func94 rfl ntmps94 rfl ?_;have hle:=hO.le;have mv:=hO.len;have hA:=hO.sl.base;have Gb:w.grownBy w (aI A c):=World.grownBy.refl _ _
 repeat' (first|refine Wz ?_|(refine SW.st (sN (i:=i) (j:=i+1) (k:=n) rfl rfl rfl rfl (by omega) (by omega) (by omega)) rfl ?_))
 all_goals try omega
 have hw:=Ext.refl w;have e0:i+(n-(i+1))=n-1:=by omega
 have el:l.take i++l.drop (i+1)=l.eraseIdx i:=by rw [adB]
 refine CW.any 6 mixed (dg (by kernel_rfl)) rfl fun w1 ai aJ => ?_
 obtain ⟨hw,hO⟩:=cX ai hw hO;clear ai;refine Wa ?_;refine Wu 2 aJ rfl (dk (k:=i) rfl rfl (by omega)) ?_;refine Wa ?_;refine Wu 5 aJ rfl (bc (k:=i+1) rfl rfl (by omega) (by omega)) ?_;refine SA.done (by kernel_rfl) ?_;refine SW.uN (hO.pre (i:=i) (by omega)) (hO.sl.drop (i+1) c (by omega) (by omega)) (by omega) rfl rfl rfl fun w2 bh hg => ?_
 rw [e0,el] at bh;rw [e0];have Gc:=(hw.gr (aI A c));repeat' (first|refine Wz ?_|(refine SW.st (jP (i:=n-1) (j:=n) rfl rfl rfl (by omega) (by omega)) rfl ?_))
 obtain ⟨g,rest,rfl,h1,h2,h3,h4,h5,h6⟩:=bh.opened (by omega);have oZ:((l.eraseIdx i).flatMap aO).length=(n-1)*3:=by rw [aV,bh.len]
 refine SW.clear ((n-1)*3) h2 rfl (by rw [adb,oZ];omega) (fun h0 => ?_) (by decide) fun w3 cs lJ hB qo => ?_
 ·rw [if_neg (by omega)];simp [cU]
 ·have e7:=eU ((l.eraseIdx i).flatMap aO) (rest.take ((n-(n-1))*3)) (rest.drop ((n-(n-1))*3)) cs (by rw [lJ];simp;omega) (o:=(n-1)*3) oZ.symm;rw [ac6 (List.flatMap _ _),ac4] at e7;rw [e7,ac6] at hB;have D4:=Own.closed (l:=l.eraseIdx i) bh.len hB (by rw [adb,lJ];simp;omega) h4 (by omega) h5 h1;rw [<- h6] at qo;have AK:=bQ (bQ Gc hg (.inl rfl)) qo (.inl rfl);refine Wz ?_;exact ae.bj rfl rfl ⟨_,rfl,rfl,D4,AK⟩
set_option maxHeartbeats 4000000 in
theorem kC (A:Option Addr) (n c lo:Nat) (l:List Block) (w:World) (hO:Own w lo 147 3 aO A n c l) (i:Nat) (hi:i<=n) (x:Block) (b:Nat) (hB:aS w b 147 (aO x)) (bL:aI A c≠some b) (hn:(n+1)*24<=140737488355328) (dz:lo<=w.heap.size) :
 iI prog 66 [.slice A n c,.int .i64 (i:Int),.slice (some ⟨b,0,none⟩) 1 1] w fun v w' => ∃ A' c',v = .slice A' (n+1) c'∧Own w' lo 147 3 aO A' (n+1) c' (aM l i x)∧w.grownBy w' (aI A c):=by
 refine dh func66 rfl ntmps66 rfl ?_;have hle:=hO.le;have mv:=hO.len;have hA:=hO.sl.base;have hw:=Ext.refl w;have lf:Sl w 3 aO (some ⟨b,0,none⟩) 1 [x]:=aS.vF hB
 have nF:(aO x).length=3:=rfl
 have oZ:∀ q:List Block,(q.flatMap aO).length=q.length*3:=fun q=>aV q
 have oY:∀ (q:List Block) (v:Value),v∈q.flatMap aO->v.oneCell'=true:=fun q v hv=>by
  obtain ⟨u,_,hu⟩:=adm.1 hv;exact im.one (enc:=aO) u v hu
 by_cases cQ:i=n
 ·subst cQ;repeat' (first|refine Wz ?_|(refine SW.st (bc (k:=i) rfl rfl (by omega) (by omega)) rfl ?_))
  all_goals try omega
  refine SW.append hO lf dz rfl rfl rfl (by omega) (by omega) fun A2 c2 w2 bh hg => ?_
  refine Wz ?_;refine ae.bj rfl rfl ⟨_,rfl,A2,c2,rfl,?_,hg⟩;have e:aM l i x=l++[x]:=by unfold aM;rw [adf (by omega),aec (by omega)];simp
  rw [e];exact bh
 ·by_cases kn:n+1<=c
  ·obtain ⟨g,rest,rfl,h1,h2,h3,h4,h5,h6⟩:=hO.opened (by omega);have DL:g≠b:=fun e=>bL (by rw [h6,e])
   have es:l.flatMap aO++rest=(l.take i).flatMap aO++((l.drop i).flatMap aO++rest):=by rw [<- ac6,<- adi,ac4]
   have e1:((l.take i).flatMap aO).length=i*3:=by rw [oZ];simp;omega
   have e2:((l.drop i).flatMap aO).length=(n-i)*3:=by rw [oZ];simp [mv]
   have lL:=hO.sl.drop i c (by omega) (by omega);rw [if_neg (by omega)] at lL;rw [es] at h2
   have I5:∀ w',Ext w w'->(Extern.SlicesOverlaps.overlaps #[39,39] #[4] #[.slice (some ⟨b,0,none⟩) 1 1,.slice (if c=i+1 then (some ⟨g,0,none⟩) else (some (⟨g,0,none⟩ : Addr)).map (·.add ((i+1)*3))) (n+1-(i+1)) (c-(i+1))]).run prog w' = .ok (.bool false) w':=fun w' hx=>by
    rw [if_neg (by omega),aeL,cU];have b1:=hB.ext hx;have b2:=h2.ext hx;unfold aS at b1 b2
    exact Lib.run_overlaps_apart w' 39 4 147 (bz.ou (t:=39)) 3 (fun w0=>run_sizeOf (bz.size (t:=39)) w0) ⟨b,0,none⟩ ⟨g,(i+1)*3,none⟩ 1 1 _ _ (fun e=>DL e.symm) 147 147 (aO x).toArray.size ((l.take i).flatMap aO++((l.drop i).flatMap aO++rest)).toArray.size
     (by simp only [World.shape?,b1]) (by simp only [World.shape?,b2]) (by simp [e1,e2];omega) (by simp [World.frozen?,b1]) (by simp [World.frozen?,b1])
   repeat' (first|refine Wz ?_|(refine CW.gj rfl ?_)|(refine SW.st (bc (k:=i) rfl rfl (by omega) (by omega)) rfl ?_)|(refine SW.st (dk (k:=n+1) rfl rfl (by omega)) rfl ?_)|(refine SW.st (bc (k:=i+1) rfl rfl (by omega) (by omega)) rfl ?_)|(refine SW.entry func113 (by kernel_rfl) (by kernel_rfl) (by kernel_rfl) (e:=Extern.SlicesOverlaps.overlaps #[39,39] #[4]) (by kernel_rfl) rfl rfl (I5 _ hw) ?_))
   all_goals try omega
   have oy:((n-i)+1)*3<=((l.drop i).flatMap aO++rest).length:=by rw [adb,e2];omega
   have e4:(l.drop i).flatMap aO++rest=((l.drop i).flatMap aO++rest).take 3++(((l.drop i).flatMap aO++rest).drop 3).take ((n-i)*3)++((l.drop i).flatMap aO++rest).drop (3+(n-i)*3):=by
    rw [ac6,<- ad6,ac4,ac4]
   generalize Gd:((l.drop i).flatMap aO++rest).take 3=D1 at e4
   generalize Ge:(((l.drop i).flatMap aO++rest).drop 3).take ((n-i)*3)=D2 at e4
   generalize Gf:((l.drop i).flatMap aO++rest).drop (3+(n-i)*3)=D3 at e4
   have f1:D1.length=3:=by rw [<- Gd];simp only [List.length_take];omega
   have f2:D2.length=(n-i)*3:=by rw [<- Ge];simp only [List.length_take,List.length_drop];omega
   have f3:D3.length+3=rest.length:=by rw [<- Gf];simp only [List.length_drop,List.length_append,e2];omega
   rw [e4] at h2;refine CW.any 8 mixed (dg (by kernel_rfl)) rfl fun w1 ai aJ => ?_
   obtain ⟨hw,hO,hB,h2⟩:=dG ai hw hO hB h2;clear ai;refine Wa ?_;refine Wu 4 aJ rfl (bc (k:=i+1) rfl rfl (by omega) (by omega)) ?_;refine Wa ?_;refine Wu 7 aJ rfl (bc (k:=i) rfl rfl (by omega) (by omega)) ?_;refine SA.done (by kernel_rfl) ?_;refine SW.copy (k:=n-i) ((i+1)*3) ((l.drop i).flatMap aO) h2 rfl rfl rfl (by omega) e2 (by simp only [List.length_append,e1,e2,f1,f2];omega) (fun h0=>⟨by rw [if_neg (by omega)];simp [cU],(⟨g,0,none⟩ : Addr).add (i*3),by rw [if_neg (by omega)];rfl,fun j v hv=>dr (by omega) (lL.ext hw) j v hv⟩) (oY _) fun w3 nc qo => ?_
   have g1:=eU ((l.take i).flatMap aO++D1) D2 D3 ((l.drop i).flatMap aO) (by rw [e2,f2]) (o:=(i+1)*3) (by rw [adb,e1,f1];omega);have g0:(l.take i).flatMap aO++(D1++D2++D3)=(l.take i).flatMap aO++D1++D2++D3:=by simp only [List.append_assoc]
   rw [g0,g1] at nc;have Gc:=bQ (hw.gr (aI (some ⟨g,0,none⟩) c)) qo (.inl h6.symm);have Qw:=hB.grown qo (by simpa using fun e=>DL e.symm);repeat' (first|refine Wz ?_|(refine SW.st (bc (k:=i) rfl rfl (by omega) (by omega)) rfl ?_))
   refine SW.copy (k:=1) (i*3) (aO x) nc rfl rfl rfl (by omega) nF (by simp only [List.length_append,e1,e2,f1,nF];omega) (fun h0=>⟨by rw [if_neg (by omega)];simp [cU],⟨b,0,none⟩,rfl,fun j v hv=>Qw.cell hv⟩) (im.one (enc:=aO) x) fun w4 nP xv => ?_
   have g2:=eU ((l.take i).flatMap aO) D1 ((l.drop i).flatMap aO++D3) (aO x) (by rw [nF,f1]) (o:=i*3) e1.symm;have g3:(l.take i).flatMap aO++D1++(l.drop i).flatMap aO++D3=(l.take i).flatMap aO++D1++((l.drop i).flatMap aO++D3):=by simp only [List.append_assoc]
   have g4:(l.take i).flatMap aO++aO x++((l.drop i).flatMap aO++D3)=(aM l i x).flatMap aO++D3:=by unfold aM;simp only [List.flatMap_append,List.flatMap_cons,List.flatMap_nil,List.append_nil,List.append_assoc]
   rw [g3,g2,g4] at nP;have D8:=Own.closed (n:=n+1) (c:=c) (l:=aM l i x) (by unfold aM;simp;omega) nP (by omega) kn (by omega) h5 h1;have dY:=bQ Gc xv (.inl h6.symm);refine Wz ?_;exact ae.bj rfl rfl ⟨_,rfl,_,_,rfl,D8,dY⟩
  ·have R3:c=n:=by omega
   have lL:=hO.sl.drop i c (by omega) (by omega);have AU:=hO.sl.pre (i:=i) (by omega);repeat' (first|refine Wz ?_|(refine SW.st (bc (k:=i) rfl rfl (by omega) (by omega)) rfl ?_)|(refine SW.st (dk (k:=i) rfl rfl (by omega)) rfl ?_))
   all_goals try omega
   refine SW.xX (k:=n+1-i) AU Tryz.underlying3 rfl rfl (by omega) rfl (by omega) (by omega) (by omega) (by omega) fun g rest c2 w2 bt dA h2 h3 h4 h5 => ?_
   have e1:((l.take i).flatMap aO).length=i*3:=by rw [oZ];simp;omega
   have e2:((l.drop i).flatMap aO).length=(n-i)*3:=by rw [oZ];simp [mv]
   have oy:((n-i)+1)*3<=rest.length:=by omega
   have e4:rest=rest.take 3++(rest.drop 3).take ((n-i)*3)++rest.drop (3+(n-i)*3):=by
    rw [ac6,<- ad6,ac4,ac4]
   generalize Gd:rest.take 3=D1 at e4
   generalize Ge:(rest.drop 3).take ((n-i)*3)=D2 at e4
   generalize Gf:rest.drop (3+(n-i)*3)=D3 at e4
   have f1:D1.length=3:=by rw [<- Gd];simp only [List.length_take];omega
   have f2:D2.length=(n-i)*3:=by rw [<- Ge];simp only [List.length_take,List.length_drop];omega
   have f3:D3.length+((n-i)+1)*3=rest.length:=by rw [<- Gf];simp only [List.length_drop];omega
   rw [e4] at h2;have gg:aI A c≠some g:=fun e=>by have:=hO.lt_size _ e;omega
   have DL:b≠g:=by have:=hB.lt;omega
   obtain ⟨lL,hB,hw⟩:=cj bt lL hB hw;repeat' (first|refine Wz ?_|(refine SW.st (bc (k:=i) rfl rfl (by omega) (by omega)) rfl ?_))
   refine SW.copy (k:=1) (i*3) (aO x) h2 rfl rfl rfl (by omega) nF (by simp only [List.length_append,e1,f1,f2,nF];omega) (fun h0=>⟨by rw [if_neg (by omega)];simp [cU],⟨b,0,none⟩,rfl,fun j v hv=>hB.cell hv⟩) (im.one (enc:=aO) x) fun w3 nc qo => ?_
   have g2:=eU ((l.take i).flatMap aO) D1 (D2++D3) (aO x) (by rw [nF,f1]) (o:=i*3) e1.symm;have g3:(l.take i).flatMap aO++(D1++D2++D3)=(l.take i).flatMap aO++D1++(D2++D3):=by simp only [List.append_assoc]
   rw [g3,g2] at nc;have Lm:Ext w w3:=hw.own dA qo
   have lh:Sl w3 3 aO (if c=i then A else A.map (·.add (i*3))) (n-i) (l.drop i):=(hO.sl.drop i c (by omega) (by omega)).ext Lm
   have hw:=Lm;refine Wz ?_;refine CW.any 8 mixed (dg (by kernel_rfl)) rfl fun w1 ai aJ => ?_
   obtain ⟨hw,nc,lh⟩:=cj ai hw nc lh;clear ai;refine Wa ?_;refine Wu 4 aJ rfl (bc (k:=i+1) rfl rfl (by omega) (by omega)) ?_;refine Wa ?_;refine Wu 7 aJ rfl (bc (k:=i) rfl rfl (by omega) (by omega)) ?_;refine SA.done (by kernel_rfl) ?_;refine SW.copy (k:=n-i) ((i+1)*3) ((l.drop i).flatMap aO) nc rfl rfl rfl (by omega) e2 (by simp only [List.length_append,e1,e2,f2,nF];omega) (fun h0=>⟨by rw [if_neg (by omega)];simp [cU],(if c=i then A else A.map (·.add (i*3))).getD default,?_,fun j v hv=>dr (by omega) lh j v hv⟩) (oY _) fun w4 nP xv => ?_
   ·obtain ⟨a,ha⟩:=adw.1 (lh.base h0);rw [ha];rfl
   ·have g4:=eU ((l.take i).flatMap aO++aO x) D2 D3 ((l.drop i).flatMap aO) (by rw [e2,f2]) (o:=(i+1)*3) (by rw [adb,e1,nF];omega);have g5:(l.take i).flatMap aO++aO x++(D2++D3)=(l.take i).flatMap aO++aO x++D2++D3:=by simp only [List.append_assoc]
    have g6:(l.take i).flatMap aO++aO x++(l.drop i).flatMap aO++D3=(aM l i x).flatMap aO++D3:=by unfold aM;simp only [List.flatMap_append,List.flatMap_cons,List.flatMap_nil,List.append_nil,List.append_assoc]
    rw [g5,g4,g6] at nP;have D8:=Own.closed (n:=n+1) (c:=c2) (lo:=lo) (l:=aM l i x) (by unfold aM;simp;omega) nP (by omega) (by omega) (by omega) h5 (by omega);have ko:Ext w w4:=hw.own dA xv
    have e9:i+(n+1-i)=n+1:=by omega
    refine Wz ?_;rw [e9];exact ae.bj rfl rfl ⟨_,rfl,_,_,rfl,D8,ko.gr _⟩
variable {k' yk:IntKind} {ft tt ty:TypeId}
theorem my:prog.underlying 171=some (.int .u64):=by kernel_rfl
theorem wrap_u64 {z:Int} (h0 : 0<=z) (h1:z<=9223372036854775807) : IntKind.u64.wrap z=z:=by
 simp [IntKind.wrap,IntKind.bits,IntKind.signed];omega
section
variable {P:Program} {L:Env} {w:World} {d:Option Nat} {T:TypeId} {pos:String} {af:Array Edge} {g:Option (Nat×Bool)}
theorem mA {x:Operand} {k:IntKind} {i:Int} (hf:P.underlying ft=some (.int k)) (ht:P.underlying tt=some (.int k')) (hx:cK L x=some (.int k i)) :
 St P ⟨d,.convert ft tt x,T,pos,af,g⟩ L w (.int k' (k'.wrap i)) :=
 ⟨fun n a ha w' _=>by
  have e1:=ha.eval hx;generalize a.eval = ρ at *
  simp [go_sem,e1,convert,run_underlying hf,run_underlying ht,Conv.intToInt]⟩
theorem xY {x:Operand} {i:Int} (hx:cK L x=some (.int .u64 i)) (hy:cK L y=some (.int yk 1)) :
 St P ⟨d,.binOp .shr t x y ty,T,pos,af,g⟩ L w (.int .u64 (i / 2)) :=
 ⟨fun n a ha w' _=>by
  have e1:=ha.eval hx;have e2:=ha.eval hy;generalize a.eval = ρ at *
  simp [go_sem,e1,e2]⟩
end
def bO (l:List Block) (a:Int) : Bool:=if h:bE l a<l.length then decide ((l[bE l a]).At=a) else false
theorem jv (A:Option Addr) (n c:Nat) (l:List Block) (a:Int) (w:World) (hl:Sl w 3 aO A n l) (f:FuncId) [Body prog f] (hf:∀ x∈l,∀ w',Ext w w'->bI prog f ([.agg (aO x).toArray,.int .i64 a]++[]) w' fun v _=>v = .int .i64 (x.At-a))
 (hu:l.Pairwise fun x y=>x.At<y.At) (hn:n<=1000000000000000000) : bI prog 111 [.slice A n c,.int .i64 a,.func (.func f) #[] #[]] w fun v _=>v = .tuple #[.int .i64 (bE l a:Int),.bool (bO l a)]:=by
 refine aE func111 rfl ntmps111 rfl ?_;have hw:=Ext.refl w;have hA:=hl.base;have mv:=hl.len;rw [ac8] at hu;refine Wz ?_
 refine CW.loop (fun s:Nat×Nat=>[(0,.slice A n c),(1,.int .i64 a),(2,.func (.func f) #[] #[]),(8,.int .i64 (n:Int)),(9,.int .i64 (s.1:Int)),(10,.int .i64 (s.2:Int))])
  (fun s w'=>s.1<=s.2∧s.2<=n∧Ext w w'∧(∀ (k:Nat) (h:k<l.length),k<s.1->l[k].At<a)∧(∀ (k:Nat) (h:k<l.length),s.2<=k->a<=l[k].At)) (fun s=>s.2-s.1) (0,n)
  ⟨rfl,rfl,rfl,rfl,rfl,rfl,trivial⟩ ⟨by omega,by omega,hw,fun k h h'=>by omega,fun k h h'=>by omega⟩ ?_
 clear hw;rintro ⟨i,j⟩ w' ⟨o9,pB,hw,hI,hJ⟩
 simp only at o9 pB hI hJ ⊢;by_cases eQ:i<j
 ·have hk:(i+j) / 2<n:=by omega
  have iw:=hl.lt hk;have wR:=fun w1 h1=>hf (l[(i+j) / 2]) (ac0 iw) w1 h1
  repeat' (first|refine Wz ?_|refine Wo hw ((hl.all hk)) ?_|(refine SW.st ((mA Tryz.underlying3 my rfl).eq (congrArg (Value.int .u64) (wrap_u64 (by omega) (by omega)))) rfl ?_)|(refine SW.st ((mA my Tryz.underlying3 rfl).eq (congrArg (Value.int .i64) (jf (by omega) (by omega)))) rfl ?_)|(refine SW.st (xY rfl rfl) rfl ?_))
  refine SW.uI (cap:=[]) rfl rfl rfl (wR _ hw) fun v w1 ai hv => ?_
  subst hv;have hw:=hw.trans ai;by_cases SO:l[(i+j) / 2].At<a
  ·refine Wz ?_;refine ae.again ((i+j) / 2+1,j) ⟨rfl,rfl,rfl,rfl,congrArg (fun z=>some (Value.int .i64 z)) (by omega),rfl,trivial⟩ (by simp only;omega) ⟨by simp only;omega,pB,hw,fun k h h' => ?_,hJ⟩;simp only at h';by_cases e:k=(i+j) / 2
   ·subst e;exact SO
   ·have:=hu k ((i+j) / 2) h iw (by omega)
    omega
  ·refine Wz ?_;refine ae.again (i,(i+j) / 2) ⟨rfl,rfl,rfl,rfl,rfl,congrArg (fun z=>some (Value.int .i64 z)) (by omega),trivial⟩ (by simp only;omega) ⟨by simp only;omega,by simp only;omega,hw,hI,fun k h h' => ?_⟩;simp only at h';by_cases e:k=(i+j) / 2
   ·subst e;omega
   ·have:=hu ((i+j) / 2) k iw h (by omega)
    omega
 ·obtain rfl:i=j:=by omega
  have AL:bE l a=i:=HV (by omega) hI (fun h=>hJ i h (by omega))
  by_cases cQ:i<n
  ·have iw:=hl.lt cQ;have wR:=fun w1 h1=>hf (l[i]) (ac0 iw) w1 h1
   have ND:bO l a=decide (l[i].At=a):=by unfold bO;simp only [AL,iw,dif_pos]
   rw [AL,ND];repeat' (first|refine Wz ?_|refine Wo hw ((hl.all cQ)) ?_)
   refine SW.uI (cap:=[]) rfl rfl rfl (wR _ hw) fun v w1 ai hv => ?_
   subst hv;have hw:=hw.trans ai;by_cases he:l[i].At=a
   ·refine Wz ?_;refine ae.dj rfl rfl rfl ⟨_,rfl,hw,?_⟩;rw [decide_eq_true he,decide_eq_true (by omega)]
   ·refine Wz ?_;refine ae.dj rfl rfl rfl ⟨_,rfl,hw,?_⟩;rw [decide_eq_false he,decide_eq_false (by omega)]
  ·have ND:bO l a=false:=by unfold bO;rw [dif_neg (by omega)]
   rw [AL,ND];refine Wz ?_;exact ae.dj rfl rfl rfl ⟨_,rfl,hw,rfl⟩
theorem Qx {t:Int} (h:rT l) (hb:∀ b∈l,kV f t b) : l.Pairwise fun x y=>x.At<y.At:=by
 unfold rT at h;rw [ac8] at h ⊢;intro i j hi hj o9;have h1:=h i j hi hj o9;have hp:=hb _ (ac0 hi);have:=cy hp.1.1 hp.1.2.1
 omega
theorem CR (x:Block) (a:Int) (w:World) (hx : -4000000000000000000<=x.At∧x.At<=4000000000000000000) (ha : -4000000000000000000<=a∧a<=4000000000000000000) : bI prog 158 ([.agg (aO x).toArray,.int .i64 a]++[]) w fun v _=>v = .int .i64 (x.At-a):=by
 refine aE func158 rfl ntmps158 rfl ?_;refine CW.seq (CW.region (SW.box rfl rfl fun b1 w1 hw lc aW => ?_));refine Wz ?_;exact ae.bj rfl rfl ⟨_,rfl,hw,rfl⟩
theorem vL (r:dZ) (l:List Block) (f t a:Int) (w:World) (hl:Sl w 3 aO r.aj.A r.aj.n l) (hu:rT l) (hb:∀ b∈l,kV f t b) (h0 : 0<=f) (ht:t<=256) (hn:r.aj.n<=1000000000000000000) (ha : -1000<=a∧a<=1000) :
 bI prog 135 [.agg (dp r).toArray,.int .i64 a] w fun v _=>v = .tuple #[.int .i64 (bE l a:Int),.bool (bO l a)]:=by
 refine aE func135 rfl ntmps135 rfl ?_;refine CW.seq (CW.region (SW.box rfl rfl fun b1 w1 hw lc aW => ?_))
 have cB:∀ w',Ext w w'->bI prog 111 [.slice r.aj.A r.aj.n r.aj.c,.int .i64 a,.func (.func 158) #[] #[]] w' fun v _=>v = .tuple #[.int .i64 (bE l a:Int),.bool (bO l a)]:=fun w' h =>
  jv _ _ _ _ _ _ (hl.ext h) _ (fun x hx w1 _=>CR x a w1 (by have:=(hb x hx).1;unfold j9 at this;omega) (by omega)) (Qx hu hb) hn
 repeat' (first|refine Wz ?_|(refine Wk (cB _ hw) ?_;intro v w1 ai hv;subst hv;obtain ⟨hw,aW⟩:=cX ai hw aW;clear ai))
 exact ae.dj rfl rfl rfl ⟨_,rfl,hw,rfl⟩
theorem I6 (a o:Int) (b9:Nat) (x:Block) (w:World) (h9:aS w b9 147 (aO ⟨a,o,0⟩)) (ho : 0<=o∧o<=4) (ha : 0<=a∧a<=256) (hx : 0<=x.At∧x.At<=256) (hy : 0<=x.Order∧x.Order<=4) :
 bI prog 134 ([.agg (aO x).toArray]++[.pointer (some ⟨b9,0,none⟩)]) w fun v _=>v = .bool (decide (x.At<a+pw o) && decide (a<x.At+pw x.Order)):=by
 refine aE func134 rfl ntmps134 rfl ?_;refine CW.seq (CW.region (SW.box rfl rfl fun b2 w1 hw fk au => ?_));have h9:=h9.ext hw;have c1:∀ w',bI prog 133 [.agg (aO ⟨a,o,0⟩).toArray] w' fun v _=>v = .int .i64 (a+pw o):=fun w'=>pC ⟨a,o,0⟩ w' ho ha
 have c2:∀ w',bI prog 133 [.agg (aO x).toArray] w' fun v _=>v = .int .i64 (x.At+pw x.Order):=fun w'=>pC x w' hy hx
 by_cases h1:x.At<a+pw o
 ·repeat' (first|refine Wz ?_|((apply CW.bF mixed;(· kernel_rfl);rotate_left;intro w1 ai;obtain ⟨hw,au,h9⟩:=cj ai hw au h9;clear ai;rotate_right))|refine SW.dF rfl rfl (fun w1 ai=>(c1 _)) ?_|refine SW.dF rfl rfl (fun w1 ai=>(c2 _)) ?_|exact SW.eI rfl)
  exact ae.bj rfl rfl ⟨_,rfl,hw,by simp [h1]⟩
 ·repeat' (first|refine Wz ?_|((apply CW.bF mixed;(· kernel_rfl);rotate_left;intro w1 ai;obtain ⟨hw,au,h9⟩:=cj ai hw au h9;clear ai;rotate_right))|refine SW.dF rfl rfl (fun w1 ai=>(c1 _)) ?_|exact SW.eI rfl)
  exact ae.bj rfl rfl ⟨_,rfl,hw,by simp [h1]⟩
variable {a':Int}
theorem uO (h:fD z=false) : fM z a o=(8,.zero):=by simp [fM,h,ak.zero]
theorem xZ (h:fD z=true) (hf : ¬ j9 z.aU z.To a o) : fM z a o=(1,.zero):=by simp [fM,h,hf,ak.zero]
theorem CS (h:fD z=true) (hf:j9 z.aU z.To a o) (ho:ka z.aj a o=true) : fM z a o=(5,.zero):=by simp [fM,h,hf,ho,ak.zero]
theorem x8 (h:fD z=true) (hf:j9 z.aU z.To a o) (ho:ka z.aj a o=false) {o':Int} (hj:iV 5 z.aj a o=(l,a',o')) {t:Int} (ht:z.Types.getD ((a'-z.aU) / 8).toNat 0=t) :
 fM z a o=(0,⟨z.aU,z.To,aM l (bE l a') ⟨a',o',t⟩,z.Types⟩):=by simp [fM,h,hf,ho,hj,<- ht]
theorem kq (h:bU z) : z.aj.length<=256∧z.Types.length<=32:=by
 have hu:=pD h;have lP:=h.ok;unfold fC at lP
 have key:∀ (i:Nat) (hi:i<z.aj.length),(i:Int)<=(z.aj[i]).At:=by
  intro i;induction i with
  | zero =>
    intro hi;have:=(h.eG 0 hi).1
    unfold j9 at this;omega
  | succ i ih =>
    intro hi;have h1:=ih (by omega);have h2:=jF hu hi (aeF i);have h3:=(h.eG i (by omega)).1;have:=cy h3.1 h3.2.1
    omega
 refine ⟨?_,by have:=h.len;omega⟩;rcases adj z.aj.length with h0|h0
 ·omega
 ·have h1:=key (z.aj.length-1) (by omega);have h2:=(h.eG (z.aj.length-1) (by omega)).1;unfold j9 at h2;omega
theorem lX (z:ak) (a o:Int) : (fM z a o).2.aj.length<=257∧(fM z a o).2.Types.length<=32∧((fM z a o).1=0->(fM z a o).2.aU=z.aU∧(fM z a o).2.To=z.To∧(fM z a o).2.Types=z.Types):=by
 cases hq:fD z
 ·rw [uO hq];simp [ak.zero]
 ·have hz:=fg.1 hq;have hl:=kq hz;by_cases hf:j9 z.aU z.To a o
  ·cases ho:ka z.aj a o
   ·have hJ:=y4 (f:=0) (t:=0) hz hf ho;have hj:=D6 (by have:=hz.ok;unfold fC at this;omega) 5 hJ;obtain ⟨⟨l,a',o'⟩,uu⟩ : ∃ u,iV 5 z.aj a o=u:=⟨_,rfl⟩;rw [uu] at hj;rw [x8 hq hf ho uu rfl];have h3:=hj.2;simp only [aM,List.length_append,List.length_take,List.length_drop,List.length_singleton] at h3 ⊢;exact ⟨by omega,hl.2,fun _=>by simp⟩
   ·rw [CS hq hf ho];simp [ak.zero]
  ·rw [xZ hq hf];simp [ak.zero]
noncomputable def uP:Nat->ak->Int->Int×ak
 | 0,z,_=>(0,z)
 | k+1,z,p=>if (fM z p 0).1=0 then uP k (fM z p 0).2 (p+1) else ((fM z p 0).1,.zero)
def mB (z:ak) (f s:Int) : Prop:=0<=s∧z.aU<=f∧f<=z.To∧s<=z.To-f
instance (z:ak) (f s:Int) : Decidable (mB z f s):=inferInstanceAs (Decidable (_∧_))
noncomputable def pF (z:ak) (f s:Int) : Int×ak:=if fD z then (if mB z f s then uP s.toNat z f else (1,.zero)) else (8,.zero)
theorem HZ {s:Int} (h:fD z=false) : pF z f s=(8,.zero):=by simp [pF,h]
theorem H4 {s:Int} (h:fD z=true) (ha : ¬ mB z f s) : pF z f s=(1,.zero):=by simp [pF,h,ha]
theorem H7 (h:fD z=true) (ha:mB z f (k:Int)) : pF z f (k:Int)=uP k z f:=by simp [pF,h,ha]
structure I7 (z:ak) (a o:Int) (f:Nat) (l:List Block) (a' o':Int) : Prop where
 ok:D5 z.aU z.To l a' o'
 eq:iV 5 z.aj a o=iV f l a' o'
 fuel : 5<=(f:Int)+o'
 len:l.length<=z.aj.length
theorem I7.stop {f:Nat} {o':Int} (h:I7 z a o f l a' o') (ho : ¬ o'<4∨l.any (AJ (beside a' o') o')=false) : iV 5 z.aj a o=(l,a',o'):=by
 rw [h.eq];cases f with
 | zero=>rfl
 | succ f =>
   simp only [iV];rcases ho with h1|h1
   ·rw [if_neg h1]
   ·simp [h1]
theorem I7.next {f:Nat} {o':Int} (h:I7 z a o f l a' o') (h0 : 0<=z.aU) (ho:o'<4) (iC:l.any (AJ (beside a' o') o')=true) : ∃ f',I7 z a o f' (mn l (beside a' o') o') (min a' (beside a' o')) (o'+1):=by
 have hf:=h.fuel;obtain ⟨g,rfl⟩ : ∃ g,f=g+1:=⟨f-1,by omega⟩;refine ⟨g,h.ok.step h0 ho iC,?_,by omega,ac2 (aeH _ _) h.len⟩;rw [h.eq];simp only [iV,if_pos ho,iC,if_true]
set_option maxHeartbeats 8000000 in
theorem pG (r:dZ) (z:ak) (a o:Int) (w:World) (hr:F6 w r z) (hf:(r.aj.n+1)*24<=140737488355328) (ht:r.Types.n*8<=140737488355328) (h1 : -9223372036854775808<=r.aU∧r.aU<=9223372036854775807) (h2 : -9223372036854775808<=r.To∧r.To<=9223372036854775807) :
 bI prog 81 [.agg (dp r).toArray,.int .i64 a,.int .i64 o] w (xW w.heap.size (fM z a o)):=by
 refine aE func81 rfl ntmps81 rfl ?_;refine CW.seq (CW.region (SW.box rfl rfl fun b3 w1 hw cg ap => ?_));refine SW.alloc rfl fun b6 w2 bt dt aq => ?_
 have cG:=hw.up dt
 have oG:b3≠b6:=by have:=ap.lt;omega
 (obtain ⟨hw,ap⟩:=cX bt hw ap);have eF:=hr.from_;have eT:=hr.o8;have NZ:=hr.free.len;have SK:=hr.types.len;obtain ⟨q,hq⟩ : ∃ q,fD z=q:=⟨_,rfl⟩
 have c1:∀ w',Ext w w'->bI prog 80 [.agg (dp r).toArray] w' fun v _=>v = .int .i64 (if q then 0 else 8):=fun w' h=>by
  have:=kJ r z w' (hr.ext h) (by omega) (by omega) h1 h2
  rwa [hq] at this
 cases q
 ·simp only [Bool.false_eq_true,if_false] at c1;rw [uO hq];repeat' (first|refine Wz ?_|(refine Wk (c1 _ hw) ?_;intro v w1 ai hv;subst hv;obtain ⟨hw,ap,aq⟩:=cj ai hw ap aq;clear ai))
  refine SW.ag aq rfl rfl rfl rfl (fE .zero) fun w5 cS hg => ?_
  have hw:=hw.own cG hg;refine Wz ?_;exact ae.dw rfl rfl rfl cS rfl ⟨_,rfl,hw,.zero,rfl,iA.zero _ _⟩
 ·simp only [if_true] at c1;have hz:=fg.1 hq;obtain ⟨o1,o2,o3,o4,o5⟩:=hz.ok;repeat' (first|refine Wz ?_|(refine Wk (c1 _ hw) ?_;intro v w1 ai hv;subst hv;obtain ⟨hw,ap,aq⟩:=cj ai hw ap aq;clear ai))
  clear c1;refine SW.alloc rfl fun b9 w1 ai nQ bD => ?_
  skip;refine SW.ag bD rfl rfl rfl rfl (im.one (enc:=aO) ⟨a,o,0⟩) fun w2 jM hg => ?_
  have ar:=ai.own nQ hg;have rU:=hw.up nQ
  obtain ⟨hw,ap,aq⟩:=cj ar hw ap aq;have bD:=jM;clear jM ai hg ar
  have cF:∀ w',bI prog 132 [.agg (dp r).toArray,.agg (aO ⟨a,o,0⟩).toArray] w' fun v _=>v = .bool (decide (j9 z.aU z.To a o)):=fun w'=>by
   have:=sM r ⟨a,o,0⟩ w' (by omega)
   rwa [eF,eT] at this
  by_cases pd:j9 z.aU z.To a o
  ·rw [decide_eq_true pd] at cF;obtain ⟨f1,f2,f3,f4,f5⟩:=id pd
   have cC:∀ w',Ext w w'->aS w' b9 147 (aO ⟨a,o,0⟩)->bI prog 128 [.slice r.aj.A r.aj.n r.aj.c,.func (.func 134) #[] [.pointer (some ⟨b9,0,none⟩)].toArray] w' fun v _=>v = .bool (ka z.aj a o):=fun w' hx h9 =>
    lQ _ _ _ _ _ (hr.free.ext hx) _ [.pointer (some ⟨b9,0,none⟩)] (fun x=>decide (x.At<a+pw o) && decide (a<x.At+pw x.Order)) (fun x => .agg (aO x).toArray) (fun x=>rfl)
     (fun x R4 w1 lf=>by
       obtain ⟨i,hi,rfl⟩:=ac1 R4;obtain ⟨g1,g2,g3,g4,g5⟩:=(hz.eG i hi).1;exact I6 a o b9 _ w1 (h9.ext lf) ⟨f1,f2⟩ ⟨by omega,by omega⟩ ⟨by omega,by omega⟩ ⟨g1,g2⟩) (by omega)
   cases I5:ka z.aj a o
   ·rw [I5] at cC;have Vf:=y4 (f:=0) (t:=0) hz pd I5;repeat' (first|refine Wz ?_|(refine CW.fU rfl ?_)|((first|refine Wk (cF _) ?_|refine Wk (cC _ hw bD) ?_);intro v w1 ai hv;subst hv;obtain ⟨hw,ap,aq,bD⟩:=dG ai hw ap aq bD;clear ai)|(refine SW.st (jg (vs:=[.pointer (some ⟨b9,0,none⟩)]) rfl) rfl ?_))
    have SP:b9+1<=_:=bD.lt
    refine Wk (sL r z _ (hr.ext hw) (by omega) ht) fun v w4 ko hv => ?_
    obtain ⟨s,rfl,hs,e1,e2⟩:=hv;have hs:=hs.low SP;(obtain ⟨hw,ap,aq,bD⟩:=dG ko hw ap aq bD);clear SP cC cF;skip;refine SW.ag ap rfl rfl rfl rfl (fE s) fun w5 dW hg => ?_
    have hG:=ap.gr hg;have hw:=hw.own cg hg;(have bD:=bD.aN hG rfl);have hX:=hs.free.aN hG rfl;have hT:=hs.types.aN hG rfl;have aq:=aq.grown hg (by simpa using oG.symm);have ap:=dW;have es:s.aj.n=z.aj.length:=by rw [e1,NZ]
    have Zq:s=⟨s.aU,s.To,⟨s.aj.A,z.aj.length,s.aj.c⟩,s.Types⟩:=by rw [<- es]
    have sF:=hs.from_;have sT:=hs.o8;rw [es] at hX;rw [Zq] at ap;clear dW hg hG hs;refine Wz ?_
    obtain ⟨K,hK⟩ : ∃ K:Env->World->Prop,K=fun L' w' => ∃ l a' o' A c,il L' [(3,.pointer (some ⟨b3,0,none⟩)),(6,.pointer (some ⟨b6,0,none⟩)),(9,.pointer (some ⟨b9,0,none⟩))]∧Ext w w'∧aS w' b3 117 [.int .i64 s.aU,.int .i64 s.To,.slice A l.length c,.slice s.Types.A s.Types.n s.Types.c]∧aS w' b6 117 (dp .zero)∧aS w' b9 147 [.int .i64 a',.int .i64 o',.int .i64 0] ∧
     Own w' (b9+1) 147 3 aO A l.length c l∧Own w' (b9+1) 3 1 bw s.Types.A s.Types.n s.Types.c z.Types∧D5 z.aU z.To l a' o'∧iV 5 z.aj a o=(l,a',o')∧l.length<=z.aj.length:=⟨_,rfl⟩
    refine CW.I4 K ?_ ?_
    ·refine CW.loop (fun u:Nat×List Block×Int×Int×Option Addr×Nat=>[(3,.pointer (some ⟨b3,0,none⟩)),(6,.pointer (some ⟨b6,0,none⟩)),(9,.pointer (some ⟨b9,0,none⟩))])
      (fun u w'=>Ext w w'∧aS w' b3 117 [.int .i64 s.aU,.int .i64 s.To,.slice u.2.2.2.2.1 u.2.1.length u.2.2.2.2.2,.slice s.Types.A s.Types.n s.Types.c]∧aS w' b6 117 (dp .zero)∧aS w' b9 147 [.int .i64 u.2.2.1,.int .i64 u.2.2.2.1,.int .i64 0] ∧
        Own w' (b9+1) 147 3 aO u.2.2.2.2.1 u.2.1.length u.2.2.2.2.2 u.2.1∧Own w' (b9+1) 3 1 bw s.Types.A s.Types.n s.Types.c z.Types∧I7 z a o u.1 u.2.1 u.2.2.1 u.2.2.2.1) (fun u=>(5-u.2.2.2.1).toNat) (5,z.aj,a,o,s.aj.A,s.aj.c)
      ⟨rfl,rfl,rfl,trivial⟩ ⟨hw,ap,aq,bD,hX,hT,⟨Vf,rfl,by simp only;omega,ac3 _⟩⟩ ?_
     clear hw ap aq bD hX hT Vf;rintro ⟨f,l,a',o',A,c⟩ w' ⟨hw,ap,aq,bD,hX,hT,hJ⟩
     simp only at ap bD hX hJ ⊢;obtain ⟨k1,k2,k3,k4,k5⟩:=hJ.ok.fit;have hlen:=hJ.len;have hp:=cy k1 k2;by_cases Qy:o'<4
     ·obtain ⟨m1,m2,m3⟩:=yZ (by omega) k1 Qy k5;generalize D9:beside a' o'=vM at m1 m2 m3
      have ND:=I3 hJ.ok.rT hJ.ok.eG vM o'
      have cD:∀ w1,Ext w' w1->bI prog 135 [.agg (dp ⟨s.aU,s.To,⟨A,l.length,c⟩,s.Types⟩).toArray,.int .i64 vM] w1 fun v _=>v = .tuple #[.int .i64 (bE l vM:Int),.bool (bO l vM)]:=fun w1 hx =>
       vL ⟨s.aU,s.To,⟨A,l.length,c⟩,s.Types⟩ l z.aU z.To vM w1 (hX.sl.ext hx) hJ.ok.rT hJ.ok.eG o1 (by omega) (by simp only;omega) ⟨by omega,by omega⟩
      by_cases AL:bE l vM<l.length∧(∀ h:bE l vM<l.length,(l[bE l vM]).At=vM∧(l[bE l vM]).Order=o')
      ·obtain ⟨AL,hh⟩:=AL;obtain ⟨kX,xy⟩:=hh AL;have Qz:bO l vM=true:=by unfold bO;rw [dif_pos AL];exact decide_eq_true kX
       have Vg:vK l vM o'=true:=by unfold vK;rw [dif_pos AL];exact decide_eq_true ⟨kX,xy⟩
       rw [Vg] at ND;rw [Qz] at cD;have Zr:=AS hJ.ok.rT hJ.ok.eG AL kX xy;have hA:=hX.sl.base;generalize DM:bE l vM=lb at *
       have Pt:∀ x,x=beside a' o'->x=vM:=fun x e=>e.trans D9
       refine Wz ?_;(apply CW.bF mixed;(· kernel_rfl);rotate_left;intro w1 ai;obtain ⟨hw,ap,aq,bD,hX,hT⟩:=iS ai hw ap aq bD hX hT;clear ai;rotate_right);repeat' (first|refine Wz ?_|refine SW.dF rfl rfl (fun w1 ai=>(cD _ ai)) ?_|(refine SW.st (fA (r:=pw o') rfl rfl (by omega) (by omega) (by simp [pw]) (by omega) (by omega)) rfl ?_)|(refine SW.st ((nD a' o' rfl rfl rfl rfl ⟨by omega,by omega,k1,Qy,k5⟩).eq (congrArg (Value.int .i64) D9)) rfl ?_)|exact SW.eI rfl)
       (apply CW.bF mixed;(· kernel_rfl);rotate_left;intro w1 ai;obtain ⟨hw,ap,aq,bD,hX,hT⟩:=iS ai hw ap aq bD hX hT;clear ai;rotate_right);repeat' (first|refine Wz ?_|refine SW.want rfl rfl ?_|refine Wl (hX.sl.jL AL rfl) ?_|exact SW.eI rfl)
       refine CW.any 8 mixed (dg (by kernel_rfl)) rfl fun w1 ai aJ => ?_
       obtain ⟨hw,ap,aq,bD,hX,hT⟩:=iS ai hw ap aq bD hX hT;clear ai;refine Wa ?_;refine Wu 7 aJ rfl (aT rfl (hX.sl.jL AL rfl)) ?_;refine SA.done (by kernel_rfl) ?_;repeat' (first|refine Wz ?_|(refine SW.st (CK rfl rfl) rfl ?_))
       refine Wb (i:=0) bD fun w5 jM hg => ?_
       have hG:=bD.gr hg;have hw:=hw.own rU hg;have hX:=hX.grown hg (.inr (fun e=>by have:=hX.ba _ e;omega));(obtain ⟨ap,aq,hT⟩:=cj hG ap aq hT);have bD:=jM;clear jM hg hG;refine Wz ?_;refine Wb (i:=1) bD fun w5 jM hg => ?_
       have hG:=bD.gr hg;have hw:=hw.own rU hg;have hX:=hX.grown hg (.inr (fun e=>by have:=hX.ba _ e;omega));(obtain ⟨ap,aq,hT⟩:=cj hG ap aq hT);have bD:=jM;clear jM hg hG;refine Wz ?_;refine SW.dT rfl rfl (mR A l.length c _ l _ hX lb AL (by omega) (by have:=bD.lt;omega)) fun v w6 hv => ?_
       obtain ⟨rfl,CT,hg⟩:=hv;have hG:=hX.gr hg;have hw:=aF hw hg (ac2 rU (Nat.le_succ _)) hX.ba;have bD:=bD.grown hg (fun e=>by have:=hX.ba _ e.symm;omega);(obtain ⟨ap,aq,hT⟩:=cj hG ap aq hT);clear hg hG;have AV:l.length-1=(l.eraseIdx lb).length:=by rw [aeh AL]
       rw [AV] at CT;rw [AV];refine Wz ?_;refine Wb (i:=2) ap fun w7 dW hg => ?_
       have hG:=ap.gr hg;have hw:=hw.own cg hg;have aq:=aq.grown hg (by simpa using oG.symm);(obtain ⟨bD,CT,hT⟩:=cj hG bD CT hT);refine Wz ?_;obtain ⟨f',Pu⟩:=hJ.next o1 Qy (by rw [D9];exact ND)
       rw [D9,<- Zr] at Pu;refine ae.again (f',l.eraseIdx lb,min a' vM,o'+1,A,c) ⟨rfl,rfl,rfl,trivial⟩ (by simp only;omega) ⟨hw,dW,aq,?_,CT,hT,Pu⟩;rw [kX] at bD;exact bD
      ·have Vg:vK l vM o'=false:=by
        unfold vK;by_cases h:bE l vM<l.length
        ·rw [dif_pos h];exact decide_eq_false (fun hh=>AL ⟨h,fun _=>hh⟩)
        ·rw [dif_neg h]
       rw [Vg] at ND;have AH:=hJ.stop (.inr (by rw [D9];exact ND))
       have AW:∀ w1,Ext w w1->aS w1 b3 117 [.int .i64 s.aU,.int .i64 s.To,.slice A l.length c,.slice s.Types.A s.Types.n s.Types.c]->aS w1 b6 117 (dp .zero)->aS w1 b9 147 [.int .i64 a',.int .i64 o',.int .i64 0]->Own w1 (b9+1) 147 3 aO A l.length c l->Own w1 (b9+1) 3 1 bw s.Types.A s.Types.n s.Types.c z.Types -> ∀ L',il L' [(3,.pointer (some ⟨b3,0,none⟩)),(6,.pointer (some ⟨b6,0,none⟩)),(9,.pointer (some ⟨b9,0,none⟩))]->K L' w1:=fun w1 x1 x2 x3 x4 x5 x6 L' x7=>by
        rw [hK];exact ⟨l,a',o',A,c,x7,x1,x2,x3,x4,x5,x6,hJ.ok,AH,hJ.len⟩
       by_cases AV:bE l vM<l.length
       ·have hA:=hX.sl.base;by_cases kX:(l[bE l vM]).At=vM
        ·have xy : ¬ (l[bE l vM]).Order=o':=fun h=>AL ⟨AV,fun _=>⟨kX,h⟩⟩
         have Qz:bO l vM=true:=by unfold bO;rw [dif_pos AV];exact decide_eq_true kX
         rw [Qz] at cD;generalize DM:bE l vM=lb at *
         repeat' (first|refine Wz ?_|((apply CW.bF mixed;(· kernel_rfl);rotate_left;intro w1 ai;obtain ⟨hw,ap,aq,bD,hX,hT⟩:=iS ai hw ap aq bD hX hT;clear ai;rotate_right))|refine SW.want rfl rfl ?_|refine Wl (hX.sl.jL AV rfl) ?_|refine SW.dF rfl rfl (fun w1 ai=>(cD _ ai)) ?_|(refine SW.st (fA (r:=pw o') rfl rfl (by omega) (by omega) (by simp [pw]) (by omega) (by omega)) rfl ?_)|(refine SW.st ((nD a' o' rfl rfl rfl rfl ⟨by omega,by omega,k1,Qy,k5⟩).eq (congrArg (Value.int .i64) D9)) rfl ?_)|exact SW.eI rfl)
         exact ae.lW (K:=K) (AW _ hw ap aq bD hX hT _ ⟨rfl,rfl,rfl,trivial⟩)
        ·have Qz:bO l vM=false:=by unfold bO;rw [dif_pos AV];exact decide_eq_false kX
         rw [Qz] at cD;generalize DM:bE l vM=lb at *
         repeat' (first|refine Wz ?_|((apply CW.bF mixed;(· kernel_rfl);rotate_left;intro w1 ai;obtain ⟨hw,ap,aq,bD,hX,hT⟩:=iS ai hw ap aq bD hX hT;clear ai;rotate_right))|refine SW.skip rfl rfl rfl rfl ?_|refine SW.dF rfl rfl (fun w1 ai=>(cD _ ai)) ?_|(refine SW.st (fA (r:=pw o') rfl rfl (by omega) (by omega) (by simp [pw]) (by omega) (by omega)) rfl ?_)|(refine SW.st ((nD a' o' rfl rfl rfl rfl ⟨by omega,by omega,k1,Qy,k5⟩).eq (congrArg (Value.int .i64) D9)) rfl ?_)|exact SW.eI rfl)
         exact ae.lW (K:=K) (AW _ hw ap aq bD hX hT _ ⟨rfl,rfl,rfl,trivial⟩)
       ·have Qz:bO l vM=false:=by unfold bO;rw [dif_neg AV]
        rw [Qz] at cD;generalize DM:bE l vM=lb at *
        repeat' (first|refine Wz ?_|((apply CW.bF mixed;(· kernel_rfl);rotate_left;intro w1 ai;obtain ⟨hw,ap,aq,bD,hX,hT⟩:=iS ai hw ap aq bD hX hT;clear ai;rotate_right))|refine SW.skip rfl rfl rfl rfl ?_|refine SW.dF rfl rfl (fun w1 ai=>(cD _ ai)) ?_|(refine SW.st (fA (r:=pw o') rfl rfl (by omega) (by omega) (by simp [pw]) (by omega) (by omega)) rfl ?_)|(refine SW.st ((nD a' o' rfl rfl rfl rfl ⟨by omega,by omega,k1,Qy,k5⟩).eq (congrArg (Value.int .i64) D9)) rfl ?_)|exact SW.eI rfl)
        exact ae.lW (K:=K) (AW _ hw ap aq bD hX hT _ ⟨rfl,rfl,rfl,trivial⟩)
     ·refine Wz ?_;exact ae.lW (K:=K) (by rw [hK];exact ⟨l,a',o',A,c,⟨rfl,rfl,rfl,trivial⟩,hw,ap,aq,bD,hX,hT,hJ.ok,hJ.stop (.inl Qy),hJ.len⟩)
    ·clear hw ap aq bD hX hT Vf;subst hK;rintro L' w' ⟨l,a',o',A,c,jw,hw,ap,aq,bD,hX,hT,hJ,SQ,hlen⟩
     refine ae.sub jw ?_;obtain ⟨k1,k2,k3,k4,k5⟩:=hJ.fit;obtain ⟨k,hk,iw⟩:=HU hz k3 k4;have gh:k<s.Types.n:=by omega
     have Zs:=x8 hq pd I5 SQ (t:=z.Types[k]) (by rw [hk];simp [List.getD_eq_getElem?_getD,List.getElem?_eq_getElem iw]);rw [Zs];have Vh:l.length<=1000000000000000000:=by omega
     have hA:=hT.sl.base;have eF2:s.aU=z.aU:=sF
     repeat' (first|refine Wz ?_|refine SW.st (cm (k) rfl rfl (by assumption) (by omega) (by omega)) rfl ?_|refine Wl (hT.sl.one gh rfl) ?_)
     refine Wb (i:=2) bD fun w5 jM hg => ?_
     have hG:=bD.gr hg;have hw:=hw.own rU hg;have hX:=hX.grown hg (.inr (fun e=>by have:=hX.ba _ e;omega));(obtain ⟨ap,aq,hT⟩:=cj hG ap aq hT);have bD:=jM;clear jM hg hG;repeat' (first|refine Wz ?_|(refine Wk (vL ⟨s.aU,s.To,⟨A,l.length,c⟩,s.Types⟩ l z.aU z.To a' _ hX.sl hJ.rT hJ.eG o1 (by omega) Vh ⟨by omega,by omega⟩) ?_;intro v w1 ai hv;subst hv;obtain ⟨hw,ap,aq,bD,hX,hT⟩:=iS ai hw ap aq bD hX hT;clear ai))
     have eQ:=hX.lt_size;refine SW.dR rfl rfl rfl rfl rfl fun vb w6 ar SR Zt => ?_
     (obtain ⟨hw,ap,aq,bD,hX,hT⟩:=iS ar hw ap aq bD hX hT);skip;refine SW.dT rfl rfl (kC A l.length c _ l _ hX (bE l a') (HW l a') ⟨a',o',z.Types[k]⟩ vb Zt (fun e=>by have:=eQ _ e;omega) (ac2 (adt 24 (by omega)) hf) (by have:=bD.lt;omega)) fun v w7 hv => ?_
     obtain ⟨A2,c2,rfl,CT,hg⟩:=hv;have hG:=hX.gr hg;have hw:=aF hw hg (ac2 rU (Nat.le_succ _)) hX.ba;have bD:=bD.grown hg (fun e=>by have:=hX.ba _ e.symm;omega);(obtain ⟨ap,aq,hT⟩:=cj hG ap aq hT);clear hg hG;refine Wz ?_;refine Wb (i:=2) ap fun w8 dW hg => ?_
     have hG:=ap.gr hg;have hw:=hw.own cg hg;have aq:=aq.grown hg (by simpa using oG.symm);(obtain ⟨bD,CT,hT⟩:=cj hG bD CT hT);clear hg hG;refine Wz ?_;refine SW.ag aq rfl rfl rfl rfl (fE ⟨s.aU,s.To,⟨A2,l.length+1,c2⟩,s.Types⟩) fun w9 cS hg => ?_
     have hG:=aq.gr hg;have hw:=hw.own cG hg;(obtain ⟨CT,hT⟩:=cX hG CT hT);refine Wz ?_;exact ae.dw rfl rfl rfl cS rfl ⟨_,rfl,hw,⟨s.aU,s.To,⟨A2,l.length+1,c2⟩,s.Types⟩,rfl,sF,sT,CT.low (by omega),hT.low (by omega)⟩
   ·rw [I5] at cC;rw [CS hq pd I5];repeat' (first|refine Wz ?_|(refine CW.fU rfl ?_)|((first|refine Wk (cF _) ?_|refine Wk (cC _ hw bD) ?_);intro v w1 ai hv;subst hv;obtain ⟨hw,ap,aq,bD⟩:=dG ai hw ap aq bD;clear ai)|(refine SW.st (jg (vs:=[.pointer (some ⟨b9,0,none⟩)]) rfl) rfl ?_))
    refine SW.ag aq rfl rfl rfl rfl (fE .zero) fun w5 cS hg => ?_
    have hw:=hw.own cG hg;refine Wz ?_;exact ae.dw rfl rfl rfl cS rfl ⟨_,rfl,hw,.zero,rfl,iA.zero _ _⟩
  ·rw [decide_eq_false pd] at cF;rw [xZ hq pd];repeat' (first|refine Wz ?_|(refine CW.gj rfl ?_)|(refine Wk (cF _) ?_;intro v w1 ai hv;subst hv;obtain ⟨hw,ap,aq,bD⟩:=dG ai hw ap aq bD;clear ai))
   refine SW.ag aq rfl rfl rfl rfl (fE .zero) fun w5 cS hg => ?_
   have hw:=hw.own cG hg;refine Wz ?_;exact ae.dw rfl rfl rfl cS rfl ⟨_,rfl,hw,.zero,rfl,iA.zero _ _⟩
def ew (l:List Region) (p:Int) : Bool:=l.any fun r=>decide (r.aU<=p) && decide (p<r.aU+r.aA)
def bump:List Region->List Region
 | []=>[]
 | [r]=>[⟨r.aU,r.aA+1⟩]
 | x::y::l=>x::bump (y::l)
def runs (p:Nat->Bool) : Nat->List Region
 | 0=>[]
 | i+1=>if p i then (if 0<i∧p (i-1)=true then bump (runs p i) else runs p i++[⟨(i:Int),1⟩]) else runs p i
theorem oH:∀ (l:List Region) (r:Region),bump (l++[r])=l++[⟨r.aU,r.aA+1⟩]
 | [],_=>rfl
 | [x],_=>rfl
 | x::y::l,r=>by
   have ih:=oH (y::l) r;simp only [List.cons_append,bump] at ih ⊢;rw [ih]
structure QA (p:Nat->Bool) (k:Nat) (l:List Region) : Prop where
 Pv:∀ r∈l,0<=r.aU∧1<=r.aA∧r.aU+r.aA<=(k:Int)
 len:l.length<=k
 last : 0<k->p (k-1)=true -> ∃ init r,l=init++[r]∧r.aU+r.aA=(k:Int)
 below:(0<k->p (k-1)=false) -> ∀ r∈l,r.aU+r.aA<(k:Int)
 sep:l.Pairwise fun a b=>a.aU+a.aA<b.aU
 iff:∀ i:Nat,i<k->(p i=true ↔ ∃ r∈l,r.aU<=(i:Int)∧(i:Int)<r.aU+r.aA)
theorem uQ (p:Nat->Bool) : ∀ k,QA p k (runs p k)
 | 0=>⟨by simp [runs],by simp [runs],by simp,by simp [runs],by simp [runs],by simp⟩
 | k+1=>by
   have ih:=uQ p k;simp only [runs];by_cases hp:p k=true
   ·rw [if_pos hp];by_cases hq : 0<k∧p (k-1)=true
    ·rw [if_pos hq];obtain ⟨init,r,hl,hr⟩:=ih.last hq.1 hq.2;rw [hl,oH];have QB:=ih.Pv;have hlen:=ih.len;have Ea:=ih.sep;have Ln:=ih.iff;rw [hl] at QB hlen Ea Ln;have hr0:=QB r (by simp);refine ⟨?_,?_,?_,?_,?_,?_⟩
     ·intro x hx;simp only [List.mem_append,List.mem_singleton] at hx;rcases hx with hx|rfl
      ·have:=QB x (by simp [hx]);omega
      ·simp only;omega
     ·simp only [List.length_append,List.length_singleton] at hlen ⊢;omega
     ·intro _ _;exact ⟨init,_,rfl,by simp only;omega⟩
     ·intro h;simp at h;rw [h] at hp;cases hp
     ·rw [adp] at Ea ⊢;refine ⟨Ea.1,by simp,fun a ha b hb => ?_⟩;simp only [List.mem_singleton] at hb;subst hb;exact Ea.2.2 a ha r (by simp)
     ·intro i hi;by_cases D0:i=k
      ·subst D0;simp only [hp,true_iff];exact ⟨⟨r.aU,r.aA+1⟩,by simp,by simp only;omega,by simp only;omega⟩
      ·rw [Ln i (by omega)];constructor
       ·rintro ⟨x,hx,h1,h2⟩
        simp only [List.mem_append,List.mem_singleton] at hx;rcases hx with hx|rfl
        ·exact ⟨x,by simp [hx],h1,h2⟩
        ·exact ⟨⟨x.aU,x.aA+1⟩,by simp,h1,by simp only;omega⟩
       ·rintro ⟨x,hx,h1,h2⟩
        simp only [List.mem_append,List.mem_singleton] at hx;rcases hx with hx|rfl
        ·exact ⟨x,by simp [hx],h1,h2⟩
        ·simp only at h1 h2;exact ⟨r,by simp,h1,by omega⟩
    ·rw [if_neg hq]
     have hb:∀ r∈runs p k,r.aU+r.aA<(k:Int):=ih.below (fun h0=>by
      cases hh:p (k-1) with
      | false=>rfl
      | true=>exact absurd ⟨h0,hh⟩ hq)
     refine ⟨?_,?_,?_,?_,?_,?_⟩
     ·intro x hx;simp only [List.mem_append,List.mem_singleton] at hx;rcases hx with hx|rfl
      ·have:=ih.Pv x hx;omega
      ·simp only;omega
     ·have:=ih.len
      simp only [List.length_append,List.length_singleton];omega
     ·intro _ _;exact ⟨runs p k,_,rfl,by simp only;omega⟩
     ·intro h;simp at h;rw [h] at hp;cases hp
     ·rw [adp];refine ⟨ih.sep,by simp,fun a ha b iq => ?_⟩;simp only [List.mem_singleton] at iq;subst iq;exact hb a ha
     ·intro i hi;by_cases D0:i=k
      ·subst D0;simp only [hp,true_iff];exact ⟨⟨(i:Int),1⟩,by simp,by simp only;omega,by simp only;omega⟩
      ·rw [ih.iff i (by omega)];constructor
       ·rintro ⟨x,hx,h1,h2⟩
        exact ⟨x,by simp [hx],h1,h2⟩
       ·rintro ⟨x,hx,h1,h2⟩
        simp only [List.mem_append,List.mem_singleton] at hx;rcases hx with hx|rfl
        ·exact ⟨x,hx,h1,h2⟩
        ·simp only at h1 h2;omega
   ·rw [if_neg hp];have Gg:p k=false:=by simpa using hp
    refine ⟨?_,?_,?_,?_,ih.sep,?_⟩
    ·intro x hx;have:=ih.Pv x hx;omega
    ·have:=ih.len;omega
    ·intro _ h;simp at h;rw [h] at Gg;cases Gg
    ·intro _ x hx;have:=ih.Pv x hx;omega
    ·intro i hi;by_cases D0:i=k
     ·subst D0;simp only [Gg,Bool.false_eq_true,false_iff];rintro ⟨x,hx,h1,h2⟩
      have:=ih.Pv x hx;omega
     ·exact ih.iff i (by omega)
def marksOf (p:Nat->Bool) (k:Nat) : List Bool:=(List.range k).map p
theorem Eb (p:Nat->Bool) (k:Nat) : (marksOf p k).length=k:=by simp [marksOf]
theorem mC (p:Nat->Bool) (k i:Nat) (h:i<(marksOf p k).length) : (marksOf p k)[i]=p i:=by simp [marksOf]
theorem rV (p:Nat->Bool) (k i:Nat) (b:Bool) : (marksOf p k).set i b=marksOf (fun j=>if j=i then b else p j) k:=by
 apply adR (by simp [marksOf]);intro j h1 h2;rw [adq];by_cases h:i=j
 ·subst h;simp [marksOf]
 ·have : ¬ j=i:=fun e=>h e.symm
  simp [marksOf,h,this]
theorem ir {p q:Nat->Bool} (h:∀ i,i<k->p i=q i) : marksOf p k=marksOf q k:=by
 apply adR (by simp [marksOf]);intro j h1 h2;simp only [mC];exact h j (by simpa [marksOf] using h1)
variable {bs:List Block}
def qi (b:Block) (i:Nat) : Bool:=decide (b.At<=(i:Int)) && decide ((i:Int)<b.At+pw b.Order)
def ed (bs:List Block) (i:Nat) : Bool:=bs.any fun b=>qi b i
def wT (bs:List Block) (b:Block) : Prop:=0<=b.At∧b.At+pw b.Order<=256∧ka bs b.At b.Order=false
instance (bs:List Block) (b:Block) : Decidable (wT bs b):=inferInstanceAs (Decidable (_∧_))
def lM (s:Option (List Block)) (b:Block) : Option (List Block):=match s with
 | none=>none
 | some bs=>if wT bs b then some (bs++[b]) else none
def bB (s:Option (List Block)) (l:List Block) : Option (List Block):=l.foldl lM s
theorem iW:∀ l,bB none l=none
 | []=>rfl
 | b::l=>iW l
theorem dv (s:Option (List Block)) (l m:List Block) : bB s (l++m)=bB (bB s l) m:=aeZ
theorem wU (s:Option (List Block)) (l:List Block) (k:Nat) (h:k<l.length) : bB s (l.take (k+1))=lM (bB s (l.take k)) l[k]:=by
 rw [ac5 h,dv];rfl
theorem pH {s:Option (List Block)} {b:Block} (h:lM s b=some bs) : ∃ cs,s=some cs∧wT cs b∧bs=cs++[b]:=by
 cases s with
 | none=>simp [lM] at h
 | some cs =>
   simp only [lM] at h;split at h
   ·rename_i hf;injection h with h;exact ⟨cs,rfl,hf,h.symm⟩
   ·cases h
def QC (p:Nat->Bool) (a n:Int) : Prop:=0<=a∧a<256∧n<=256-a ∧ ∀ i:Nat,a<=(i:Int)->(i:Int)<a+n->p i=false
def AX (p:Nat->Bool) (a n:Int) (i:Nat) : Bool:=p i || (decide (a<=(i:Int)) && decide ((i:Int)<a+n))
theorem sO (hb:∀ b∈bs,0<=b.At∧1<=pw b.Order) {b:Block} (h1 : 1<=pw b.Order) : QC (ed bs) b.At (pw b.Order)↔wT bs b:=by
 constructor
 ·rintro ⟨h2,h3,h4,h5⟩
  refine ⟨h2,by omega,?_⟩;unfold ka;rw [ado];intro x hx hh;simp only [Bool.and_eq_true,decide_eq_true_eq] at hh;obtain ⟨k1,k2⟩:=hh;obtain ⟨q1,q2⟩:=hb x hx;have h6:=h5 (max x.At b.At).toNat (by omega) (by omega);unfold ed at h6;rw [ado] at h6;apply h6 x hx;simp only [qi,Bool.and_eq_true,decide_eq_true_eq];omega
 ·rintro ⟨h2,h3,h4⟩
  refine ⟨h2,by omega,by omega,fun i k1 k2 => ?_⟩;unfold ed;rw [ado];intro x hx hh;simp only [qi,Bool.and_eq_true,decide_eq_true_eq] at hh;unfold ka at h4;rw [ado] at h4;apply h4 x hx;simp only [Bool.and_eq_true,decide_eq_true_eq];omega
theorem Lo (bs:List Block) (b:Block) (i:Nat) : AX (ed bs) b.At (pw b.Order) i=ed (bs++[b]) i:=by
 simp [AX,ed,qi]
def rW (s:Option (List Block)) : Prop := ∀ bs,s=some bs -> ∀ x∈bs,0<=x.At∧1<=pw x.Order
theorem Bt:rW (some []):=fun bs h x hx=>by cases h;simp at hx
theorem I8 {s:Option (List Block)} {b:Block} (h:rW s) (hb : 1<=pw b.Order) : rW (lM s b):=fun bs SS x hx=>by
 obtain ⟨cs,rfl,hf,rfl⟩:=pH SS;rcases ac9.1 hx with hx|hx
 ·exact h cs rfl x hx
 ·simp at hx;subst hx;exact ⟨hf.1,hb⟩
theorem kY {s:Option (List Block)}:∀ {l:List Block},rW s->(∀ b∈l,1<=pw b.Order)->rW (bB s l)
 | [],h,_=>h
 | b::l,h,hb=>kY (l:=l) (I8 h (hb b (by simp))) (fun x hx=>hb x (by simp [hx]))
def ct (p:Int) : Block:=⟨p,0,0⟩
def a9 (l:List aR) : List Block:=l.flatMap fun x=>x.ax.map ct
theorem jh:pw 0=1:=by decide
def da (a b:aR) : Prop:=a.fV<b.fV∨(a.fV=b.fV∧(a.ak<b.ak∨(a.ak=b.ak∧a.Ty<b.Ty)))
instance (a b:aR) : Decidable (da a b):=inferInstanceAs (Decidable (_∨_))
def lj (cpus:Int) (l:aR) : Prop:=(0<=l.fV∧l.fV<cpus)∧(0<=l.ak∧l.ak<=1)∧(0<=l.Ty∧l.Ty<=2)∧(1<=l.ax.length∧l.ax.length<=8)
instance (c:Int) (l:aR) : Decidable (lj c l):=inferInstanceAs (Decidable (_∧_))
structure nf (cpus to:Int) (ls:List aR) : Prop where
 head:∀ (i:Nat) (h:i<ls.length),lj cpus ls[i]
 next:∀ (i:Nat) (h:i+1<ls.length),da ls[i] ls[i+1]
 kh:∀ (i:Nat) (h:i<ls.length),∀ p∈(ls[i]).ax,(p<to↔(ls[i]).ak=0)
def vN (b:Block) : Prop:=(0<=b.Order∧b.Order<=4)∧(0<=b.At∧b.At<=255)∧b.At % pw b.Order=0∧kH b.Ty
structure fP (l:List Block) : Prop where
 each:∀ (i:Nat) (h:i<l.length),vN l[i]
 next:∀ (i:Nat) (h:i+1<l.length),l[i].At<l[i+1].At
structure bJ (h:Heap) : Prop where
 cr:∃ z0 z1,h.bp=[z0,z1]∧bU z0∧bU z1∧z0.aU=0∧z0.To=z1.aU∧z1.To=256∧nf h.bG z0.To h.av∧(bB (some []) (z0.aj++z1.aj++a9 h.av++h.Live)).isSome=true
 ef:∃ m0 m1,h.dK=[m0,m1]∧(0<=m0∧m0<=256)∧(0<=m1∧m1<=256)
 cpus : 1<=h.bG∧h.bG<=4
 live:fP h.Live
noncomputable def iX (h:Heap) : Bool := @decide (bJ h) (Classical.propDecidable _)
theorem CU {h:Heap} (a:bJ h) : iX h=true:=by unfold iX;exact @decide_eq_true _ (Classical.propDecidable _) a
theorem ng {h:Heap} (a : ¬ bJ h) : iX h=false:=by unfold iX;exact @decide_eq_false _ (Classical.propDecidable _) a
theorem cn {h:Heap}:iX h=true↔bJ h:=by
 by_cases a:bJ h
 ·simp [CU a,a]
 ·simp [ng a,a]
theorem rX (l:List aR) (k:Nat) (h:k<l.length) : a9 (l.take (k+1))=a9 (l.take k)++l[k].ax.map ct:=by
 unfold a9;rw [ac5 h,adi];simp
theorem jQ {s:Option (List Block)} {m:List Block} (h:(bB s (l++m)).isSome=true) : (bB s l).isSome=true:=by
 rw [dv] at h;cases e:bB s l with
 | none=>rw [e,iW] at h;cases h
 | some x=>rfl
end Go.Proofs.YtohigmjjbgpfmaaGreatDoor
