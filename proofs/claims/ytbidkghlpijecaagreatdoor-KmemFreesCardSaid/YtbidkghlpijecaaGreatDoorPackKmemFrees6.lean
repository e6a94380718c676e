/-
  Texts of the claim KmemFrees, part 6: what its theorem leans on.
-/
import Derived.Test.YtbidkghlpijecaaGreatDoorPackKmemFrees4
import Derived.Test.YtbidkghlpijecaaGreatDoorPackKmemFrees2
import Derived.Test.YtbidkghlpijecaaGreatDoorPackKmemFrees5
import Derived.Test.YtbidkghlpijecaaGreatDoorPackKmemFrees1
import Derived.Lib.AppendZerosOnto
import Derived.Lib.Overlaps
import Derived.Room.Entries
set_option linter.unusedVariables false
set_option linter.unusedSimpArgs false
namespace Go.Proofs.YtbidkghlpijecaaGreatDoor
open Go.RowKit
def rS (t:Int) : Bool := !decide (j3 t)
theorem uH {t:Int} (h:j3 t) : rS t=false:=by simp [rS,h]
theorem uI {t:Int} (h : ¬ j3 t) : rS t=true:=by simp [rS,h]
theorem pf (t:Int) (w:World) : a9 Tryz.prog 228 ([.int .i64 t]++[]) w fun v _=>v = .bool (rS t):=by
 refine aC Tryz.func228 rfl Tryz.ntmps228 rfl ?_;have hw:=Ext.refl w;by_cases h1 : 0≤t
 ·by_cases h2:t≤2
  ·rw [uH ⟨h1,h2⟩];refine Wz ?_;all_goals exact ae.aF rfl rfl ⟨_,rfl,hw,by simp;try omega⟩
  ·rw [uI (fun h=>h2 h.2)];refine Wz ?_;all_goals exact ae.aF rfl rfl ⟨_,rfl,hw,by simp;try omega⟩
 ·rw [uI (fun h=>h1 h.1)];refine Wz ?_;all_goals exact ae.aF rfl rfl ⟨_,rfl,hw,by simp;try omega⟩
set_option maxHeartbeats 4000000 in
theorem jP (r:cJ) (z:ay) (w:World) (hr:p7 w r z) (hf:r.ao.n≤2305843009213693952) (ht:r.Types.n≤2305843009213693952) (h1 : -9223372036854775808≤r.aR∧r.aR≤9223372036854775807) (h2 : -9223372036854775808≤r.To∧r.To≤9223372036854775807) :
 a9 Tryz.prog 176 [.agg (cd r).toArray] w fun v _=>v = .int .i64 (if fa z then 0 else 8):=by
 refine aC Tryz.func176 rfl Tryz.ntmps176 rfl ?_;refine CW.seq (CW.region (SW.box rfl rfl fun b1 w1 hw gI au => ?_));have eF:=hr.from_;have eT:=hr.jF;have D9:=hr.free.len;have Ea:=hr.types.len;refine Wz ?_;refine SW.call rfl rfl (xS r.aR r.To _ h1 h2) fun v w2 cg hv => ?_
 (replace hw:=Ext.trans hw cg;replace au:=au.ext cg);by_cases mg:fX r.aR r.To
 ·rw [jM mg] at hv;obtain ⟨s,rfl,hs⟩:=hv;obtain ⟨o1,o2,o3,o4,o5⟩:=id mg;have lc:∀ {p:Prop},(cb z→False)→p ∨ ¬ cb z:=fun h => .inr h
  by_cases CR : 8*(z.Types.length:Int)=z.To-z.aR
  ·refine Wz ?_;refine SW.alloc rfl fun b3 w1 ab bM ap => ?_
   have bO:w.heap.size≤b3:=Nat.le_trans hw.size bM
   have iD:b1≠b3:=by have:=au.lt;omega
   replace hw:=Ext.trans hw ab;replace au:=au.ext ab;replace hs:=hs.ext ab;refine SW.aj ap rfl rfl rfl rfl (dh _) fun w2 de hg => ?_
   replace hw:=hw.own bO hg;replace hs:=hs.gd ap hg rfl rfl;replace au:=au.grown hg (by simpa using iD);replace ap:=de;clear de ab hg bM
   have cO:∀ w',Ext w w'→a9 Tryz.prog 96 [.slice r.Types.A r.Types.n r.Types.c,.func (.func 228) #[] ([] : List Value).toArray] w' fun v _=>v = .bool (z.Types.any rS):=fun w' h =>
    dO _ _ _ _ _ (hr.types.ext h) _ [] rS (fun x => .int .i64 x) (fun x=>rfl) (fun x _ w1 _=>pf x w1) (by omega)
   cases wg:z.Types.any rS
   ·rw [wg] at cO
    have Aq:∀ t∈z.Types,j3 t:=fun t EJ=>by
     rw [List.any_eq_false] at wg;have:=wg t EJ
     simp [rS] at this;exact this
    repeat' (first|refine Wz ?_|(refine SW.call rfl rfl (cO _ hw) ?_;intro v w1 ab hv;subst hv;replace hw:=Ext.trans hw ab;replace au:=au.ext ab;clear ab))
    refine CW.loop (fun k:Nat=>[(1,.pointer (some ⟨b1,0,none⟩)),(5,.func (.func 228) #[] #[]),(35,.slice r.ao.A r.ao.n r.ao.c),(36,.int .i64 (r.ao.n:Int)),(37,.int .i64 (k:Int))])
     (fun k w'=>k≤r.ao.n∧Ext w w'∧aU w' b1 139 (cd r)∧(∀ (i:Nat) (h:i<z.ao.length),i<k→dr z.aR z.To z.ao[i])∧(∀ (i:Nat) (h:i+1<z.ao.length),i+1<k→ji z.ao[i] z.ao[i+1]))
     (fun k=>r.ao.n-k) 0 ⟨rfl,rfl,rfl,rfl,rfl,trivial⟩ ⟨by omega,hw,au,fun i h hi=>by omega,fun i h hi=>by omega⟩ ?_
    clear hw au ap cO hs;rintro k w' ⟨hk,hw,au,hI,hN⟩
    have hA:=hr.free.base;by_cases cc:k<r.ao.n
    ·have cG:=hr.free.lt cc;repeat' (first|refine Wz ?_|refine SW.st (aA hw rfl rfl ((hr.free.all cc))) rfl ?_)
     refine SW.alloc rfl fun b7 w3 jI j5 iV => ?_
     have qj:w.heap.size≤b7:=Nat.le_trans hw.size j5
     have cQ:b1≠b7:=by have:=au.lt;omega
     (replace hw:=Ext.trans hw jI;replace au:=au.ext jI);refine Wz ?_;refine SW.aj iV rfl rfl rfl rfl (fM.one (enc:=aE) _) fun w4 cY hg => ?_
     replace hw:=hw.own qj hg;replace au:=au.grown hg (by simpa using cQ);by_cases sE:dr z.aR z.To z.ao[k]
     ·obtain ⟨wh,zQ⟩:=id sE;obtain ⟨f1,f2,f3,f4,f5⟩:=id wh;have hp:=cu f1 f2
      have cF:∀ w',Ext w w'→a9 Tryz.prog 229 [.agg (cd r).toArray,.agg (aE z.ao[k]).toArray] w' fun v _=>v = .bool true:=fun w' _=>by
       have:=kQ r z.ao[k] w' (by omega)
       rwa [eF,eT,decide_eq_true wh] at this
      have cD:∀ w',a9 Tryz.prog 228 ([.int .i64 (z.ao[k]).Ty]++[]) w' fun v _=>v = .bool false:=fun w'=>by
       have:=pf (z.ao[k]).Ty w'
       rwa [uH zQ] at this
      by_cases lh:k=0
      ·subst lh;repeat' (first|refine Wz ?_|((apply CW.aM mixed;(· kernel_rfl);rotate_left;intro w1 ab;replace hw:=Ext.trans hw ab;replace au:=au.ext ab;replace cY:=cY.ext ab;clear ab;rotate_right))|refine SW.want rfl rfl ?_|refine SW.bf rfl rfl (fun w1 ab=>(cF _ (Ext.trans hw ab))) ?_|(refine SW.lB rfl rfl rfl (fun w1 _=>cD w1) ?_)|exact SW.br rfl)
       refine ae.again (0+1) ⟨rfl,rfl,rfl,rfl,rfl,trivial⟩ (by omega) ⟨by omega,hw,au,fun i h hi => ?_,fun i h hi=>by omega⟩;obtain rfl:i=0:=by omega
       exact sE
      ·obtain ⟨j,rfl⟩ : ∃ j,k=j+1:=⟨k-1,by omega⟩;have hj:j<r.ao.n:=by omega
       have jq:=hr.free.lt hj;obtain ⟨⟨g1,g2,g3,g4,g5⟩,_⟩:=hI j jq (by omega);have cE:∀ w',a9 Tryz.prog 230 [.agg (aE z.ao[j]).toArray] w' fun v _=>v = .int .i64 ((z.ao[j]).At+pw (z.ao[j]).Order):=fun w'=>oX _ _ ⟨g1,g2⟩ ⟨by omega,by omega⟩
       by_cases dH:(z.ao[j]).At+pw (z.ao[j]).Order≤(z.ao[j+1]).At
       ·by_cases yd:(z.ao[j+1]).Order<4∧(z.ao[j]).Order=(z.ao[j+1]).Order∧(z.ao[j]).At=beside (z.ao[j+1]).At (z.ao[j+1]).Order
        ·obtain ⟨u1,u2,u3⟩:=id yd;repeat' (first|refine Wz ?_|((apply CW.aM mixed;(· kernel_rfl);rotate_left;intro w1 ab;replace hw:=Ext.trans hw ab;replace au:=au.ext ab;replace cY:=cY.ext ab;clear ab;rotate_right))|refine SW.st (aV (j) rfl rfl (by assumption) (by omega) (by omega)) rfl ?_|refine SW.st (aA hw rfl rfl ((hr.free.all hj))) rfl ?_|refine SW.st (ag hw rfl (hr.free.fE hj rfl)) rfl ?_|refine SW.bf rfl rfl (fun w1 ab=>(cF _ (Ext.trans hw ab))) ?_|refine SW.bf rfl rfl (fun w1 ab=>(cE _)) ?_|(refine SW.lB rfl rfl rfl (fun w1 _=>cD w1) ?_)|(refine SW.st (fB (r:=pw (z.ao[j+1]).Order) rfl rfl (by omega) (by omega) (by simp [pw]) (by omega) (by omega)) rfl ?_)|(refine SW.st (ir (z.ao[j+1]).At (z.ao[j+1]).Order rfl rfl rfl rfl ⟨by omega,by omega,f1,u1,f5⟩) rfl ?_)|exact SW.br rfl)
         refine ae.aF rfl rfl ⟨_,rfl,hw,?_⟩;rw [fc (fun h=>(h.next j cG).2 yd)];rfl
        ·by_cases u1:(z.ao[j+1]).Order<4
         ·by_cases u2:(z.ao[j]).Order=(z.ao[j+1]).Order
          ·have u3 : ¬ (z.ao[j]).At=beside (z.ao[j+1]).At (z.ao[j+1]).Order:=fun u3=>yd ⟨u1,u2,u3⟩
           repeat' (first|refine Wz ?_|((apply CW.aM mixed;(· kernel_rfl);rotate_left;intro w1 ab;replace hw:=Ext.trans hw ab;replace au:=au.ext ab;replace cY:=cY.ext ab;clear ab;rotate_right))|refine SW.want rfl rfl ?_|refine SW.st (aV (j) rfl rfl (by assumption) (by omega) (by omega)) rfl ?_|refine SW.st (aA hw rfl rfl ((hr.free.all hj))) rfl ?_|refine SW.st (ag hw rfl (hr.free.fE hj rfl)) rfl ?_|refine SW.bf rfl rfl (fun w1 ab=>(cF _ (Ext.trans hw ab))) ?_|refine SW.bf rfl rfl (fun w1 ab=>(cE _)) ?_|(refine SW.lB rfl rfl rfl (fun w1 _=>cD w1) ?_)|(refine SW.st (fB (r:=pw (z.ao[j+1]).Order) rfl rfl (by omega) (by omega) (by simp [pw]) (by omega) (by omega)) rfl ?_)|(refine SW.st (ir (z.ao[j+1]).At (z.ao[j+1]).Order rfl rfl rfl rfl ⟨by omega,by omega,f1,u1,f5⟩) rfl ?_)|exact SW.br rfl)
           refine ae.again (j+1+1) ⟨rfl,rfl,rfl,rfl,rfl,trivial⟩ (by omega) ⟨by omega,hw,au,fun i h hi => ?_,fun i h hi => ?_⟩
           ·by_cases jN:i=j+1
            ·subst jN;exact sE
            ·exact hI i h (by omega)
           ·by_cases jN:i=j
            ·subst jN;exact ⟨dH,yd⟩
            ·exact hN i h (by omega)
          ·repeat' (first|refine Wz ?_|((apply CW.aM mixed;(· kernel_rfl);rotate_left;intro w1 ab;replace hw:=Ext.trans hw ab;replace au:=au.ext ab;replace cY:=cY.ext ab;clear ab;rotate_right))|refine SW.want rfl rfl ?_|refine SW.st (aV (j) rfl rfl (by assumption) (by omega) (by omega)) rfl ?_|refine SW.st (aA hw rfl rfl ((hr.free.all hj))) rfl ?_|refine SW.st (ag hw rfl (hr.free.fE hj rfl)) rfl ?_|refine SW.bf rfl rfl (fun w1 ab=>(cF _ (Ext.trans hw ab))) ?_|refine SW.bf rfl rfl (fun w1 ab=>(cE _)) ?_|(refine SW.lB rfl rfl rfl (fun w1 _=>cD w1) ?_)|exact SW.br rfl)
           refine ae.again (j+1+1) ⟨rfl,rfl,rfl,rfl,rfl,trivial⟩ (by omega) ⟨by omega,hw,au,fun i h hi => ?_,fun i h hi => ?_⟩
           ·by_cases jN:i=j+1
            ·subst jN;exact sE
            ·exact hI i h (by omega)
           ·by_cases jN:i=j
            ·subst jN;exact ⟨dH,yd⟩
            ·exact hN i h (by omega)
         ·repeat' (first|refine Wz ?_|((apply CW.aM mixed;(· kernel_rfl);rotate_left;intro w1 ab;replace hw:=Ext.trans hw ab;replace au:=au.ext ab;replace cY:=cY.ext ab;clear ab;rotate_right))|refine SW.want rfl rfl ?_|refine SW.st (aV (j) rfl rfl (by assumption) (by omega) (by omega)) rfl ?_|refine SW.st (aA hw rfl rfl ((hr.free.all hj))) rfl ?_|refine SW.bf rfl rfl (fun w1 ab=>(cF _ (Ext.trans hw ab))) ?_|refine SW.bf rfl rfl (fun w1 ab=>(cE _)) ?_|(refine SW.lB rfl rfl rfl (fun w1 _=>cD w1) ?_)|exact SW.br rfl)
          refine ae.again (j+1+1) ⟨rfl,rfl,rfl,rfl,rfl,trivial⟩ (by omega) ⟨by omega,hw,au,fun i h hi => ?_,fun i h hi => ?_⟩
          ·by_cases jN:i=j+1
           ·subst jN;exact sE
           ·exact hI i h (by omega)
          ·by_cases jN:i=j
           ·subst jN;exact ⟨dH,yd⟩
           ·exact hN i h (by omega)
       ·repeat' (first|refine Wz ?_|((apply CW.aM mixed;(· kernel_rfl);rotate_left;intro w1 ab;replace hw:=Ext.trans hw ab;replace au:=au.ext ab;replace cY:=cY.ext ab;clear ab;rotate_right))|refine SW.want rfl rfl ?_|refine SW.st (aV (j) rfl rfl (by assumption) (by omega) (by omega)) rfl ?_|refine SW.st (aA hw rfl rfl ((hr.free.all hj))) rfl ?_|refine SW.bf rfl rfl (fun w1 ab=>(cF _ (Ext.trans hw ab))) ?_|refine SW.bf rfl rfl (fun w1 ab=>(cE _)) ?_|(refine SW.lB rfl rfl rfl (fun w1 _=>cD w1) ?_)|exact SW.br rfl)
        refine ae.aF rfl rfl ⟨_,rfl,hw,?_⟩;rw [fc (fun h=>dH (h.next j cG).1)];rfl
     ·have td:fa z=false:=fc (fun h=>sE (h.gd k cG))
      by_cases wh:dJ z.aR z.To (z.ao[k]).At (z.ao[k]).Order
      ·have zQ : ¬ j3 (z.ao[k]).Ty:=fun h=>sE ⟨wh,h⟩
       have cF:∀ w',Ext w w'→a9 Tryz.prog 229 [.agg (cd r).toArray,.agg (aE z.ao[k]).toArray] w' fun v _=>v = .bool true:=fun w' _=>by
        have:=kQ r z.ao[k] w' (by omega)
        rwa [eF,eT,decide_eq_true wh] at this
       have cD:∀ w',a9 Tryz.prog 228 ([.int .i64 (z.ao[k]).Ty]++[]) w' fun v _=>v = .bool true:=fun w'=>by
        have:=pf (z.ao[k]).Ty w'
        rwa [uI zQ] at this
       repeat' (first|refine Wz ?_|((apply CW.aM mixed;(· kernel_rfl);rotate_left;intro w1 ab;replace hw:=Ext.trans hw ab;replace au:=au.ext ab;replace cY:=cY.ext ab;clear ab;rotate_right))|refine SW.want rfl rfl ?_|refine SW.bf rfl rfl (fun w1 ab=>(cF _ (Ext.trans hw ab))) ?_|(refine SW.lB rfl rfl rfl (fun w1 _=>cD w1) ?_)|exact SW.br rfl)
       exact ae.aF rfl rfl ⟨_,rfl,hw,by rw [td];rfl⟩
      ·have cF:∀ w',Ext w w'→a9 Tryz.prog 229 [.agg (cd r).toArray,.agg (aE z.ao[k]).toArray] w' fun v _=>v = .bool false:=fun w' _=>by
        have:=kQ r z.ao[k] w' (by omega)
        rwa [eF,eT,decide_eq_false wh] at this
       repeat' (first|refine Wz ?_|((apply CW.aM mixed;(· kernel_rfl);rotate_left;intro w1 ab;replace hw:=Ext.trans hw ab;replace au:=au.ext ab;replace cY:=cY.ext ab;clear ab;rotate_right))|refine SW.skip rfl rfl rfl rfl ?_|refine SW.bf rfl rfl (fun w1 ab=>(cF _ (Ext.trans hw ab))) ?_|exact SW.br rfl)
       exact ae.aF rfl rfl ⟨_,rfl,hw,by rw [td];rfl⟩
    ·refine Wz ?_;refine ae.aF rfl rfl ⟨_,rfl,hw,?_⟩;rw [me ⟨by rw [← eF,← eT];exact mg,CR,Aq,fun i h=>hI i h (by omega),fun i h=>hN i h (by omega)⟩];rfl
   ·rw [wg] at cO;repeat' (first|refine Wz ?_|(refine SW.call rfl rfl (cO _ hw) ?_;intro v w1 ab hv;subst hv;replace hw:=Ext.trans hw ab;replace au:=au.ext ab;clear ab))
    refine ae.aF rfl rfl ⟨_,rfl,hw,?_⟩
    rw [fc (fun h=>by
     rw [List.any_eq_true] at wg;obtain ⟨t,h1,h2⟩:=wg;rw [uH (h.types t h1)] at h2;cases h2)];rfl
  ·refine Wz ?_;refine SW.alloc rfl fun b3 w1 ab bM ap => ?_
   have bO:w.heap.size≤b3:=Nat.le_trans hw.size bM
   have iD:b1≠b3:=by have:=au.lt;omega
   replace hw:=Ext.trans hw ab;replace au:=au.ext ab;replace hs:=hs.ext ab;refine SW.aj ap rfl rfl rfl rfl (dh _) fun w2 de hg => ?_
   replace hw:=hw.own bO hg;replace hs:=hs.gd ap hg rfl rfl;replace au:=au.grown hg (by simpa using iD);replace ap:=de;clear de ab hg bM;refine Wz ?_;refine ae.aF rfl rfl ⟨_,rfl,hw,?_⟩;rw [fc (fun h=>CR h.len)];rfl
 ·rw [jL mg] at hv;obtain ⟨s,rfl,hs⟩:=hv;refine Wz ?_;refine SW.alloc rfl fun b3 w1 ab bM ap => ?_
  have bO:w.heap.size≤b3:=Nat.le_trans hw.size bM
  have iD:b1≠b3:=by have:=au.lt;omega
  replace hw:=Ext.trans hw ab;replace au:=au.ext ab;replace hs:=hs.ext ab;refine SW.aj ap rfl rfl rfl rfl (dh _) fun w2 de hg => ?_
  replace hw:=hw.own bO hg;replace hs:=hs.gd ap hg rfl rfl;replace au:=au.grown hg (by simpa using iD);replace ap:=de;clear de ab hg bM;refine Wz ?_;refine ae.aF rfl rfl ⟨_,rfl,hw,?_⟩;rw [fc (fun h=>mg (by rw [eF,eT];exact h.ok))];rfl
open Go.RowKit
def vC (f:Int) (l:List Block) : Nat→Int
 | 0=>f
 | k+1=>match l[k]? with
   | some b=>b.At+pw b.Order
   | none=>0
theorem lJ (f:Int) (l:List Block) (k:Nat) (h:k<l.length) : vC f l (k+1)=l[k].At+pw l[k].Order:=by simp [vC,List.getElem?_eq_getElem h]
set_option maxHeartbeats 4000000 in
theorem jb (r:cJ) (z:ay) (w:World) (hr:p7 w r z) (hf:r.ao.n≤2305843009213693952) (ht:r.Types.n≤1000000000000000000) (h1 : -9223372036854775808≤r.aR∧r.aR≤9223372036854775807) (h2 : -9223372036854775808≤r.To∧r.To≤9223372036854775807) :
 a9 Tryz.prog 195 [.agg (cd r).toArray] w fun v _=>v = .bool (fa z):=by
 refine aC Tryz.func195 rfl Tryz.ntmps195 rfl ?_;refine CW.seq (CW.region (SW.box rfl rfl fun b1 w1 hw gI au => ?_));have eF:=hr.from_;have eT:=hr.jF;have D9:=hr.free.len;have Ea:=hr.types.len;refine Wz ?_;refine SW.call rfl rfl (sQ r.aR r.To _ h1 h2) fun v w2 cg hv => ?_
 (replace hw:=Ext.trans hw cg;replace au:=au.ext cg);by_cases mg:fX r.aR r.To
 ·rw [jM mg] at hv;obtain ⟨s,rfl,hs⟩:=hv;obtain ⟨o1,o2,o3,o4,o5⟩:=id mg;by_cases CR : 8*(z.Types.length:Int)=z.To-z.aR
  ·refine Wz ?_;refine SW.alloc rfl fun b3 w1 ab bM ap => ?_
   have bO:w.heap.size≤b3:=Nat.le_trans hw.size bM
   have iD:b1≠b3:=by have:=au.lt;omega
   replace hw:=Ext.trans hw ab;replace au:=au.ext ab;replace hs:=hs.ext ab;refine SW.aj ap rfl rfl rfl rfl (dh _) fun w2 de hg => ?_
   replace hw:=hw.own bO hg;replace hs:=hs.gd ap hg rfl rfl;replace au:=au.grown hg (by simpa using iD);replace ap:=de;clear de ab hg bM;refine Wz ?_
   refine CW.loop (fun k:Nat=>[(1,.pointer (some ⟨b1,0,none⟩)),(5,.int .i64 (k:Int))]) (fun k w'=>k≤r.Types.n∧Ext w w'∧aU w' b1 139 (cd r) ∧ ∀ (j:Nat) (hj:j<z.Types.length),j<k→j3 z.Types[j]) (fun k=>r.Types.n-k) 0
    ⟨rfl,rfl,trivial⟩ ⟨by omega,hw,au,fun j _ h=>by omega⟩ ?_
   clear hw au ap hs;rintro k w' ⟨hk,hw,au,hI⟩
   have hA:=hr.types.base;by_cases cc:k<r.Types.n
   ·have cG:=hr.types.lt cc;by_cases Aq:j3 (z.Types[k])
    ·obtain ⟨t1,t2⟩:=id Aq;repeat' (first|refine Wz ?_|refine SW.st (ag hw rfl (hr.types.one cc rfl)) rfl ?_|(refine SW.call rfl rfl (ca _ _ _ _) ?_;intro v w1 ab hv;subst hv;replace hw:=Ext.trans hw ab;replace au:=au.ext ab;clear ab))
     all_goals try omega
     refine ae.again (k+1) ⟨rfl,rfl,trivial⟩ (by omega) ⟨by omega,hw,au,fun j hj h => ?_⟩;by_cases iB:j=k
     ·subst iB;exact Aq
     ·exact hI j hj (by omega)
    ·have hn : ¬ (0≤z.Types[k]∧z.Types[k]≤2):=Aq
     repeat' (first|refine Wz ?_|refine SW.st (ag hw rfl (hr.types.one cc rfl)) rfl ?_|(refine SW.call rfl rfl (ca _ _ _ _) ?_;intro v w1 ab hv;subst hv;replace hw:=Ext.trans hw ab;replace au:=au.ext ab;clear ab))
     all_goals try omega
     refine ae.aF rfl rfl ⟨_,rfl,hw,?_⟩;rw [fc (fun h=>Aq (h.types _ (List.getElem_mem cG)))]
   ·have Aq:∀ t∈z.Types,j3 t:=fun t EJ=>by
     obtain ⟨j,hj,rfl⟩:=List.getElem_of_mem EJ;exact hI j hj (by omega)
    clear hI hA;refine Wz ?_
    refine CW.loop (fun k:Nat=>[(1,.pointer (some ⟨b1,0,none⟩)),(6,.int .i64 (vC z.aR z.ao k)),(7,.int .i64 (k:Int))])
     (fun k w'=>k≤r.ao.n∧Ext w w'∧aU w' b1 139 (cd r)∧(∀ (i:Nat) (h:i<z.ao.length),i<k→dr z.aR z.To z.ao[i])∧(∀ (i:Nat) (h:i+1<z.ao.length),i+1<k→ji z.ao[i] z.ao[i+1]))
     (fun k=>r.ao.n-k) 0 ⟨rfl,by rw [eF];rfl,rfl,trivial⟩ ⟨by omega,hw,au,fun i h hi=>by omega,fun i h hi=>by omega⟩ ?_
    clear hw au hk cc;rintro k w' ⟨hk,hw,au,hI,hN⟩
    have hA:=hr.free.base;by_cases cc:k<r.ao.n
    ·have cG:=hr.free.lt cc
     have cM:∀ w',a9 Tryz.prog 211 [.agg (cd r).toArray,.int .i64 (z.ao[k]).At,.int .i64 (z.ao[k]).Order] w' fun v _=>v = .bool (decide (dJ z.aR z.To (z.ao[k]).At (z.ao[k]).Order)):=fun w'=>by
      have:=mi r (z.ao[k]).At (z.ao[k]).Order w' ⟨by omega,by omega⟩ ⟨by omega,by omega⟩
      rwa [eF,eT] at this
     repeat' (first|refine Wz ?_|refine SW.st (aA hw rfl rfl ((hr.free.all cc))) rfl ?_)
     refine SW.alloc rfl fun b7 w3 jI j5 iV => ?_
     have qj:w.heap.size≤b7:=Nat.le_trans hw.size j5
     have cQ:b1≠b7:=by have:=au.lt;omega
     (replace hw:=Ext.trans hw jI;replace au:=au.ext jI);skip;refine SW.aj iV rfl rfl rfl rfl (fM.one (enc:=aE) _) fun w4 cY hg => ?_
     replace hw:=hw.own qj hg;replace au:=au.grown hg (by simpa using cQ);by_cases sE:dr z.aR z.To z.ao[k]
     ·obtain ⟨wh,t1,t2⟩:=id sE;obtain ⟨f1,f2,f3,f4,f5⟩:=id wh;have hp:=cu f1 f2;have F5:=jK f1 f2;rw [decide_eq_true wh] at cM;by_cases lh:k=0
      ·subst lh;have Bl:vC z.aR z.ao 0=z.aR:=rfl
       repeat' (first|refine Wz ?_|((apply CW.aM mixed;(· kernel_rfl);rotate_left;intro w1 ab;replace hw:=Ext.trans hw ab;replace au:=au.ext ab;replace cY:=cY.ext ab;clear ab;rotate_right))|refine SW.want rfl rfl ?_|((first|refine SW.call rfl rfl (cM _) ?_|refine SW.call rfl rfl (ca _ _ _ _) ?_);intro v w1 ab hv;subst hv;replace hw:=Ext.trans hw ab;replace au:=au.ext ab;replace cY:=cY.ext ab;clear ab)|refine SW.bf rfl rfl (fun w1 ab=>(dA _ (by omega) _)) ?_|exact SW.br rfl)
       all_goals try omega
       refine ae.again (0+1) ⟨rfl,by rw [lJ _ _ _ cG];rfl,rfl,trivial⟩ (by omega) ⟨by omega,hw,au,fun i h hi => ?_,fun i h hi=>by omega⟩;obtain rfl:i=0:=by omega
       exact sE
      ·obtain ⟨j,rfl⟩ : ∃ j,k=j+1:=⟨k-1,by omega⟩;have hj:j<r.ao.n:=by omega
       have jq:=hr.free.lt hj;have CS:=hI j jq (by omega);obtain ⟨⟨g1,g2,g3,g4,g5⟩,_⟩:=id CS;have Bl:=lJ z.aR z.ao j jq;have em:(z.ao[j]).At.tmod (pw ((z.ao[j+1]).Order+1))=(z.ao[j]).At % (pw ((z.ao[j+1]).Order+1)):=Int.tmod_eq_emod_of_nonneg (by omega)
       by_cases dH:(z.ao[j]).At+pw (z.ao[j]).Order≤(z.ao[j+1]).At
       ·have Eb:=xR CS sE dH;by_cases yd:(z.ao[j+1]).Order<4∧(z.ao[j]).Order=(z.ao[j+1]).Order∧(z.ao[j]).At+pw (z.ao[j+1]).Order=(z.ao[j+1]).At∧(z.ao[j]).At % pw ((z.ao[j+1]).Order+1)=0
        ·have k6:=Eb.2 yd;obtain ⟨u1,u2,u3,u4⟩:=id yd;clear Eb;repeat' (first|refine Wz ?_|((apply CW.aM mixed;(· kernel_rfl);rotate_left;intro w1 ab;replace hw:=Ext.trans hw ab;replace au:=au.ext ab;replace cY:=cY.ext ab;clear ab;rotate_right))|refine SW.st (aV (j) rfl rfl (by assumption) (by omega) (by omega)) rfl ?_|refine SW.st (ag hw rfl (hr.free.fE hj rfl)) rfl ?_|((first|refine SW.call rfl rfl (cM _) ?_|refine SW.call rfl rfl (ca _ _ _ _) ?_);intro v w1 ab hv;subst hv;replace hw:=Ext.trans hw ab;replace au:=au.ext ab;replace cY:=cY.ext ab;clear ab)|refine SW.bf rfl rfl (fun w1 ab=>(dA _ (by omega) _)) ?_|exact SW.br rfl)
         all_goals try omega
         refine ae.aF rfl rfl ⟨_,rfl,hw,?_⟩;rw [fc (fun h=>(h.next j cG).2 k6)]
        ·have EK:ji z.ao[j] z.ao[j+1]:=⟨dH,fun h=>yd (Eb.1 h)⟩
         have hd:(¬ (z.ao[j+1]).Order<4)∨((z.ao[j+1]).Order<4 ∧ ¬ (z.ao[j]).Order=(z.ao[j+1]).Order)∨((z.ao[j+1]).Order<4∧(z.ao[j]).Order=(z.ao[j+1]).Order ∧ ¬ (z.ao[j]).At+pw (z.ao[j+1]).Order=(z.ao[j+1]).At) ∨
          ((z.ao[j+1]).Order<4∧(z.ao[j]).Order=(z.ao[j+1]).Order∧(z.ao[j]).At+pw (z.ao[j+1]).Order=(z.ao[j+1]).At ∧ ¬ (z.ao[j]).At % pw ((z.ao[j+1]).Order+1)=0):=by
          by_cases u1:(z.ao[j+1]).Order<4
          ·by_cases u2:(z.ao[j]).Order=(z.ao[j+1]).Order
           ·by_cases u3:(z.ao[j]).At+pw (z.ao[j+1]).Order=(z.ao[j+1]).At
            ·exact .inr (.inr (.inr ⟨u1,u2,u3,fun u4=>yd ⟨u1,u2,u3,u4⟩⟩))
            ·exact .inr (.inr (.inl ⟨u1,u2,u3⟩))
           ·exact .inr (.inl ⟨u1,u2⟩)
          ·exact .inl u1
         clear Eb
         have mu:∀ (i:Nat) (h:i+1<z.ao.length),i+1<j+1+1→ji z.ao[i] z.ao[i+1]:=fun i h hi=>by
          by_cases jN:i=j
          ·subst jN;exact EK
          ·exact hN i h (by omega)
         have EL:∀ (i:Nat) (h:i<z.ao.length),i<j+1+1→dr z.aR z.To z.ao[i]:=fun i h hi=>by
          by_cases jN:i=j+1
          ·subst jN;exact sE
          ·exact hI i h (by omega)
         rcases hd with u1|⟨u1,u2⟩|⟨u1,u2,u3⟩|⟨u1,u2,u3,u4⟩
         all_goals
          repeat' (first|refine Wz ?_|((apply CW.aM mixed;(· kernel_rfl);rotate_left;intro w1 ab;replace hw:=Ext.trans hw ab;replace au:=au.ext ab;replace cY:=cY.ext ab;clear ab;rotate_right))|refine SW.want rfl rfl ?_|refine SW.st (aV (j) rfl rfl (by assumption) (by omega) (by omega)) rfl ?_|refine SW.st (ag hw rfl (hr.free.fE hj rfl)) rfl ?_|((first|refine SW.call rfl rfl (cM _) ?_|refine SW.call rfl rfl (ca _ _ _ _) ?_);intro v w1 ab hv;subst hv;replace hw:=Ext.trans hw ab;replace au:=au.ext ab;replace cY:=cY.ext ab;clear ab)|refine SW.bf rfl rfl (fun w1 ab=>(dA _ (by omega) _)) ?_|exact SW.br rfl)
          all_goals try omega
          exact ae.again (j+1+1) ⟨rfl,by rw [lJ _ _ _ cG];rfl,rfl,trivial⟩ (by omega) ⟨by omega,hw,au,EL,mu⟩
       ·repeat' (first|refine Wz ?_|refine SW.want rfl rfl ?_|((first|refine SW.call rfl rfl (cM _) ?_|refine SW.call rfl rfl (ca _ _ _ _) ?_);intro v w1 ab hv;subst hv;replace hw:=Ext.trans hw ab;replace au:=au.ext ab;replace cY:=cY.ext ab;clear ab))
        all_goals try omega
        refine ae.aF rfl rfl ⟨_,rfl,hw,?_⟩;rw [fc (fun h=>dH (h.next j cG).1)]
     ·have td:fa z=false:=fc (fun h=>sE (h.gd k cG))
      by_cases wh:dJ z.aR z.To (z.ao[k]).At (z.ao[k]).Order
      ·have zQ : ¬ (0≤(z.ao[k]).Ty∧(z.ao[k]).Ty≤2):=fun h=>sE ⟨wh,h⟩
       rw [decide_eq_true wh] at cM;repeat' (first|refine Wz ?_|refine SW.want rfl rfl ?_|((first|refine SW.call rfl rfl (cM _) ?_|refine SW.call rfl rfl (ca _ _ _ _) ?_);intro v w1 ab hv;subst hv;replace hw:=Ext.trans hw ab;replace au:=au.ext ab;replace cY:=cY.ext ab;clear ab))
       all_goals try omega
       exact ae.aF rfl rfl ⟨_,rfl,hw,by rw [td]⟩
      ·rw [decide_eq_false wh] at cM;repeat' (first|refine Wz ?_|refine SW.skip rfl rfl rfl rfl ?_|(refine SW.call rfl rfl (cM _) ?_;intro v w1 ab hv;subst hv;replace hw:=Ext.trans hw ab;replace au:=au.ext ab;replace cY:=cY.ext ab;clear ab))
       exact ae.aF rfl rfl ⟨_,rfl,hw,by rw [td]⟩
    ·refine Wz ?_;refine ae.aF rfl rfl ⟨_,rfl,hw,?_⟩;rw [me ⟨by rw [← eF,← eT];exact mg,CR,Aq,fun i h=>hI i h (by omega),fun i h=>hN i h (by omega)⟩]
  ·refine Wz ?_;refine SW.alloc rfl fun b3 w1 ab bM ap => ?_
   have bO:w.heap.size≤b3:=Nat.le_trans hw.size bM
   have iD:b1≠b3:=by have:=au.lt;omega
   replace hw:=Ext.trans hw ab;replace au:=au.ext ab;replace hs:=hs.ext ab;refine SW.aj ap rfl rfl rfl rfl (dh _) fun w2 de hg => ?_
   replace hw:=hw.own bO hg;replace hs:=hs.gd ap hg rfl rfl;replace au:=au.grown hg (by simpa using iD);replace ap:=de;clear de ab hg bM;refine Wz ?_;refine ae.aF rfl rfl ⟨_,rfl,hw,?_⟩;rw [fc (fun h=>CR h.len)]
 ·rw [jL mg] at hv;obtain ⟨s,rfl,hs⟩:=hv;refine Wz ?_;refine SW.alloc rfl fun b3 w1 ab bM ap => ?_
  have bO:w.heap.size≤b3:=Nat.le_trans hw.size bM
  have iD:b1≠b3:=by have:=au.lt;omega
  replace hw:=Ext.trans hw ab;replace au:=au.ext ab;replace hs:=hs.ext ab;refine SW.aj ap rfl rfl rfl rfl (dh _) fun w2 de hg => ?_
  replace hw:=hw.own bO hg;replace hs:=hs.gd ap hg rfl rfl;replace au:=au.grown hg (by simpa using iD);replace ap:=de;clear de ab hg bM;refine Wz ?_;refine ae.aF rfl rfl ⟨_,rfl,hw,?_⟩;rw [fc (fun h=>mg (by rw [eF,eT];exact h.ok))]
open Go.RowKit
theorem mv (A:Option Addr) (n c:Nat) (l:List Block) (f t a o:Int) (w:World) (hl:Sl w 3 aE A n l) (hb:∀ b∈l,dr f t b) (h0 : 0≤f) (ht:t≤256) (hn:n≤1000000000000000000) (ha : -1000≤a∧a≤1000) (ho : 0≤o∧o≤4) :
 a9 Tryz.prog 197 [.slice A n c,.int .i64 a,.int .i64 o] w fun v _=>v = .bool (dZ l a o):=by
 refine aC Tryz.func197 rfl Tryz.ntmps197 rfl ?_;have hw:=Ext.refl w;have hA:=hl.base;have lz:=hl.len;have hp:=cu ho.1 ho.2;refine Wz ?_;refine CW.loop (fun k:Nat=>[(0,.slice A n c),(1,.int .i64 a),(2,.int .i64 o),(7,.int .i64 (k:Int))]) (fun k w'=>k≤n∧Ext w w' ∧ ∀ (j:Nat) (h:j<l.length),j<k → ¬ (l[j].At<a+pw o∧a<l[j].At+pw l[j].Order)) (fun k=>n-k) 0 ⟨rfl,rfl,rfl,rfl,trivial⟩ ⟨by omega,hw,fun j _ h=>by omega⟩ ?_;clear hw;rintro k w' ⟨hk,hw,hI⟩
 by_cases cc:k<n
 ·have cG:=hl.lt cc;have sE:=(hb _ (List.getElem_mem cG)).1;obtain ⟨f1,f2,f3,f4,f5⟩:=id sE;have F3:=cu f1 f2;by_cases h1:l[k].At<a+pw o
  ·by_cases h2:a<l[k].At+pw l[k].Order
   ·repeat' (first|refine Wz ?_|((apply CW.aM mixed;(· kernel_rfl);rotate_left;intro w1 ab;replace hw:=Ext.trans hw ab;clear ab;rotate_right))|refine SW.st (ag hw rfl (hl.fE cc rfl)) rfl ?_|refine SW.bf rfl rfl (fun w1 ab=>(dA _ (by omega) _)) ?_|exact SW.br rfl)
    refine ae.aF rfl rfl ⟨_,rfl,hw,?_⟩;have:dZ l a o=true:=List.any_eq_true.2 ⟨l[k],List.getElem_mem cG,by simp [h1,h2]⟩
    rw [this]
   ·repeat' (first|refine Wz ?_|((apply CW.aM mixed;(· kernel_rfl);rotate_left;intro w1 ab;replace hw:=Ext.trans hw ab;clear ab;rotate_right))|refine SW.st (ag hw rfl (hl.fE cc rfl)) rfl ?_|refine SW.bf rfl rfl (fun w1 ab=>(dA _ (by omega) _)) ?_|exact SW.br rfl)
    refine ae.again (k+1) ⟨rfl,rfl,rfl,rfl,trivial⟩ (by omega) ⟨by omega,hw,fun j hj h => ?_⟩;by_cases e:j=k
    ·subst e;exact fun h=>h2 h.2
    ·exact hI j hj (by omega)
  ·repeat' (first|refine Wz ?_|((apply CW.aM mixed;(· kernel_rfl);rotate_left;intro w1 ab;replace hw:=Ext.trans hw ab;clear ab;rotate_right))|refine SW.st (ag hw rfl (hl.fE cc rfl)) rfl ?_|refine SW.bf rfl rfl (fun w1 ab=>(dA _ (by omega) _)) ?_|exact SW.br rfl)
   refine ae.again (k+1) ⟨rfl,rfl,rfl,rfl,trivial⟩ (by omega) ⟨by omega,hw,fun j hj h => ?_⟩;by_cases e:j=k
   ·subst e;exact fun h=>h1 h.1
   ·exact hI j hj (by omega)
 ·refine Wz ?_;refine ae.aF rfl rfl ⟨_,rfl,hw,?_⟩
  have:dZ l a o=false:=by
   unfold dZ;rw [List.any_eq_false];intro x hx;obtain ⟨j,hj,rfl⟩:=List.getElem_of_mem hx;have:=hI j hj (by omega)
   simpa using this
  rw [this]
open Go.RowKit
section
variable {P:Program} {n:Nat} {Q:Exit→Act→World→Prop} {L:Env} {w:World}
def CT (n:Nat) (K:Env→World→Prop) (Q:Exit→Act→World→Prop) : Exit→Act→World→Prop
 | .normal,a,w' => ∃ L',Fit n a L'∧K L' w'
 | e,a,w'=>Q e a w'
theorem CW.CU {c:Code} {id:Nat} (K:Env→World→Prop) (h:CW P n c (Exit.inBlock id (CT n K Q)) L w) (k:∀ L' w',K L' w'→ae n Q .normal L' w') : CW P n c (Exit.inBlock id Q) L w :=
 ⟨fun a ha=>wp_mono (h.out a ha) fun e a' w' h'=>by
  cases e with
  | normal=>obtain ⟨L',hf,hk⟩:=h';exact (k L' w' hk).out a' hf
  | exit j =>
    simp only [Exit.inBlock] at h' ⊢;split
    ·rename_i hj;rw [if_pos hj] at h';obtain ⟨L',hf,hk⟩:=h';exact (k L' w' hk).out a' hf
    ·rename_i hj;rw [if_neg hj] at h';exact h'
  | _=>exact h'⟩
theorem ae.uJ {K:Env→World→Prop} (h:K L w) : ae n (CT n K Q) .normal L w:=⟨fun _ ha=>⟨L,ha,h⟩⟩
end
open Go.RowKit
def lay (fk:List Value) (o:Nat) (cs:List Value) : List Value:=fk.take o++cs++fk.drop (o+cs.length)
theorem vD (fk:List Value) (o:Nat) : lay fk o []=fk:=by simp [lay]
theorem fw (X Y Z cs:List Value) (h:cs.length=Y.length) {o:Nat} (ho:o=X.length) : lay (X++Y++Z) o cs=X++cs++Z:=by
 subst ho;unfold lay;rw [List.append_assoc X Y Z,List.take_left,h];congr 1
 rw [← List.append_assoc,List.drop_append];have e:List.drop (X.length+Y.length) (X++Y)=[]:=List.drop_eq_nil_of_le (by simp)
 rw [e];simp
theorem Own.opened {α:Type} {w:World} {lo:Nat} {e:TypeId} {sz:Nat} {enc : α → List Value} [E:fM enc sz] {A:Option Addr} {n c:Nat} {l:List α} (h:Own w lo e sz enc A n c l) (hc : 0<c) :
 ∃ g rest,A=some ⟨g,0,none⟩∧lo≤g∧aU w g e (l.flatMap enc++rest)∧n*sz+rest.length=c*sz∧n≤c∧c≤maxLen∧aX A c=some g:=by
 rcases h.row with ⟨_,h0⟩|⟨_,g,fk,rfl,h1,h2,h3,h4,h5,h6⟩
 ·omega
 ·refine ⟨g,fk.toList.drop (n*sz),rfl,h1,?_,?_,h3,h4,by simp [aX,Nat.pos_iff_ne_zero.1 hc]⟩
  ·unfold aU;rw [← h6,List.take_append_drop];simpa using h2
  ·have:n*sz≤c*sz:=Nat.mul_le_mul_right _ h3
   simp;omega
theorem Own.closed {α:Type} {w:World} {lo:Nat} {e:TypeId} {sz:Nat} {enc : α → List Value} [E:fM enc sz] {n c g:Nat} {l:List α} {rest:List Value} (hl:l.length=n) (hB:aU w g e (l.flatMap enc++rest)) (hr:n*sz+rest.length=c*sz) (hn:n≤c) (hc : 0<c) (hm:c≤maxLen) (gh:lo≤g) :
 Own w lo e sz enc (some ⟨g,0,none⟩) n c l:=by
 have nS:(l.flatMap enc).length=n*sz:=by rw [aO,hl]
 refine ⟨hl,.inr ⟨hc,g,_,rfl,gh,hB,hn,hm,?_,?_⟩⟩
 ·simp [nS];omega
 ·rw [← nS];simp
theorem Own.pre {α:Type} {w:World} {lo:Nat} {e:TypeId} {sz:Nat} {enc : α → List Value} [E:fM enc sz] {A:Option Addr} {n c:Nat} {l:List α} (h:Own w lo e sz enc A n c l) {i:Nat} (hi:i≤n) : Own w lo e sz enc A i c (l.take i):=by
 rcases Nat.eq_zero_or_pos c with hc|hc
 ·have h1:=h.le.1;have:n=0:=by omega
  subst hc this;obtain rfl:i=0:=by omega
  simpa using Own.er w lo e sz enc A
 ·obtain ⟨g,rest,rfl,h1,h2,h3,h4,h5,_⟩:=h.opened hc;refine Own.closed (rest:=(l.drop i).flatMap enc++rest) (by simp [h.len];omega) ?_ ?_ (by omega) hc h5 h1
  ·rw [← List.append_assoc,← List.flatMap_append,List.take_append_drop];exact h2
  ·have e1:((l.drop i).flatMap enc).length=(n-i)*sz:=by rw [aO];simp [h.len]
   have e2:i+(n-i)=n:=by omega
   rw [List.length_append,e1,← h3,← Nat.add_assoc,← Nat.add_mul,e2]
theorem Sl.drop {α:Type} {w:World} {sz:Nat} {enc : α → List Value} {A:Option Addr} {n:Nat} {l:List α} (h:Sl w sz enc A n l) (i c:Nat) (hi:i≤n) (hc:n≤c) : Sl w sz enc (if c=i then A else A.map (·.add (i*sz))) (n-i) (l.drop i):=by
 refine ⟨by simp [h.len],fun hn => ?_,fun j hj k u hu => ?_⟩
 ·have:=h.base (by omega)
  split
  ·exact this
  ·simpa using this
 ·simp at hj;have hl:=h.len;rw [if_neg (by omega)];have hb:=h.base (by omega);obtain ⟨a,rfl⟩:=Option.isSome_iff_exists.1 hb;have qP:=h.cell (i+j) (by omega) k u (by simpa using hu);simp only [Option.getD_some,Option.map_some,add_add] at qP ⊢;rw [← qP];congr 2
  rw [Nat.add_mul]
theorem Sl.pre {α:Type} {w:World} {sz:Nat} {enc : α → List Value} {A:Option Addr} {n:Nat} {l:List α} (h:Sl w sz enc A n l) {i:Nat} (hi:i≤n) : Sl w sz enc A i (l.take i):=by
 refine ⟨by simp [h.len];omega,fun hn=>h.base (by omega),fun j hj k u hu => ?_⟩;simp at hj;exact h.cell j (by omega) k u (by simpa using hu)
section
variable {P:Program} {w:World}
theorem dG {g:Nat} {e:TypeId} {fk cs:List Value} (h:aU w g e fk) : aU (w.setRow g cs.toArray) g e cs∧w.grownBy (w.setRow g cs.toArray) (some g) :=
 ⟨setRow_heap w g _ _ e (0,0) h,⟨rfl,rfl,rfl,by simp,fun j _ hj=>by
  show (w.setRow g _).heap[j]?=_
  simp only [World.setRow,Array.getElem?_modify];rw [if_neg (fun e=>hj (by simp [e]))]⟩⟩
theorem rT {t e:TypeId} {z:Value} {sz bytes:Nat} [S:bj P t e sz] [T:ct P e z sz bytes] (ty:TypeId) {A X:Option Addr} {n c m c2 k g o:Nat} {fk cs:List Value} (hk:min m n=k) (hlen:cs.length=k*sz) (hB:aU w g e fk) (gn:o+cs.length≤fk.length)
 (mP : 0<k→A=some ⟨g,o,none⟩ ∧ ∃ ad,X=some ad ∧ ∀ j v,cs[j]?=some v→w.cell? (ad.add j)=some v) (h1:∀ v∈cs,v.oneCell'=true) :
 ∃ w',(Builtin.copy_ #[t,t] ty #[.slice A n c,.slice X m c2]).run P w = .ok (.int .i64 (k:Int)) w'∧aU w' g e (lay fk o cs)∧w.grownBy w' (some g):=by
 obtain ⟨i,hi,hz,hs,qI⟩:=da P e (z:=z) (sz:=sz) (bytes:=bytes);have wi:Nat.min m n=k:=hk
 by_cases h0:k=0
 ·have fK:cs=[]:=List.eq_nil_of_length_eq_zero (by rw [hlen,h0];simp)
  subst fK;refine ⟨w,?_,by rw [vD];exact hB,World.grownBy.refl _ _⟩;cases A<;>cases X<;>simp [Builtin.copy_,run_underlying S.iK,Builtin.lenOf,Builtin.firstCells,sizeOf,typeInfo,hi,wi,h0,loadCells,loadCellsFrom,storeCells,goInt]
 ·obtain ⟨rfl,ad,rfl,m8⟩:=mP (by omega);have hl:=run_loadCells_list (P:=P) w ad cs m8;have og:=run_storeCells_at P g o e cs 0 fk.toArray w hB (by simpa using gn) h1;have e1:(fk.toArray.toList.take (o+0)++cs++fk.toArray.toList.drop (o+0+cs.length))=lay fk o cs:=by simp [lay]
  rw [e1] at og;rw [hlen] at hl;refine ⟨_,?_,(dG hB).1,(dG hB).2⟩;simp [Builtin.copy_,run_underlying S.iK,Builtin.lenOf,Builtin.firstCells,sizeOf,typeInfo,hi,hs,wi,hl,og,goInt]
theorem qs {t e:TypeId} {z:Value} {sz bytes:Nat} [S:bj P t e sz] [T:ct P e z sz bytes] (ty:TypeId) {A:Option Addr} {n c g o:Nat} {fk:List Value} (hB:aU w g e fk) (gn:o+n*sz≤fk.length) (mP : 0<n→A=some ⟨g,o,none⟩) (te:∀ v∈z.cells.toList,v.oneCell'=true) :
 ∃ w' cs,(Builtin.clear_ #[t] ty #[.slice A n c]).run P w = .ok (.tuple #[]) w'∧cs.length=n*sz∧aU w' g e (lay fk o cs)∧w.grownBy w' (some g):=by
 obtain ⟨i,hi,hz,hs,qI⟩:=da P e (z:=z) (sz:=sz) (bytes:=bytes);by_cases h0:n=0
 ·subst h0;refine ⟨w,[],?_,by simp,by rw [vD];exact hB,World.grownBy.refl _ _⟩;cases A<;>simp [Builtin.clear_,run_underlying S.iK]
 ·obtain rfl:=mP (by omega);obtain ⟨k,rfl⟩ : ∃ k,n=k+1:=⟨n-1,by omega⟩;have hlen:(Builtin.zeroCells z.cells (k+1)).toList.length=(k+1)*sz:=by simp [Go.size_zeroCells,T.zc]
  have h1:∀ v∈(Builtin.zeroCells z.cells (k+1)).toList,v.oneCell'=true:=by
   intro v hv;simp only [Builtin.zeroCells,Array.toList_map,Array.toList_range,List.mem_map] at hv;obtain ⟨j,hj,rfl⟩:=hv;have hp:=T.pos;have:j % z.cells.size<z.cells.size:=Nat.mod_lt _ (by rw [T.zc];exact hp)
   rw [getElem!_pos z.cells _ this];exact te _ (Array.getElem_mem_toList _)
  have og:=run_storeCells_at P g o e (Builtin.zeroCells z.cells (k+1)).toList 0 fk.toArray w hB (by rw [hlen];simpa using gn) h1;have e1:(fk.toArray.toList.take (o+0)++(Builtin.zeroCells z.cells (k+1)).toList++fk.toArray.toList.drop (o+0+(Builtin.zeroCells z.cells (k+1)).toList.length))=lay fk o (Builtin.zeroCells z.cells (k+1)).toList:=by simp [lay]
  rw [e1] at og;refine ⟨_,_,?_,hlen,(dG hB).1,(dG hB).2⟩;simp [Builtin.clear_,run_underlying S.iK,zeroValue,typeInfo,hi,hz,og]
end
section
variable {P:Program} {n:Nat} {ops:Array Oper} {Q:Exit→Act→World→Prop} {rest:List Oper} {L:Env} {w:World} {d:Option Nat} {T:TypeId} {pos:String} {af:Array Edge} {g:Option (Nat×Bool)}
theorem SW.copy {d:Nat} {t e:TypeId} {z:Value} {sz bytes:Nat} [S:bj P t e sz] [E:ct P e z sz bytes] {x y:Operand} {A X:Option Addr} {m c m2 c2 k g:Nat} (o:Nat) {fk:List Value} (cs:List Value) (hB:aU w g e fk) (hx:bG L x=some (.slice A m c)) (hy:bG L y=some (.slice X m2 c2)) (hn:Nat.blt d n=true)
 (hk:min m2 m=k) (hlen:cs.length=k*sz) (gn:o+cs.length≤fk.length) (mP : 0<k→A=some ⟨g,o,none⟩ ∧ ∃ ad,X=some ad ∧ ∀ j v,cs[j]?=some v→w.cell? (ad.add j)=some v) (h1:∀ v∈cs,v.oneCell'=true)
 (h:∀ w',aU w' g e (lay fk o cs)→w.grownBy w' (some g)→SW P n ops (.eG Q) rest ((d,.int .i64 (k:Int))::L) w') :
 SW P n ops (.eG Q) (⟨some d,.call ⟨.builtin .copy,#[x,y],#[t,t]⟩,T,pos,af,none⟩::rest) L w :=
 ⟨fun a ha=>by
  obtain ⟨w',hr,h2,h3⟩:=rT (P:=P) (t:=t) T (c:=c) (c2:=c2) hk hlen hB gn mP h1;simp only [swp,wpList,Region.wanted,if_true];refine .inl ?_;unfold Oper.wp
  have:(execOp a.eval ⟨some d,.call ⟨.builtin .copy,#[x,y],#[t,t]⟩,T,pos,af,none⟩).run P w = .ok (.value (.int .i64 (k:Int))) w':=by
   simp [execOp,resolve,invoke,builtin,ha.eval hx,ha.eval hy,hr]
  rw [this,Oper.upon_value];exact (h w' h2 h3).out _ (ha.put hn _)⟩
theorem SW.clear {t e:TypeId} {z:Value} {sz bytes:Nat} [S:bj P t e sz] [E:ct P e z sz bytes] {x:Operand} {A:Option Addr} {m c g:Nat} (o:Nat) {fk:List Value} (hB:aU w g e fk) (hx:bG L x=some (.slice A m c)) (gn:o+m*sz≤fk.length) (mP : 0<m→A=some ⟨g,o,none⟩) (te:∀ v∈z.cells.toList,v.oneCell'=true)
 (h:∀ w' cs,cs.length=m*sz→aU w' g e (lay fk o cs)→w.grownBy w' (some g)→SW P n ops (.eG Q) rest L w') :
 SW P n ops (.eG Q) (⟨none,.call ⟨.builtin .clear,#[x],#[t]⟩,T,pos,af,none⟩::rest) L w :=
 ⟨fun a ha=>by
  obtain ⟨w',cs,hr,h1,h2,h3⟩:=qs (P:=P) (t:=t) T (c:=c) hB gn mP te;simp only [swp,wpList,Region.wanted,if_true];refine .inl ?_;unfold Oper.wp
  have:(execOp a.eval ⟨none,.call ⟨.builtin .clear,#[x],#[t]⟩,T,pos,af,none⟩).run P w = .ok (.value (.tuple #[])) w':=by
   simp [execOp,resolve,invoke,builtin,ha.eval hx,hr]
  rw [this,Oper.upon_value];exact (h w' cs h1 h2 h3).out _ (ha.xD _)⟩
theorem ph {t e:TypeId} {sz:Nat} [c:bj P t e sz] {x y u:Operand} {A:Option Addr} {m cap i j:Nat} (hx:bG L x=some (.slice A m cap)) (hy:bG L y=some (.int .i64 (i:Int))) (hu:bG L u=some (.int .i64 (j:Int))) (hi:i≤j) (hj:j≤cap) :
 St P ⟨d,.slice t x (some y) (some u) none,T,pos,af,g⟩ L w (.slice (if cap=i then A else A.map (·.add (i*sz))) (j-i) (cap-i)) :=
 ⟨fun _ a ha w' _=>by
  have e1:=ha.eval hx;have e2:=ha.eval hy;have e3:=ha.eval hu;generalize a.eval = ρ at *
  simp [execOp,e1,e2,e3,Instr.sliceAt,Instr.slice,Instr.sliceBounds,Instr.sliceBound,asIntOf,run_underlying c.iK,run_sizeOf c.size,hi,hj]⟩
theorem qT {t e:TypeId} {sz:Nat} [c:bj P t e sz] {x y u v:Operand} {A:Option Addr} {m cap i j k:Nat} (hx:bG L x=some (.slice A m cap)) (hy:bG L y=some (.int .i64 (i:Int))) (hu:bG L u=some (.int .i64 (j:Int))) (hv:bG L v=some (.int .i64 (k:Int))) (hi:i≤j) (hj:j≤k) (hk:k≤cap) :
 St P ⟨d,.slice t x (some y) (some u) (some v),T,pos,af,g⟩ L w (.slice (if k=i then A else A.map (·.add (i*sz))) (j-i) (k-i)) :=
 ⟨fun _ a ha w' _=>by
  have e1:=ha.eval hx;have e2:=ha.eval hy;have e3:=ha.eval hu;have e4:=ha.eval hv;generalize a.eval = ρ at *
  simp [execOp,e1,e2,e3,e4,Instr.sliceAt,Instr.slice,Instr.sliceBounds,Instr.sliceBound,asIntOf,run_underlying c.iK,run_sizeOf c.size,hi,hj,hk]⟩
end
section
variable {P:Program} {n:Nat} {ops:Array Oper} {Q:Exit→Act→World→Prop} {rest:List Oper} {L:Env} {w:World}
structure kt (P:Program) (f:FuncId) (args:List Value) (w:World) (R:Value→World→Prop) : Prop where
 out:Calls P f args.toArray w fun e w' => ∃ v,e = .returned v∧R v w'
theorem SW.ie {d:Nat} {f:FuncId} {xs:List Operand} {vs:List Value} {ts:Array TypeId} {T:TypeId} {pos:String} {af:Array Edge} {R:Value→World→Prop}
 [Body P f] (hx:mN L xs=some vs) (hn:Nat.blt d n=true) (hc:kt P f vs w R) (h:∀ v w',R v w'→SW P n ops (.eG Q) rest ((d,v)::L) w') :
 SW P n ops (.eG Q) (⟨some d,.call ⟨.value (.func f),xs.toArray,ts⟩,T,pos,af,none⟩::rest) L w :=
 ⟨fun a ha=>by
  simp only [swp,wpList,Region.wanted,if_true];refine .inl ?_;unfold Oper.wp;rw [oG,Oper.upon_enter,ha.lZ hx];refine Calls.mono hc.out ?_;rintro e w' ⟨v,rfl,hv⟩
  exact (h v w' hv).out _ (ha.put hn v)⟩
theorem fy {fn:Func} {f:FuncId} {c:Code} {args:List Value} {R:Value→World→Prop} (hf:P.funcs[f]?=some fn) (hb:fn.body=some c) (hn:fn.ntmps=n) (hl:Nat.ble args.length n=true)
 (h:CW P n c (bodyPost P fn fun e w' => ∃ v,e = .returned v∧R v w') (kM 0 args) w) : kt P f args w R:=by
 have um:args.length≤n:=by simpa using hl
 refine ⟨calls_of_wp hf hb (h.out _ ⟨?_,rfl,?_⟩)⟩
 ·simp [hn];omega
 ·intro i v hi;obtain ⟨_,h2⟩:=kb args 0 i v hi;simp only [Nat.sub_zero] at h2
  have dH:i<args.length:=by
   rcases Nat.lt_or_ge i args.length with h|h
   ·exact h
   ·rw [List.getElem?_eq_none h] at h2;cases h2
  rw [Array.getD_eq_getD_getElem?,Array.getElem?_append_left (by simpa using dH)];simp [h2]
theorem SW.entry {d:Nat} {f:FuncId} {fn:Func} {e:Array Value→Sem Value} {xs:List Operand} {vs:List Value} {v:Value} {ts:Array TypeId} {T:TypeId} {pos:String} {af:Array Edge}
 (hf : P.funcs[f]? = some fn) (CV : (fn.name == "runtime.NumGoroutine") = false) (hb : fn.body.isNone = true) (vU : Extern.findNext fn = none) (he : Extern.find fn = some e) (hx : mN L xs = some vs) (hn : Nat.blt d n = true)
 (hr:(e vs.toArray).run P w = .ok v w) (h:SW P n ops (.eG Q) rest ((d,v)::L) w) :
 SW P n ops (.eG Q) (⟨some d,.call ⟨.value (.func f),xs.toArray,ts⟩,T,pos,af,none⟩::rest) L w :=
 ⟨fun a ha=>by
  simp only [swp,wpList,Region.wanted,if_true];refine .inl ?_;unfold Oper.wp;have h1:=run_callFunc_extern (P:=P) hf CV hb vU he vs.toArray w
  have:(execOp a.eval ⟨some d,.call ⟨.value (.func f),xs.toArray,ts⟩,T,pos,af,none⟩).run P w = .ok (.value v) w:=by
   have e2:=ha.lZ hx;simp only [execOp,resolve,Deferred.ofValue,Act.eval,Sem.run_bind,Result.andThen,invoke,List.map_toArray,e2];rw [hr] at h1;simpa [Result.andThen] using h1
  rw [this,Oper.upon_value];exact h.out _ (ha.put hn v)⟩
end
theorem Ext.gr {w w':World} (h:Ext w w') (row:Option Nat) : w.grownBy w' row:=⟨h.os,h.tape,h.output,h.size,fun k hk _=>h.block k hk⟩
theorem bi {w w1 w2:World} {row Bo:Option Nat} (h:w.grownBy w1 row) (k:w1.grownBy w2 Bo) (hr:Bo=row ∨ ∀ i,Bo=some i→w.heap.size≤i) : w.grownBy w2 row :=
 ⟨k.os.trans h.os,k.tape.trans h.tape,k.output.trans h.output,Nat.le_trans h.size k.size,fun i hi cQ=>by
  have oh:i<w1.heap.size:=Nat.lt_of_lt_of_le hi h.size
  rcases hr with e|e
  ·subst e;rw [k.block i oh cQ,h.block i hi cQ]
  ·rw [k.block i oh (fun e'=>by have:=e i e'.symm;omega),h.block i hi cQ]⟩
theorem SW.tf {α:Type} {P:Program} {n:Nat} {ops:Array Oper} {Q:Exit→Act→World→Prop} {rest:List Oper} {L:Env} {w:World} {dd:Nat} {T:TypeId} {pos:String} {af:Array Edge}
 {lo:Nat} {t e:TypeId} {z:Value} {sz bytes:Nat} {enc : α → List Value} {A X:Option Addr} {k c m c2:Nat} {l ys:List α} [S:bj P t e sz] [T':ct P e z sz bytes] [E:fM enc sz] {x y:Operand}
 (hO:Own w lo e sz enc A k c l) (hS:Sl w sz enc X m ys) (iE:k+m≤c) (hx:bG L x=some (.slice A k c)) (hy:bG L y=some (.slice X m c2)) (hn:Nat.blt dd n=true)
 (h:∀ w',Own w' lo e sz enc A (k+m) c (l++ys)→w.grownBy w' (aX A c)→SW P n ops (.eG Q) rest ((dd,.slice A (k+m) c)::L) w') :
 SW P n ops (.eG Q) (⟨some dd,.call ⟨.builtin .append,#[x,y],#[t,t]⟩,T,pos,af,none⟩::rest) L w :=
 ⟨fun a ha=>by
  obtain ⟨i,hi,hz,hs,qI⟩:=da P e (z:=z) (sz:=sz) (bytes:=bytes);have xu:(ys.flatMap enc).length=m*sz:=by rw [aO,hS.len]
  have mO:∀ u∈ys.flatMap enc,u.oneCell'=true:=fun u hu=>by
   obtain ⟨x,_,hx⟩:=List.mem_flatMap.1 hu;exact E.one x u hx
  have key:∃ w',(Builtin.append_ #[t,t] T #[.slice A k c,.slice X m c2]).run P w = .ok (.slice A (k+m) c) w'∧Own w' lo e sz enc A (k+m) c (l++ys)∧w.grownBy w' (aX A c):=by
   by_cases uo:m=0
   ·subst uo;have Ha:ys=[]:=List.eq_nil_of_length_eq_zero hS.len
    subst Ha;refine ⟨w,?_,by simpa using hO,World.grownBy.refl _ _⟩;have Bp:k≤c:=by omega
    cases A<;>cases X<;>simp [Builtin.append_,run_underlying S.iK,sizeOf,typeInfo,hi,Builtin.lenOf,Bp,Builtin.firstCells,loadCells,loadCellsFrom,storeCells]
   ·obtain ⟨ad,rfl⟩:=Option.isSome_iff_exists.1 (hS.base (by omega));have l7:=dl T'.pos hS;obtain ⟨g,rest,rfl,h1,h2,h3,h4,h5,h6⟩:=hO.opened (by omega);have gn:(k+m)*sz≤c*sz:=Nat.mul_le_mul_right _ iE
    have nS:(l.flatMap enc).length=k*sz:=by rw [aO,hO.len]
    rw [Nat.add_mul] at gn;have hr:=run_append_room (P:=P) w t T e i S.iK hi g k c (l.flatMap enc++rest).toArray h2 ad m c2 (ys.flatMap enc) (by rw [hs];exact xu) l7 mO iE (by rw [hs,xu];simp [nS];omega)
    have e1:(l.flatMap enc++rest).toArray.toList.take (k*i.size)++ys.flatMap enc++(l.flatMap enc++rest).toArray.toList.drop (k*i.size+(ys.flatMap enc).length)=(l++ys).flatMap enc++rest.drop (m*sz):=by
     rw [hs];have h7:=fw (l.flatMap enc) (rest.take (m*sz)) (rest.drop (m*sz)) (ys.flatMap enc) (by rw [xu];simp;omega) (o:=k*sz) nS.symm;rw [List.append_assoc (l.flatMap enc),List.take_append_drop] at h7;rw [List.flatMap_append];exact h7
    rw [e1] at hr;refine ⟨_,hr,?_,?_⟩
    ·exact Own.closed (by rw [List.length_append,hO.len,hS.len]) (dG h2).1 (by rw [Nat.add_mul];simp;omega) iE (by omega) h5 h1
    ·rw [h6];exact (dG h2).2
  obtain ⟨w',hr,h1,h2⟩:=key;simp only [swp,wpList,Region.wanted,if_true];refine .inl ?_;unfold Oper.wp
  have:(execOp a.eval ⟨some dd,.call ⟨.builtin .append,#[x,y],#[t,t]⟩,T,pos,af,none⟩).run P w = .ok (.value (.slice A (k+m) c)) w':=by
   simp [execOp,resolve,invoke,builtin,ha.eval hx,ha.eval hy,hr]
  rw [this,Oper.upon_value];exact (h w' h1 h2).out _ (ha.put hn _)⟩
theorem SW.vE {α:Type} {P:Program} {n:Nat} {ops:Array Oper} {Q:Exit→Act→World→Prop} {rest:List Oper} {L:Env} {w:World} {d:Nat} {T:TypeId} {pos:String} {af:Array Edge}
 {t tn e:TypeId} {z:Value} {sz bytes:Nat} {enc : α → List Value} {A:Option Addr} {m c k:Nat} {l:List α} {lk:IntKind} [S:bj P t e sz] [T':ct P e z sz bytes] [E:fM enc sz] {x y:Operand}
 {j:Int} (hS:Sl w sz enc A m l) (F6:P.underlying tn=some (.int lk)) (hx:bG L x=some (.slice A m c)) (hy:bG L y=some (.int .i64 j)) (hj:j=(k:Int)) (hn:Nat.blt d n=true) (hk : 0<k) (iE:c<m+k) (hb:(m+k)*bytes≤140737488355328) (hm:m+k≤9223372036854775807)
 (h:∀ g Ar c' w',Ext w w'→w.heap.size≤g→aU w' g e (l.flatMap enc++Ar)→m*sz+Ar.length=c'*sz→m+k≤c'→c'≤maxLen→SW P n ops (.eG Q) rest ((d,.slice (some ⟨g,0,none⟩) (m+k) c')::L) w') :
 SW P n ops (.eG Q) (⟨some d,.call ⟨.builtin .append,#[x,y],#[t,tn]⟩,T,pos,af,none⟩::rest) L w :=
 ⟨fun a ha=>by
  subst hj;obtain ⟨i,hi,hz,hs,qI⟩:=da P e (z:=z) (sz:=sz) (bytes:=bytes);have hp:=T'.pos;have Bq:=dl hp hS;have hlen:(l.flatMap enc).length=m*sz:=by rw [aO,hS.len]
  have hold:(Builtin.firstCells i.size m (.slice A m c)).run P w.drew = .ok (l.flatMap enc).toArray w.drew:=by
   rw [hs];cases A with
   | none =>
     have h0:m=0:=by
      rcases Nat.eq_zero_or_pos m with h0|h0
      ·exact h0
      ·have:=hS.base h0;simp at this
     subst h0;have:l=[]:=List.eq_nil_of_length_eq_zero hS.len
     subst this;simp [Builtin.firstCells]
   | some ad =>
     simp only [Builtin.firstCells];rw [← hlen];exact run_loadCells_list (P:=P) w.drew ad _ (fun j v hv=>Bq j v hv)
  have ye:=Room.nextslicecap_le' iE
  have gn:Builtin.nextslicecap (m+k) c*i.bytes≤281474976710656:=by
   rw [qI]
   calc Builtin.nextslicecap (m+k) c*bytes≤2*(m+k)*bytes:=Nat.mul_le_mul_right _ ye
    _≤281474976710656:=by rw [Nat.mul_assoc];omega
  have Hb:k*i.bytes≤281474976710656:=by
   rw [qI];have:k*bytes≤(m+k)*bytes:=Nat.mul_le_mul_right _ (by omega)
   omega
  have hr:=Lib.run_append_grow_zeros (P:=P) w t tn T e i z .i64 lk S.iK F6 hi hz A m c _ hold k hk (by rw [hs];exact hp) iE (by omega) Hb gn;simp only [swp,wpList,Region.wanted,if_true];refine .inl ?_;unfold Oper.wp
  have:(execOp a.eval ⟨some d,.call ⟨.builtin .append,#[x,y],#[t,tn]⟩,T,pos,af,none⟩).run P w = .ok (.value (.slice (some ⟨w.heap.size,0,none⟩) (m+k) (grownCap w (m+k) c e))) (w.drew.alloc (.cells ((l.flatMap enc).toArray++Builtin.zeroCells z.cells k++Builtin.zeroCells z.cells (grownCap w (m+k) c e-(m+k))) e)):=by
   simp [execOp,resolve,invoke,builtin,ha.eval hx,ha.eval hy,hr]
  rw [this,Oper.upon_value];have hg:=grownCap_ge w (m+k) c e;refine (h w.heap.size ((Builtin.zeroCells z.cells k).toList++(Builtin.zeroCells z.cells (grownCap w (m+k) c e-(m+k))).toList) _ _ (Ext.trans (Ext.drew w) (Ext.alloc _ _)) (Nat.le_refl _) ?_ ?_ hg (grownCap_le_maxLen w _ _ _ (by simp only [maxLen];omega))).out _ (ha.put hn _)
  ·have:=aU.new w.drew e (l.flatMap enc++((Builtin.zeroCells z.cells k).toList++(Builtin.zeroCells z.cells (grownCap w (m+k) c e-(m+k))).toList))
   have e1:(l.flatMap enc++((Builtin.zeroCells z.cells k).toList++(Builtin.zeroCells z.cells (grownCap w (m+k) c e-(m+k))).toList)).toArray=(l.flatMap enc).toArray++Builtin.zeroCells z.cells k++Builtin.zeroCells z.cells (grownCap w (m+k) c e-(m+k)):=by
    apply Array.ext';simp
   rw [e1] at this;exact this
  ·simp only [List.length_append,Array.length_toList,Go.size_zeroCells,T'.zc];rw [← Nat.add_mul,← Nat.add_mul];congr 1;omega⟩
end Go.Proofs.YtbidkghlpijecaaGreatDoor
