/-
  Texts of the claim TopProcessors, part 25: what its theorem leans on.
-/
import Derived.Test.YtbidkghlpijecaaGreatDoorPackTopProcessors24
import Derived.Test.YtbidkghlpijecaaGreatDoorPackTopProcessors20
import Derived.Test.YtbidkghlpijecaaGreatDoorPackTopProcessors14
set_option linter.unusedVariables false
set_option linter.unusedSimpArgs false
namespace Go.Proofs.YtbidkghlpijecaaGreatDoor
open Go.RowKit
theorem pf {t:ag} (hM:a9 t) (hs:t.small) : t.dW:=by
 refine ⟨hs,EB hM.heap,fun c hc x hx => ?_,fun c hc n hn => ?_⟩
 ·obtain ⟨b,hb,e⟩:=mY hM hc hx;have:=(hM.heap.live.all b hb).2.1
  omega
 ·obtain ⟨i,hi,rfl⟩:=List.getElem_of_mem hc;obtain ⟨k,hk,rfl⟩:=List.getElem_of_mem hn;have:=((hM.each i hi).names.each k hk).1
  unfold fy at this;simp only [Bool.and_eq_true,decide_eq_true_eq] at this;omega
theorem EC {c:aF} {k:Nat} (hk:k<c.ab.length) {y:Slab} (h:y.At=c.ab[k].At) : (c.ab.set k y).map (fun x=>x.At)=c.ab.map fun x=>x.At:=by
 rw [List.map_set];refine List.ext_getElem (by simp) fun j g1 g2 => ?_
 rw [List.getElem_set];split
 ·rename_i e;subst e;simp [h]
 ·rfl
theorem ph {cs:List aF} {i:Nat} (hi:i<cs.length) {c':aF} (h:tG c'=tG cs[i]) : aS (cs.set i c')=aS cs:=by
 rw [cn,cn,List.map_set];congr 1
 refine List.ext_getElem (by simp) fun j g1 g2 => ?_
 rw [List.getElem_set];split
 ·rename_i e;subst e;simp [h]
 ·rfl
theorem dP.same {s t:ag} {c:aF} (h:dP s c) (hw:t.Words=s.Words) (hh:t.Heap=s.Heap) : dP t c :=
 ⟨h.lay,h.names,by rw [hh];exact h.a8,fun k hk=>⟨by rw [hh];exact (h.aH k hk).live,(h.aH k hk).next,by rw [hw];exact (h.aH k hk).chain⟩,h.rr⟩
theorem BY {s:ag} (hM:a9 s) {i cpu k:Nat} (hi:i<s.aa.length) (lT:cpu<s.aa[i].ar.length) (hk:k<s.aa[i].ab.length) (hf : 0<s.aa[i].ab[k].aj)
 (hA:s.aa[i].ab[k].At=s.aa[i].ar[cpu]∨s.aa[i].ab[k].At∉s.aa[i].ar) :
 a9 ⟨s.Words,s.Heap,s.aa.set i (dp s.aa[i] cpu k (s.Words.getD s.aa[i].ab[k].cr.toNat 0))⟩:=by
 have hC:=(hM.each i hi).may;have eD:iV s.aa[i] k=s.aa[i].ab[k]:=ew hk
 have hl:=db hC.lay
 have OS:tG (dp s.aa[i] cpu k (s.Words.getD s.aa[i].ab[k].cr.toNat 0))=tG s.aa[i]:=by
  unfold tG dp;simp only [eD];exact EC hk rfl
 refine rY hM hi hM.words hM.heap rfl rfl rfl ?_ (fun c hc _ => ?_) ?_
 ·refine ⟨hC.lay,hC.names,by simp only [dp,List.length_set];exact hC.a8,fun j hj => ?_,fun j hj => ?_⟩
  ·simp only [dp,List.length_set] at hj;have hS:=hC.aH j hj
   have MT:∀ (q:Nat) (hq:q<s.aa[i].ab.length),((dp s.aa[i] cpu k (s.Words.getD s.aa[i].ab[k].cr.toNat 0)).ab[q]'(by simp only [dp,List.length_set];exact hq)).At=s.aa[i].ab[q].At:=fun q hq=>by
    simp only [dp,List.getElem_set,eD];split
    ·rename_i e;subst e;rfl
    ·rfl
   refine ⟨by rw [MT j hj];exact hS.live,fun h0=>by rw [MT j hj,MT (j-1) (by omega)];exact hS.next h0,?_⟩;obtain ⟨out,ho⟩:=hS.chain;by_cases e:k=j
   ·subst e;have sU : 0≤s.aa[i].bG:=by omega
    obtain ⟨k1,k2,k3,k4,k5⟩:=(gx sU).1 ho;obtain ⟨q,rest,e1,e2,hq,e3⟩:=k1.head (fun e=>by rw [e] at k4;simp at k4;omega);refine ⟨rest,?_⟩
    have ev:s.Words.getD s.aa[i].ab[k].cr.toNat 0=s.Words[q]:=by
     rw [e1];simp [List.getD,List.getElem?_eq_getElem hq]
    have es:(dp s.aa[i] cpu k (s.Words.getD s.aa[i].ab[k].cr.toNat 0)).ab[k]'(by simp only [dp,List.length_set];exact hk)=⟨s.aa[i].ab[k].At,s.aa[i].ab[k].aj-1,s.Words[q]⟩:=by
     simp only [dp,List.getElem_set,if_true,eD,ev]
    rw [es];rw [e2] at k2 k3 k4 k5;simp only [List.length_cons] at k3 k4;exact (gx (x:=⟨s.aa[i].ab[k].At,s.aa[i].ab[k].aj-1,s.Words[q]⟩) sU).2 ⟨e3,(List.nodup_cons.1 k2).2,by omega,by simp only;omega,fun a ha=>k5 a (by simp [ha])⟩
   ·refine ⟨out,?_⟩
    have es:(dp s.aa[i] cpu k (s.Words.getD s.aa[i].ab[k].cr.toNat 0)).ab[j]'(by simp only [dp,List.length_set];exact hj)=s.aa[i].ab[j]:=by
     simp only [dp,List.getElem_set,if_neg e]
    rw [es];exact ho
  ·simp only [dp,List.length_set] at hj
   have fJ:∀ a,(dp s.aa[i] cpu k (s.Words.getD s.aa[i].ab[k].cr.toNat 0)).ab.any (xg a)=s.aa[i].ab.any (xg a):=fun a=>by
    have e1:∀ l:List Slab,l.any (xg a)=(l.map fun x=>x.At).any fun y=>decide (y=a):=fun l=>by rw [List.any_map];rfl
    rw [e1,e1];have:=OS
    unfold tG at this;rw [this]
   have Gz:s.aa[i].ab.any (xg s.aa[i].ab[k].At)=true:=List.any_eq_true.2 ⟨_,List.getElem_mem hk,by simp [xg]⟩
   have hJ:=hC.rr j hj;unfold qB at hJ ⊢;have OT:(dp s.aa[i] cpu k (s.Words.getD s.aa[i].ab[k].cr.toNat 0)).ar=s.aa[i].ar.set cpu s.aa[i].ab[k].At:=by simp only [dp,eD]
   rcases hA with hA|hA
   ·have OU:s.aa[i].ar.set cpu s.aa[i].ab[k].At=s.aa[i].ar:=by rw [hA,List.set_getElem_self]
    have key:∀ (L:List Int) (eL:L=s.aa[i].ar) (hq:j<L.length),L[j] = -1∨(L[j]∉L.take j∧(dp s.aa[i] cpu k (s.Words.getD s.aa[i].ab[k].cr.toNat 0)).ab.any (xg L[j])=true):=fun L eL hq=>by
     subst eL;rw [fJ];exact hJ
    exact key _ (OT.trans OU) _
   ·have key:∀ (L:List Int) (eL:L=s.aa[i].ar.set cpu s.aa[i].ab[k].At) (hq:j<L.length),L[j] = -1∨(L[j]∉L.take j∧(dp s.aa[i] cpu k (s.Words.getD s.aa[i].ab[k].cr.toNat 0)).ab.any (xg L[j])=true):=fun L eL hq=>by
     subst eL;rw [fJ,List.getElem_set];by_cases e:cpu=j
     ·subst e;right;rw [if_pos rfl,List.take_set_of_le (Nat.le_refl _)];exact ⟨fun h=>hA (List.mem_of_mem_take h),Gz⟩
     ·rw [if_neg e];rcases hJ with h|⟨h1,h2⟩
      ·exact .inl h
      ·refine .inr ⟨fun hm => ?_,h2⟩;obtain ⟨q,G3,sr⟩:=List.getElem_of_mem hm;simp only [List.length_take,List.length_set] at G3;rw [List.getElem_take,List.getElem_set] at sr;split at sr
       ·exact hA (sr ▸ List.getElem_mem hj)
       ·refine h1 ?_;rw [← sr];exact List.mem_take_iff_getElem.2 ⟨q,by omega,rfl⟩
    exact key _ OT _
 ·obtain ⟨j,hj,rfl⟩:=List.getElem_of_mem hc;exact (hM.each j hj).may.same rfl rfl
 ·simp only;rw [ph hi OS];exact kJ.1 fun j hj=>(hM.each j hj).aH
open Go.RowKit
theorem IB {cs:List aF} {i:Nat} (hi:i<cs.length) {c':aF} {p:Nat} {a:Int} (h:tG c'=(tG cs[i]).take p++a::(tG cs[i]).drop p) (hn:(aS cs).Nodup) (ha:a∉aS cs) : (aS (cs.set i c')).Nodup:=by
 have e1:cs=cs.take i++cs[i]::cs.drop (i+1):=by simp
 have e2:cs.set i c'=cs.take i++c'::cs.drop (i+1):=by rw [List.set_eq_take_append_cons_drop,if_pos hi]
 have f1:aS cs=(aS (cs.take i)++(tG cs[i]).take p)++((tG cs[i]).drop p++aS (cs.drop (i+1))):=by
  conv=>lhs;rw [e1]
  rw [cn,cn,cn,List.map_append,List.map_cons,List.flatten_append,List.flatten_cons];simp only [List.append_assoc];rw [← List.append_assoc (List.take p _),List.take_append_drop]
 have f2:aS (cs.set i c')=(aS (cs.take i)++(tG cs[i]).take p)++a::((tG cs[i]).drop p++aS (cs.drop (i+1))):=by
  rw [e2,cn,cn,cn,List.map_append,List.map_cons,List.flatten_append,List.flatten_cons,h];simp only [List.append_assoc,List.cons_append]
 rw [f2,List.perm_middle.nodup_iff,← f1,List.nodup_cons];exact ⟨ha,hn⟩
theorem yL {s t:ag} {c:aF} {x:Slab} {out:List Int} (hM:a9 s) (hc:c∈s.aa) (hx:x∈c.ab) (Ha:dy c.aE=(c.Order,c.bG,0)) (MU:cm s.Words c.aE c.bG x out)
 (MV:∀ a:Int,16*x.At≤a→a<16*(x.At+pw c.Order)→0≤a→t.Words[a.toNat]?=s.Words[a.toNat]?) : cm t.Words c.aE c.bG x out:=by
 have sU : 0≤c.bG:=by have:=db Ha;omega
 obtain ⟨k1,k2,k3,k4,k5⟩:=(gx sU).1 MU;exact (gx sU).2 ⟨k1.congr fun a ha h0=>by obtain ⟨r1,r2⟩:=lq Ha (k5 a ha);exact MV a r1 r2 h0,k2,k3,k4,k5⟩
theorem Kb {α:Type} {l:List α} {p:Nat} (hp:p≤l.length) {x : α} {j:Nat} (hj:j<(aN l p x).length) : (∃ h:j<l.length,j<p∧(aN l p x)[j]=l[j])∨(j=p∧(aN l p x)[j]=x)∨(∃ h:j-1<l.length,p<j∧(aN l p x)[j]=l[j-1]):=by
 have hl:=cf l hp x;rcases Nat.lt_trichotomy j p with h|h|h
 ·left;have:=rn hp (x:=x) h
  rw [List.getElem?_eq_getElem hj,List.getElem?_eq_getElem (by omega)] at this;injection this with this
  exact ⟨by omega,h,this⟩
 ·right;left;subst h;have:=jN hp (x:=x)
  rw [List.getElem?_eq_getElem hj] at this;injection this with this
  exact ⟨rfl,this⟩
 ·right;right;obtain ⟨q,rfl⟩ : ∃ q,j=q+1:=⟨j-1,by omega⟩;have:=vK hp (x:=x) (k:=q) (by omega)
  rw [List.getElem?_eq_getElem hj,List.getElem?_eq_getElem (by omega)] at this;injection this with this
  exact ⟨by simp only [Nat.add_sub_cancel];omega,h,by simpa using this⟩
theorem BZ {c:aF} {a:Int} (h:dT c a<c.ab.length) : ¬ c.ab[dT c a].At<a:=by
 have:=HJ (p:=fun x:Slab=>decide (x.At<a)) c.ab c.ab[dT c a] (List.getElem?_eq_getElem h)
 exact of_decide_eq_false this
theorem mZ {s:ag} {c:aF} (h:dP s c) : c.ab.Pairwise fun x y=>x.At<y.At:=by
 have key:∀ (d i:Nat) (hj:i+d+1<c.ab.length),(c.ab[i]'(by omega)).At<c.ab[i+d+1].At:=by
  intro d;induction d with
  | zero=>intro i hj;have:=(h.aH (i+1) hj).next (by omega);simpa using this
  | succ d ih =>
    intro i hj;have h1:=ih i (by omega);have h2:=(h.aH (i+(d+1)+1) hj).next (by omega);simp only [Nat.add_sub_cancel] at h2;have e:i+d+1=i+(d+1):=by omega
    simp only [e] at h1;omega
 rw [List.pairwise_iff_getElem];intro i j hi hj lz;have:=key (j-i-1) i (by omega)
 have e:i+(j-i-1)+1=j:=by omega
 simp only [e] at this;exact this
theorem IC {s:ag} (hM:a9 s) {i:Nat} (hi:i<s.aa.length) {cpu:Int} {u:Heap×Int×Int} (hu:ct s.Heap cpu s.aa[i].Order 0 u) (u0:u.2.2=0) (hc:gi s.Words.length (16*u.2.1) s.aa[i].aE s.aa[i].bG) :
 (∀ b:Int,0≤b→(b<16*u.2.1∨16*(u.2.1+pw s.aa[i].Order)≤b)→(er s.Words (16*u.2.1) s.aa[i].aE s.aa[i].bG)[b.toNat]?=s.Words[b.toNat]?) ∧
 (∀ c∈s.aa,∀ x∈c.ab,x.At≠u.2.1∧mM u.1.Live x.At=mM s.Heap.Live x.At∧(x.At+pw c.Order≤u.2.1∨u.2.1+pw s.aa[i].Order≤x.At)) ∧
 (∀ c∈s.aa,dP s c → ∀ x∈c.ab,∀ out,cm s.Words c.aE c.bG x out→cm (er s.Words (16*u.2.1) s.aa[i].aE s.aa[i].bG) c.aE c.bG x out) ∧
 cm (er s.Words (16*u.2.1) s.aa[i].aE s.aa[i].bG) s.aa[i].aE s.aa[i].bG ⟨u.2.1,s.aa[i].bG,16*u.2.1⟩ (tg (16*u.2.1).toNat s.aa[i].aE.toNat s.aa[i].bG.toNat 0):=by
 have hC:=(hM.each i hi).may;have hl:=db hC.lay;have OV:=lg hC.lay;have lP:=hu.at_ u0;obtain ⟨hm,Bl,⟨ty,si,I1⟩,KY⟩:=hu.from_ u0;have ue:=hu.may u0;obtain ⟨a,ea⟩ : ∃ a,u.2.1=a:=⟨_,rfl⟩;rw [ea] at hc lP I1 KY ⊢
 have OW:(⟨a,s.aa[i].Order,ty⟩ : Block)∈u.1.Live:=by
  rw [I1];simp only [dK,aN];simp
 have lQ:∀ b∈s.Heap.Live,b∈u.1.Live:=fun b hb=>by
  rw [I1];simp only [dK,aN];rw [← List.take_append_drop (bi s.Heap.Live a) s.Heap.Live,List.mem_append] at hb;simp only [List.mem_append];rcases hb with hb|hb
  ·exact .inl (.inl hb)
  ·exact .inr hb
 have xS:∀ c∈s.aa,∀ x∈c.ab,x.At≠a∧mM u.1.Live x.At=mM s.Heap.Live x.At∧(x.At+pw c.Order≤a∨a+pw s.aa[i].Order≤x.At):=fun c hc x hx=>by
  obtain ⟨b,hb,e1,e2⟩:=kI hM hc hx;have bW:x.At≠a:=by rw [← e1];exact KY b hb
  refine ⟨bW,?_,?_⟩
  ·rw [← e1,kH hm.live hb,kH ue.live (lQ b hb)]
  ·have:=nW ue (lQ b hb) OW (by rw [e1];exact bW)
   rw [e1,e2] at this;exact this
 obtain ⟨p,hp⟩ : ∃ p,s.aa[i].bG*s.aa[i].aE=p:=⟨_,rfl⟩;rw [hp] at OV;unfold gi at hc;obtain ⟨xf,Mk,R7,SK,SL,UU⟩:=hc
 have hmul:∀ q:Nat,q<s.aa[i].bG.toNat→((q*s.aa[i].aE.toNat:Nat) : Int)+s.aa[i].aE≤p:=fun q hq=>by
  have h1:(q+1)*s.aa[i].aE.toNat≤s.aa[i].bG.toNat*s.aa[i].aE.toNat:=Nat.mul_le_mul_right _ (by omega)
  have h2:((s.aa[i].bG.toNat*s.aa[i].aE.toNat:Nat) : Int)=p:=by
   rw [Int.natCast_mul,Int.toNat_of_nonneg (by omega),Int.toNat_of_nonneg (by omega),hp]
  rw [Nat.add_mul] at h1;omega
 have hw:∀ b:Int,0≤b→(b<16*a∨16*(a+pw s.aa[i].Order)≤b)→(er s.Words (16*a) s.aa[i].aE s.aa[i].bG)[b.toNat]?=s.Words[b.toNat]?:=fun b h0 hb=>by
  unfold er;refine rJ _ _ _ _ _ _ fun q hq e => ?_
  have h1:=hmul q hq;have UW:pw 0=1:=by decide
  have UX:pw 1=2:=by decide
  have UY:pw 2=4:=by decide
  rcases OV with ⟨eo,h2⟩|⟨eo,h2⟩|⟨eo,h2⟩<;>rw [eo] at hb<;>omega
 have hold:∀ c∈s.aa,dP s c → ∀ x∈c.ab,∀ out,cm s.Words c.aE c.bG x out→cm (er s.Words (16*a) s.aa[i].aE s.aa[i].bG) c.aE c.bG x out:=fun c hc Rp x hx out ho =>
  yL (t:=⟨er s.Words (16*a) s.aa[i].aE s.aa[i].bG,u.1,[]⟩) hM hc hx Rp.lay ho fun b r1 r2 h0=>hw b h0 (by have:=(xS c hc x hx).2.2;omega)
 have F7:cm (er s.Words (16*a) s.aa[i].aE s.aa[i].bG) s.aa[i].aE s.aa[i].bG ⟨a,s.aa[i].bG,16*a⟩ (tg (16*a).toNat s.aa[i].aE.toNat s.aa[i].bG.toNat 0):=by
  have SM : 0<s.aa[i].aE.toNat:=by omega
  have Cf:∀ q,q<s.aa[i].bG.toNat→(16*a).toNat+q*s.aa[i].aE.toNat<s.Words.length:=fun q hq=>by
   have:=hmul q hq
   rw [Int.mul_comm] at hp;rw [hp] at UU;omega
  have h1:=yK SM Cf s.aa[i].bG.toNat 0 (by omega) (by omega);rw [Nat.zero_mul,Nat.add_zero,Int.toNat_of_nonneg SL] at h1;refine (gx (by omega)).2 ⟨h1,wZ SM _ _,by rw [wY];omega,by rw [wY];simp only;omega,fun b hb => ?_⟩;obtain ⟨q,_,hq,rfl⟩:=wX.1 hb;refine G7 (k:=q) xf (by omega) ?_;rw [Int.natCast_add,Int.natCast_mul,Int.toNat_of_nonneg SL,Int.toNat_of_nonneg (by omega)]
 exact ⟨hw,xS,hold,F7⟩
theorem B0 {s:ag} (hM:a9 s) {i:Nat} (hi:i<s.aa.length) {cpu:Int} {u:Heap×Int×Int} (hu:ct s.Heap cpu s.aa[i].Order 0 u) (u0:u.2.2=0) (hc:gi s.Words.length (16*u.2.1) s.aa[i].aE s.aa[i].bG) :
 a9 ⟨er s.Words (16*u.2.1) s.aa[i].aE s.aa[i].bG,u.1,s.aa.set i (dz s.aa[i] u.2.1)⟩:=by
 have hC:=(hM.each i hi).may;obtain ⟨hw,xS,hold,F7⟩:=IC hM hi hu u0 hc;obtain ⟨hm,Bl,⟨ty,si,I1⟩,KY⟩:=hu.from_ u0;have ue:=hu.may u0;obtain ⟨a,ea⟩ : ∃ a,u.2.1=a:=⟨_,rfl⟩;rw [ea] at hw xS hold F7 I1 ⊢
 have OW:(⟨a,s.aa[i].Order,ty⟩ : Block)∈u.1.Live:=by
  rw [I1];simp only [dK,aN];simp
 have ju:=mi s.aa[i] a;refine rY hM hi (by simp only [er,km];exact hM.words) ue rfl rfl rfl ?_ (fun c hc _ => ?_) ?_
 ·refine ⟨hC.lay,hC.names,by simp only [dz];rw [Bl];exact hC.a8,fun j hj => ?_,fun j hj => ?_⟩
  ·have pX:j<(aN s.aa[i].ab (dT s.aa[i] a) ⟨a,s.aa[i].bG,16*a⟩).length:=hj
   have Kc:s.aa[i]∈s.aa:=List.getElem_mem hi
   have KZ:∀ x∈s.aa[i].ab.drop (dT s.aa[i] a),a<x.At:=fun x hx=>by
    obtain ⟨q,hq,rfl⟩:=List.getElem_of_mem hx;simp only [List.length_drop] at hq;rw [List.getElem_drop];have h1:=BZ (c:=s.aa[i]) (a:=a) (by omega);have h2:=(xS _ Kc _ (List.getElem_mem (show dT s.aa[i] a+q<s.aa[i].ab.length by omega))).1;rcases Nat.eq_zero_or_pos q with e|e
    ·subst e;simp only [Nat.add_zero] at h2 ⊢;omega
    ·have h3:=mZ hC;rw [List.pairwise_iff_getElem] at h3;have:=h3 (dT s.aa[i] a) (dT s.aa[i] a+q) (by omega) (by omega) (by omega)
     omega
   have OX:∀ x∈s.aa[i].ab.take (dT s.aa[i] a),x.At<a:=fun x hx=>by
    obtain ⟨q,hq,rfl⟩:=List.getElem_of_mem hx;simp only [List.length_take] at hq;rw [List.getElem_take];exact Ep (by omega) (by omega)
   have F9:(aN s.aa[i].ab (dT s.aa[i] a) ⟨a,s.aa[i].bG,16*a⟩).Pairwise fun x y=>x.At<y.At:=by
    unfold aN;rw [List.append_assoc,List.pairwise_append];refine ⟨List.Pairwise.sublist (List.take_sublist _ _) (mZ hC),?_,fun x hx y hy => ?_⟩
    ·rw [List.singleton_append,List.pairwise_cons];exact ⟨KZ,List.Pairwise.sublist (List.drop_sublist _ _) (mZ hC)⟩
    ·have h1:=OX x hx;rcases List.mem_append.1 hy with hy|hy
     ·simp only [List.mem_singleton] at hy;subst hy;exact h1
     ·have:=KZ y hy;omega
   have Aq : 0<j→((aN s.aa[i].ab (dT s.aa[i] a) ⟨a,s.aa[i].bG,16*a⟩)[j-1]'(by omega)).At<((aN s.aa[i].ab (dT s.aa[i] a) ⟨a,s.aa[i].bG,16*a⟩)[j]'pX).At:=fun h0=>by
    rw [List.pairwise_iff_getElem] at F9;exact F9 (j-1) j (by omega) pX (by omega)
   have key:∀ (y:Slab),((∃ k,∃ hk:k<s.aa[i].ab.length,y=s.aa[i].ab[k])∨y=⟨a,s.aa[i].bG,16*a⟩)→mM u.1.Live y.At=s.aa[i].Order ∧ ∃ out,cm (er s.Words (16*a) s.aa[i].aE s.aa[i].bG) s.aa[i].aE s.aa[i].bG y out:=fun y hy=>by
    rcases hy with ⟨k,hk,rfl⟩|rfl
    ·have hS:=hC.aH k hk;obtain ⟨out,ho⟩:=hS.chain;exact ⟨((xS _ Kc _ (List.getElem_mem hk)).2.1).trans hS.live,out,hold _ Kc hC _ (List.getElem_mem hk) out ho⟩
    ·exact ⟨kH ue.live OW,_,F7⟩
   have r8:=key ((aN s.aa[i].ab (dT s.aa[i] a) ⟨a,s.aa[i].bG,16*a⟩)[j]'pX) (by
    rcases Kb ju pX with ⟨h,_,e⟩|⟨_,e⟩|⟨h,_,e⟩
    ·exact .inl ⟨j,h,e⟩
    ·exact .inr e
    ·exact .inl ⟨j-1,h,e⟩)
   exact ⟨r8.1,Aq,r8.2⟩
  ·have:=hC.rr j hj
   unfold qB at this ⊢;rcases this with h|⟨h1,h2⟩
   ·exact .inl h
   ·refine .inr ⟨h1,?_⟩;simp only [dz,aN];rw [List.any_eq_true] at h2 ⊢;obtain ⟨x,hx,K4⟩:=h2;rw [← List.take_append_drop (dT s.aa[i] a) s.aa[i].ab,List.mem_append] at hx;refine ⟨x,?_,K4⟩;simp only [List.mem_append];rcases hx with hx|hx
    ·exact .inl (.inl hx)
    ·exact .inr hx
 ·obtain ⟨j,hj,rfl⟩:=List.getElem_of_mem hc;have hJ:=(hM.each j hj).may;refine ⟨hJ.lay,hJ.names,by simp only;rw [Bl];exact hJ.a8,fun k hk => ?_,hJ.rr⟩;have hS:=hJ.aH k hk;refine ⟨((xS _ hc _ (List.getElem_mem hk)).2.1).trans hS.live,hS.next,?_⟩;obtain ⟨out,ho⟩:=hS.chain;exact ⟨out,hold _ hc hJ _ (List.getElem_mem hk) out ho⟩
 ·simp only;refine IB hi (p:=dT s.aa[i] a) (a:=a) ?_ (kJ.1 fun j hj=>(hM.each j hj).aH) ?_
  ·simp only [tG,dz,aN,List.map_append,List.map_cons,List.map_nil,List.map_take,List.map_drop,List.append_assoc,List.singleton_append]
  ·intro ke;unfold aS at ke;obtain ⟨c,hc,hx⟩:=List.mem_flatMap.1 ke;obtain ⟨x,hx,e⟩:=List.mem_map.1 hx;exact (xS c hc x hx).1 e
open Go.RowKit
theorem ED {α:Type} {p : α → Bool} {l:List α} {k:Nat} (h:idxOf p l=(k:Int)) : ∃ hk:k<l.length,p l[k]=true:=by
 unfold idxOf at h;split at h
 ·rename_i ha;have h1:l.findIdx p<l.length:=List.findIdx_lt_length_of_exists (by simpa using ha)
  have e:l.findIdx p=k:=by omega
  subst e;exact ⟨h1,List.findIdx_getElem (w:=h1)⟩
 ·omega
theorem EE {c:aF} {cpu k:Nat} (lT:cpu<c.ar.length) (h:k6 c cpu=(k:Int)) : ∃ hk:k<c.ab.length,0<c.ab[k].aj∧(c.ab[k].At=c.ar[cpu]∨c.ab[k].At∉c.ar):=by
 unfold k6 at h;split at h
 ·rename_i ho;rw [h] at ho;have h':=h;unfold zK at h';obtain ⟨hk,hp⟩:=ED h';have e:iV c (k:Int).toNat=c.ab[k]:=by simp only [Int.toNat_natCast];exact ew hk
  rw [e] at ho;refine ⟨hk,ho.2,.inl ?_⟩;have:=of_decide_eq_true hp
  rw [this];simp [List.getD,List.getElem?_eq_getElem lT]
 ·obtain ⟨hk,hp⟩:=ED h;unfold tL at hp;simp only [Bool.and_eq_true,decide_eq_true_eq,Bool.not_eq_true',decide_eq_false_iff_not] at hp;exact ⟨hk,hp.1,.inr hp.2⟩
theorem yM {x o:Int} (o1 : 0≤o) (o2:o≤4) (x1 : 0≤x) (x2:x<256) (h3:x % pw o=0) : x+pw o≤256:=by
 rcases dU o1 o2 with ⟨e1,e2⟩|⟨e1,e2⟩|⟨e1,e2⟩|⟨e1,e2⟩|⟨e1,e2⟩<;>rw [e2] at h3 ⊢<;>omega
theorem DE {s:ag} (hM:a9 s) {i:Nat} (hi:i<s.aa.length) {cpu:Int} {u:Heap×Int×Int} (hu:ct s.Heap cpu s.aa[i].Order 0 u) (u0:u.2.2=0) : gi s.Words.length (16*u.2.1) s.aa[i].aE s.aa[i].bG:=by
 have hC:=(hM.each i hi).may;have hl:=db hC.lay;have OV:=lg hC.lay;have lP:=hu.at_ u0;obtain ⟨hm,Bl,⟨ty,si,I1⟩,KY⟩:=hu.from_ u0;have ue:=hu.may u0
 have OW:(⟨u.2.1,s.aa[i].Order,ty⟩ : Block)∈u.1.Live:=by
  rw [I1];simp only [dK,aN];simp
 obtain ⟨l1,l2,l3,_⟩:=ue.live.all _ OW;have hr:=yM l1.1 l1.2 l2.1 (show u.2.1<256 by omega) l3;have hw:=hM.words;have UW:pw 0=1:=by decide
 have UX:pw 1=2:=by decide
 have UY:pw 2=4:=by decide
 obtain ⟨p,hp⟩ : ∃ p,s.aa[i].bG*s.aa[i].aE=p:=⟨_,rfl⟩;unfold gi;rw [Int.mul_comm s.aa[i].aE,hp];rw [hp] at OV;rw [hw];simp only at hr;rcases OV with ⟨e,h⟩|⟨e,h⟩|⟨e,h⟩<;>rw [e] at hr<;>omega
theorem xa {h:Heap} {cpu o:Int} {u:Heap×Int×Int} (hm:bp h) (hc : 0≤cpu∧cpu<h.bw) (ho : 0≤o∧o≤4) (a:ct h cpu o 0 u) : u.2.2=0∨u.2.2=6:=by
 cases a with
 | bad hb=>rw [cG.2 hm] at hb;cases hb
 | range _ hr=>exact absurd ⟨hc,ho⟩ hr
 | form _ _ ht=>exact absurd ht (by decide)
 | once=>exact .inl rfl
 | fA=>exact .inl rfl
 | room=>exact .inr rfl
theorem om.qw {s:ag} {n:ByteArray} {cpu:Int} {u:ag×Int×Int} (hI:eY s) (h:om s n cpu u) (ha:lJ s n cpu=0) : (u.2.2=0∧eY u.1)∨u.2.2=6:=by
 have hM:=hI.may;have vN:=h.small hI.dW;obtain ⟨_,_,qa⟩:=rF ha;cases h with
 | ask h=>exact absurd ha h
 | @KI i m _ e hi hm =>
   have hC:=(hM.each i hi).may;have hl:=db hC.lay;have lT:cpu.toNat<s.aa[i].ar.length:=by have:=hC.a8;omega
   cases hm with
   | @uM k hp =>
     left;obtain ⟨hk,hf,hA⟩:=EE lT hp;have:=BY hM hi lT hk hf hA
     refine ⟨rfl,?_⟩
     have e:(k7 s i cpu.toNat (some ⟨s.Words,s.Heap,s.aa[i],k⟩,0)).1=⟨s.Words,s.Heap,s.aa.set i (dp s.aa[i] cpu.toNat k (s.Words.getD s.aa[i].ab[k].cr.toNat 0))⟩:=by
      simp only [k7,bV,kU,ew hk]
     rw [e] at vN ⊢;exact ⟨pf this vN,this⟩
   | @room v hp hv he =>
     right;have:=xa hM.heap (cpu:=(cpu.toNat:Int)) (by omega) (by omega) hv
     rcases this with h|h
     ·exact absurd h he
     ·exact h
   | @chain v hp hv he MU=>exact absurd (DE hM hi hv he) MU
   | @new v hp hv he MU =>
     left;refine ⟨rfl,?_⟩;have hG:=B0 hM hi hv he MU;have ju:=mi s.aa[i] v.2.1;have lP:=hv.at_ he;obtain ⟨_,_,_,KY⟩:=hv.from_ he
     have hk:dT s.aa[i] v.2.1<(dz s.aa[i] v.2.1).ab.length:=by
      simp only [dz];rw [cf _ ju];omega
     have ID:(dz s.aa[i] v.2.1).ab[dT s.aa[i] v.2.1]=⟨v.2.1,s.aa[i].bG,16*v.2.1⟩:=by
      have:=jN ju (x:=(⟨v.2.1,s.aa[i].bG,16*v.2.1⟩ : Slab))
      obtain ⟨_,e⟩:=List.getElem?_eq_some_iff.1 this;exact e
     have key:∀ (c:aF) (ec:c=dz s.aa[i] v.2.1) (t:ag) (ht:a9 t) (Gl:i<t.aa.length) (IE:t.aa[i]=c) (r8:dT s.aa[i] v.2.1<c.ab.length),a9 ⟨t.Words,t.Heap,t.aa.set i (dp c cpu.toNat (dT s.aa[i] v.2.1) (t.Words.getD c.ab[dT s.aa[i] v.2.1].cr.toNat 0))⟩:=fun c ec t ht Gl IE r8=>by
      subst IE
      have e2:t.aa[i].ab[dT s.aa[i] v.2.1]=⟨v.2.1,s.aa[i].bG,16*v.2.1⟩:=by
       have:∀ (d:aF) (hd:d=dz s.aa[i] v.2.1) (hq:dT s.aa[i] v.2.1<d.ab.length),d.ab[dT s.aa[i] v.2.1]=⟨v.2.1,s.aa[i].bG,16*v.2.1⟩:=fun d hd hq=>by subst hd;exact ID
       exact this _ ec r8
      have OY:t.aa[i].ar=s.aa[i].ar:=by rw [ec];rfl
      refine BY ht Gl (by rw [OY];exact lT) r8 (by rw [e2];simp only;omega) (.inr ?_);rw [e2,OY];intro ke;obtain ⟨q,hq,eq⟩:=List.getElem_of_mem ke;have uj:=hC.rr q hq;unfold qB at uj;rw [eq] at uj;rcases uj with h|⟨_,h⟩
      ·simp only at h;omega
      ·obtain ⟨x,hx,K4⟩:=List.any_eq_true.1 h;obtain ⟨b,hb,eb⟩:=mY hM (List.getElem_mem hi) hx;exact KY b hb (by rw [eb];exact of_decide_eq_true K4)
     have hT:=key _ rfl _ hG (by simp only [List.length_set];exact hi) (by simp) hk
     have e:(k7 s i cpu.toNat (some ⟨er s.Words (16*v.2.1) s.aa[i].aE s.aa[i].bG,v.1,dz s.aa[i] v.2.1,dT s.aa[i] v.2.1⟩,0)).1=⟨er s.Words (16*v.2.1) s.aa[i].aE s.aa[i].bG,v.1,(s.aa.set i (dz s.aa[i] v.2.1)).set i (dp (dz s.aa[i] v.2.1) cpu.toNat (dT s.aa[i] v.2.1) ((er s.Words (16*v.2.1) s.aa[i].aE s.aa[i].bG).getD (dz s.aa[i] v.2.1).ab[dT s.aa[i] v.2.1].cr.toNat 0))⟩:=by
      simp only [k7,bV,kU,ew hk,List.set_set]
     rw [e] at vN ⊢;exact ⟨pf hT vN,hT⟩
open Go.RowKit
theorem DF {size g7 t:Int} (hs : 1≤size) {l:List Int} (hn:l.Nodup) (h:∀ a∈l,iJ size g7 t a=true) : (l.length:Int)≤g7∨l=[]:=by
 rcases List.eq_nil_or_concat l with e|⟨i,x,e⟩
 ·exact .inr e
 ·left
  have hq:∀ a,iJ size g7 t a=true → ∃ q:Nat,(q:Int)<g7∧a=16*t+q*size:=fun a ha=>by
   unfold iJ at ha;simp only [Bool.and_eq_true,decide_eq_true_eq] at ha;obtain ⟨⟨e1,e2⟩,e3⟩:=ha;have h1:(a-t*16) / size<g7:=Int.ediv_lt_of_lt_mul (by omega) e2
   have h2 : 0≤(a-t*16) / size:=Int.ediv_nonneg e1 (by omega)
   have h3:=Int.mul_ediv_add_emod (a-t*16) size;obtain ⟨k,hk⟩:=Int.eq_ofNat_of_zero_le h2;rw [hk] at h1 h3;rw [e3,Int.mul_comm] at h3;exact ⟨k,h1,by omega⟩
  have hf:∀ (q:Nat),((16*t+q*size-16*t) / size).toNat=q:=fun q=>by
   rw [show 16*t+q*size-16*t=q*size by omega,Int.mul_ediv_cancel _ (by omega)];simp
  have h1:=xY (f:=fun a=>((a-16*t) / size).toNat) hn (fun a ha b hb e=>by
   obtain ⟨q,_,rfl⟩:=hq a (h a ha);obtain ⟨r,_,rfl⟩:=hq b (h b hb);simp only [hf] at e;rw [e])
  have h2:=v7 g7.toNat _ h1 (fun x hx=>by
   obtain ⟨a,ha,rfl⟩:=List.mem_map.1 hx;obtain ⟨q,G3,rfl⟩:=hq a (h a ha);simp only [hf];omega)
  rw [List.length_map] at h2;obtain ⟨q,G3,_⟩:=hq x (h x (by rw [e];simp));omega
theorem tT {s:ag} (hM:a9 s) {i j:Nat} (hi:i<s.aa.length) (jm:j<i) {x y:Slab} (hx:x∈(s.aa[j]'(by omega)).ab) (hy:y∈s.aa[i].ab) : x.At≠y.At:=fun e=>by
 obtain ⟨q,hq,rfl⟩:=List.getElem_of_mem hy;refine (hM.each i hi).aH q hq (List.mem_append_left _ ?_);unfold aS;rw [List.mem_flatMap];exact ⟨s.aa[j]'(by omega),List.mem_take_iff_getElem.2 ⟨j,by omega,rfl⟩,List.mem_map.2 ⟨x,hx,e⟩⟩
theorem th {s:ag} (hM:a9 s) {i j:Nat} (hj:j<s.aa.length) (hi:i<s.aa.length) (bW:j≠i) {x y:Slab} (hx:x∈s.aa[j].ab) (hy:y∈s.aa[i].ab) : x.At≠y.At:=by
 rcases Nat.lt_or_gt_of_ne bW with h|h
 ·exact tT hM hi h hx hy
 ·exact fun e=>tT hM hj h hy hx e.symm
theorem Kd {s:ag} (hM:a9 s) {i k:Nat} (hi:i<s.aa.length) (hk:k<s.aa[i].ab.length) {a:Int} {out:List Int} (DG:iJ s.aa[i].aE s.aa[i].bG s.aa[i].ab[k].At a=true) (ho:cm s.Words s.aa[i].aE s.aa[i].bG s.aa[i].ab[k] out) (m9:a∉out) : (0≤a∧a<4096) ∧
 (∀ c∈s.aa,dP s c → ∀ x∈c.ab,x.At≠s.aa[i].ab[k].At → ∀ o,cm s.Words c.aE c.bG x o→cm (s.Words.set a.toNat s.aa[i].ab[k].cr) c.aE c.bG x o) ∧
 cm (s.Words.set a.toNat s.aa[i].ab[k].cr) s.aa[i].aE s.aa[i].bG ⟨s.aa[i].ab[k].At,s.aa[i].ab[k].aj+1,a⟩ (a::out):=by
 have hC:=(hM.each i hi).may;have hl:=db hC.lay;have Kc:s.aa[i]∈s.aa:=List.getElem_mem hi
 have Gz:s.aa[i].ab[k]∈s.aa[i].ab:=List.getElem_mem hk
 have sU : 0≤s.aa[i].bG:=by omega
 obtain ⟨b0,IT,Nk,Rq⟩:=kI hM Kc Gz;obtain ⟨l1,l2,l3,_⟩:=hM.heap.live.all b0 IT;have UZ:=yM l1.1 l1.2 l2.1 (show b0.At<256 by omega) l3;rw [Nk,Rq] at UZ;rw [Nk] at l2;obtain ⟨r1,r2⟩:=lq hC.lay DG;have ha : 0≤a∧a<4096:=by omega
 obtain ⟨an,rfl⟩:=Int.eq_ofNat_of_zero_le ha.1;have OI:an<s.Words.length:=by rw [hM.words];omega
 have MV:∀ c∈s.aa,∀ x∈c.ab,x.At≠s.aa[i].ab[k].At → ∀ b:Int,16*x.At≤b→b<16*(x.At+pw c.Order)→0≤b→(s.Words.set an s.aa[i].ab[k].cr)[b.toNat]?=s.Words[b.toNat]?:=fun c hc x hx bW b h1 h2 h0=>by
  obtain ⟨b1,aI,e1,e2⟩:=kI hM hc hx;have:=nW hM.heap aI IT (by rw [e1,Nk];exact bW)
  rw [e1,e2,Nk,Rq] at this;rw [List.getElem?_set_ne (by omega)]
 have qe:∀ c∈s.aa,dP s c → ∀ x∈c.ab,x.At≠s.aa[i].ab[k].At → ∀ o,cm s.Words c.aE c.bG x o→cm (s.Words.set an s.aa[i].ab[k].cr) c.aE c.bG x o:=fun c hc Rp x hx bW o h =>
  yL (t:=⟨s.Words.set an s.aa[i].ab[k].cr,s.Heap,[]⟩) hM hc hx Rp.lay h (MV c hc x hx bW)
 simp only [Int.ofNat_eq_natCast,Int.toNat_natCast] at *;obtain ⟨k1,k2,k3,k4,k5⟩:=(gx sU).1 ho;have OZ:((an:Int)::out).Nodup:=List.nodup_cons.2 ⟨m9,k2⟩
 have fk:∀ b∈(an:Int)::out,iJ s.aa[i].aE s.aa[i].bG s.aa[i].ab[k].At b=true:=fun b hb=>by
  rcases List.mem_cons.1 hb with rfl|hb
  ·exact DG
  ·exact k5 b hb
 have MW:=DF (by omega) OZ fk
 have hlen:(((an:Int)::out).length:Int)≤s.aa[i].bG:=by
  rcases MW with h|h
  ·exact h
  ·simp at h
 refine ⟨ha,qe,(gx sU).2 ⟨?_,OZ,hlen,?_,fk⟩⟩
 ·refine .cons (by rw [List.length_set];exact OI) ?_;rw [List.getElem_set_self];refine k1.congr fun b hb h0 => ?_
  rw [List.getElem?_set_ne];intro e;exact m9 (by rw [e,Int.toNat_of_nonneg h0];exact hb)
 ·simp only [List.length_cons];omega
theorem EF {s:ag} (hM:a9 s) {i k:Nat} (hi:i<s.aa.length) (hk:k<s.aa[i].ab.length) {a:Int} {out:List Int} (DG:iJ s.aa[i].aE s.aa[i].bG s.aa[i].ab[k].At a=true) (ho:cm s.Words s.aa[i].aE s.aa[i].bG s.aa[i].ab[k] out) (m9:a∉out) :
 a9 ⟨s.Words.set a.toNat s.aa[i].ab[k].cr,s.Heap,s.aa.set i (fu s.aa[i] k s.aa[i].ab[k] a)⟩:=by
 have hC:=(hM.each i hi).may;have Kc:s.aa[i]∈s.aa:=List.getElem_mem hi
 have Gz:s.aa[i].ab[k]∈s.aa[i].ab:=List.getElem_mem hk
 obtain ⟨ha,qe,iS⟩:=Kd hM hi hk DG ho m9;obtain ⟨an,rfl⟩:=Int.eq_ofNat_of_zero_le ha.1;have lP:tG (fu s.aa[i] k s.aa[i].ab[k] an)=tG s.aa[i]:=EC hk rfl
 have Rr:=kJ.1 fun j hj=>(hM.each j hj).aH
 simp only [Int.ofNat_eq_natCast,Int.toNat_natCast] at *;refine rY hM hi (by simp only [List.length_set];exact hM.words) hM.heap rfl rfl rfl ?_ (fun c hc Rs => ?_) (by simp only;rw [ph hi lP];exact Rr)
 ·refine ⟨hC.lay,hC.names,hC.a8,fun j hj => ?_,fun j hj => ?_⟩
  ·simp only [fu,List.length_set] at hj;have hS:=hC.aH j hj
   have MT:∀ (q:Nat) (hq:q<s.aa[i].ab.length),((fu s.aa[i] k s.aa[i].ab[k] an).ab[q]'(by simp only [fu,List.length_set];exact hq)).At=s.aa[i].ab[q].At:=fun q hq=>by
    simp only [fu,List.getElem_set];split
    ·rename_i e;subst e;rfl
    ·rfl
   refine ⟨by rw [MT j hj];exact hS.live,fun h0=>by rw [MT j hj,MT (j-1) (by omega)];exact hS.next h0,?_⟩;by_cases e:k=j
   ·subst e
    have es:(fu s.aa[i] k s.aa[i].ab[k] an).ab[k]'(by simp only [fu,List.length_set];exact hk)=⟨s.aa[i].ab[k].At,s.aa[i].ab[k].aj+1,an⟩:=by
     simp only [fu,List.getElem_set,if_true]
    rw [es];exact ⟨_,iS⟩
   ·obtain ⟨o,h⟩:=hS.chain
    have es:(fu s.aa[i] k s.aa[i].ab[k] an).ab[j]'(by simp only [fu,List.length_set];exact hj)=s.aa[i].ab[j]:=by
     simp only [fu,List.getElem_set,if_neg e]
    rw [es];refine ⟨o,qe _ Kc hC _ (List.getElem_mem hj) ?_ o h⟩;have F9:=mZ hC;rw [List.pairwise_iff_getElem] at F9;rcases Nat.lt_trichotomy j k with g|g|g
    ·have:=F9 j k hj hk g;omega
    ·exact absurd g.symm e
    ·have:=F9 k j hk hj g;omega
  ·have fJ:∀ z,(fu s.aa[i] k s.aa[i].ab[k] an).ab.any (xg z)=s.aa[i].ab.any (xg z):=fun z=>by
    have e1:∀ l:List Slab,l.any (xg z)=(l.map fun x=>x.At).any fun y=>decide (y=z):=fun l=>by rw [List.any_map];rfl
    rw [e1,e1];unfold tG at lP;rw [lP]
   have:=hC.rr j hj
   unfold qB at this ⊢;rw [fJ];exact this
 ·obtain ⟨j,hj,jm,rfl⟩:=Rs;have hJ:=(hM.each j hj).may;refine ⟨hJ.lay,hJ.names,hJ.a8,fun q hq => ?_,hJ.rr⟩;have hS:=hJ.aH q hq;refine ⟨hS.live,hS.next,?_⟩;obtain ⟨o,h⟩:=hS.chain;refine ⟨o,qe _ hc hJ _ (List.getElem_mem hq) (th hM hj hi jm (List.getElem_mem hq) Gz) o h⟩
open Go.RowKit
theorem IF {cs:List aF} {i:Nat} (hi:i<cs.length) {c':aF} (h:List.Sublist (tG c') (tG cs[i])) (hn:(aS cs).Nodup) : (aS (cs.set i c')).Nodup:=by
 have e1:cs=cs.take i++cs[i]::cs.drop (i+1):=by simp
 have e2:cs.set i c'=cs.take i++c'::cs.drop (i+1):=by rw [List.set_eq_take_append_cons_drop,if_pos hi]
 have f1:aS cs=aS (cs.take i)++(tG cs[i]++aS (cs.drop (i+1))):=by
  conv=>lhs;rw [e1]
  rw [cn,cn,cn,List.map_append,List.map_cons,List.flatten_append,List.flatten_cons]
 have f2:aS (cs.set i c')=aS (cs.take i)++(tG c'++aS (cs.drop (i+1))):=by
  rw [e2,cn,cn,cn,List.map_append,List.map_cons,List.flatten_append,List.flatten_cons]
 rw [f2];rw [f1] at hn;exact List.Nodup.sublist (List.Sublist.append (List.Sublist.refl _) (List.Sublist.append h (List.Sublist.refl _))) hn
theorem Ke {s:ag} (hM:a9 s) {i k:Nat} (hi:i<s.aa.length) (hk:k<s.aa[i].ab.length) (hA:s.aa[i].ab[k].At∉s.aa[i].ar) {cpu:Int} (qa : 0≤cpu∧cpu<s.Heap.bw) :
 (ga s.Heap cpu s.aa[i].ab[k].At).1=0∧a9 ⟨s.Words,(ga s.Heap cpu s.aa[i].ab[k].At).2,s.aa.set i (kw s.aa[i] k)⟩:=by
 have hC:=(hM.each i hi).may;have hm:=hM.heap;have Kc:s.aa[i]∈s.aa:=List.getElem_mem hi
 have Gz:s.aa[i].ab[k]∈s.aa[i].ab:=List.getElem_mem hk
 obtain ⟨b0,IT,Nk,Rq⟩:=kI hM Kc Gz
 have hf:br s.Heap.Live s.aa[i].ab[k].At=true:=by
  obtain ⟨q,hq,rfl⟩:=List.getElem_of_mem IT;exact (qA (jO hm.live) hq Nk).2
 have SN:=nB (cG.2 hm) qa hf;have ue:=yG hm qa hf;obtain ⟨p1,p2,p3⟩:=nU (cpu:=cpu) hm hf;refine ⟨by rw [SN],?_⟩;rw [SN]
 have su:∀ x:Int,x≠s.aa[i].ab[k].At→mM (ic s.Heap cpu s.aa[i].ab[k].At).Live x=mM s.Heap.Live x:=fun x hx=>by
  refine qM hm.live ue.live fun y hy => ?_
  rw [p2,nV hm.live hf];exact ⟨fun h=>⟨h,by rw [hy];exact hx⟩,fun h=>h.1⟩
 have F9:=mZ hC
 have bW:∀ (q:Nat) (hq:q<s.aa[i].ab.length),q≠k→s.aa[i].ab[q].At≠s.aa[i].ab[k].At:=fun q hq Rt=>by
  have:=F9
  rw [List.pairwise_iff_getElem] at this;rcases Nat.lt_or_gt_of_ne Rt with g|g
  ·have:=this q k hq hk g;omega
  ·have:=this k q hk hq g;omega
 have Rr:=kJ.1 fun j hj=>(hM.each j hj).aH
 refine rY hM hi hM.words ue rfl rfl rfl ?_ (fun c hc Rs => ?_) ?_
 ·refine ⟨hC.lay,hC.names,by simp only [kw];rw [p1];exact hC.a8,fun j hj => ?_,fun j hj => ?_⟩
  ·have pX:j<(s.aa[i].ab.eraseIdx k).length:=hj
   have O0:(s.aa[i].ab.eraseIdx k).Pairwise fun x y=>x.At<y.At:=List.Pairwise.sublist (List.eraseIdx_sublist _ _) F9
   have Aq : 0<j→((s.aa[i].ab.eraseIdx k)[j-1]'(by omega)).At<((s.aa[i].ab.eraseIdx k)[j]'pX).At:=fun h0=>by
    rw [List.pairwise_iff_getElem] at O0;exact O0 (j-1) j (by omega) pX (by omega)
   have ke:(s.aa[i].ab.eraseIdx k)[j]'pX∈s.aa[i].ab.eraseIdx k:=List.getElem_mem pX
   obtain ⟨q,hq,Rt,eq⟩:=List.mem_eraseIdx_iff_getElem.1 ke
   have key:∀ y:Slab,y=s.aa[i].ab[q]→mM (ic s.Heap cpu s.aa[i].ab[k].At).Live y.At=s.aa[i].Order ∧ ∃ out,cm s.Words s.aa[i].aE s.aa[i].bG y out:=fun y ey=>by
    subst ey;have hS:=hC.aH q hq;exact ⟨(su _ (bW q hq Rt)).trans hS.live,hS.chain⟩
   have r8:=key _ eq.symm;exact ⟨r8.1,Aq,r8.2⟩
  ·have:=hC.rr j hj
   unfold qB at this ⊢;rcases this with h|⟨h1,h2⟩
   ·exact .inl h
   ·refine .inr ⟨h1,?_⟩;rw [List.any_eq_true] at h2 ⊢;obtain ⟨x,hx,K4⟩:=h2;obtain ⟨q,hq,rfl⟩:=List.getElem_of_mem hx;refine ⟨s.aa[i].ab[q],?_,K4⟩;simp only [kw];rw [List.mem_eraseIdx_iff_getElem];refine ⟨q,hq,fun e => ?_,rfl⟩;subst e;have e1:=of_decide_eq_true K4;exact hA (by rw [e1];exact List.getElem_mem hj)
 ·obtain ⟨j,hj,jm,rfl⟩:=Rs;have hJ:=(hM.each j hj).may;refine ⟨hJ.lay,hJ.names,by simp only;rw [p1];exact hJ.a8,fun q hq => ?_,hJ.rr⟩;have hS:=hJ.aH q hq;exact ⟨(su _ (th hM hj hi jm (List.getElem_mem hq) Gz)).trans hS.live,hS.next,hS.chain⟩
 ·simp only;refine IF hi ?_ Rr;unfold tG kw;exact List.Sublist.map _ (List.eraseIdx_sublist _ _)
open Go.RowKit
theorem IG {s:ag} {a:Int} {i k:Nat} (h:eg s a ((i:Int),(k:Int),0)) : ∃ (hF:jR s a i k) (out:List Int),cm s.Words (s.aa[i]'hF.hi).aE (s.aa[i]'hF.hi).bG ((s.aa[i]'hF.hi).ab[k]'hF.hk) out∧a∉out:=by
 have key:∀ u,eg s a u→u=((i:Int),(k:Int),0) → ∃ (hF:jR s a i k) (out:List Int),cm s.Words (s.aa[i]'hF.hi).aE (s.aa[i]'hF.hi).bG ((s.aa[i]'hF.hi).ab[k]'hF.hk) out∧a∉out:=fun u hu e=>by
  cases hu with
  | bad|none|free=>simp at e
  | @hit i' k' out h hF hC hm =>
    simp only [Prod.mk.injEq,Int.natCast_inj] at e;obtain ⟨rfl,rfl,_⟩:=e;exact ⟨hF,out,hC,hm⟩
 exact key _ h rfl
theorem rG.qw {s:ag} {n:ByteArray} {cpu a:Int} {u:ag×Int} (hI:eY s) (h:rG s n cpu a u) (h0:u.2=0) : eY u.1:=by
 have hM:=hI.may;have vN:=h.small hI.dW;cases h with
 | ask h=>exact absurd h0 h
 | none=>simp at h0
 | @put i k h hF e hi hk =>
   obtain ⟨_,_,qa⟩:=rF h;obtain ⟨Pn,out,hC,m9⟩:=IG hF;have DG:=Pn.obj;rw [rD hi hk] at DG;have hP:=EF hM hi hk DG hC m9
   refine ⟨pf ?_ vN,?_⟩<;>(
    unfold qD;split
    ·rename_i hc;rw [Bool.and_eq_true] at hc;have O1:=hc.1;unfold kZ at O1;simp only [Bool.and_eq_true,Bool.not_eq_true',decide_eq_false_iff_not] at O1
     have key:∀ (t:ag) (ht:a9 t) (Gl:i<t.aa.length) (c1:aF) (IE:t.aa[i]=c1) (ec:c1=fu s.aa[i] k s.aa[i].ab[k] a) (eh:t.Heap=s.Heap),a9 ⟨t.Words,(ga t.Heap cpu s.aa[i].ab[k].At).2,t.aa.set i (kw c1 k)⟩:=fun t ht Gl c1 IE ec eh=>by
      subst IE;have Cb:k<t.aa[i].ab.length:=by rw [ec];simp only [fu,List.length_set];exact hk
      have SO:t.aa[i].ab[k].At=s.aa[i].ab[k].At:=by
       have:∀ (d:aF) (hd:d=fu s.aa[i] k s.aa[i].ab[k] a) (hq:k<d.ab.length),d.ab[k].At=s.aa[i].ab[k].At:=fun d hd hq=>by subst hd;simp [fu]
       exact this _ ec Cb
      have:=(Ke ht Gl Cb (by rw [SO,ec];exact O1.2) (cpu:=cpu) (by rw [eh];exact qa)).2
      rw [SO] at this;exact this
     have:=key _ hP (by simp only [List.length_set];exact hi) _ (by simp) rfl rfl
     simp only [List.set_set] at this;exact this
    ·exact hP)
theorem om.O2 {s:ag} {n:ByteArray} {cpu:Int} {u:ag×Int×Int} (hI:eY s) (h:om s n cpu u) (h0:u.2.2=0) : eY u.1:=by
 have h':=h;cases h with
 | ask h=>exact absurd h0 h
 | KI h =>
   rcases h'.qw hI h with h|h
   ·exact h.2
   ·omega
theorem EG {s:ag} (hI:eY s) {cpu o fl:Int} {u:Heap×Int×Int} (h:ct s.Heap cpu o fl u) (he:u.2.2=0) : eY (qE s u.1):=by
 have:=zX (a:=⟨1,cpu,o,0,0,fl,⟨#[]⟩⟩) rfl s _ hI (nO.bM rfl h)
 simp only [uU,if_pos he] at this;exact this
theorem jY {a:jy} (hk:a.Kind=8) : s8 eY a:=fun s u hI h=>by
 cases h with
 | @lh u hk h =>
   by_cases he:u.2.2=0
   ·simp only [uU,if_pos he];cases h with
    | bad|range|size=>simp at he
    | obj _ _ ho=>exact ho.O2 hI he
    | fault _ _ _ h=>exact absurd he h
    | bM _ _ ha h0=>exact EG hI ha h0
   ·simp only [uU,if_neg he];exact hI
 | bM j6|BA j6|drain j6|rQ j6|rR j6=>omega
theorem eE {a:jy} (hk:a.Kind=9) : s8 eY a:=fun s u hI h=>by
 cases h with
 | @rQ u hk h =>
   by_cases he:u.2=0
   ·simp only [uU,if_pos he];cases h with
    | bad|range|no=>simp at he
    | obj _ _ _ _ hp=>exact hp.qw hI he
    | whole _ hc _ hw =>
      obtain ⟨hf,h0,hm⟩:=iv hw;have e:a.At=a.At / 16*16:=by omega
      rw [nB (cG.2 hI.may.heap) hc hf];exact Iz hI hc (by rw [← e];exact hw)
   ·simp only [uU,if_neg he];exact hI
 | bM j6|BA j6|drain j6|lh j6|rR j6=>omega
open Go.RowKit
theorem IH {s:ag} (hM:a9 s) {i j k q:Nat} (hi:i<s.aa.length) (hj:j<s.aa.length) (hk:k<s.aa[i].ab.length) (hq:q<s.aa[j].ab.length) (bW : ¬ (i=j∧k=q)) {a:Int}
 (h1:iJ s.aa[i].aE s.aa[i].bG s.aa[i].ab[k].At a=true) (h2:iJ s.aa[j].aE s.aa[j].bG s.aa[j].ab[q].At a=true) : False:=by
 have SP:=(hM.each i hi).may;have U0:=(hM.each j hj).may
 have lP:s.aa[i].ab[k].At≠s.aa[j].ab[q].At:=by
  by_cases e:i=j
  ·subst e;have F9:=mZ SP;rw [List.pairwise_iff_getElem] at F9;rcases Nat.lt_trichotomy k q with g|g|g
   ·have:=F9 k q hk hq g;omega
   ·exact absurd ⟨rfl,g⟩ bW
   ·have:=F9 q k hq hk g;omega
  ·exact th hM hi hj e (List.getElem_mem hk) (List.getElem_mem hq)
 obtain ⟨b1,aI,e1,e2⟩:=kI hM (List.getElem_mem hi) (List.getElem_mem hk);obtain ⟨b2,aD,e3,e4⟩:=kI hM (List.getElem_mem hj) (List.getElem_mem hq);have h3:=nW hM.heap aI aD (by rw [e1,e3];exact lP);rw [e1,e2,e3,e4] at h3;obtain ⟨r1,r2⟩:=lq SP.lay h1;obtain ⟨r3,r4⟩:=lq U0.lay h2;omega
theorem yN {s:ag} (hM:a9 s) {i k:Nat} (hi:i<s.aa.length) (hk:k<s.aa[i].ab.length) {a:Int} (h:iJ s.aa[i].aE s.aa[i].bG s.aa[i].ab[k].At a=true) : jR s a i k:=by
 refine ⟨hi,hk,by rw [rD hi hk];exact h,fun i' k' dL => ?_⟩;cases e:lI s a i' k' with
 | false=>rfl
 | true =>
   exfalso;unfold lI at e;split at e
   ·rename_i h1;split at e
    ·rename_i h2;exact IH hM hi h1 hk h2 (by omega) h e
    ·cases e
   ·cases e
theorem EH {s:ag} (hM:a9 s) {i k:Nat} (hi:i<s.aa.length) (hk:k<s.aa[i].ab.length) {a:Int} (h:iJ s.aa[i].aE s.aa[i].bG s.aa[i].ab[k].At a=true) {out:List Int} (hC:cm s.Words s.aa[i].aE s.aa[i].bG s.aa[i].ab[k] out) :
 (a∈out→eg s a (0,0,4))∧(a∉out→eg s a ((i:Int),(k:Int),0)) :=
 ⟨fun hm => .free (jP hM) (yN hM hi hk h) hC hm,fun hm => .hit (jP hM) (yN hM hi hk h) hC hm⟩
theorem DH {s:ag} {c:aF} (hc:c∈s.aa) {x:Slab} (hx:x∈c.ab) {a:Int} (h:a / 16=x.At) : ca s a=false:=by
 have:kv s (a / 16)=true:=by
  unfold kv;rw [List.any_eq_true];refine ⟨c,hc,?_⟩;unfold qf;rw [List.any_eq_true];exact ⟨x,hx,decide_eq_true h.symm⟩
 unfold ca;rw [this];simp
open Go.RowKit
structure qp (s:ag) (i k:Nat) (a:Int) : Prop where
 hi:i<s.aa.length
 hk:k<s.aa[i].ab.length
 obj:iJ s.aa[i].aE s.aa[i].bG s.aa[i].ab[k].At a=true
 off:∃ out,cm s.Words s.aa[i].aE s.aa[i].bG s.aa[i].ab[k] out∧a∉out
theorem qp.find {s:ag} {i k:Nat} {a:Int} (h:qp s i k a) (hM:a9 s) : eg s a ((i:Int),(k:Int),0):=by
 obtain ⟨out,hC,m9⟩:=h.off;exact (EH hM h.hi h.hk h.obj hC).2 m9
theorem yO {s:ag} (hM:a9 s) {i cpu k:Nat} (hi:i<s.aa.length) (hk:k<s.aa[i].ab.length) (hf : 0<s.aa[i].ab[k].aj) :
 qp ⟨s.Words,s.Heap,s.aa.set i (dp s.aa[i] cpu k (s.Words.getD s.aa[i].ab[k].cr.toNat 0))⟩ i k s.aa[i].ab[k].cr:=by
 have hC:=(hM.each i hi).may;have hl:=db hC.lay;have sU : 0≤s.aa[i].bG:=by omega
 obtain ⟨out,ho⟩:=(hC.aH k hk).chain;obtain ⟨k1,k2,k3,k4,k5⟩:=(gx sU).1 ho;obtain ⟨q,rest,e1,e2,hq,e3⟩:=k1.head (fun e=>by rw [e] at k4;simp at k4;omega)
 have ev:s.Words.getD s.aa[i].ab[k].cr.toNat 0=s.Words[q]:=by
  rw [e1];simp [List.getD,List.getElem?_eq_getElem hq]
 rw [e2] at k2 k3 k4 k5;simp only [List.length_cons] at k3 k4
 have key:∀ (c:aF) (ec:c=dp s.aa[i] cpu k (s.Words.getD s.aa[i].ab[k].cr.toNat 0)),∃ h:k<c.ab.length,iJ c.aE c.bG c.ab[k].At s.aa[i].ab[k].cr=true ∧ ∃ o,cm s.Words c.aE c.bG c.ab[k] o∧s.aa[i].ab[k].cr∉o:=fun c ec=>by
  subst ec
  have es:(dp s.aa[i] cpu k (s.Words.getD s.aa[i].ab[k].cr.toNat 0)).ab[k]'(by simp only [dp,List.length_set];exact hk)=⟨s.aa[i].ab[k].At,s.aa[i].ab[k].aj-1,s.Words[q]⟩:=by
   simp only [dp,List.getElem_set,if_true,ew hk,ev]
  refine ⟨by simp only [dp,List.length_set];exact hk,?_,rest,?_,(List.nodup_cons.1 k2).1⟩
  ·rw [es];exact k5 _ (by simp)
  ·rw [es];exact (gx (x:=⟨s.aa[i].ab[k].At,s.aa[i].ab[k].aj-1,s.Words[q]⟩) sU).2 ⟨e3,(List.nodup_cons.1 k2).2,by omega,by simp only;omega,fun a ha=>k5 a (by simp [ha])⟩
 have r6:i<(s.aa.set i (dp s.aa[i] cpu k (s.Words.getD s.aa[i].ab[k].cr.toNat 0))).length:=by rw [List.length_set];exact hi
 obtain ⟨h1,h2,h3⟩:=key _ (List.getElem_set_self (l:=s.aa) (i:=i) r6);exact ⟨r6,h1,h2,h3⟩
theorem B1 {c:aF} {cpu k:Nat} (lT:cpu<c.ar.length) (hk:k<c.ab.length) (v:Int) : (dp c cpu k v).ab[k]?=some ⟨(iV c k).At,(iV c k).aj-1,v⟩:=by
 simp only [dp];exact List.getElem?_set_self hk
theorem om.pQ {s:ag} {n:ByteArray} {cpu:Int} {u:ag×Int×Int} (hI:eY s) (h:om s n cpu u) (h0:u.2.2=0) : ∃ i k:Nat,idxOf (gD n) s.aa=(i:Int)∧qp u.1 i k u.2.1∧(∃ c x,u.1.aa[i]?=some c∧c.ab[k]?=some x∧x.At∈c.ar)∧u.1.Heap.bw=s.Heap.bw∧u.1.aa.map (fun c=>c.Names)=s.aa.map fun c=>c.Names:=by
 have hM:=hI.may
 have Hd:∀ (i:Nat) (c':aF) (hi:i<s.aa.length),c'.Names=s.aa[i].Names→(s.aa.set i c').map (fun c=>c.Names)=s.aa.map fun c=>c.Names:=fun i c' hi e=>by
  rw [List.map_set];refine List.ext_getElem (by simp) fun j g1 g2 => ?_
  rw [List.getElem_set];split
  ·rename_i e2;subst e2;rw [e];simp
  ·rfl
 cases h with
 | ask h=>exact absurd h0 h
 | @KI i m ha e hi hm =>
   obtain ⟨_,_,qa⟩:=rF ha;have hC:=(hM.each i hi).may;have hl:=db hC.lay;have lT:cpu.toNat<s.aa[i].ar.length:=by have:=hC.a8;omega
   cases hm with
   | room _ _ he=>exact absurd h0 he
   | chain=>simp [k7] at h0
   | @uM k hp =>
     obtain ⟨hk,hf,hA⟩:=EE lT hp;have hT:=yO (cpu:=cpu.toNat) hM hi hk hf;refine ⟨i,k,e,?_,⟨_,_,List.getElem?_set_self hi,B1 lT hk _,?_⟩,rfl,?_⟩
     ·simp only [k7,bV,kU,ew hk];exact hT
     ·simp only [dp];exact List.mem_set lT _
     ·simp only [k7,bV,kU];exact Hd i _ hi rfl
   | @new v hp hv he MU =>
     have hG:=B0 hM hi hv he MU;have ju:=mi s.aa[i] v.2.1
     have hk:dT s.aa[i] v.2.1<(dz s.aa[i] v.2.1).ab.length:=by
      simp only [dz];rw [cf _ ju];omega
     have ID:(dz s.aa[i] v.2.1).ab[dT s.aa[i] v.2.1]=⟨v.2.1,s.aa[i].bG,16*v.2.1⟩:=by
      have:=jN ju (x:=(⟨v.2.1,s.aa[i].bG,16*v.2.1⟩ : Slab))
      obtain ⟨_,e⟩:=List.getElem?_eq_some_iff.1 this;exact e
     have key:∀ (t:ag) (ht:a9 t) (Gl:i<t.aa.length) (c:aF) (IE:t.aa[i]=c) (ec:c=dz s.aa[i] v.2.1) (r8:dT s.aa[i] v.2.1<c.ab.length),qp ⟨t.Words,t.Heap,t.aa.set i (dp c cpu.toNat (dT s.aa[i] v.2.1) (t.Words.getD c.ab[dT s.aa[i] v.2.1].cr.toNat 0))⟩ i (dT s.aa[i] v.2.1) c.ab[dT s.aa[i] v.2.1].cr:=fun t ht Gl c IE ec r8=>by
      subst IE;have e2:∀ (d:aF) (hd:d=dz s.aa[i] v.2.1) (hq:dT s.aa[i] v.2.1<d.ab.length),0<d.ab[dT s.aa[i] v.2.1].aj:=fun d hd hq=>by subst hd;rw [ID];simp only;omega
      exact yO ht Gl r8 (e2 _ ec r8)
     have hT:=key _ hG (by simp only [List.length_set];exact hi) _ (by simp) rfl hk;simp only [List.set_set] at hT;refine ⟨i,dT s.aa[i] v.2.1,e,?_,⟨_,_,List.getElem?_set_self hi,B1 (c:=dz s.aa[i] v.2.1) (cpu:=cpu.toNat) lT hk _,?_⟩,(hv.from_ he).2.1,?_⟩
     ·simp only [k7,bV,kU,ew hk];exact hT
     ·simp only [dp];exact List.mem_set (l:=(dz s.aa[i] v.2.1).ar) lT _
     ·simp only [k7,bV,kU];exact Hd i _ hi rfl
open Go.RowKit
theorem DI {s:ag} (hM:a9 s) {i:Nat} (hi:i<s.aa.length) {n:ByteArray} (hn:n∈s.aa[i].Names) : idxOf (gD n) s.aa=(i:Int):=by
 refine lm hi (iR.2 hn) fun j hj jm => ?_
 cases e:gD n s.aa[j] with
 | false=>rfl
 | true =>
   exfalso;have hm:=iR.1 e;obtain ⟨q,hq,rfl⟩:=List.getElem_of_mem hn;refine ((hM.each i hi).names.each q hq).2.1 (List.mem_append_left _ ?_);unfold cT;rw [List.mem_flatMap];exact ⟨s.aa[j],List.mem_take_iff_getElem.2 ⟨j,by omega,rfl⟩,hm⟩
theorem DJ {s:ag} (hI:eY s) {i k:Nat} {a q:Int} (hA:qp s i k a) (B2:oV (s.aa[i]'hA.hi)=true) (hq:gb s q) {w:ag×Int} (h:ki s q a w) : w.2=0∧rG s (rH (s.aa[i]'hA.hi)) q a w∧idxOf (gD (rH (s.aa[i]'hA.hi))) s.aa=(i:Int):=by
 have hM:=hI.may;have hF:=hA.find hM;have hi:=hA.hi;have hO:=ol.yes hF hi B2;cases h with
 | bad h=>rw [jP hM] at h;cases h
 | range _ h=>exact absurd hq h
 | no _ _ ho=>cases ho.ir hO
 | whole _ _ ho=>cases ho.ir hO
 | @obj i' _ _ _ r6 ho hp =>
   have e:=ho.ir hO;simp only [Option.some.injEq] at e;subst e;have h3:=(hM.each i' r6).may.names;have hn:rH s.aa[i']∈s.aa[i'].Names:=by simp [rH,h3]
   have Kf:=DI hM r6 hn;refine ⟨?_,hp,Kf⟩;cases hp with
   | ask h =>
     exfalso;refine h (C6 (jP hM) ?_ hq);rw [List.any_eq_true];exact ⟨_,List.getElem_mem r6,iR.2 hn⟩
   | none _ Ad bW =>
     exfalso;rw [Ad.ir hF] at bW;exact bW ⟨rfl,Kf.symm⟩
   | put=>rfl
open Go.RowKit
theorem yP {s:ag} (hM:a9 s) {i k:Nat} (hi:i<s.aa.length) (hk:k<s.aa[i].ab.length) {a:Int} (h:iJ s.aa[i].aE s.aa[i].bG s.aa[i].ab[k].At a=true) : ca s a=false:=by
 cases e:ca s a with
 | false=>rfl
 | true =>
   exfalso;obtain ⟨hf,h0,U1⟩:=iv e;have hC:=(hM.each i hi).may;obtain ⟨r1,r2⟩:=lq hC.lay h;by_cases lP:a / 16=s.aa[i].ab[k].At
   ·rw [DH (List.getElem_mem hi) (List.getElem_mem hk) lP] at e;cases e
   ·obtain ⟨hq,eq⟩:=ib hf;obtain ⟨b,hb,e1,e2⟩:=kI hM (List.getElem_mem hi) (List.getElem_mem hk);have hl:=(hM.heap.live.all _ (List.getElem_mem hq));have hp:=bT hl.1.1 hl.1.2;have:=nW hM.heap (List.getElem_mem hq) hb (by rw [eq,e1];exact lP)
    rw [eq,e1,e2] at this;omega
theorem Ga {s:ag} (hM:a9 s) {i k:Nat} (hi:i<s.aa.length) (hk:k<s.aa[i].ab.length) {a:Int} (h:iJ s.aa[i].aE s.aa[i].bG s.aa[i].ab[k].At a=true) (hf:s.aa[i].ab[k].cr=a) (h0 : 0<s.aa[i].ab[k].aj) : eg s a (0,0,4):=by
 have hC:=(hM.each i hi).may;have hl:=db hC.lay;obtain ⟨out,ho⟩:=(hC.aH k hk).chain;obtain ⟨k1,k2,k3,k4,k5⟩:=(gx (by omega)).1 ho;obtain ⟨q,rest,e1,e2,_⟩:=k1.head (fun e=>by rw [e] at k4;simp at k4;omega);refine (EH hM hi hk h ho).1 ?_;rw [e2,hf];simp
theorem ti {s:ag} {a:Int} (h:eg s a (0,0,4)) : ol s a none := .no h fun i hi h0=>by simp at h0
theorem II {s:ag} (hI:eY s) {i k:Nat} {a q:Int} {n:ByteArray} (hA:qp s i k a) (uj:((s.aa[i]'hA.hi).ab[k]'hA.hk).At∈(s.aa[i]'hA.hi).ar) (hn:idxOf (gD n) s.aa=(i:Int)) {w:ag×Int} (h:rG s n q a w) (h0:w.2=0) :
 (eg w.1 a (0,0,4)∧ca w.1 a=false)∧w.1.Heap=s.Heap:=by
 have hM:=hI.may;have hF:=hA.find hM;cases h with
 | ask h=>exact absurd h0 h
 | none=>simp at h0
 | @put i' k' h Ad e hi hk =>
   have e2:=Ad.ir hF;simp only [Prod.mk.injEq,Int.natCast_inj] at e2;obtain ⟨rfl,rfl,_⟩:=e2;obtain ⟨out,hC,m9⟩:=hA.off;have hP:=EF hM hi hk hA.obj hC m9
   have O1:kZ (fu s.aa[i'] k' s.aa[i'].ab[k'] a) ⟨s.aa[i'].ab[k'].At,s.aa[i'].ab[k'].aj+1,a⟩=false:=by
    unfold kZ;have:decide (s.aa[i'].ab[k'].At∈(fu s.aa[i'] k' s.aa[i'].ab[k'] a).ar)=true:=decide_eq_true uj
    simp only [this];simp
   have ep:qD s s.aa[i'] k' s.aa[i'].ab[k'] q a=(s.Heap,fu s.aa[i'] k' s.aa[i'].ab[k'] a):=by
    unfold qD;rw [O1];simp
   rw [ep];obtain ⟨U2,jv⟩:=((hM.each i' hi).may.aH k' hk).chain;have jC : 0≤s.aa[i'].ab[k'].aj:=by have:=jv.2.1;omega
   have key:∀ (t:ag) (ht:a9 t) (Gl:i'<t.aa.length) (IE:t.aa[i']=fu s.aa[i'] k' s.aa[i'].ab[k'] a),eg t a (0,0,4)∧ca t a=false:=fun t ht Gl IE=>by
    have hq:∀ (c:aF) (ec:c=fu s.aa[i'] k' s.aa[i'].ab[k'] a),∃ r8:k'<c.ab.length,iJ c.aE c.bG c.ab[k'].At a=true∧c.ab[k'].cr=a∧0<c.ab[k'].aj:=fun c ec=>by
     subst ec
     have es:(fu s.aa[i'] k' s.aa[i'].ab[k'] a).ab[k']'(by simp only [fu,List.length_set];exact hk)=⟨s.aa[i'].ab[k'].At,s.aa[i'].ab[k'].aj+1,a⟩:=by
      simp only [fu,List.getElem_set,if_true]
     refine ⟨by simp only [fu,List.length_set];exact hk,?_,?_,?_⟩
     ·rw [es];exact hA.obj
     ·rw [es]
     ·rw [es];simp only;omega
    obtain ⟨r8,o1,o2,o3⟩:=hq _ IE;exact ⟨Ga ht Gl r8 o1 o2 o3,yP ht Gl r8 o1⟩
   exact ⟨key _ hP (by simp only [bV,C7,List.length_set];exact hi) (by simp [bV,C7]),rfl⟩
open Go.RowKit
theorem B3 {s:ag} (hI:eY s) {a q:Int} (hF:eg s a (0,0,4)) (hw:ca s a=false) {w:ag×Int} (h:ki s q a w) : (gb s q→w.2=4)∧(¬ gb s q→w.2=1):=by
 have hO:=ti hF;cases h with
 | bad h=>rw [jP hI.may] at h;cases h
 | range _ h=>exact ⟨fun h'=>absurd h' h,fun _=>rfl⟩
 | no _ hc=>exact ⟨fun _=>rfl,fun h=>absurd hc h⟩
 | whole _ _ _ h=>rw [hw] at h;cases h
 | obj _ _ _ ho=>cases ho.ir hO
theorem DK {s:ag} (hI:eY s) {p q o:Int} (ho : 0≤o∧o≤4) {u:Heap×Int×Int} (hu:ct s.Heap p o 0 u) (u0:u.2.2=0) (hq:gb s q) : eY (qE s u.1)∧ca (qE s u.1) (16*u.2.1)=true:=by
 have hA:=EG hI hu u0;refine ⟨hA,?_⟩;have lP:=hu.at_ u0;obtain ⟨hm,Bl,⟨ty,_,I1⟩,KY⟩:=hu.from_ u0;have ue:=hu.may u0
 have hb:(⟨u.2.1,o,ty⟩ : Block)∈u.1.Live:=by
  rw [I1];simp only [dK,aN];simp
 have hf:br u.1.Live u.2.1=true:=by
  obtain ⟨k,hk,ek⟩:=List.getElem_of_mem hb;exact (qA (jO ue.live) hk (by rw [ek])).2
 have hs:kv (qE s u.1) u.2.1=false:=by
  cases e:kv (qE s u.1) u.2.1 with
  | false=>rfl
  | true =>
    exfalso;unfold kv at e;obtain ⟨c,hc,hx⟩:=List.any_eq_true.1 e;obtain ⟨x,hx,K4⟩:=List.any_eq_true.1 hx;obtain ⟨b,hb,eb⟩:=mY hI.may hc hx;exact KY b hb (by rw [eb];exact of_decide_eq_true K4)
 unfold ca;rw [show 16*u.2.1 / 16=u.2.1 by omega,hs,decide_eq_true (by omega)];simpa [qE] using hf
theorem IJ {s:ag} (hI:eY s) {i k:Nat} {a q:Int} (hA:qp s i k a) (uj:∃ c x,s.aa[i]?=some c∧c.ab[k]?=some x∧x.At∈c.ar) (B2:oV (s.aa[i]'hA.hi)=true) (hq:gb s q) {w:ag×Int} (h:ki s q a w) :
 w.2=0∧eY w.1∧w.1.Heap.bw=s.Heap.bw∧eg w.1 a (0,0,4)∧ca w.1 a=false:=by
 obtain ⟨h0,hp,Kf⟩:=DJ hI hA B2 hq h;obtain ⟨c,x,e1,e2,e3⟩:=uj;obtain ⟨_,rfl⟩:=List.getElem?_eq_some_iff.1 e1;obtain ⟨_,rfl⟩:=List.getElem?_eq_some_iff.1 e2;obtain ⟨⟨f1,f2⟩,f3⟩:=II hI hA e3 Kf hp h0;exact ⟨h0,hp.qw hI h0,by rw [f3],f1,f2⟩
theorem B4 {s:ag} {a:Int} (hM:a9 s) (hw:ca s a=true) : ∀ i k,lI s a i k=false:=fun i k=>by
 cases e:lI s a i k with
 | false=>rfl
 | true =>
   exfalso;unfold lI at e;split at e
   ·rename_i h1;split at e
    ·rename_i h2;rw [yP hM h1 h2 e] at hw;cases hw
    ·cases e
   ·cases e
theorem DL {s:ag} (hI:eY s) {a q:Int} (hw:ca s a=true) (hq:gb s q) {w:ag×Int} (h:ki s q a w) : w.2=0∧eY w.1∧w.1.Heap.bw=s.Heap.bw∧eg w.1 a (0,0,4)∧ca w.1 a=false:=by
 have hM:=hI.may;have m9:=B4 hM hw;have hF:eg s a (0,0,4) := .none (jP hM) m9
 have hO:=ti hF;cases h with
 | bad h=>rw [jP hM] at h;cases h
 | range _ h=>exact absurd hq h
 | no _ _ _ h=>rw [hw] at h;cases h
 | obj _ _ _ ho=>cases ho.ir hO
 | whole =>
   obtain ⟨hf,h0,U1⟩:=iv hw;have e:a=a / 16*16:=by omega
   have hm:=hM.heap;have hG:=Iz hI hq (a:=a / 16) (by rw [← e];exact hw);obtain ⟨p1,p2,p3⟩:=nU (cpu:=q) hm hf;rw [nB (cG.2 hm) hq hf];refine ⟨rfl,hG,p1,.none (jP hG.may) m9,?_⟩
   have Ov:br (ic s.Heap q (a / 16)).Live (a / 16)=false:=vQ fun k hk lP=>by
    have ke:(ic s.Heap q (a / 16)).Live[k]∈s.Heap.Live.eraseIdx (bi s.Heap.Live (a / 16)):=by rw [← p2];exact List.getElem_mem hk
    exact ((nV hm.live hf).1 ke).2 lP
   unfold ca;have:br (qE s (ic s.Heap q (a / 16))).Heap.Live (a / 16)=false:=Ov
   rw [this];simp
open Go.RowKit
theorem IK {n:Int} (h:n≤32) : ∃ j,j<6∧jQ n=kh (kP j):=by
 unfold jQ;split
 ·exact ⟨0,by omega,rfl⟩
 split
 ·exact ⟨1,by omega,rfl⟩
 split
 ·exact ⟨2,by omega,rfl⟩
 split
 ·exact ⟨3,by omega,rfl⟩
 split
 ·exact ⟨4,by omega,rfl⟩
 exact ⟨5,by omega,rfl⟩
theorem EI (n:Int) : 0≤zO n∧zO n≤4:=by
 unfold zO;repeat' split
 all_goals omega
theorem qp.range {s:ag} {i k:Nat} {a:Int} (h:qp s i k a) (hM:a9 s) : 0≤a∧a≤100000:=by
 have hC:=(hM.each i h.hi).may;obtain ⟨r1,r2⟩:=lq hC.lay h.obj;obtain ⟨b,hb,e1,e2⟩:=kI hM (List.getElem_mem h.hi) (List.getElem_mem h.hk);have l:=hM.heap.live.all b hb;have lp:=bT l.1.1 l.1.2;rw [e2] at lp;have:=l.2.1
 omega
theorem IL {s:ag} (hI:eY s) {sU:Heap} (f:lM sU 6 s) {n p q:Int} (hn : 1≤n∧n≤100) (hp:gb s p) (hq:gb s q) {u:ag×Int×Int} (hu:fG s p n u) :
 (u.2.2=0∨u.2.2=6)∧(u.2.2=0→eY u.1∧u.1.Heap.bw=s.Heap.bw∧(0≤u.2.1∧u.2.1≤100000) ∧ ∀ w,ki u.1 q u.2.1 w→w.2=0∧eY w.1∧w.1.Heap.bw=s.Heap.bw∧eg w.1 u.2.1 (0,0,4)∧ca w.1 u.2.1=false):=by
 cases hu with
 | bad h=>rw [jP hI.may] at h;cases h
 | range _ h=>omega
 | size _ h=>omega
 | fault _ h ha he =>
   refine ⟨?_,fun h=>absurd h he⟩;exact xa hI.may.heap hp (EI n) ha
 | bM _ h ha he =>
   refine ⟨.inl rfl,fun _ => ?_⟩;obtain ⟨g1,g2⟩:=DK hI (EI n) ha he hq;have hc:(qE s _).Heap.bw=s.Heap.bw:=(ha.from_ he).2.1
   have lP:=ha.at_ he;refine ⟨g1,hc,by simp only;omega,fun w hw => ?_⟩;obtain ⟨a1,a2,a3,a4,a5⟩:=DL g1 g2 (by unfold gb at hq ⊢;rw [hc];exact hq) hw;exact ⟨a1,a2,a3.trans hc,a4,a5⟩
 | obj _ h ho =>
   obtain ⟨j,hj,ej⟩:=IK h.2
   have fJ:s.aa.any (gD (jQ n))=true:=by
    rw [List.any_eq_true];refine ⟨eB _ j,by rw [f.bR];exact List.mem_map.2 ⟨j,by simpa using hj,rfl⟩,iR.2 ?_⟩;rw [ej];simp [eB]
   have Ru:=C6 (jP hI.may) fJ hp;rcases ho.qw hI Ru with ⟨h0,hK⟩|h6
   ·refine ⟨.inl h0,fun _ => ?_⟩;obtain ⟨i,k,e1,hA,uj,qa,Hd⟩:=ho.pQ hI h0;refine ⟨hK,qa,hA.range hK.may,fun w hw => ?_⟩;have hi:=hA.hi
    have B2:oV (u.1.aa[i]'hA.hi)=true:=by
     have hlen:u.1.aa.length=s.aa.length:=by simpa using congrArg List.length Hd
     have L5:i<s.aa.length:=by omega
     have e2:(u.1.aa[i]'hA.hi).Names=s.aa[i].Names:=by
      have:(u.1.aa.map fun c=>c.Names)[i]'(by simpa using hi)=(s.aa.map fun c=>c.Names)[i]'(by simpa using L5):=by congr 1
      simpa using this
     have Qy:i<6:=by rw [f.bR] at L5;simpa using L5
     have e3:s.aa[i]=eB sU i:=by
      have:s.aa[i]=((List.range 6).map (eB sU))[i]'(by simpa using Qy):=by congr 1;exact f.bR
      rw [this];simp
     unfold oV;rw [List.any_eq_true];refine ⟨kP i,(En Qy).1,iR.2 ?_⟩;rw [e2,e3];simp [eB]
    obtain ⟨a1,a2,a3,a4,a5⟩:=IJ hK hA uj B2 (by unfold gb at hq ⊢;rw [qa];exact hq) hw;exact ⟨a1,a2,a3.trans qa,a4,a5⟩
   ·exact ⟨.inr h6,fun h=>by omega⟩
open Go.RowKit
def pU (p n:Int) : jy:=⟨8,p,n,0,0,0,⟨#[]⟩⟩
def jZ (q a:Int) : jy:=⟨9,q,0,0,a,0,⟨#[]⟩⟩
def tj (a:Int) : jy:=⟨10,0,0,0,a,0,⟨#[]⟩⟩
theorem yQ {p n:Int} {s:ag} {w:ag×mw} (h:nO s (pU p n) w) : ∃ u,fG s p n u∧w=(uU u.2.2 s u.1,⟨u.2.2,u.2.1,[]⟩):=by
 cases h with
 | lh hk h=>exact ⟨_,h,rfl⟩
 | bM hk|BA hk|drain hk|rQ hk|rR hk=>exact absurd hk (by simp [pU])
theorem tm {q a:Int} {s:ag} {w:ag×mw} (h:nO s (jZ q a) w) : ∃ u,ki s q a u∧w=(uU u.2 s u.1,⟨u.2,0,[]⟩):=by
 cases h with
 | rQ hk h=>exact ⟨_,h,rfl⟩
 | bM hk|BA hk|drain hk|lh hk|rR hk=>exact absurd hk (by simp [jZ])
theorem Gb {a:Int} {s:ag} {w:ag×mw} (h:nO s (tj a) w) : ∃ u,oZ s a u∧w=(s,⟨u.2,u.1,[]⟩):=by
 cases h with
 | rR hk h=>exact ⟨_,h,rfl⟩
 | bM hk|BA hk|drain hk|lh hk|rQ hk=>exact absurd hk (by simp [tj])
theorem nX {a:jy} (hk:a.Kind=10) : s8 eY a:=fun s u hI h=>by
 cases h with
 | rR=>exact hI
 | bM j6|BA j6|drain j6|lh j6|rQ j6=>omega
theorem my.one {s t:ag} {a:jy} {xs:List mw} (h:my s [a] xs t) : ∃ u,nO s a u∧xs=[u.2]∧t=u.1:=by
 obtain ⟨ys,m,u,h1,h2,rfl,rfl⟩:=my.BB (l:=[]) h;generalize e:([] : List jy)=l at h1
 cases h1 with
 | nil=>exact ⟨u,h2,rfl,rfl⟩
 | snoc=>simp at e
theorem IM {s:ag} (hI:eY s) {a:Int} (hF:eg s a (0,0,4)) (hw:ca s a=false) {w:Int×Int} (h:oZ s a w) : w.2=4:=by
 have hO:=ti hF;cases h with
 | bad h=>rw [jP hI.may] at h;cases h
 | no=>rfl
 | whole _ _ h=>rw [hw] at h;cases h
 | obj _ _ ho=>cases ho.ir hO
theorem K9 (s t:ag) : uU 0 s t=t:=rfl
theorem O3 {e:Int} (h:e≠0) (s t:ag) : uU e s t=s:=by unfold uU;rw [if_neg h]
theorem Gc {s:ag} (hI:eY s) {sU:Heap} (f:lM sU 6 s) {n p q:Int} (hn : 1≤n∧n≤100) (hp:gb s p) (hq:gb s q) (h4:s.Heap.bw=4) {xs:List mw} {t:ag} (h:my s [pU p n] xs t) :
 ∃ x,xs=[x]∧(x.Code=0∨x.Code=6)∧(x.Code=0→(0≤x.N∧x.N≤100000) ∧ ∀ ys t',my s [pU p n,jZ q x.N,tj x.N,jZ p x.N,jZ 4 x.N] ys t' →
  ∃ y0 y1 y2 y3 y4,ys=[y0,y1,y2,y3,y4]∧y1.Code=0∧y2.Code=4∧y3.Code=4∧y4.Code=1):=by
 obtain ⟨w,hw,rfl,_⟩:=h.one
 obtain ⟨u,hu,rfl⟩:=yQ hw
 obtain ⟨k1,k2⟩:=IL hI f hn hp hq hu
 refine ⟨_,rfl,k1,fun h0 => ?_⟩
 simp only at h0
 obtain ⟨V1,V2,hb,jC⟩:=k2 h0
 refine ⟨hb,fun ys t' hr => ?_⟩
 simp only at hr
 obtain ⟨V3,m4,w4,U3,a4,rfl,_⟩:=my.BB (l:=[pU p n,jZ q u.2.1,tj u.2.1,jZ p u.2.1]) (a:=jZ 4 u.2.1) hr
 obtain ⟨V4,m3,w3,U4,a3,rfl,rfl⟩:=my.BB (l:=[pU p n,jZ q u.2.1,tj u.2.1]) (a:=jZ p u.2.1) U3
 obtain ⟨V5,m2,w2,ub,a2,rfl,rfl⟩:=my.BB (l:=[pU p n,jZ q u.2.1]) (a:=tj u.2.1) U4
 obtain ⟨V6,m1,w1,U5,a1,rfl,rfl⟩:=my.BB (l:=[pU p n]) (a:=jZ q u.2.1) ub
 obtain ⟨w0,a0,rfl,rfl⟩:=U5.one
 obtain ⟨u0,U6,rfl⟩:=yQ a0
 obtain rfl:=U6.ir hu
 simp only [h0,K9] at a1
 obtain ⟨v1,U7,rfl⟩:=tm a1
 obtain ⟨f1,f2,f3,f4,f5⟩:=jC v1 U7
 simp only [f1,K9] at a2
 obtain ⟨v2,NH,rfl⟩:=Gb a2
 have g2:=IM f2 f4 f5 NH
 simp only at a3
 obtain ⟨v3,U8,rfl⟩:=tm a3
 have g3:=(B3 f2 f4 f5 U8).1 (by unfold gb at hp ⊢;rw [f3];exact hp)
 simp only [O3 (show v3.2≠0 by omega)] at a4
 obtain ⟨v4,U9,rfl⟩:=tm a4
 have g4:=(B3 f2 f4 f5 U9).2 (by unfold gb;rw [f3,h4];omega)
 exact ⟨_,_,_,_,_,rfl,f1,g2,g3,g4⟩
end Go.Proofs.YtbidkghlpijecaaGreatDoor
